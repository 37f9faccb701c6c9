/- The translation with caches answers as its model. Conditions: those in each statement. -/
import Derived.Test.YtfiddfbagbaofaaGO
import Derived.Test.YtfiddfbagbaofaaV3
import Derived.KernelRfl
namespace Go.Proofs.Ytfiddfbagbaofaa.V
open Go
abbrev Bx := Int × Int
/-- The caches within their block, as it lies at number b. -/
def chA (x : Bx) (b : Nat) (I D P : Tl) : List Av := [.v (.int .i64 x.1), .v (.int .u64 x.2)] ++ (tlA I.1 I.2.1 (b + 1) I.2.2.length ++ (tlA D.1 D.2.1 (b + 2) D.2.2.length ++ tlA P.1 P.2.1 (b + 3) P.2.2.length))
def chH (x : Bx) (b : Nat) (I D P : Tl) : Heap := [.fix (chA x b I D P) true (some 121), .arr shE I.2.2 true, .arr shE D.2.2 true, .arr shE P.2.2 true]
def getH (b : Nat) : Heap → Option (Bx × (Nat × Nat × Nat) × Tl × Tl × Tl)
  | [.fix [.v (.int .i64 x0), .v (.int .u64 x1), .v (.int .i64 s1), .v (.int .i64 w1), .sl i1 6 0 n1, .v (.int .i64 s2), .v (.int .i64 w2), .sl i2 6 0 n2, .v (.int .i64 s3), .v (.int .i64 w3), .sl i3 6 0 n3] true (some 121), .arr h1 m1 true, .arr h2 m2 true, .arr h3 m3 true] =>
    if i1 = b + 1 ∧ i2 = b + 2 ∧ i3 = b + 3 then (if e1 : h1 = shE then (if e2 : h2 = shE then (if e3 : h3 = shE then some ((x0, x1), (n1, n2, n3), (s1, w1, (e1 ▸ m1 : List (El shE))), (s2, w2, (e2 ▸ m2 : List (El shE))), (s3, w3, (e3 ▸ m3 : List (El shE)))) else none) else none) else none) else none
  | _ => none
def lensM (I D P : Tl) : Nat × Nat × Nat := (I.2.2.length, D.2.2.length, P.2.2.length)
abbrev Cch := Tl × Tl × Tl
def insT (t : Tl) (e : En) (pick : Int) : Tl := (t.1, t.2.1, insMs t.2.2 t.1 t.2.1 e pick)
/-- The entry that is kept of a table entry. -/
def entM (l va satp p : Int) : En := (true, l, tagM va l, asidM satp, bitM p 5, p)
def putIL (x : Bx) (I D P : Tl) (e : En) (pick : Int) : LoopS where
  α := Int
  I z := -1 ≤ z ∧ z ≤ I.2.1 - 1
  sl z := slots 58 [(0, .ptr 0 2), (4, .ptr 4 0), (6, .v (.int .i64 (fromM I.1 I.2.1 e.2.2.1))), (7, .v (.int .i64 (freeM I.2.2 (fromM I.1 I.2.1 e.2.2.1) (pick.tmod I.2.1) (z + 1).toNat (I.2.1 - 1 - z).toNat))), (8, .v (.int .i64 z))]
  H _ := chH x 0 I D P ++ [.fix (entA e) true (some 71)]
  fams := [{ β := Unit, out := fun _ _ => True, ex := .ext 0, sl := fun _ => slots 58 [(0, .ptr 0 2), (4, .ptr 4 0), (6, .v (.int .i64 (fromM I.1 I.2.1 e.2.2.1))), (7, .v (.int .i64 (wayM I.2.2 I.1 I.2.1 e.2.2.1 pick)))], H := fun _ => chH x 0 I D P ++ [.fix (entA e) true (some 71)] }]
def vc_putI_r (x0 x1 : Int) (s1 w1 : Int) (m1 : Es) (s2 w2 : Int) (m2 : Es) (s3 w3 : Int) (m3 : Es) (a : Bool) (b c d : Int) (g : Bool) (f : Int) (pick z : Int) : Prop := vcRound Try.prog FF4 (.one 4 (putIL (x0, x1) (s1, w1, m1) (s2, w2, m2) (s3, w3, m3) (a, b, c, d, g, f) pick)) 4 (loopAt Try.f131 0) (putIL (x0, x1) (s1, w1, m1) (s2, w2, m2) (s3, w3, m3) (a, b, c, d, g, f) pick) (fun z : Int => (z + 1).toNat) z
def vc_putI (x0 x1 : Int) (s1 w1 : Int) (m1 : Es) (s2 w2 : Int) (m2 : Es) (s3 w3 : Int) (m3 : Es) (a : Bool) (b c d : Int) (g : Bool) (f : Int) (pick : Int) : Prop := vcAt Try.prog FF4 (.one 4 (putIL (x0, x1) (s1, w1, m1) (s2, w2, m2) (s3, w3, m3) (a, b, c, d, g, f) pick)) Try.f131 [.ptr 0 2, .agg (entA (a, b, c, d, g, f)), .v (.int .i64 pick)] (chH (x0, x1) 0 (s1, w1, m1) (s2, w2, m2) (s3, w3, m3)) (.tup []) (chH (x0, x1) 0 (insT (s1, w1, m1) (a, b, c, d, g, f) pick) (s2, w2, m2) (s3, w3, m3))
def putIS : Sum := fun args H => match args with
  | [.ptr 0 2, .agg [.v (.bool a), .v (.int .i64 b), .v (.int .u64 c), .v (.int .u64 d), .v (.bool g), .v (.int .u64 f)], .v (.int .i64 pick)] => match getH 0 H with
    | some (x, n, I, D, P) => some (some (n = lensM I D P ∧ PutR I.1 I.2.1 I.2.2 (a, b, c, d, g, f) pick), .tup [], chH x 0 (insT I (a, b, c, d, g, f) pick) D P)
    | none => none
  | _ => none
def putDL (x : Bx) (I D P : Tl) (e : En) (pick : Int) : LoopS where
  α := Int
  I z := -1 ≤ z ∧ z ≤ D.2.1 - 1
  sl z := slots 58 [(0, .ptr 0 5), (4, .ptr 4 0), (6, .v (.int .i64 (fromM D.1 D.2.1 e.2.2.1))), (7, .v (.int .i64 (freeM D.2.2 (fromM D.1 D.2.1 e.2.2.1) (pick.tmod D.2.1) (z + 1).toNat (D.2.1 - 1 - z).toNat))), (8, .v (.int .i64 z))]
  H _ := chH x 0 I D P ++ [.fix (entA e) true (some 71)]
  fams := [{ β := Unit, out := fun _ _ => True, ex := .ext 0, sl := fun _ => slots 58 [(0, .ptr 0 5), (4, .ptr 4 0), (6, .v (.int .i64 (fromM D.1 D.2.1 e.2.2.1))), (7, .v (.int .i64 (wayM D.2.2 D.1 D.2.1 e.2.2.1 pick)))], H := fun _ => chH x 0 I D P ++ [.fix (entA e) true (some 71)] }]
def vc_putD_r (x0 x1 : Int) (s1 w1 : Int) (m1 : Es) (s2 w2 : Int) (m2 : Es) (s3 w3 : Int) (m3 : Es) (a : Bool) (b c d : Int) (g : Bool) (f : Int) (pick z : Int) : Prop := vcRound Try.prog FF4 (.one 4 (putDL (x0, x1) (s1, w1, m1) (s2, w2, m2) (s3, w3, m3) (a, b, c, d, g, f) pick)) 4 (loopAt Try.f131 0) (putDL (x0, x1) (s1, w1, m1) (s2, w2, m2) (s3, w3, m3) (a, b, c, d, g, f) pick) (fun z : Int => (z + 1).toNat) z
def vc_putD (x0 x1 : Int) (s1 w1 : Int) (m1 : Es) (s2 w2 : Int) (m2 : Es) (s3 w3 : Int) (m3 : Es) (a : Bool) (b c d : Int) (g : Bool) (f : Int) (pick : Int) : Prop := vcAt Try.prog FF4 (.one 4 (putDL (x0, x1) (s1, w1, m1) (s2, w2, m2) (s3, w3, m3) (a, b, c, d, g, f) pick)) Try.f131 [.ptr 0 5, .agg (entA (a, b, c, d, g, f)), .v (.int .i64 pick)] (chH (x0, x1) 0 (s1, w1, m1) (s2, w2, m2) (s3, w3, m3)) (.tup []) (chH (x0, x1) 0 (s1, w1, m1) (insT (s2, w2, m2) (a, b, c, d, g, f) pick) (s3, w3, m3))
def putDS : Sum := fun args H => match args with
  | [.ptr 0 5, .agg [.v (.bool a), .v (.int .i64 b), .v (.int .u64 c), .v (.int .u64 d), .v (.bool g), .v (.int .u64 f)], .v (.int .i64 pick)] => match getH 0 H with
    | some (x, n, I, D, P) => some (some (n = lensM I D P ∧ PutR D.1 D.2.1 D.2.2 (a, b, c, d, g, f) pick), .tup [], chH x 0 I (insT D (a, b, c, d, g, f) pick) P)
    | none => none
  | _ => none
def putPL (x : Bx) (I D P : Tl) (e : En) (pick : Int) : LoopS where
  α := Int
  I z := -1 ≤ z ∧ z ≤ P.2.1 - 1
  sl z := slots 58 [(0, .ptr 0 8), (4, .ptr 4 0), (6, .v (.int .i64 (fromM P.1 P.2.1 e.2.2.1))), (7, .v (.int .i64 (freeM P.2.2 (fromM P.1 P.2.1 e.2.2.1) (pick.tmod P.2.1) (z + 1).toNat (P.2.1 - 1 - z).toNat))), (8, .v (.int .i64 z))]
  H _ := chH x 0 I D P ++ [.fix (entA e) true (some 71)]
  fams := [{ β := Unit, out := fun _ _ => True, ex := .ext 0, sl := fun _ => slots 58 [(0, .ptr 0 8), (4, .ptr 4 0), (6, .v (.int .i64 (fromM P.1 P.2.1 e.2.2.1))), (7, .v (.int .i64 (wayM P.2.2 P.1 P.2.1 e.2.2.1 pick)))], H := fun _ => chH x 0 I D P ++ [.fix (entA e) true (some 71)] }]
def vc_putP_r (x0 x1 : Int) (s1 w1 : Int) (m1 : Es) (s2 w2 : Int) (m2 : Es) (s3 w3 : Int) (m3 : Es) (a : Bool) (b c d : Int) (g : Bool) (f : Int) (pick z : Int) : Prop := vcRound Try.prog FF4 (.one 4 (putPL (x0, x1) (s1, w1, m1) (s2, w2, m2) (s3, w3, m3) (a, b, c, d, g, f) pick)) 4 (loopAt Try.f131 0) (putPL (x0, x1) (s1, w1, m1) (s2, w2, m2) (s3, w3, m3) (a, b, c, d, g, f) pick) (fun z : Int => (z + 1).toNat) z
def vc_putP (x0 x1 : Int) (s1 w1 : Int) (m1 : Es) (s2 w2 : Int) (m2 : Es) (s3 w3 : Int) (m3 : Es) (a : Bool) (b c d : Int) (g : Bool) (f : Int) (pick : Int) : Prop := vcAt Try.prog FF4 (.one 4 (putPL (x0, x1) (s1, w1, m1) (s2, w2, m2) (s3, w3, m3) (a, b, c, d, g, f) pick)) Try.f131 [.ptr 0 8, .agg (entA (a, b, c, d, g, f)), .v (.int .i64 pick)] (chH (x0, x1) 0 (s1, w1, m1) (s2, w2, m2) (s3, w3, m3)) (.tup []) (chH (x0, x1) 0 (s1, w1, m1) (s2, w2, m2) (insT (s3, w3, m3) (a, b, c, d, g, f) pick))
def putPS : Sum := fun args H => match args with
  | [.ptr 0 8, .agg [.v (.bool a), .v (.int .i64 b), .v (.int .u64 c), .v (.int .u64 d), .v (.bool g), .v (.int .u64 f)], .v (.int .i64 pick)] => match getH 0 H with
    | some (x, n, I, D, P) => some (some (n = lensM I D P ∧ PutR P.1 P.2.1 P.2.2 (a, b, c, d, g, f) pick), .tup [], chH x 0 I D (insT P (a, b, c, d, g, f) pick))
    | none => none
  | _ => none
/-- One of the three. -/
def putXS : Sum := fun args H => match putIS args H with | some r => some r | none => (match putDS args H with | some r => some r | none => putPS args H)
def kX1 : Known := (131, putXS) :: (kK2 ++ kF4 ++ kE3 ++ kB3 ++ kA4)
def FX1 : Dict := mkD kX1 [] []
def cvA (va : Int) (c : Ct) (pick : Int) : Heap := [.fix [.v (.int .u64 va)] true (some 23), .fix [.v (.int .i64 c.1), .v (.bool c.2.1), .v (.bool c.2.2.1), .v (.int .u64 c.2.2.2)] true (some 86), .fix [.v (.int .i64 pick)] true (some 2)]
def getV : Heap → Option (Int × Ct × Int)
  | [.fix [.v (.int .u64 va)] true (some 23), .fix [.v (.int .i64 c0), .v (.bool c1), .v (.bool c2), .v (.int .u64 c3)] true (some 86), .fix [.v (.int .i64 pick)] true (some 2)] => some (va, (c0, c1, c2, c3), pick)
  | _ => none
/-- What keeping asks for. -/
def KeepR (t : Tl) (l va satp p pick : Int) : Prop := headM t.1 t.2.1 t.2.2 = true ∧ LvR l ∧ U64 va ∧ U64 satp ∧ U64 p ∧ 0 ≤ pick ∧ pick ≤ 255
def vc_keepI (x0 x1 : Int) (s1 w1 : Int) (m1 : Es) (s2 w2 : Int) (m2 : Es) (s3 w3 : Int) (m3 : Es) (va : Int) (c0 : Int) (c1 c2 : Bool) (c3 : Int) (pick l p : Int) : Prop := vcAt Try.prog FX1 .none Try.f207 [.ptr 0 2, .v (.int .i64 l), .v (.int .u64 p), .ptr 4 0, .ptr 5 0, .ptr 6 0] (chH (x0, x1) 0 (s1, w1, m1) (s2, w2, m2) (s3, w3, m3) ++ cvA va (c0, c1, c2, c3) pick) (.tup []) (chH (x0, x1) 0 (insT (s1, w1, m1) (entM l va c3 p) pick) (s2, w2, m2) (s3, w3, m3) ++ cvA va (c0, c1, c2, c3) pick)
def keepIS : Sum := fun args H => match args with
  | [.ptr 0 2, .v (.int .i64 l), .v (.int .u64 p), .ptr 4 0, .ptr 5 0, .ptr 6 0] => match getH 0 (H.take 4), getV (H.drop 4) with
    | some (x, n, I, D, P), some (va, c, pick) => some (some (n = lensM I D P ∧ KeepR I l va c.2.2.2 p pick), .tup [], chH x 0 (insT I (entM l va c.2.2.2 p) pick) D P ++ cvA va c pick)
    | _, _ => none
  | _ => none
def vc_keepD (x0 x1 : Int) (s1 w1 : Int) (m1 : Es) (s2 w2 : Int) (m2 : Es) (s3 w3 : Int) (m3 : Es) (va : Int) (c0 : Int) (c1 c2 : Bool) (c3 : Int) (pick l p : Int) : Prop := vcAt Try.prog FX1 .none Try.f207 [.ptr 0 5, .v (.int .i64 l), .v (.int .u64 p), .ptr 4 0, .ptr 5 0, .ptr 6 0] (chH (x0, x1) 0 (s1, w1, m1) (s2, w2, m2) (s3, w3, m3) ++ cvA va (c0, c1, c2, c3) pick) (.tup []) (chH (x0, x1) 0 (s1, w1, m1) (insT (s2, w2, m2) (entM l va c3 p) pick) (s3, w3, m3) ++ cvA va (c0, c1, c2, c3) pick)
def keepDS : Sum := fun args H => match args with
  | [.ptr 0 5, .v (.int .i64 l), .v (.int .u64 p), .ptr 4 0, .ptr 5 0, .ptr 6 0] => match getH 0 (H.take 4), getV (H.drop 4) with
    | some (x, n, I, D, P), some (va, c, pick) => some (some (n = lensM I D P ∧ KeepR D l va c.2.2.2 p pick), .tup [], chH x 0 I (insT D (entM l va c.2.2.2 p) pick) P ++ cvA va c pick)
    | _, _ => none
  | _ => none
def vc_keepP (x0 x1 : Int) (s1 w1 : Int) (m1 : Es) (s2 w2 : Int) (m2 : Es) (s3 w3 : Int) (m3 : Es) (va : Int) (c0 : Int) (c1 c2 : Bool) (c3 : Int) (pick l p : Int) : Prop := vcAt Try.prog FX1 .none Try.f207 [.ptr 0 8, .v (.int .i64 l), .v (.int .u64 p), .ptr 4 0, .ptr 5 0, .ptr 6 0] (chH (x0, x1) 0 (s1, w1, m1) (s2, w2, m2) (s3, w3, m3) ++ cvA va (c0, c1, c2, c3) pick) (.tup []) (chH (x0, x1) 0 (s1, w1, m1) (s2, w2, m2) (insT (s3, w3, m3) (entM l va c3 p) pick) ++ cvA va (c0, c1, c2, c3) pick)
def keepPS : Sum := fun args H => match args with
  | [.ptr 0 8, .v (.int .i64 l), .v (.int .u64 p), .ptr 4 0, .ptr 5 0, .ptr 6 0] => match getH 0 (H.take 4), getV (H.drop 4) with
    | some (x, n, I, D, P), some (va, c, pick) => some (some (n = lensM I D P ∧ KeepR P l va c.2.2.2 p pick), .tup [], chH x 0 I D (insT P (entM l va c.2.2.2 p) pick) ++ cvA va c pick)
    | _, _ => none
  | _ => none
def keepXS : Sum := fun args H => match keepIS args H with | some r => some r | none => (match keepDS args H with | some r => some r | none => keepPS args H)
def kX2 : Known := (207, keepXS) :: kX1
def FX2 : Dict := mkD kX2 [] []
def keepP (va satp pick : Int) (t : Tl) (r : Rc) : Tl := if kindM r.2.2 r.1 = 1 then insT t (entM r.1 va satp r.2.2) pick else t
def keepAll (va satp pick : Int) (t : Tl) (rs : Rs) : Tl := rs.foldl (keepP va satp pick) t
/-- The two boxes of the walk's function, at number b. -/
def fnH (x : Bx) (b : Nat) (va : Int) (c : Ct) (pick : Int) (I D P : Tl) : Heap := .fix [.fn 207 [.ptr (b + 1) 0, .ptr (b + 2) 0, .ptr (b + 3) 0]] true (some 260) :: (cvA va c pick ++ (.fix [.ptr (b + 5) 2] true (some 259) :: chH x (b + 5) I D P))
def getF (b : Nat) (H : Heap) : Option (Bx × (Nat × Nat × Nat) × (Int × Ct × Int) × Tl × Tl × Tl) := match H with
  | .fix [.fn 207 [.ptr i 0, .ptr j 0, .ptr k 0]] true (some 260) :: v1 :: v2 :: v3 :: .fix [.ptr l 2] true (some 259) :: H2 =>
    if i = b + 1 ∧ j = b + 2 ∧ k = b + 3 ∧ l = b + 5 then (match getH (b + 5) H2, getV [v1, v2, v3] with
      | some (x, n, I, D, P), some v => some (x, n, v, I, D, P)
      | _, _ => none) else none
  | _ => none
def vc_seen (x0 x1 : Int) (s1 w1 : Int) (m1 : Es) (s2 w2 : Int) (m2 : Es) (s3 w3 : Int) (m3 : Es) (va : Int) (c0 : Int) (c1 c2 : Bool) (c3 : Int) (pick r0 r1 r2 : Int) : Prop := vcAt Try.prog FX2 .none Try.f208 [.agg (rcA (r0, r1, r2)), .ptr 0 0, .ptr 4 0] (fnH (x0, x1) 0 va (c0, c1, c2, c3) pick (s1, w1, m1) (s2, w2, m2) (s3, w3, m3)) (.tup []) (fnH (x0, x1) 0 va (c0, c1, c2, c3) pick (s1, w1, m1) (s2, w2, m2) (keepP va c3 pick (s3, w3, m3) (r0, r1, r2)))
def seenS : Sum := fun args H => match args with
  | [.agg [.v (.int .i64 r0), .v (.int .u64 r1), .v (.int .u64 r2)], .ptr 0 0, .ptr 4 0] => match getF 0 H with
    | some (x, n, (va, c, pick), I, D, P) => some (some (n = lensM I D P ∧ KeepR P r0 va c.2.2.2 r2 pick), .tup [], fnH x 0 va c pick I D (keepP va c.2.2.2 pick P (r0, r1, r2)))
    | none => none
  | _ => none
def kX3 : Known := (208, seenS) :: kX2
def FX3 : Dict := mkD kX3 [] []
/-- Where the walk stands: at level l, in the table at page p, with the records xs; W is what the whole walk comes to. -/
def StC (m : By) (va : Int) (W : Wr) (l p : Int) (xs : Rs) : Prop := -1 ≤ l ∧ l ≤ 2 ∧ 0 ≤ p ∧ p < 17592186044416 ∧ W.1 = (walkN m va (l + 1).toNat p).1 ∧ W.2.1 = (walkN m va (l + 1).toNat p).2.1 ∧ W.2.2.1 = (walkN m va (l + 1).toNat p).2.2.1 ∧ W.2.2.2 = xs ++ (walkN m va (l + 1).toNat p).2.2.2
def wkH (x : Bx) (m : By) (va : Int) (c : Ct) (pick : Int) (I D P : Tl) : Heap := .arr [.i .u8] m false :: fnH x 1 va c pick I D P
def walkCL (x : Bx) (m : By) (va : Int) (c : Ct) (pick : Int) (I D P : Tl) (W : Wr) : LoopS where
  α := Int × Int × Rs
  I z := StC m va W z.1 z.2.1 z.2.2
  sl z := slots 66 [(0, .ifc 138 (.sl 0 1 0 m.length)), (1, .v (.int .u64 z.2.1)), (2, .v (.int .i64 z.1)), (3, .v (.int .u64 va)), (4, .fn 208 [.ptr 1 0, .ptr 5 0])]
  H z := wkH x m va c pick I D (P.1, P.2.1, (keepAll va c.2.2.2 pick P z.2.2).2.2)
  fams := [{ β := Unit, out := fun _ _ => W.1 = 2 ∧ W.2.1 = 0 ∧ W.2.2.1 = 0, ex := .ext 0, sl := fun _ => slots 66 [], H := fun _ => wkH x m va c pick I D (P.1, P.2.1, (keepAll va c.2.2.2 pick P W.2.2.2).2.2) },
    { β := Unit, out := fun _ _ => W.1 = 3 ∧ W.2.2.1 = 0, ex := .ret, sl := fun _ => slots 66 [(10, .v (.int .u64 0)), (11, .v (.int .i64 W.2.1)), (12, .ifc 174 (.agg [.v (.int .i64 W.2.1)]))], H := fun _ => wkH x m va c pick I D (P.1, P.2.1, (keepAll va c.2.2.2 pick P W.2.2.2).2.2) },
    { β := Unit, out := fun _ _ => W.1 = 2 ∧ W.2.2.1 = 0, ex := .ret, sl := fun _ => slots 66 [(10, .v (.int .u64 0)), (11, .v (.int .i64 W.2.1)), (12, .ifc 189 (.agg [.v (.int .i64 W.2.1)]))], H := fun _ => wkH x m va c pick I D (P.1, P.2.1, (keepAll va c.2.2.2 pick P W.2.2.2).2.2) },
    { β := Unit, out := fun _ _ => W.1 = 1, ex := .ret, sl := fun _ => slots 66 [(10, .v (.int .u64 W.2.2.1)), (11, .v (.int .i64 W.2.1)), (12, .v .nilIface)], H := fun _ => wkH x m va c pick I D (P.1, P.2.1, (keepAll va c.2.2.2 pick P W.2.2.2).2.2) }]
/-- Behind the reading of an entry: its address, whether it is there, what it is. -/
def walkCX (x : Bx) (m : By) (va : Int) (c : Ct) (pick : Int) (I D P : Tl) (W : Wr) (l p : Int) (xs : Rs) : Specs := { Specs.one 1 (walkCL x m va c pick I D P W) with cut := fun r => if r = 5 then some (CutS.mk (Int × Int × Bool) (fun z => slots 66 [(0, .ifc 138 (.sl 0 1 0 m.length)), (1, .v (.int .u64 p)), (2, .v (.int .i64 l)), (3, .v (.int .u64 va)), (4, .fn 208 [.ptr 1 0, .ptr 5 0]), (13, .v (.int .u64 z.1)), (14, .v (.int .u64 z.2.1)), (15, .v (.bool z.2.2))]) (fun _ => wkH x m va c pick I D (P.1, P.2.1, (keepAll va c.2.2.2 pick P xs).2.2))) else none }
def vc_walkC_r (x0 x1 : Int) (m : By) (s1 w1 : Int) (m1 : Es) (s2 w2 : Int) (m2 : Es) (s3 w3 : Int) (m3 : Es) (va : Int) (c0 : Int) (c1 c2 : Bool) (c3 : Int) (pick : Int) (q0 q1 q2 : Int) (rs : Rs) (l p : Int) (xs : Rs) : Prop := vcRound Try.prog FX3 (walkCX (x0, x1) m va (c0, c1, c2, c3) pick (s1, w1, m1) (s2, w2, m2) (s3, w3, m3) (q0, q1, q2, rs) l p xs) 10 (loopAt Try.f121 0) (walkCL (x0, x1) m va (c0, c1, c2, c3) pick (s1, w1, m1) (s2, w2, m2) (s3, w3, m3) (q0, q1, q2, rs)) (fun z : Int × Int × Rs => (z.1 + 1).toNat) (l, p, xs)
def walkCArgs (n : Nat) (p l va : Int) : List Av := [.ifc 138 (.sl 0 1 0 n), .v (.int .u64 p), .v (.int .i64 l), .v (.int .u64 va), .fn 208 [.ptr 1 0, .ptr 5 0]]
def walkCO (x : Bx) (m : By) (va : Int) (c : Ct) (pick : Int) (I D P : Tl) (W : Wr) : List Out := [⟨false, resA 0 W, wkH x m va c pick I D (P.1, P.2.1, (keepAll va c.2.2.2 pick P W.2.2.2).2.2), W.1 = 1⟩, ⟨false, resA 1 W, wkH x m va c pick I D (P.1, P.2.1, (keepAll va c.2.2.2 pick P W.2.2.2).2.2), W.1 = 3⟩, ⟨false, resA 2 W, wkH x m va c pick I D (P.1, P.2.1, (keepAll va c.2.2.2 pick P W.2.2.2).2.2), W.1 = 2⟩]
def vc_walkC (x0 x1 : Int) (m : By) (s1 w1 : Int) (m1 : Es) (s2 w2 : Int) (m2 : Es) (s3 w3 : Int) (m3 : Es) (va : Int) (c0 : Int) (c1 c2 : Bool) (c3 : Int) (pick : Int) (q0 q1 q2 : Int) (rs : Rs) (l p : Int) : Prop := vcOut Try.prog FX3 (.one 1 (walkCL (x0, x1) m va (c0, c1, c2, c3) pick (s1, w1, m1) (s2, w2, m2) (s3, w3, m3) (q0, q1, q2, rs))) Try.f121 (walkCArgs m.length p l va) (wkH (x0, x1) m va (c0, c1, c2, c3) pick (s1, w1, m1) (s2, w2, m2) (s3, w3, m3)) (walkCO (x0, x1) m va (c0, c1, c2, c3) pick (s1, w1, m1) (s2, w2, m2) (s3, w3, m3) (q0, q1, q2, rs))
def WalkR (m : By) (va : Int) (c : Ct) (pick l p : Int) (P : Tl) : Prop := FromR m p l va ∧ headM P.1 P.2.1 P.2.2 = true ∧ U64 c.2.2.2 ∧ 0 ≤ pick ∧ pick ≤ 255
def walkCS (k : Nat) : Sum := fun args H => match args, H with
  | [.ifc 138 (.sl 0 1 0 n), .v (.int .u64 p), .v (.int .i64 l), .v (.int .u64 va0), .fn 208 [.ptr 1 0, .ptr 5 0]], .arr sh m false :: H2 =>
    if h : sh = [.i .u8] then (match getF 1 H2 with
      | some (x, n3, (va, c, pick), I, D, P) => some (some (n = (h ▸ m : List (El [.i .u8])).length ∧ va0 = va ∧ n3 = lensM I D P ∧ WalkR (h ▸ m : List (El [.i .u8])) va c pick l p P ∧ codeK k (walkN (h ▸ m : List (El [.i .u8])) va (l + 1).toNat p)), resA k (walkN (h ▸ m : List (El [.i .u8])) va (l + 1).toNat p), wkH x (h ▸ m : List (El [.i .u8])) va c pick I D (P.1, P.2.1, (keepAll va c.2.2.2 pick P (walkN (h ▸ m : List (El [.i .u8])) va (l + 1).toNat p).2.2.2).2.2))
      | none => none) else none
  | _, _ => none
def FX4 : Dict := mkD (kX2 ++ kN2) [(121, (3, walkCS))] []
/-! ### the translation -/
abbrev TrR := Nat × Int × Int × Cch
def pickT (kind : Int) (k : Cch) : Tl := if kind = 0 then k.1 else k.2.1
def putT (kind : Int) (k : Cch) (t : Tl) : Cch := if kind = 0 then (t, k.2.1, k.2.2) else (k.1, t, k.2.2)
/-- Page and level at which the walk begins. -/
def startM (satp va : Int) (P : Tl) : Int × Int := if (findM va (asidM satp) P.2.2).1 = true then (ppnM (findM va (asidM satp) P.2.2).2.2.2, (findM va (asidM satp) P.2.2).2.2.1 - 1) else (rootM satp, 2)
/-- A walk's end with caches: code, place, level of a fault, caches. -/
def endM (W : Wr) (c : Ct) (k : Cch) (kind va pick : Int) : TrR :=
  if W.1 = 1 then (if grantM W.2.2.1 kind c.1 c.2.1 c.2.2.1 = true then (0, physM W.2.2.1 W.2.1 va, 0, putT kind k (insT (pickT kind k) (entM W.2.1 va c.2.2.2 W.2.2.1) pick)) else (2, 0, W.2.1, k))
  else if W.1 = 3 then (1, 0, W.2.1, k) else (2, 0, W.2.1, k)
def hitM (h : Hi) (c : Ct) (k : Cch) (kind va : Int) : TrR := if grantM h.2.2.2 kind c.1 c.2.1 c.2.2.1 = true then (0, physM h.2.2.2 h.2.2.1 va, 0, k) else (2, 0, h.2.2.1, k)
def missM (m : By) (c : Ct) (k : Cch) (kind va pick : Int) : TrR :=
  endM (walkN m va ((startM c.2.2.2 va k.2.2).2 + 1).toNat (startM c.2.2.2 va k.2.2).1) c (k.1, k.2.1, (k.2.2.1, k.2.2.2.1, (keepAll va c.2.2.2 pick k.2.2 (walkN m va ((startM c.2.2.2 va k.2.2).2 + 1).toNat (startM c.2.2.2 va k.2.2).1).2.2.2).2.2)) kind va pick
def trM (m : By) (c : Ct) (k : Cch) (kind va pick : Int) : TrR :=
  if onM c = false then (0, va, 0, k) else if canM va = false then (2, 0, 2, k)
  else if (findM va (asidM c.2.2.2) (pickT kind k).2.2).1 = true then hitM (findM va (asidM c.2.2.2) (pickT kind k).2.2) c k kind va
  else missM m c k kind va pick
def errT (k : Nat) (l : Int) : Av := match k with | 0 => .v .nilIface | 1 => .ifc 174 (.agg [.v (.int .i64 l)]) | _ => .ifc 189 (.agg [.v (.int .i64 l)])
def trH (x : Bx) (m : By) (k : Cch) : Heap := chH x 0 k.1 k.2.1 k.2.2 ++ [.arr [.i .u8] m false]
def trO (x : Bx) (m : By) (r : TrR) : List Out := [⟨false, .tup [.v (.int .u64 r.2.1), errT 0 r.2.2.1], trH x m r.2.2.2, r.1 = 0⟩, ⟨false, .tup [.v (.int .u64 r.2.1), errT 1 r.2.2.1], trH x m r.2.2.2, r.1 = 1⟩, ⟨false, .tup [.v (.int .u64 r.2.1), errT 2 r.2.2.1], trH x m r.2.2.2, r.1 = 2⟩]
/-- Behind the boxes. -/
def trB (x : Bx) (m : By) (k : Cch) (c : Ct) (va pick : Int) : Heap := trH x m k ++ [.fix [.ptr 0 2] true (some 259), .fix [.v (.int .i64 c.1), .v (.bool c.2.1), .v (.bool c.2.2.1), .v (.int .u64 c.2.2.2)] true (some 86), .fix [.v (.int .u64 va)] true (some 23), .fix [.v (.int .i64 pick)] true (some 2)]
def trSl (n : Nat) (sub : Nat) (kind : Int) (l : List (Nat × Av)) : List Av := slots 120 ([(1, .sl 4 1 0 n), (3, .v (.int .i64 kind)), (6, .ptr 5 0), (8, .ptr 6 0), (10, .ptr 7 0), (11, .ptr 8 0), (14, .ptr 0 sub)] ++ l)
def trX (isI : Bool) (x : Bx) (m : By) (k : Cch) (c : Ct) (kind va pick : Int) : Specs := { Specs.none with pick := fun r => if r = 7 then some isI else none, cut := fun r => if r = 9 then some (CutS.mk Hi (fun _ => trSl m.length (cond isI 2 5) kind [(15, .ptr 9 0)]) (fun z => trB x m k c va pick ++ [.fix (hitA z) true (some 57)])) else if r = 15 then some (CutS.mk Hi (fun _ => trSl m.length (cond isI 2 5) kind [(16, .v (.int .u64 (rootM c.2.2.2))), (17, .v (.int .i64 2)), (18, .ptr 9 0)]) (fun z => trB x m k c va pick ++ [.fix (hitA z) true (some 57)])) else if r = 17 then some (CutS.mk (Int × Int) (fun z => trSl m.length (cond isI 2 5) kind [(16, .v (.int .u64 z.1)), (17, .v (.int .i64 z.2))]) (fun _ => trB x m k c va pick)) else none }
def vc_trI (x0 x1 : Int) (m : By) (s1 w1 : Int) (m1 : Es) (s2 w2 : Int) (m2 : Es) (s3 w3 : Int) (m3 : Es) (c0 : Int) (c1 c2 : Bool) (c3 : Int) (kind va pick : Int) (e : Nat) (pa l : Int) (t1 t2 t3 : Es) : Prop := vcOut Try.prog FX4 (trX true (x0, x1) m ((s1, w1, m1), (s2, w2, m2), (s3, w3, m3)) (c0, c1, c2, c3) kind va pick) Try.f179 [.ptr 0 2, .sl 4 1 0 m.length, .agg [.v (.int .i64 c0), .v (.bool c1), .v (.bool c2), .v (.int .u64 c3)], .v (.int .i64 kind), .v (.int .u64 va), .v (.int .i64 pick)] (trH (x0, x1) m ((s1, w1, m1), (s2, w2, m2), (s3, w3, m3))) (trO (x0, x1) m (e, pa, l, (s1, w1, t1), (s2, w2, t2), (s3, w3, t3)))
def vc_trD (x0 x1 : Int) (m : By) (s1 w1 : Int) (m1 : Es) (s2 w2 : Int) (m2 : Es) (s3 w3 : Int) (m3 : Es) (c0 : Int) (c1 c2 : Bool) (c3 : Int) (kind va pick : Int) (e : Nat) (pa l : Int) (t1 t2 t3 : Es) : Prop := vcOut Try.prog FX4 (trX false (x0, x1) m ((s1, w1, m1), (s2, w2, m2), (s3, w3, m3)) (c0, c1, c2, c3) kind va pick) Try.f179 [.ptr 0 2, .sl 4 1 0 m.length, .agg [.v (.int .i64 c0), .v (.bool c1), .v (.bool c2), .v (.int .u64 c3)], .v (.int .i64 kind), .v (.int .u64 va), .v (.int .i64 pick)] (trH (x0, x1) m ((s1, w1, m1), (s2, w2, m2), (s3, w3, m3))) (trO (x0, x1) m (e, pa, l, (s1, w1, t1), (s2, w2, t2), (s3, w3, t3)))
end Go.Proofs.Ytfiddfbagbaofaa.V
namespace Go.Proofs.Ytfiddfbagbaofaa.V
open Go
set_option linter.unusedVariables false
theorem vc_putI_r_eq (x0 x1 : Int) (s1 w1 : Int) (m1 : Es) (s2 w2 : Int) (m2 : Es) (s3 w3 : Int) (m3 : Es) (a : Bool) (b c d : Int) (g : Bool) (f : Int) (pick z : Int) : vc_putI_r x0 x1 s1 w1 m1 s2 w2 m2 s3 w3 m3 a b c d g f pick z = (
 (decide (z ≥ (0 : Int)) = true → ((0 : Int) ≤ IntKind.i64.wrap (fromM s1 w1 c + z) ∧ IntKind.i64.wrap (fromM s1 w1 c + z) < (↑(List.length m1) : Int)) ∧ (0 : Nat) + (IntKind.i64.wrap (fromM s1 w1 c + z)).toNat < List.length m1 ∧
 ((!(List.getD m1 ((0 : Nat) + (IntKind.i64.wrap (fromM s1 w1 c + z)).toNat) (El.zero shE)).fst) = true → ∃ (y : Int), (fromM s1 w1 c = fromM s1 w1 c ∧ freeM m1 (fromM s1 w1 c) (pick.tmod w1) (y + (1 : Int)).toNat (w1 - (1 : Int) - y).toNat
 = z ∧ y = IntKind.i64.wrap (z - (1 : Int)) ∧ x0 = x0 ∧ x1 = x1 ∧ s1 = s1 ∧ w1 = w1 ∧ (0 : Nat) = (0 : Nat) ∧ List.length m1 = List.length m1 ∧ s2 = s2 ∧ w2 = w2 ∧ (0 : Nat) = (0 : Nat) ∧ List.length m2 = List.length m2 ∧ s3 = s3 ∧ w3 = w3 ∧
 (0 : Nat) = (0 : Nat) ∧ List.length m3 = List.length m3 ∧ m1 = m1 ∧ m2 = m2 ∧ m3 = m3 ∧ a = a ∧ b = b ∧ c = c ∧ d = d ∧ g = g ∧ f = f) ∧ ((-1 : Int) ≤ y ∧ y ≤ w1 - (1 : Int)) ∧ (y + (1 : Int)).toNat < (z + (1 : Int)).toNat ∧ ∀ (z : Unit),
 True → True) ∧ ((!(List.getD m1 ((0 : Nat) + (IntKind.i64.wrap (fromM s1 w1 c + z)).toNat) (El.zero shE)).fst) = false → ∃ (y : Int), (fromM s1 w1 c = fromM s1 w1 c ∧ freeM m1 (fromM s1 w1 c) (pick.tmod w1) (y + (1 : Int)).toNat (w1 - (1 :
 Int) - y).toNat = freeM m1 (fromM s1 w1 c) (pick.tmod w1) (z + (1 : Int)).toNat (w1 - (1 : Int) - z).toNat ∧ y = IntKind.i64.wrap (z - (1 : Int)) ∧ x0 = x0 ∧ x1 = x1 ∧ s1 = s1 ∧ w1 = w1 ∧ (0 : Nat) = (0 : Nat) ∧ List.length m1 = List.length
 m1 ∧ s2 = s2 ∧ w2 = w2 ∧ (0 : Nat) = (0 : Nat) ∧ List.length m2 = List.length m2 ∧ s3 = s3 ∧ w3 = w3 ∧ (0 : Nat) = (0 : Nat) ∧ List.length m3 = List.length m3 ∧ m1 = m1 ∧ m2 = m2 ∧ m3 = m3 ∧ a = a ∧ b = b ∧ c = c ∧ d = d ∧ g = g ∧ f = f) ∧
 ((-1 : Int) ≤ y ∧ y ≤ w1 - (1 : Int)) ∧ (y + (1 : Int)).toNat < (z + (1 : Int)).toNat ∧ ∀ (z : Unit), True → True)) ∧ (decide (z ≥ (0 : Int)) = false → ∃ (z_1 : Unit), (fromM s1 w1 c = fromM s1 w1 c ∧ wayM m1 s1 w1 c pick = freeM m1
 (fromM s1 w1 c) (pick.tmod w1) (z + (1 : Int)).toNat (w1 - (1 : Int) - z).toNat ∧ x0 = x0 ∧ x1 = x1 ∧ s1 = s1 ∧ w1 = w1 ∧ (0 : Nat) = (0 : Nat) ∧ List.length m1 = List.length m1 ∧ s2 = s2 ∧ w2 = w2 ∧ (0 : Nat) = (0 : Nat) ∧ List.length m2 =
 List.length m2 ∧ s3 = s3 ∧ w3 = w3 ∧ (0 : Nat) = (0 : Nat) ∧ List.length m3 = List.length m3 ∧ m1 = m1 ∧ m2 = m2 ∧ m3 = m3 ∧ a = a ∧ b = b ∧ c = c ∧ d = d ∧ g = g ∧ f = f) ∧ True)) := by kernel_rfl
theorem vc_putI_eq (x0 x1 : Int) (s1 w1 : Int) (m1 : Es) (s2 w2 : Int) (m2 : Es) (s3 w3 : Int) (m3 : Es) (a : Bool) (b c d : Int) (g : Bool) (f : Int) (pick : Int) : vc_putI x0 x1 s1 w1 m1 s2 w2 m2 s3 w3 m3 a b c d g f pick = (
 s1 ≠ (0 : Int) ∧ w1 ≠ (0 : Int) ∧ ∃ (x : Int), (fromM s1 w1 c = IntKind.i64.wrap ((IntKind.i64.wrap c).tmod s1 * w1) ∧ freeM m1 (fromM s1 w1 c) (pick.tmod w1) (x + (1 : Int)).toNat (w1 - (1 : Int) - x).toNat = pick.tmod w1 ∧ x =
 IntKind.i64.wrap (w1 - (1 : Int)) ∧ x0 = x0 ∧ x1 = x1 ∧ s1 = s1 ∧ w1 = w1 ∧ (0 : Nat) = (0 : Nat) ∧ List.length m1 = List.length m1 ∧ s2 = s2 ∧ w2 = w2 ∧ (0 : Nat) = (0 : Nat) ∧ List.length m2 = List.length m2 ∧ s3 = s3 ∧ w3 = w3 ∧ (0 :
 Nat) = (0 : Nat) ∧ List.length m3 = List.length m3 ∧ m1 = m1 ∧ m2 = m2 ∧ m3 = m3 ∧ a = a ∧ b = b ∧ c = c ∧ d = d ∧ g = g ∧ f = f) ∧ ((-1 : Int) ≤ x ∧ x ≤ w1 - (1 : Int)) ∧ ∀ (z : Unit), True → ((0 : Int) ≤ IntKind.i64.wrap (fromM s1 w1 c +
 wayM m1 s1 w1 c pick) ∧ IntKind.i64.wrap (fromM s1 w1 c + wayM m1 s1 w1 c pick) < (↑(List.length m1) : Int)) ∧ (0 : Nat) + (IntKind.i64.wrap (fromM s1 w1 c + wayM m1 s1 w1 c pick)).toNat < List.length m1 ∧ x0 = x0 ∧ x1 = x1 ∧ (insT (s1, w1,
 m1) (a, b, c, d, g, f) pick).fst = s1 ∧ (insT (s1, w1, m1) (a, b, c, d, g, f) pick).snd.fst = w1 ∧ (0 : Nat) = (0 : Nat) ∧ List.length (insT (s1, w1, m1) (a, b, c, d, g, f) pick).snd.snd = List.length m1 ∧ s2 = s2 ∧ w2 = w2 ∧ (0 : Nat) = (0
 : Nat) ∧ List.length m2 = List.length m2 ∧ s3 = s3 ∧ w3 = w3 ∧ (0 : Nat) = (0 : Nat) ∧ List.length m3 = List.length m3 ∧ (insT (s1, w1, m1) (a, b, c, d, g, f) pick).snd.snd = List.set m1 ((0 : Nat) + (IntKind.i64.wrap (fromM s1 w1 c + wayM
 m1 s1 w1 c pick)).toNat) (a, b, c, d, g, f) ∧ m2 = m2 ∧ m3 = m3) := by kernel_rfl
theorem vc_putD_r_eq (x0 x1 : Int) (s1 w1 : Int) (m1 : Es) (s2 w2 : Int) (m2 : Es) (s3 w3 : Int) (m3 : Es) (a : Bool) (b c d : Int) (g : Bool) (f : Int) (pick z : Int) : vc_putD_r x0 x1 s1 w1 m1 s2 w2 m2 s3 w3 m3 a b c d g f pick z = (
 (decide (z ≥ (0 : Int)) = true → ((0 : Int) ≤ IntKind.i64.wrap (fromM s2 w2 c + z) ∧ IntKind.i64.wrap (fromM s2 w2 c + z) < (↑(List.length m2) : Int)) ∧ (0 : Nat) + (IntKind.i64.wrap (fromM s2 w2 c + z)).toNat < List.length m2 ∧
 ((!(List.getD m2 ((0 : Nat) + (IntKind.i64.wrap (fromM s2 w2 c + z)).toNat) (El.zero shE)).fst) = true → ∃ (y : Int), (fromM s2 w2 c = fromM s2 w2 c ∧ freeM m2 (fromM s2 w2 c) (pick.tmod w2) (y + (1 : Int)).toNat (w2 - (1 : Int) - y).toNat
 = z ∧ y = IntKind.i64.wrap (z - (1 : Int)) ∧ x0 = x0 ∧ x1 = x1 ∧ s1 = s1 ∧ w1 = w1 ∧ (0 : Nat) = (0 : Nat) ∧ List.length m1 = List.length m1 ∧ s2 = s2 ∧ w2 = w2 ∧ (0 : Nat) = (0 : Nat) ∧ List.length m2 = List.length m2 ∧ s3 = s3 ∧ w3 = w3 ∧
 (0 : Nat) = (0 : Nat) ∧ List.length m3 = List.length m3 ∧ m1 = m1 ∧ m2 = m2 ∧ m3 = m3 ∧ a = a ∧ b = b ∧ c = c ∧ d = d ∧ g = g ∧ f = f) ∧ ((-1 : Int) ≤ y ∧ y ≤ w2 - (1 : Int)) ∧ (y + (1 : Int)).toNat < (z + (1 : Int)).toNat ∧ ∀ (z : Unit),
 True → True) ∧ ((!(List.getD m2 ((0 : Nat) + (IntKind.i64.wrap (fromM s2 w2 c + z)).toNat) (El.zero shE)).fst) = false → ∃ (y : Int), (fromM s2 w2 c = fromM s2 w2 c ∧ freeM m2 (fromM s2 w2 c) (pick.tmod w2) (y + (1 : Int)).toNat (w2 - (1 :
 Int) - y).toNat = freeM m2 (fromM s2 w2 c) (pick.tmod w2) (z + (1 : Int)).toNat (w2 - (1 : Int) - z).toNat ∧ y = IntKind.i64.wrap (z - (1 : Int)) ∧ x0 = x0 ∧ x1 = x1 ∧ s1 = s1 ∧ w1 = w1 ∧ (0 : Nat) = (0 : Nat) ∧ List.length m1 = List.length
 m1 ∧ s2 = s2 ∧ w2 = w2 ∧ (0 : Nat) = (0 : Nat) ∧ List.length m2 = List.length m2 ∧ s3 = s3 ∧ w3 = w3 ∧ (0 : Nat) = (0 : Nat) ∧ List.length m3 = List.length m3 ∧ m1 = m1 ∧ m2 = m2 ∧ m3 = m3 ∧ a = a ∧ b = b ∧ c = c ∧ d = d ∧ g = g ∧ f = f) ∧
 ((-1 : Int) ≤ y ∧ y ≤ w2 - (1 : Int)) ∧ (y + (1 : Int)).toNat < (z + (1 : Int)).toNat ∧ ∀ (z : Unit), True → True)) ∧ (decide (z ≥ (0 : Int)) = false → ∃ (z_1 : Unit), (fromM s2 w2 c = fromM s2 w2 c ∧ wayM m2 s2 w2 c pick = freeM m2
 (fromM s2 w2 c) (pick.tmod w2) (z + (1 : Int)).toNat (w2 - (1 : Int) - z).toNat ∧ x0 = x0 ∧ x1 = x1 ∧ s1 = s1 ∧ w1 = w1 ∧ (0 : Nat) = (0 : Nat) ∧ List.length m1 = List.length m1 ∧ s2 = s2 ∧ w2 = w2 ∧ (0 : Nat) = (0 : Nat) ∧ List.length m2 =
 List.length m2 ∧ s3 = s3 ∧ w3 = w3 ∧ (0 : Nat) = (0 : Nat) ∧ List.length m3 = List.length m3 ∧ m1 = m1 ∧ m2 = m2 ∧ m3 = m3 ∧ a = a ∧ b = b ∧ c = c ∧ d = d ∧ g = g ∧ f = f) ∧ True)) := by kernel_rfl
theorem vc_putD_eq (x0 x1 : Int) (s1 w1 : Int) (m1 : Es) (s2 w2 : Int) (m2 : Es) (s3 w3 : Int) (m3 : Es) (a : Bool) (b c d : Int) (g : Bool) (f : Int) (pick : Int) : vc_putD x0 x1 s1 w1 m1 s2 w2 m2 s3 w3 m3 a b c d g f pick = (
 s2 ≠ (0 : Int) ∧ w2 ≠ (0 : Int) ∧ ∃ (x : Int), (fromM s2 w2 c = IntKind.i64.wrap ((IntKind.i64.wrap c).tmod s2 * w2) ∧ freeM m2 (fromM s2 w2 c) (pick.tmod w2) (x + (1 : Int)).toNat (w2 - (1 : Int) - x).toNat = pick.tmod w2 ∧ x =
 IntKind.i64.wrap (w2 - (1 : Int)) ∧ x0 = x0 ∧ x1 = x1 ∧ s1 = s1 ∧ w1 = w1 ∧ (0 : Nat) = (0 : Nat) ∧ List.length m1 = List.length m1 ∧ s2 = s2 ∧ w2 = w2 ∧ (0 : Nat) = (0 : Nat) ∧ List.length m2 = List.length m2 ∧ s3 = s3 ∧ w3 = w3 ∧ (0 :
 Nat) = (0 : Nat) ∧ List.length m3 = List.length m3 ∧ m1 = m1 ∧ m2 = m2 ∧ m3 = m3 ∧ a = a ∧ b = b ∧ c = c ∧ d = d ∧ g = g ∧ f = f) ∧ ((-1 : Int) ≤ x ∧ x ≤ w2 - (1 : Int)) ∧ ∀ (z : Unit), True → ((0 : Int) ≤ IntKind.i64.wrap (fromM s2 w2 c +
 wayM m2 s2 w2 c pick) ∧ IntKind.i64.wrap (fromM s2 w2 c + wayM m2 s2 w2 c pick) < (↑(List.length m2) : Int)) ∧ (0 : Nat) + (IntKind.i64.wrap (fromM s2 w2 c + wayM m2 s2 w2 c pick)).toNat < List.length m2 ∧ x0 = x0 ∧ x1 = x1 ∧ s1 = s1 ∧ w1 =
 w1 ∧ (0 : Nat) = (0 : Nat) ∧ List.length m1 = List.length m1 ∧ (insT (s2, w2, m2) (a, b, c, d, g, f) pick).fst = s2 ∧ (insT (s2, w2, m2) (a, b, c, d, g, f) pick).snd.fst = w2 ∧ (0 : Nat) = (0 : Nat) ∧ List.length (insT (s2, w2, m2) (a, b,
 c, d, g, f) pick).snd.snd = List.length m2 ∧ s3 = s3 ∧ w3 = w3 ∧ (0 : Nat) = (0 : Nat) ∧ List.length m3 = List.length m3 ∧ m1 = m1 ∧ (insT (s2, w2, m2) (a, b, c, d, g, f) pick).snd.snd = List.set m2 ((0 : Nat) + (IntKind.i64.wrap (fromM s2
 w2 c + wayM m2 s2 w2 c pick)).toNat) (a, b, c, d, g, f) ∧ m3 = m3) := by kernel_rfl
theorem vc_putP_r_eq (x0 x1 : Int) (s1 w1 : Int) (m1 : Es) (s2 w2 : Int) (m2 : Es) (s3 w3 : Int) (m3 : Es) (a : Bool) (b c d : Int) (g : Bool) (f : Int) (pick z : Int) : vc_putP_r x0 x1 s1 w1 m1 s2 w2 m2 s3 w3 m3 a b c d g f pick z = (
 (decide (z ≥ (0 : Int)) = true → ((0 : Int) ≤ IntKind.i64.wrap (fromM s3 w3 c + z) ∧ IntKind.i64.wrap (fromM s3 w3 c + z) < (↑(List.length m3) : Int)) ∧ (0 : Nat) + (IntKind.i64.wrap (fromM s3 w3 c + z)).toNat < List.length m3 ∧
 ((!(List.getD m3 ((0 : Nat) + (IntKind.i64.wrap (fromM s3 w3 c + z)).toNat) (El.zero shE)).fst) = true → ∃ (y : Int), (fromM s3 w3 c = fromM s3 w3 c ∧ freeM m3 (fromM s3 w3 c) (pick.tmod w3) (y + (1 : Int)).toNat (w3 - (1 : Int) - y).toNat
 = z ∧ y = IntKind.i64.wrap (z - (1 : Int)) ∧ x0 = x0 ∧ x1 = x1 ∧ s1 = s1 ∧ w1 = w1 ∧ (0 : Nat) = (0 : Nat) ∧ List.length m1 = List.length m1 ∧ s2 = s2 ∧ w2 = w2 ∧ (0 : Nat) = (0 : Nat) ∧ List.length m2 = List.length m2 ∧ s3 = s3 ∧ w3 = w3 ∧
 (0 : Nat) = (0 : Nat) ∧ List.length m3 = List.length m3 ∧ m1 = m1 ∧ m2 = m2 ∧ m3 = m3 ∧ a = a ∧ b = b ∧ c = c ∧ d = d ∧ g = g ∧ f = f) ∧ ((-1 : Int) ≤ y ∧ y ≤ w3 - (1 : Int)) ∧ (y + (1 : Int)).toNat < (z + (1 : Int)).toNat ∧ ∀ (z : Unit),
 True → True) ∧ ((!(List.getD m3 ((0 : Nat) + (IntKind.i64.wrap (fromM s3 w3 c + z)).toNat) (El.zero shE)).fst) = false → ∃ (y : Int), (fromM s3 w3 c = fromM s3 w3 c ∧ freeM m3 (fromM s3 w3 c) (pick.tmod w3) (y + (1 : Int)).toNat (w3 - (1 :
 Int) - y).toNat = freeM m3 (fromM s3 w3 c) (pick.tmod w3) (z + (1 : Int)).toNat (w3 - (1 : Int) - z).toNat ∧ y = IntKind.i64.wrap (z - (1 : Int)) ∧ x0 = x0 ∧ x1 = x1 ∧ s1 = s1 ∧ w1 = w1 ∧ (0 : Nat) = (0 : Nat) ∧ List.length m1 = List.length
 m1 ∧ s2 = s2 ∧ w2 = w2 ∧ (0 : Nat) = (0 : Nat) ∧ List.length m2 = List.length m2 ∧ s3 = s3 ∧ w3 = w3 ∧ (0 : Nat) = (0 : Nat) ∧ List.length m3 = List.length m3 ∧ m1 = m1 ∧ m2 = m2 ∧ m3 = m3 ∧ a = a ∧ b = b ∧ c = c ∧ d = d ∧ g = g ∧ f = f) ∧
 ((-1 : Int) ≤ y ∧ y ≤ w3 - (1 : Int)) ∧ (y + (1 : Int)).toNat < (z + (1 : Int)).toNat ∧ ∀ (z : Unit), True → True)) ∧ (decide (z ≥ (0 : Int)) = false → ∃ (z_1 : Unit), (fromM s3 w3 c = fromM s3 w3 c ∧ wayM m3 s3 w3 c pick = freeM m3
 (fromM s3 w3 c) (pick.tmod w3) (z + (1 : Int)).toNat (w3 - (1 : Int) - z).toNat ∧ x0 = x0 ∧ x1 = x1 ∧ s1 = s1 ∧ w1 = w1 ∧ (0 : Nat) = (0 : Nat) ∧ List.length m1 = List.length m1 ∧ s2 = s2 ∧ w2 = w2 ∧ (0 : Nat) = (0 : Nat) ∧ List.length m2 =
 List.length m2 ∧ s3 = s3 ∧ w3 = w3 ∧ (0 : Nat) = (0 : Nat) ∧ List.length m3 = List.length m3 ∧ m1 = m1 ∧ m2 = m2 ∧ m3 = m3 ∧ a = a ∧ b = b ∧ c = c ∧ d = d ∧ g = g ∧ f = f) ∧ True)) := by kernel_rfl
theorem vc_putP_eq (x0 x1 : Int) (s1 w1 : Int) (m1 : Es) (s2 w2 : Int) (m2 : Es) (s3 w3 : Int) (m3 : Es) (a : Bool) (b c d : Int) (g : Bool) (f : Int) (pick : Int) : vc_putP x0 x1 s1 w1 m1 s2 w2 m2 s3 w3 m3 a b c d g f pick = (
 s3 ≠ (0 : Int) ∧ w3 ≠ (0 : Int) ∧ ∃ (x : Int), (fromM s3 w3 c = IntKind.i64.wrap ((IntKind.i64.wrap c).tmod s3 * w3) ∧ freeM m3 (fromM s3 w3 c) (pick.tmod w3) (x + (1 : Int)).toNat (w3 - (1 : Int) - x).toNat = pick.tmod w3 ∧ x =
 IntKind.i64.wrap (w3 - (1 : Int)) ∧ x0 = x0 ∧ x1 = x1 ∧ s1 = s1 ∧ w1 = w1 ∧ (0 : Nat) = (0 : Nat) ∧ List.length m1 = List.length m1 ∧ s2 = s2 ∧ w2 = w2 ∧ (0 : Nat) = (0 : Nat) ∧ List.length m2 = List.length m2 ∧ s3 = s3 ∧ w3 = w3 ∧ (0 :
 Nat) = (0 : Nat) ∧ List.length m3 = List.length m3 ∧ m1 = m1 ∧ m2 = m2 ∧ m3 = m3 ∧ a = a ∧ b = b ∧ c = c ∧ d = d ∧ g = g ∧ f = f) ∧ ((-1 : Int) ≤ x ∧ x ≤ w3 - (1 : Int)) ∧ ∀ (z : Unit), True → ((0 : Int) ≤ IntKind.i64.wrap (fromM s3 w3 c +
 wayM m3 s3 w3 c pick) ∧ IntKind.i64.wrap (fromM s3 w3 c + wayM m3 s3 w3 c pick) < (↑(List.length m3) : Int)) ∧ (0 : Nat) + (IntKind.i64.wrap (fromM s3 w3 c + wayM m3 s3 w3 c pick)).toNat < List.length m3 ∧ x0 = x0 ∧ x1 = x1 ∧ s1 = s1 ∧ w1 =
 w1 ∧ (0 : Nat) = (0 : Nat) ∧ List.length m1 = List.length m1 ∧ s2 = s2 ∧ w2 = w2 ∧ (0 : Nat) = (0 : Nat) ∧ List.length m2 = List.length m2 ∧ (insT (s3, w3, m3) (a, b, c, d, g, f) pick).fst = s3 ∧ (insT (s3, w3, m3) (a, b, c, d, g, f)
 pick).snd.fst = w3 ∧ (0 : Nat) = (0 : Nat) ∧ List.length (insT (s3, w3, m3) (a, b, c, d, g, f) pick).snd.snd = List.length m3 ∧ m1 = m1 ∧ m2 = m2 ∧ (insT (s3, w3, m3) (a, b, c, d, g, f) pick).snd.snd = List.set m3 ((0 : Nat) +
 (IntKind.i64.wrap (fromM s3 w3 c + wayM m3 s3 w3 c pick)).toNat) (a, b, c, d, g, f)) := by kernel_rfl
theorem vc_keepI_eq (x0 x1 : Int) (s1 w1 : Int) (m1 : Es) (s2 w2 : Int) (m2 : Es) (s3 w3 : Int) (m3 : Es) (va : Int) (c0 : Int) (c1 c2 : Bool) (c3 : Int) (pick l p : Int) : vc_keepI x0 x1 s1 w1 m1 s2 w2 m2 s3 w3 m3 va c0 c1 c2 c3 pick l p = (
 (U64 va ∧ LvR l) ∧ U64 c3 ∧ bitR (p, (5 : Int)) ∧ ((List.length m1, List.length m2, List.length m3) = (List.length m1, List.length m2, List.length m3) ∧ PutR s1 w1 m1 (true, l, tagM va l, asidM c3, bitM p (5 : Int), p) pick) ∧ x0 = x0 ∧ x1
 = x1 ∧ (insT (s1, w1, m1) (entM l va c3 p) pick).fst = (insT (s1, w1, m1) (true, l, tagM va l, asidM c3, bitM p (5 : Int), p) pick).fst ∧ (insT (s1, w1, m1) (entM l va c3 p) pick).snd.fst = (insT (s1, w1, m1) (true, l, tagM va l, asidM c3,
 bitM p (5 : Int), p) pick).snd.fst ∧ (0 : Nat) = (0 : Nat) ∧ List.length (insT (s1, w1, m1) (entM l va c3 p) pick).snd.snd = List.length (insT (s1, w1, m1) (true, l, tagM va l, asidM c3, bitM p (5 : Int), p) pick).snd.snd ∧ s2 = s2 ∧ w2 =
 w2 ∧ (0 : Nat) = (0 : Nat) ∧ List.length m2 = List.length m2 ∧ s3 = s3 ∧ w3 = w3 ∧ (0 : Nat) = (0 : Nat) ∧ List.length m3 = List.length m3 ∧ (insT (s1, w1, m1) (entM l va c3 p) pick).snd.snd = (insT (s1, w1, m1) (true, l, tagM va l, asidM
 c3, bitM p (5 : Int), p) pick).snd.snd ∧ m2 = m2 ∧ m3 = m3 ∧ va = va ∧ c0 = c0 ∧ c1 = c1 ∧ c2 = c2 ∧ c3 = c3 ∧ pick = pick) := by kernel_rfl
theorem vc_keepD_eq (x0 x1 : Int) (s1 w1 : Int) (m1 : Es) (s2 w2 : Int) (m2 : Es) (s3 w3 : Int) (m3 : Es) (va : Int) (c0 : Int) (c1 c2 : Bool) (c3 : Int) (pick l p : Int) : vc_keepD x0 x1 s1 w1 m1 s2 w2 m2 s3 w3 m3 va c0 c1 c2 c3 pick l p = (
 (U64 va ∧ LvR l) ∧ U64 c3 ∧ bitR (p, (5 : Int)) ∧ ((List.length m1, List.length m2, List.length m3) = (List.length m1, List.length m2, List.length m3) ∧ PutR s2 w2 m2 (true, l, tagM va l, asidM c3, bitM p (5 : Int), p) pick) ∧ x0 = x0 ∧ x1
 = x1 ∧ s1 = s1 ∧ w1 = w1 ∧ (0 : Nat) = (0 : Nat) ∧ List.length m1 = List.length m1 ∧ (insT (s2, w2, m2) (entM l va c3 p) pick).fst = (insT (s2, w2, m2) (true, l, tagM va l, asidM c3, bitM p (5 : Int), p) pick).fst ∧ (insT (s2, w2, m2) (entM
 l va c3 p) pick).snd.fst = (insT (s2, w2, m2) (true, l, tagM va l, asidM c3, bitM p (5 : Int), p) pick).snd.fst ∧ (0 : Nat) = (0 : Nat) ∧ List.length (insT (s2, w2, m2) (entM l va c3 p) pick).snd.snd = List.length (insT (s2, w2, m2) (true,
 l, tagM va l, asidM c3, bitM p (5 : Int), p) pick).snd.snd ∧ s3 = s3 ∧ w3 = w3 ∧ (0 : Nat) = (0 : Nat) ∧ List.length m3 = List.length m3 ∧ m1 = m1 ∧ (insT (s2, w2, m2) (entM l va c3 p) pick).snd.snd = (insT (s2, w2, m2) (true, l, tagM va l,
 asidM c3, bitM p (5 : Int), p) pick).snd.snd ∧ m3 = m3 ∧ va = va ∧ c0 = c0 ∧ c1 = c1 ∧ c2 = c2 ∧ c3 = c3 ∧ pick = pick) := by kernel_rfl
theorem vc_keepP_eq (x0 x1 : Int) (s1 w1 : Int) (m1 : Es) (s2 w2 : Int) (m2 : Es) (s3 w3 : Int) (m3 : Es) (va : Int) (c0 : Int) (c1 c2 : Bool) (c3 : Int) (pick l p : Int) : vc_keepP x0 x1 s1 w1 m1 s2 w2 m2 s3 w3 m3 va c0 c1 c2 c3 pick l p = (
 (U64 va ∧ LvR l) ∧ U64 c3 ∧ bitR (p, (5 : Int)) ∧ ((List.length m1, List.length m2, List.length m3) = (List.length m1, List.length m2, List.length m3) ∧ PutR s3 w3 m3 (true, l, tagM va l, asidM c3, bitM p (5 : Int), p) pick) ∧ x0 = x0 ∧ x1
 = x1 ∧ s1 = s1 ∧ w1 = w1 ∧ (0 : Nat) = (0 : Nat) ∧ List.length m1 = List.length m1 ∧ s2 = s2 ∧ w2 = w2 ∧ (0 : Nat) = (0 : Nat) ∧ List.length m2 = List.length m2 ∧ (insT (s3, w3, m3) (entM l va c3 p) pick).fst = (insT (s3, w3, m3) (true, l,
 tagM va l, asidM c3, bitM p (5 : Int), p) pick).fst ∧ (insT (s3, w3, m3) (entM l va c3 p) pick).snd.fst = (insT (s3, w3, m3) (true, l, tagM va l, asidM c3, bitM p (5 : Int), p) pick).snd.fst ∧ (0 : Nat) = (0 : Nat) ∧ List.length (insT (s3,
 w3, m3) (entM l va c3 p) pick).snd.snd = List.length (insT (s3, w3, m3) (true, l, tagM va l, asidM c3, bitM p (5 : Int), p) pick).snd.snd ∧ m1 = m1 ∧ m2 = m2 ∧ (insT (s3, w3, m3) (entM l va c3 p) pick).snd.snd = (insT (s3, w3, m3) (true, l,
 tagM va l, asidM c3, bitM p (5 : Int), p) pick).snd.snd ∧ va = va ∧ c0 = c0 ∧ c1 = c1 ∧ c2 = c2 ∧ c3 = c3 ∧ pick = pick) := by kernel_rfl
theorem vc_seen_eq (x0 x1 : Int) (s1 w1 : Int) (m1 : Es) (s2 w2 : Int) (m2 : Es) (s3 w3 : Int) (m3 : Es) (va : Int) (c0 : Int) (c1 c2 : Bool) (c3 : Int) (pick r0 r1 r2 : Int) : vc_seen x0 x1 s1 w1 m1 s2 w2 m2 s3 w3 m3 va c0 c1 c2 c3 pick r0 r1 r2 = (
 U64 r2 ∧ ((kindM r2 r0 == (1 : Int)) = true → ((List.length m1, List.length m2, List.length m3) = (List.length m1, List.length m2, List.length m3) ∧ headM s3 w3 m3 = true ∧ LvR r0 ∧ U64 va ∧ U64 c3 ∧ U64 r2 ∧ (0 : Int) ≤ pick ∧ pick ≤ (255
 : Int)) ∧ va = va ∧ c0 = c0 ∧ c1 = c1 ∧ c2 = c2 ∧ c3 = c3 ∧ pick = pick ∧ x0 = x0 ∧ x1 = x1 ∧ s1 = s1 ∧ w1 = w1 ∧ (0 : Nat) = (0 : Nat) ∧ List.length m1 = List.length m1 ∧ s2 = s2 ∧ w2 = w2 ∧ (0 : Nat) = (0 : Nat) ∧ List.length m2 =
 List.length m2 ∧ (keepP va c3 pick (s3, w3, m3) (r0, r1, r2)).fst = (insT (s3, w3, m3) (entM r0 va c3 r2) pick).fst ∧ (keepP va c3 pick (s3, w3, m3) (r0, r1, r2)).snd.fst = (insT (s3, w3, m3) (entM r0 va c3 r2) pick).snd.fst ∧ (0 : Nat) =
 (0 : Nat) ∧ List.length (keepP va c3 pick (s3, w3, m3) (r0, r1, r2)).snd.snd = List.length (insT (s3, w3, m3) (entM r0 va c3 r2) pick).snd.snd ∧ m1 = m1 ∧ m2 = m2 ∧ (keepP va c3 pick (s3, w3, m3) (r0, r1, r2)).snd.snd = (insT (s3, w3, m3)
 (entM r0 va c3 r2) pick).snd.snd) ∧ ((kindM r2 r0 == (1 : Int)) = false → va = va ∧ c0 = c0 ∧ c1 = c1 ∧ c2 = c2 ∧ c3 = c3 ∧ pick = pick ∧ x0 = x0 ∧ x1 = x1 ∧ s1 = s1 ∧ w1 = w1 ∧ (0 : Nat) = (0 : Nat) ∧ List.length m1 = List.length m1 ∧ s2 =
 s2 ∧ w2 = w2 ∧ (0 : Nat) = (0 : Nat) ∧ List.length m2 = List.length m2 ∧ (keepP va c3 pick (s3, w3, m3) (r0, r1, r2)).fst = s3 ∧ (keepP va c3 pick (s3, w3, m3) (r0, r1, r2)).snd.fst = w3 ∧ (0 : Nat) = (0 : Nat) ∧ List.length (keepP va c3
 pick (s3, w3, m3) (r0, r1, r2)).snd.snd = List.length m3 ∧ m1 = m1 ∧ m2 = m2 ∧ (keepP va c3 pick (s3, w3, m3) (r0, r1, r2)).snd.snd = m3)) := by kernel_rfl
theorem vc_walkC_r_eq (x0 x1 : Int) (m : By) (s1 w1 : Int) (m1 : Es) (s2 w2 : Int) (m2 : Es) (s3 w3 : Int) (m3 : Es) (va : Int) (c0 : Int) (c1 c2 : Bool) (c3 : Int) (pick : Int) (q0 q1 q2 : Int) (rs : Rs) (l p : Int) (xs : Rs) : vc_walkC_r x0 x1 m s1 w1 m1 s2 w2 m2 s3 w3 m3 va c0 c1 c2 c3 pick q0 q1 q2 rs l p xs = (
 (decide (l ≥ (0 : Int)) = true → (0 : Int) ≤ (6 : Int) ∧ (0 : Int) ≤ IntKind.i64.wrap ((6 : Int) + IntKind.i64.wrap ((3 : Int) * l)) ∧ (0 : Int) ≤ (3 : Int) ∧ (List.length m = List.length m ∧ ByteR m ∧ U64 (IntKind.u64.wrap
 (IntKind.u64.wrap (p * (2 : Int) ^ min (Int.toNat (6 : Int)) (64 : Nat)) + IntKind.u64.wrap (bits BinOp.and IntKind.u64 (va / (2 : Int) ^ min (IntKind.i64.wrap ((6 : Int) + IntKind.i64.wrap ((3 : Int) * l))).toNat (64 : Nat)) (7 : Int) * (2
 : Int) ^ min (Int.toNat (3 : Int)) (64 : Nat))))) ∧ ∃ (z : Int × Int × Bool), ((0 : Nat) = (0 : Nat) ∧ List.length m = List.length m ∧ p = p ∧ l = l ∧ va = va ∧ z.fst = IntKind.u64.wrap (IntKind.u64.wrap (p * (2 : Int) ^ min (Int.toNat (6 :
 Int)) (64 : Nat)) + IntKind.u64.wrap (bits BinOp.and IntKind.u64 (va / (2 : Int) ^ min (IntKind.i64.wrap ((6 : Int) + IntKind.i64.wrap ((3 : Int) * l))).toNat (64 : Nat)) (7 : Int) * (2 : Int) ^ min (Int.toNat (3 : Int)) (64 : Nat))) ∧
 z.snd.fst = (readM m (IntKind.u64.wrap (IntKind.u64.wrap (p * (2 : Int) ^ min (Int.toNat (6 : Int)) (64 : Nat)) + IntKind.u64.wrap (bits BinOp.and IntKind.u64 (va / (2 : Int) ^ min (IntKind.i64.wrap ((6 : Int) + IntKind.i64.wrap ((3 : Int)
 * l))).toNat (64 : Nat)) (7 : Int) * (2 : Int) ^ min (Int.toNat (3 : Int)) (64 : Nat)))) (8 : Int)).snd ∧ z.snd.snd = (readM m (IntKind.u64.wrap (IntKind.u64.wrap (p * (2 : Int) ^ min (Int.toNat (6 : Int)) (64 : Nat)) + IntKind.u64.wrap
 (bits BinOp.and IntKind.u64 (va / (2 : Int) ^ min (IntKind.i64.wrap ((6 : Int) + IntKind.i64.wrap ((3 : Int) * l))).toNat (64 : Nat)) (7 : Int) * (2 : Int) ^ min (Int.toNat (3 : Int)) (64 : Nat)))) (8 : Int)).fst ∧ m = m ∧ va = va ∧ c0 = c0
 ∧ c1 = c1 ∧ c2 = c2 ∧ c3 = c3 ∧ pick = pick ∧ x0 = x0 ∧ x1 = x1 ∧ s1 = s1 ∧ w1 = w1 ∧ (0 : Nat) = (0 : Nat) ∧ List.length m1 = List.length m1 ∧ s2 = s2 ∧ w2 = w2 ∧ (0 : Nat) = (0 : Nat) ∧ List.length m2 = List.length m2 ∧ s3 = s3 ∧ w3 = w3
 ∧ (0 : Nat) = (0 : Nat) ∧ List.length (keepAll va c3 pick (s3, w3, m3) xs).snd.snd = List.length (keepAll va c3 pick (s3, w3, m3) xs).snd.snd ∧ m1 = m1 ∧ m2 = m2 ∧ (keepAll va c3 pick (s3, w3, m3) xs).snd.snd = (keepAll va c3 pick (s3, w3,
 m3) xs).snd.snd) ∧ ((!z.snd.snd) = true → (∃ (z : Unit), ((0 : Int) = (0 : Int) ∧ q1 = l ∧ q1 = l ∧ m = m ∧ va = va ∧ c0 = c0 ∧ c1 = c1 ∧ c2 = c2 ∧ c3 = c3 ∧ pick = pick ∧ x0 = x0 ∧ x1 = x1 ∧ s1 = s1 ∧ w1 = w1 ∧ (0 : Nat) = (0 : Nat) ∧
 List.length m1 = List.length m1 ∧ s2 = s2 ∧ w2 = w2 ∧ (0 : Nat) = (0 : Nat) ∧ List.length m2 = List.length m2 ∧ s3 = s3 ∧ w3 = w3 ∧ (0 : Nat) = (0 : Nat) ∧ List.length (keepAll va c3 pick (s3, w3, m3) rs).snd.snd = List.length (keepAll va
 c3 pick (s3, w3, m3) xs).snd.snd ∧ m1 = m1 ∧ m2 = m2 ∧ (keepAll va c3 pick (s3, w3, m3) rs).snd.snd = (keepAll va c3 pick (s3, w3, m3) xs).snd.snd) ∧ q0 = (3 : Int) ∧ q2 = (0 : Int)) ∨ (∃ (z : Unit), False ∧ q0 = (2 : Int) ∧ q2 = (0 :
 Int)) ∨ ∃ (z : Unit), False ∧ q0 = (1 : Int)) ∧ ((!z.snd.snd) = false → U64 z.snd.fst ∧ ((kindM z.snd.fst l == (0 : Int)) = true → (∃ (z : Unit), False ∧ q0 = (3 : Int) ∧ q2 = (0 : Int)) ∨ (∃ (z : Unit), ((0 : Int) = (0 : Int) ∧ q1 = l ∧
 q1 = l ∧ m = m ∧ va = va ∧ c0 = c0 ∧ c1 = c1 ∧ c2 = c2 ∧ c3 = c3 ∧ pick = pick ∧ x0 = x0 ∧ x1 = x1 ∧ s1 = s1 ∧ w1 = w1 ∧ (0 : Nat) = (0 : Nat) ∧ List.length m1 = List.length m1 ∧ s2 = s2 ∧ w2 = w2 ∧ (0 : Nat) = (0 : Nat) ∧ List.length m2 =
 List.length m2 ∧ s3 = s3 ∧ w3 = w3 ∧ (0 : Nat) = (0 : Nat) ∧ List.length (keepAll va c3 pick (s3, w3, m3) rs).snd.snd = List.length (keepAll va c3 pick (s3, w3, m3) xs).snd.snd ∧ m1 = m1 ∧ m2 = m2 ∧ (keepAll va c3 pick (s3, w3, m3)
 rs).snd.snd = (keepAll va c3 pick (s3, w3, m3) xs).snd.snd) ∧ q0 = (2 : Int) ∧ q2 = (0 : Int)) ∨ ∃ (z : Unit), False ∧ q0 = (1 : Int)) ∧ ((kindM z.snd.fst l == (0 : Int)) = false → ((List.length m1, List.length m2, List.length (keepAll va
 c3 pick (s3, w3, m3) xs).snd.snd) = (List.length m1, List.length m2, List.length (keepAll va c3 pick (s3, w3, m3) xs).snd.snd) ∧ headM s3 w3 (keepAll va c3 pick (s3, w3, m3) xs).snd.snd = true ∧ LvR l ∧ U64 va ∧ U64 c3 ∧ U64 z.snd.fst ∧ (0
 : Int) ≤ pick ∧ pick ≤ (255 : Int)) ∧ ((kindM z.snd.fst l == (2 : Int)) = true → (∃ (z : Unit), False ∧ q0 = (3 : Int) ∧ q2 = (0 : Int)) ∨ (∃ (z : Unit), False ∧ q0 = (2 : Int) ∧ q2 = (0 : Int)) ∨ ∃ (z_1 : Unit), (q2 = z.snd.fst ∧ q1 = l
 ∧ Value.nilIface = Value.nilIface ∧ m = m ∧ va = va ∧ c0 = c0 ∧ c1 = c1 ∧ c2 = c2 ∧ c3 = c3 ∧ pick = pick ∧ x0 = x0 ∧ x1 = x1 ∧ s1 = s1 ∧ w1 = w1 ∧ (0 : Nat) = (0 : Nat) ∧ List.length m1 = List.length m1 ∧ s2 = s2 ∧ w2 = w2 ∧ (0 : Nat) = (0
 : Nat) ∧ List.length m2 = List.length m2 ∧ s3 = (keepP va c3 pick (s3, w3, (keepAll va c3 pick (s3, w3, m3) xs).snd.snd) (l, z.fst, z.snd.fst)).fst ∧ w3 = (keepP va c3 pick (s3, w3, (keepAll va c3 pick (s3, w3, m3) xs).snd.snd) (l, z.fst,
 z.snd.fst)).snd.fst ∧ (0 : Nat) = (0 : Nat) ∧ List.length (keepAll va c3 pick (s3, w3, m3) rs).snd.snd = List.length (keepP va c3 pick (s3, w3, (keepAll va c3 pick (s3, w3, m3) xs).snd.snd) (l, z.fst, z.snd.fst)).snd.snd ∧ m1 = m1 ∧ m2 = m2
 ∧ (keepAll va c3 pick (s3, w3, m3) rs).snd.snd = (keepP va c3 pick (s3, w3, (keepAll va c3 pick (s3, w3, m3) xs).snd.snd) (l, z.fst, z.snd.fst)).snd.snd) ∧ q0 = (1 : Int)) ∧ ((kindM z.snd.fst l == (2 : Int)) = false → U64 z.snd.fst ∧ ∃ (y :
 Int × Int × Rs), ((0 : Nat) = (0 : Nat) ∧ List.length m = List.length m ∧ y.snd.fst = ppnM z.snd.fst ∧ y.fst = IntKind.i64.wrap (l - (1 : Int)) ∧ va = va ∧ m = m ∧ va = va ∧ c0 = c0 ∧ c1 = c1 ∧ c2 = c2 ∧ c3 = c3 ∧ pick = pick ∧ x0 = x0 ∧ x1
 = x1 ∧ s1 = s1 ∧ w1 = w1 ∧ (0 : Nat) = (0 : Nat) ∧ List.length m1 = List.length m1 ∧ s2 = s2 ∧ w2 = w2 ∧ (0 : Nat) = (0 : Nat) ∧ List.length m2 = List.length m2 ∧ s3 = (keepP va c3 pick (s3, w3, (keepAll va c3 pick (s3, w3, m3) xs).snd.snd)
 (l, z.fst, z.snd.fst)).fst ∧ w3 = (keepP va c3 pick (s3, w3, (keepAll va c3 pick (s3, w3, m3) xs).snd.snd) (l, z.fst, z.snd.fst)).snd.fst ∧ (0 : Nat) = (0 : Nat) ∧ List.length (keepAll va c3 pick (s3, w3, m3) y.snd.snd).snd.snd =
 List.length (keepP va c3 pick (s3, w3, (keepAll va c3 pick (s3, w3, m3) xs).snd.snd) (l, z.fst, z.snd.fst)).snd.snd ∧ m1 = m1 ∧ m2 = m2 ∧ (keepAll va c3 pick (s3, w3, m3) y.snd.snd).snd.snd = (keepP va c3 pick (s3, w3, (keepAll va c3 pick
 (s3, w3, m3) xs).snd.snd) (l, z.fst, z.snd.fst)).snd.snd) ∧ StC m va (q0, q1, q2, rs) y.fst y.snd.fst y.snd.snd ∧ (y.fst + (1 : Int)).toNat < (l + (1 : Int)).toNat ∧ (∀ (z : Unit), q0 = (2 : Int) ∧ q1 = (0 : Int) ∧ q2 = (0 : Int) → q0 = (2
 : Int) ∧ q1 = (0 : Int) ∧ q2 = (0 : Int)) ∧ (∀ (z : Unit), q0 = (3 : Int) ∧ q2 = (0 : Int) → q0 = (3 : Int) ∧ q2 = (0 : Int)) ∧ (∀ (z : Unit), q0 = (2 : Int) ∧ q2 = (0 : Int) → q0 = (2 : Int) ∧ q2 = (0 : Int)) ∧ ∀ (z : Unit), q0 = (1 :
 Int) → q0 = (1 : Int))))) ∧ (decide (l ≥ (0 : Int)) = false → ∃ (z : Unit), (m = m ∧ va = va ∧ c0 = c0 ∧ c1 = c1 ∧ c2 = c2 ∧ c3 = c3 ∧ pick = pick ∧ x0 = x0 ∧ x1 = x1 ∧ s1 = s1 ∧ w1 = w1 ∧ (0 : Nat) = (0 : Nat) ∧ List.length m1 =
 List.length m1 ∧ s2 = s2 ∧ w2 = w2 ∧ (0 : Nat) = (0 : Nat) ∧ List.length m2 = List.length m2 ∧ s3 = s3 ∧ w3 = w3 ∧ (0 : Nat) = (0 : Nat) ∧ List.length (keepAll va c3 pick (s3, w3, m3) rs).snd.snd = List.length (keepAll va c3 pick (s3, w3,
 m3) xs).snd.snd ∧ m1 = m1 ∧ m2 = m2 ∧ (keepAll va c3 pick (s3, w3, m3) rs).snd.snd = (keepAll va c3 pick (s3, w3, m3) xs).snd.snd) ∧ q0 = (2 : Int) ∧ q1 = (0 : Int) ∧ q2 = (0 : Int))) := by kernel_rfl
theorem vc_walkC_eq (x0 x1 : Int) (m : By) (s1 w1 : Int) (m1 : Es) (s2 w2 : Int) (m2 : Es) (s3 w3 : Int) (m3 : Es) (va : Int) (c0 : Int) (c1 c2 : Bool) (c3 : Int) (pick : Int) (q0 q1 q2 : Int) (rs : Rs) (l p : Int) : vc_walkC x0 x1 m s1 w1 m1 s2 w2 m2 s3 w3 m3 va c0 c1 c2 c3 pick q0 q1 q2 rs l p = (
 ∃ (x : Int × Int × Rs), ((0 : Nat) = (0 : Nat) ∧ List.length m = List.length m ∧ x.snd.fst = p ∧ x.fst = l ∧ va = va ∧ m = m ∧ va = va ∧ c0 = c0 ∧ c1 = c1 ∧ c2 = c2 ∧ c3 = c3 ∧ pick = pick ∧ x0 = x0 ∧ x1 = x1 ∧ s1 = s1 ∧ w1 = w1 ∧ (0 : Nat)
 = (0 : Nat) ∧ List.length m1 = List.length m1 ∧ s2 = s2 ∧ w2 = w2 ∧ (0 : Nat) = (0 : Nat) ∧ List.length m2 = List.length m2 ∧ s3 = s3 ∧ w3 = w3 ∧ (0 : Nat) = (0 : Nat) ∧ List.length (keepAll va c3 pick (s3, w3, m3) x.snd.snd).snd.snd =
 List.length m3 ∧ m1 = m1 ∧ m2 = m2 ∧ (keepAll va c3 pick (s3, w3, m3) x.snd.snd).snd.snd = m3) ∧ StC m va (q0, q1, q2, rs) x.fst x.snd.fst x.snd.snd ∧ (∀ (z : Unit), q0 = (2 : Int) ∧ q1 = (0 : Int) ∧ q2 = (0 : Int) → False ∧ q0 = (1 : Int)
 ∨ False ∧ q0 = (3 : Int) ∨ (q2 = (0 : Int) ∧ q1 = (0 : Int) ∧ q1 = (0 : Int) ∧ m = m ∧ va = va ∧ c0 = c0 ∧ c1 = c1 ∧ c2 = c2 ∧ c3 = c3 ∧ pick = pick ∧ x0 = x0 ∧ x1 = x1 ∧ s1 = s1 ∧ w1 = w1 ∧ (0 : Nat) = (0 : Nat) ∧ List.length m1 =
 List.length m1 ∧ s2 = s2 ∧ w2 = w2 ∧ (0 : Nat) = (0 : Nat) ∧ List.length m2 = List.length m2 ∧ s3 = s3 ∧ w3 = w3 ∧ (0 : Nat) = (0 : Nat) ∧ List.length (keepAll va c3 pick (s3, w3, m3) rs).snd.snd = List.length (keepAll va c3 pick (s3, w3,
 m3) rs).snd.snd ∧ m1 = m1 ∧ m2 = m2 ∧ (keepAll va c3 pick (s3, w3, m3) rs).snd.snd = (keepAll va c3 pick (s3, w3, m3) rs).snd.snd) ∧ q0 = (2 : Int)) ∧ (∀ (z : Unit), q0 = (3 : Int) ∧ q2 = (0 : Int) → False ∧ q0 = (1 : Int) ∨ (q2 = (0 :
 Int) ∧ q1 = q1 ∧ q1 = q1 ∧ m = m ∧ va = va ∧ c0 = c0 ∧ c1 = c1 ∧ c2 = c2 ∧ c3 = c3 ∧ pick = pick ∧ x0 = x0 ∧ x1 = x1 ∧ s1 = s1 ∧ w1 = w1 ∧ (0 : Nat) = (0 : Nat) ∧ List.length m1 = List.length m1 ∧ s2 = s2 ∧ w2 = w2 ∧ (0 : Nat) = (0 : Nat) ∧
 List.length m2 = List.length m2 ∧ s3 = s3 ∧ w3 = w3 ∧ (0 : Nat) = (0 : Nat) ∧ List.length (keepAll va c3 pick (s3, w3, m3) rs).snd.snd = List.length (keepAll va c3 pick (s3, w3, m3) rs).snd.snd ∧ m1 = m1 ∧ m2 = m2 ∧ (keepAll va c3 pick (s3,
 w3, m3) rs).snd.snd = (keepAll va c3 pick (s3, w3, m3) rs).snd.snd) ∧ q0 = (3 : Int) ∨ False ∧ q0 = (2 : Int)) ∧ (∀ (z : Unit), q0 = (2 : Int) ∧ q2 = (0 : Int) → False ∧ q0 = (1 : Int) ∨ False ∧ q0 = (3 : Int) ∨ (q2 = (0 : Int) ∧ q1 = q1 ∧
 q1 = q1 ∧ m = m ∧ va = va ∧ c0 = c0 ∧ c1 = c1 ∧ c2 = c2 ∧ c3 = c3 ∧ pick = pick ∧ x0 = x0 ∧ x1 = x1 ∧ s1 = s1 ∧ w1 = w1 ∧ (0 : Nat) = (0 : Nat) ∧ List.length m1 = List.length m1 ∧ s2 = s2 ∧ w2 = w2 ∧ (0 : Nat) = (0 : Nat) ∧ List.length m2 =
 List.length m2 ∧ s3 = s3 ∧ w3 = w3 ∧ (0 : Nat) = (0 : Nat) ∧ List.length (keepAll va c3 pick (s3, w3, m3) rs).snd.snd = List.length (keepAll va c3 pick (s3, w3, m3) rs).snd.snd ∧ m1 = m1 ∧ m2 = m2 ∧ (keepAll va c3 pick (s3, w3, m3)
 rs).snd.snd = (keepAll va c3 pick (s3, w3, m3) rs).snd.snd) ∧ q0 = (2 : Int)) ∧ ∀ (z : Unit), q0 = (1 : Int) → (q2 = q2 ∧ q1 = q1 ∧ Value.nilIface = Value.nilIface ∧ m = m ∧ va = va ∧ c0 = c0 ∧ c1 = c1 ∧ c2 = c2 ∧ c3 = c3 ∧ pick = pick ∧
 x0 = x0 ∧ x1 = x1 ∧ s1 = s1 ∧ w1 = w1 ∧ (0 : Nat) = (0 : Nat) ∧ List.length m1 = List.length m1 ∧ s2 = s2 ∧ w2 = w2 ∧ (0 : Nat) = (0 : Nat) ∧ List.length m2 = List.length m2 ∧ s3 = s3 ∧ w3 = w3 ∧ (0 : Nat) = (0 : Nat) ∧ List.length (keepAll
 va c3 pick (s3, w3, m3) rs).snd.snd = List.length (keepAll va c3 pick (s3, w3, m3) rs).snd.snd ∧ m1 = m1 ∧ m2 = m2 ∧ (keepAll va c3 pick (s3, w3, m3) rs).snd.snd = (keepAll va c3 pick (s3, w3, m3) rs).snd.snd) ∧ q0 = (1 : Int) ∨ False ∧ q0
 = (3 : Int) ∨ False ∧ q0 = (2 : Int)) := by kernel_rfl
theorem vc_trI_eq (x0 x1 : Int) (m : By) (s1 w1 : Int) (m1 : Es) (s2 w2 : Int) (m2 : Es) (s3 w3 : Int) (m3 : Es) (c0 : Int) (c1 c2 : Bool) (c3 : Int) (kind va pick : Int) (e : Nat) (pa l : Int) (t1 t2 t3 : Es) : vc_trI x0 x1 m s1 w1 m1 s2 w2 m2 s3 w3 m3 c0 c1 c2 c3 kind va pick e pa l t1 t2 t3 = (
 U64 c3 ∧ ((!onM (c0, c1, c2, c3)) = true → (pa = va ∧ Value.nilIface = Value.nilIface ∧ x0 = x0 ∧ x1 = x1 ∧ s1 = s1 ∧ w1 = w1 ∧ (0 : Nat) = (0 : Nat) ∧ List.length t1 = List.length m1 ∧ s2 = s2 ∧ w2 = w2 ∧ (0 : Nat) = (0 : Nat) ∧
 List.length t2 = List.length m2 ∧ s3 = s3 ∧ w3 = w3 ∧ (0 : Nat) = (0 : Nat) ∧ List.length t3 = List.length m3 ∧ t1 = m1 ∧ t2 = m2 ∧ t3 = m3 ∧ m = m) ∧ e = (0 : Nat) ∨ False ∧ e = (1 : Nat) ∨ False ∧ e = (2 : Nat)) ∧ ((!onM (c0, c1, c2, c3))
 = false → U64 va ∧ ((!canM va) = true → False ∧ e = (0 : Nat) ∨ False ∧ e = (1 : Nat) ∨ (pa = (0 : Int) ∧ l = (2 : Int) ∧ x0 = x0 ∧ x1 = x1 ∧ s1 = s1 ∧ w1 = w1 ∧ (0 : Nat) = (0 : Nat) ∧ List.length t1 = List.length m1 ∧ s2 = s2 ∧ w2 = w2 ∧
 (0 : Nat) = (0 : Nat) ∧ List.length t2 = List.length m2 ∧ s3 = s3 ∧ w3 = w3 ∧ (0 : Nat) = (0 : Nat) ∧ List.length t3 = List.length m3 ∧ t1 = m1 ∧ t2 = m2 ∧ t3 = m3 ∧ m = m) ∧ e = (2 : Nat)) ∧ ((!canM va) = false → (kind == (0 : Int)) = true
 ∧ U64 c3 ∧ (List.length m1 = List.length m1 ∧ eitherM (s1, w1, m1) = true ∧ TlR (s1, w1, m1) ∧ U64 va) ∧ ∃ (z : Bool × Int × Int × Int), ((0 : Nat) = (0 : Nat) ∧ List.length m = List.length m ∧ kind = kind ∧ x0 = x0 ∧ x1 = x1 ∧ s1 = s1 ∧ w1
 = w1 ∧ (0 : Nat) = (0 : Nat) ∧ List.length m1 = List.length m1 ∧ s2 = s2 ∧ w2 = w2 ∧ (0 : Nat) = (0 : Nat) ∧ List.length m2 = List.length m2 ∧ s3 = s3 ∧ w3 = w3 ∧ (0 : Nat) = (0 : Nat) ∧ List.length m3 = List.length m3 ∧ m1 = m1 ∧ m2 = m2 ∧
 m3 = m3 ∧ m = m ∧ c0 = c0 ∧ c1 = c1 ∧ c2 = c2 ∧ c3 = c3 ∧ va = va ∧ pick = pick ∧ z.fst = (findM va (asidM c3) m1).fst ∧ z.snd.fst = (findM va (asidM c3) m1).snd.fst ∧ z.snd.snd.fst = (findM va (asidM c3) m1).snd.snd.fst ∧ z.snd.snd.snd =
 (findM va (asidM c3) m1).snd.snd.snd) ∧ (z.fst = true → U64 z.snd.snd.snd ∧ ((!grantM z.snd.snd.snd kind c0 c1 c2) = true → False ∧ e = (0 : Nat) ∨ False ∧ e = (1 : Nat) ∨ (pa = (0 : Int) ∧ l = z.snd.snd.fst ∧ x0 = x0 ∧ x1 = x1 ∧ s1 = s1 ∧
 w1 = w1 ∧ (0 : Nat) = (0 : Nat) ∧ List.length t1 = List.length m1 ∧ s2 = s2 ∧ w2 = w2 ∧ (0 : Nat) = (0 : Nat) ∧ List.length t2 = List.length m2 ∧ s3 = s3 ∧ w3 = w3 ∧ (0 : Nat) = (0 : Nat) ∧ List.length t3 = List.length m3 ∧ t1 = m1 ∧ t2 =
 m2 ∧ t3 = m3 ∧ m = m) ∧ e = (2 : Nat)) ∧ ((!grantM z.snd.snd.snd kind c0 c1 c2) = false → (U64 z.snd.snd.snd ∧ LvR z.snd.snd.fst ∧ U64 va) ∧ ((pa = physM z.snd.snd.snd z.snd.snd.fst va ∧ Value.nilIface = Value.nilIface ∧ x0 = x0 ∧ x1 = x1 ∧
 s1 = s1 ∧ w1 = w1 ∧ (0 : Nat) = (0 : Nat) ∧ List.length t1 = List.length m1 ∧ s2 = s2 ∧ w2 = w2 ∧ (0 : Nat) = (0 : Nat) ∧ List.length t2 = List.length m2 ∧ s3 = s3 ∧ w3 = w3 ∧ (0 : Nat) = (0 : Nat) ∧ List.length t3 = List.length m3 ∧ t1 =
 m1 ∧ t2 = m2 ∧ t3 = m3 ∧ m = m) ∧ e = (0 : Nat) ∨ False ∧ e = (1 : Nat) ∨ False ∧ e = (2 : Nat)))) ∧ (z.fst = false → U64 c3 ∧ U64 c3 ∧ (List.length m3 = List.length m3 ∧ eitherM (s3, w3, m3) = true ∧ TlR (s3, w3, m3) ∧ U64 va) ∧ ∃ (z :
 Bool × Int × Int × Int), ((0 : Nat) = (0 : Nat) ∧ List.length m = List.length m ∧ kind = kind ∧ rootM c3 = rootM c3 ∧ (2 : Int) = (2 : Int) ∧ x0 = x0 ∧ x1 = x1 ∧ s1 = s1 ∧ w1 = w1 ∧ (0 : Nat) = (0 : Nat) ∧ List.length m1 = List.length m1 ∧
 s2 = s2 ∧ w2 = w2 ∧ (0 : Nat) = (0 : Nat) ∧ List.length m2 = List.length m2 ∧ s3 = s3 ∧ w3 = w3 ∧ (0 : Nat) = (0 : Nat) ∧ List.length m3 = List.length m3 ∧ m1 = m1 ∧ m2 = m2 ∧ m3 = m3 ∧ m = m ∧ c0 = c0 ∧ c1 = c1 ∧ c2 = c2 ∧ c3 = c3 ∧ va =
 va ∧ pick = pick ∧ z.fst = (findM va (asidM c3) m3).fst ∧ z.snd.fst = (findM va (asidM c3) m3).snd.fst ∧ z.snd.snd.fst = (findM va (asidM c3) m3).snd.snd.fst ∧ z.snd.snd.snd = (findM va (asidM c3) m3).snd.snd.snd) ∧ (z.fst = true → U64
 z.snd.snd.snd ∧ ∃ (z_1 : Int × Int), ((0 : Nat) = (0 : Nat) ∧ List.length m = List.length m ∧ kind = kind ∧ z_1.fst = ppnM z.snd.snd.snd ∧ z_1.snd = IntKind.i64.wrap (z.snd.snd.fst - (1 : Int)) ∧ x0 = x0 ∧ x1 = x1 ∧ s1 = s1 ∧ w1 = w1 ∧ (0 :
 Nat) = (0 : Nat) ∧ List.length m1 = List.length m1 ∧ s2 = s2 ∧ w2 = w2 ∧ (0 : Nat) = (0 : Nat) ∧ List.length m2 = List.length m2 ∧ s3 = s3 ∧ w3 = w3 ∧ (0 : Nat) = (0 : Nat) ∧ List.length m3 = List.length m3 ∧ m1 = m1 ∧ m2 = m2 ∧ m3 = m3 ∧ m
 = m ∧ c0 = c0 ∧ c1 = c1 ∧ c2 = c2 ∧ c3 = c3 ∧ va = va ∧ pick = pick) ∧ (List.length m = List.length m ∧ va = va ∧ (List.length m1, List.length m2, List.length m3) = (List.length m1, List.length m2, List.length m3) ∧ (FromR m z_1.fst z_1.snd
 va ∧ headM s3 w3 m3 = true ∧ U64 c3 ∧ (0 : Int) ≤ pick ∧ pick ≤ (255 : Int)) ∧ codeK (0 : Nat) (walkN m va (z_1.snd + (1 : Int)).toNat z_1.fst) ∨ List.length m = List.length m ∧ va = va ∧ (List.length m1, List.length m2, List.length m3) =
 (List.length m1, List.length m2, List.length m3) ∧ (FromR m z_1.fst z_1.snd va ∧ headM s3 w3 m3 = true ∧ U64 c3 ∧ (0 : Int) ≤ pick ∧ pick ≤ (255 : Int)) ∧ codeK ((0 : Nat) + (1 : Nat)) (walkN m va (z_1.snd + (1 : Int)).toNat z_1.fst) ∨
 List.length m = List.length m ∧ va = va ∧ (List.length m1, List.length m2, List.length m3) = (List.length m1, List.length m2, List.length m3) ∧ (FromR m z_1.fst z_1.snd va ∧ headM s3 w3 m3 = true ∧ U64 c3 ∧ (0 : Int) ≤ pick ∧ pick ≤ (255 :
 Int)) ∧ codeK ((0 : Nat) + (1 : Nat) + (1 : Nat)) (walkN m va (z_1.snd + (1 : Int)).toNat z_1.fst)) ∧ (List.length m = List.length m ∧ va = va ∧ (List.length m1, List.length m2, List.length m3) = (List.length m1, List.length m2, List.length
 m3) ∧ (FromR m z_1.fst z_1.snd va ∧ headM s3 w3 m3 = true ∧ U64 c3 ∧ (0 : Int) ≤ pick ∧ pick ≤ (255 : Int)) ∧ codeK (0 : Nat) (walkN m va (z_1.snd + (1 : Int)).toNat z_1.fst) → (true = true → U64 (walkN m va (z_1.snd + (1 : Int)).toNat
 z_1.fst).snd.snd.fst) ∧ ((!grantM (walkN m va (z_1.snd + (1 : Int)).toNat z_1.fst).snd.snd.fst kind c0 c1 c2) = true → False ∧ e = (0 : Nat) ∨ False ∧ e = (1 : Nat) ∨ (pa = (0 : Int) ∧ l = (walkN m va (z_1.snd + (1 : Int)).toNat
 z_1.fst).snd.fst ∧ x0 = x0 ∧ x1 = x1 ∧ s1 = s1 ∧ w1 = w1 ∧ (0 : Nat) = (0 : Nat) ∧ List.length t1 = List.length m1 ∧ s2 = s2 ∧ w2 = w2 ∧ (0 : Nat) = (0 : Nat) ∧ List.length t2 = List.length m2 ∧ s3 = s3 ∧ w3 = w3 ∧ (0 : Nat) = (0 : Nat) ∧
 List.length t3 = List.length (keepAll va c3 pick (s3, w3, m3) (walkN m va (z_1.snd + (1 : Int)).toNat z_1.fst).snd.snd.snd).snd.snd ∧ t1 = m1 ∧ t2 = m2 ∧ t3 = (keepAll va c3 pick (s3, w3, m3) (walkN m va (z_1.snd + (1 : Int)).toNat
 z_1.fst).snd.snd.snd).snd.snd ∧ m = m) ∧ e = (2 : Nat)) ∧ ((!grantM (walkN m va (z_1.snd + (1 : Int)).toNat z_1.fst).snd.snd.fst kind c0 c1 c2) = false → ((!true) = true → (pa = (0 : Int) ∧ Value.nilIface = Value.nilIface ∧ x0 = x0 ∧ x1 =
 x1 ∧ s1 = s1 ∧ w1 = w1 ∧ (0 : Nat) = (0 : Nat) ∧ List.length t1 = List.length m1 ∧ s2 = s2 ∧ w2 = w2 ∧ (0 : Nat) = (0 : Nat) ∧ List.length t2 = List.length m2 ∧ s3 = s3 ∧ w3 = w3 ∧ (0 : Nat) = (0 : Nat) ∧ List.length t3 = List.length
 (keepAll va c3 pick (s3, w3, m3) (walkN m va (z_1.snd + (1 : Int)).toNat z_1.fst).snd.snd.snd).snd.snd ∧ t1 = m1 ∧ t2 = m2 ∧ t3 = (keepAll va c3 pick (s3, w3, m3) (walkN m va (z_1.snd + (1 : Int)).toNat z_1.fst).snd.snd.snd).snd.snd ∧ m =
 m) ∧ e = (0 : Nat) ∨ False ∧ e = (1 : Nat) ∨ False ∧ e = (2 : Nat)) ∧ ((!true) = false → ((List.length m1, List.length m2, List.length (keepAll va c3 pick (s3, w3, m3) (walkN m va (z_1.snd + (1 : Int)).toNat z_1.fst).snd.snd.snd).snd.snd) =
 (List.length m1, List.length m2, List.length (keepAll va c3 pick (s3, w3, m3) (walkN m va (z_1.snd + (1 : Int)).toNat z_1.fst).snd.snd.snd).snd.snd) ∧ headM s1 w1 m1 = true ∧ LvR (walkN m va (z_1.snd + (1 : Int)).toNat z_1.fst).snd.fst ∧
 U64 va ∧ U64 c3 ∧ U64 (walkN m va (z_1.snd + (1 : Int)).toNat z_1.fst).snd.snd.fst ∧ (0 : Int) ≤ pick ∧ pick ≤ (255 : Int)) ∧ (U64 (walkN m va (z_1.snd + (1 : Int)).toNat z_1.fst).snd.snd.fst ∧ LvR (walkN m va (z_1.snd + (1 : Int)).toNat
 z_1.fst).snd.fst ∧ U64 va) ∧ ((pa = physM (walkN m va (z_1.snd + (1 : Int)).toNat z_1.fst).snd.snd.fst (walkN m va (z_1.snd + (1 : Int)).toNat z_1.fst).snd.fst va ∧ Value.nilIface = Value.nilIface ∧ x0 = x0 ∧ x1 = x1 ∧ s1 = (insT (s1, w1,
 m1) (entM (walkN m va (z_1.snd + (1 : Int)).toNat z_1.fst).snd.fst va c3 (walkN m va (z_1.snd + (1 : Int)).toNat z_1.fst).snd.snd.fst) pick).fst ∧ w1 = (insT (s1, w1, m1) (entM (walkN m va (z_1.snd + (1 : Int)).toNat z_1.fst).snd.fst va c3
 (walkN m va (z_1.snd + (1 : Int)).toNat z_1.fst).snd.snd.fst) pick).snd.fst ∧ (0 : Nat) = (0 : Nat) ∧ List.length t1 = List.length (insT (s1, w1, m1) (entM (walkN m va (z_1.snd + (1 : Int)).toNat z_1.fst).snd.fst va c3 (walkN m va (z_1.snd
 + (1 : Int)).toNat z_1.fst).snd.snd.fst) pick).snd.snd ∧ s2 = s2 ∧ w2 = w2 ∧ (0 : Nat) = (0 : Nat) ∧ List.length t2 = List.length m2 ∧ s3 = s3 ∧ w3 = w3 ∧ (0 : Nat) = (0 : Nat) ∧ List.length t3 = List.length (keepAll va c3 pick (s3, w3, m3)
 (walkN m va (z_1.snd + (1 : Int)).toNat z_1.fst).snd.snd.snd).snd.snd ∧ t1 = (insT (s1, w1, m1) (entM (walkN m va (z_1.snd + (1 : Int)).toNat z_1.fst).snd.fst va c3 (walkN m va (z_1.snd + (1 : Int)).toNat z_1.fst).snd.snd.fst) pick).snd.snd
 ∧ t2 = m2 ∧ t3 = (keepAll va c3 pick (s3, w3, m3) (walkN m va (z_1.snd + (1 : Int)).toNat z_1.fst).snd.snd.snd).snd.snd ∧ m = m) ∧ e = (0 : Nat) ∨ False ∧ e = (1 : Nat) ∨ False ∧ e = (2 : Nat))))) ∧ (List.length m = List.length m ∧ va = va
 ∧ (List.length m1, List.length m2, List.length m3) = (List.length m1, List.length m2, List.length m3) ∧ (FromR m z_1.fst z_1.snd va ∧ headM s3 w3 m3 = true ∧ U64 c3 ∧ (0 : Int) ≤ pick ∧ pick ≤ (255 : Int)) ∧ codeK ((0 : Nat) + (1 : Nat))
 (walkN m va (z_1.snd + (1 : Int)).toNat z_1.fst) → False ∧ e = (0 : Nat) ∨ (pa = (0 : Int) ∧ l = (walkN m va (z_1.snd + (1 : Int)).toNat z_1.fst).snd.fst ∧ x0 = x0 ∧ x1 = x1 ∧ s1 = s1 ∧ w1 = w1 ∧ (0 : Nat) = (0 : Nat) ∧ List.length t1 =
 List.length m1 ∧ s2 = s2 ∧ w2 = w2 ∧ (0 : Nat) = (0 : Nat) ∧ List.length t2 = List.length m2 ∧ s3 = s3 ∧ w3 = w3 ∧ (0 : Nat) = (0 : Nat) ∧ List.length t3 = List.length (keepAll va c3 pick (s3, w3, m3) (walkN m va (z_1.snd + (1 : Int)).toNat
 z_1.fst).snd.snd.snd).snd.snd ∧ t1 = m1 ∧ t2 = m2 ∧ t3 = (keepAll va c3 pick (s3, w3, m3) (walkN m va (z_1.snd + (1 : Int)).toNat z_1.fst).snd.snd.snd).snd.snd ∧ m = m) ∧ e = (1 : Nat) ∨ False ∧ e = (2 : Nat)) ∧ (List.length m = List.length
 m ∧ va = va ∧ (List.length m1, List.length m2, List.length m3) = (List.length m1, List.length m2, List.length m3) ∧ (FromR m z_1.fst z_1.snd va ∧ headM s3 w3 m3 = true ∧ U64 c3 ∧ (0 : Int) ≤ pick ∧ pick ≤ (255 : Int)) ∧ codeK ((0 : Nat) +
 (1 : Nat) + (1 : Nat)) (walkN m va (z_1.snd + (1 : Int)).toNat z_1.fst) → False ∧ e = (0 : Nat) ∨ False ∧ e = (1 : Nat) ∨ (pa = (0 : Int) ∧ l = (walkN m va (z_1.snd + (1 : Int)).toNat z_1.fst).snd.fst ∧ x0 = x0 ∧ x1 = x1 ∧ s1 = s1 ∧ w1 = w1
 ∧ (0 : Nat) = (0 : Nat) ∧ List.length t1 = List.length m1 ∧ s2 = s2 ∧ w2 = w2 ∧ (0 : Nat) = (0 : Nat) ∧ List.length t2 = List.length m2 ∧ s3 = s3 ∧ w3 = w3 ∧ (0 : Nat) = (0 : Nat) ∧ List.length t3 = List.length (keepAll va c3 pick (s3, w3,
 m3) (walkN m va (z_1.snd + (1 : Int)).toNat z_1.fst).snd.snd.snd).snd.snd ∧ t1 = m1 ∧ t2 = m2 ∧ t3 = (keepAll va c3 pick (s3, w3, m3) (walkN m va (z_1.snd + (1 : Int)).toNat z_1.fst).snd.snd.snd).snd.snd ∧ m = m) ∧ e = (2 : Nat))) ∧ (z.fst
 = false → ∃ (z : Int × Int), ((0 : Nat) = (0 : Nat) ∧ List.length m = List.length m ∧ kind = kind ∧ z.fst = rootM c3 ∧ z.snd = (2 : Int) ∧ x0 = x0 ∧ x1 = x1 ∧ s1 = s1 ∧ w1 = w1 ∧ (0 : Nat) = (0 : Nat) ∧ List.length m1 = List.length m1 ∧ s2
 = s2 ∧ w2 = w2 ∧ (0 : Nat) = (0 : Nat) ∧ List.length m2 = List.length m2 ∧ s3 = s3 ∧ w3 = w3 ∧ (0 : Nat) = (0 : Nat) ∧ List.length m3 = List.length m3 ∧ m1 = m1 ∧ m2 = m2 ∧ m3 = m3 ∧ m = m ∧ c0 = c0 ∧ c1 = c1 ∧ c2 = c2 ∧ c3 = c3 ∧ va = va ∧
 pick = pick) ∧ (List.length m = List.length m ∧ va = va ∧ (List.length m1, List.length m2, List.length m3) = (List.length m1, List.length m2, List.length m3) ∧ (FromR m z.fst z.snd va ∧ headM s3 w3 m3 = true ∧ U64 c3 ∧ (0 : Int) ≤ pick ∧
 pick ≤ (255 : Int)) ∧ codeK (0 : Nat) (walkN m va (z.snd + (1 : Int)).toNat z.fst) ∨ List.length m = List.length m ∧ va = va ∧ (List.length m1, List.length m2, List.length m3) = (List.length m1, List.length m2, List.length m3) ∧ (FromR m
 z.fst z.snd va ∧ headM s3 w3 m3 = true ∧ U64 c3 ∧ (0 : Int) ≤ pick ∧ pick ≤ (255 : Int)) ∧ codeK ((0 : Nat) + (1 : Nat)) (walkN m va (z.snd + (1 : Int)).toNat z.fst) ∨ List.length m = List.length m ∧ va = va ∧ (List.length m1, List.length
 m2, List.length m3) = (List.length m1, List.length m2, List.length m3) ∧ (FromR m z.fst z.snd va ∧ headM s3 w3 m3 = true ∧ U64 c3 ∧ (0 : Int) ≤ pick ∧ pick ≤ (255 : Int)) ∧ codeK ((0 : Nat) + (1 : Nat) + (1 : Nat)) (walkN m va (z.snd + (1 :
 Int)).toNat z.fst)) ∧ (List.length m = List.length m ∧ va = va ∧ (List.length m1, List.length m2, List.length m3) = (List.length m1, List.length m2, List.length m3) ∧ (FromR m z.fst z.snd va ∧ headM s3 w3 m3 = true ∧ U64 c3 ∧ (0 : Int) ≤
 pick ∧ pick ≤ (255 : Int)) ∧ codeK (0 : Nat) (walkN m va (z.snd + (1 : Int)).toNat z.fst) → (true = true → U64 (walkN m va (z.snd + (1 : Int)).toNat z.fst).snd.snd.fst) ∧ ((!grantM (walkN m va (z.snd + (1 : Int)).toNat z.fst).snd.snd.fst
 kind c0 c1 c2) = true → False ∧ e = (0 : Nat) ∨ False ∧ e = (1 : Nat) ∨ (pa = (0 : Int) ∧ l = (walkN m va (z.snd + (1 : Int)).toNat z.fst).snd.fst ∧ x0 = x0 ∧ x1 = x1 ∧ s1 = s1 ∧ w1 = w1 ∧ (0 : Nat) = (0 : Nat) ∧ List.length t1 =
 List.length m1 ∧ s2 = s2 ∧ w2 = w2 ∧ (0 : Nat) = (0 : Nat) ∧ List.length t2 = List.length m2 ∧ s3 = s3 ∧ w3 = w3 ∧ (0 : Nat) = (0 : Nat) ∧ List.length t3 = List.length (keepAll va c3 pick (s3, w3, m3) (walkN m va (z.snd + (1 : Int)).toNat
 z.fst).snd.snd.snd).snd.snd ∧ t1 = m1 ∧ t2 = m2 ∧ t3 = (keepAll va c3 pick (s3, w3, m3) (walkN m va (z.snd + (1 : Int)).toNat z.fst).snd.snd.snd).snd.snd ∧ m = m) ∧ e = (2 : Nat)) ∧ ((!grantM (walkN m va (z.snd + (1 : Int)).toNat
 z.fst).snd.snd.fst kind c0 c1 c2) = false → ((!true) = true → (pa = (0 : Int) ∧ Value.nilIface = Value.nilIface ∧ x0 = x0 ∧ x1 = x1 ∧ s1 = s1 ∧ w1 = w1 ∧ (0 : Nat) = (0 : Nat) ∧ List.length t1 = List.length m1 ∧ s2 = s2 ∧ w2 = w2 ∧ (0 :
 Nat) = (0 : Nat) ∧ List.length t2 = List.length m2 ∧ s3 = s3 ∧ w3 = w3 ∧ (0 : Nat) = (0 : Nat) ∧ List.length t3 = List.length (keepAll va c3 pick (s3, w3, m3) (walkN m va (z.snd + (1 : Int)).toNat z.fst).snd.snd.snd).snd.snd ∧ t1 = m1 ∧ t2
 = m2 ∧ t3 = (keepAll va c3 pick (s3, w3, m3) (walkN m va (z.snd + (1 : Int)).toNat z.fst).snd.snd.snd).snd.snd ∧ m = m) ∧ e = (0 : Nat) ∨ False ∧ e = (1 : Nat) ∨ False ∧ e = (2 : Nat)) ∧ ((!true) = false → ((List.length m1, List.length m2,
 List.length (keepAll va c3 pick (s3, w3, m3) (walkN m va (z.snd + (1 : Int)).toNat z.fst).snd.snd.snd).snd.snd) = (List.length m1, List.length m2, List.length (keepAll va c3 pick (s3, w3, m3) (walkN m va (z.snd + (1 : Int)).toNat
 z.fst).snd.snd.snd).snd.snd) ∧ headM s1 w1 m1 = true ∧ LvR (walkN m va (z.snd + (1 : Int)).toNat z.fst).snd.fst ∧ U64 va ∧ U64 c3 ∧ U64 (walkN m va (z.snd + (1 : Int)).toNat z.fst).snd.snd.fst ∧ (0 : Int) ≤ pick ∧ pick ≤ (255 : Int)) ∧ (U64
 (walkN m va (z.snd + (1 : Int)).toNat z.fst).snd.snd.fst ∧ LvR (walkN m va (z.snd + (1 : Int)).toNat z.fst).snd.fst ∧ U64 va) ∧ ((pa = physM (walkN m va (z.snd + (1 : Int)).toNat z.fst).snd.snd.fst (walkN m va (z.snd + (1 : Int)).toNat
 z.fst).snd.fst va ∧ Value.nilIface = Value.nilIface ∧ x0 = x0 ∧ x1 = x1 ∧ s1 = (insT (s1, w1, m1) (entM (walkN m va (z.snd + (1 : Int)).toNat z.fst).snd.fst va c3 (walkN m va (z.snd + (1 : Int)).toNat z.fst).snd.snd.fst) pick).fst ∧ w1 =
 (insT (s1, w1, m1) (entM (walkN m va (z.snd + (1 : Int)).toNat z.fst).snd.fst va c3 (walkN m va (z.snd + (1 : Int)).toNat z.fst).snd.snd.fst) pick).snd.fst ∧ (0 : Nat) = (0 : Nat) ∧ List.length t1 = List.length (insT (s1, w1, m1) (entM
 (walkN m va (z.snd + (1 : Int)).toNat z.fst).snd.fst va c3 (walkN m va (z.snd + (1 : Int)).toNat z.fst).snd.snd.fst) pick).snd.snd ∧ s2 = s2 ∧ w2 = w2 ∧ (0 : Nat) = (0 : Nat) ∧ List.length t2 = List.length m2 ∧ s3 = s3 ∧ w3 = w3 ∧ (0 : Nat)
 = (0 : Nat) ∧ List.length t3 = List.length (keepAll va c3 pick (s3, w3, m3) (walkN m va (z.snd + (1 : Int)).toNat z.fst).snd.snd.snd).snd.snd ∧ t1 = (insT (s1, w1, m1) (entM (walkN m va (z.snd + (1 : Int)).toNat z.fst).snd.fst va c3 (walkN
 m va (z.snd + (1 : Int)).toNat z.fst).snd.snd.fst) pick).snd.snd ∧ t2 = m2 ∧ t3 = (keepAll va c3 pick (s3, w3, m3) (walkN m va (z.snd + (1 : Int)).toNat z.fst).snd.snd.snd).snd.snd ∧ m = m) ∧ e = (0 : Nat) ∨ False ∧ e = (1 : Nat) ∨ False ∧
 e = (2 : Nat))))) ∧ (List.length m = List.length m ∧ va = va ∧ (List.length m1, List.length m2, List.length m3) = (List.length m1, List.length m2, List.length m3) ∧ (FromR m z.fst z.snd va ∧ headM s3 w3 m3 = true ∧ U64 c3 ∧ (0 : Int) ≤ pick
 ∧ pick ≤ (255 : Int)) ∧ codeK ((0 : Nat) + (1 : Nat)) (walkN m va (z.snd + (1 : Int)).toNat z.fst) → False ∧ e = (0 : Nat) ∨ (pa = (0 : Int) ∧ l = (walkN m va (z.snd + (1 : Int)).toNat z.fst).snd.fst ∧ x0 = x0 ∧ x1 = x1 ∧ s1 = s1 ∧ w1 = w1
 ∧ (0 : Nat) = (0 : Nat) ∧ List.length t1 = List.length m1 ∧ s2 = s2 ∧ w2 = w2 ∧ (0 : Nat) = (0 : Nat) ∧ List.length t2 = List.length m2 ∧ s3 = s3 ∧ w3 = w3 ∧ (0 : Nat) = (0 : Nat) ∧ List.length t3 = List.length (keepAll va c3 pick (s3, w3,
 m3) (walkN m va (z.snd + (1 : Int)).toNat z.fst).snd.snd.snd).snd.snd ∧ t1 = m1 ∧ t2 = m2 ∧ t3 = (keepAll va c3 pick (s3, w3, m3) (walkN m va (z.snd + (1 : Int)).toNat z.fst).snd.snd.snd).snd.snd ∧ m = m) ∧ e = (1 : Nat) ∨ False ∧ e = (2 :
 Nat)) ∧ (List.length m = List.length m ∧ va = va ∧ (List.length m1, List.length m2, List.length m3) = (List.length m1, List.length m2, List.length m3) ∧ (FromR m z.fst z.snd va ∧ headM s3 w3 m3 = true ∧ U64 c3 ∧ (0 : Int) ≤ pick ∧ pick ≤
 (255 : Int)) ∧ codeK ((0 : Nat) + (1 : Nat) + (1 : Nat)) (walkN m va (z.snd + (1 : Int)).toNat z.fst) → False ∧ e = (0 : Nat) ∨ False ∧ e = (1 : Nat) ∨ (pa = (0 : Int) ∧ l = (walkN m va (z.snd + (1 : Int)).toNat z.fst).snd.fst ∧ x0 = x0 ∧
 x1 = x1 ∧ s1 = s1 ∧ w1 = w1 ∧ (0 : Nat) = (0 : Nat) ∧ List.length t1 = List.length m1 ∧ s2 = s2 ∧ w2 = w2 ∧ (0 : Nat) = (0 : Nat) ∧ List.length t2 = List.length m2 ∧ s3 = s3 ∧ w3 = w3 ∧ (0 : Nat) = (0 : Nat) ∧ List.length t3 = List.length
 (keepAll va c3 pick (s3, w3, m3) (walkN m va (z.snd + (1 : Int)).toNat z.fst).snd.snd.snd).snd.snd ∧ t1 = m1 ∧ t2 = m2 ∧ t3 = (keepAll va c3 pick (s3, w3, m3) (walkN m va (z.snd + (1 : Int)).toNat z.fst).snd.snd.snd).snd.snd ∧ m = m) ∧ e =
 (2 : Nat))))))) := by kernel_rfl
theorem vc_trD_eq (x0 x1 : Int) (m : By) (s1 w1 : Int) (m1 : Es) (s2 w2 : Int) (m2 : Es) (s3 w3 : Int) (m3 : Es) (c0 : Int) (c1 c2 : Bool) (c3 : Int) (kind va pick : Int) (e : Nat) (pa l : Int) (t1 t2 t3 : Es) : vc_trD x0 x1 m s1 w1 m1 s2 w2 m2 s3 w3 m3 c0 c1 c2 c3 kind va pick e pa l t1 t2 t3 = (
 U64 c3 ∧ ((!onM (c0, c1, c2, c3)) = true → (pa = va ∧ Value.nilIface = Value.nilIface ∧ x0 = x0 ∧ x1 = x1 ∧ s1 = s1 ∧ w1 = w1 ∧ (0 : Nat) = (0 : Nat) ∧ List.length t1 = List.length m1 ∧ s2 = s2 ∧ w2 = w2 ∧ (0 : Nat) = (0 : Nat) ∧
 List.length t2 = List.length m2 ∧ s3 = s3 ∧ w3 = w3 ∧ (0 : Nat) = (0 : Nat) ∧ List.length t3 = List.length m3 ∧ t1 = m1 ∧ t2 = m2 ∧ t3 = m3 ∧ m = m) ∧ e = (0 : Nat) ∨ False ∧ e = (1 : Nat) ∨ False ∧ e = (2 : Nat)) ∧ ((!onM (c0, c1, c2, c3))
 = false → U64 va ∧ ((!canM va) = true → False ∧ e = (0 : Nat) ∨ False ∧ e = (1 : Nat) ∨ (pa = (0 : Int) ∧ l = (2 : Int) ∧ x0 = x0 ∧ x1 = x1 ∧ s1 = s1 ∧ w1 = w1 ∧ (0 : Nat) = (0 : Nat) ∧ List.length t1 = List.length m1 ∧ s2 = s2 ∧ w2 = w2 ∧
 (0 : Nat) = (0 : Nat) ∧ List.length t2 = List.length m2 ∧ s3 = s3 ∧ w3 = w3 ∧ (0 : Nat) = (0 : Nat) ∧ List.length t3 = List.length m3 ∧ t1 = m1 ∧ t2 = m2 ∧ t3 = m3 ∧ m = m) ∧ e = (2 : Nat)) ∧ ((!canM va) = false → (kind == (0 : Int)) =
 false ∧ U64 c3 ∧ (List.length m2 = List.length m2 ∧ eitherM (s2, w2, m2) = true ∧ TlR (s2, w2, m2) ∧ U64 va) ∧ ∃ (z : Bool × Int × Int × Int), ((0 : Nat) = (0 : Nat) ∧ List.length m = List.length m ∧ kind = kind ∧ x0 = x0 ∧ x1 = x1 ∧ s1 =
 s1 ∧ w1 = w1 ∧ (0 : Nat) = (0 : Nat) ∧ List.length m1 = List.length m1 ∧ s2 = s2 ∧ w2 = w2 ∧ (0 : Nat) = (0 : Nat) ∧ List.length m2 = List.length m2 ∧ s3 = s3 ∧ w3 = w3 ∧ (0 : Nat) = (0 : Nat) ∧ List.length m3 = List.length m3 ∧ m1 = m1 ∧
 m2 = m2 ∧ m3 = m3 ∧ m = m ∧ c0 = c0 ∧ c1 = c1 ∧ c2 = c2 ∧ c3 = c3 ∧ va = va ∧ pick = pick ∧ z.fst = (findM va (asidM c3) m2).fst ∧ z.snd.fst = (findM va (asidM c3) m2).snd.fst ∧ z.snd.snd.fst = (findM va (asidM c3) m2).snd.snd.fst ∧
 z.snd.snd.snd = (findM va (asidM c3) m2).snd.snd.snd) ∧ (z.fst = true → U64 z.snd.snd.snd ∧ ((!grantM z.snd.snd.snd kind c0 c1 c2) = true → False ∧ e = (0 : Nat) ∨ False ∧ e = (1 : Nat) ∨ (pa = (0 : Int) ∧ l = z.snd.snd.fst ∧ x0 = x0 ∧ x1 =
 x1 ∧ s1 = s1 ∧ w1 = w1 ∧ (0 : Nat) = (0 : Nat) ∧ List.length t1 = List.length m1 ∧ s2 = s2 ∧ w2 = w2 ∧ (0 : Nat) = (0 : Nat) ∧ List.length t2 = List.length m2 ∧ s3 = s3 ∧ w3 = w3 ∧ (0 : Nat) = (0 : Nat) ∧ List.length t3 = List.length m3 ∧
 t1 = m1 ∧ t2 = m2 ∧ t3 = m3 ∧ m = m) ∧ e = (2 : Nat)) ∧ ((!grantM z.snd.snd.snd kind c0 c1 c2) = false → (U64 z.snd.snd.snd ∧ LvR z.snd.snd.fst ∧ U64 va) ∧ ((pa = physM z.snd.snd.snd z.snd.snd.fst va ∧ Value.nilIface = Value.nilIface ∧ x0 =
 x0 ∧ x1 = x1 ∧ s1 = s1 ∧ w1 = w1 ∧ (0 : Nat) = (0 : Nat) ∧ List.length t1 = List.length m1 ∧ s2 = s2 ∧ w2 = w2 ∧ (0 : Nat) = (0 : Nat) ∧ List.length t2 = List.length m2 ∧ s3 = s3 ∧ w3 = w3 ∧ (0 : Nat) = (0 : Nat) ∧ List.length t3 =
 List.length m3 ∧ t1 = m1 ∧ t2 = m2 ∧ t3 = m3 ∧ m = m) ∧ e = (0 : Nat) ∨ False ∧ e = (1 : Nat) ∨ False ∧ e = (2 : Nat)))) ∧ (z.fst = false → U64 c3 ∧ U64 c3 ∧ (List.length m3 = List.length m3 ∧ eitherM (s3, w3, m3) = true ∧ TlR (s3, w3, m3)
 ∧ U64 va) ∧ ∃ (z : Bool × Int × Int × Int), ((0 : Nat) = (0 : Nat) ∧ List.length m = List.length m ∧ kind = kind ∧ rootM c3 = rootM c3 ∧ (2 : Int) = (2 : Int) ∧ x0 = x0 ∧ x1 = x1 ∧ s1 = s1 ∧ w1 = w1 ∧ (0 : Nat) = (0 : Nat) ∧ List.length m1
 = List.length m1 ∧ s2 = s2 ∧ w2 = w2 ∧ (0 : Nat) = (0 : Nat) ∧ List.length m2 = List.length m2 ∧ s3 = s3 ∧ w3 = w3 ∧ (0 : Nat) = (0 : Nat) ∧ List.length m3 = List.length m3 ∧ m1 = m1 ∧ m2 = m2 ∧ m3 = m3 ∧ m = m ∧ c0 = c0 ∧ c1 = c1 ∧ c2 = c2
 ∧ c3 = c3 ∧ va = va ∧ pick = pick ∧ z.fst = (findM va (asidM c3) m3).fst ∧ z.snd.fst = (findM va (asidM c3) m3).snd.fst ∧ z.snd.snd.fst = (findM va (asidM c3) m3).snd.snd.fst ∧ z.snd.snd.snd = (findM va (asidM c3) m3).snd.snd.snd) ∧ (z.fst
 = true → U64 z.snd.snd.snd ∧ ∃ (z_1 : Int × Int), ((0 : Nat) = (0 : Nat) ∧ List.length m = List.length m ∧ kind = kind ∧ z_1.fst = ppnM z.snd.snd.snd ∧ z_1.snd = IntKind.i64.wrap (z.snd.snd.fst - (1 : Int)) ∧ x0 = x0 ∧ x1 = x1 ∧ s1 = s1 ∧
 w1 = w1 ∧ (0 : Nat) = (0 : Nat) ∧ List.length m1 = List.length m1 ∧ s2 = s2 ∧ w2 = w2 ∧ (0 : Nat) = (0 : Nat) ∧ List.length m2 = List.length m2 ∧ s3 = s3 ∧ w3 = w3 ∧ (0 : Nat) = (0 : Nat) ∧ List.length m3 = List.length m3 ∧ m1 = m1 ∧ m2 =
 m2 ∧ m3 = m3 ∧ m = m ∧ c0 = c0 ∧ c1 = c1 ∧ c2 = c2 ∧ c3 = c3 ∧ va = va ∧ pick = pick) ∧ (List.length m = List.length m ∧ va = va ∧ (List.length m1, List.length m2, List.length m3) = (List.length m1, List.length m2, List.length m3) ∧ (FromR
 m z_1.fst z_1.snd va ∧ headM s3 w3 m3 = true ∧ U64 c3 ∧ (0 : Int) ≤ pick ∧ pick ≤ (255 : Int)) ∧ codeK (0 : Nat) (walkN m va (z_1.snd + (1 : Int)).toNat z_1.fst) ∨ List.length m = List.length m ∧ va = va ∧ (List.length m1, List.length m2,
 List.length m3) = (List.length m1, List.length m2, List.length m3) ∧ (FromR m z_1.fst z_1.snd va ∧ headM s3 w3 m3 = true ∧ U64 c3 ∧ (0 : Int) ≤ pick ∧ pick ≤ (255 : Int)) ∧ codeK ((0 : Nat) + (1 : Nat)) (walkN m va (z_1.snd + (1 :
 Int)).toNat z_1.fst) ∨ List.length m = List.length m ∧ va = va ∧ (List.length m1, List.length m2, List.length m3) = (List.length m1, List.length m2, List.length m3) ∧ (FromR m z_1.fst z_1.snd va ∧ headM s3 w3 m3 = true ∧ U64 c3 ∧ (0 : Int)
 ≤ pick ∧ pick ≤ (255 : Int)) ∧ codeK ((0 : Nat) + (1 : Nat) + (1 : Nat)) (walkN m va (z_1.snd + (1 : Int)).toNat z_1.fst)) ∧ (List.length m = List.length m ∧ va = va ∧ (List.length m1, List.length m2, List.length m3) = (List.length m1,
 List.length m2, List.length m3) ∧ (FromR m z_1.fst z_1.snd va ∧ headM s3 w3 m3 = true ∧ U64 c3 ∧ (0 : Int) ≤ pick ∧ pick ≤ (255 : Int)) ∧ codeK (0 : Nat) (walkN m va (z_1.snd + (1 : Int)).toNat z_1.fst) → (true = true → U64 (walkN m va
 (z_1.snd + (1 : Int)).toNat z_1.fst).snd.snd.fst) ∧ ((!grantM (walkN m va (z_1.snd + (1 : Int)).toNat z_1.fst).snd.snd.fst kind c0 c1 c2) = true → False ∧ e = (0 : Nat) ∨ False ∧ e = (1 : Nat) ∨ (pa = (0 : Int) ∧ l = (walkN m va (z_1.snd +
 (1 : Int)).toNat z_1.fst).snd.fst ∧ x0 = x0 ∧ x1 = x1 ∧ s1 = s1 ∧ w1 = w1 ∧ (0 : Nat) = (0 : Nat) ∧ List.length t1 = List.length m1 ∧ s2 = s2 ∧ w2 = w2 ∧ (0 : Nat) = (0 : Nat) ∧ List.length t2 = List.length m2 ∧ s3 = s3 ∧ w3 = w3 ∧ (0 :
 Nat) = (0 : Nat) ∧ List.length t3 = List.length (keepAll va c3 pick (s3, w3, m3) (walkN m va (z_1.snd + (1 : Int)).toNat z_1.fst).snd.snd.snd).snd.snd ∧ t1 = m1 ∧ t2 = m2 ∧ t3 = (keepAll va c3 pick (s3, w3, m3) (walkN m va (z_1.snd + (1 :
 Int)).toNat z_1.fst).snd.snd.snd).snd.snd ∧ m = m) ∧ e = (2 : Nat)) ∧ ((!grantM (walkN m va (z_1.snd + (1 : Int)).toNat z_1.fst).snd.snd.fst kind c0 c1 c2) = false → ((!true) = true → (pa = (0 : Int) ∧ Value.nilIface = Value.nilIface ∧ x0 =
 x0 ∧ x1 = x1 ∧ s1 = s1 ∧ w1 = w1 ∧ (0 : Nat) = (0 : Nat) ∧ List.length t1 = List.length m1 ∧ s2 = s2 ∧ w2 = w2 ∧ (0 : Nat) = (0 : Nat) ∧ List.length t2 = List.length m2 ∧ s3 = s3 ∧ w3 = w3 ∧ (0 : Nat) = (0 : Nat) ∧ List.length t3 =
 List.length (keepAll va c3 pick (s3, w3, m3) (walkN m va (z_1.snd + (1 : Int)).toNat z_1.fst).snd.snd.snd).snd.snd ∧ t1 = m1 ∧ t2 = m2 ∧ t3 = (keepAll va c3 pick (s3, w3, m3) (walkN m va (z_1.snd + (1 : Int)).toNat
 z_1.fst).snd.snd.snd).snd.snd ∧ m = m) ∧ e = (0 : Nat) ∨ False ∧ e = (1 : Nat) ∨ False ∧ e = (2 : Nat)) ∧ ((!true) = false → ((List.length m1, List.length m2, List.length (keepAll va c3 pick (s3, w3, m3) (walkN m va (z_1.snd + (1 :
 Int)).toNat z_1.fst).snd.snd.snd).snd.snd) = (List.length m1, List.length m2, List.length (keepAll va c3 pick (s3, w3, m3) (walkN m va (z_1.snd + (1 : Int)).toNat z_1.fst).snd.snd.snd).snd.snd) ∧ headM s2 w2 m2 = true ∧ LvR (walkN m va
 (z_1.snd + (1 : Int)).toNat z_1.fst).snd.fst ∧ U64 va ∧ U64 c3 ∧ U64 (walkN m va (z_1.snd + (1 : Int)).toNat z_1.fst).snd.snd.fst ∧ (0 : Int) ≤ pick ∧ pick ≤ (255 : Int)) ∧ (U64 (walkN m va (z_1.snd + (1 : Int)).toNat z_1.fst).snd.snd.fst ∧
 LvR (walkN m va (z_1.snd + (1 : Int)).toNat z_1.fst).snd.fst ∧ U64 va) ∧ ((pa = physM (walkN m va (z_1.snd + (1 : Int)).toNat z_1.fst).snd.snd.fst (walkN m va (z_1.snd + (1 : Int)).toNat z_1.fst).snd.fst va ∧ Value.nilIface = Value.nilIface
 ∧ x0 = x0 ∧ x1 = x1 ∧ s1 = s1 ∧ w1 = w1 ∧ (0 : Nat) = (0 : Nat) ∧ List.length t1 = List.length m1 ∧ s2 = (insT (s2, w2, m2) (entM (walkN m va (z_1.snd + (1 : Int)).toNat z_1.fst).snd.fst va c3 (walkN m va (z_1.snd + (1 : Int)).toNat
 z_1.fst).snd.snd.fst) pick).fst ∧ w2 = (insT (s2, w2, m2) (entM (walkN m va (z_1.snd + (1 : Int)).toNat z_1.fst).snd.fst va c3 (walkN m va (z_1.snd + (1 : Int)).toNat z_1.fst).snd.snd.fst) pick).snd.fst ∧ (0 : Nat) = (0 : Nat) ∧ List.length
 t2 = List.length (insT (s2, w2, m2) (entM (walkN m va (z_1.snd + (1 : Int)).toNat z_1.fst).snd.fst va c3 (walkN m va (z_1.snd + (1 : Int)).toNat z_1.fst).snd.snd.fst) pick).snd.snd ∧ s3 = s3 ∧ w3 = w3 ∧ (0 : Nat) = (0 : Nat) ∧ List.length
 t3 = List.length (keepAll va c3 pick (s3, w3, m3) (walkN m va (z_1.snd + (1 : Int)).toNat z_1.fst).snd.snd.snd).snd.snd ∧ t1 = m1 ∧ t2 = (insT (s2, w2, m2) (entM (walkN m va (z_1.snd + (1 : Int)).toNat z_1.fst).snd.fst va c3 (walkN m va
 (z_1.snd + (1 : Int)).toNat z_1.fst).snd.snd.fst) pick).snd.snd ∧ t3 = (keepAll va c3 pick (s3, w3, m3) (walkN m va (z_1.snd + (1 : Int)).toNat z_1.fst).snd.snd.snd).snd.snd ∧ m = m) ∧ e = (0 : Nat) ∨ False ∧ e = (1 : Nat) ∨ False ∧ e = (2
 : Nat))))) ∧ (List.length m = List.length m ∧ va = va ∧ (List.length m1, List.length m2, List.length m3) = (List.length m1, List.length m2, List.length m3) ∧ (FromR m z_1.fst z_1.snd va ∧ headM s3 w3 m3 = true ∧ U64 c3 ∧ (0 : Int) ≤ pick ∧
 pick ≤ (255 : Int)) ∧ codeK ((0 : Nat) + (1 : Nat)) (walkN m va (z_1.snd + (1 : Int)).toNat z_1.fst) → False ∧ e = (0 : Nat) ∨ (pa = (0 : Int) ∧ l = (walkN m va (z_1.snd + (1 : Int)).toNat z_1.fst).snd.fst ∧ x0 = x0 ∧ x1 = x1 ∧ s1 = s1 ∧ w1
 = w1 ∧ (0 : Nat) = (0 : Nat) ∧ List.length t1 = List.length m1 ∧ s2 = s2 ∧ w2 = w2 ∧ (0 : Nat) = (0 : Nat) ∧ List.length t2 = List.length m2 ∧ s3 = s3 ∧ w3 = w3 ∧ (0 : Nat) = (0 : Nat) ∧ List.length t3 = List.length (keepAll va c3 pick (s3,
 w3, m3) (walkN m va (z_1.snd + (1 : Int)).toNat z_1.fst).snd.snd.snd).snd.snd ∧ t1 = m1 ∧ t2 = m2 ∧ t3 = (keepAll va c3 pick (s3, w3, m3) (walkN m va (z_1.snd + (1 : Int)).toNat z_1.fst).snd.snd.snd).snd.snd ∧ m = m) ∧ e = (1 : Nat) ∨ False
 ∧ e = (2 : Nat)) ∧ (List.length m = List.length m ∧ va = va ∧ (List.length m1, List.length m2, List.length m3) = (List.length m1, List.length m2, List.length m3) ∧ (FromR m z_1.fst z_1.snd va ∧ headM s3 w3 m3 = true ∧ U64 c3 ∧ (0 : Int) ≤
 pick ∧ pick ≤ (255 : Int)) ∧ codeK ((0 : Nat) + (1 : Nat) + (1 : Nat)) (walkN m va (z_1.snd + (1 : Int)).toNat z_1.fst) → False ∧ e = (0 : Nat) ∨ False ∧ e = (1 : Nat) ∨ (pa = (0 : Int) ∧ l = (walkN m va (z_1.snd + (1 : Int)).toNat
 z_1.fst).snd.fst ∧ x0 = x0 ∧ x1 = x1 ∧ s1 = s1 ∧ w1 = w1 ∧ (0 : Nat) = (0 : Nat) ∧ List.length t1 = List.length m1 ∧ s2 = s2 ∧ w2 = w2 ∧ (0 : Nat) = (0 : Nat) ∧ List.length t2 = List.length m2 ∧ s3 = s3 ∧ w3 = w3 ∧ (0 : Nat) = (0 : Nat) ∧
 List.length t3 = List.length (keepAll va c3 pick (s3, w3, m3) (walkN m va (z_1.snd + (1 : Int)).toNat z_1.fst).snd.snd.snd).snd.snd ∧ t1 = m1 ∧ t2 = m2 ∧ t3 = (keepAll va c3 pick (s3, w3, m3) (walkN m va (z_1.snd + (1 : Int)).toNat
 z_1.fst).snd.snd.snd).snd.snd ∧ m = m) ∧ e = (2 : Nat))) ∧ (z.fst = false → ∃ (z : Int × Int), ((0 : Nat) = (0 : Nat) ∧ List.length m = List.length m ∧ kind = kind ∧ z.fst = rootM c3 ∧ z.snd = (2 : Int) ∧ x0 = x0 ∧ x1 = x1 ∧ s1 = s1 ∧ w1 =
 w1 ∧ (0 : Nat) = (0 : Nat) ∧ List.length m1 = List.length m1 ∧ s2 = s2 ∧ w2 = w2 ∧ (0 : Nat) = (0 : Nat) ∧ List.length m2 = List.length m2 ∧ s3 = s3 ∧ w3 = w3 ∧ (0 : Nat) = (0 : Nat) ∧ List.length m3 = List.length m3 ∧ m1 = m1 ∧ m2 = m2 ∧
 m3 = m3 ∧ m = m ∧ c0 = c0 ∧ c1 = c1 ∧ c2 = c2 ∧ c3 = c3 ∧ va = va ∧ pick = pick) ∧ (List.length m = List.length m ∧ va = va ∧ (List.length m1, List.length m2, List.length m3) = (List.length m1, List.length m2, List.length m3) ∧ (FromR m
 z.fst z.snd va ∧ headM s3 w3 m3 = true ∧ U64 c3 ∧ (0 : Int) ≤ pick ∧ pick ≤ (255 : Int)) ∧ codeK (0 : Nat) (walkN m va (z.snd + (1 : Int)).toNat z.fst) ∨ List.length m = List.length m ∧ va = va ∧ (List.length m1, List.length m2, List.length
 m3) = (List.length m1, List.length m2, List.length m3) ∧ (FromR m z.fst z.snd va ∧ headM s3 w3 m3 = true ∧ U64 c3 ∧ (0 : Int) ≤ pick ∧ pick ≤ (255 : Int)) ∧ codeK ((0 : Nat) + (1 : Nat)) (walkN m va (z.snd + (1 : Int)).toNat z.fst) ∨
 List.length m = List.length m ∧ va = va ∧ (List.length m1, List.length m2, List.length m3) = (List.length m1, List.length m2, List.length m3) ∧ (FromR m z.fst z.snd va ∧ headM s3 w3 m3 = true ∧ U64 c3 ∧ (0 : Int) ≤ pick ∧ pick ≤ (255 :
 Int)) ∧ codeK ((0 : Nat) + (1 : Nat) + (1 : Nat)) (walkN m va (z.snd + (1 : Int)).toNat z.fst)) ∧ (List.length m = List.length m ∧ va = va ∧ (List.length m1, List.length m2, List.length m3) = (List.length m1, List.length m2, List.length m3)
 ∧ (FromR m z.fst z.snd va ∧ headM s3 w3 m3 = true ∧ U64 c3 ∧ (0 : Int) ≤ pick ∧ pick ≤ (255 : Int)) ∧ codeK (0 : Nat) (walkN m va (z.snd + (1 : Int)).toNat z.fst) → (true = true → U64 (walkN m va (z.snd + (1 : Int)).toNat
 z.fst).snd.snd.fst) ∧ ((!grantM (walkN m va (z.snd + (1 : Int)).toNat z.fst).snd.snd.fst kind c0 c1 c2) = true → False ∧ e = (0 : Nat) ∨ False ∧ e = (1 : Nat) ∨ (pa = (0 : Int) ∧ l = (walkN m va (z.snd + (1 : Int)).toNat z.fst).snd.fst ∧ x0
 = x0 ∧ x1 = x1 ∧ s1 = s1 ∧ w1 = w1 ∧ (0 : Nat) = (0 : Nat) ∧ List.length t1 = List.length m1 ∧ s2 = s2 ∧ w2 = w2 ∧ (0 : Nat) = (0 : Nat) ∧ List.length t2 = List.length m2 ∧ s3 = s3 ∧ w3 = w3 ∧ (0 : Nat) = (0 : Nat) ∧ List.length t3 =
 List.length (keepAll va c3 pick (s3, w3, m3) (walkN m va (z.snd + (1 : Int)).toNat z.fst).snd.snd.snd).snd.snd ∧ t1 = m1 ∧ t2 = m2 ∧ t3 = (keepAll va c3 pick (s3, w3, m3) (walkN m va (z.snd + (1 : Int)).toNat z.fst).snd.snd.snd).snd.snd ∧ m
 = m) ∧ e = (2 : Nat)) ∧ ((!grantM (walkN m va (z.snd + (1 : Int)).toNat z.fst).snd.snd.fst kind c0 c1 c2) = false → ((!true) = true → (pa = (0 : Int) ∧ Value.nilIface = Value.nilIface ∧ x0 = x0 ∧ x1 = x1 ∧ s1 = s1 ∧ w1 = w1 ∧ (0 : Nat) = (0
 : Nat) ∧ List.length t1 = List.length m1 ∧ s2 = s2 ∧ w2 = w2 ∧ (0 : Nat) = (0 : Nat) ∧ List.length t2 = List.length m2 ∧ s3 = s3 ∧ w3 = w3 ∧ (0 : Nat) = (0 : Nat) ∧ List.length t3 = List.length (keepAll va c3 pick (s3, w3, m3) (walkN m va
 (z.snd + (1 : Int)).toNat z.fst).snd.snd.snd).snd.snd ∧ t1 = m1 ∧ t2 = m2 ∧ t3 = (keepAll va c3 pick (s3, w3, m3) (walkN m va (z.snd + (1 : Int)).toNat z.fst).snd.snd.snd).snd.snd ∧ m = m) ∧ e = (0 : Nat) ∨ False ∧ e = (1 : Nat) ∨ False ∧ e
 = (2 : Nat)) ∧ ((!true) = false → ((List.length m1, List.length m2, List.length (keepAll va c3 pick (s3, w3, m3) (walkN m va (z.snd + (1 : Int)).toNat z.fst).snd.snd.snd).snd.snd) = (List.length m1, List.length m2, List.length (keepAll va
 c3 pick (s3, w3, m3) (walkN m va (z.snd + (1 : Int)).toNat z.fst).snd.snd.snd).snd.snd) ∧ headM s2 w2 m2 = true ∧ LvR (walkN m va (z.snd + (1 : Int)).toNat z.fst).snd.fst ∧ U64 va ∧ U64 c3 ∧ U64 (walkN m va (z.snd + (1 : Int)).toNat
 z.fst).snd.snd.fst ∧ (0 : Int) ≤ pick ∧ pick ≤ (255 : Int)) ∧ (U64 (walkN m va (z.snd + (1 : Int)).toNat z.fst).snd.snd.fst ∧ LvR (walkN m va (z.snd + (1 : Int)).toNat z.fst).snd.fst ∧ U64 va) ∧ ((pa = physM (walkN m va (z.snd + (1 :
 Int)).toNat z.fst).snd.snd.fst (walkN m va (z.snd + (1 : Int)).toNat z.fst).snd.fst va ∧ Value.nilIface = Value.nilIface ∧ x0 = x0 ∧ x1 = x1 ∧ s1 = s1 ∧ w1 = w1 ∧ (0 : Nat) = (0 : Nat) ∧ List.length t1 = List.length m1 ∧ s2 = (insT (s2, w2,
 m2) (entM (walkN m va (z.snd + (1 : Int)).toNat z.fst).snd.fst va c3 (walkN m va (z.snd + (1 : Int)).toNat z.fst).snd.snd.fst) pick).fst ∧ w2 = (insT (s2, w2, m2) (entM (walkN m va (z.snd + (1 : Int)).toNat z.fst).snd.fst va c3 (walkN m va
 (z.snd + (1 : Int)).toNat z.fst).snd.snd.fst) pick).snd.fst ∧ (0 : Nat) = (0 : Nat) ∧ List.length t2 = List.length (insT (s2, w2, m2) (entM (walkN m va (z.snd + (1 : Int)).toNat z.fst).snd.fst va c3 (walkN m va (z.snd + (1 : Int)).toNat
 z.fst).snd.snd.fst) pick).snd.snd ∧ s3 = s3 ∧ w3 = w3 ∧ (0 : Nat) = (0 : Nat) ∧ List.length t3 = List.length (keepAll va c3 pick (s3, w3, m3) (walkN m va (z.snd + (1 : Int)).toNat z.fst).snd.snd.snd).snd.snd ∧ t1 = m1 ∧ t2 = (insT (s2, w2,
 m2) (entM (walkN m va (z.snd + (1 : Int)).toNat z.fst).snd.fst va c3 (walkN m va (z.snd + (1 : Int)).toNat z.fst).snd.snd.fst) pick).snd.snd ∧ t3 = (keepAll va c3 pick (s3, w3, m3) (walkN m va (z.snd + (1 : Int)).toNat
 z.fst).snd.snd.snd).snd.snd ∧ m = m) ∧ e = (0 : Nat) ∨ False ∧ e = (1 : Nat) ∨ False ∧ e = (2 : Nat))))) ∧ (List.length m = List.length m ∧ va = va ∧ (List.length m1, List.length m2, List.length m3) = (List.length m1, List.length m2,
 List.length m3) ∧ (FromR m z.fst z.snd va ∧ headM s3 w3 m3 = true ∧ U64 c3 ∧ (0 : Int) ≤ pick ∧ pick ≤ (255 : Int)) ∧ codeK ((0 : Nat) + (1 : Nat)) (walkN m va (z.snd + (1 : Int)).toNat z.fst) → False ∧ e = (0 : Nat) ∨ (pa = (0 : Int) ∧ l =
 (walkN m va (z.snd + (1 : Int)).toNat z.fst).snd.fst ∧ x0 = x0 ∧ x1 = x1 ∧ s1 = s1 ∧ w1 = w1 ∧ (0 : Nat) = (0 : Nat) ∧ List.length t1 = List.length m1 ∧ s2 = s2 ∧ w2 = w2 ∧ (0 : Nat) = (0 : Nat) ∧ List.length t2 = List.length m2 ∧ s3 = s3 ∧
 w3 = w3 ∧ (0 : Nat) = (0 : Nat) ∧ List.length t3 = List.length (keepAll va c3 pick (s3, w3, m3) (walkN m va (z.snd + (1 : Int)).toNat z.fst).snd.snd.snd).snd.snd ∧ t1 = m1 ∧ t2 = m2 ∧ t3 = (keepAll va c3 pick (s3, w3, m3) (walkN m va (z.snd
 + (1 : Int)).toNat z.fst).snd.snd.snd).snd.snd ∧ m = m) ∧ e = (1 : Nat) ∨ False ∧ e = (2 : Nat)) ∧ (List.length m = List.length m ∧ va = va ∧ (List.length m1, List.length m2, List.length m3) = (List.length m1, List.length m2, List.length
 m3) ∧ (FromR m z.fst z.snd va ∧ headM s3 w3 m3 = true ∧ U64 c3 ∧ (0 : Int) ≤ pick ∧ pick ≤ (255 : Int)) ∧ codeK ((0 : Nat) + (1 : Nat) + (1 : Nat)) (walkN m va (z.snd + (1 : Int)).toNat z.fst) → False ∧ e = (0 : Nat) ∨ False ∧ e = (1 : Nat)
 ∨ (pa = (0 : Int) ∧ l = (walkN m va (z.snd + (1 : Int)).toNat z.fst).snd.fst ∧ x0 = x0 ∧ x1 = x1 ∧ s1 = s1 ∧ w1 = w1 ∧ (0 : Nat) = (0 : Nat) ∧ List.length t1 = List.length m1 ∧ s2 = s2 ∧ w2 = w2 ∧ (0 : Nat) = (0 : Nat) ∧ List.length t2 =
 List.length m2 ∧ s3 = s3 ∧ w3 = w3 ∧ (0 : Nat) = (0 : Nat) ∧ List.length t3 = List.length (keepAll va c3 pick (s3, w3, m3) (walkN m va (z.snd + (1 : Int)).toNat z.fst).snd.snd.snd).snd.snd ∧ t1 = m1 ∧ t2 = m2 ∧ t3 = (keepAll va c3 pick (s3,
 w3, m3) (walkN m va (z.snd + (1 : Int)).toNat z.fst).snd.snd.snd).snd.snd ∧ m = m) ∧ e = (2 : Nat))))))) := by kernel_rfl
end Go.Proofs.Ytfiddfbagbaofaa.V
namespace Go.Proofs.Ytfiddfbagbaofaa.V
open Go
set_option linter.unusedSimpArgs false
theorem getH_eq {b : Nat} {H : Heap} {x : Bx} {I D P : Tl} (h : getH b H = some (x, lensM I D P, I, D, P)) : H = chH x b I D P := by
  unfold getH at h
  split at h
  case h_2 => cases h
  split at h
  case isFalse => cases h
  rename_i hi
  split at h
  case isFalse => cases h
  rename_i e1
  split at h
  case isFalse => cases h
  rename_i e2
  split at h
  case isFalse => cases h
  rename_i e3
  subst e1 e2 e3
  obtain ⟨rfl, rfl, rfl⟩ := hi
  simp only [Option.some.injEq, Prod.mk.injEq, lensM] at h
  obtain ⟨rfl, ⟨rfl, rfl, rfl⟩, rfl, rfl, rfl⟩ := h
  rfl
theorem FX0_ok : KnowsD Try.prog (kK2 ++ kF4 ++ kE3 ++ kB3 ++ kA4) := (((kK2_ok.append kF4_ok).append kE3_ok).append kB3_ok).append kA4_ok
theorem putI_ok : Sound Try.prog 131 putIS := by
  refine sound_loop mixed Try.func131 (by kernel_rfl) (b := loopAt Try.f131 0) (k := 4) (by kernel_rfl) (by kernel_rfl) (by kernel_rfl) FF4_ok (fun args H p v H' h hp => ?_)
  unfold putIS at h
  split at h
  case h_2 => cases h
  rename_i a b c d g f pick
  split at h
  case h_2 => cases h
  rename_i x n I D P hg
  simp only [Option.some.injEq, Prod.mk.injEq] at h
  obtain ⟨rfl, rfl, rfl⟩ := h
  obtain ⟨rfl, hd, ⟨e1, e2, e3, e4⟩, hc, p0, p1⟩ : n = lensM I D P ∧ PutR I.1 I.2.1 I.2.2 (a, b, c, d, g, f) pick := hp
  obtain rfl := getH_eq hg
  clear hg
  obtain ⟨x0, x1⟩ := x
  obtain ⟨s1, w1, m1⟩ := I
  obtain ⟨s2, w2, m2⟩ := D
  obtain ⟨s3, w3, m3⟩ := P
  have hd : headM s1 w1 m1 = true := hd
  obtain ⟨hs, v1, v4, hl⟩ := head_sw hd
  have hc0 := e2.1
  simp only at hc hc0
  obtain ⟨f0, f1⟩ := from_in (s := s1) (w := w1) (by omega) v1 hc0 hc
  have hle : s1 * w1 ≤ 32 := by rcases hs with rfl | rfl | rfl | rfl <;> omega
  refine ⟨.one 4 (putIL (x0, x1) (s1, w1, m1) (s2, w2, m2) (s3, w3, m3) (a, b, c, d, g, f) pick), putIL (x0, x1) (s1, w1, m1) (s2, w2, m2) (s3, w3, m3) (a, b, c, d, g, f) pick, fun x : Int => (x + 1).toNat, one_loop _ _, fun (x : Int) hx => vc_by (vc_putI_r_eq x0 x1 s1 w1 m1 s2 w2 m2 s3 w3 m3 a b c d g f pick x) ?_, vc_by (vc_putI_eq x0 x1 s1 w1 m1 s2 w2 m2 s3 w3 m3 a b c d g f pick) ?_⟩
  · obtain ⟨k0, k1⟩ : -1 ≤ x ∧ x ≤ w1 - 1 := hx
    refine ⟨fun q => ?_, fun q => ?_⟩
    · have q : x ≥ 0 := of_decide_eq_true q
      have e1 : IntKind.i64.wrap (fromM s1 w1 c + x) = fromM s1 w1 c + x := wrap_i64_in (by omega) (by omega)
      have e2 : IntKind.i64.wrap (x - 1) = x - 1 := wrap_i64_in (by omega) (by omega)
      have hidx : 0 + (fromM s1 w1 c + x).toNat = (fromM s1 w1 c).toNat + x.toNat := by omega
      have step : freeM m1 (fromM s1 w1 c) (pick.tmod w1) (x - 1 + 1).toNat (w1 - 1 - (x - 1)).toNat = if (m1.getD ((fromM s1 w1 c).toNat + x.toNat) zE).1 = false then x else freeM m1 (fromM s1 w1 c) (pick.tmod w1) (x + 1).toNat (w1 - 1 - x).toNat := by
        rw [show (x - 1 + 1).toNat = x.toNat by omega, show (w1 - 1 - (x - 1)).toNat = (w1 - 1 - x).toNat + 1 by omega, freeM, show ((x.toNat : Nat) : Int) = x by omega, show x.toNat + 1 = (x + 1).toNat by omega]
      rw [e1, e2, hidx, show El.zero shE = zE from rfl]
      refine ⟨⟨by omega, by omega⟩, by omega, fun z => ⟨x - 1, ?_, ⟨by omega, by omega⟩, by omega, fun _ _ => trivial⟩, fun z => ⟨x - 1, ?_, ⟨by omega, by omega⟩, by omega, fun _ _ => trivial⟩⟩
      · rw [step, if_pos (by rw [Bool.not_eq_true'] at z; exact z)]
        simp
      · rw [step, if_neg (by rw [Bool.not_eq_false'] at z; rw [z]; decide)]
        simp
    · have q : ¬ x ≥ 0 := of_decide_eq_false q
      have : x = -1 := by omega
      subst this
      refine ⟨(), ?_, trivial⟩
      unfold wayM
      rw [show (-1 + 1 : Int).toNat = 0 by decide, show (w1 - 1 - -1).toNat = w1.toNat by omega]
      simp
  · obtain ⟨y0, y1⟩ := way_in (m := m1) (s := s1) (w := w1) (c := c) (p := pick) v1 p0
    refine ⟨by omega, by omega, w1 - 1, ?_, ⟨by omega, by omega⟩, fun _ _ => ?_⟩
    · rw [show (w1 - 1 - (w1 - 1)).toNat = 0 by omega, freeM, from_wrap hs v1 v4 hc0 hc, wrap_i64_in (n := w1 - 1) (by omega) (by omega)]
      simp
    · rw [wrap_i64_in (n := fromM s1 w1 c + wayM m1 s1 w1 c pick) (by omega) (by omega), Nat.zero_add]
      refine ⟨⟨by omega, by omega⟩, by omega, ?_⟩
      simp [insT, insMs]
theorem putD_ok : Sound Try.prog 131 putDS := by
  refine sound_loop mixed Try.func131 (by kernel_rfl) (b := loopAt Try.f131 0) (k := 4) (by kernel_rfl) (by kernel_rfl) (by kernel_rfl) FF4_ok (fun args H p v H' h hp => ?_)
  unfold putDS at h
  split at h
  case h_2 => cases h
  rename_i a b c d g f pick
  split at h
  case h_2 => cases h
  rename_i x n I D P hg
  simp only [Option.some.injEq, Prod.mk.injEq] at h
  obtain ⟨rfl, rfl, rfl⟩ := h
  obtain ⟨rfl, hd, ⟨e1, e2, e3, e4⟩, hc, p0, p1⟩ : n = lensM I D P ∧ PutR D.1 D.2.1 D.2.2 (a, b, c, d, g, f) pick := hp
  obtain rfl := getH_eq hg
  clear hg
  obtain ⟨x0, x1⟩ := x
  obtain ⟨s1, w1, m1⟩ := I
  obtain ⟨s2, w2, m2⟩ := D
  obtain ⟨s3, w3, m3⟩ := P
  have hd : headM s2 w2 m2 = true := hd
  obtain ⟨hs, v1, v4, hl⟩ := head_sw hd
  have hc0 := e2.1
  simp only at hc hc0
  obtain ⟨f0, f1⟩ := from_in (s := s2) (w := w2) (by omega) v1 hc0 hc
  have hle : s2 * w2 ≤ 32 := by rcases hs with rfl | rfl | rfl | rfl <;> omega
  refine ⟨.one 4 (putDL (x0, x1) (s1, w1, m1) (s2, w2, m2) (s3, w3, m3) (a, b, c, d, g, f) pick), putDL (x0, x1) (s1, w1, m1) (s2, w2, m2) (s3, w3, m3) (a, b, c, d, g, f) pick, fun x : Int => (x + 1).toNat, one_loop _ _, fun (x : Int) hx => vc_by (vc_putD_r_eq x0 x1 s1 w1 m1 s2 w2 m2 s3 w3 m3 a b c d g f pick x) ?_, vc_by (vc_putD_eq x0 x1 s1 w1 m1 s2 w2 m2 s3 w3 m3 a b c d g f pick) ?_⟩
  · obtain ⟨k0, k1⟩ : -1 ≤ x ∧ x ≤ w2 - 1 := hx
    refine ⟨fun q => ?_, fun q => ?_⟩
    · have q : x ≥ 0 := of_decide_eq_true q
      have e1 : IntKind.i64.wrap (fromM s2 w2 c + x) = fromM s2 w2 c + x := wrap_i64_in (by omega) (by omega)
      have e2 : IntKind.i64.wrap (x - 1) = x - 1 := wrap_i64_in (by omega) (by omega)
      have hidx : 0 + (fromM s2 w2 c + x).toNat = (fromM s2 w2 c).toNat + x.toNat := by omega
      have step : freeM m2 (fromM s2 w2 c) (pick.tmod w2) (x - 1 + 1).toNat (w2 - 1 - (x - 1)).toNat = if (m2.getD ((fromM s2 w2 c).toNat + x.toNat) zE).1 = false then x else freeM m2 (fromM s2 w2 c) (pick.tmod w2) (x + 1).toNat (w2 - 1 - x).toNat := by
        rw [show (x - 1 + 1).toNat = x.toNat by omega, show (w2 - 1 - (x - 1)).toNat = (w2 - 1 - x).toNat + 1 by omega, freeM, show ((x.toNat : Nat) : Int) = x by omega, show x.toNat + 1 = (x + 1).toNat by omega]
      rw [e1, e2, hidx, show El.zero shE = zE from rfl]
      refine ⟨⟨by omega, by omega⟩, by omega, fun z => ⟨x - 1, ?_, ⟨by omega, by omega⟩, by omega, fun _ _ => trivial⟩, fun z => ⟨x - 1, ?_, ⟨by omega, by omega⟩, by omega, fun _ _ => trivial⟩⟩
      · rw [step, if_pos (by rw [Bool.not_eq_true'] at z; exact z)]
        simp
      · rw [step, if_neg (by rw [Bool.not_eq_false'] at z; rw [z]; decide)]
        simp
    · have q : ¬ x ≥ 0 := of_decide_eq_false q
      have : x = -1 := by omega
      subst this
      refine ⟨(), ?_, trivial⟩
      unfold wayM
      rw [show (-1 + 1 : Int).toNat = 0 by decide, show (w2 - 1 - -1).toNat = w2.toNat by omega]
      simp
  · obtain ⟨y0, y1⟩ := way_in (m := m2) (s := s2) (w := w2) (c := c) (p := pick) v1 p0
    refine ⟨by omega, by omega, w2 - 1, ?_, ⟨by omega, by omega⟩, fun _ _ => ?_⟩
    · rw [show (w2 - 1 - (w2 - 1)).toNat = 0 by omega, freeM, from_wrap hs v1 v4 hc0 hc, wrap_i64_in (n := w2 - 1) (by omega) (by omega)]
      simp
    · rw [wrap_i64_in (n := fromM s2 w2 c + wayM m2 s2 w2 c pick) (by omega) (by omega), Nat.zero_add]
      refine ⟨⟨by omega, by omega⟩, by omega, ?_⟩
      simp [insT, insMs]
theorem putP_ok : Sound Try.prog 131 putPS := by
  refine sound_loop mixed Try.func131 (by kernel_rfl) (b := loopAt Try.f131 0) (k := 4) (by kernel_rfl) (by kernel_rfl) (by kernel_rfl) FF4_ok (fun args H p v H' h hp => ?_)
  unfold putPS at h
  split at h
  case h_2 => cases h
  rename_i a b c d g f pick
  split at h
  case h_2 => cases h
  rename_i x n I D P hg
  simp only [Option.some.injEq, Prod.mk.injEq] at h
  obtain ⟨rfl, rfl, rfl⟩ := h
  obtain ⟨rfl, hd, ⟨e1, e2, e3, e4⟩, hc, p0, p1⟩ : n = lensM I D P ∧ PutR P.1 P.2.1 P.2.2 (a, b, c, d, g, f) pick := hp
  obtain rfl := getH_eq hg
  clear hg
  obtain ⟨x0, x1⟩ := x
  obtain ⟨s1, w1, m1⟩ := I
  obtain ⟨s2, w2, m2⟩ := D
  obtain ⟨s3, w3, m3⟩ := P
  have hd : headM s3 w3 m3 = true := hd
  obtain ⟨hs, v1, v4, hl⟩ := head_sw hd
  have hc0 := e2.1
  simp only at hc hc0
  obtain ⟨f0, f1⟩ := from_in (s := s3) (w := w3) (by omega) v1 hc0 hc
  have hle : s3 * w3 ≤ 32 := by rcases hs with rfl | rfl | rfl | rfl <;> omega
  refine ⟨.one 4 (putPL (x0, x1) (s1, w1, m1) (s2, w2, m2) (s3, w3, m3) (a, b, c, d, g, f) pick), putPL (x0, x1) (s1, w1, m1) (s2, w2, m2) (s3, w3, m3) (a, b, c, d, g, f) pick, fun x : Int => (x + 1).toNat, one_loop _ _, fun (x : Int) hx => vc_by (vc_putP_r_eq x0 x1 s1 w1 m1 s2 w2 m2 s3 w3 m3 a b c d g f pick x) ?_, vc_by (vc_putP_eq x0 x1 s1 w1 m1 s2 w2 m2 s3 w3 m3 a b c d g f pick) ?_⟩
  · obtain ⟨k0, k1⟩ : -1 ≤ x ∧ x ≤ w3 - 1 := hx
    refine ⟨fun q => ?_, fun q => ?_⟩
    · have q : x ≥ 0 := of_decide_eq_true q
      have e1 : IntKind.i64.wrap (fromM s3 w3 c + x) = fromM s3 w3 c + x := wrap_i64_in (by omega) (by omega)
      have e2 : IntKind.i64.wrap (x - 1) = x - 1 := wrap_i64_in (by omega) (by omega)
      have hidx : 0 + (fromM s3 w3 c + x).toNat = (fromM s3 w3 c).toNat + x.toNat := by omega
      have step : freeM m3 (fromM s3 w3 c) (pick.tmod w3) (x - 1 + 1).toNat (w3 - 1 - (x - 1)).toNat = if (m3.getD ((fromM s3 w3 c).toNat + x.toNat) zE).1 = false then x else freeM m3 (fromM s3 w3 c) (pick.tmod w3) (x + 1).toNat (w3 - 1 - x).toNat := by
        rw [show (x - 1 + 1).toNat = x.toNat by omega, show (w3 - 1 - (x - 1)).toNat = (w3 - 1 - x).toNat + 1 by omega, freeM, show ((x.toNat : Nat) : Int) = x by omega, show x.toNat + 1 = (x + 1).toNat by omega]
      rw [e1, e2, hidx, show El.zero shE = zE from rfl]
      refine ⟨⟨by omega, by omega⟩, by omega, fun z => ⟨x - 1, ?_, ⟨by omega, by omega⟩, by omega, fun _ _ => trivial⟩, fun z => ⟨x - 1, ?_, ⟨by omega, by omega⟩, by omega, fun _ _ => trivial⟩⟩
      · rw [step, if_pos (by rw [Bool.not_eq_true'] at z; exact z)]
        simp
      · rw [step, if_neg (by rw [Bool.not_eq_false'] at z; rw [z]; decide)]
        simp
    · have q : ¬ x ≥ 0 := of_decide_eq_false q
      have : x = -1 := by omega
      subst this
      refine ⟨(), ?_, trivial⟩
      unfold wayM
      rw [show (-1 + 1 : Int).toNat = 0 by decide, show (w3 - 1 - -1).toNat = w3.toNat by omega]
      simp
  · obtain ⟨y0, y1⟩ := way_in (m := m3) (s := s3) (w := w3) (c := c) (p := pick) v1 p0
    refine ⟨by omega, by omega, w3 - 1, ?_, ⟨by omega, by omega⟩, fun _ _ => ?_⟩
    · rw [show (w3 - 1 - (w3 - 1)).toNat = 0 by omega, freeM, from_wrap hs v1 v4 hc0 hc, wrap_i64_in (n := w3 - 1) (by omega) (by omega)]
      simp
    · rw [wrap_i64_in (n := fromM s3 w3 c + wayM m3 s3 w3 c pick) (by omega) (by omega), Nat.zero_add]
      refine ⟨⟨by omega, by omega⟩, by omega, ?_⟩
      simp [insT, insMs]
theorem sound_or {P : Program} {f : FuncId} {S T : Sum} (hS : Sound P f S) (hT : Sound P f T) : Sound P f (fun args H => match S args H with | some r => some r | none => T args H) := by
  intro args H p v H' h
  simp only at h
  split at h
  · rename_i r hr
    cases h
    exact hS args H p v H' hr
  · exact hT args H p v H' h
theorem putX_ok : Sound Try.prog 131 putXS := sound_or putI_ok (sound_or putD_ok putP_ok)
theorem kX1_ok : KnowsD Try.prog kX1 := .cons (by kernel_rfl) putX_ok FX0_ok
theorem FX1_ok : DictOk Try.prog FX1 := mkD_ok kX1_ok .nil .nil
theorem getV_eq {H : Heap} {va : Int} {c : Ct} {pick : Int} (h : getV H = some (va, c, pick)) : H = cvA va c pick := by
  unfold getV at h
  split at h
  case h_2 => cases h
  simp only [Option.some.injEq, Prod.mk.injEq] at h
  obtain ⟨rfl, rfl, rfl⟩ := h
  rfl
theorem tag_in {va l : Int} (hl : LvR l) : 0 ≤ tagM va l ∧ tagM va l < 512 := by
  unfold tagM
  have h0 : 0 ≤ va % 32768 := Int.emod_nonneg _ (by decide)
  have h1 : va % 32768 < 32768 := Int.emod_lt_of_pos _ (by decide)
  rcases lv_cases hl with rfl | rfl | rfl
  · rw [show ((2 : Int) ^ (6 + 3 * 0 : Int).toNat) = 64 by decide]; omega
  · rw [show ((2 : Int) ^ (6 + 3 * 1 : Int).toNat) = 512 by decide]; omega
  · rw [show ((2 : Int) ^ (6 + 3 * 2 : Int).toNat) = 4096 by decide]; omega
theorem asid_in (s : Int) : 0 ≤ asidM s ∧ asidM s < 65536 := ⟨Int.emod_nonneg _ (by decide), Int.emod_lt_of_pos _ (by decide)⟩
theorem ent_in {l va satp p : Int} (hl : LvR l) (hp : U64 p) : EnR (entM l va satp p) := by
  obtain ⟨t0, t1⟩ := tag_in (va := va) hl
  obtain ⟨a0, a1⟩ := asid_in satp
  exact ⟨⟨by have := hl.1; show -9223372036854775808 ≤ l; omega, by have := hl.2; show l < 9223372036854775808; omega⟩, ⟨t0, by show tagM va l < 18446744073709551616; omega⟩, ⟨a0, by show asidM satp < 18446744073709551616; omega⟩, hp⟩
theorem keep_put {t : Tl} {l va satp p pick : Int} (h : KeepR t l va satp p pick) : PutR t.1 t.2.1 t.2.2 (entM l va satp p) pick :=
  ⟨h.1, ent_in h.2.1 h.2.2.2.2.1, (tag_in h.2.1).2, h.2.2.2.2.2.1, h.2.2.2.2.2.2⟩
theorem keepI_ok : Sound Try.prog 207 keepIS := by
  refine sound_plain mixed Try.func207 (by kernel_rfl) (by kernel_rfl) FX1_ok (fun args H p v H' h hp => ?_)
  unfold keepIS at h
  split at h
  case h_2 => cases h
  rename_i l p0
  split at h
  case h_2 => cases h
  rename_i x n I D P va c pick hg hv
  simp only [Option.some.injEq, Prod.mk.injEq] at h
  obtain ⟨rfl, rfl, rfl⟩ := h
  obtain ⟨rfl, hk⟩ : n = lensM I D P ∧ KeepR I l va c.2.2.2 p0 pick := hp
  have e : H = chH x 0 I D P ++ cvA va c pick := by rw [← getH_eq hg, ← getV_eq hv, List.take_append_drop]
  subst e
  clear hg hv
  have hp := keep_put hk
  obtain ⟨-, h2, h3, h4, h5, -⟩ := hk
  obtain ⟨x0, x1⟩ := x
  obtain ⟨s1, w1, m1⟩ := I
  obtain ⟨s2, w2, m2⟩ := D
  obtain ⟨s3, w3, m3⟩ := P
  obtain ⟨c0, c1, c2, c3⟩ := c
  refine ⟨.none, vc_by (vc_keepI_eq x0 x1 s1 w1 m1 s2 w2 m2 s3 w3 m3 va c0 c1 c2 c3 pick l p0) ?_⟩
  refine ⟨⟨h3, h2⟩, h4, ⟨h5, show (0 : Int) ≤ 5 by decide, show (5 : Int) ≤ 62 by decide⟩, ⟨rfl, hp⟩, ?_⟩
  simp [entM]
theorem keepD_ok : Sound Try.prog 207 keepDS := by
  refine sound_plain mixed Try.func207 (by kernel_rfl) (by kernel_rfl) FX1_ok (fun args H p v H' h hp => ?_)
  unfold keepDS at h
  split at h
  case h_2 => cases h
  rename_i l p0
  split at h
  case h_2 => cases h
  rename_i x n I D P va c pick hg hv
  simp only [Option.some.injEq, Prod.mk.injEq] at h
  obtain ⟨rfl, rfl, rfl⟩ := h
  obtain ⟨rfl, hk⟩ : n = lensM I D P ∧ KeepR D l va c.2.2.2 p0 pick := hp
  have e : H = chH x 0 I D P ++ cvA va c pick := by rw [← getH_eq hg, ← getV_eq hv, List.take_append_drop]
  subst e
  clear hg hv
  have hp := keep_put hk
  obtain ⟨-, h2, h3, h4, h5, -⟩ := hk
  obtain ⟨x0, x1⟩ := x
  obtain ⟨s1, w1, m1⟩ := I
  obtain ⟨s2, w2, m2⟩ := D
  obtain ⟨s3, w3, m3⟩ := P
  obtain ⟨c0, c1, c2, c3⟩ := c
  refine ⟨.none, vc_by (vc_keepD_eq x0 x1 s1 w1 m1 s2 w2 m2 s3 w3 m3 va c0 c1 c2 c3 pick l p0) ?_⟩
  refine ⟨⟨h3, h2⟩, h4, ⟨h5, show (0 : Int) ≤ 5 by decide, show (5 : Int) ≤ 62 by decide⟩, ⟨rfl, hp⟩, ?_⟩
  simp [entM]
theorem keepP_ok : Sound Try.prog 207 keepPS := by
  refine sound_plain mixed Try.func207 (by kernel_rfl) (by kernel_rfl) FX1_ok (fun args H p v H' h hp => ?_)
  unfold keepPS at h
  split at h
  case h_2 => cases h
  rename_i l p0
  split at h
  case h_2 => cases h
  rename_i x n I D P va c pick hg hv
  simp only [Option.some.injEq, Prod.mk.injEq] at h
  obtain ⟨rfl, rfl, rfl⟩ := h
  obtain ⟨rfl, hk⟩ : n = lensM I D P ∧ KeepR P l va c.2.2.2 p0 pick := hp
  have e : H = chH x 0 I D P ++ cvA va c pick := by rw [← getH_eq hg, ← getV_eq hv, List.take_append_drop]
  subst e
  clear hg hv
  have hp := keep_put hk
  obtain ⟨-, h2, h3, h4, h5, -⟩ := hk
  obtain ⟨x0, x1⟩ := x
  obtain ⟨s1, w1, m1⟩ := I
  obtain ⟨s2, w2, m2⟩ := D
  obtain ⟨s3, w3, m3⟩ := P
  obtain ⟨c0, c1, c2, c3⟩ := c
  refine ⟨.none, vc_by (vc_keepP_eq x0 x1 s1 w1 m1 s2 w2 m2 s3 w3 m3 va c0 c1 c2 c3 pick l p0) ?_⟩
  refine ⟨⟨h3, h2⟩, h4, ⟨h5, show (0 : Int) ≤ 5 by decide, show (5 : Int) ≤ 62 by decide⟩, ⟨rfl, hp⟩, ?_⟩
  simp [entM]
theorem keepX_ok : Sound Try.prog 207 keepXS := sound_or keepI_ok (sound_or keepD_ok keepP_ok)
theorem kX2_ok : KnowsD Try.prog kX2 := .cons (by kernel_rfl) keepX_ok kX1_ok
theorem FX2_ok : DictOk Try.prog FX2 := mkD_ok kX2_ok .nil .nil
theorem getF_eq {b : Nat} {H : Heap} {x : Bx} {va : Int} {c : Ct} {pick : Int} {I D P : Tl} (h : getF b H = some (x, lensM I D P, (va, c, pick), I, D, P)) : H = fnH x b va c pick I D P := by
  unfold getF at h
  split at h
  case h_2 => cases h
  split at h
  case isFalse => cases h
  rename_i hi
  obtain ⟨rfl, rfl, rfl, rfl⟩ := hi
  split at h
  case h_2 => cases h
  rename_i hg hv
  simp only [Option.some.injEq, Prod.mk.injEq] at h
  obtain ⟨rfl, rfl, ⟨rfl, rfl, rfl⟩, rfl, rfl, rfl⟩ := h
  have e1 := getH_eq hg
  have e2 := getV_eq hv
  rw [e1]
  unfold cvA at e2
  simp only [List.cons.injEq, and_true] at e2
  obtain ⟨rfl, rfl, rfl⟩ := e2
  rfl
theorem seen_ok : Sound Try.prog 208 seenS := by
  refine sound_plain mixed Try.func208 (by kernel_rfl) (by kernel_rfl) FX2_ok (fun args H p v H' h hp => ?_)
  unfold seenS at h
  split at h
  case h_2 => cases h
  rename_i r0 r1 r2
  split at h
  case h_2 => cases h
  rename_i x n va c pick I D P hg
  simp only [Option.some.injEq, Prod.mk.injEq] at h
  obtain ⟨rfl, rfl, rfl⟩ := h
  obtain ⟨rfl, hk⟩ : n = lensM I D P ∧ KeepR P r0 va c.2.2.2 r2 pick := hp
  obtain rfl := getF_eq hg
  clear hg
  obtain ⟨x0, x1⟩ := x
  obtain ⟨s1, w1, m1⟩ := I
  obtain ⟨s2, w2, m2⟩ := D
  obtain ⟨s3, w3, m3⟩ := P
  obtain ⟨c0, c1, c2, c3⟩ := c
  obtain ⟨k1, k2, k3, k4, k5, k6, k7⟩ := hk
  refine ⟨.none, vc_by (vc_seen_eq x0 x1 s1 w1 m1 s2 w2 m2 s3 w3 m3 va c0 c1 c2 c3 pick r0 r1 r2) ⟨k5, fun q => ⟨⟨rfl, k1, k2, k3, k4, k5, k6, k7⟩, ?_⟩, fun q => ?_⟩⟩
  · have e : kindM r2 r0 = 1 := by simpa using q
    simp [keepP, e]
  · have e : ¬ kindM r2 r0 = 1 := by simpa using q
    simp [keepP, e]
theorem kX3_ok : KnowsD Try.prog kX3 := .cons (by kernel_rfl) seen_ok kX2_ok
theorem FX3_ok : DictOk Try.prog FX3 := mkD_ok kX3_ok .nil .nil
theorem keepP_head (va satp pick : Int) (t : Tl) (r : Rc) : (keepP va satp pick t r).1 = t.1 ∧ (keepP va satp pick t r).2.1 = t.2.1 ∧ (keepP va satp pick t r).2.2.length = t.2.2.length := by
  unfold keepP insT
  split
  · exact ⟨rfl, rfl, by simp [insMs_length]⟩
  · exact ⟨rfl, rfl, rfl⟩
theorem keepAll_head (va satp pick : Int) : ∀ (rs : Rs) (t : Tl), (keepAll va satp pick t rs).1 = t.1 ∧ (keepAll va satp pick t rs).2.1 = t.2.1 ∧ (keepAll va satp pick t rs).2.2.length = t.2.2.length
  | [], _ => ⟨rfl, rfl, rfl⟩
  | r :: rs, t => by
    obtain ⟨a, b, c⟩ := keepP_head va satp pick t r
    obtain ⟨a', b', c'⟩ := keepAll_head va satp pick rs (keepP va satp pick t r)
    exact ⟨a'.trans a, b'.trans b, c'.trans c⟩
theorem keepAll_snoc (va satp pick : Int) (t : Tl) (rs : Rs) (r : Rc) : keepAll va satp pick t (rs ++ [r]) = keepP va satp pick (keepAll va satp pick t rs) r := by simp [keepAll]
theorem keepAll_eta (va satp pick : Int) (t : Tl) (rs : Rs) : (t.1, t.2.1, (keepAll va satp pick t rs).2.2) = keepAll va satp pick t rs := by
  obtain ⟨a, b, -⟩ := keepAll_head va satp pick rs t
  rw [← a, ← b]
theorem headM_len {s w : Int} {m m' : Es} (h : m'.length = m.length) : headM s w m' = headM s w m := by unfold headM; rw [h]
theorem walkC_round {x0 x1 : Int} {m : By} {s1 w1 : Int} {m1 : Es} {s2 w2 : Int} {m2 : Es} {s3 w3 : Int} {m3 : Es} {va c0 : Int} {c1 c2 : Bool} {c3 pick q0 q1 q2 : Int} {rs : Rs} (hm : ByteR m) (hv : U64 va) (hh : headM s3 w3 m3 = true) (hs : U64 c3) (p0' : 0 ≤ pick) (p1' : pick ≤ 255) {l p : Int} {xs : Rs} (h : StC m va (q0, q1, q2, rs) l p xs) : vcRound Try.prog FX3 (walkCX (x0, x1) m va (c0, c1, c2, c3) pick (s1, w1, m1) (s2, w2, m2) (s3, w3, m3) (q0, q1, q2, rs) l p xs) 10 (loopAt Try.f121 0) (walkCL (x0, x1) m va (c0, c1, c2, c3) pick (s1, w1, m1) (s2, w2, m2) (s3, w3, m3) (q0, q1, q2, rs)) (fun z : Int × Int × Rs => (z.1 + 1).toNat) (l, p, xs) := by
  obtain ⟨l0, l1, p0, p1, ha, hb, hc, hr⟩ := h
  simp only at ha hb hc hr
  refine vc_by (vc_walkC_r_eq x0 x1 m s1 w1 m1 s2 w2 m2 s3 w3 m3 va c0 c1 c2 c3 pick q0 q1 q2 rs l p xs) ⟨fun g => ?_, fun g => ?_⟩
  · have g : l ≥ 0 := of_decide_eq_true g
    have hl : LvR l := ⟨g, l1⟩
    obtain ⟨hA, hS⟩ := addr_impl hl hv p0 p1
    have hrd := rd_u64 (a := 64 * p + 8 * idxM va l) hm
    obtain ⟨i0, i1⟩ := idx_in va l
    have hAu : U64 (64 * p + 8 * idxM va l) := ⟨by omega, by omega⟩
    rw [show (l + 1).toNat = l.toNat + 1 by omega, walk_step g] at ha hb hc hr
    rw [hA]
    generalize 64 * p + 8 * idxM va l = A at *
    generalize hrr : readM m A 8 = r at *
    obtain ⟨k1, k2, k3⟩ := keepAll_head va c3 pick xs (s3, w3, m3)
    have ks := keepAll_eta va c3 pick (s3, w3, m3) xs
    simp only at k1 k2 k3 ks
    have hh2 : headM s3 w3 (keepAll va c3 pick (s3, w3, m3) xs).2.2 = true := by rw [headM_len k3]; exact hh
    refine ⟨by decide, hS, by decide, ⟨rfl, hm, hAu⟩, (A, r.2, r.1), by simp, fun q => ?_, fun q => ⟨hrd, fun q2 => ?_, fun q2 => ⟨⟨rfl, hh2, hl, hv, hs, hrd, p0', p1'⟩, fun q3 => ?_, fun q3 => ⟨hrd, ?_⟩⟩⟩⟩
    · have q : r.1 = false := by simpa using q
      rw [if_pos q] at ha hb hc hr
      simp only [List.append_nil] at hr
      subst hr
      exact .inl ⟨(), by simp [hb], ha, hc⟩
    · have q : r.1 ≠ false := by simpa using q
      have q2 : kindM r.2 l = 0 := by simpa using q2
      rw [if_neg q, if_pos q2] at ha hb hc hr
      simp only [List.append_nil] at hr
      subst hr
      exact .inr (.inl ⟨(), by simp [hb], ha, hc⟩)
    · have q : r.1 ≠ false := by simpa using q
      have q2 : kindM r.2 l ≠ 0 := by simpa using q2
      have q3 : kindM r.2 l = 2 := by simpa using q3
      rw [if_neg q, if_neg q2, if_pos q3] at ha hb hc hr
      have e : keepP va c3 pick (s3, w3, (keepAll va c3 pick (s3, w3, m3) xs).2.2) (l, A, r.2) = keepAll va c3 pick (s3, w3, m3) rs := by rw [hr, ks]; exact (keepAll_snoc ..).symm
      obtain ⟨j1, j2, -⟩ := keepAll_head va c3 pick rs (s3, w3, m3)
      simp only at j1 j2
      exact .inr (.inr ⟨(), by simp only [e]; simp [hb, hc, j1, j2], ha⟩)
    · have q : r.1 ≠ false := by simpa using q
      have q2 : kindM r.2 l ≠ 0 := by simpa using q2
      have q3 : kindM r.2 l ≠ 2 := by simpa using q3
      obtain ⟨g0, g1⟩ := ppn_in hrd
      rw [if_neg q, if_neg q2, if_neg q3] at ha hb hc hr
      have e1 : IntKind.i64.wrap (l - 1) = l - 1 := wrap_i64_in (by omega) (by omega)
      have e2 : (l - 1 + 1).toNat = l.toNat := by omega
      have e : keepP va c3 pick (s3, w3, (keepAll va c3 pick (s3, w3, m3) xs).2.2) (l, A, r.2) = keepAll va c3 pick (s3, w3, m3) (xs ++ [(l, A, r.2)]) := by rw [ks]; exact (keepAll_snoc ..).symm
      obtain ⟨j1, j2, -⟩ := keepAll_head va c3 pick (xs ++ [(l, A, r.2)]) (s3, w3, m3)
      simp only at j1 j2
      refine ⟨(l - 1, ppnM r.2, xs ++ [(l, A, r.2)]), by simp only [e]; simp [e1, j1, j2], ⟨by simp only; omega, by simp only; omega, g0, g1, ?_, ?_, ?_, ?_⟩, by simp only; omega, fun _ z => z, fun _ z => z, fun _ z => z, fun _ z => z⟩
      · simp only [e2]; exact ha
      · simp only [e2]; exact hb
      · simp only [e2]; exact hc
      · simp only [e2, List.append_assoc]; exact hr
  · have g : ¬ l ≥ 0 := of_decide_eq_false g
    have e : (l + 1).toNat = 0 := by omega
    rw [e] at ha hb hc hr
    have ha : q0 = 2 := ha
    have hb : q1 = 0 := hb
    have hc : q2 = 0 := hc
    have hr : rs = xs ++ [] := hr
    rw [List.append_nil] at hr
    subst hr
    exact ⟨(), by simp, ha, hb, hc⟩
theorem loopOk_walkC {x0 x1 : Int} {m : By} {s1 w1 : Int} {m1 : Es} {s2 w2 : Int} {m2 : Es} {s3 w3 : Int} {m3 : Es} {va c0 : Int} {c1 c2 : Bool} {c3 pick q0 q1 q2 : Int} {rs : Rs} (hm : ByteR m) (hv : U64 va) (hh : headM s3 w3 m3 = true) (hs : U64 c3) (p0' : 0 ≤ pick) (p1' : pick ≤ 255) : LoopOk Try.prog 10 (loopAt Try.f121 0) (walkCL (x0, x1) m va (c0, c1, c2, c3) pick (s1, w1, m1) (s2, w2, m2) (s3, w3, m3) (q0, q1, q2, rs)) := by
  refine loop_any mixed FX3_ok (by kernel_rfl) (fun z : Int × Int × Rs => (z.1 + 1).toNat) (fun z hz => ?_)
  obtain ⟨l, p, xs⟩ : Int × Int × Rs := z
  exact ⟨_, walkC_round hm hv hh hs p0' p1' hz⟩
theorem walkC_ok (k : Nat) : Sound Try.prog 121 (walkCS k) := by
  refine sound_out mixed Try.func121 (by kernel_rfl) false FX3_ok (fun args H p v H' h hp => ?_)
  unfold walkCS at h
  split at h
  case h_2 => cases h
  rename_i n p l va0 sh m H2
  split at h
  case isFalse => cases h
  rename_i hsh
  subst hsh
  split at h
  case h_2 => cases h
  rename_i x n3 va c pick I D P hg
  simp only [Option.some.injEq, Prod.mk.injEq] at h
  obtain ⟨rfl, rfl, rfl⟩ := h
  obtain ⟨rfl, rfl, rfl, ⟨⟨hm, p0, p1, hl, hv⟩, hh, hs, k0, k1⟩, hk⟩ : n = m.length ∧ va0 = va ∧ n3 = lensM I D P ∧ WalkR m va c pick l p P ∧ codeK k (walkN m va (l + 1).toNat p) := hp
  obtain rfl := getF_eq hg
  clear hg
  obtain ⟨x0, x1⟩ := x
  obtain ⟨s1, w1, m1⟩ := I
  obtain ⟨s2, w2, m2⟩ := D
  obtain ⟨s3, w3, m3⟩ := P
  obtain ⟨c0, c1, c2, c3⟩ := c
  have hh : headM s3 w3 m3 = true := hh
  have hs : U64 c3 := hs
  generalize hW : walkN m va0 (l + 1).toNat p = W at *
  obtain ⟨q0, q1, q2, rs⟩ := W
  have h0 : StC m va0 (q0, q1, q2, rs) l p [] := by
    refine ⟨by have := hl.1; omega, hl.2, p0, p1, ?_, ?_, ?_, ?_⟩ <;> (rw [hW]; try rfl)
  refine ⟨.one 1 (walkCL (x0, x1) m va0 (c0, c1, c2, c3) pick (s1, w1, m1) (s2, w2, m2) (s3, w3, m3) (q0, q1, q2, rs)), walkCO (x0, x1) m va0 (c0, c1, c2, c3) pick (s1, w1, m1) (s2, w2, m2) (s3, w3, m3) (q0, q1, q2, rs), ?_, ?_, ?_⟩
  · intro b hb k' M hk' hM
    have hb' : b = loopAt Try.f121 0 := by
      have e : loopsOf (bodyOf Try.f121) = [loopAt Try.f121 0] := by kernel_rfl
      rw [e] at hb
      exact List.mem_singleton.1 hb
    subst hb'
    have e : keyOf (loopAt Try.f121 0) = some 1 := by kernel_rfl
    rw [e] at hk'
    cases hk'
    rw [one_loop] at hM
    cases hM
    exact loopOk_walkC hm hv hh hs k0 k1
  · refine vc_by (vc_walkC_eq x0 x1 m s1 w1 m1 s2 w2 m2 s3 w3 m3 va0 c0 c1 c2 c3 pick q0 q1 q2 rs l p) ⟨(l, p, []), by simp [keepAll], h0, fun _ z => .inr (.inr ?_), fun _ z => .inr (.inl ?_), fun _ z => .inr (.inr ?_), fun _ z => .inl ?_⟩
    · obtain ⟨z1, z2, z3⟩ := z
      simp [z1, z2, z3]
    · obtain ⟨z1, z2⟩ := z
      simp [z1, z2]
    · obtain ⟨z1, z2⟩ := z
      simp [z1, z2]
    · simp [z]
  · intro o ho hout
    simp only [walkCO, List.mem_cons, List.not_mem_nil, or_false] at ho
    match k, hk with
    | 0, hk =>
      have hk : q0 = 1 := hk
      subst hk
      rcases ho with rfl | rfl | rfl
      · exact ⟨rfl, rfl, rfl⟩
      · exact absurd (show ((1 : Int) = 3 : Prop) from hout) (by decide)
      · exact absurd (show ((1 : Int) = 2 : Prop) from hout) (by decide)
    | 1, hk =>
      have hk : q0 = 3 := hk
      subst hk
      rcases ho with rfl | rfl | rfl
      · exact absurd (show ((3 : Int) = 1 : Prop) from hout) (by decide)
      · exact ⟨rfl, rfl, rfl⟩
      · exact absurd (show ((3 : Int) = 2 : Prop) from hout) (by decide)
    | k + 2, hk =>
      have hk : q0 = 2 := hk
      subst hk
      rcases ho with rfl | rfl | rfl
      · exact absurd (show ((2 : Int) = 1 : Prop) from hout) (by decide)
      · exact absurd (show ((2 : Int) = 3 : Prop) from hout) (by decide)
      · exact ⟨rfl, rfl, rfl⟩
end Go.Proofs.Ytfiddfbagbaofaa.V
