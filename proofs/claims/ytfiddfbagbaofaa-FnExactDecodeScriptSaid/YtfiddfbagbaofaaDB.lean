/- The program's reading of a script answers as its model. Conditions: those in each statement. -/
import Derived.Test.YtfiddfbagbaofaaDA
import Derived.KernelRfl
namespace Go.Proofs.Ytfiddfbagbaofaa.V
open Go
/-- The machine of a script, part by part. -/
def dPc (b : By) : Int := numM (bytsB b 7 8)
def dMode (b : By) : Int := if atB b 4 % 4 = 3 then 1 else atB b 4 % 4
def dSum (b : By) : Bool := atB b 4 / 4 % 2 == 1
def dMxr (b : By) : Bool := atB b 4 / 8 % 2 == 1
def dSatp (b : By) : Int := if schemeM (numM (bytsB b 23 8)) = true then numM (bytsB b 23 8) else 0
def dTvec (b : By) : Int := numM (bytsB b 15 8) / 4 * 4
def dSize (b : By) : Nat := (64 * (1 + atB b 3 % 64)).toNat
def dN (b : By) : Int := min (numM (bytsB b 5 2)) 20000
def regsP (b : By) (i : Nat) : Us := (List.range 8).map fun j => if 1 ≤ j ∧ j < i then numM (bytsB b (23 + 8 * j) 8) else 0
/-- So many bytes of a run, written one by one. -/
def wrS (b : By) (p a : Nat) : Nat → By → By
  | 0, m => m
  | j + 1, m => if a + j < (wrS b p a j m).length then (wrS b p a j m).set (a + j) (atB b (p + j)) else wrS b p a j m
def runsB (b : By) : Nat → Nat × By → Nat × By
  | 0, s => s
  | r + 1, s => runsB b r (s.1 + 3 + (atB b (s.1 + 2)).toNat, wrS b (s.1 + 3) (atB b s.1 + 256 * atB b (s.1 + 1)).toNat (atB b (s.1 + 2)).toNat s.2)
def dEnd (b : By) : Nat × By := runsB b (atB b 87).toNat (88, List.replicate (dSize b) 0)
abbrev scP : Pm := .st [.sl [.i .u8], .sl [.i .u64], .i .u64, .i .i64, .b, .b, .i .u64, .i .u64, .i .u64, .i .i64, .i .i64, .i .u64, .i .i64, .i .i64, .sl shE, .i .i64, .i .i64, .sl shE, .i .i64, .i .i64, .sl shE, .sl [.i .i64]]
abbrev Sc := By × Us × Int × Int × Bool × Bool × Int × Int × Int × Int × Int × Int × Int × Int × Es × Int × Int × Es × Int × Int × Es × List Int
def decM (b : By) : Sc := ((dEnd b).2, regsP b 8, dPc b, dMode b, dSum b, dMxr b, dSatp b, dTvec b, 0, dMode b, 0, 0, (emptyM (atB b 0)).1, (emptyM (atB b 0)).2.1, List.replicate (emptyN (atB b 0)) zE, (emptyM (atB b 1)).1, (emptyM (atB b 1)).2.1, List.replicate (emptyN (atB b 1)) zE, (emptyM (atB b 2)).1, (emptyM (atB b 2)).2.1, List.replicate (emptyN (atB b 2)) zE, bytsB b (dEnd b).1 (dN b).toNat)
def zSc : Blk := .fix [.v (.slice none 0 0), .v (.slice none 0 0), .v (.int .u64 0), .v (.int .i64 0), .v (.bool false), .v (.bool false), .v (.int .u64 0), .v (.int .u64 0), .v (.int .u64 0), .v (.int .i64 0), .v (.int .i64 0), .v (.int .u64 0), .v (.int .i64 0), .v (.int .i64 0), .v (.slice none 0 0), .v (.int .i64 0), .v (.int .i64 0), .v (.slice none 0 0), .v (.int .i64 0), .v (.int .i64 0), .v (.slice none 0 0), .v (.slice none 0 0)] true (some 106)
def sgA (b : By) (M : Nat) (ra : Av) (pc mo : Int) (su mx : Bool) (sa tv em : Int) (pk : Av) : List Av := [.sl 4 1 0 M, ra, .v (.int .u64 pc), .v (.int .i64 mo), .v (.bool su), .v (.bool mx), .v (.int .u64 sa), .v (.int .u64 tv), .v (.int .u64 0), .v (.int .i64 em), .v (.int .i64 0), .v (.int .u64 0)] ++ (tlA (emptyM (atB b 0)).1 (emptyM (atB b 0)).2.1 6 (emptyN (atB b 0)) ++ (tlA (emptyM (atB b 1)).1 (emptyM (atB b 1)).2.1 7 (emptyN (atB b 1)) ++ (tlA (emptyM (atB b 2)).1 (emptyM (atB b 2)).2.1 8 (emptyN (atB b 2)) ++ [pk])))
def sgH (b : By) (lo : Nat) (mem : By) (rb : Blk) (cells : List Av) : Heap := [.arr [.i .u8] b false, zSc, .fix [.sl 0 1 (adv b.length 0 lo) (b.length - adv b.length 0 lo)] true (some 199), .fix cells true (some 106), .arr [.i .u8] mem true, rb, .arr shE (List.replicate (emptyN (atB b 0)) zE) true, .arr shE (List.replicate (emptyN (atB b 1)) zE) true, .arr shE (List.replicate (emptyN (atB b 2)) zE) true]
def scH (b : By) (lo : Nat) (mem : By) (regs : Us) (pk : Av) : Heap := sgH b lo mem (.arr [.i .u64] regs true) (sgA b mem.length (.sl 5 1 0 8) (dPc b) (dMode b) (dSum b) (dMxr b) (dSatp b) (dTvec b) (dMode b) pk)
def scSl (b : By) (l : List (Nat × Av)) : List Av := slots 140 ([(2, .ptr 1 0), (3, .ptr 2 0), (4, .ptr 3 0), (5, .ptr 3 0), (7, .v (.int .u64 (dN b)))] ++ l)
def nilA : Av := .v (.slice none 0 0)
def decL1 (b : By) : LoopS where
  α := Nat
  I i := 1 ≤ i ∧ i ≤ 8
  sl i := scSl b [(9, .v (.int .i64 (i : Int)))]
  H i := scH b (23 + 8 * i) (List.replicate (dSize b) 0) (regsP b i) nilA
  fams := [{ β := Unit, out := fun _ _ => True, ex := .ext 0, sl := fun _ => scSl b [], H := fun _ => scH b 87 (List.replicate (dSize b) 0) (regsP b 8) nilA }]
def RunR (b : By) (t p : Nat) (m : By) : Prop := t ≤ 255 ∧ p ≤ 88 + 258 * (255 - t) ∧ m.length = dSize b ∧ ByteR m ∧ runsB b t (p, m) = dEnd b
def decL2 (b : By) : LoopS where
  α := Nat × Nat × By
  I x := RunR b x.1 x.2.1 x.2.2
  sl x := scSl b [(10, .v (.int .i64 (x.1 : Int)))]
  H x := scH b x.2.1 x.2.2 (regsP b 8) nilA
  fams := [{ β := Unit, out := fun _ _ => True, ex := .ext 2, sl := fun _ => scSl b [], H := fun _ => scH b (dEnd b).1 (dEnd b).2 (regsP b 8) nilA }]
/-- t: runs left; p: where the run's bytes begin; a: their place; c: how many; j: how many so far. -/
def decL3 (b : By) : LoopS where
  α := Nat × Nat × Nat × Nat × Nat × By
  I x := x.1 ≤ 255 ∧ x.2.1 ≤ 100000 ∧ x.2.2.1 ≤ 100000 ∧ x.2.2.2.1 ≤ 255 ∧ x.2.2.2.2.1 ≤ x.2.2.2.1 ∧ SzR x.2.2.2.2.2.length
  sl x := scSl b [(10, .v (.int .i64 (x.1 : Int))), (11, .v (.int .i64 ((x.2.2.1 + x.2.2.2.2.1 : Nat) : Int))), (12, .v (.int .i64 ((x.2.2.2.1 - x.2.2.2.2.1 : Nat) : Int)))]
  H x := scH b (x.2.1 + x.2.2.2.2.1) (wrS b x.2.1 x.2.2.1 x.2.2.2.2.1 x.2.2.2.2.2) (regsP b 8) nilA
  fams := [{ β := Nat × Nat × By, out := fun x z => z.1 = x.1 ∧ z.2.1 = x.2.1 + x.2.2.2.1 ∧ z.2.2 = wrS b x.2.1 x.2.2.1 x.2.2.2.1 x.2.2.2.2.2, ex := .ext 4, sl := fun z => scSl b [(10, .v (.int .i64 (z.1 : Int)))], H := fun z => scH b z.2.1 z.2.2 (regsP b 8) nilA }]
def decL4 (b : By) : LoopS where
  α := Nat
  I k := (k : Int) ≤ dN b
  sl k := scSl b [(129, .v (.int .u64 (dN b))), (130, .v (.int .u64 (k : Int)))]
  H k := scH b ((dEnd b).1 + k) (dEnd b).2 (regsP b 8) (.sl 9 1 0 k) ++ [.arr [.i .i64] (bytsB b (dEnd b).1 k) true]
  fams := [{ β := Unit, out := fun _ _ => True, ex := .ext 6, sl := fun _ => scSl b [], H := fun _ => scH b ((dEnd b).1 + (dN b).toNat) (dEnd b).2 (regsP b 8) (.sl 9 1 0 (dN b).toNat) ++ [.arr [.i .i64] (bytsB b (dEnd b).1 (dN b).toNat) true] }]
/-- Before the first loop. -/
def preSl (l : List (Nat × Av)) : List Av := slots 140 ([(2, .ptr 1 0), (3, .ptr 2 0), (4, .ptr 3 0), (5, .ptr 3 0)] ++ l)
def preH (b : By) (lo : Nat) (pc mo : Int) (su mx : Bool) (sa tv em : Int) : Heap := sgH b lo (List.replicate (dSize b) 0) .dead (sgA b (dSize b) nilA pc mo su mx sa tv em nilA)
def decCut (b : By) (r : Nat) : Option CutS :=
  if r = 6 then some (CutS.mk Unit (fun _ => preSl []) (fun _ => preH b 4 0 0 false false 0 0 0))
  else if r = 11 then some (CutS.mk Unit (fun _ => preSl []) (fun _ => preH b 5 0 (dMode b) (dSum b) (dMxr b) 0 0 (dMode b)))
  else none
def decCond (b : By) (r : Nat) : Option CutS :=
  if r = 9 then some (CutS.mk Int (fun _ => preSl [(6, .v (.int .i64 (atB b 4)))]) (fun z => preH b 5 0 z false false 0 0 0))
  else if r = 16 then some (CutS.mk Int (fun _ => scSl b []) (fun z => preH b 31 (dPc b) (dMode b) (dSum b) (dMxr b) z (dTvec b) (dMode b)))
  else none
def decX (b : By) : Specs := { Specs.many [(19, decL1 b), (23, decL2 b), (27, decL3 b), (34, decL4 b)] with cut := decCut b, cond := decCond b }
def kDB : Known := [(156, sbyteS), (157, snumS), (155, stlbS), (149, pureS [u64] [bl] (fun s => some (U64 s)) schemeM)]
def FDB : Dict := mkD kDB [] []
def vc_dec_r1 (b : By) (i : Nat) : Prop := vcRound Try.prog FDB (decX b) 1 (loopAt Try.f70 0) (decL1 b) (fun i : Nat => 8 - i) i
def vc_dec_r2 (b : By) (t p : Nat) (m : By) : Prop := vcRound Try.prog FDB (decX b) 1 (loopAt Try.f70 1) (decL2 b) (fun x : Nat × Nat × By => x.1) (t, p, m)
def vc_dec_r3 (b : By) (t p a c j : Nat) (m : By) : Prop := vcRound Try.prog FDB (decX b) 1 (loopAt Try.f70 2) (decL3 b) (fun x : Nat × Nat × Nat × Nat × Nat × By => x.2.2.2.1 - x.2.2.2.2.1) (t, p, a, c, j, m)
def vc_dec_r4 (b : By) (k : Nat) : Prop := vcRound Try.prog FDB (decX b) 1 (loopAt Try.f70 3) (decL4 b) (fun k : Nat => (dN b).toNat - k) k
def vc_dec (b : By) : Prop := vcPure Try.prog FDB (decX b) Try.f70 [byP] [scP] b (decM b)
end Go.Proofs.Ytfiddfbagbaofaa.V
namespace Go.Proofs.Ytfiddfbagbaofaa.V
open Go
set_option linter.unusedVariables false
theorem vc_dec_r1_eq (b : By) (i : Nat) : vc_dec_r1 b i = (
 (decide ((↑i : Int) < (8 : Int)) = true → (adv (List.length b) (0 : Nat) ((23 : Nat) + (8 : Nat) * i) ≤ List.length b ∧ List.length b - adv (List.length b) (0 : Nat) ((23 : Nat) + (8 : Nat) * i) = List.length b - adv (List.length b) (0 :
 Nat) ((23 : Nat) + (8 : Nat) * i) ∧ ByteR b ∧ (0 : Int) ≤ (8 : Int) ∧ (8 : Int) ≤ (8 : Int)) ∧ ((0 : Int) ≤ (↑i : Int) ∧ (↑i : Int) < (↑(8 : Nat) : Int)) ∧ (0 : Nat) + (↑i : Int).toNat < List.length (regsP b i) ∧ ∃ (y : Nat), (dN b = dN b ∧
 (↑y : Int) = IntKind.i64.wrap ((↑i : Int) + (1 : Int)) ∧ b = b ∧ Value.slice none (0 : Nat) (0 : Nat) = Value.slice none (0 : Nat) (0 : Nat) ∧ Value.slice none (0 : Nat) (0 : Nat) = Value.slice none (0 : Nat) (0 : Nat) ∧ (0 : Int) = (0 :
 Int) ∧ (0 : Int) = (0 : Int) ∧ false = false ∧ false = false ∧ (0 : Int) = (0 : Int) ∧ (0 : Int) = (0 : Int) ∧ (0 : Int) = (0 : Int) ∧ (0 : Int) = (0 : Int) ∧ (0 : Int) = (0 : Int) ∧ (0 : Int) = (0 : Int) ∧ (0 : Int) = (0 : Int) ∧ (0 : Int)
 = (0 : Int) ∧ Value.slice none (0 : Nat) (0 : Nat) = Value.slice none (0 : Nat) (0 : Nat) ∧ (0 : Int) = (0 : Int) ∧ (0 : Int) = (0 : Int) ∧ Value.slice none (0 : Nat) (0 : Nat) = Value.slice none (0 : Nat) (0 : Nat) ∧ (0 : Int) = (0 : Int)
 ∧ (0 : Int) = (0 : Int) ∧ Value.slice none (0 : Nat) (0 : Nat) = Value.slice none (0 : Nat) (0 : Nat) ∧ Value.slice none (0 : Nat) (0 : Nat) = Value.slice none (0 : Nat) (0 : Nat) ∧ adv (List.length b) (0 : Nat) ((23 : Nat) + (8 : Nat) * y)
 = adv (List.length b) (adv (List.length b) (0 : Nat) ((23 : Nat) + (8 : Nat) * i)) (Int.toNat (8 : Int)) ∧ List.length b - adv (List.length b) (0 : Nat) ((23 : Nat) + (8 : Nat) * y) = List.length b - adv (List.length b) (adv (List.length b)
 (0 : Nat) ((23 : Nat) + (8 : Nat) * i)) (Int.toNat (8 : Int)) ∧ (0 : Nat) = (0 : Nat) ∧ (List.replicate (dSize b) (0 : Int)).length = (List.replicate (dSize b) (0 : Int)).length ∧ (0 : Nat) = (0 : Nat) ∧ (8 : Nat) = (8 : Nat) ∧ dPc b = dPc
 b ∧ dMode b = dMode b ∧ dSum b = dSum b ∧ dMxr b = dMxr b ∧ dSatp b = dSatp b ∧ dTvec b = dTvec b ∧ (0 : Int) = (0 : Int) ∧ dMode b = dMode b ∧ (0 : Int) = (0 : Int) ∧ (0 : Int) = (0 : Int) ∧ (emptyM (atB b (0 : Nat))).fst = (emptyM (atB b
 (0 : Nat))).fst ∧ (emptyM (atB b (0 : Nat))).snd.fst = (emptyM (atB b (0 : Nat))).snd.fst ∧ (0 : Nat) = (0 : Nat) ∧ emptyN (atB b (0 : Nat)) = emptyN (atB b (0 : Nat)) ∧ (emptyM (atB b (1 : Nat))).fst = (emptyM (atB b (1 : Nat))).fst ∧
 (emptyM (atB b (1 : Nat))).snd.fst = (emptyM (atB b (1 : Nat))).snd.fst ∧ (0 : Nat) = (0 : Nat) ∧ emptyN (atB b (1 : Nat)) = emptyN (atB b (1 : Nat)) ∧ (emptyM (atB b (2 : Nat))).fst = (emptyM (atB b (2 : Nat))).fst ∧ (emptyM (atB b (2 :
 Nat))).snd.fst = (emptyM (atB b (2 : Nat))).snd.fst ∧ (0 : Nat) = (0 : Nat) ∧ emptyN (atB b (2 : Nat)) = emptyN (atB b (2 : Nat)) ∧ Value.slice none (0 : Nat) (0 : Nat) = Value.slice none (0 : Nat) (0 : Nat) ∧ List.replicate (dSize b) (0 :
 Int) = List.replicate (dSize b) (0 : Int) ∧ regsP b y = List.set (regsP b i) ((0 : Nat) + (↑i : Int).toNat) (numM (bytsB b (adv (List.length b) (0 : Nat) ((23 : Nat) + (8 : Nat) * i)) (Int.toNat (8 : Int)))) ∧ List.replicate (emptyN (atB b
 (0 : Nat))) zE = List.replicate (emptyN (atB b (0 : Nat))) zE ∧ List.replicate (emptyN (atB b (1 : Nat))) zE = List.replicate (emptyN (atB b (1 : Nat))) zE ∧ List.replicate (emptyN (atB b (2 : Nat))) zE = List.replicate (emptyN (atB b (2 :
 Nat))) zE) ∧ ((1 : Nat) ≤ y ∧ y ≤ (8 : Nat)) ∧ (8 : Nat) - y < (8 : Nat) - i ∧ ∀ (z : Unit), True → True) ∧ (decide ((↑i : Int) < (8 : Int)) = false → ∃ (z : Unit), (dN b = dN b ∧ b = b ∧ Value.slice none (0 : Nat) (0 : Nat) = Value.slice
 none (0 : Nat) (0 : Nat) ∧ Value.slice none (0 : Nat) (0 : Nat) = Value.slice none (0 : Nat) (0 : Nat) ∧ (0 : Int) = (0 : Int) ∧ (0 : Int) = (0 : Int) ∧ false = false ∧ false = false ∧ (0 : Int) = (0 : Int) ∧ (0 : Int) = (0 : Int) ∧ (0 :
 Int) = (0 : Int) ∧ (0 : Int) = (0 : Int) ∧ (0 : Int) = (0 : Int) ∧ (0 : Int) = (0 : Int) ∧ (0 : Int) = (0 : Int) ∧ (0 : Int) = (0 : Int) ∧ Value.slice none (0 : Nat) (0 : Nat) = Value.slice none (0 : Nat) (0 : Nat) ∧ (0 : Int) = (0 : Int) ∧
 (0 : Int) = (0 : Int) ∧ Value.slice none (0 : Nat) (0 : Nat) = Value.slice none (0 : Nat) (0 : Nat) ∧ (0 : Int) = (0 : Int) ∧ (0 : Int) = (0 : Int) ∧ Value.slice none (0 : Nat) (0 : Nat) = Value.slice none (0 : Nat) (0 : Nat) ∧ Value.slice
 none (0 : Nat) (0 : Nat) = Value.slice none (0 : Nat) (0 : Nat) ∧ adv (List.length b) (0 : Nat) (87 : Nat) = adv (List.length b) (0 : Nat) ((23 : Nat) + (8 : Nat) * i) ∧ List.length b - adv (List.length b) (0 : Nat) (87 : Nat) = List.length
 b - adv (List.length b) (0 : Nat) ((23 : Nat) + (8 : Nat) * i) ∧ (0 : Nat) = (0 : Nat) ∧ (List.replicate (dSize b) (0 : Int)).length = (List.replicate (dSize b) (0 : Int)).length ∧ (0 : Nat) = (0 : Nat) ∧ (8 : Nat) = (8 : Nat) ∧ dPc b = dPc
 b ∧ dMode b = dMode b ∧ dSum b = dSum b ∧ dMxr b = dMxr b ∧ dSatp b = dSatp b ∧ dTvec b = dTvec b ∧ (0 : Int) = (0 : Int) ∧ dMode b = dMode b ∧ (0 : Int) = (0 : Int) ∧ (0 : Int) = (0 : Int) ∧ (emptyM (atB b (0 : Nat))).fst = (emptyM (atB b
 (0 : Nat))).fst ∧ (emptyM (atB b (0 : Nat))).snd.fst = (emptyM (atB b (0 : Nat))).snd.fst ∧ (0 : Nat) = (0 : Nat) ∧ emptyN (atB b (0 : Nat)) = emptyN (atB b (0 : Nat)) ∧ (emptyM (atB b (1 : Nat))).fst = (emptyM (atB b (1 : Nat))).fst ∧
 (emptyM (atB b (1 : Nat))).snd.fst = (emptyM (atB b (1 : Nat))).snd.fst ∧ (0 : Nat) = (0 : Nat) ∧ emptyN (atB b (1 : Nat)) = emptyN (atB b (1 : Nat)) ∧ (emptyM (atB b (2 : Nat))).fst = (emptyM (atB b (2 : Nat))).fst ∧ (emptyM (atB b (2 :
 Nat))).snd.fst = (emptyM (atB b (2 : Nat))).snd.fst ∧ (0 : Nat) = (0 : Nat) ∧ emptyN (atB b (2 : Nat)) = emptyN (atB b (2 : Nat)) ∧ Value.slice none (0 : Nat) (0 : Nat) = Value.slice none (0 : Nat) (0 : Nat) ∧ List.replicate (dSize b) (0 :
 Int) = List.replicate (dSize b) (0 : Int) ∧ regsP b (8 : Nat) = regsP b i ∧ List.replicate (emptyN (atB b (0 : Nat))) zE = List.replicate (emptyN (atB b (0 : Nat))) zE ∧ List.replicate (emptyN (atB b (1 : Nat))) zE = List.replicate (emptyN
 (atB b (1 : Nat))) zE ∧ List.replicate (emptyN (atB b (2 : Nat))) zE = List.replicate (emptyN (atB b (2 : Nat))) zE) ∧ True)) := by kernel_rfl
theorem vc_dec_r2_eq (b : By) (t p : Nat) (m : By) : vc_dec_r2 b t p m = (
 (decide ((↑t : Int) > (0 : Int)) = true → (adv (List.length b) (0 : Nat) p ≤ List.length b ∧ List.length b - adv (List.length b) (0 : Nat) p = List.length b - adv (List.length b) (0 : Nat) p ∧ ByteR b ∧ (0 : Int) ≤ (2 : Int) ∧ (2 : Int) ≤
 (8 : Int)) ∧ (adv (List.length b) (adv (List.length b) (0 : Nat) p) (Int.toNat (2 : Int)) ≤ List.length b ∧ List.length b - adv (List.length b) (adv (List.length b) (0 : Nat) p) (Int.toNat (2 : Int)) = List.length b - adv (List.length b)
 (adv (List.length b) (0 : Nat) p) (Int.toNat (2 : Int)) ∧ ByteR b) ∧ ∃ (x : Nat × Nat × Nat × Nat × Nat × By), (dN b = dN b ∧ (↑x.fst : Int) = (↑t : Int) ∧ (↑(x.snd.snd.fst + x.snd.snd.snd.snd.fst) : Int) = IntKind.i64.wrap (numM (bytsB b
 (adv (List.length b) (0 : Nat) p) (Int.toNat (2 : Int)))) ∧ (↑(x.snd.snd.snd.fst - x.snd.snd.snd.snd.fst) : Int) = atB b (adv (List.length b) (adv (List.length b) (0 : Nat) p) (Int.toNat (2 : Int))) ∧ b = b ∧ Value.slice none (0 : Nat) (0 :
 Nat) = Value.slice none (0 : Nat) (0 : Nat) ∧ Value.slice none (0 : Nat) (0 : Nat) = Value.slice none (0 : Nat) (0 : Nat) ∧ (0 : Int) = (0 : Int) ∧ (0 : Int) = (0 : Int) ∧ false = false ∧ false = false ∧ (0 : Int) = (0 : Int) ∧ (0 : Int) =
 (0 : Int) ∧ (0 : Int) = (0 : Int) ∧ (0 : Int) = (0 : Int) ∧ (0 : Int) = (0 : Int) ∧ (0 : Int) = (0 : Int) ∧ (0 : Int) = (0 : Int) ∧ (0 : Int) = (0 : Int) ∧ Value.slice none (0 : Nat) (0 : Nat) = Value.slice none (0 : Nat) (0 : Nat) ∧ (0 :
 Int) = (0 : Int) ∧ (0 : Int) = (0 : Int) ∧ Value.slice none (0 : Nat) (0 : Nat) = Value.slice none (0 : Nat) (0 : Nat) ∧ (0 : Int) = (0 : Int) ∧ (0 : Int) = (0 : Int) ∧ Value.slice none (0 : Nat) (0 : Nat) = Value.slice none (0 : Nat) (0 :
 Nat) ∧ Value.slice none (0 : Nat) (0 : Nat) = Value.slice none (0 : Nat) (0 : Nat) ∧ adv (List.length b) (0 : Nat) (x.snd.fst + x.snd.snd.snd.snd.fst) = adv (List.length b) (adv (List.length b) (adv (List.length b) (0 : Nat) p) (Int.toNat
 (2 : Int))) (1 : Nat) ∧ List.length b - adv (List.length b) (0 : Nat) (x.snd.fst + x.snd.snd.snd.snd.fst) = List.length b - adv (List.length b) (adv (List.length b) (adv (List.length b) (0 : Nat) p) (Int.toNat (2 : Int))) (1 : Nat) ∧ (0 :
 Nat) = (0 : Nat) ∧ List.length (wrS b x.snd.fst x.snd.snd.fst x.snd.snd.snd.snd.fst x.snd.snd.snd.snd.snd) = List.length m ∧ (0 : Nat) = (0 : Nat) ∧ (8 : Nat) = (8 : Nat) ∧ dPc b = dPc b ∧ dMode b = dMode b ∧ dSum b = dSum b ∧ dMxr b = dMxr
 b ∧ dSatp b = dSatp b ∧ dTvec b = dTvec b ∧ (0 : Int) = (0 : Int) ∧ dMode b = dMode b ∧ (0 : Int) = (0 : Int) ∧ (0 : Int) = (0 : Int) ∧ (emptyM (atB b (0 : Nat))).fst = (emptyM (atB b (0 : Nat))).fst ∧ (emptyM (atB b (0 : Nat))).snd.fst =
 (emptyM (atB b (0 : Nat))).snd.fst ∧ (0 : Nat) = (0 : Nat) ∧ emptyN (atB b (0 : Nat)) = emptyN (atB b (0 : Nat)) ∧ (emptyM (atB b (1 : Nat))).fst = (emptyM (atB b (1 : Nat))).fst ∧ (emptyM (atB b (1 : Nat))).snd.fst = (emptyM (atB b (1 :
 Nat))).snd.fst ∧ (0 : Nat) = (0 : Nat) ∧ emptyN (atB b (1 : Nat)) = emptyN (atB b (1 : Nat)) ∧ (emptyM (atB b (2 : Nat))).fst = (emptyM (atB b (2 : Nat))).fst ∧ (emptyM (atB b (2 : Nat))).snd.fst = (emptyM (atB b (2 : Nat))).snd.fst ∧ (0 :
 Nat) = (0 : Nat) ∧ emptyN (atB b (2 : Nat)) = emptyN (atB b (2 : Nat)) ∧ Value.slice none (0 : Nat) (0 : Nat) = Value.slice none (0 : Nat) (0 : Nat) ∧ wrS b x.snd.fst x.snd.snd.fst x.snd.snd.snd.snd.fst x.snd.snd.snd.snd.snd = m ∧ regsP b
 (8 : Nat) = regsP b (8 : Nat) ∧ List.replicate (emptyN (atB b (0 : Nat))) zE = List.replicate (emptyN (atB b (0 : Nat))) zE ∧ List.replicate (emptyN (atB b (1 : Nat))) zE = List.replicate (emptyN (atB b (1 : Nat))) zE ∧ List.replicate
 (emptyN (atB b (2 : Nat))) zE = List.replicate (emptyN (atB b (2 : Nat))) zE) ∧ (x.fst ≤ (255 : Nat) ∧ x.snd.fst ≤ (100000 : Nat) ∧ x.snd.snd.fst ≤ (100000 : Nat) ∧ x.snd.snd.snd.fst ≤ (255 : Nat) ∧ x.snd.snd.snd.snd.fst ≤ x.snd.snd.snd.fst
 ∧ SzR (List.length x.snd.snd.snd.snd.snd)) ∧ ∀ (z : Nat × Nat × By), z.fst = x.fst ∧ z.snd.fst = x.snd.fst + x.snd.snd.snd.fst ∧ z.snd.snd = wrS b x.snd.fst x.snd.snd.fst x.snd.snd.snd.fst x.snd.snd.snd.snd.snd → ∃ (y : Nat × Nat × By), (dN
 b = dN b ∧ (↑y.fst : Int) = IntKind.i64.wrap ((↑z.fst : Int) - (1 : Int)) ∧ b = b ∧ Value.slice none (0 : Nat) (0 : Nat) = Value.slice none (0 : Nat) (0 : Nat) ∧ Value.slice none (0 : Nat) (0 : Nat) = Value.slice none (0 : Nat) (0 : Nat) ∧
 (0 : Int) = (0 : Int) ∧ (0 : Int) = (0 : Int) ∧ false = false ∧ false = false ∧ (0 : Int) = (0 : Int) ∧ (0 : Int) = (0 : Int) ∧ (0 : Int) = (0 : Int) ∧ (0 : Int) = (0 : Int) ∧ (0 : Int) = (0 : Int) ∧ (0 : Int) = (0 : Int) ∧ (0 : Int) = (0 :
 Int) ∧ (0 : Int) = (0 : Int) ∧ Value.slice none (0 : Nat) (0 : Nat) = Value.slice none (0 : Nat) (0 : Nat) ∧ (0 : Int) = (0 : Int) ∧ (0 : Int) = (0 : Int) ∧ Value.slice none (0 : Nat) (0 : Nat) = Value.slice none (0 : Nat) (0 : Nat) ∧ (0 :
 Int) = (0 : Int) ∧ (0 : Int) = (0 : Int) ∧ Value.slice none (0 : Nat) (0 : Nat) = Value.slice none (0 : Nat) (0 : Nat) ∧ Value.slice none (0 : Nat) (0 : Nat) = Value.slice none (0 : Nat) (0 : Nat) ∧ adv (List.length b) (0 : Nat) y.snd.fst =
 adv (List.length b) (0 : Nat) z.snd.fst ∧ List.length b - adv (List.length b) (0 : Nat) y.snd.fst = List.length b - adv (List.length b) (0 : Nat) z.snd.fst ∧ (0 : Nat) = (0 : Nat) ∧ List.length y.snd.snd = List.length z.snd.snd ∧ (0 : Nat)
 = (0 : Nat) ∧ (8 : Nat) = (8 : Nat) ∧ dPc b = dPc b ∧ dMode b = dMode b ∧ dSum b = dSum b ∧ dMxr b = dMxr b ∧ dSatp b = dSatp b ∧ dTvec b = dTvec b ∧ (0 : Int) = (0 : Int) ∧ dMode b = dMode b ∧ (0 : Int) = (0 : Int) ∧ (0 : Int) = (0 : Int)
 ∧ (emptyM (atB b (0 : Nat))).fst = (emptyM (atB b (0 : Nat))).fst ∧ (emptyM (atB b (0 : Nat))).snd.fst = (emptyM (atB b (0 : Nat))).snd.fst ∧ (0 : Nat) = (0 : Nat) ∧ emptyN (atB b (0 : Nat)) = emptyN (atB b (0 : Nat)) ∧ (emptyM (atB b (1 :
 Nat))).fst = (emptyM (atB b (1 : Nat))).fst ∧ (emptyM (atB b (1 : Nat))).snd.fst = (emptyM (atB b (1 : Nat))).snd.fst ∧ (0 : Nat) = (0 : Nat) ∧ emptyN (atB b (1 : Nat)) = emptyN (atB b (1 : Nat)) ∧ (emptyM (atB b (2 : Nat))).fst = (emptyM
 (atB b (2 : Nat))).fst ∧ (emptyM (atB b (2 : Nat))).snd.fst = (emptyM (atB b (2 : Nat))).snd.fst ∧ (0 : Nat) = (0 : Nat) ∧ emptyN (atB b (2 : Nat)) = emptyN (atB b (2 : Nat)) ∧ Value.slice none (0 : Nat) (0 : Nat) = Value.slice none (0 :
 Nat) (0 : Nat) ∧ y.snd.snd = z.snd.snd ∧ regsP b (8 : Nat) = regsP b (8 : Nat) ∧ List.replicate (emptyN (atB b (0 : Nat))) zE = List.replicate (emptyN (atB b (0 : Nat))) zE ∧ List.replicate (emptyN (atB b (1 : Nat))) zE = List.replicate
 (emptyN (atB b (1 : Nat))) zE ∧ List.replicate (emptyN (atB b (2 : Nat))) zE = List.replicate (emptyN (atB b (2 : Nat))) zE) ∧ RunR b y.fst y.snd.fst y.snd.snd ∧ y.fst < t ∧ ∀ (z : Unit), True → True) ∧ (decide ((↑t : Int) > (0 : Int)) =
 false → ∃ (z : Unit), (dN b = dN b ∧ b = b ∧ Value.slice none (0 : Nat) (0 : Nat) = Value.slice none (0 : Nat) (0 : Nat) ∧ Value.slice none (0 : Nat) (0 : Nat) = Value.slice none (0 : Nat) (0 : Nat) ∧ (0 : Int) = (0 : Int) ∧ (0 : Int) = (0
 : Int) ∧ false = false ∧ false = false ∧ (0 : Int) = (0 : Int) ∧ (0 : Int) = (0 : Int) ∧ (0 : Int) = (0 : Int) ∧ (0 : Int) = (0 : Int) ∧ (0 : Int) = (0 : Int) ∧ (0 : Int) = (0 : Int) ∧ (0 : Int) = (0 : Int) ∧ (0 : Int) = (0 : Int) ∧
 Value.slice none (0 : Nat) (0 : Nat) = Value.slice none (0 : Nat) (0 : Nat) ∧ (0 : Int) = (0 : Int) ∧ (0 : Int) = (0 : Int) ∧ Value.slice none (0 : Nat) (0 : Nat) = Value.slice none (0 : Nat) (0 : Nat) ∧ (0 : Int) = (0 : Int) ∧ (0 : Int) =
 (0 : Int) ∧ Value.slice none (0 : Nat) (0 : Nat) = Value.slice none (0 : Nat) (0 : Nat) ∧ Value.slice none (0 : Nat) (0 : Nat) = Value.slice none (0 : Nat) (0 : Nat) ∧ adv (List.length b) (0 : Nat) (runsB b (atB b (87 : Nat)).toNat ((88 :
 Nat), List.replicate (dSize b) (0 : Int))).fst = adv (List.length b) (0 : Nat) p ∧ List.length b - adv (List.length b) (0 : Nat) (runsB b (atB b (87 : Nat)).toNat ((88 : Nat), List.replicate (dSize b) (0 : Int))).fst = List.length b - adv
 (List.length b) (0 : Nat) p ∧ (0 : Nat) = (0 : Nat) ∧ List.length (runsB b (atB b (87 : Nat)).toNat ((88 : Nat), List.replicate (dSize b) (0 : Int))).snd = List.length m ∧ (0 : Nat) = (0 : Nat) ∧ (8 : Nat) = (8 : Nat) ∧ dPc b = dPc b ∧
 dMode b = dMode b ∧ dSum b = dSum b ∧ dMxr b = dMxr b ∧ dSatp b = dSatp b ∧ dTvec b = dTvec b ∧ (0 : Int) = (0 : Int) ∧ dMode b = dMode b ∧ (0 : Int) = (0 : Int) ∧ (0 : Int) = (0 : Int) ∧ (emptyM (atB b (0 : Nat))).fst = (emptyM (atB b (0 :
 Nat))).fst ∧ (emptyM (atB b (0 : Nat))).snd.fst = (emptyM (atB b (0 : Nat))).snd.fst ∧ (0 : Nat) = (0 : Nat) ∧ emptyN (atB b (0 : Nat)) = emptyN (atB b (0 : Nat)) ∧ (emptyM (atB b (1 : Nat))).fst = (emptyM (atB b (1 : Nat))).fst ∧ (emptyM
 (atB b (1 : Nat))).snd.fst = (emptyM (atB b (1 : Nat))).snd.fst ∧ (0 : Nat) = (0 : Nat) ∧ emptyN (atB b (1 : Nat)) = emptyN (atB b (1 : Nat)) ∧ (emptyM (atB b (2 : Nat))).fst = (emptyM (atB b (2 : Nat))).fst ∧ (emptyM (atB b (2 :
 Nat))).snd.fst = (emptyM (atB b (2 : Nat))).snd.fst ∧ (0 : Nat) = (0 : Nat) ∧ emptyN (atB b (2 : Nat)) = emptyN (atB b (2 : Nat)) ∧ Value.slice none (0 : Nat) (0 : Nat) = Value.slice none (0 : Nat) (0 : Nat) ∧ (runsB b (atB b (87 :
 Nat)).toNat ((88 : Nat), List.replicate (dSize b) (0 : Int))).snd = m ∧ regsP b (8 : Nat) = regsP b (8 : Nat) ∧ List.replicate (emptyN (atB b (0 : Nat))) zE = List.replicate (emptyN (atB b (0 : Nat))) zE ∧ List.replicate (emptyN (atB b (1 :
 Nat))) zE = List.replicate (emptyN (atB b (1 : Nat))) zE ∧ List.replicate (emptyN (atB b (2 : Nat))) zE = List.replicate (emptyN (atB b (2 : Nat))) zE) ∧ True)) := by kernel_rfl
theorem vc_dec_r3_eq (b : By) (t p a c j : Nat) (m : By) : vc_dec_r3 b t p a c j m = (
 (decide ((↑(c - j) : Int) > (0 : Int)) = true → (adv (List.length b) (0 : Nat) (p + j) ≤ List.length b ∧ List.length b - adv (List.length b) (0 : Nat) (p + j) = List.length b - adv (List.length b) (0 : Nat) (p + j) ∧ ByteR b) ∧ (decide
 ((↑(a + j) : Int) < (↑(List.length (wrS b p a j m)) : Int)) = true → ((0 : Int) ≤ (↑(a + j) : Int) ∧ (↑(a + j) : Int) < (↑(List.length (wrS b p a j m)) : Int)) ∧ (0 : Nat) + (↑(a + j) : Int).toNat < List.length (wrS b p a j m) ∧ ∃ (y : Nat
 × Nat × Nat × Nat × Nat × By), (dN b = dN b ∧ (↑y.fst : Int) = (↑t : Int) ∧ (↑(y.snd.snd.fst + y.snd.snd.snd.snd.fst) : Int) = IntKind.i64.wrap ((↑(a + j) : Int) + (1 : Int)) ∧ (↑(y.snd.snd.snd.fst - y.snd.snd.snd.snd.fst) : Int) =
 IntKind.i64.wrap ((↑(c - j) : Int) - (1 : Int)) ∧ b = b ∧ Value.slice none (0 : Nat) (0 : Nat) = Value.slice none (0 : Nat) (0 : Nat) ∧ Value.slice none (0 : Nat) (0 : Nat) = Value.slice none (0 : Nat) (0 : Nat) ∧ (0 : Int) = (0 : Int) ∧ (0
 : Int) = (0 : Int) ∧ false = false ∧ false = false ∧ (0 : Int) = (0 : Int) ∧ (0 : Int) = (0 : Int) ∧ (0 : Int) = (0 : Int) ∧ (0 : Int) = (0 : Int) ∧ (0 : Int) = (0 : Int) ∧ (0 : Int) = (0 : Int) ∧ (0 : Int) = (0 : Int) ∧ (0 : Int) = (0 :
 Int) ∧ Value.slice none (0 : Nat) (0 : Nat) = Value.slice none (0 : Nat) (0 : Nat) ∧ (0 : Int) = (0 : Int) ∧ (0 : Int) = (0 : Int) ∧ Value.slice none (0 : Nat) (0 : Nat) = Value.slice none (0 : Nat) (0 : Nat) ∧ (0 : Int) = (0 : Int) ∧ (0 :
 Int) = (0 : Int) ∧ Value.slice none (0 : Nat) (0 : Nat) = Value.slice none (0 : Nat) (0 : Nat) ∧ Value.slice none (0 : Nat) (0 : Nat) = Value.slice none (0 : Nat) (0 : Nat) ∧ adv (List.length b) (0 : Nat) (y.snd.fst + y.snd.snd.snd.snd.fst)
 = adv (List.length b) (adv (List.length b) (0 : Nat) (p + j)) (1 : Nat) ∧ List.length b - adv (List.length b) (0 : Nat) (y.snd.fst + y.snd.snd.snd.snd.fst) = List.length b - adv (List.length b) (adv (List.length b) (0 : Nat) (p + j)) (1 :
 Nat) ∧ (0 : Nat) = (0 : Nat) ∧ List.length (wrS b y.snd.fst y.snd.snd.fst y.snd.snd.snd.snd.fst y.snd.snd.snd.snd.snd) = List.length (wrS b p a j m) ∧ (0 : Nat) = (0 : Nat) ∧ (8 : Nat) = (8 : Nat) ∧ dPc b = dPc b ∧ dMode b = dMode b ∧ dSum
 b = dSum b ∧ dMxr b = dMxr b ∧ dSatp b = dSatp b ∧ dTvec b = dTvec b ∧ (0 : Int) = (0 : Int) ∧ dMode b = dMode b ∧ (0 : Int) = (0 : Int) ∧ (0 : Int) = (0 : Int) ∧ (emptyM (atB b (0 : Nat))).fst = (emptyM (atB b (0 : Nat))).fst ∧ (emptyM
 (atB b (0 : Nat))).snd.fst = (emptyM (atB b (0 : Nat))).snd.fst ∧ (0 : Nat) = (0 : Nat) ∧ emptyN (atB b (0 : Nat)) = emptyN (atB b (0 : Nat)) ∧ (emptyM (atB b (1 : Nat))).fst = (emptyM (atB b (1 : Nat))).fst ∧ (emptyM (atB b (1 :
 Nat))).snd.fst = (emptyM (atB b (1 : Nat))).snd.fst ∧ (0 : Nat) = (0 : Nat) ∧ emptyN (atB b (1 : Nat)) = emptyN (atB b (1 : Nat)) ∧ (emptyM (atB b (2 : Nat))).fst = (emptyM (atB b (2 : Nat))).fst ∧ (emptyM (atB b (2 : Nat))).snd.fst =
 (emptyM (atB b (2 : Nat))).snd.fst ∧ (0 : Nat) = (0 : Nat) ∧ emptyN (atB b (2 : Nat)) = emptyN (atB b (2 : Nat)) ∧ Value.slice none (0 : Nat) (0 : Nat) = Value.slice none (0 : Nat) (0 : Nat) ∧ wrS b y.snd.fst y.snd.snd.fst
 y.snd.snd.snd.snd.fst y.snd.snd.snd.snd.snd = List.set (wrS b p a j m) ((0 : Nat) + (↑(a + j) : Int).toNat) (IntKind.u8.wrap (atB b (adv (List.length b) (0 : Nat) (p + j)))) ∧ regsP b (8 : Nat) = regsP b (8 : Nat) ∧ List.replicate (emptyN
 (atB b (0 : Nat))) zE = List.replicate (emptyN (atB b (0 : Nat))) zE ∧ List.replicate (emptyN (atB b (1 : Nat))) zE = List.replicate (emptyN (atB b (1 : Nat))) zE ∧ List.replicate (emptyN (atB b (2 : Nat))) zE = List.replicate (emptyN (atB
 b (2 : Nat))) zE) ∧ (y.fst ≤ (255 : Nat) ∧ y.snd.fst ≤ (100000 : Nat) ∧ y.snd.snd.fst ≤ (100000 : Nat) ∧ y.snd.snd.snd.fst ≤ (255 : Nat) ∧ y.snd.snd.snd.snd.fst ≤ y.snd.snd.snd.fst ∧ SzR (List.length y.snd.snd.snd.snd.snd)) ∧
 y.snd.snd.snd.fst - y.snd.snd.snd.snd.fst < c - j ∧ ∀ (z : Nat × Nat × By), z.fst = y.fst ∧ z.snd.fst = y.snd.fst + y.snd.snd.snd.fst ∧ z.snd.snd = wrS b y.snd.fst y.snd.snd.fst y.snd.snd.snd.fst y.snd.snd.snd.snd.snd → z.fst = t ∧
 z.snd.fst = p + c ∧ z.snd.snd = wrS b p a c m) ∧ (decide ((↑(a + j) : Int) < (↑(List.length (wrS b p a j m)) : Int)) = false → ∃ (y : Nat × Nat × Nat × Nat × Nat × By), (dN b = dN b ∧ (↑y.fst : Int) = (↑t : Int) ∧ (↑(y.snd.snd.fst +
 y.snd.snd.snd.snd.fst) : Int) = IntKind.i64.wrap ((↑(a + j) : Int) + (1 : Int)) ∧ (↑(y.snd.snd.snd.fst - y.snd.snd.snd.snd.fst) : Int) = IntKind.i64.wrap ((↑(c - j) : Int) - (1 : Int)) ∧ b = b ∧ Value.slice none (0 : Nat) (0 : Nat) =
 Value.slice none (0 : Nat) (0 : Nat) ∧ Value.slice none (0 : Nat) (0 : Nat) = Value.slice none (0 : Nat) (0 : Nat) ∧ (0 : Int) = (0 : Int) ∧ (0 : Int) = (0 : Int) ∧ false = false ∧ false = false ∧ (0 : Int) = (0 : Int) ∧ (0 : Int) = (0 :
 Int) ∧ (0 : Int) = (0 : Int) ∧ (0 : Int) = (0 : Int) ∧ (0 : Int) = (0 : Int) ∧ (0 : Int) = (0 : Int) ∧ (0 : Int) = (0 : Int) ∧ (0 : Int) = (0 : Int) ∧ Value.slice none (0 : Nat) (0 : Nat) = Value.slice none (0 : Nat) (0 : Nat) ∧ (0 : Int) =
 (0 : Int) ∧ (0 : Int) = (0 : Int) ∧ Value.slice none (0 : Nat) (0 : Nat) = Value.slice none (0 : Nat) (0 : Nat) ∧ (0 : Int) = (0 : Int) ∧ (0 : Int) = (0 : Int) ∧ Value.slice none (0 : Nat) (0 : Nat) = Value.slice none (0 : Nat) (0 : Nat) ∧
 Value.slice none (0 : Nat) (0 : Nat) = Value.slice none (0 : Nat) (0 : Nat) ∧ adv (List.length b) (0 : Nat) (y.snd.fst + y.snd.snd.snd.snd.fst) = adv (List.length b) (adv (List.length b) (0 : Nat) (p + j)) (1 : Nat) ∧ List.length b - adv
 (List.length b) (0 : Nat) (y.snd.fst + y.snd.snd.snd.snd.fst) = List.length b - adv (List.length b) (adv (List.length b) (0 : Nat) (p + j)) (1 : Nat) ∧ (0 : Nat) = (0 : Nat) ∧ List.length (wrS b y.snd.fst y.snd.snd.fst y.snd.snd.snd.snd.fst
 y.snd.snd.snd.snd.snd) = List.length (wrS b p a j m) ∧ (0 : Nat) = (0 : Nat) ∧ (8 : Nat) = (8 : Nat) ∧ dPc b = dPc b ∧ dMode b = dMode b ∧ dSum b = dSum b ∧ dMxr b = dMxr b ∧ dSatp b = dSatp b ∧ dTvec b = dTvec b ∧ (0 : Int) = (0 : Int) ∧
 dMode b = dMode b ∧ (0 : Int) = (0 : Int) ∧ (0 : Int) = (0 : Int) ∧ (emptyM (atB b (0 : Nat))).fst = (emptyM (atB b (0 : Nat))).fst ∧ (emptyM (atB b (0 : Nat))).snd.fst = (emptyM (atB b (0 : Nat))).snd.fst ∧ (0 : Nat) = (0 : Nat) ∧ emptyN
 (atB b (0 : Nat)) = emptyN (atB b (0 : Nat)) ∧ (emptyM (atB b (1 : Nat))).fst = (emptyM (atB b (1 : Nat))).fst ∧ (emptyM (atB b (1 : Nat))).snd.fst = (emptyM (atB b (1 : Nat))).snd.fst ∧ (0 : Nat) = (0 : Nat) ∧ emptyN (atB b (1 : Nat)) =
 emptyN (atB b (1 : Nat)) ∧ (emptyM (atB b (2 : Nat))).fst = (emptyM (atB b (2 : Nat))).fst ∧ (emptyM (atB b (2 : Nat))).snd.fst = (emptyM (atB b (2 : Nat))).snd.fst ∧ (0 : Nat) = (0 : Nat) ∧ emptyN (atB b (2 : Nat)) = emptyN (atB b (2 :
 Nat)) ∧ Value.slice none (0 : Nat) (0 : Nat) = Value.slice none (0 : Nat) (0 : Nat) ∧ wrS b y.snd.fst y.snd.snd.fst y.snd.snd.snd.snd.fst y.snd.snd.snd.snd.snd = wrS b p a j m ∧ regsP b (8 : Nat) = regsP b (8 : Nat) ∧ List.replicate (emptyN
 (atB b (0 : Nat))) zE = List.replicate (emptyN (atB b (0 : Nat))) zE ∧ List.replicate (emptyN (atB b (1 : Nat))) zE = List.replicate (emptyN (atB b (1 : Nat))) zE ∧ List.replicate (emptyN (atB b (2 : Nat))) zE = List.replicate (emptyN (atB
 b (2 : Nat))) zE) ∧ (y.fst ≤ (255 : Nat) ∧ y.snd.fst ≤ (100000 : Nat) ∧ y.snd.snd.fst ≤ (100000 : Nat) ∧ y.snd.snd.snd.fst ≤ (255 : Nat) ∧ y.snd.snd.snd.snd.fst ≤ y.snd.snd.snd.fst ∧ SzR (List.length y.snd.snd.snd.snd.snd)) ∧
 y.snd.snd.snd.fst - y.snd.snd.snd.snd.fst < c - j ∧ ∀ (z : Nat × Nat × By), z.fst = y.fst ∧ z.snd.fst = y.snd.fst + y.snd.snd.snd.fst ∧ z.snd.snd = wrS b y.snd.fst y.snd.snd.fst y.snd.snd.snd.fst y.snd.snd.snd.snd.snd → z.fst = t ∧
 z.snd.fst = p + c ∧ z.snd.snd = wrS b p a c m)) ∧ (decide ((↑(c - j) : Int) > (0 : Int)) = false → ∃ (z : Nat × Nat × By), (dN b = dN b ∧ (↑z.fst : Int) = (↑t : Int) ∧ b = b ∧ Value.slice none (0 : Nat) (0 : Nat) = Value.slice none (0 :
 Nat) (0 : Nat) ∧ Value.slice none (0 : Nat) (0 : Nat) = Value.slice none (0 : Nat) (0 : Nat) ∧ (0 : Int) = (0 : Int) ∧ (0 : Int) = (0 : Int) ∧ false = false ∧ false = false ∧ (0 : Int) = (0 : Int) ∧ (0 : Int) = (0 : Int) ∧ (0 : Int) = (0 :
 Int) ∧ (0 : Int) = (0 : Int) ∧ (0 : Int) = (0 : Int) ∧ (0 : Int) = (0 : Int) ∧ (0 : Int) = (0 : Int) ∧ (0 : Int) = (0 : Int) ∧ Value.slice none (0 : Nat) (0 : Nat) = Value.slice none (0 : Nat) (0 : Nat) ∧ (0 : Int) = (0 : Int) ∧ (0 : Int) =
 (0 : Int) ∧ Value.slice none (0 : Nat) (0 : Nat) = Value.slice none (0 : Nat) (0 : Nat) ∧ (0 : Int) = (0 : Int) ∧ (0 : Int) = (0 : Int) ∧ Value.slice none (0 : Nat) (0 : Nat) = Value.slice none (0 : Nat) (0 : Nat) ∧ Value.slice none (0 :
 Nat) (0 : Nat) = Value.slice none (0 : Nat) (0 : Nat) ∧ adv (List.length b) (0 : Nat) z.snd.fst = adv (List.length b) (0 : Nat) (p + j) ∧ List.length b - adv (List.length b) (0 : Nat) z.snd.fst = List.length b - adv (List.length b) (0 :
 Nat) (p + j) ∧ (0 : Nat) = (0 : Nat) ∧ List.length z.snd.snd = List.length (wrS b p a j m) ∧ (0 : Nat) = (0 : Nat) ∧ (8 : Nat) = (8 : Nat) ∧ dPc b = dPc b ∧ dMode b = dMode b ∧ dSum b = dSum b ∧ dMxr b = dMxr b ∧ dSatp b = dSatp b ∧ dTvec b
 = dTvec b ∧ (0 : Int) = (0 : Int) ∧ dMode b = dMode b ∧ (0 : Int) = (0 : Int) ∧ (0 : Int) = (0 : Int) ∧ (emptyM (atB b (0 : Nat))).fst = (emptyM (atB b (0 : Nat))).fst ∧ (emptyM (atB b (0 : Nat))).snd.fst = (emptyM (atB b (0 :
 Nat))).snd.fst ∧ (0 : Nat) = (0 : Nat) ∧ emptyN (atB b (0 : Nat)) = emptyN (atB b (0 : Nat)) ∧ (emptyM (atB b (1 : Nat))).fst = (emptyM (atB b (1 : Nat))).fst ∧ (emptyM (atB b (1 : Nat))).snd.fst = (emptyM (atB b (1 : Nat))).snd.fst ∧ (0 :
 Nat) = (0 : Nat) ∧ emptyN (atB b (1 : Nat)) = emptyN (atB b (1 : Nat)) ∧ (emptyM (atB b (2 : Nat))).fst = (emptyM (atB b (2 : Nat))).fst ∧ (emptyM (atB b (2 : Nat))).snd.fst = (emptyM (atB b (2 : Nat))).snd.fst ∧ (0 : Nat) = (0 : Nat) ∧
 emptyN (atB b (2 : Nat)) = emptyN (atB b (2 : Nat)) ∧ Value.slice none (0 : Nat) (0 : Nat) = Value.slice none (0 : Nat) (0 : Nat) ∧ z.snd.snd = wrS b p a j m ∧ regsP b (8 : Nat) = regsP b (8 : Nat) ∧ List.replicate (emptyN (atB b (0 :
 Nat))) zE = List.replicate (emptyN (atB b (0 : Nat))) zE ∧ List.replicate (emptyN (atB b (1 : Nat))) zE = List.replicate (emptyN (atB b (1 : Nat))) zE ∧ List.replicate (emptyN (atB b (2 : Nat))) zE = List.replicate (emptyN (atB b (2 :
 Nat))) zE) ∧ z.fst = t ∧ z.snd.fst = p + c ∧ z.snd.snd = wrS b p a c m)) := by kernel_rfl
theorem vc_dec_r4_eq (b : By) (k : Nat) : vc_dec_r4 b k = (
 (decide ((↑k : Int) < dN b) = true → (adv (List.length b) (0 : Nat) ((runsB b (atB b (87 : Nat)).toNat ((88 : Nat), List.replicate (dSize b) (0 : Int))).fst + k) ≤ List.length b ∧ List.length b - adv (List.length b) (0 : Nat) ((runsB b (atB
 b (87 : Nat)).toNat ((88 : Nat), List.replicate (dSize b) (0 : Int))).fst + k) = List.length b - adv (List.length b) (0 : Nat) ((runsB b (atB b (87 : Nat)).toNat ((88 : Nat), List.replicate (dSize b) (0 : Int))).fst + k) ∧ ByteR b) ∧ ((0 :
 Nat) + (1 : Nat) ≤ [atB b (adv (List.length b) (0 : Nat) ((runsB b (atB b (87 : Nat)).toNat ((88 : Nat), List.replicate (dSize b) (0 : Int))).fst + k))].length ∧ k ≤ List.length (bytsB b (runsB b (atB b (87 : Nat)).toNat ((88 : Nat),
 List.replicate (dSize b) (0 : Int))).fst k) ∧ k + (List.take (1 : Nat) (List.drop (0 : Nat) [atB b (adv (List.length b) (0 : Nat) ((runsB b (atB b (87 : Nat)).toNat ((88 : Nat), List.replicate (dSize b) (0 : Int))).fst + k))])).length ≤
 (1073741824 : Nat)) ∧ ∃ (y : Nat), (dN b = dN b ∧ dN b = dN b ∧ (↑y : Int) = IntKind.u64.wrap ((↑k : Int) + (1 : Int)) ∧ b = b ∧ Value.slice none (0 : Nat) (0 : Nat) = Value.slice none (0 : Nat) (0 : Nat) ∧ Value.slice none (0 : Nat) (0 :
 Nat) = Value.slice none (0 : Nat) (0 : Nat) ∧ (0 : Int) = (0 : Int) ∧ (0 : Int) = (0 : Int) ∧ false = false ∧ false = false ∧ (0 : Int) = (0 : Int) ∧ (0 : Int) = (0 : Int) ∧ (0 : Int) = (0 : Int) ∧ (0 : Int) = (0 : Int) ∧ (0 : Int) = (0 :
 Int) ∧ (0 : Int) = (0 : Int) ∧ (0 : Int) = (0 : Int) ∧ (0 : Int) = (0 : Int) ∧ Value.slice none (0 : Nat) (0 : Nat) = Value.slice none (0 : Nat) (0 : Nat) ∧ (0 : Int) = (0 : Int) ∧ (0 : Int) = (0 : Int) ∧ Value.slice none (0 : Nat) (0 :
 Nat) = Value.slice none (0 : Nat) (0 : Nat) ∧ (0 : Int) = (0 : Int) ∧ (0 : Int) = (0 : Int) ∧ Value.slice none (0 : Nat) (0 : Nat) = Value.slice none (0 : Nat) (0 : Nat) ∧ Value.slice none (0 : Nat) (0 : Nat) = Value.slice none (0 : Nat) (0
 : Nat) ∧ adv (List.length b) (0 : Nat) ((runsB b (atB b (87 : Nat)).toNat ((88 : Nat), List.replicate (dSize b) (0 : Int))).fst + y) = adv (List.length b) (adv (List.length b) (0 : Nat) ((runsB b (atB b (87 : Nat)).toNat ((88 : Nat),
 List.replicate (dSize b) (0 : Int))).fst + k)) (1 : Nat) ∧ List.length b - adv (List.length b) (0 : Nat) ((runsB b (atB b (87 : Nat)).toNat ((88 : Nat), List.replicate (dSize b) (0 : Int))).fst + y) = List.length b - adv (List.length b)
 (adv (List.length b) (0 : Nat) ((runsB b (atB b (87 : Nat)).toNat ((88 : Nat), List.replicate (dSize b) (0 : Int))).fst + k)) (1 : Nat) ∧ (0 : Nat) = (0 : Nat) ∧ List.length (runsB b (atB b (87 : Nat)).toNat ((88 : Nat), List.replicate
 (dSize b) (0 : Int))).snd = List.length (runsB b (atB b (87 : Nat)).toNat ((88 : Nat), List.replicate (dSize b) (0 : Int))).snd ∧ (0 : Nat) = (0 : Nat) ∧ (8 : Nat) = (8 : Nat) ∧ dPc b = dPc b ∧ dMode b = dMode b ∧ dSum b = dSum b ∧ dMxr b =
 dMxr b ∧ dSatp b = dSatp b ∧ dTvec b = dTvec b ∧ (0 : Int) = (0 : Int) ∧ dMode b = dMode b ∧ (0 : Int) = (0 : Int) ∧ (0 : Int) = (0 : Int) ∧ (emptyM (atB b (0 : Nat))).fst = (emptyM (atB b (0 : Nat))).fst ∧ (emptyM (atB b (0 :
 Nat))).snd.fst = (emptyM (atB b (0 : Nat))).snd.fst ∧ (0 : Nat) = (0 : Nat) ∧ emptyN (atB b (0 : Nat)) = emptyN (atB b (0 : Nat)) ∧ (emptyM (atB b (1 : Nat))).fst = (emptyM (atB b (1 : Nat))).fst ∧ (emptyM (atB b (1 : Nat))).snd.fst =
 (emptyM (atB b (1 : Nat))).snd.fst ∧ (0 : Nat) = (0 : Nat) ∧ emptyN (atB b (1 : Nat)) = emptyN (atB b (1 : Nat)) ∧ (emptyM (atB b (2 : Nat))).fst = (emptyM (atB b (2 : Nat))).fst ∧ (emptyM (atB b (2 : Nat))).snd.fst = (emptyM (atB b (2 :
 Nat))).snd.fst ∧ (0 : Nat) = (0 : Nat) ∧ emptyN (atB b (2 : Nat)) = emptyN (atB b (2 : Nat)) ∧ (0 : Nat) = (0 : Nat) ∧ y = k + (List.take (1 : Nat) (List.drop (0 : Nat) [atB b (adv (List.length b) (0 : Nat) ((runsB b (atB b (87 :
 Nat)).toNat ((88 : Nat), List.replicate (dSize b) (0 : Int))).fst + k))])).length ∧ (runsB b (atB b (87 : Nat)).toNat ((88 : Nat), List.replicate (dSize b) (0 : Int))).snd = (runsB b (atB b (87 : Nat)).toNat ((88 : Nat), List.replicate
 (dSize b) (0 : Int))).snd ∧ regsP b (8 : Nat) = regsP b (8 : Nat) ∧ List.replicate (emptyN (atB b (0 : Nat))) zE = List.replicate (emptyN (atB b (0 : Nat))) zE ∧ List.replicate (emptyN (atB b (1 : Nat))) zE = List.replicate (emptyN (atB b
 (1 : Nat))) zE ∧ List.replicate (emptyN (atB b (2 : Nat))) zE = List.replicate (emptyN (atB b (2 : Nat))) zE ∧ bytsB b (runsB b (atB b (87 : Nat)).toNat ((88 : Nat), List.replicate (dSize b) (0 : Int))).fst y = List.take k (bytsB b (runsB b
 (atB b (87 : Nat)).toNat ((88 : Nat), List.replicate (dSize b) (0 : Int))).fst k) ++ List.take (1 : Nat) (List.drop (0 : Nat) [atB b (adv (List.length b) (0 : Nat) ((runsB b (atB b (87 : Nat)).toNat ((88 : Nat), List.replicate (dSize b) (0
 : Int))).fst + k))])) ∧ (↑y : Int) ≤ dN b ∧ (dN b).toNat - y < (dN b).toNat - k ∧ ∀ (z : Unit), True → True) ∧ (decide ((↑k : Int) < dN b) = false → ∃ (z : Unit), (dN b = dN b ∧ b = b ∧ Value.slice none (0 : Nat) (0 : Nat) = Value.slice
 none (0 : Nat) (0 : Nat) ∧ Value.slice none (0 : Nat) (0 : Nat) = Value.slice none (0 : Nat) (0 : Nat) ∧ (0 : Int) = (0 : Int) ∧ (0 : Int) = (0 : Int) ∧ false = false ∧ false = false ∧ (0 : Int) = (0 : Int) ∧ (0 : Int) = (0 : Int) ∧ (0 :
 Int) = (0 : Int) ∧ (0 : Int) = (0 : Int) ∧ (0 : Int) = (0 : Int) ∧ (0 : Int) = (0 : Int) ∧ (0 : Int) = (0 : Int) ∧ (0 : Int) = (0 : Int) ∧ Value.slice none (0 : Nat) (0 : Nat) = Value.slice none (0 : Nat) (0 : Nat) ∧ (0 : Int) = (0 : Int) ∧
 (0 : Int) = (0 : Int) ∧ Value.slice none (0 : Nat) (0 : Nat) = Value.slice none (0 : Nat) (0 : Nat) ∧ (0 : Int) = (0 : Int) ∧ (0 : Int) = (0 : Int) ∧ Value.slice none (0 : Nat) (0 : Nat) = Value.slice none (0 : Nat) (0 : Nat) ∧ Value.slice
 none (0 : Nat) (0 : Nat) = Value.slice none (0 : Nat) (0 : Nat) ∧ adv (List.length b) (0 : Nat) ((runsB b (atB b (87 : Nat)).toNat ((88 : Nat), List.replicate (dSize b) (0 : Int))).fst + (dN b).toNat) = adv (List.length b) (0 : Nat) ((runsB
 b (atB b (87 : Nat)).toNat ((88 : Nat), List.replicate (dSize b) (0 : Int))).fst + k) ∧ List.length b - adv (List.length b) (0 : Nat) ((runsB b (atB b (87 : Nat)).toNat ((88 : Nat), List.replicate (dSize b) (0 : Int))).fst + (dN b).toNat) =
 List.length b - adv (List.length b) (0 : Nat) ((runsB b (atB b (87 : Nat)).toNat ((88 : Nat), List.replicate (dSize b) (0 : Int))).fst + k) ∧ (0 : Nat) = (0 : Nat) ∧ List.length (runsB b (atB b (87 : Nat)).toNat ((88 : Nat), List.replicate
 (dSize b) (0 : Int))).snd = List.length (runsB b (atB b (87 : Nat)).toNat ((88 : Nat), List.replicate (dSize b) (0 : Int))).snd ∧ (0 : Nat) = (0 : Nat) ∧ (8 : Nat) = (8 : Nat) ∧ dPc b = dPc b ∧ dMode b = dMode b ∧ dSum b = dSum b ∧ dMxr b =
 dMxr b ∧ dSatp b = dSatp b ∧ dTvec b = dTvec b ∧ (0 : Int) = (0 : Int) ∧ dMode b = dMode b ∧ (0 : Int) = (0 : Int) ∧ (0 : Int) = (0 : Int) ∧ (emptyM (atB b (0 : Nat))).fst = (emptyM (atB b (0 : Nat))).fst ∧ (emptyM (atB b (0 :
 Nat))).snd.fst = (emptyM (atB b (0 : Nat))).snd.fst ∧ (0 : Nat) = (0 : Nat) ∧ emptyN (atB b (0 : Nat)) = emptyN (atB b (0 : Nat)) ∧ (emptyM (atB b (1 : Nat))).fst = (emptyM (atB b (1 : Nat))).fst ∧ (emptyM (atB b (1 : Nat))).snd.fst =
 (emptyM (atB b (1 : Nat))).snd.fst ∧ (0 : Nat) = (0 : Nat) ∧ emptyN (atB b (1 : Nat)) = emptyN (atB b (1 : Nat)) ∧ (emptyM (atB b (2 : Nat))).fst = (emptyM (atB b (2 : Nat))).fst ∧ (emptyM (atB b (2 : Nat))).snd.fst = (emptyM (atB b (2 :
 Nat))).snd.fst ∧ (0 : Nat) = (0 : Nat) ∧ emptyN (atB b (2 : Nat)) = emptyN (atB b (2 : Nat)) ∧ (0 : Nat) = (0 : Nat) ∧ (dN b).toNat = k ∧ (runsB b (atB b (87 : Nat)).toNat ((88 : Nat), List.replicate (dSize b) (0 : Int))).snd = (runsB b
 (atB b (87 : Nat)).toNat ((88 : Nat), List.replicate (dSize b) (0 : Int))).snd ∧ regsP b (8 : Nat) = regsP b (8 : Nat) ∧ List.replicate (emptyN (atB b (0 : Nat))) zE = List.replicate (emptyN (atB b (0 : Nat))) zE ∧ List.replicate (emptyN
 (atB b (1 : Nat))) zE = List.replicate (emptyN (atB b (1 : Nat))) zE ∧ List.replicate (emptyN (atB b (2 : Nat))) zE = List.replicate (emptyN (atB b (2 : Nat))) zE ∧ bytsB b (runsB b (atB b (87 : Nat)).toNat ((88 : Nat), List.replicate
 (dSize b) (0 : Int))).fst (dN b).toNat = bytsB b (runsB b (atB b (87 : Nat)).toNat ((88 : Nat), List.replicate (dSize b) (0 : Int))).fst k) ∧ True)) := by kernel_rfl
theorem vc_dec_eq (b : By) : vc_dec b = (
 ((0 : Nat) ≤ List.length b ∧ List.length b = List.length b - (0 : Nat) ∧ ByteR b) ∧ (adv (List.length b) (0 : Nat) (1 : Nat) ≤ List.length b ∧ List.length b - adv (List.length b) (0 : Nat) (1 : Nat) = List.length b - adv (List.length b) (0
 : Nat) (1 : Nat) ∧ ByteR b) ∧ (adv (List.length b) (adv (List.length b) (0 : Nat) (1 : Nat)) (1 : Nat) ≤ List.length b ∧ List.length b - adv (List.length b) (adv (List.length b) (0 : Nat) (1 : Nat)) (1 : Nat) = List.length b - adv
 (List.length b) (adv (List.length b) (0 : Nat) (1 : Nat)) (1 : Nat) ∧ ByteR b) ∧ (adv (List.length b) (adv (List.length b) (adv (List.length b) (0 : Nat) (1 : Nat)) (1 : Nat)) (1 : Nat) ≤ List.length b ∧ List.length b - adv (List.length b)
 (adv (List.length b) (adv (List.length b) (0 : Nat) (1 : Nat)) (1 : Nat)) (1 : Nat) = List.length b - adv (List.length b) (adv (List.length b) (adv (List.length b) (0 : Nat) (1 : Nat)) (1 : Nat)) (1 : Nat) ∧ ByteR b) ∧ (64 : Int) ≠ (0 :
 Int) ∧ ((0 : Int) ≤ IntKind.i64.wrap ((64 : Int) * IntKind.i64.wrap ((1 : Int) + (atB b (adv (List.length b) (adv (List.length b) (adv (List.length b) (0 : Nat) (1 : Nat)) (1 : Nat)) (1 : Nat))).tmod (64 : Int))) ∧ IntKind.i64.wrap ((64 :
 Int) * IntKind.i64.wrap ((1 : Int) + (atB b (adv (List.length b) (adv (List.length b) (adv (List.length b) (0 : Nat) (1 : Nat)) (1 : Nat)) (1 : Nat))).tmod (64 : Int))) ≤ IntKind.i64.wrap ((64 : Int) * IntKind.i64.wrap ((1 : Int) + (atB b
 (adv (List.length b) (adv (List.length b) (adv (List.length b) (0 : Nat) (1 : Nat)) (1 : Nat)) (1 : Nat))).tmod (64 : Int))) ∧ IntKind.i64.wrap ((64 : Int) * IntKind.i64.wrap ((1 : Int) + (atB b (adv (List.length b) (adv (List.length b)
 (adv (List.length b) (0 : Nat) (1 : Nat)) (1 : Nat)) (1 : Nat))).tmod (64 : Int))) ≤ (4294967296 : Int)) ∧ ∃ (z : Unit), (b = b ∧ Value.slice none (0 : Nat) (0 : Nat) = Value.slice none (0 : Nat) (0 : Nat) ∧ Value.slice none (0 : Nat) (0 :
 Nat) = Value.slice none (0 : Nat) (0 : Nat) ∧ (0 : Int) = (0 : Int) ∧ (0 : Int) = (0 : Int) ∧ false = false ∧ false = false ∧ (0 : Int) = (0 : Int) ∧ (0 : Int) = (0 : Int) ∧ (0 : Int) = (0 : Int) ∧ (0 : Int) = (0 : Int) ∧ (0 : Int) = (0 :
 Int) ∧ (0 : Int) = (0 : Int) ∧ (0 : Int) = (0 : Int) ∧ (0 : Int) = (0 : Int) ∧ Value.slice none (0 : Nat) (0 : Nat) = Value.slice none (0 : Nat) (0 : Nat) ∧ (0 : Int) = (0 : Int) ∧ (0 : Int) = (0 : Int) ∧ Value.slice none (0 : Nat) (0 :
 Nat) = Value.slice none (0 : Nat) (0 : Nat) ∧ (0 : Int) = (0 : Int) ∧ (0 : Int) = (0 : Int) ∧ Value.slice none (0 : Nat) (0 : Nat) = Value.slice none (0 : Nat) (0 : Nat) ∧ Value.slice none (0 : Nat) (0 : Nat) = Value.slice none (0 : Nat) (0
 : Nat) ∧ adv (List.length b) (0 : Nat) (4 : Nat) = adv (List.length b) (adv (List.length b) (adv (List.length b) (adv (List.length b) (0 : Nat) (1 : Nat)) (1 : Nat)) (1 : Nat)) (1 : Nat) ∧ List.length b - adv (List.length b) (0 : Nat) (4 :
 Nat) = List.length b - adv (List.length b) (adv (List.length b) (adv (List.length b) (adv (List.length b) (0 : Nat) (1 : Nat)) (1 : Nat)) (1 : Nat)) (1 : Nat) ∧ (0 : Nat) = (0 : Nat) ∧ dSize b = (IntKind.i64.wrap ((64 : Int) *
 IntKind.i64.wrap ((1 : Int) + (atB b (adv (List.length b) (adv (List.length b) (adv (List.length b) (0 : Nat) (1 : Nat)) (1 : Nat)) (1 : Nat))).tmod (64 : Int)))).toNat ∧ Value.slice none (0 : Nat) (0 : Nat) = Value.slice none (0 : Nat) (0
 : Nat) ∧ (0 : Int) = (0 : Int) ∧ (0 : Int) = (0 : Int) ∧ false = false ∧ false = false ∧ (0 : Int) = (0 : Int) ∧ (0 : Int) = (0 : Int) ∧ (0 : Int) = (0 : Int) ∧ (0 : Int) = (0 : Int) ∧ (0 : Int) = (0 : Int) ∧ (0 : Int) = (0 : Int) ∧ (emptyM
 (atB b (0 : Nat))).fst = (emptyM (atB b (0 : Nat))).fst ∧ (emptyM (atB b (0 : Nat))).snd.fst = (emptyM (atB b (0 : Nat))).snd.fst ∧ (0 : Nat) = (0 : Nat) ∧ emptyN (atB b (0 : Nat)) = emptyN (atB b (0 : Nat)) ∧ (emptyM (atB b (1 : Nat))).fst
 = (emptyM (atB b (adv (List.length b) (0 : Nat) (1 : Nat)))).fst ∧ (emptyM (atB b (1 : Nat))).snd.fst = (emptyM (atB b (adv (List.length b) (0 : Nat) (1 : Nat)))).snd.fst ∧ (0 : Nat) = (0 : Nat) ∧ emptyN (atB b (1 : Nat)) = emptyN (atB b
 (adv (List.length b) (0 : Nat) (1 : Nat))) ∧ (emptyM (atB b (2 : Nat))).fst = (emptyM (atB b (adv (List.length b) (adv (List.length b) (0 : Nat) (1 : Nat)) (1 : Nat)))).fst ∧ (emptyM (atB b (2 : Nat))).snd.fst = (emptyM (atB b (adv
 (List.length b) (adv (List.length b) (0 : Nat) (1 : Nat)) (1 : Nat)))).snd.fst ∧ (0 : Nat) = (0 : Nat) ∧ emptyN (atB b (2 : Nat)) = emptyN (atB b (adv (List.length b) (adv (List.length b) (0 : Nat) (1 : Nat)) (1 : Nat))) ∧ Value.slice none
 (0 : Nat) (0 : Nat) = Value.slice none (0 : Nat) (0 : Nat) ∧ List.replicate (dSize b) (0 : Int) = List.replicate (IntKind.i64.wrap ((64 : Int) * IntKind.i64.wrap ((1 : Int) + (atB b (adv (List.length b) (adv (List.length b) (adv
 (List.length b) (0 : Nat) (1 : Nat)) (1 : Nat)) (1 : Nat))).tmod (64 : Int)))).toNat (El.zero [Ty.i IntKind.u8]) ∧ List.replicate (emptyN (atB b (0 : Nat))) zE = List.replicate (emptyN (atB b (0 : Nat))) zE ∧ List.replicate (emptyN (atB b
 (1 : Nat))) zE = List.replicate (emptyN (atB b (adv (List.length b) (0 : Nat) (1 : Nat)))) zE ∧ List.replicate (emptyN (atB b (2 : Nat))) zE = List.replicate (emptyN (atB b (adv (List.length b) (adv (List.length b) (0 : Nat) (1 : Nat)) (1 :
 Nat)))) zE) ∧ (adv (List.length b) (0 : Nat) (4 : Nat) ≤ List.length b ∧ List.length b - adv (List.length b) (0 : Nat) (4 : Nat) = List.length b - adv (List.length b) (0 : Nat) (4 : Nat) ∧ ByteR b) ∧ (4 : Int) ≠ (0 : Int) ∧ ∃ (J : Int →
 Prop), ((((if (3 : Int) < (atB b (adv (List.length b) (0 : Nat) (4 : Nat))).tmod (4 : Int) then (3 : Int) else (atB b (adv (List.length b) (0 : Nat) (4 : Nat))).tmod (4 : Int)) == (3 : Int)) = true → ∃ (z : Int), (atB b (4 : Nat) = atB b
 (adv (List.length b) (0 : Nat) (4 : Nat)) ∧ b = b ∧ Value.slice none (0 : Nat) (0 : Nat) = Value.slice none (0 : Nat) (0 : Nat) ∧ Value.slice none (0 : Nat) (0 : Nat) = Value.slice none (0 : Nat) (0 : Nat) ∧ (0 : Int) = (0 : Int) ∧ (0 :
 Int) = (0 : Int) ∧ false = false ∧ false = false ∧ (0 : Int) = (0 : Int) ∧ (0 : Int) = (0 : Int) ∧ (0 : Int) = (0 : Int) ∧ (0 : Int) = (0 : Int) ∧ (0 : Int) = (0 : Int) ∧ (0 : Int) = (0 : Int) ∧ (0 : Int) = (0 : Int) ∧ (0 : Int) = (0 : Int)
 ∧ Value.slice none (0 : Nat) (0 : Nat) = Value.slice none (0 : Nat) (0 : Nat) ∧ (0 : Int) = (0 : Int) ∧ (0 : Int) = (0 : Int) ∧ Value.slice none (0 : Nat) (0 : Nat) = Value.slice none (0 : Nat) (0 : Nat) ∧ (0 : Int) = (0 : Int) ∧ (0 : Int)
 = (0 : Int) ∧ Value.slice none (0 : Nat) (0 : Nat) = Value.slice none (0 : Nat) (0 : Nat) ∧ Value.slice none (0 : Nat) (0 : Nat) = Value.slice none (0 : Nat) (0 : Nat) ∧ adv (List.length b) (0 : Nat) (5 : Nat) = adv (List.length b) (adv
 (List.length b) (0 : Nat) (4 : Nat)) (1 : Nat) ∧ List.length b - adv (List.length b) (0 : Nat) (5 : Nat) = List.length b - adv (List.length b) (adv (List.length b) (0 : Nat) (4 : Nat)) (1 : Nat) ∧ (0 : Nat) = (0 : Nat) ∧ dSize b = dSize b ∧
 Value.slice none (0 : Nat) (0 : Nat) = Value.slice none (0 : Nat) (0 : Nat) ∧ (0 : Int) = (0 : Int) ∧ z = (1 : Int) ∧ false = false ∧ false = false ∧ (0 : Int) = (0 : Int) ∧ (0 : Int) = (0 : Int) ∧ (0 : Int) = (0 : Int) ∧ (0 : Int) = (0 :
 Int) ∧ (0 : Int) = (0 : Int) ∧ (0 : Int) = (0 : Int) ∧ (emptyM (atB b (0 : Nat))).fst = (emptyM (atB b (0 : Nat))).fst ∧ (emptyM (atB b (0 : Nat))).snd.fst = (emptyM (atB b (0 : Nat))).snd.fst ∧ (0 : Nat) = (0 : Nat) ∧ emptyN (atB b (0 :
 Nat)) = emptyN (atB b (0 : Nat)) ∧ (emptyM (atB b (1 : Nat))).fst = (emptyM (atB b (1 : Nat))).fst ∧ (emptyM (atB b (1 : Nat))).snd.fst = (emptyM (atB b (1 : Nat))).snd.fst ∧ (0 : Nat) = (0 : Nat) ∧ emptyN (atB b (1 : Nat)) = emptyN (atB b
 (1 : Nat)) ∧ (emptyM (atB b (2 : Nat))).fst = (emptyM (atB b (2 : Nat))).fst ∧ (emptyM (atB b (2 : Nat))).snd.fst = (emptyM (atB b (2 : Nat))).snd.fst ∧ (0 : Nat) = (0 : Nat) ∧ emptyN (atB b (2 : Nat)) = emptyN (atB b (2 : Nat)) ∧
 Value.slice none (0 : Nat) (0 : Nat) = Value.slice none (0 : Nat) (0 : Nat) ∧ List.replicate (dSize b) (0 : Int) = List.replicate (dSize b) (0 : Int) ∧ List.replicate (emptyN (atB b (0 : Nat))) zE = List.replicate (emptyN (atB b (0 : Nat)))
 zE ∧ List.replicate (emptyN (atB b (1 : Nat))) zE = List.replicate (emptyN (atB b (1 : Nat))) zE ∧ List.replicate (emptyN (atB b (2 : Nat))) zE = List.replicate (emptyN (atB b (2 : Nat))) zE) ∧ J z) ∧ (((if (3 : Int) < (atB b (adv
 (List.length b) (0 : Nat) (4 : Nat))).tmod (4 : Int) then (3 : Int) else (atB b (adv (List.length b) (0 : Nat) (4 : Nat))).tmod (4 : Int)) == (3 : Int)) = false → ∃ (z : Int), (atB b (4 : Nat) = atB b (adv (List.length b) (0 : Nat) (4 :
 Nat)) ∧ b = b ∧ Value.slice none (0 : Nat) (0 : Nat) = Value.slice none (0 : Nat) (0 : Nat) ∧ Value.slice none (0 : Nat) (0 : Nat) = Value.slice none (0 : Nat) (0 : Nat) ∧ (0 : Int) = (0 : Int) ∧ (0 : Int) = (0 : Int) ∧ false = false ∧
 false = false ∧ (0 : Int) = (0 : Int) ∧ (0 : Int) = (0 : Int) ∧ (0 : Int) = (0 : Int) ∧ (0 : Int) = (0 : Int) ∧ (0 : Int) = (0 : Int) ∧ (0 : Int) = (0 : Int) ∧ (0 : Int) = (0 : Int) ∧ (0 : Int) = (0 : Int) ∧ Value.slice none (0 : Nat) (0 :
 Nat) = Value.slice none (0 : Nat) (0 : Nat) ∧ (0 : Int) = (0 : Int) ∧ (0 : Int) = (0 : Int) ∧ Value.slice none (0 : Nat) (0 : Nat) = Value.slice none (0 : Nat) (0 : Nat) ∧ (0 : Int) = (0 : Int) ∧ (0 : Int) = (0 : Int) ∧ Value.slice none (0
 : Nat) (0 : Nat) = Value.slice none (0 : Nat) (0 : Nat) ∧ Value.slice none (0 : Nat) (0 : Nat) = Value.slice none (0 : Nat) (0 : Nat) ∧ adv (List.length b) (0 : Nat) (5 : Nat) = adv (List.length b) (adv (List.length b) (0 : Nat) (4 : Nat))
 (1 : Nat) ∧ List.length b - adv (List.length b) (0 : Nat) (5 : Nat) = List.length b - adv (List.length b) (adv (List.length b) (0 : Nat) (4 : Nat)) (1 : Nat) ∧ (0 : Nat) = (0 : Nat) ∧ dSize b = dSize b ∧ Value.slice none (0 : Nat) (0 : Nat)
 = Value.slice none (0 : Nat) (0 : Nat) ∧ (0 : Int) = (0 : Int) ∧ (z = if (3 : Int) < (atB b (adv (List.length b) (0 : Nat) (4 : Nat))).tmod (4 : Int) then (3 : Int) else (atB b (adv (List.length b) (0 : Nat) (4 : Nat))).tmod (4 : Int)) ∧
 false = false ∧ false = false ∧ (0 : Int) = (0 : Int) ∧ (0 : Int) = (0 : Int) ∧ (0 : Int) = (0 : Int) ∧ (0 : Int) = (0 : Int) ∧ (0 : Int) = (0 : Int) ∧ (0 : Int) = (0 : Int) ∧ (emptyM (atB b (0 : Nat))).fst = (emptyM (atB b (0 : Nat))).fst
 ∧ (emptyM (atB b (0 : Nat))).snd.fst = (emptyM (atB b (0 : Nat))).snd.fst ∧ (0 : Nat) = (0 : Nat) ∧ emptyN (atB b (0 : Nat)) = emptyN (atB b (0 : Nat)) ∧ (emptyM (atB b (1 : Nat))).fst = (emptyM (atB b (1 : Nat))).fst ∧ (emptyM (atB b (1 :
 Nat))).snd.fst = (emptyM (atB b (1 : Nat))).snd.fst ∧ (0 : Nat) = (0 : Nat) ∧ emptyN (atB b (1 : Nat)) = emptyN (atB b (1 : Nat)) ∧ (emptyM (atB b (2 : Nat))).fst = (emptyM (atB b (2 : Nat))).fst ∧ (emptyM (atB b (2 : Nat))).snd.fst =
 (emptyM (atB b (2 : Nat))).snd.fst ∧ (0 : Nat) = (0 : Nat) ∧ emptyN (atB b (2 : Nat)) = emptyN (atB b (2 : Nat)) ∧ Value.slice none (0 : Nat) (0 : Nat) = Value.slice none (0 : Nat) (0 : Nat) ∧ List.replicate (dSize b) (0 : Int) =
 List.replicate (dSize b) (0 : Int) ∧ List.replicate (emptyN (atB b (0 : Nat))) zE = List.replicate (emptyN (atB b (0 : Nat))) zE ∧ List.replicate (emptyN (atB b (1 : Nat))) zE = List.replicate (emptyN (atB b (1 : Nat))) zE ∧ List.replicate
 (emptyN (atB b (2 : Nat))) zE = List.replicate (emptyN (atB b (2 : Nat))) zE) ∧ J z)) ∧ ∀ (z : Int), J z → ∃ (z_1 : Unit), (b = b ∧ Value.slice none (0 : Nat) (0 : Nat) = Value.slice none (0 : Nat) (0 : Nat) ∧ Value.slice none (0 : Nat) (0
 : Nat) = Value.slice none (0 : Nat) (0 : Nat) ∧ (0 : Int) = (0 : Int) ∧ (0 : Int) = (0 : Int) ∧ false = false ∧ false = false ∧ (0 : Int) = (0 : Int) ∧ (0 : Int) = (0 : Int) ∧ (0 : Int) = (0 : Int) ∧ (0 : Int) = (0 : Int) ∧ (0 : Int) = (0 :
 Int) ∧ (0 : Int) = (0 : Int) ∧ (0 : Int) = (0 : Int) ∧ (0 : Int) = (0 : Int) ∧ Value.slice none (0 : Nat) (0 : Nat) = Value.slice none (0 : Nat) (0 : Nat) ∧ (0 : Int) = (0 : Int) ∧ (0 : Int) = (0 : Int) ∧ Value.slice none (0 : Nat) (0 :
 Nat) = Value.slice none (0 : Nat) (0 : Nat) ∧ (0 : Int) = (0 : Int) ∧ (0 : Int) = (0 : Int) ∧ Value.slice none (0 : Nat) (0 : Nat) = Value.slice none (0 : Nat) (0 : Nat) ∧ Value.slice none (0 : Nat) (0 : Nat) = Value.slice none (0 : Nat) (0
 : Nat) ∧ adv (List.length b) (0 : Nat) (5 : Nat) = adv (List.length b) (0 : Nat) (5 : Nat) ∧ List.length b - adv (List.length b) (0 : Nat) (5 : Nat) = List.length b - adv (List.length b) (0 : Nat) (5 : Nat) ∧ (0 : Nat) = (0 : Nat) ∧ dSize b
 = dSize b ∧ Value.slice none (0 : Nat) (0 : Nat) = Value.slice none (0 : Nat) (0 : Nat) ∧ (0 : Int) = (0 : Int) ∧ dMode b = z ∧ dSum b = (bits BinOp.and IntKind.i64 (atB b (4 : Nat)) (4 : Int) != (0 : Int)) ∧ dMxr b = (bits BinOp.and
 IntKind.i64 (atB b (4 : Nat)) (8 : Int) != (0 : Int)) ∧ (0 : Int) = (0 : Int) ∧ (0 : Int) = (0 : Int) ∧ (0 : Int) = (0 : Int) ∧ dMode b = z ∧ (0 : Int) = (0 : Int) ∧ (0 : Int) = (0 : Int) ∧ (emptyM (atB b (0 : Nat))).fst = (emptyM (atB b (0
 : Nat))).fst ∧ (emptyM (atB b (0 : Nat))).snd.fst = (emptyM (atB b (0 : Nat))).snd.fst ∧ (0 : Nat) = (0 : Nat) ∧ emptyN (atB b (0 : Nat)) = emptyN (atB b (0 : Nat)) ∧ (emptyM (atB b (1 : Nat))).fst = (emptyM (atB b (1 : Nat))).fst ∧ (emptyM
 (atB b (1 : Nat))).snd.fst = (emptyM (atB b (1 : Nat))).snd.fst ∧ (0 : Nat) = (0 : Nat) ∧ emptyN (atB b (1 : Nat)) = emptyN (atB b (1 : Nat)) ∧ (emptyM (atB b (2 : Nat))).fst = (emptyM (atB b (2 : Nat))).fst ∧ (emptyM (atB b (2 :
 Nat))).snd.fst = (emptyM (atB b (2 : Nat))).snd.fst ∧ (0 : Nat) = (0 : Nat) ∧ emptyN (atB b (2 : Nat)) = emptyN (atB b (2 : Nat)) ∧ Value.slice none (0 : Nat) (0 : Nat) = Value.slice none (0 : Nat) (0 : Nat) ∧ List.replicate (dSize b) (0 :
 Int) = List.replicate (dSize b) (0 : Int) ∧ List.replicate (emptyN (atB b (0 : Nat))) zE = List.replicate (emptyN (atB b (0 : Nat))) zE ∧ List.replicate (emptyN (atB b (1 : Nat))) zE = List.replicate (emptyN (atB b (1 : Nat))) zE ∧
 List.replicate (emptyN (atB b (2 : Nat))) zE = List.replicate (emptyN (atB b (2 : Nat))) zE) ∧ (adv (List.length b) (0 : Nat) (5 : Nat) ≤ List.length b ∧ List.length b - adv (List.length b) (0 : Nat) (5 : Nat) = List.length b - adv
 (List.length b) (0 : Nat) (5 : Nat) ∧ ByteR b ∧ (0 : Int) ≤ (2 : Int) ∧ (2 : Int) ≤ (8 : Int)) ∧ (adv (List.length b) (adv (List.length b) (0 : Nat) (5 : Nat)) (Int.toNat (2 : Int)) ≤ List.length b ∧ List.length b - adv (List.length b) (adv
 (List.length b) (0 : Nat) (5 : Nat)) (Int.toNat (2 : Int)) = List.length b - adv (List.length b) (adv (List.length b) (0 : Nat) (5 : Nat)) (Int.toNat (2 : Int)) ∧ ByteR b ∧ (0 : Int) ≤ (8 : Int) ∧ (8 : Int) ≤ (8 : Int)) ∧ (adv (List.length
 b) (adv (List.length b) (adv (List.length b) (0 : Nat) (5 : Nat)) (Int.toNat (2 : Int))) (Int.toNat (8 : Int)) ≤ List.length b ∧ List.length b - adv (List.length b) (adv (List.length b) (adv (List.length b) (0 : Nat) (5 : Nat)) (Int.toNat
 (2 : Int))) (Int.toNat (8 : Int)) = List.length b - adv (List.length b) (adv (List.length b) (adv (List.length b) (0 : Nat) (5 : Nat)) (Int.toNat (2 : Int))) (Int.toNat (8 : Int)) ∧ ByteR b ∧ (0 : Int) ≤ (8 : Int) ∧ (8 : Int) ≤ (8 : Int)) ∧
 (adv (List.length b) (adv (List.length b) (adv (List.length b) (adv (List.length b) (0 : Nat) (5 : Nat)) (Int.toNat (2 : Int))) (Int.toNat (8 : Int))) (Int.toNat (8 : Int)) ≤ List.length b ∧ List.length b - adv (List.length b) (adv
 (List.length b) (adv (List.length b) (adv (List.length b) (0 : Nat) (5 : Nat)) (Int.toNat (2 : Int))) (Int.toNat (8 : Int))) (Int.toNat (8 : Int)) = List.length b - adv (List.length b) (adv (List.length b) (adv (List.length b) (adv
 (List.length b) (0 : Nat) (5 : Nat)) (Int.toNat (2 : Int))) (Int.toNat (8 : Int))) (Int.toNat (8 : Int)) ∧ ByteR b ∧ (0 : Int) ≤ (8 : Int) ∧ (8 : Int) ≤ (8 : Int)) ∧ U64 (numM (bytsB b (adv (List.length b) (adv (List.length b) (adv
 (List.length b) (adv (List.length b) (0 : Nat) (5 : Nat)) (Int.toNat (2 : Int))) (Int.toNat (8 : Int))) (Int.toNat (8 : Int))) (Int.toNat (8 : Int)))) ∧ ∃ (J : Int → Prop), ((schemeM (numM (bytsB b (adv (List.length b) (adv (List.length b)
 (adv (List.length b) (adv (List.length b) (0 : Nat) (5 : Nat)) (Int.toNat (2 : Int))) (Int.toNat (8 : Int))) (Int.toNat (8 : Int))) (Int.toNat (8 : Int)))) = true → ∃ (z : Int), ((dN b = if (20000 : Int) < numM (bytsB b (adv (List.length b)
 (0 : Nat) (5 : Nat)) (Int.toNat (2 : Int))) then (20000 : Int) else numM (bytsB b (adv (List.length b) (0 : Nat) (5 : Nat)) (Int.toNat (2 : Int)))) ∧ b = b ∧ Value.slice none (0 : Nat) (0 : Nat) = Value.slice none (0 : Nat) (0 : Nat) ∧
 Value.slice none (0 : Nat) (0 : Nat) = Value.slice none (0 : Nat) (0 : Nat) ∧ (0 : Int) = (0 : Int) ∧ (0 : Int) = (0 : Int) ∧ false = false ∧ false = false ∧ (0 : Int) = (0 : Int) ∧ (0 : Int) = (0 : Int) ∧ (0 : Int) = (0 : Int) ∧ (0 : Int)
 = (0 : Int) ∧ (0 : Int) = (0 : Int) ∧ (0 : Int) = (0 : Int) ∧ (0 : Int) = (0 : Int) ∧ (0 : Int) = (0 : Int) ∧ Value.slice none (0 : Nat) (0 : Nat) = Value.slice none (0 : Nat) (0 : Nat) ∧ (0 : Int) = (0 : Int) ∧ (0 : Int) = (0 : Int) ∧
 Value.slice none (0 : Nat) (0 : Nat) = Value.slice none (0 : Nat) (0 : Nat) ∧ (0 : Int) = (0 : Int) ∧ (0 : Int) = (0 : Int) ∧ Value.slice none (0 : Nat) (0 : Nat) = Value.slice none (0 : Nat) (0 : Nat) ∧ Value.slice none (0 : Nat) (0 : Nat)
 = Value.slice none (0 : Nat) (0 : Nat) ∧ adv (List.length b) (0 : Nat) (31 : Nat) = adv (List.length b) (adv (List.length b) (adv (List.length b) (adv (List.length b) (adv (List.length b) (0 : Nat) (5 : Nat)) (Int.toNat (2 : Int)))
 (Int.toNat (8 : Int))) (Int.toNat (8 : Int))) (Int.toNat (8 : Int)) ∧ List.length b - adv (List.length b) (0 : Nat) (31 : Nat) = List.length b - adv (List.length b) (adv (List.length b) (adv (List.length b) (adv (List.length b) (adv
 (List.length b) (0 : Nat) (5 : Nat)) (Int.toNat (2 : Int))) (Int.toNat (8 : Int))) (Int.toNat (8 : Int))) (Int.toNat (8 : Int)) ∧ (0 : Nat) = (0 : Nat) ∧ dSize b = dSize b ∧ Value.slice none (0 : Nat) (0 : Nat) = Value.slice none (0 : Nat)
 (0 : Nat) ∧ dPc b = numM (bytsB b (adv (List.length b) (adv (List.length b) (0 : Nat) (5 : Nat)) (Int.toNat (2 : Int))) (Int.toNat (8 : Int))) ∧ dMode b = dMode b ∧ dSum b = dSum b ∧ dMxr b = dMxr b ∧ z = numM (bytsB b (adv (List.length b)
 (adv (List.length b) (adv (List.length b) (adv (List.length b) (0 : Nat) (5 : Nat)) (Int.toNat (2 : Int))) (Int.toNat (8 : Int))) (Int.toNat (8 : Int))) (Int.toNat (8 : Int))) ∧ dTvec b = bits BinOp.andNot IntKind.u64 (numM (bytsB b (adv
 (List.length b) (adv (List.length b) (adv (List.length b) (0 : Nat) (5 : Nat)) (Int.toNat (2 : Int))) (Int.toNat (8 : Int))) (Int.toNat (8 : Int)))) (3 : Int) ∧ (0 : Int) = (0 : Int) ∧ dMode b = dMode b ∧ (0 : Int) = (0 : Int) ∧ (0 : Int) =
 (0 : Int) ∧ (emptyM (atB b (0 : Nat))).fst = (emptyM (atB b (0 : Nat))).fst ∧ (emptyM (atB b (0 : Nat))).snd.fst = (emptyM (atB b (0 : Nat))).snd.fst ∧ (0 : Nat) = (0 : Nat) ∧ emptyN (atB b (0 : Nat)) = emptyN (atB b (0 : Nat)) ∧ (emptyM
 (atB b (1 : Nat))).fst = (emptyM (atB b (1 : Nat))).fst ∧ (emptyM (atB b (1 : Nat))).snd.fst = (emptyM (atB b (1 : Nat))).snd.fst ∧ (0 : Nat) = (0 : Nat) ∧ emptyN (atB b (1 : Nat)) = emptyN (atB b (1 : Nat)) ∧ (emptyM (atB b (2 : Nat))).fst
 = (emptyM (atB b (2 : Nat))).fst ∧ (emptyM (atB b (2 : Nat))).snd.fst = (emptyM (atB b (2 : Nat))).snd.fst ∧ (0 : Nat) = (0 : Nat) ∧ emptyN (atB b (2 : Nat)) = emptyN (atB b (2 : Nat)) ∧ Value.slice none (0 : Nat) (0 : Nat) = Value.slice
 none (0 : Nat) (0 : Nat) ∧ List.replicate (dSize b) (0 : Int) = List.replicate (dSize b) (0 : Int) ∧ List.replicate (emptyN (atB b (0 : Nat))) zE = List.replicate (emptyN (atB b (0 : Nat))) zE ∧ List.replicate (emptyN (atB b (1 : Nat))) zE
 = List.replicate (emptyN (atB b (1 : Nat))) zE ∧ List.replicate (emptyN (atB b (2 : Nat))) zE = List.replicate (emptyN (atB b (2 : Nat))) zE) ∧ J z) ∧ (schemeM (numM (bytsB b (adv (List.length b) (adv (List.length b) (adv (List.length b)
 (adv (List.length b) (0 : Nat) (5 : Nat)) (Int.toNat (2 : Int))) (Int.toNat (8 : Int))) (Int.toNat (8 : Int))) (Int.toNat (8 : Int)))) = false → ∃ (z : Int), ((dN b = if (20000 : Int) < numM (bytsB b (adv (List.length b) (0 : Nat) (5 :
 Nat)) (Int.toNat (2 : Int))) then (20000 : Int) else numM (bytsB b (adv (List.length b) (0 : Nat) (5 : Nat)) (Int.toNat (2 : Int)))) ∧ b = b ∧ Value.slice none (0 : Nat) (0 : Nat) = Value.slice none (0 : Nat) (0 : Nat) ∧ Value.slice none (0
 : Nat) (0 : Nat) = Value.slice none (0 : Nat) (0 : Nat) ∧ (0 : Int) = (0 : Int) ∧ (0 : Int) = (0 : Int) ∧ false = false ∧ false = false ∧ (0 : Int) = (0 : Int) ∧ (0 : Int) = (0 : Int) ∧ (0 : Int) = (0 : Int) ∧ (0 : Int) = (0 : Int) ∧ (0 :
 Int) = (0 : Int) ∧ (0 : Int) = (0 : Int) ∧ (0 : Int) = (0 : Int) ∧ (0 : Int) = (0 : Int) ∧ Value.slice none (0 : Nat) (0 : Nat) = Value.slice none (0 : Nat) (0 : Nat) ∧ (0 : Int) = (0 : Int) ∧ (0 : Int) = (0 : Int) ∧ Value.slice none (0 :
 Nat) (0 : Nat) = Value.slice none (0 : Nat) (0 : Nat) ∧ (0 : Int) = (0 : Int) ∧ (0 : Int) = (0 : Int) ∧ Value.slice none (0 : Nat) (0 : Nat) = Value.slice none (0 : Nat) (0 : Nat) ∧ Value.slice none (0 : Nat) (0 : Nat) = Value.slice none (0
 : Nat) (0 : Nat) ∧ adv (List.length b) (0 : Nat) (31 : Nat) = adv (List.length b) (adv (List.length b) (adv (List.length b) (adv (List.length b) (adv (List.length b) (0 : Nat) (5 : Nat)) (Int.toNat (2 : Int))) (Int.toNat (8 : Int)))
 (Int.toNat (8 : Int))) (Int.toNat (8 : Int)) ∧ List.length b - adv (List.length b) (0 : Nat) (31 : Nat) = List.length b - adv (List.length b) (adv (List.length b) (adv (List.length b) (adv (List.length b) (adv (List.length b) (0 : Nat) (5 :
 Nat)) (Int.toNat (2 : Int))) (Int.toNat (8 : Int))) (Int.toNat (8 : Int))) (Int.toNat (8 : Int)) ∧ (0 : Nat) = (0 : Nat) ∧ dSize b = dSize b ∧ Value.slice none (0 : Nat) (0 : Nat) = Value.slice none (0 : Nat) (0 : Nat) ∧ dPc b = numM (bytsB
 b (adv (List.length b) (adv (List.length b) (0 : Nat) (5 : Nat)) (Int.toNat (2 : Int))) (Int.toNat (8 : Int))) ∧ dMode b = dMode b ∧ dSum b = dSum b ∧ dMxr b = dMxr b ∧ z = (0 : Int) ∧ dTvec b = bits BinOp.andNot IntKind.u64 (numM (bytsB b
 (adv (List.length b) (adv (List.length b) (adv (List.length b) (0 : Nat) (5 : Nat)) (Int.toNat (2 : Int))) (Int.toNat (8 : Int))) (Int.toNat (8 : Int)))) (3 : Int) ∧ (0 : Int) = (0 : Int) ∧ dMode b = dMode b ∧ (0 : Int) = (0 : Int) ∧ (0 :
 Int) = (0 : Int) ∧ (emptyM (atB b (0 : Nat))).fst = (emptyM (atB b (0 : Nat))).fst ∧ (emptyM (atB b (0 : Nat))).snd.fst = (emptyM (atB b (0 : Nat))).snd.fst ∧ (0 : Nat) = (0 : Nat) ∧ emptyN (atB b (0 : Nat)) = emptyN (atB b (0 : Nat)) ∧
 (emptyM (atB b (1 : Nat))).fst = (emptyM (atB b (1 : Nat))).fst ∧ (emptyM (atB b (1 : Nat))).snd.fst = (emptyM (atB b (1 : Nat))).snd.fst ∧ (0 : Nat) = (0 : Nat) ∧ emptyN (atB b (1 : Nat)) = emptyN (atB b (1 : Nat)) ∧ (emptyM (atB b (2 :
 Nat))).fst = (emptyM (atB b (2 : Nat))).fst ∧ (emptyM (atB b (2 : Nat))).snd.fst = (emptyM (atB b (2 : Nat))).snd.fst ∧ (0 : Nat) = (0 : Nat) ∧ emptyN (atB b (2 : Nat)) = emptyN (atB b (2 : Nat)) ∧ Value.slice none (0 : Nat) (0 : Nat) =
 Value.slice none (0 : Nat) (0 : Nat) ∧ List.replicate (dSize b) (0 : Int) = List.replicate (dSize b) (0 : Int) ∧ List.replicate (emptyN (atB b (0 : Nat))) zE = List.replicate (emptyN (atB b (0 : Nat))) zE ∧ List.replicate (emptyN (atB b (1
 : Nat))) zE = List.replicate (emptyN (atB b (1 : Nat))) zE ∧ List.replicate (emptyN (atB b (2 : Nat))) zE = List.replicate (emptyN (atB b (2 : Nat))) zE) ∧ J z)) ∧ ∀ (z : Int), J z → ((0 : Int) ≤ (8 : Int) ∧ (8 : Int) ≤ (8 : Int) ∧ (8 :
 Int) ≤ (4294967296 : Int)) ∧ ∃ (x : Nat), (dN b = dN b ∧ (↑x : Int) = (1 : Int) ∧ b = b ∧ Value.slice none (0 : Nat) (0 : Nat) = Value.slice none (0 : Nat) (0 : Nat) ∧ Value.slice none (0 : Nat) (0 : Nat) = Value.slice none (0 : Nat) (0 :
 Nat) ∧ (0 : Int) = (0 : Int) ∧ (0 : Int) = (0 : Int) ∧ false = false ∧ false = false ∧ (0 : Int) = (0 : Int) ∧ (0 : Int) = (0 : Int) ∧ (0 : Int) = (0 : Int) ∧ (0 : Int) = (0 : Int) ∧ (0 : Int) = (0 : Int) ∧ (0 : Int) = (0 : Int) ∧ (0 : Int)
 = (0 : Int) ∧ (0 : Int) = (0 : Int) ∧ Value.slice none (0 : Nat) (0 : Nat) = Value.slice none (0 : Nat) (0 : Nat) ∧ (0 : Int) = (0 : Int) ∧ (0 : Int) = (0 : Int) ∧ Value.slice none (0 : Nat) (0 : Nat) = Value.slice none (0 : Nat) (0 : Nat)
 ∧ (0 : Int) = (0 : Int) ∧ (0 : Int) = (0 : Int) ∧ Value.slice none (0 : Nat) (0 : Nat) = Value.slice none (0 : Nat) (0 : Nat) ∧ Value.slice none (0 : Nat) (0 : Nat) = Value.slice none (0 : Nat) (0 : Nat) ∧ adv (List.length b) (0 : Nat) ((23
 : Nat) + (8 : Nat) * x) = adv (List.length b) (0 : Nat) (31 : Nat) ∧ List.length b - adv (List.length b) (0 : Nat) ((23 : Nat) + (8 : Nat) * x) = List.length b - adv (List.length b) (0 : Nat) (31 : Nat) ∧ (0 : Nat) = (0 : Nat) ∧
 (List.replicate (dSize b) (0 : Int)).length = dSize b ∧ (0 : Nat) = (0 : Nat) ∧ (8 : Nat) = Int.toNat (8 : Int) ∧ dPc b = dPc b ∧ dMode b = dMode b ∧ dSum b = dSum b ∧ dMxr b = dMxr b ∧ dSatp b = z ∧ dTvec b = dTvec b ∧ (0 : Int) = (0 :
 Int) ∧ dMode b = dMode b ∧ (0 : Int) = (0 : Int) ∧ (0 : Int) = (0 : Int) ∧ (emptyM (atB b (0 : Nat))).fst = (emptyM (atB b (0 : Nat))).fst ∧ (emptyM (atB b (0 : Nat))).snd.fst = (emptyM (atB b (0 : Nat))).snd.fst ∧ (0 : Nat) = (0 : Nat) ∧
 emptyN (atB b (0 : Nat)) = emptyN (atB b (0 : Nat)) ∧ (emptyM (atB b (1 : Nat))).fst = (emptyM (atB b (1 : Nat))).fst ∧ (emptyM (atB b (1 : Nat))).snd.fst = (emptyM (atB b (1 : Nat))).snd.fst ∧ (0 : Nat) = (0 : Nat) ∧ emptyN (atB b (1 :
 Nat)) = emptyN (atB b (1 : Nat)) ∧ (emptyM (atB b (2 : Nat))).fst = (emptyM (atB b (2 : Nat))).fst ∧ (emptyM (atB b (2 : Nat))).snd.fst = (emptyM (atB b (2 : Nat))).snd.fst ∧ (0 : Nat) = (0 : Nat) ∧ emptyN (atB b (2 : Nat)) = emptyN (atB b
 (2 : Nat)) ∧ Value.slice none (0 : Nat) (0 : Nat) = Value.slice none (0 : Nat) (0 : Nat) ∧ List.replicate (dSize b) (0 : Int) = List.replicate (dSize b) (0 : Int) ∧ regsP b x = [El.zero [Ty.i IntKind.u64], El.zero [Ty.i IntKind.u64],
 El.zero [Ty.i IntKind.u64], El.zero [Ty.i IntKind.u64], El.zero [Ty.i IntKind.u64], El.zero [Ty.i IntKind.u64], El.zero [Ty.i IntKind.u64], El.zero [Ty.i IntKind.u64]] ∧ List.replicate (emptyN (atB b (0 : Nat))) zE = List.replicate (emptyN
 (atB b (0 : Nat))) zE ∧ List.replicate (emptyN (atB b (1 : Nat))) zE = List.replicate (emptyN (atB b (1 : Nat))) zE ∧ List.replicate (emptyN (atB b (2 : Nat))) zE = List.replicate (emptyN (atB b (2 : Nat))) zE) ∧ ((1 : Nat) ≤ x ∧ x ≤ (8 :
 Nat)) ∧ ∀ (z : Unit), True → (adv (List.length b) (0 : Nat) (87 : Nat) ≤ List.length b ∧ List.length b - adv (List.length b) (0 : Nat) (87 : Nat) = List.length b - adv (List.length b) (0 : Nat) (87 : Nat) ∧ ByteR b) ∧ ∃ (x : Nat × Nat ×
 By), (dN b = dN b ∧ (↑x.fst : Int) = atB b (adv (List.length b) (0 : Nat) (87 : Nat)) ∧ b = b ∧ Value.slice none (0 : Nat) (0 : Nat) = Value.slice none (0 : Nat) (0 : Nat) ∧ Value.slice none (0 : Nat) (0 : Nat) = Value.slice none (0 : Nat)
 (0 : Nat) ∧ (0 : Int) = (0 : Int) ∧ (0 : Int) = (0 : Int) ∧ false = false ∧ false = false ∧ (0 : Int) = (0 : Int) ∧ (0 : Int) = (0 : Int) ∧ (0 : Int) = (0 : Int) ∧ (0 : Int) = (0 : Int) ∧ (0 : Int) = (0 : Int) ∧ (0 : Int) = (0 : Int) ∧ (0 :
 Int) = (0 : Int) ∧ (0 : Int) = (0 : Int) ∧ Value.slice none (0 : Nat) (0 : Nat) = Value.slice none (0 : Nat) (0 : Nat) ∧ (0 : Int) = (0 : Int) ∧ (0 : Int) = (0 : Int) ∧ Value.slice none (0 : Nat) (0 : Nat) = Value.slice none (0 : Nat) (0 :
 Nat) ∧ (0 : Int) = (0 : Int) ∧ (0 : Int) = (0 : Int) ∧ Value.slice none (0 : Nat) (0 : Nat) = Value.slice none (0 : Nat) (0 : Nat) ∧ Value.slice none (0 : Nat) (0 : Nat) = Value.slice none (0 : Nat) (0 : Nat) ∧ adv (List.length b) (0 : Nat)
 x.snd.fst = adv (List.length b) (adv (List.length b) (0 : Nat) (87 : Nat)) (1 : Nat) ∧ List.length b - adv (List.length b) (0 : Nat) x.snd.fst = List.length b - adv (List.length b) (adv (List.length b) (0 : Nat) (87 : Nat)) (1 : Nat) ∧ (0 :
 Nat) = (0 : Nat) ∧ List.length x.snd.snd = (List.replicate (dSize b) (0 : Int)).length ∧ (0 : Nat) = (0 : Nat) ∧ (8 : Nat) = (8 : Nat) ∧ dPc b = dPc b ∧ dMode b = dMode b ∧ dSum b = dSum b ∧ dMxr b = dMxr b ∧ dSatp b = dSatp b ∧ dTvec b =
 dTvec b ∧ (0 : Int) = (0 : Int) ∧ dMode b = dMode b ∧ (0 : Int) = (0 : Int) ∧ (0 : Int) = (0 : Int) ∧ (emptyM (atB b (0 : Nat))).fst = (emptyM (atB b (0 : Nat))).fst ∧ (emptyM (atB b (0 : Nat))).snd.fst = (emptyM (atB b (0 : Nat))).snd.fst
 ∧ (0 : Nat) = (0 : Nat) ∧ emptyN (atB b (0 : Nat)) = emptyN (atB b (0 : Nat)) ∧ (emptyM (atB b (1 : Nat))).fst = (emptyM (atB b (1 : Nat))).fst ∧ (emptyM (atB b (1 : Nat))).snd.fst = (emptyM (atB b (1 : Nat))).snd.fst ∧ (0 : Nat) = (0 :
 Nat) ∧ emptyN (atB b (1 : Nat)) = emptyN (atB b (1 : Nat)) ∧ (emptyM (atB b (2 : Nat))).fst = (emptyM (atB b (2 : Nat))).fst ∧ (emptyM (atB b (2 : Nat))).snd.fst = (emptyM (atB b (2 : Nat))).snd.fst ∧ (0 : Nat) = (0 : Nat) ∧ emptyN (atB b
 (2 : Nat)) = emptyN (atB b (2 : Nat)) ∧ Value.slice none (0 : Nat) (0 : Nat) = Value.slice none (0 : Nat) (0 : Nat) ∧ x.snd.snd = List.replicate (dSize b) (0 : Int) ∧ regsP b (8 : Nat) = regsP b (8 : Nat) ∧ List.replicate (emptyN (atB b (0
 : Nat))) zE = List.replicate (emptyN (atB b (0 : Nat))) zE ∧ List.replicate (emptyN (atB b (1 : Nat))) zE = List.replicate (emptyN (atB b (1 : Nat))) zE ∧ List.replicate (emptyN (atB b (2 : Nat))) zE = List.replicate (emptyN (atB b (2 :
 Nat))) zE) ∧ RunR b x.fst x.snd.fst x.snd.snd ∧ ∀ (z : Unit), True → ∃ (x : Nat), (dN b = dN b ∧ dN b = dN b ∧ (↑x : Int) = (0 : Int) ∧ b = b ∧ Value.slice none (0 : Nat) (0 : Nat) = Value.slice none (0 : Nat) (0 : Nat) ∧ Value.slice none
 (0 : Nat) (0 : Nat) = Value.slice none (0 : Nat) (0 : Nat) ∧ (0 : Int) = (0 : Int) ∧ (0 : Int) = (0 : Int) ∧ false = false ∧ false = false ∧ (0 : Int) = (0 : Int) ∧ (0 : Int) = (0 : Int) ∧ (0 : Int) = (0 : Int) ∧ (0 : Int) = (0 : Int) ∧ (0
 : Int) = (0 : Int) ∧ (0 : Int) = (0 : Int) ∧ (0 : Int) = (0 : Int) ∧ (0 : Int) = (0 : Int) ∧ Value.slice none (0 : Nat) (0 : Nat) = Value.slice none (0 : Nat) (0 : Nat) ∧ (0 : Int) = (0 : Int) ∧ (0 : Int) = (0 : Int) ∧ Value.slice none (0 :
 Nat) (0 : Nat) = Value.slice none (0 : Nat) (0 : Nat) ∧ (0 : Int) = (0 : Int) ∧ (0 : Int) = (0 : Int) ∧ Value.slice none (0 : Nat) (0 : Nat) = Value.slice none (0 : Nat) (0 : Nat) ∧ Value.slice none (0 : Nat) (0 : Nat) = Value.slice none (0
 : Nat) (0 : Nat) ∧ adv (List.length b) (0 : Nat) ((runsB b (atB b (87 : Nat)).toNat ((88 : Nat), List.replicate (dSize b) (0 : Int))).fst + x) = adv (List.length b) (0 : Nat) (runsB b (atB b (87 : Nat)).toNat ((88 : Nat), List.replicate
 (dSize b) (0 : Int))).fst ∧ List.length b - adv (List.length b) (0 : Nat) ((runsB b (atB b (87 : Nat)).toNat ((88 : Nat), List.replicate (dSize b) (0 : Int))).fst + x) = List.length b - adv (List.length b) (0 : Nat) (runsB b (atB b (87 :
 Nat)).toNat ((88 : Nat), List.replicate (dSize b) (0 : Int))).fst ∧ (0 : Nat) = (0 : Nat) ∧ List.length (runsB b (atB b (87 : Nat)).toNat ((88 : Nat), List.replicate (dSize b) (0 : Int))).snd = List.length (runsB b (atB b (87 : Nat)).toNat
 ((88 : Nat), List.replicate (dSize b) (0 : Int))).snd ∧ (0 : Nat) = (0 : Nat) ∧ (8 : Nat) = (8 : Nat) ∧ dPc b = dPc b ∧ dMode b = dMode b ∧ dSum b = dSum b ∧ dMxr b = dMxr b ∧ dSatp b = dSatp b ∧ dTvec b = dTvec b ∧ (0 : Int) = (0 : Int) ∧
 dMode b = dMode b ∧ (0 : Int) = (0 : Int) ∧ (0 : Int) = (0 : Int) ∧ (emptyM (atB b (0 : Nat))).fst = (emptyM (atB b (0 : Nat))).fst ∧ (emptyM (atB b (0 : Nat))).snd.fst = (emptyM (atB b (0 : Nat))).snd.fst ∧ (0 : Nat) = (0 : Nat) ∧ emptyN
 (atB b (0 : Nat)) = emptyN (atB b (0 : Nat)) ∧ (emptyM (atB b (1 : Nat))).fst = (emptyM (atB b (1 : Nat))).fst ∧ (emptyM (atB b (1 : Nat))).snd.fst = (emptyM (atB b (1 : Nat))).snd.fst ∧ (0 : Nat) = (0 : Nat) ∧ emptyN (atB b (1 : Nat)) =
 emptyN (atB b (1 : Nat)) ∧ (emptyM (atB b (2 : Nat))).fst = (emptyM (atB b (2 : Nat))).fst ∧ (emptyM (atB b (2 : Nat))).snd.fst = (emptyM (atB b (2 : Nat))).snd.fst ∧ (0 : Nat) = (0 : Nat) ∧ emptyN (atB b (2 : Nat)) = emptyN (atB b (2 :
 Nat)) ∧ (0 : Nat) = (0 : Nat) ∧ x = (0 : Nat) ∧ (runsB b (atB b (87 : Nat)).toNat ((88 : Nat), List.replicate (dSize b) (0 : Int))).snd = (runsB b (atB b (87 : Nat)).toNat ((88 : Nat), List.replicate (dSize b) (0 : Int))).snd ∧ regsP b (8 :
 Nat) = regsP b (8 : Nat) ∧ List.replicate (emptyN (atB b (0 : Nat))) zE = List.replicate (emptyN (atB b (0 : Nat))) zE ∧ List.replicate (emptyN (atB b (1 : Nat))) zE = List.replicate (emptyN (atB b (1 : Nat))) zE ∧ List.replicate (emptyN
 (atB b (2 : Nat))) zE = List.replicate (emptyN (atB b (2 : Nat))) zE ∧ bytsB b (runsB b (atB b (87 : Nat)).toNat ((88 : Nat), List.replicate (dSize b) (0 : Int))).fst x = []) ∧ (↑x : Int) ≤ dN b ∧ ∀ (z : Unit), True → (0 : Nat) = (0 : Nat)
 ∧ List.length (runsB b (atB b (87 : Nat)).toNat ((88 : Nat), List.replicate (dSize b) (0 : Int))).snd = List.length (runsB b (atB b (87 : Nat)).toNat ((88 : Nat), List.replicate (dSize b) (0 : Int))).snd ∧ (0 : Nat) = (0 : Nat) ∧
 List.length (regsP b (8 : Nat)) = (8 : Nat) ∧ dPc b = dPc b ∧ dMode b = dMode b ∧ dSum b = dSum b ∧ dMxr b = dMxr b ∧ dSatp b = dSatp b ∧ dTvec b = dTvec b ∧ (0 : Int) = (0 : Int) ∧ dMode b = dMode b ∧ (0 : Int) = (0 : Int) ∧ (0 : Int) = (0
 : Int) ∧ (emptyM (atB b (0 : Nat))).fst = (emptyM (atB b (0 : Nat))).fst ∧ (emptyM (atB b (0 : Nat))).snd.fst = (emptyM (atB b (0 : Nat))).snd.fst ∧ (0 : Nat) = (0 : Nat) ∧ (List.replicate (emptyN (atB b (0 : Nat))) zE).length = emptyN (atB
 b (0 : Nat)) ∧ (emptyM (atB b (1 : Nat))).fst = (emptyM (atB b (1 : Nat))).fst ∧ (emptyM (atB b (1 : Nat))).snd.fst = (emptyM (atB b (1 : Nat))).snd.fst ∧ (0 : Nat) = (0 : Nat) ∧ (List.replicate (emptyN (atB b (1 : Nat))) zE).length =
 emptyN (atB b (1 : Nat)) ∧ (emptyM (atB b (2 : Nat))).fst = (emptyM (atB b (2 : Nat))).fst ∧ (emptyM (atB b (2 : Nat))).snd.fst = (emptyM (atB b (2 : Nat))).snd.fst ∧ (0 : Nat) = (0 : Nat) ∧ (List.replicate (emptyN (atB b (2 : Nat)))
 zE).length = emptyN (atB b (2 : Nat)) ∧ (0 : Nat) = (0 : Nat) ∧ List.length (bytsB b (runsB b (atB b (87 : Nat)).toNat ((88 : Nat), List.replicate (dSize b) (0 : Int))).fst (dN b).toNat) = (dN b).toNat ∧ b = b ∧ (runsB b (atB b (87 :
 Nat)).toNat ((88 : Nat), List.replicate (dSize b) (0 : Int))).snd = (runsB b (atB b (87 : Nat)).toNat ((88 : Nat), List.replicate (dSize b) (0 : Int))).snd ∧ regsP b (8 : Nat) = regsP b (8 : Nat) ∧ List.replicate (emptyN (atB b (0 : Nat)))
 zE = List.replicate (emptyN (atB b (0 : Nat))) zE ∧ List.replicate (emptyN (atB b (1 : Nat))) zE = List.replicate (emptyN (atB b (1 : Nat))) zE ∧ List.replicate (emptyN (atB b (2 : Nat))) zE = List.replicate (emptyN (atB b (2 : Nat))) zE ∧
 bytsB b (runsB b (atB b (87 : Nat)).toNat ((88 : Nat), List.replicate (dSize b) (0 : Int))).fst (dN b).toNat = bytsB b (runsB b (atB b (87 : Nat)).toNat ((88 : Nat), List.replicate (dSize b) (0 : Int))).fst (dN b).toNat) := by kernel_rfl
end Go.Proofs.Ytfiddfbagbaofaa.V
namespace Go.Proofs.Ytfiddfbagbaofaa.V
open Go
set_option linter.unusedSimpArgs false
set_option linter.unusedVariables false
theorem wrS_len (b : By) (p a : Nat) : ∀ (j : Nat) (m : By), (wrS b p a j m).length = m.length
  | 0, m => rfl
  | j + 1, m => by
    have e := wrS_len b p a j m
    unfold wrS
    split
    · rw [List.length_set, e]
    · exact e
theorem wrS_in {b : By} (hb : ByteR b) (p a : Nat) : ∀ (j : Nat) {m : By}, ByteR m → ByteR (wrS b p a j m)
  | 0, m, h => h
  | j + 1, m, h => by
    have e := wrS_in hb p a j h
    have hl := wrS_len b p a (j + 1) m
    refine ⟨by rw [hl]; exact h.1, ?_⟩
    unfold wrS
    split
    · intro x hx
      rcases List.mem_or_eq_of_mem_set hx with q | q
      · exact e.2 x q
      · rw [q]; exact atB_in hb _
    · exact e.2
theorem regsP_step (b : By) {i : Nat} (h0 : 1 ≤ i) (h1 : i < 8) : regsP b (i + 1) = (regsP b i).set i (numM (bytsB b (23 + 8 * i) 8)) := by
  unfold regsP
  have hc : i = 1 ∨ i = 2 ∨ i = 3 ∨ i = 4 ∨ i = 5 ∨ i = 6 ∨ i = 7 := by omega
  rcases hc with rfl | rfl | rfl | rfl | rfl | rfl | rfl <;> rfl
theorem regsP_length (b : By) (i : Nat) : (regsP b i).length = 8 := by simp [regsP]
theorem regsP_one (b : By) : regsP b 1 = List.replicate 8 0 := by rfl
theorem num2 {b : By} (hb : ByteR b) (p : Nat) : numM (bytsB b p 2) = atB b p + 256 * atB b (p + 1) := by
  show atB b (p + 0) + 256 * (atB b (p + 1) + 256 * 0) = _
  rw [Nat.add_zero]
  omega
theorem dSize_in {b : By} (hb : ByteR b) : 64 * (1 + atB b 3 % 64) = (dSize b : Int) ∧ dSize b ≤ 4096 := by
  have := atB_in hb 3
  unfold dSize
  omega
theorem dN_in {b : By} (hb : ByteR b) : 0 ≤ dN b ∧ dN b ≤ 20000 := by
  have := bytsB_num hb 5 2
  unfold dN
  omega
theorem rep0_in {n : Nat} (h : n ≤ 4096) : ByteR (List.replicate n (0 : Int)) := by
  refine ⟨by rw [List.length_replicate]; unfold SzR; omega, fun x hx => ?_⟩
  rw [(List.mem_replicate.1 hx).2]
  exact ⟨by decide, by decide⟩
theorem runsB_ok {b : By} (hb : ByteR b) : ∀ (t p : Nat) (m : By), t ≤ 255 → p ≤ 88 + 258 * (255 - t) → ByteR m → (runsB b t (p, m)).1 ≤ 65878 ∧ (runsB b t (p, m)).2.length = m.length ∧ ByteR (runsB b t (p, m)).2
  | 0, p, m, h0, h1, h2 => by
    refine ⟨?_, rfl, h2⟩
    show p ≤ _
    omega
  | t + 1, p, m, h0, h1, h2 => by
    have c := atB_in hb (p + 2)
    have := runsB_ok hb t (p + 3 + (atB b (p + 2)).toNat) (wrS b (p + 3) (atB b p + 256 * atB b (p + 1)).toNat (atB b (p + 2)).toNat m) (by omega) (by omega) (wrS_in hb _ _ _ h2)
    rw [wrS_len] at this
    exact this
theorem dEnd_ok {b : By} (hb : ByteR b) : (dEnd b).1 ≤ 65878 ∧ (dEnd b).2.length = dSize b ∧ ByteR (dEnd b).2 := by
  have c := atB_in hb 87
  have := runsB_ok hb (atB b 87).toNat 88 (List.replicate (dSize b) 0) (by omega) (by omega) (rep0_in (dSize_in hb).2)
  rw [List.length_replicate] at this
  exact this
theorem FDB_ok : DictOk Try.prog FDB := mkD_ok (.cons (by kernel_rfl) sbyte_ok (.cons (by kernel_rfl) snum_ok (.cons (by kernel_rfl) stlb_ok (.cons (by kernel_rfl) scheme_ok .nil)))) .nil .nil
theorem adv_to (n a c : Nat) : adv n (adv n 0 a) c = adv n 0 (a + c) := adv_adv n 0 a c
theorem atB_to {b : By} (a : Nat) : atB b (adv b.length 0 a) = atB b a := by rw [atB_adv, Nat.zero_add]
theorem bytsB_to {b : By} (a k : Nat) : bytsB b (adv b.length 0 a) k = bytsB b a k := by rw [bytsB_adv, Nat.zero_add]
theorem dec_l1 {b : By} (hb : ByteR b) : LoopOk Try.prog 1 (loopAt Try.f70 0) (decL1 b) := by
  refine loop_any mixed FDB_ok (by kernel_rfl) (fun i : Nat => 8 - i) (fun (i : Nat) hi => ⟨decX b, vc_by (vc_dec_r1_eq b i) ⟨fun q => ?_, fun q => ?_⟩⟩)
  · obtain ⟨h0, h1⟩ : 1 ≤ i ∧ i ≤ 8 := hi
    have q : (i : Int) < 8 := of_decide_eq_true q
    have e : IntKind.i64.wrap ((i : Int) + 1) = ((i + 1 : Nat) : Int) := by rw [wrap_i64_in (by omega) (by omega)]; omega
    have e2 : adv b.length (adv b.length 0 (23 + 8 * i)) (Int.toNat 8) = adv b.length 0 (23 + 8 * (i + 1)) := by rw [adv_to]; congr 1
    have e3 : 0 + (i : Int).toNat = i := by omega
    refine ⟨⟨adv_le _ _ _, rfl, hb, by decide, by decide⟩, ⟨by omega, q⟩, by rw [e3, regsP_length]; omega, i + 1, ?_, ⟨by omega, by omega⟩, by omega, fun _ _ => trivial⟩
    rw [e, e2, e3, bytsB_to, regsP_step b h0 (by omega)]
    repeat' apply And.intro
    all_goals rfl
  · obtain ⟨h0, h1⟩ : 1 ≤ i ∧ i ≤ 8 := hi
    have q : ¬ (i : Int) < 8 := of_decide_eq_false q
    have : i = 8 := by omega
    subst this
    refine ⟨(), ?_, trivial⟩
    repeat' apply And.intro
    all_goals rfl
theorem dec_l3 {b : By} (hb : ByteR b) : LoopOk Try.prog 1 (loopAt Try.f70 2) (decL3 b) := by
  refine loop_any mixed FDB_ok (by kernel_rfl) (fun x : Nat × Nat × Nat × Nat × Nat × By => x.2.2.2.1 - x.2.2.2.2.1) (fun (x : Nat × Nat × Nat × Nat × Nat × By) hx => ?_)
  obtain ⟨t, p, a, c, j, m⟩ := x
  obtain ⟨h0, h1, h2, h3, h4, h5⟩ : t ≤ 255 ∧ p ≤ 100000 ∧ a ≤ 100000 ∧ c ≤ 255 ∧ j ≤ c ∧ SzR m.length := hx
  have hs := atB_in hb (p + j)
  refine ⟨decX b, vc_by (vc_dec_r3_eq b t p a c j m) ⟨fun q => ?_, fun q => ?_⟩⟩
  · have q : ((c - j : Nat) : Int) > 0 := of_decide_eq_true q
    have e1 : IntKind.i64.wrap (((a + j : Nat) : Int) + 1) = ((a + (j + 1) : Nat) : Int) := by rw [wrap_i64_in (by omega) (by omega)]; omega
    have e2 : IntKind.i64.wrap (((c - j : Nat) : Int) - 1) = ((c - (j + 1) : Nat) : Int) := by rw [wrap_i64_in (by omega) (by omega)]; omega
    have e3 : adv b.length (adv b.length 0 (p + j)) 1 = adv b.length 0 (p + (j + 1)) := by rw [adv_to]; congr 1
    have e4 : 0 + ((a + j : Nat) : Int).toNat = a + j := by omega
    have e5 : IntKind.u8.wrap (atB b (p + j)) = atB b (p + j) := by rw [wrap_u8]; omega
    rw [e1, e2, e3, e4, atB_to, e5]
    refine ⟨⟨adv_le _ _ _, rfl, hb⟩, fun r => ?_, fun r => ?_⟩
    · have r : ((a + j : Nat) : Int) < ((wrS b p a j m).length : Int) := of_decide_eq_true r
      have e6 : wrS b p a (j + 1) m = (wrS b p a j m).set (a + j) (atB b (p + j)) := by
        rw [wrS]; exact if_pos (by omega)
      refine ⟨⟨by omega, r⟩, by omega, (t, p, a, c, j + 1, m), ?_, ⟨h0, h1, h2, h3, by show j + 1 ≤ c; omega, h5⟩, by show c - (j + 1) < c - j; omega, fun z hz => hz⟩
      show _ ∧ _
      dsimp only
      rw [e6, List.length_set]
      repeat' apply And.intro
      all_goals rfl
    · have r : ¬ ((a + j : Nat) : Int) < ((wrS b p a j m).length : Int) := of_decide_eq_false r
      have e6 : wrS b p a (j + 1) m = wrS b p a j m := by
        rw [wrS]; exact if_neg (by omega)
      refine ⟨(t, p, a, c, j + 1, m), ?_, ⟨h0, h1, h2, h3, by show j + 1 ≤ c; omega, h5⟩, by show c - (j + 1) < c - j; omega, fun z hz => hz⟩
      show _ ∧ _
      dsimp only
      rw [e6]
      repeat' apply And.intro
      all_goals rfl
  · have q : ¬ ((c - j : Nat) : Int) > 0 := of_decide_eq_false q
    have : j = c := by omega
    subst this
    refine ⟨(t, p + j, wrS b p a j m), ?_, rfl, rfl, rfl⟩
    repeat' apply And.intro
    all_goals rfl
theorem dec_l2 {b : By} (hb : ByteR b) : LoopOk Try.prog 1 (loopAt Try.f70 1) (decL2 b) := by
  refine loop_sound (Ξ := decX b) mixed FDB_ok (fun c hc k L hk hL => ?_) (fun x : Nat × Nat × By => x.1) (fun (x : Nat × Nat × By) hx => ?_)
  · have e : loopsOf (loopAt Try.f70 1) = [loopAt Try.f70 2] := by kernel_rfl
    rw [e] at hc
    have e := List.mem_singleton.1 hc
    subst e
    have hk2 : keyOf (loopAt Try.f70 2) = some 27 := by kernel_rfl
    rw [hk2] at hk
    cases hk
    have : (decX b).loop 27 = some (decL3 b) := rfl
    rw [this] at hL
    cases hL
    exact dec_l3 hb
  · obtain ⟨t, p, m⟩ := x
    obtain ⟨h0, h1, h2, h3, h4⟩ : t ≤ 255 ∧ p ≤ 88 + 258 * (255 - t) ∧ m.length = dSize b ∧ ByteR m ∧ runsB b t (p, m) = dEnd b := hx
    have key : vc_dec_r2 b t p m := by
      have a0 := atB_in hb p
      have a1 := atB_in hb (p + 1)
      have a2 := atB_in hb (p + 2)
      refine vc_by (vc_dec_r2_eq b t p m) ⟨fun q => ?_, fun q => ?_⟩
      · have q : (t : Int) > 0 := of_decide_eq_true q
        obtain ⟨t', rfl⟩ : ∃ t', t = t' + 1 := ⟨t - 1, by omega⟩
        have e1 : adv b.length (adv b.length 0 p) (Int.toNat 2) = adv b.length 0 (p + 2) := adv_to _ _ _
        have e2 : adv b.length (adv b.length 0 (p + 2)) 1 = adv b.length 0 (p + 3) := adv_to _ _ _
        have e3 : bytsB b (adv b.length 0 p) (Int.toNat 2) = bytsB b p 2 := bytsB_to _ _
        have e4 : numM (bytsB b p 2) = (((atB b p + 256 * atB b (p + 1)).toNat : Nat) : Int) := by rw [num2 hb]; omega
        have e5 : IntKind.i64.wrap (((atB b p + 256 * atB b (p + 1)).toNat : Nat) : Int) = (((atB b p + 256 * atB b (p + 1)).toNat : Nat) : Int) := wrap_i64_in (by omega) (by omega)
        rw [e1, e2, e3, e4, e5, atB_to]
        refine ⟨⟨adv_le _ _ _, rfl, hb, by decide, by decide⟩, ⟨adv_le _ _ _, rfl, hb⟩, (t' + 1, p + 3, (atB b p + 256 * atB b (p + 1)).toNat, (atB b (p + 2)).toNat, 0, m), ?_, ⟨h0, by show p + 3 ≤ 100000; omega, by show (atB b p + 256 * atB b (p + 1)).toNat ≤ 100000; omega, by show (atB b (p + 2)).toNat ≤ 255; omega, Nat.zero_le _, h3.1⟩, ?_⟩
        · have e7 : (((atB b (p + 2)).toNat - 0 : Nat) : Int) = atB b (p + 2) := by omega
          dsimp only
          rw [e7]
          repeat' apply And.intro
          all_goals rfl
        · rintro ⟨z1, z2, z3⟩ ⟨rfl, rfl, rfl⟩
          dsimp only
          have e8 : IntKind.i64.wrap (((t' + 1 : Nat) : Int) - 1) = (t' : Int) := by rw [wrap_i64_in (by omega) (by omega)]; omega
          rw [e8]
          refine ⟨(t', p + 3 + (atB b (p + 2)).toNat, wrS b (p + 3) (atB b p + 256 * atB b (p + 1)).toNat (atB b (p + 2)).toNat m), ?_, ⟨by show t' ≤ 255; omega, by show p + 3 + (atB b (p + 2)).toNat ≤ 88 + 258 * (255 - t'); omega, by rw [wrS_len]; exact h2, wrS_in hb _ _ _ h3, h4⟩, by show t' < t' + 1; omega, fun _ _ => trivial⟩
          repeat' apply And.intro
          all_goals rfl
      · have q : ¬ (t : Int) > 0 := of_decide_eq_false q
        have : t = 0 := by omega
        subst this
        have e1 : (runsB b (atB b 87).toNat (88, List.replicate (dSize b) 0)).1 = p := by
          show (dEnd b).1 = p; rw [← h4]; rfl
        have e2 : (runsB b (atB b 87).toNat (88, List.replicate (dSize b) 0)).2 = m := by
          show (dEnd b).2 = m; rw [← h4]; rfl
        rw [e1, e2]
        refine ⟨(), ?_, trivial⟩
        repeat' apply And.intro
        all_goals rfl
    unfold vc_dec_r2 vcRound at key
    exact key
theorem dec_l4 {b : By} (hb : ByteR b) : LoopOk Try.prog 1 (loopAt Try.f70 3) (decL4 b) := by
  refine loop_any mixed FDB_ok (by kernel_rfl) (fun k : Nat => (dN b).toNat - k) (fun (k : Nat) hk => ⟨decX b, vc_by (vc_dec_r4_eq b k) ?_⟩)
  have hk : (k : Int) ≤ dN b := hk
  have hn := dN_in hb
  have hp := (dEnd_ok hb).1
  unfold dEnd at hp
  generalize (runsB b (atB b 87).toNat (88, List.replicate (dSize b) 0)) = z at hp ⊢
  refine ⟨fun q => ?_, fun q => ?_⟩
  · have q : (k : Int) < dN b := of_decide_eq_true q
    have e1 : IntKind.u64.wrap ((k : Int) + 1) = ((k + 1 : Nat) : Int) := by rw [wrap_u64_in (by omega) (by omega)]; omega
    have e2 : adv b.length (adv b.length 0 (z.1 + k)) 1 = adv b.length 0 (z.1 + (k + 1)) := adv_to _ _ _
    rw [e1, e2, atB_to]
    refine ⟨⟨adv_le _ _ _, rfl, hb⟩, ⟨Nat.le_refl 1, Nat.le_of_eq (bytsB_length _ _ _).symm, by show k + 1 ≤ _; omega⟩, k + 1, ?_, by omega, by omega, fun _ _ => trivial⟩
    have e3 : bytsB b z.1 (k + 1) = List.take k (bytsB b z.1 k) ++ List.take 1 (List.drop 0 [atB b (z.1 + k)]) := by
      rw [bytsB_succ, List.take_of_length_le (Nat.le_of_eq (bytsB_length _ _ _))]
      rfl
    rw [e3]
    repeat' apply And.intro
    all_goals rfl
  · have q : ¬ (k : Int) < dN b := of_decide_eq_false q
    have : (dN b).toNat = k := by omega
    rw [this]
    refine ⟨(), ?_, trivial⟩
    repeat' apply And.intro
    all_goals rfl
theorem sum_bit {x : Int} (h0 : 0 ≤ x) (h1 : x < 256) : (bits .and .i64 x 4 != 0) = (x / 4 % 2 == 1) ∧ (bits .and .i64 x 8 != 0) = (x / 8 % 2 == 1) := by
  have key : (List.range 256).all (fun n => (bits .and .i64 (n : Int) 4 != 0) == ((n : Int) / 4 % 2 == 1) && (bits .and .i64 (n : Int) 8 != 0) == ((n : Int) / 8 % 2 == 1)) = true := by kernel_rfl
  have := List.all_eq_true.1 key x.toNat (List.mem_range.2 (by omega))
  rw [show ((x.toNat : Nat) : Int) = x by omega] at this
  obtain ⟨a, c⟩ := Bool.and_eq_true_iff.mp this
  exact ⟨eq_of_beq a, eq_of_beq c⟩
theorem dec_loops {b : By} (hb : ByteR b) : ∀ c ∈ loopsOf (bodyOf Try.f70), ∀ k L, keyOf c = some k → (decX b).loop k = some L → LoopOk Try.prog 1 c L := by
  intro c hc k L hk hL
  have e : loopsOf (bodyOf Try.f70) = [loopAt Try.f70 0, loopAt Try.f70 1, loopAt Try.f70 2, loopAt Try.f70 3] := by kernel_rfl
  rw [e] at hc
  rcases List.mem_cons.1 hc with rfl | hc
  · have hk2 : keyOf (loopAt Try.f70 0) = some 19 := by kernel_rfl
    rw [hk2] at hk
    cases hk
    have : (decX b).loop 19 = some (decL1 b) := rfl
    rw [this] at hL
    cases hL
    exact dec_l1 hb
  rcases List.mem_cons.1 hc with rfl | hc
  · have hk2 : keyOf (loopAt Try.f70 1) = some 23 := by kernel_rfl
    rw [hk2] at hk
    cases hk
    have : (decX b).loop 23 = some (decL2 b) := rfl
    rw [this] at hL
    cases hL
    exact dec_l2 hb
  rcases List.mem_cons.1 hc with rfl | hc
  · have hk2 : keyOf (loopAt Try.f70 2) = some 27 := by kernel_rfl
    rw [hk2] at hk
    cases hk
    have : (decX b).loop 27 = some (decL3 b) := rfl
    rw [this] at hL
    cases hL
    exact dec_l3 hb
  · have e := List.mem_singleton.1 hc
    subst e
    have hk2 : keyOf (loopAt Try.f70 3) = some 34 := by kernel_rfl
    rw [hk2] at hk
    cases hk
    have : (decX b).loop 34 = some (decL4 b) := rfl
    rw [this] at hL
    cases hL
    exact dec_l4 hb
theorem dec_ok : Sound Try.prog 70 (pureS [byP] [scP] (fun b => some (ByteR b)) decM) := by
  refine pure_of mixed (fn := Try.f70) Try.func70 (by kernel_rfl) FDB_ok (fun (b : By) (hb : ByteR b) => ⟨decX b, dec_loops hb, vc_by (vc_dec_eq b) ?_⟩)
  have a3 := atB_in hb 3
  have a4 := atB_in hb 4
  have a87 := atB_in hb 87
  have hS := sum_bit a4.1 a4.2
  have hd := dSize_in hb
  have hn := dN_in hb
  have t3 : (atB b 3).tmod 64 = atB b 3 % 64 := tmod_pos a3.1
  have w3 : IntKind.i64.wrap (1 + atB b 3 % 64) = 1 + atB b 3 % 64 := wrap_i64_in (by omega) (by omega)
  have w4 : IntKind.i64.wrap (64 * (1 + atB b 3 % 64)) = (dSize b : Int) := by rw [wrap_i64_in (by omega) (by omega)]; exact hd.1
  have t4 : (atB b 4).tmod 4 = atB b 4 % 4 := tmod_pos a4.1
  have c4 : (if 3 < atB b 4 % 4 then (3 : Int) else atB b 4 % 4) = atB b 4 % 4 := if_neg (by omega)
  have u2 := bytsB_num hb 5 2
  have hx : (if 20000 < numM (bytsB b 5 2) then (20000 : Int) else numM (bytsB b 5 2)) = dN b := by
    unfold dN
    split <;> omega
  have u15 := bytsB_u64 hb 15 (Nat.le_refl 8)
  have hv : bits .andNot .u64 (numM (bytsB b 15 8)) 3 = dTvec b := by
    have := andNot_mask 2 (by decide) u15.1 u15.2
    rw [show (2 : Int) ^ 2 - 1 = 3 by decide, show (2 : Int) ^ 2 = 4 by decide] at this
    rw [this]
    unfold dTvec
    omega
  have z0 : List.replicate (dSize b) (El.zero [Ty.i .u8]) = List.replicate (dSize b) (0 : Int) := rfl
  have x1 : adv b.length (adv b.length 0 1) 1 = adv b.length 0 2 := adv_to _ _ _
  have x2 : adv b.length (adv b.length 0 2) 1 = adv b.length 0 3 := adv_to _ _ _
  have x3 : adv b.length (adv b.length 0 3) 1 = adv b.length 0 4 := adv_to _ _ _
  have x4 : adv b.length (adv b.length 0 4) 1 = adv b.length 0 5 := adv_to _ _ _
  have x5 : adv b.length (adv b.length 0 5) (Int.toNat 2) = adv b.length 0 7 := adv_to _ _ _
  have x6 : adv b.length (adv b.length 0 7) (Int.toNat 8) = adv b.length 0 15 := adv_to _ _ _
  have x7 : adv b.length (adv b.length 0 15) (Int.toNat 8) = adv b.length 0 23 := adv_to _ _ _
  have x8 : adv b.length (adv b.length 0 23) (Int.toNat 8) = adv b.length 0 31 := adv_to _ _ _
  have x9 : adv b.length (adv b.length 0 87) 1 = adv b.length 0 88 := adv_to _ _ _
  have y5 : bytsB b (adv b.length 0 5) (Int.toNat 2) = bytsB b 5 2 := bytsB_to _ _
  have y7 : bytsB b (adv b.length 0 7) (Int.toNat 8) = bytsB b 7 8 := bytsB_to _ _
  have y15 : bytsB b (adv b.length 0 15) (Int.toNat 8) = bytsB b 15 8 := bytsB_to _ _
  have y23 : bytsB b (adv b.length 0 23) (Int.toNat 8) = bytsB b 23 8 := bytsB_to _ _
  have hend := dEnd_ok hb
  rw [x1, x2, x3, x4, x5, x6, x7, x8, x9, y5, y7, y15, y23, atB_to 1, atB_to 2, atB_to 3, atB_to 4, atB_to 87, t3, w3, w4, t4, c4, hx, hv, hS.1, hS.2]
  refine ⟨⟨Nat.zero_le _, rfl, hb⟩, ⟨adv_le _ _ _, rfl, hb⟩, ⟨adv_le _ _ _, rfl, hb⟩, ⟨adv_le _ _ _, rfl, hb⟩, by decide, ⟨by omega, Int.le_refl _, by omega⟩, (), ?_, ⟨adv_le _ _ _, rfl, hb⟩, by decide, fun z => z = dMode b, ⟨fun q => ⟨1, ?_, ?_⟩, fun q => ⟨atB b 4 % 4, ?_, ?_⟩⟩, fun z hz => ?_⟩
  · repeat' apply And.intro
    all_goals rfl
  · repeat' apply And.intro
    all_goals rfl
  · have q : atB b 4 % 4 = 3 := eq_of_beq q
    show 1 = dMode b
    unfold dMode
    rw [if_pos q]
  · repeat' apply And.intro
    all_goals rfl
  · have q : ¬ atB b 4 % 4 = 3 := ne_of_beq_false q
    show _ = dMode b
    unfold dMode
    rw [if_neg q]
  subst hz
  refine ⟨(), ?_, ⟨adv_le _ _ _, rfl, hb, by decide, by decide⟩, ⟨adv_le _ _ _, rfl, hb, by decide, by decide⟩, ⟨adv_le _ _ _, rfl, hb, by decide, by decide⟩, ⟨adv_le _ _ _, rfl, hb, by decide, by decide⟩, bytsB_u64 hb 23 (Nat.le_refl 8), fun z => z = dSatp b, ⟨fun q => ⟨numM (bytsB b 23 8), ?_, ?_⟩, fun q => ⟨0, ?_, ?_⟩⟩, fun z hz => ?_⟩
  · repeat' apply And.intro
    all_goals rfl
  · repeat' apply And.intro
    all_goals rfl
  · show _ = dSatp b
    unfold dSatp
    rw [if_pos q]
  · repeat' apply And.intro
    all_goals rfl
  · show _ = dSatp b
    unfold dSatp
    rw [if_neg (by rw [q]; decide)]
  subst hz
  refine ⟨⟨by decide, by decide, by decide⟩, 1, ?_, ⟨Nat.le_refl 1, by decide⟩, fun _ _ => ⟨⟨adv_le _ _ _, rfl, hb⟩, ((atB b 87).toNat, 88, List.replicate (dSize b) 0), ?_, ⟨by show (atB b 87).toNat ≤ 255; omega, by show 88 ≤ 88 + _; omega, List.length_replicate, rep0_in hd.2, rfl⟩, fun _ _ => ⟨0, ?_, hn.1, fun _ _ => ?_⟩⟩⟩
  · rw [List.length_replicate, regsP_one]
    repeat' apply And.intro
    all_goals rfl
  · have e : (((atB b 87).toNat : Nat) : Int) = atB b 87 := by omega
    dsimp only
    rw [e]
    repeat' apply And.intro
    all_goals rfl
  · rw [Nat.add_zero]
    repeat' apply And.intro
    all_goals rfl
  · rw [bytsB_length, regsP_length, List.length_replicate, List.length_replicate, List.length_replicate]
    repeat' apply And.intro
    all_goals rfl
end Go.Proofs.Ytfiddfbagbaofaa.V
