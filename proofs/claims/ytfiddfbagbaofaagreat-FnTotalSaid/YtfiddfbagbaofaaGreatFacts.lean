/- The facts of the given program that each row of this seat asks, each reckoned once by the kernel. Conditions: none. -/
import Derived.Test.YtfiddfbagbaofaaGreatRows
import Derived.JoinedOf
import Derived.KernelRfl
namespace Go.Proofs.YtfiddfbagbaofaaGreat.Facts
open Go
/-- The signs of the program's head. -/
def io : List Char := [104, 97, 114, 110, 101, 115, 115, 32, 57, 53, 100, 100, 50, 55, 55, 50, 49, 54, 52, 99, 100, 101, 98, 102, 55, 55, 56, 49, 52, 97, 56, 101, 97, 51, 97, 49, 54, 48, 57, 98, 97, 48, 99, 101, 97, 100, 56, 54, 53, 49, 51, 56, 98, 54, 53, 98, 97, 50, 56, 55, 51, 54, 54, 97, 54, 97, 57, 51, 51, 57, 57, 55, 32, 99, 117, 116, 32, 97, 116, 32, 108, 111, 111, 112, 46, 101, 120, 97, 109, 112, 108, 101, 47, 115, 48, 48, 53, 49, 47, 108, 97, 119, 115, 46, 70, 110, 84, 111, 112, 32, 108, 111, 111, 112, 46, 101, 120, 97, 109, 112, 108, 101, 47, 115, 48, 48, 53, 49, 47, 108, 97, 119, 115, 46, 70, 110, 84, 111, 116, 97, 108, 32, 108, 111, 111, 112, 46, 101, 120, 97, 109, 112, 108, 101, 47, 115, 48, 48, 53, 49, 47, 108, 97, 119, 115, 46, 70, 110, 67, 97, 99, 104, 101, 76, 105, 102, 101, 32, 108, 111, 111, 112, 46, 101, 120, 97, 109, 112, 108, 101, 47, 115, 48, 48, 53, 49, 47, 108, 97, 119, 115, 46, 70, 110, 69, 120, 97, 99, 116, 68, 105, 115, 99, 105, 112, 108, 105, 110, 101, 100, 32, 108, 111, 111, 112, 46, 101, 120, 97, 109, 112, 108, 101, 47, 115, 48, 48, 53, 49, 47, 108, 97, 119, 115, 46, 70, 110, 69, 120, 97, 99, 116, 82, 117, 110, 66, 121, 116, 101, 115, 32, 108, 111, 111, 112, 46, 101, 120, 97, 109, 112, 108, 101, 47, 115, 48, 48, 53, 49, 47, 108, 97, 119, 115, 46, 70, 110, 71, 114, 97, 110, 116, 32, 108, 111, 111, 112, 46, 101, 120, 97, 109, 112, 108, 101, 47, 115, 48, 48, 53, 49, 47, 108, 97, 119, 115, 46, 70, 110, 67, 111, 108, 100, 32, 108, 111, 111, 112, 46, 101, 120, 97, 109, 112, 108, 101, 47, 115, 48, 48, 53, 49, 47, 108, 97, 119, 115, 46, 70, 110, 70, 101, 110, 99, 101, 32, 108, 111, 111, 112, 46, 101, 120, 97, 109, 112, 108, 101, 47, 115, 48, 48, 53, 49, 47, 108, 97, 119, 115, 46, 70, 110, 69, 120, 97, 99, 116, 83, 116, 101, 112, 72, 97, 114, 116, 32, 108, 111, 111, 112, 46, 101, 120, 97, 109, 112, 108, 101, 47, 115, 48, 48, 53, 49, 47, 108, 97, 119, 115, 46, 70, 110, 83, 116, 111, 111, 100, 32, 108, 111, 111, 112, 46, 101, 120, 97, 109, 112, 108, 101, 47, 115, 48, 48, 53, 49, 47, 108, 97, 119, 115, 46, 70, 110, 83, 116, 101, 112, 115, 32, 108, 111, 111, 112, 46, 101, 120, 97, 109, 112, 108, 101, 47, 115, 48, 48, 53, 49, 47, 108, 97, 119, 115, 46, 70, 110, 79, 102, 102, 32, 108, 111, 111, 112, 46, 101, 120, 97, 109, 112, 108, 101, 47, 115, 48, 48, 53, 49, 47, 108, 97, 119, 115, 46, 70, 110, 80, 105, 99, 107, 115].map Char.ofNat
theorem io_is : Tryz.prog.initOrder = String.ofList io := by kernel_rfl
theorem io_eq : Tryz.prog.initOrder.toList = io := (congrArg String.toList io_is).trans String.toList_ofList
theorem laid : laidOutB Tryz.prog = true := by kernel_rfl
theorem maps : mapsRowed Tryz.prog = true := by kernel_rfl
theorem heard : Tryz.prog.stopsHeard = true := by kernel_rfl
def cutw : List Char := [99, 117, 116].map Char.ofNat
def rest : List (List Char) := [[97, 116].map Char.ofNat, [108, 111, 111, 112, 46, 101, 120, 97, 109, 112, 108, 101, 47, 115, 48, 48, 53, 49, 47, 108, 97, 119, 115, 46, 70, 110, 84, 111, 112].map Char.ofNat, [108, 111, 111, 112, 46, 101, 120, 97, 109, 112, 108, 101, 47, 115, 48, 48, 53, 49, 47, 108, 97, 119, 115, 46, 70, 110, 84, 111, 116, 97, 108].map Char.ofNat, [108, 111, 111, 112, 46, 101, 120, 97, 109, 112, 108, 101, 47, 115, 48, 48, 53, 49, 47, 108, 97, 119, 115, 46, 70, 110, 67, 97, 99, 104, 101, 76, 105, 102, 101].map Char.ofNat, [108, 111, 111, 112, 46, 101, 120, 97, 109, 112, 108, 101, 47, 115, 48, 48, 53, 49, 47, 108, 97, 119, 115, 46, 70, 110, 69, 120, 97, 99, 116, 68, 105, 115, 99, 105, 112, 108, 105, 110, 101, 100].map Char.ofNat, [108, 111, 111, 112, 46, 101, 120, 97, 109, 112, 108, 101, 47, 115, 48, 48, 53, 49, 47, 108, 97, 119, 115, 46, 70, 110, 69, 120, 97, 99, 116, 82, 117, 110, 66, 121, 116, 101, 115].map Char.ofNat, [108, 111, 111, 112, 46, 101, 120, 97, 109, 112, 108, 101, 47, 115, 48, 48, 53, 49, 47, 108, 97, 119, 115, 46, 70, 110, 71, 114, 97, 110, 116].map Char.ofNat, [108, 111, 111, 112, 46, 101, 120, 97, 109, 112, 108, 101, 47, 115, 48, 48, 53, 49, 47, 108, 97, 119, 115, 46, 70, 110, 67, 111, 108, 100].map Char.ofNat, [108, 111, 111, 112, 46, 101, 120, 97, 109, 112, 108, 101, 47, 115, 48, 48, 53, 49, 47, 108, 97, 119, 115, 46, 70, 110, 70, 101, 110, 99, 101].map Char.ofNat, [108, 111, 111, 112, 46, 101, 120, 97, 109, 112, 108, 101, 47, 115, 48, 48, 53, 49, 47, 108, 97, 119, 115, 46, 70, 110, 69, 120, 97, 99, 116, 83, 116, 101, 112, 72, 97, 114, 116].map Char.ofNat, [108, 111, 111, 112, 46, 101, 120, 97, 109, 112, 108, 101, 47, 115, 48, 48, 53, 49, 47, 108, 97, 119, 115, 46, 70, 110, 83, 116, 111, 111, 100].map Char.ofNat, [108, 111, 111, 112, 46, 101, 120, 97, 109, 112, 108, 101, 47, 115, 48, 48, 53, 49, 47, 108, 97, 119, 115, 46, 70, 110, 83, 116, 101, 112, 115].map Char.ofNat, [108, 111, 111, 112, 46, 101, 120, 97, 109, 112, 108, 101, 47, 115, 48, 48, 53, 49, 47, 108, 97, 119, 115, 46, 70, 110, 79, 102, 102].map Char.ofNat, [108, 111, 111, 112, 46, 101, 120, 97, 109, 112, 108, 101, 47, 115, 48, 48, 53, 49, 47, 108, 97, 119, 115, 46, 70, 110, 80, 105, 99, 107, 115].map Char.ofNat]
theorem words : behindMainWord (wordsSigns io) = cutw :: rest := by kernel_rfl
theorem strip : stripLifts liftWords (cutw :: rest) = ([], cutw :: rest) := by kernel_rfl
theorem isCut : (some cutw == some "cut".toList) = true := by kernel_rfl
theorem lifts0 (P : Program) (h : P.initOrder.toList = io) : P.headLifts = [] := by unfold Program.headLifts; rw [h, words, strip]; kernel_rfl
theorem lifts : Tryz.prog.headLifts = [] := lifts0 _ io_eq
theorem later : Tryz.prog.laysLater = false := by kernel_rfl
theorem reflects : Tryz.prog.bearsReflect = false := by kernel_rfl
theorem door : Tryz.prog.doorFits [] = true := by kernel_rfl
theorem enter0 (P : Program) (h : P.initOrder.toList = io) (later : P.laysLater = false) (refls : P.bearsReflect = false) (door : P.doorFits [] = true) : P.mayEnter = true := by
  unfold Program.mayEnter
  rw [h, words]
  simp only [strip, later, refls, door, List.head?_cons, isCut, List.contains_nil, Bool.not_false, Bool.or_true, Bool.and_true]
theorem enter : Tryz.prog.mayEnter = true := enter0 _ io_eq later reflects door
theorem not_carried2 : (some cutw == some "carried".toList) = false := by kernel_rfl
theorem final0 (P : Program) (h : P.initOrder.toList = io) : P.liftsFinal = false := by
  unfold Program.liftsFinal
  rw [h, words, lifts0 P h]
  simp only [List.head?_cons, not_carried2, Bool.false_and, List.contains_nil, Bool.or_self]
theorem final : Tryz.prog.liftsFinal = false := final0 _ io_eq
theorem made0 (P : Program) (h : P.initOrder.toList = io) : P.make = some .cut := by
  unfold Program.make
  rw [h, words]
  generalize P.headLifts = x
  kernel_rfl
theorem made : Tryz.prog.make = some .cut := made0 _ io_eq
theorem own : ownKnob Tryz.prog.godebug = none := by kernel_rfl
end Go.Proofs.YtfiddfbagbaofaaGreat.Facts
