/- Draws of memories, second part, answer as their models. Conditions: those in each statement. -/
import Derived.Test.YtfiddfbagbaofaaGQ
import Derived.KernelRfl
namespace Go.Proofs.Ytfiddfbagbaofaa.V
open Go
def FQ1 : Dict := mkD [(184, byteS)] [] []
def vc_belowT (m : By) (i h n : Int) : Prop := vcAt Try.prog FQ1 .none Try.f105 [.ptr 0 0, .v (.int .i64 n)] [.fix (curA m.length i h) true (some 234), .arr [.i .u8] m true] (.v (.int .i64 (byM m i h % n))) [.fix (curA m.length (iN m.length i) (hN h)) true (some 234), .arr [.i .u8] m true]
def vc_belowF (m : By) (i h n : Int) : Prop := vcAt Try.prog FQ1 .none Try.f105 [.ptr 0 0, .v (.int .i64 n)] [.fix (curA m.length i h) true (some 234), .arr [.i .u8] m false] (.v (.int .i64 (byM m i h % n))) [.fix (curA m.length (iN m.length i) (hN h)) true (some 234), .arr [.i .u8] m false]
def belowS : Sum := fun args H => match args, H with
  | [.ptr 0 0, .v (.int .i64 k)], [.fix [.sl 1 1 0 n, .v (.int .i64 i), .v (.int .i64 h)] true (some 234), .arr sh m o] =>
    if e : sh = [.i .u8] then some (some (n = (e ▸ m : List (El [.i .u8])).length ∧ CurR (e ▸ m : List (El [.i .u8])) i ∧ 1 ≤ k ∧ k ≤ 256), .v (.int .i64 (byM (e ▸ m : List (El [.i .u8])) i h % k)), [.fix (curA n (iN n i) (hN h)) true (some 234), .arr [.i .u8] (e ▸ m : List (El [.i .u8])) o]) else none
  | _, _ => none
end Go.Proofs.Ytfiddfbagbaofaa.V
namespace Go.Proofs.Ytfiddfbagbaofaa.V
open Go
set_option linter.unusedVariables false
theorem vc_belowT_eq (m : By) (i h n : Int) : vc_belowT m i h n = (
 (decide (n ≤ (256 : Int)) = true →
     (List.length m = List.length m ∧ CurR m i) ∧
       n ≠ (0 : Int) ∧ byM m i h % n = (byM m i h).tmod n ∧ (0 : Nat) = (0 : Nat) ∧ List.length m = List.length m ∧ iN (List.length m) i = iN (List.length m) i ∧ hN h = hN h ∧ m = m) ∧
   (decide (n ≤ (256 : Int)) = false →
     (List.length m = List.length m ∧ CurR m i) ∧
       (List.length m = List.length m ∧ CurR m (iN (List.length m) i)) ∧
         (List.length m = List.length m ∧ CurR m (iN (List.length m) (iN (List.length m) i))) ∧
           n ≠ (0 : Int) ∧
             byM m i h % n =
                 (IntKind.i64.wrap
                       (IntKind.i64.wrap (IntKind.i64.wrap (byM m i h * (65536 : Int)) + IntKind.i64.wrap (byM m (iN (List.length m) i) (hN h) * (256 : Int))) +
                         byM m (iN (List.length m) (iN (List.length m) i)) (hN (hN h)))).tmod
                   n ∧
               (0 : Nat) = (0 : Nat) ∧ List.length m = List.length m ∧ iN (List.length m) i = iN (List.length m) (iN (List.length m) (iN (List.length m) i)) ∧ hN h = hN (hN (hN h)) ∧ m = m)) := by kernel_rfl
theorem vc_belowF_eq (m : By) (i h n : Int) : vc_belowF m i h n = (
 (decide (n ≤ (256 : Int)) = true →
     (List.length m = List.length m ∧ CurR m i) ∧
       n ≠ (0 : Int) ∧ byM m i h % n = (byM m i h).tmod n ∧ (0 : Nat) = (0 : Nat) ∧ List.length m = List.length m ∧ iN (List.length m) i = iN (List.length m) i ∧ hN h = hN h ∧ m = m) ∧
   (decide (n ≤ (256 : Int)) = false →
     (List.length m = List.length m ∧ CurR m i) ∧
       (List.length m = List.length m ∧ CurR m (iN (List.length m) i)) ∧
         (List.length m = List.length m ∧ CurR m (iN (List.length m) (iN (List.length m) i))) ∧
           n ≠ (0 : Int) ∧
             byM m i h % n =
                 (IntKind.i64.wrap
                       (IntKind.i64.wrap (IntKind.i64.wrap (byM m i h * (65536 : Int)) + IntKind.i64.wrap (byM m (iN (List.length m) i) (hN h) * (256 : Int))) +
                         byM m (iN (List.length m) (iN (List.length m) i)) (hN (hN h)))).tmod
                   n ∧
               (0 : Nat) = (0 : Nat) ∧ List.length m = List.length m ∧ iN (List.length m) i = iN (List.length m) (iN (List.length m) (iN (List.length m) i)) ∧ hN h = hN (hN (hN h)) ∧ m = m)) := by kernel_rfl
end Go.Proofs.Ytfiddfbagbaofaa.V
namespace Go.Proofs.Ytfiddfbagbaofaa.V
open Go
set_option linter.unusedSimpArgs false
theorem FQ1_ok : DictOk Try.prog FQ1 := mkD_ok (.cons (by kernel_rfl) byte_ok .nil) .nil .nil
theorem below_ok : Sound Try.prog 105 belowS := by
  refine sound_plain mixed Try.func105 (by kernel_rfl) (by kernel_rfl) FQ1_ok (fun args H p v H' h hp => ?_)
  unfold belowS at h
  split at h
  case h_2 => cases h
  rename_i k n i hh sh m o
  split at h
  case isFalse => cases h
  rename_i hsh
  subst hsh
  simp only [Option.some.injEq, Prod.mk.injEq] at h
  obtain ⟨rfl, rfl, rfl⟩ := h
  obtain ⟨rfl, hc, k1, k2⟩ : n = m.length ∧ CurR m i ∧ 1 ≤ k ∧ k ≤ 256 := hp
  have e := tmod_pos (y := k) (byM_in m i hh).1
  cases o with
  | true => exact ⟨.none, vc_by (vc_belowT_eq m i hh k) ⟨fun _ => ⟨⟨rfl, hc⟩, by omega, e.symm, rfl, rfl, rfl, rfl, rfl⟩, fun q => absurd k2 (of_decide_eq_false q)⟩⟩
  | false => exact ⟨.none, vc_by (vc_belowF_eq m i hh k) ⟨fun _ => ⟨⟨rfl, hc⟩, by omega, e.symm, rfl, rfl, rfl, rfl, rfl⟩, fun q => absurd k2 (of_decide_eq_false q)⟩⟩
end Go.Proofs.Ytfiddfbagbaofaa.V
