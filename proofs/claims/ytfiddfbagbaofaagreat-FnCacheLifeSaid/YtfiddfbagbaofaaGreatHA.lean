/- Harts that are valid answer as their model; the law on them returns true. Conditions: those in each statement. -/
import Derived.Test.YtfiddfbagbaofaaGreatGY
import Derived.KernelRfl
namespace Go.Proofs.YtfiddfbagbaofaaGreat.V
open Go
abbrev Us := List Int
abbrev haC : List Cs := [.sl [.i .u8], .sl [.i .u64], .i .u64, .i .i64, .b, .b, .i .u64, .i .u64, .i .u64, .i .i64, .i .i64, .i .u64, .i .i64, .i .i64, .sl shE, .i .i64, .i .i64, .sl shE, .i .i64, .i .i64, .sl shE]
abbrev haP : Pm := .st haC
abbrev Ha := By × Us × Int × Int × Bool × Bool × Int × Int × Int × Int × Int × Int × Cf
def zeh (s : Int) : Bool := s / 1152921504606846976 == 0 || s / 1152921504606846976 == 8
def HaR (h : Ha) : Prop := zaq h.1 ∧ SzR h.2.1.length ∧ (∀ r ∈ h.2.1, U64 r) ∧ U64 h.2.2.1 ∧ I64 h.2.2.2.1 ∧ U64 h.2.2.2.2.2.2.1 ∧ U64 h.2.2.2.2.2.2.2.1 ∧ U64 h.2.2.2.2.2.2.2.2.1 ∧ I64 h.2.2.2.2.2.2.2.2.2.1 ∧ I64 h.2.2.2.2.2.2.2.2.2.2.1 ∧ U64 h.2.2.2.2.2.2.2.2.2.2.2.1 ∧ ChR (toC h.2.2.2.2.2.2.2.2.2.2.2.2)
def zz4 (s : Int) : Prop := zan Tryz.prog FE3 .none Tryz.f80 [u64] [bl] s (zeh s)
def kHA1 : Known := [
 (80, zag [u64] [bl] (fun s => some (U64 s)) zeh),
 ]
def SzH (h : Ha) : Prop := SzR h.1.length ∧ SzR h.2.1.length ∧ SzC (toC h.2.2.2.2.2.2.2.2.2.2.2.2)
set_option linter.unusedVariables false
theorem zp0 (s : Int) : zz4 s = (
 zhf (s, (60 : Int), (63 : Int)) ∧ ((!zdz s (60 : Int) (63 : Int) == (0 : Int)) = true → zhf (s, (60 : Int), (63 : Int))) ∧ zeh s = bif zdz s (60 : Int) (63 : Int) == (0 : Int) then true else zdz s (60 : Int) (63 : Int) == (8 :
 Int)) := by kernel_rfl
set_option linter.unusedSimpArgs false
theorem zno : Sound Tryz.prog 80 (zag [u64] [bl] (fun s => some (U64 s)) zeh) := by
 refine zae mixed Tryz.func80 (by kernel_rfl) (by kernel_rfl) yal (fun (s : Int) h => ?_)
 have h : U64 s := h
 have hb : zhf (s, 60, 63) := ⟨h, show (0 : Int) ≤ 60 by decide, show (60 : Int) ≤ 63 by decide, show (63 : Int) ≤ 63 by decide, .inl (show (0 : Int) < 60 by decide)⟩
 refine zah (zp0 s) ⟨hb, fun _ => hb, ?_⟩
 rw [zxj h]
 simp [zeh]
theorem ym8 : zaz Tryz.prog kHA1 := .cons (by kernel_rfl) zno <| .nil
end Go.Proofs.YtfiddfbagbaofaaGreat.V
