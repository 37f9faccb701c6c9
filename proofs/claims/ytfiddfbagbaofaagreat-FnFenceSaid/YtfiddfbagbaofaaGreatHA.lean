/- Harts that are valid answer as their model; the law on them returns true. Conditions: those in each statement. -/
import Derived.Test.YtfiddfbagbaofaaGreatGY
import Derived.KernelRfl
namespace Go.Proofs.YtfiddfbagbaofaaGreat.V
open Go
abbrev Us:=List Int
abbrev haC:List Cs:=[.sl [.i .u8],.sl [.i .u64],.i .u64,.i .i64,.b,.b,.i .u64,.i .u64,.i .u64,.i .i64,.i .i64,.i .u64,.i .i64,.i .i64,.sl shE,.i .i64,.i .i64,.sl shE,.i .i64,.i .i64,.sl shE]
abbrev haP:Pm := .st haC
abbrev Ha:=By × Us × Int × Int × Bool × Bool × Int × Int × Int × Int × Int × Int × Cf
def ze6(s:Int):Bool:=s/1152921504606846976==0||s/1152921504606846976==8
def HaR(h:Ha):Prop:=zan h.1∧SzR h.2.1.length∧(∀r ∈ h.2.1,U64 r)∧U64 h.2.2.1∧I64 h.2.2.2.1∧U64 h.2.2.2.2.2.2.1∧U64 h.2.2.2.2.2.2.2.1∧U64 h.2.2.2.2.2.2.2.2.1∧I64 h.2.2.2.2.2.2.2.2.2.1∧I64 h.2.2.2.2.2.2.2.2.2.2.1∧U64 h.2.2.2.2.2.2.2.2.2.2.2.1∧ChR (toC h.2.2.2.2.2.2.2.2.2.2.2.2)
def ycg(s:Int):Prop:=zal Tryz.prog FE3 .none Tryz.f80 [u64] [bl] s (ze6 s)
def kHA1:Known:=[
 (80,zag [u64] [bl] (fun s=>some (U64 s)) ze6),
 ]
def SzH(h:Ha):Prop:=SzR h.1.length∧SzR h.2.1.length∧SzC (toC h.2.2.2.2.2.2.2.2.2.2.2.2)
set_option linter.unusedVariables false
theorem zqy(s:Int):ycg s=(
 zh2 (s,60,63)∧((!zel s 60 (63:Int)==0)=true→zh2 (s,60,63))∧ze6 s=bif zel s 60 (63:Int)==0 then true else zel s 60 63==(8 :
 Int)):=by kernel_rfl
set_option linter.unusedSimpArgs false
theorem zop:Sound Tryz.prog 80 (zag [u64] [bl] (fun s=>some (U64 s)) ze6):=by
 refine zad mixed Tryz.func80 (by kernel_rfl) (by kernel_rfl) ycz (fun  (s:Int) h => ?_)
 have h:U64 s:=h
 have hb:zh2 (s,60,63):=⟨h,show (0:Int)≤60 by decide,show (60:Int)≤63 by decide,show (63:Int)≤63 by decide,.inl (show (0:Int)<60 by decide)⟩
 refine zah (zqy s) ⟨hb,fun _=>hb, ?_⟩
 rw[zzr h]
 simp[ze6]
theorem yq1:zay Tryz.prog kHA1 := .cons (by kernel_rfl) zop <| .nil
end Go.Proofs.YtfiddfbagbaofaaGreat.V
