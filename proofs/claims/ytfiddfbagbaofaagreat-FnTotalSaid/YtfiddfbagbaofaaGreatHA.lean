/- Harts that are valid answer as their model; the law on them returns true. Conditions: those in each statement. -/
import Derived.Test.YtfiddfbagbaofaaGreatGY
import Derived.KernelRfl
namespace Go.Proofs.YtfiddfbagbaofaaGreat.V
open Go
abbrev usP:Pm := .one (.sl [.i .u64])
abbrev Us:=List Int
abbrev haC:List Cs:=[.sl [.i .u8],.sl [.i .u64],.i .u64,.i .i64,.b,.b,.i .u64,.i .u64,.i .u64,.i .i64,.i .i64,.i .u64,.i .i64,.i .i64,.sl shE,.i .i64,.i .i64,.sl shE,.i .i64,.i .i64,.sl shE]
abbrev haP:Pm := .st haC
abbrev Ha:=By × Us × Int × Int × Bool × Bool × Int × Int × Int × Int × Int × Int × Cf
def zbu(s:Int):Bool:=s/1152921504606846976==0||s/1152921504606846976==8
def HaR(h:Ha):Prop:=zaj h.1∧SzR h.2.1.length∧(∀r ∈ h.2.1,U64 r)∧U64 h.2.2.1∧I64 h.2.2.2.1∧U64 h.2.2.2.2.2.2.1∧U64 h.2.2.2.2.2.2.2.1∧U64 h.2.2.2.2.2.2.2.2.1∧I64 h.2.2.2.2.2.2.2.2.2.1∧I64 h.2.2.2.2.2.2.2.2.2.2.1∧U64 h.2.2.2.2.2.2.2.2.2.2.2.1∧ChR (toC h.2.2.2.2.2.2.2.2.2.2.2.2)
def yk9(s:Int):Prop:=zal Tryz.prog FY0 .none Tryz.f156 [u64] [bl] s (zbu s)
def yd0(s:Int):Prop:=zal Tryz.prog FE3 .none Tryz.f80 [u64] [bl] s (zbu s)
def kHA1:Known:=[
 (156,zai [u64] [bl] (fun s=>some (U64 s)) zbu),
 (80,zai [u64] [bl] (fun s=>some (U64 s)) zbu),
 ]
def SzH(h:Ha):Prop:=SzR h.1.length∧SzR h.2.1.length∧SzC (toC h.2.2.2.2.2.2.2.2.2.2.2.2)
set_option linter.unusedVariables false
theorem zvs(s:Int):yk9 s=(
 (0:Int)≤60∧((!s/2 ^ min (Int.toNat 60) (64:Nat)==0)=true→(0:Int)≤60)∧zbu s=bif s/2 ^ min (Int.toNat 60) (64:Nat)==0 then true else s/(2 :
 Int) ^ min (Int.toNat 60) (64:Nat)==8):=by kernel_rfl
theorem zsi(s:Int):yd0 s=(
 zim (s,60,63)∧((!zes s 60 (63:Int)==0)=true→zim (s,60,63))∧zbu s=bif zes s 60 (63:Int)==0 then true else zes s 60 63==(8 :
 Int)):=by kernel_rfl
set_option linter.unusedSimpArgs false
theorem zno:Sound Tryz.prog 156 (zai [u64] [bl] (fun s=>some (U64 s)) zbu):=by
 refine zad mixed Tryz.func156 (by kernel_rfl) (by kernel_rfl) zzr (fun  (s:Int) h => ?_)
 refine zab (zvs s) ⟨by decide,fun _=>by decide, ?_⟩
 rw[show (2:Int) ^ min (Int.toNat 60) 64=1152921504606846976 by decide]
 simp[zbu]
theorem zp0:Sound Tryz.prog 80 (zai [u64] [bl] (fun s=>some (U64 s)) zbu):=by
 refine zad mixed Tryz.func80 (by kernel_rfl) (by kernel_rfl) yeh (fun  (s:Int) h => ?_)
 have h:U64 s:=h
 have hb:zim (s,60,63):=⟨h,show (0:Int)≤60 by decide,show (60:Int)≤63 by decide,show (63:Int)≤63 by decide,.inl (show (0:Int)<60 by decide)⟩
 refine zab (zsi s) ⟨hb,fun _=>hb, ?_⟩
 rw[yba h]
 simp[zbu]
theorem yha:zar Tryz.prog kHA1 := .cons (by kernel_rfl) zno <| .cons (by kernel_rfl) zp0 <| .nil
end Go.Proofs.YtfiddfbagbaofaaGreat.V
