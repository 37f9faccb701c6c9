/- Harts that are valid answer as their model; the law on them returns true. Conditions: those in each statement. -/
import Derived.Test.YtfiddfbagbaofaaGreatGY
import Derived.KernelRfl
namespace Go.Proofs.YtfiddfbagbaofaaGreat.V
open Go
abbrev usP:Pm := .one (.sl [.i .u64])
abbrev Us:=List Int
abbrev haC:List Cs:=[.sl [.i .u8],.sl [.i .u64],.i .u64,.i .i64,.b,.b,.i .u64,.i .u64,.i .u64,.i .i64,.i .i64,.i .u64,.i .i64,.i .i64,.sl shE,.i .i64,.i .i64,.sl shE,.i .i64,.i .i64,.sl shE]
abbrev haP:Pm := .st haC
abbrev Ha:=By × Us × Int × Int × Bool × Bool × Int × Int × Int × Int × Int × Int × Cf
def zbu(s:Int):Bool:=s/1152921504606846976==0||s/1152921504606846976==8
def HaR(h:Ha):Prop:=zaj h.1∧SzR h.2.1.length∧(∀r ∈ h.2.1,U64 r)∧U64 h.2.2.1∧I64 h.2.2.2.1∧U64 h.2.2.2.2.2.2.1∧U64 h.2.2.2.2.2.2.2.1∧U64 h.2.2.2.2.2.2.2.2.1∧I64 h.2.2.2.2.2.2.2.2.2.1∧I64 h.2.2.2.2.2.2.2.2.2.2.1∧U64 h.2.2.2.2.2.2.2.2.2.2.2.1∧ChR (toC h.2.2.2.2.2.2.2.2.2.2.2.2)
def yk9(s:Int):Prop:=zal Tryz.prog FY0 .none Tryz.f156 [u64] [bl] s (zbu s)
def yd0(s:Int):Prop:=zal Tryz.prog FE3 .none Tryz.f80 [u64] [bl] s (zbu s)
def yf0(m n:Us):LoopS where
 α:=Nat
 I i:=i≤m.length
 sl i:=slots 26 [(0,.sl 0 1 0 m.length),(1,.sl 1 1 0 n.length),(5,.v (.int .i64 i))]
 H _:=[.arr [.i .u64] m false,.arr [.i .u64] n false]
 fams:=[{ β:=Unit,out:=fun _ _=>True,ex := .ext 0,sl:=fun _=>slots 26 [],H:=fun _=>[.arr [.i .u64] m false,.arr [.i .u64] n false] }]
def yj7(m n:Us)(i:Nat):Prop:=zam Tryz.prog F0 (.one 4 (yf0 m n)) 2 (zag Tryz.f104 0) (yf0 m n) (fun i:Nat=>m.length-i) i
def ywc(m n:Us):Prop:=zal Tryz.prog F0 (.one 4 (yf0 m n)) Tryz.f104 [usP,usP] [bl] (m,n) true
def kHA1:Known:=[
 (156,zai [u64] [bl] (fun s=>some (U64 s)) zbu),
 (80,zai [u64] [bl] (fun s=>some (U64 s)) zbu),
 (104,zai [usP,usP] [bl] (fun t=>some (t.1=t.2∧SzR t.1.length)) (fun _=>true))]
def SzH(h:Ha):Prop:=SzR h.1.length∧SzR h.2.1.length∧SzC (toC h.2.2.2.2.2.2.2.2.2.2.2.2)
set_option linter.unusedVariables false
theorem zvs(s:Int):yk9 s=(
 (0:Int)≤60∧((!s/2 ^ min (Int.toNat 60) (64:Nat)==0)=true→(0:Int)≤60)∧zbu s=bif s/2 ^ min (Int.toNat 60) (64:Nat)==0 then true else s/(2 :
 Int) ^ min (Int.toNat 60) (64:Nat)==8):=by kernel_rfl
theorem zsi(s:Int):yd0 s=(
 zim (s,60,63)∧((!zes s 60 (63:Int)==0)=true→zim (s,60,63))∧zbu s=bif zes s 60 (63:Int)==0 then true else zes s 60 63==(8 :
 Int)):=by kernel_rfl
theorem zuw(m n:Us)(i:Nat):yj7 m n i=(
 let A0:=(↑i:Int);
 let A1:=List.length m;
 let A2:=(0:Nat)+A0.toNat;
 let A3(a:Bool)(b c:Prop):=(a=true→b)∧(a=false→c);
 let A4(a:Nat)(b:Prop):=((0:Int)≤A0∧A0<(↑a:Int))∧A2<a∧b;
 let A5(a:Nat)(b:Prop):=(0:Nat)=0∧a=a∧b;
 let A6:=m=m∧n=n;
 A3 (decide (A0<(↑A1:Int))) (A4 A1 (A4 (List.length n) (A3 (List.getD m A2 (El.zero (Ty.i IntKind.u64::[])) != List.getD n A2 (El.zero (Ty.i IntKind.u64::[]))) False (∃(x0:Nat),A5 A1 (A5 (List.length n) ((↑x0:Int) =
  IntKind.i64.wrap (A0+1)∧A6))∧x0≤A1∧A1-x0<A1-i∧∀(x1:Unit),True→True)))) (∃(x2:Unit),A6∧True)):=by kernel_rfl
theorem yc5(m n:Us):ywc m n=(
 (((↑(List.length m):Int) != (↑(List.length n):Int))=true→true=false∧m=m∧n=n)∧(((↑(List.length m):Int) != (↑(List.length n):Int))=false→∃(x:Nat),((0:Nat)=0∧List.length m=List.length m∧(0 :
 Nat)=0∧List.length n=List.length n∧(↑x:Int)=0∧m=m∧n=n)∧x≤List.length m∧∀(z:Unit),True→true=true∧m=m∧n=n)):=by kernel_rfl
set_option linter.unusedSimpArgs false
theorem zno:Sound Tryz.prog 156 (zai [u64] [bl] (fun s=>some (U64 s)) zbu):=by
 refine zad mixed Tryz.func156 (by kernel_rfl) (by kernel_rfl) zzr (fun  (s:Int) h => ?_)
 refine zab (zvs s) ⟨by decide,fun _=>by decide, ?_⟩
 rw[show (2:Int) ^ min (Int.toNat 60) 64=1152921504606846976 by decide]
 simp[zbu]
theorem zp0:Sound Tryz.prog 80 (zai [u64] [bl] (fun s=>some (U64 s)) zbu):=by
 refine zad mixed Tryz.func80 (by kernel_rfl) (by kernel_rfl) yeh (fun  (s:Int) h => ?_)
 have h:U64 s:=h
 have hb:zim (s,60,63):=⟨h,show (0:Int)≤60 by decide,show (60:Int)≤63 by decide,show (63:Int)≤63 by decide,.inl (show (0:Int)<60 by decide)⟩
 refine zab (zsi s) ⟨hb,fun _=>hb, ?_⟩
 rw[yba h]
 simp[zbu]
theorem ytl:Sound Tryz.prog 104 (zai [usP,usP] [bl] (fun t=>some (t.1=t.2∧SzR t.1.length)) (fun _=>true)):=by
 refine zbl mixed Tryz.func104 (by kernel_rfl) (b:=zag Tryz.f104 0) (k:=4) (by kernel_rfl) (by kernel_rfl) (by kernel_rfl) zdc (fun t h => ?_)
 obtain⟨m,n⟩:Us × Us:=t
 obtain⟨h0,h⟩:m=n∧SzR m.length:=h
 subst h0
 have hs:m.length≤2097152:=h
 refine⟨.one 4 (yf0 m m),yf0 m m,fun i:Nat=>m.length-i,za3 _ _,fun  (i:Nat) hi=>zab (zuw m m i) ?_,zab (yc5 m m) ?_⟩
 all_goals (try conv=>zeta)
 · have hi:i≤m.length:=hi
   refine⟨fun g => ?_,fun g=>⟨(),⟨rfl,rfl⟩,trivial⟩⟩
   have g:(i:Int)<m.length:=of_decide_eq_true g
   rw[zcj h (by omega)]
   exact⟨⟨by omega,by omega⟩,by omega,⟨by omega,by omega⟩,by omega,fun e=>by simp at e,fun _=>⟨i+1,⟨rfl,rfl,rfl,rfl,rfl,rfl,rfl⟩,by omega,by omega,fun _ _=>trivial⟩⟩
 · exact⟨fun e=>by simp at e,fun _=>⟨0,⟨rfl,rfl,rfl,rfl,rfl,rfl,rfl⟩,by omega,fun _ _=>⟨rfl,rfl,rfl⟩⟩⟩
theorem yha:zar Tryz.prog kHA1 := .cons (by kernel_rfl) zno <| .cons (by kernel_rfl) zp0 <| .cons (by kernel_rfl) ytl .nil
end Go.Proofs.YtfiddfbagbaofaaGreat.V
