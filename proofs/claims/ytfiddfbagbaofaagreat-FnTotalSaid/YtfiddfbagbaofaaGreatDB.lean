/- The program's reading of a script answers as its model. Conditions: those in each statement. -/
import Derived.Test.YtfiddfbagbaofaaGreatDA
import Derived.KernelRfl
namespace Go.Proofs.YtfiddfbagbaofaaGreat.V
open Go
def dPc(b:By):Int:=zbq (zax b 7 8)
def za4(b:By):Int:=if atB b 4 % 4=3 then 1 else atB b 4 % 4
def ze0(b:By):Bool:=atB b 4/4 % 2==1
def zez(b:By):Bool:=atB b 4/8 % 2==1
def zbo(b:By):Int:=if zbu (zbq (zax b 23 8))=true then zbq (zax b 23 8) else 0
def zbv(b:By):Int:=zbq (zax b 15 8)/4*4
def za1(b:By):Nat:=(64*(1+atB b 3 % 64)).toNat
def dN(b:By):Int:=min (zbq (zax b 5 2)) 20000
def zbw(b:By)(i:Nat):Us:=(List.range 8).map fun j=>if 1≤j∧j<i then zbq (zax b (23+8*j) 8) else 0
def wrS(b:By)(p a:Nat):Nat→By→By
 | 0,m=>m
 | j+1,m=>if a+j<(wrS b p a j m).length then (wrS b p a j m).set (a+j) (atB b (p+j)) else wrS b p a j m
def zge(b:By):Nat→Nat × By→Nat × By
 | 0,s=>s
 | r+1,s=>zge b r (s.1+3+(atB b (s.1+2)).toNat,wrS b (s.1+3) (atB b s.1+256*atB b (s.1+1)).toNat (atB b (s.1+2)).toNat s.2)
def zi9(b:By):Nat × By:=zge b (atB b 87).toNat (88,List.replicate (za1 b) 0)
abbrev scP:Pm := .st [.sl [.i .u8],.sl [.i .u64],.i .u64,.i .i64,.b,.b,.i .u64,.i .u64,.i .u64,.i .i64,.i .i64,.i .u64,.i .i64,.i .i64,.sl shE,.i .i64,.i .i64,.sl shE,.i .i64,.i .i64,.sl shE,.sl [.i .i64]]
abbrev Sc:=By × Us × Int × Int × Bool × Bool × Int × Int × Int × Int × Int × Int × Int × Int × Es × Int × Int × Es × Int × Int × Es × List Int
def zhx(b:By):Sc:=((zi9 b).2,zbw b 8,dPc b,za4 b,ze0 b,zez b,zbo b,zbv b,0,za4 b,0,0,(zaf (atB b 0)).1,(zaf (atB b 0)).2.1,List.replicate (zac (atB b 0)) zE,(zaf (atB b 1)).1,(zaf (atB b 1)).2.1,List.replicate (zac (atB b 1)) zE,(zaf (atB b 2)).1,(zaf (atB b 2)).2.1,List.replicate (zac (atB b 2)) zE,zax b (zi9 b).1 (dN b).toNat)
def zSc:Blk := .fix [.v (.slice none 0 0),.v (.slice none 0 0),.v (.int .u64 0),.v (.int .i64 0),.v (.bool false),.v (.bool false),.v (.int .u64 0),.v (.int .u64 0),.v (.int .u64 0),.v (.int .i64 0),.v (.int .i64 0),.v (.int .u64 0),.v (.int .i64 0),.v (.int .i64 0),.v (.slice none 0 0),.v (.int .i64 0),.v (.int .i64 0),.v (.slice none 0 0),.v (.int .i64 0),.v (.int .i64 0),.v (.slice none 0 0),.v (.slice none 0 0)] true (some 44)
def sgA(b:By)(M:Nat)(ra:Av)(pc mo:Int)(su mx:Bool)(sa tv em:Int)(pk:Av):List Av:=[.sl 4 1 0 M,ra,.v (.int .u64 pc),.v (.int .i64 mo),.v (.bool su),.v (.bool mx),.v (.int .u64 sa),.v (.int .u64 tv),.v (.int .u64 0),.v (.int .i64 em),.v (.int .i64 0),.v (.int .u64 0)]++(tlA (zaf (atB b 0)).1 (zaf (atB b 0)).2.1 6 (zac (atB b 0))++(tlA (zaf (atB b 1)).1 (zaf (atB b 1)).2.1 7 (zac (atB b 1))++(tlA (zaf (atB b 2)).1 (zaf (atB b 2)).2.1 8 (zac (atB b 2))++[pk])))
def sgH(b:By)(lo:Nat)(mem:By)(rb:Blk)(cells:List Av):Heap:=[.arr [.i .u8] b false,zSc,.fix [.sl 0 1 (adv b.length 0 lo) (b.length-adv b.length 0 lo)] true (some 214),.fix cells true (some 44),.arr [.i .u8] mem true,rb,.arr shE (List.replicate (zac (atB b 0)) zE) true,.arr shE (List.replicate (zac (atB b 1)) zE) true,.arr shE (List.replicate (zac (atB b 2)) zE) true]
def scH(b:By)(lo:Nat)(mem:By)(regs:Us)(pk:Av):Heap:=sgH b lo mem (.arr [.i .u64] regs true) (sgA b mem.length (.sl 5 1 0 8) (dPc b) (za4 b) (ze0 b) (zez b) (zbo b) (zbv b) (za4 b) pk)
def yn9(b:By)(l:List (Nat × Av)):List Av:=slots 140 ([(2,.ptr 1 0),(3,.ptr 2 0),(4,.ptr 3 0),(5,.ptr 3 0),(7,.v (.int .u64 (dN b)))]++l)
def yan:Av := .v (.slice none 0 0)
def ymq(b:By):LoopS where
 α:=Nat
 I i:=1≤i∧i≤8
 sl i:=yn9 b [(9,.v (.int .i64 (i:Int)))]
 H i:=scH b (23+8*i) (List.replicate (za1 b) 0) (zbw b i) yan
 fams:=[{ β:=Unit,out:=fun _ _=>True,ex := .ext 0,sl:=fun _=>yn9 b [],H:=fun _=>scH b 87 (List.replicate (za1 b) 0) (zbw b 8) yan }]
def yw4(b:By)(t p:Nat)(m:By):Prop:=t≤255∧p≤88+258*(255-t)∧m.length=za1 b∧zaj m∧zge b t (p,m)=zi9 b
def ymr(b:By):LoopS where
 α:=Nat × Nat × By
 I x:=yw4 b x.1 x.2.1 x.2.2
 sl x:=yn9 b [(10,.v (.int .i64 (x.1:Int)))]
 H x:=scH b x.2.1 x.2.2 (zbw b 8) yan
 fams:=[{ β:=Unit,out:=fun _ _=>True,ex := .ext 2,sl:=fun _=>yn9 b [],H:=fun _=>scH b (zi9 b).1 (zi9 b).2 (zbw b 8) yan }]
def yfq(b:By):LoopS where
 α:=Nat × Nat × Nat × Nat × Nat × By
 I x:=x.1≤255∧x.2.1≤100000∧x.2.2.1≤100000∧x.2.2.2.1≤255∧x.2.2.2.2.1≤x.2.2.2.1∧SzR x.2.2.2.2.2.length
 sl x:=yn9 b [(10,.v (.int .i64 (x.1:Int))),(11,.v (.int .i64 ((x.2.2.1+x.2.2.2.2.1:Nat):Int))),(12,.v (.int .i64 ((x.2.2.2.1-x.2.2.2.2.1:Nat):Int)))]
 H x:=scH b (x.2.1+x.2.2.2.2.1) (wrS b x.2.1 x.2.2.1 x.2.2.2.2.1 x.2.2.2.2.2) (zbw b 8) yan
 fams:=[{ β:=Nat × Nat × By,out:=fun x z=>z.1=x.1∧z.2.1=x.2.1+x.2.2.2.1∧z.2.2=wrS b x.2.1 x.2.2.1 x.2.2.2.1 x.2.2.2.2.2,ex := .ext 4,sl:=fun z=>yn9 b [(10,.v (.int .i64 (z.1:Int)))],H:=fun z=>scH b z.2.1 z.2.2 (zbw b 8) yan }]
def yms(b:By):LoopS where
 α:=Nat
 I k:=(k:Int)≤dN b
 sl k:=yn9 b [(129,.v (.int .u64 (dN b))),(130,.v (.int .u64 (k:Int)))]
 H k:=scH b ((zi9 b).1+k) (zi9 b).2 (zbw b 8) (.sl 9 1 0 k)++[.arr [.i .i64] (zax b (zi9 b).1 k) true]
 fams:=[{ β:=Unit,out:=fun _ _=>True,ex := .ext 6,sl:=fun _=>yn9 b [],H:=fun _=>scH b ((zi9 b).1+(dN b).toNat) (zi9 b).2 (zbw b 8) (.sl 9 1 0 (dN b).toNat)++[.arr [.i .i64] (zax b (zi9 b).1 (dN b).toNat) true] }]
def yuw(l:List (Nat × Av)):List Av:=slots 140 ([(2,.ptr 1 0),(3,.ptr 2 0),(4,.ptr 3 0),(5,.ptr 3 0)]++l)
def preH(b:By)(lo:Nat)(pc mo:Int)(su mx:Bool)(sa tv em:Int):Heap:=sgH b lo (List.replicate (za1 b) 0) .dead (sgA b (za1 b) yan pc mo su mx sa tv em yan)
def yx6(b:By)(r:Nat):Option CutS :=
 if r=6 then some (CutS.mk Unit (fun _=>yuw []) (fun _=>preH b 4 0 0 false false 0 0 0))
 else if r=11 then some (CutS.mk Unit (fun _=>yuw []) (fun _=>preH b 5 0 (za4 b) (ze0 b) (zez b) 0 0 (za4 b)))
 else none
def yte(b:By)(r:Nat):Option CutS :=
 if r=9 then some (CutS.mk Int (fun _=>yuw [(6,.v (.int .i64 (atB b 4)))]) (fun z=>preH b 5 0 z false false 0 0 0))
 else if r=16 then some (CutS.mk Int (fun _=>yn9 b []) (fun z=>preH b 31 (dPc b) (za4 b) (ze0 b) (zez b) z (zbv b) (za4 b)))
 else none
def zwa(b:By):Specs:={ Specs.many [(19,ymq b),(23,ymr b),(27,yfq b),(34,yms b)] with cut:=yx6 b,cond:=yte b }
def kDB:Known:=[(154,ya1),(155,yvg),(153,yvm),(156,zai [u64] [bl] (fun s=>some (U64 s)) zbu)]
def FDB:Dict:=mkD kDB [] []
def yj2(b:By)(i:Nat):Prop:=zam Tryz.prog FDB (zwa b) 1 (zag Tryz.f57 0) (ymq b) (fun i:Nat=>8-i) i
def znx(b:By)(t p:Nat)(m:By):Prop:=zam Tryz.prog FDB (zwa b) 1 (zag Tryz.f57 1) (ymr b) (fun x:Nat × Nat × By=>x.1) (t,p,m)
def yj3(b:By)(t p a c j:Nat)(m:By):Prop:=zam Tryz.prog FDB (zwa b) 1 (zag Tryz.f57 2) (yfq b) (fun x:Nat × Nat × Nat × Nat × Nat × By=>x.2.2.2.1-x.2.2.2.2.1) (t,p,a,c,j,m)
def yj4(b:By)(k:Nat):Prop:=zam Tryz.prog FDB (zwa b) 1 (zag Tryz.f57 3) (yms b) (fun k:Nat=>(dN b).toNat-k) k
def yam1(b:By):Prop:=zal Tryz.prog FDB (zwa b) Tryz.f57 [byP] [scP] b (zhx b)
set_option linter.unusedVariables false
theorem zuq(b:By)(i:Nat):yj2 b i=(
 (decide ((↑i:Int)<(8:Int))=true→(adv (List.length b) (0:Nat) ((23:Nat)+(8:Nat)*i)≤List.length b∧List.length b-adv (List.length b) (0:Nat) ((23:Nat)+(8:Nat)*i)=List.length b-adv (List.length b) (0 :
 Nat) ((23:Nat)+(8:Nat)*i)∧zaj b∧(0:Int)≤(8:Int)∧(8:Int)≤(8:Int))∧((0:Int)≤(↑i:Int)∧(↑i:Int)<(↑(8:Nat):Int))∧(0:Nat)+(↑i:Int).toNat<List.length (zbw b i)∧∃(y:Nat),(dN b=dN b ∧
 (↑y:Int)=IntKind.i64.wrap ((↑i:Int)+(1:Int))∧b=b∧Value.slice none (0:Nat) (0:Nat)=Value.slice none (0:Nat) (0:Nat)∧Value.slice none (0:Nat) (0:Nat)=Value.slice none (0:Nat) (0:Nat)∧(0:Int)=(0 :
 Int)∧(0:Int)=(0:Int)∧false=false∧false=false∧(0:Int)=(0:Int)∧(0:Int)=(0:Int)∧(0:Int)=(0:Int)∧(0:Int)=(0:Int)∧(0:Int)=(0:Int)∧(0:Int)=(0:Int)∧(0:Int)=(0:Int)∧(0:Int)
 = (0:Int)∧Value.slice none (0:Nat) (0:Nat)=Value.slice none (0:Nat) (0:Nat)∧(0:Int)=(0:Int)∧(0:Int)=(0:Int)∧Value.slice none (0:Nat) (0:Nat)=Value.slice none (0:Nat) (0:Nat)∧(0:Int)=(0:Int)
 ∧ (0:Int)=(0:Int)∧Value.slice none (0:Nat) (0:Nat)=Value.slice none (0:Nat) (0:Nat)∧Value.slice none (0:Nat) (0:Nat)=Value.slice none (0:Nat) (0:Nat)∧adv (List.length b) (0:Nat) ((23:Nat)+(8:Nat)*y)
 = adv (List.length b) (adv (List.length b) (0:Nat) ((23:Nat)+(8:Nat)*i)) (Int.toNat (8:Int))∧List.length b-adv (List.length b) (0:Nat) ((23:Nat)+(8:Nat)*y)=List.length b-adv (List.length b) (adv (List.length b)
 (0:Nat) ((23:Nat)+(8:Nat)*i)) (Int.toNat (8:Int))∧(0:Nat)=(0:Nat)∧(List.replicate (za1 b) (0:Int)).length=(List.replicate (za1 b) (0:Int)).length∧(0:Nat)=(0:Nat)∧(8:Nat)=(8:Nat)∧dPc b=dPc
 b∧za4 b=za4 b∧ze0 b=ze0 b∧zez b=zez b∧zbo b=zbo b∧zbv b=zbv b∧(0:Int)=(0:Int)∧za4 b=za4 b∧(0:Int)=(0:Int)∧(0:Int)=(0:Int)∧(zaf (atB b (0:Nat))).1=(zaf (atB b
 (0:Nat))).1∧(zaf (atB b (0:Nat))).2.1=(zaf (atB b (0:Nat))).2.1∧(0:Nat)=(0:Nat)∧zac (atB b (0:Nat))=zac (atB b (0:Nat))∧(zaf (atB b (1:Nat))).1=(zaf (atB b (1:Nat))).1 ∧
 (zaf (atB b (1:Nat))).2.1=(zaf (atB b (1:Nat))).2.1∧(0:Nat)=(0:Nat)∧zac (atB b (1:Nat))=zac (atB b (1:Nat))∧(zaf (atB b (2:Nat))).1=(zaf (atB b (2:Nat))).1∧(zaf (atB b (2 :
 Nat))).2.1=(zaf (atB b (2:Nat))).2.1∧(0:Nat)=(0:Nat)∧zac (atB b (2:Nat))=zac (atB b (2:Nat))∧Value.slice none (0:Nat) (0:Nat)=Value.slice none (0:Nat) (0:Nat)∧List.replicate (za1 b) (0 :
 Int)=List.replicate (za1 b) (0:Int)∧zbw b y=List.set (zbw b i) ((0:Nat)+(↑i:Int).toNat) (zbq (zax b (adv (List.length b) (0:Nat) ((23:Nat)+(8:Nat)*i)) (Int.toNat (8:Int))))∧List.replicate (zac (atB b
 (0:Nat))) zE=List.replicate (zac (atB b (0:Nat))) zE∧List.replicate (zac (atB b (1:Nat))) zE=List.replicate (zac (atB b (1:Nat))) zE∧List.replicate (zac (atB b (2:Nat))) zE=List.replicate (zac (atB b (2 :
 Nat))) zE)∧((1:Nat)≤y∧y≤(8:Nat))∧(8:Nat)-y<(8:Nat)-i∧∀(z:Unit),True→True)∧(decide ((↑i:Int)<(8:Int))=false→∃(z:Unit),(dN b=dN b∧b=b∧Value.slice none (0:Nat) (0:Nat)=Value.slice
 none (0:Nat) (0:Nat)∧Value.slice none (0:Nat) (0:Nat)=Value.slice none (0:Nat) (0:Nat)∧(0:Int)=(0:Int)∧(0:Int)=(0:Int)∧false=false∧false=false∧(0:Int)=(0:Int)∧(0:Int)=(0:Int)∧(0 :
 Int)=(0:Int)∧(0:Int)=(0:Int)∧(0:Int)=(0:Int)∧(0:Int)=(0:Int)∧(0:Int)=(0:Int)∧(0:Int)=(0:Int)∧Value.slice none (0:Nat) (0:Nat)=Value.slice none (0:Nat) (0:Nat)∧(0:Int)=(0:Int) ∧
 (0:Int)=(0:Int)∧Value.slice none (0:Nat) (0:Nat)=Value.slice none (0:Nat) (0:Nat)∧(0:Int)=(0:Int)∧(0:Int)=(0:Int)∧Value.slice none (0:Nat) (0:Nat)=Value.slice none (0:Nat) (0:Nat)∧Value.slice
 none (0:Nat) (0:Nat)=Value.slice none (0:Nat) (0:Nat)∧adv (List.length b) (0:Nat) (87:Nat)=adv (List.length b) (0:Nat) ((23:Nat)+(8:Nat)*i)∧List.length b-adv (List.length b) (0:Nat) (87:Nat)=List.length
 b-adv (List.length b) (0:Nat) ((23:Nat)+(8:Nat)*i)∧(0:Nat)=(0:Nat)∧(List.replicate (za1 b) (0:Int)).length=(List.replicate (za1 b) (0:Int)).length∧(0:Nat)=(0:Nat)∧(8:Nat)=(8:Nat)∧dPc b=dPc
 b∧za4 b=za4 b∧ze0 b=ze0 b∧zez b=zez b∧zbo b=zbo b∧zbv b=zbv b∧(0:Int)=(0:Int)∧za4 b=za4 b∧(0:Int)=(0:Int)∧(0:Int)=(0:Int)∧(zaf (atB b (0:Nat))).1=(zaf (atB b
 (0:Nat))).1∧(zaf (atB b (0:Nat))).2.1=(zaf (atB b (0:Nat))).2.1∧(0:Nat)=(0:Nat)∧zac (atB b (0:Nat))=zac (atB b (0:Nat))∧(zaf (atB b (1:Nat))).1=(zaf (atB b (1:Nat))).1 ∧
 (zaf (atB b (1:Nat))).2.1=(zaf (atB b (1:Nat))).2.1∧(0:Nat)=(0:Nat)∧zac (atB b (1:Nat))=zac (atB b (1:Nat))∧(zaf (atB b (2:Nat))).1=(zaf (atB b (2:Nat))).1∧(zaf (atB b (2 :
 Nat))).2.1=(zaf (atB b (2:Nat))).2.1∧(0:Nat)=(0:Nat)∧zac (atB b (2:Nat))=zac (atB b (2:Nat))∧Value.slice none (0:Nat) (0:Nat)=Value.slice none (0:Nat) (0:Nat)∧List.replicate (za1 b) (0 :
 Int)=List.replicate (za1 b) (0:Int)∧zbw b (8:Nat)=zbw b i∧List.replicate (zac (atB b (0:Nat))) zE=List.replicate (zac (atB b (0:Nat))) zE∧List.replicate (zac (atB b (1:Nat))) zE=List.replicate (zac
 (atB b (1:Nat))) zE∧List.replicate (zac (atB b (2:Nat))) zE=List.replicate (zac (atB b (2:Nat))) zE)∧True)):=by kernel_rfl
theorem zur(b:By)(t p:Nat)(m:By):znx b t p m=(
 let A0:=List.length b;
 let A1(a:Nat):=zaf (atB b a);
 let A2:=(0:Int)=(0:Int);
 let A3:=Value.slice none (0:Nat) (0:Nat);
 let A4(a b c:Prop):=a∧b∧c;
 let A5(a:Nat):=zac (atB b a);
 let A6(a b c d e:Prop):=A4 a b (A4 c d e);
 let A7(a b c d e f g h i:Prop):=A6 a b c d (A6 e f g h i);
 let A8:=A1 (2:Nat);
 let A9(a:Nat):=adv A0 (0:Nat) a;
 let Aa:=(0:Nat)=(0:Nat);
 let Ab:=A1 (1:Nat);
 let Ac(a:Nat × Nat × Nat × Nat × Nat × By):=a.2.2.2;
 let Ad:=A1 (0:Nat);
 let Ae(a:Nat × Nat × By):=a.2.1;
 let Af:=zbw b (8:Nat);
 let Ah(a:Nat × Nat × By):=a.2.2;
 let Ai(a:Nat):=List.replicate (zac (atB b a)) zE;
 let Aj:=A5 (2:Nat);
 let Ak:=za4 b;
 let Al:=A3=A3;
 let Am:=Ai (2:Nat);
 let An:=A5 (1:Nat);
 let Ao(a:Nat × Nat × Nat × Nat × Nat × By):=Ae (Ac a);
 let Ap(a:Nat × Nat × Nat × Nat × Nat × By):=a.2.1;
 let Aq:=Ai (1:Nat);
 let Ar:=A5 (0:Nat);
 let Au:=Ai (0:Nat);
 let Aw(a:Nat × Nat × By):=List.length (Ah a);
 let Ax(a:Nat × Nat × Nat × Nat × Nat × By):=a.2.2.1;
 let Ay(a:Tl):=a.2.1=a.2.1;
 let Az(a:Nat × Nat × Nat × Nat × Nat × By):=(Ac a).1;
 let AB:=false=false;
 let AC:=adv A0 (A9 p) (2:Int).toNat;
 let AD(a:Nat)(b:Int):=(↑a:Int)=b;
 let AE:=zge b (atB b (87:Nat)).toNat ((88:Nat),List.replicate (za1 b) (0:Int));
 let AF:=decide ((↑t:Int)>(0:Int));
 let AG(a c:Nat)(d:By):=A7 (b=b) Al Al A2 A2 AB AB A2 (A7 A2 A2 A2 A2 A2 A2 A2 Al (A7 A2 A2 Al A2 A2 Al Al (A9 a=c) (A7 (A0-A9 a=A0-c) Aa (List.length d=List.length m) Aa ((8:Nat)=(8:Nat)) (dPc b=dPc b) (Ak=Ak)
  (ze0 b=ze0 b) (A7 (zez b=zez b) (zbo b=zbo b) (zbv b=zbv b) A2 (Ak=Ak) A2 A2 (Ad.1=Ad.1) (A7 (Ay Ad) Aa (Ar=Ar) (Ab.1=Ab.1) (Ay Ab) Aa (An=An) (A8.1=A8.1) (A7 (Ay A8) Aa (Aj=Aj) Al (d=m) (Af =
  Af) (Au=Au) (Aq=Aq) (Am=Am)))))));
 (AF=true→A4 (A6 (A9 p≤A0) (A0-A9 p=A0-A9 p) (zaj b) ((0:Int)≤(2:Int)) ((2:Int)≤(8:Int))) (A4 (AC≤A0) (A0-AC=A0-AC) (zaj b)) (∃(x0':Nat × Nat × Nat × Nat × Nat × By),A4 (A6 (dN b=dN b) (AD x0'.1
  (↑t:Int)) (AD (Ax x0'+Ao x0') (IntKind.i64.wrap (zbq (zax b (A9 p) (2:Int).toNat)))) (AD (Az x0'-Ao x0') (atB b AC)) (AG (Ap x0'+Ao x0') (adv A0 AC (1:Nat)) (wrS b (Ap x0') (Ax x0') (Ao x0') (Ah (Ac x0'))))) (x0'.1≤(255 :
  Nat)∧A6 (Ap x0'≤(100000:Nat)) (Ax x0'≤(100000:Nat)) (Az x0'≤(255:Nat)) (Ao x0'≤Az x0') (SzR (Aw (Ac x0')))) (∀(x1':Nat × Nat × By),A4 (x1'.1=x0'.1) (Ae x1'=Ap x0'+Az x0') (Ah x1'=wrS b (Ap x0') (Ax x0') (Az
  x0') (Ah (Ac x0')))→∃(x2':Nat × Nat × By),A4 (dN b=dN b) ((↑x2'.1:Int)=IntKind.i64.wrap ((↑x1'.1:Int)-(1:Int))) (A7 (b=b) Al Al A2 A2 AB AB A2 (A7 A2 A2 A2 A2 A2 A2 A2 Al (A7 A2 A2 Al A2 A2 Al Al (A9 (Ae x2')=A9
  (Ae x1')) (A7 (A0-A9 (Ae x2')=A0-A9 (Ae x1')) Aa (Aw x2'=Aw x1') Aa ((8:Nat)=(8:Nat)) (dPc b=dPc b) (Ak=Ak) (ze0 b=ze0 b) (A7 (zez b=zez b) (zbo b=zbo b) (zbv b=zbv b) A2 (Ak=Ak) A2 A2 (Ad.1 =
  Ad.1) (A7 (Ay Ad) Aa (Ar=Ar) (Ab.1=Ab.1) (Ay Ab) Aa (An=An) (A8.1=A8.1) (A7 (Ay A8) Aa (Aj=Aj) Al (Ah x2'=Ah x1') (Af=Af) (Au=Au) (Aq=Aq) (Am=Am))))))))∧A4 (yw4 b x2'.1 (Ae x2') (Ah x2')) (x2'.1<t) (∀
  (x3':Unit),True→True))))∧(AF=false→∃(x4':Unit),(dN b=dN b∧AG AE.1 (A9 p) AE.2)∧True)):=by kernel_rfl
theorem zus(b:By)(t p a c j:Nat)(m:By):yj3 b t p a c j m=(
 (decide ((↑(c-j):Int)>(0:Int))=true→(adv (List.length b) (0:Nat) (p+j)≤List.length b∧List.length b-adv (List.length b) (0:Nat) (p+j)=List.length b-adv (List.length b) (0:Nat) (p+j)∧zaj b)∧(decide
 ((↑(a+j):Int)<(↑(List.length (wrS b p a j m)):Int))=true→((0:Int)≤(↑(a+j):Int)∧(↑(a+j):Int)<(↑(List.length (wrS b p a j m)):Int))∧(0:Nat)+(↑(a+j):Int).toNat<List.length (wrS b p a j m)∧∃(y:Nat
 × Nat × Nat × Nat × Nat × By),(dN b=dN b∧(↑y.1:Int)=(↑t:Int)∧(↑(y.2.2.1+y.2.2.2.2.1):Int)=IntKind.i64.wrap ((↑(a+j):Int)+(1:Int))∧(↑(y.2.2.2.1-y.2.2.2.2.1):Int) =
 IntKind.i64.wrap ((↑(c-j):Int)-(1:Int))∧b=b∧Value.slice none (0:Nat) (0:Nat)=Value.slice none (0:Nat) (0:Nat)∧Value.slice none (0:Nat) (0:Nat)=Value.slice none (0:Nat) (0:Nat)∧(0:Int)=(0:Int)∧(0
 : Int)=(0:Int)∧false=false∧false=false∧(0:Int)=(0:Int)∧(0:Int)=(0:Int)∧(0:Int)=(0:Int)∧(0:Int)=(0:Int)∧(0:Int)=(0:Int)∧(0:Int)=(0:Int)∧(0:Int)=(0:Int)∧(0:Int)=(0 :
 Int)∧Value.slice none (0:Nat) (0:Nat)=Value.slice none (0:Nat) (0:Nat)∧(0:Int)=(0:Int)∧(0:Int)=(0:Int)∧Value.slice none (0:Nat) (0:Nat)=Value.slice none (0:Nat) (0:Nat)∧(0:Int)=(0:Int)∧(0 :
 Int)=(0:Int)∧Value.slice none (0:Nat) (0:Nat)=Value.slice none (0:Nat) (0:Nat)∧Value.slice none (0:Nat) (0:Nat)=Value.slice none (0:Nat) (0:Nat)∧adv (List.length b) (0:Nat) (y.2.1+y.2.2.2.2.1)
 = adv (List.length b) (adv (List.length b) (0:Nat) (p+j)) (1:Nat)∧List.length b-adv (List.length b) (0:Nat) (y.2.1+y.2.2.2.2.1)=List.length b-adv (List.length b) (adv (List.length b) (0:Nat) (p+j)) (1 :
 Nat)∧(0:Nat)=(0:Nat)∧List.length (wrS b y.2.1 y.2.2.1 y.2.2.2.2.1 y.2.2.2.2.2)=List.length (wrS b p a j m)∧(0:Nat)=(0:Nat)∧(8:Nat)=(8:Nat)∧dPc b=dPc b∧za4 b=za4 b∧ze0
 b=ze0 b∧zez b=zez b∧zbo b=zbo b∧zbv b=zbv b∧(0:Int)=(0:Int)∧za4 b=za4 b∧(0:Int)=(0:Int)∧(0:Int)=(0:Int)∧(zaf (atB b (0:Nat))).1=(zaf (atB b (0:Nat))).1∧(zaf
 (atB b (0:Nat))).2.1=(zaf (atB b (0:Nat))).2.1∧(0:Nat)=(0:Nat)∧zac (atB b (0:Nat))=zac (atB b (0:Nat))∧(zaf (atB b (1:Nat))).1=(zaf (atB b (1:Nat))).1∧(zaf (atB b (1 :
 Nat))).2.1=(zaf (atB b (1:Nat))).2.1∧(0:Nat)=(0:Nat)∧zac (atB b (1:Nat))=zac (atB b (1:Nat))∧(zaf (atB b (2:Nat))).1=(zaf (atB b (2:Nat))).1∧(zaf (atB b (2:Nat))).2.1 =
 (zaf (atB b (2:Nat))).2.1∧(0:Nat)=(0:Nat)∧zac (atB b (2:Nat))=zac (atB b (2:Nat))∧Value.slice none (0:Nat) (0:Nat)=Value.slice none (0:Nat) (0:Nat)∧wrS b y.2.1 y.2.2.1
 y.2.2.2.2.1 y.2.2.2.2.2=List.set (wrS b p a j m) ((0:Nat)+(↑(a+j):Int).toNat) (IntKind.u8.wrap (atB b (adv (List.length b) (0:Nat) (p+j))))∧zbw b (8:Nat)=zbw b (8:Nat)∧List.replicate (zac
 (atB b (0:Nat))) zE=List.replicate (zac (atB b (0:Nat))) zE∧List.replicate (zac (atB b (1:Nat))) zE=List.replicate (zac (atB b (1:Nat))) zE∧List.replicate (zac (atB b (2:Nat))) zE=List.replicate (zac (atB
 b (2:Nat))) zE)∧(y.1≤(255:Nat)∧y.2.1≤(100000:Nat)∧y.2.2.1≤(100000:Nat)∧y.2.2.2.1≤(255:Nat)∧y.2.2.2.2.1≤y.2.2.2.1∧SzR (List.length y.2.2.2.2.2)) ∧
 y.2.2.2.1-y.2.2.2.2.1<c-j∧∀(z:Nat × Nat × By),z.1=y.1∧z.2.1=y.2.1+y.2.2.2.1∧z.2.2=wrS b y.2.1 y.2.2.1 y.2.2.2.1 y.2.2.2.2.2→z.1=t ∧
 z.2.1=p+c∧z.2.2=wrS b p a c m)∧(decide ((↑(a+j):Int)<(↑(List.length (wrS b p a j m)):Int))=false→∃(y:Nat × Nat × Nat × Nat × Nat × By),(dN b=dN b∧(↑y.1:Int)=(↑t:Int)∧(↑(y.2.2.1 +
 y.2.2.2.2.1):Int)=IntKind.i64.wrap ((↑(a+j):Int)+(1:Int))∧(↑(y.2.2.2.1-y.2.2.2.2.1):Int)=IntKind.i64.wrap ((↑(c-j):Int)-(1:Int))∧b=b∧Value.slice none (0:Nat) (0:Nat) =
 Value.slice none (0:Nat) (0:Nat)∧Value.slice none (0:Nat) (0:Nat)=Value.slice none (0:Nat) (0:Nat)∧(0:Int)=(0:Int)∧(0:Int)=(0:Int)∧false=false∧false=false∧(0:Int)=(0:Int)∧(0:Int)=(0 :
 Int)∧(0:Int)=(0:Int)∧(0:Int)=(0:Int)∧(0:Int)=(0:Int)∧(0:Int)=(0:Int)∧(0:Int)=(0:Int)∧(0:Int)=(0:Int)∧Value.slice none (0:Nat) (0:Nat)=Value.slice none (0:Nat) (0:Nat)∧(0:Int) =
 (0:Int)∧(0:Int)=(0:Int)∧Value.slice none (0:Nat) (0:Nat)=Value.slice none (0:Nat) (0:Nat)∧(0:Int)=(0:Int)∧(0:Int)=(0:Int)∧Value.slice none (0:Nat) (0:Nat)=Value.slice none (0:Nat) (0:Nat) ∧
 Value.slice none (0:Nat) (0:Nat)=Value.slice none (0:Nat) (0:Nat)∧adv (List.length b) (0:Nat) (y.2.1+y.2.2.2.2.1)=adv (List.length b) (adv (List.length b) (0:Nat) (p+j)) (1:Nat)∧List.length b-adv
 (List.length b) (0:Nat) (y.2.1+y.2.2.2.2.1)=List.length b-adv (List.length b) (adv (List.length b) (0:Nat) (p+j)) (1:Nat)∧(0:Nat)=(0:Nat)∧List.length (wrS b y.2.1 y.2.2.1 y.2.2.2.2.1
 y.2.2.2.2.2)=List.length (wrS b p a j m)∧(0:Nat)=(0:Nat)∧(8:Nat)=(8:Nat)∧dPc b=dPc b∧za4 b=za4 b∧ze0 b=ze0 b∧zez b=zez b∧zbo b=zbo b∧zbv b=zbv b∧(0:Int)=(0:Int) ∧
 za4 b=za4 b∧(0:Int)=(0:Int)∧(0:Int)=(0:Int)∧(zaf (atB b (0:Nat))).1=(zaf (atB b (0:Nat))).1∧(zaf (atB b (0:Nat))).2.1=(zaf (atB b (0:Nat))).2.1∧(0:Nat)=(0:Nat)∧zac
 (atB b (0:Nat))=zac (atB b (0:Nat))∧(zaf (atB b (1:Nat))).1=(zaf (atB b (1:Nat))).1∧(zaf (atB b (1:Nat))).2.1=(zaf (atB b (1:Nat))).2.1∧(0:Nat)=(0:Nat)∧zac (atB b (1:Nat)) =
 zac (atB b (1:Nat))∧(zaf (atB b (2:Nat))).1=(zaf (atB b (2:Nat))).1∧(zaf (atB b (2:Nat))).2.1=(zaf (atB b (2:Nat))).2.1∧(0:Nat)=(0:Nat)∧zac (atB b (2:Nat))=zac (atB b (2 :
 Nat))∧Value.slice none (0:Nat) (0:Nat)=Value.slice none (0:Nat) (0:Nat)∧wrS b y.2.1 y.2.2.1 y.2.2.2.2.1 y.2.2.2.2.2=wrS b p a j m∧zbw b (8:Nat)=zbw b (8:Nat)∧List.replicate (zac
 (atB b (0:Nat))) zE=List.replicate (zac (atB b (0:Nat))) zE∧List.replicate (zac (atB b (1:Nat))) zE=List.replicate (zac (atB b (1:Nat))) zE∧List.replicate (zac (atB b (2:Nat))) zE=List.replicate (zac (atB
 b (2:Nat))) zE)∧(y.1≤(255:Nat)∧y.2.1≤(100000:Nat)∧y.2.2.1≤(100000:Nat)∧y.2.2.2.1≤(255:Nat)∧y.2.2.2.2.1≤y.2.2.2.1∧SzR (List.length y.2.2.2.2.2)) ∧
 y.2.2.2.1-y.2.2.2.2.1<c-j∧∀(z:Nat × Nat × By),z.1=y.1∧z.2.1=y.2.1+y.2.2.2.1∧z.2.2=wrS b y.2.1 y.2.2.1 y.2.2.2.1 y.2.2.2.2.2→z.1=t ∧
 z.2.1=p+c∧z.2.2=wrS b p a c m))∧(decide ((↑(c-j):Int)>(0:Int))=false→∃(z:Nat × Nat × By),(dN b=dN b∧(↑z.1:Int)=(↑t:Int)∧b=b∧Value.slice none (0:Nat) (0:Nat)=Value.slice none (0 :
 Nat) (0:Nat)∧Value.slice none (0:Nat) (0:Nat)=Value.slice none (0:Nat) (0:Nat)∧(0:Int)=(0:Int)∧(0:Int)=(0:Int)∧false=false∧false=false∧(0:Int)=(0:Int)∧(0:Int)=(0:Int)∧(0:Int)=(0 :
 Int)∧(0:Int)=(0:Int)∧(0:Int)=(0:Int)∧(0:Int)=(0:Int)∧(0:Int)=(0:Int)∧(0:Int)=(0:Int)∧Value.slice none (0:Nat) (0:Nat)=Value.slice none (0:Nat) (0:Nat)∧(0:Int)=(0:Int)∧(0:Int) =
 (0:Int)∧Value.slice none (0:Nat) (0:Nat)=Value.slice none (0:Nat) (0:Nat)∧(0:Int)=(0:Int)∧(0:Int)=(0:Int)∧Value.slice none (0:Nat) (0:Nat)=Value.slice none (0:Nat) (0:Nat)∧Value.slice none (0 :
 Nat) (0:Nat)=Value.slice none (0:Nat) (0:Nat)∧adv (List.length b) (0:Nat) z.2.1=adv (List.length b) (0:Nat) (p+j)∧List.length b-adv (List.length b) (0:Nat) z.2.1=List.length b-adv (List.length b) (0 :
 Nat) (p+j)∧(0:Nat)=(0:Nat)∧List.length z.2.2=List.length (wrS b p a j m)∧(0:Nat)=(0:Nat)∧(8:Nat)=(8:Nat)∧dPc b=dPc b∧za4 b=za4 b∧ze0 b=ze0 b∧zez b=zez b∧zbo b=zbo b∧zbv b
 = zbv b∧(0:Int)=(0:Int)∧za4 b=za4 b∧(0:Int)=(0:Int)∧(0:Int)=(0:Int)∧(zaf (atB b (0:Nat))).1=(zaf (atB b (0:Nat))).1∧(zaf (atB b (0:Nat))).2.1=(zaf (atB b (0 :
 Nat))).2.1∧(0:Nat)=(0:Nat)∧zac (atB b (0:Nat))=zac (atB b (0:Nat))∧(zaf (atB b (1:Nat))).1=(zaf (atB b (1:Nat))).1∧(zaf (atB b (1:Nat))).2.1=(zaf (atB b (1:Nat))).2.1∧(0 :
 Nat)=(0:Nat)∧zac (atB b (1:Nat))=zac (atB b (1:Nat))∧(zaf (atB b (2:Nat))).1=(zaf (atB b (2:Nat))).1∧(zaf (atB b (2:Nat))).2.1=(zaf (atB b (2:Nat))).2.1∧(0:Nat)=(0:Nat) ∧
 zac (atB b (2:Nat))=zac (atB b (2:Nat))∧Value.slice none (0:Nat) (0:Nat)=Value.slice none (0:Nat) (0:Nat)∧z.2.2=wrS b p a j m∧zbw b (8:Nat)=zbw b (8:Nat)∧List.replicate (zac (atB b (0 :
 Nat))) zE=List.replicate (zac (atB b (0:Nat))) zE∧List.replicate (zac (atB b (1:Nat))) zE=List.replicate (zac (atB b (1:Nat))) zE∧List.replicate (zac (atB b (2:Nat))) zE=List.replicate (zac (atB b (2 :
 Nat))) zE)∧z.1=t∧z.2.1=p+c∧z.2.2=wrS b p a c m)):=by kernel_rfl
theorem zut(b:By)(k:Nat):yj4 b k=(
 let A0:=List.length b;
 let A1:=(0:Int)=(0:Int);
 let A2(a:Nat):=zaf (atB b a);
 let A3(a b c:Prop):=a∧b∧c;
 let A4:=Value.slice none (0:Nat) (0:Nat);
 let A5(a b c d e:Prop):=A3 a b (A3 c d e);
 let A6:=zge b (atB b (87:Nat)).toNat ((88:Nat),List.replicate (za1 b) (0:Int));
 let A7(a:Nat):=zac (atB b a);
 let A8(a b c d e f g h i:Prop):=A5 a b c d (A5 e f g h i);
 let A9:=A2 (2:Nat);
 let Aa:=(0:Nat)=(0:Nat);
 let Ab:=A2 (1:Nat);
 let Ac:=A2 (0:Nat);
 let Ad(a:Tl):=a.2.1;
 let Ae(a:Nat):=adv A0 (0:Nat) (A6.1+a);
 let Af(a b c d e f g h i j k l m n o p q:Prop):=A8 a b c d e f g h (A8 i j k l m n o p q);
 let Ah(a:Nat):=List.replicate (zac (atB b a)) zE;
 let Ai:=za4 b;
 let Aj:=Ae k;
 let Ak(a:Bool)(c:Prop):=decide ((↑k:Int)<(dN b))=a→c;
 let Al:=k+(List.take (1:Nat) (List.drop (0:Nat) (atB b Aj::[]))).length;
 let Am(a c d:Nat)(e:Prop):=A8 (A4=A4) A1 A1 (false=false) (false=false) A1 A1 A1 (Af A1 A1 A1 A1 A1 (A4=A4) A1 A1 (A4=A4) A1 A1 (A4=A4) (A4=A4) (Ae a=c) (A0-Ae a=A0-c) Aa (Af (List.length A6.2=List.length
  A6.2) Aa ((8:Nat)=(8:Nat)) (dPc b=dPc b) (Ai=Ai) (ze0 b=ze0 b) (zez b=zez b) (zbo b=zbo b) (zbv b=zbv b) A1 (Ai=Ai) A1 A1 (Ac.1=Ac.1) (Ad Ac=Ad Ac) Aa (Af (A7 (0:Nat)=A7 (0:Nat)) (Ab.1 =
  Ab.1) (Ad Ab=Ad Ab) Aa (A7 (1:Nat)=A7 (1:Nat)) (A9.1=A9.1) (Ad A9=Ad A9) Aa (A7 (2:Nat)=A7 (2:Nat)) Aa (a=d) (A6.2=A6.2) (zbw b (8:Nat)=zbw b (8:Nat)) (Ah (0:Nat)=Ah (0:Nat)) (Ah (1:Nat) =
  Ah (1:Nat)) (Ah (2:Nat)=Ah (2:Nat)) e)));
 let An:=atB b Aj::[];
 let Ao(a:Nat):=zax b A6.1 a;
 Ak true (A3 (A3 (Aj≤A0) (A0-Aj=A0-Aj) (zaj b)) (A3 ((0:Nat)+(1:Nat)≤An.length) (k≤List.length (Ao k)) (Al≤(1073741824:Nat))) (∃(x0':Nat),(dN b=dN b∧A5 (dN b=dN b) ((↑x0':Int)=IntKind.u64.wrap ((↑k :
  Int)+(1:Int))) (b=b) (A4=A4) (Am x0' (adv A0 Aj (1:Nat)) Al (Ao x0'=List.take k (Ao k)++List.take (1:Nat) (List.drop (0:Nat) An))))∧A3 ((↑x0':Int)≤dN b) ((dN b).toNat-x0'<(dN b).toNat-k) (∀(x1':Unit),True →
  True)))∧Ak false (∃(x2':Unit),(dN b=dN b∧A3 (b=b) (A4=A4) (Am (dN b).toNat Aj k (Ao (dN b).toNat=Ao k)))∧True)):=by kernel_rfl
theorem yj1(b:By):yam1 b=(
 let A0(a c:Nat):=adv (List.length b) a c;
 let A1(a:Int):=a=(0:Int);
 let A2(a:Nat):=zaf (atB b a);
 let A3:=A1 (0:Int);
 let A4(a:Nat):=A0 (0:Nat) a;
 let A5:=Value.slice none (0:Nat) (0:Nat);
 let A6(a b c:Prop):=a∧b∧c;
 let A7(a:Nat):=zac (atB b a);
 let A8:=List.length b;
 let A9:=(8:Int).toNat;
 let Aa:=A2 (0:Nat);
 let Ab(a:Nat):=A0 a (1:Nat);
 let Ac(a b c d e:Prop):=A6 a b (A6 c d e);
 let Ad:=A2 (2:Nat);
 let Ae(a b c d e f g h i:Prop):=Ac a b c d (Ac e f g h i);
 let Af:=A4 (5:Nat);
 let Ah(a:Nat):=List.replicate (zac (atB b a)) zE;
 let Ai:=(2:Int).toNat;
 let Aj:=List.replicate (za1 b) (0:Int);
 let Ak:=(0:Nat)=(0:Nat);
 let Al:=A2 (1:Nat);
 let Am(a b c d e f g h i j k l m n o p q:Prop):=Ae a b c d e f g h (Ae i j k l m n o p q);
 let An:=A4 (1:Nat);
 let Ao:=A7 (0:Nat);
 let Ap:=Ah (2:Nat);
 let Aq:=A7 (2:Nat);
 let Ar:=Ah (0:Nat);
 let Au:=A4 (4:Nat);
 let Aw:=A5=A5;
 let Ax:=A7 (1:Nat);
 let Ay:=Ah (1:Nat);
 let Az:=A0 Af Ai;
 let AB:=Aa.1;
 let AC(a b:Tl):=a.2.1=b.2.1;
 let AD:=Al.1;
 let AE:=Ad.1;
 let AF:=Ab An;
 let AG:=za4 b;
 let AH(a c:Nat):=zbq (zax b a c);
 let AI:=false=false;
 let AJ(a b:Prop)(c d e f:Nat)(g h i j k l m n o p q r s t u v w x y z B C D E:Prop)(F G:List (El shE)):=Am a b (c=d) Ak (e=f) g h i j k l m n o A3 p (Am q r s t u v w x y z B C D E (Ar=Ar) (Ay=F) (Ap=G));
 let AK:=zge b (atB b (87:Nat)).toNat ((88:Nat),Aj);
 let AL(a:Nat):=A8-a;
 let AM(a:Int):=a≤(8:Int);
 let AN:=A0 Az A9;
 let AO:=A0 AN A9;
 let AP:=AC Aa Aa;
 let AQ(a b:Nat):=AL a=AL b;
 let AR(a c:Nat)(d:Prop)(e f:Int)(g h i j k:Prop):=AJ Aw (a=c) (AL a) (AL c) (za1 b) (za1 b) Aw d (e=f) g h i j A3 k A3 (AB=AB) AP Ak (Ao=Ao) (AD=AD) (AC Al Al) Ak (Ax=Ax) (AE=AE) (AC Ad Ad) Ak (Aq=Aq) Aw
  (Aj=Aj) Ay Ap;
 let AS:=AK.1;
 let AT(a:Prop):=A6 (b=b) Aw (Ac Aw A3 A3 AI (Am AI A3 A3 A3 A3 A3 A3 A3 A3 Aw A3 A3 Aw A3 A3 Aw a));
 let AU:=AM (8:Int);
 let AV:=AM (0:Int);
 let AW:=(atB b Au).tmod (4:Int);
 let AX:=IntKind.i64.wrap ((64:Int)*IntKind.i64.wrap ((1:Int)+(atB b (Ab AF)).tmod (64:Int)));
 let AY(a:List (El [Ty.i IntKind.u64])):=El.zero (Ty.i IntKind.u64::[])::a;
 let AZ:=if (3:Int)<AW then (3:Int) else AW;
 let A157(a:Nat):=(List.replicate a zE).length;
 let A158:=List.length AK.2;
 let A159(a b:Prop)(c:Int):=A6 a b (c≤(4294967296:Int));
 let A160(a:Nat)(c d:Prop):=Ac (a≤A8) (AQ a a) (zaj b) c d;
 let A161(a:Nat)(c:Int)(d e f g h:Nat)(i:Int)(j k l m:Prop):=A6 (A6 (dN b=dN b) ((↑a:Int)=c) (Ae (b=b) Aw Aw A3 A3 AI AI A3 (Am A3 A3 A3 A3 A3 A3 A3 Aw A3 A3 Aw A3 A3 Aw Aw (A4 d=e) (AJ (AQ (A4 d) e) Ak f g (8 :
  Nat) h (dPc b=dPc b) (AG=AG) (ze0 b=ze0 b) (zez b=zez b) (zbo b=i) (zbv b=zbv b) A3 (AG=AG) A3 (AB=AB) AP Ak (Ao=Ao) (AD=AD) (AC Al Al) Ak (Ax=Ax) (AE=AE) (AC Ad Ad) Ak (Aq=Aq) Aw j k Ay Ap)))) l m;
 let A162:=zbw b (8:Nat);
 let A163(a:Bool)(b c d:Prop):=((a=true→b)∧(a=false→c))∧d;
 let A164(a c:Int)(d:Int→Prop):=(atB b (4:Nat)=atB b Au∧AT (AR Af (Ab Au) A3 a c AI AI A3 A3 A3))∧d a;
 let A165(a:Prop)(c:Int→Prop)(d:Int):=(dN b=(if (20000:Int)<AH Af Ai then (20000:Int) else AH Af Ai)∧AT (AR (A4 (31:Nat)) (A0 AO A9) (dPc b=AH Az A9) AG AG (ze0 b=ze0 b) (zez b=zez b) a (zbv b=bits
  BinOp.andNot IntKind.u64 (AH AN A9) (3:Int)) (AG=AG)))∧c d;
 let A166:=AK.2=AK.2;
 let A167(a:Bool)(c:Int):=a=(bits BinOp.and IntKind.i64 (atB b (4:Nat)) c != (0:Int));
 let A168:=ze0 b=ze0 b;
 let A169:=zez b=zez b;
 let A170:=zax b AS (dN b).toNat;
 let A171:=zbv b=zbv b;
 let A172:=zbo b=zbo b;
 let A173:=AG=AG;
 let A174(a:Nat)(b:List (El shE)):=List.replicate a zE=b;
 let A175(a:Nat):=A6 (a≤A8) (AQ a a) (zaj b);
 A6 (A6 ((0:Nat)≤A8) (A8=AL (0:Nat)) (zaj b)) (A175 An) (Ac (A175 AF) (A175 (Ab AF)) ((64:Int)≠(0:Int)) (A159 ((0:Int)≤AX) (AX≤AX) AX) (∃(x0':Unit),AT (AJ Aw (Au=Ab (Ab AF)) (AL Au) (AL (Ab (Ab AF))) (za1 b)
  AX.toNat Aw A3 A3 AI AI A3 A3 A3 A3 A3 (AB=AB) AP Ak (Ao=Ao) (AD=(A2 An).1) (AC Al (A2 An)) Ak (Ax=A7 An) (AE=(A2 AF).1) (AC Ad (A2 AF)) Ak (Aq=A7 AF) Aw (Aj=List.replicate AX.toNat (El.zero (Ty.i IntKind.u8::[]))) (Ah
  An) (Ah AF))∧A6 (A175 Au) ((4:Int)≠(0:Int)) (∃(x1':Int→Prop),A163 (AZ==(3:Int)) (∃(x2':Int),A164 x2' (1:Int) x1') (∃(x3':Int),A164 x3' AZ x1') (∀(x4':Int),x1' x4'→∃(x5':Unit),A6 (AT (AR Af Af A3 AG x4'
  (A167 (ze0 b) (4:Int)) (A167 (zez b) (8:Int)) A3 A3 (AG=x4'))) (A160 Af ((0:Int)≤(2:Int)) (AM (2:Int))) (Ac (A160 Az AV AU) (A160 AN AV AU) (A160 AO AV AU) (U64 (AH AO A9)) (∃(x6':Int→Prop),A163 (zbu (AH AO A9)) (∃
  (x7':Int),A165 (x7'=AH AO A9) x6' x7') (∃(x8':Int),A165 (A1 x8') x6' x8') (∀(x9':Int),x6' x9'→A159 AV AU (8:Int)∧∃(x10':Nat),A161 x10' (1:Int) ((23:Nat)+(8:Nat)*x10') (A4 (31:Nat)) Aj.length (za1 b) A9
  x9' (Aj=Aj) (zbw b x10'=AY (AY (AY (AY (AY (AY (AY (AY [])))))))) ((1:Nat)≤x10'∧x10'≤(8:Nat)) (∀(x11':Unit),True→A175 (A4 (87:Nat))∧∃(x12':Nat × Nat × By),A161 x12'.1 (atB b (A4 (87:Nat))) x12'.2.1 (Ab
  (A4 (87:Nat))) (List.length x12'.2.2) Aj.length (8:Nat) (zbo b) (x12'.2.2=Aj) (A162=A162) (yw4 b x12'.1 x12'.2.1 x12'.2.2) (∀(x13':Unit),True→∃(x14':Nat),A6 (dN b=dN b∧Ac (dN b=dN b) (A1 (↑x14' :
  Int)) (b=b) Aw (Ae Aw A3 A3 AI AI A3 A3 A3 (Am A3 A3 A3 A3 A3 Aw A3 A3 Aw A3 A3 Aw Aw (A4 (AS+x14')=A4 AS) (AQ (A4 (AS+x14')) (A4 AS)) Ak (Am (A158=A158) Ak ((8:Nat)=(8:Nat)) (dPc b=dPc b) A173 A168 A169 A172 A171 A3 A173
  A3 A3 (AB=AB) AP Ak (Am (Ao=Ao) (AD=AD) (AC Al Al) Ak (Ax=Ax) (AE=AE) (AC Ad Ad) Ak (Aq=Aq) Ak (x14'=(0:Nat)) A166 (A162=A162) (Ar=Ar) (Ay=Ay) (Ap=Ap) (zax b AS x14'=[])))))) ((↑x14':Int)≤dN b) (∀(x15' :
  Unit),True→A6 Ak (A158=A158) (Am Ak (List.length A162=(8:Nat)) (dPc b=dPc b) A173 A168 A169 A172 A171 A3 A173 A3 A3 (AB=AB) AP Ak (A157 Ao=Ao) (Am (AD=AD) (AC Al Al) Ak (A157 Ax=Ax) (AE=AE) (AC Ad Ad) Ak (A157 Aq=Aq)
  Ak (List.length A170=(dN b).toNat) (b=b) A166 (A162=A162) (A174 Ao Ar) (A174 Ax Ay) (A174 Aq Ap) (A170=A170)))))))))))))):=by kernel_rfl
set_option linter.unusedSimpArgs false
set_option linter.unusedVariables false
theorem zkx(b:By)(p a:Nat):∀(j:Nat)(m:By),(wrS b p a j m).length=m.length
 | 0,m=>rfl
 | j+1,m=>by
  have e:=zkx b p a j m
  unfold wrS
  split
  · rw[List.length_set,e]
  · exact e
theorem ybf{b:By}(hb:zaj b)(p a:Nat):∀(j:Nat){m:By},zaj m→zaj (wrS b p a j m)
 | 0,m,h=>h
 | j+1,m,h=>by
  have e:=ybf hb p a j h
  have hl:=zkx b p a (j+1) m
  refine⟨by rw[hl];exact h.1, ?_⟩
  unfold wrS
  split
  · intro x hx
    rcases List.mem_or_eq_of_mem_set hx with q|q
    · exact e.2 x q
    · rw[q];exact zb2 hb _
  · exact e.2
theorem ycn(b:By){i:Nat}(h0:1≤i)(h1:i<8):zbw b (i+1)=(zbw b i).set i (zbq (zax b (23+8*i) 8)):=by
 unfold zbw
 have hc:i=1∨i=2∨i=3∨i=4∨i=5∨i=6∨i=7:=by omega
 rcases hc with rfl|rfl|rfl|rfl|rfl|rfl|rfl<;>rfl
theorem zdj(b:By)(i:Nat):(zbw b i).length=8:=by simp[zbw]
theorem yip(b:By):zbw b 1=List.replicate 8 0:=by rfl
theorem num2{b:By}(hb:zaj b)(p:Nat):zbq (zax b p 2)=atB b p+256*atB b (p+1):=by
 show atB b (p+0)+256*(atB b (p+1)+256*0)=_
 rw[Nat.add_zero]
 omega
theorem zja{b:By}(hb:zaj b):64*(1+atB b 3 % 64)=(za1 b:Int)∧za1 b≤4096:=by
 have:=zb2 hb 3
 unfold za1
 omega
theorem ymp{b:By}(hb:zaj b):0≤dN b∧dN b≤20000:=by
 have:=zl9 hb 5 2
 unfold dN
 omega
theorem zx3{n:Nat}(h:n≤4096):zaj (List.replicate n (0:Int)):=by
 refine⟨by rw[List.length_replicate];unfold SzR;omega,fun x hx => ?_⟩
 rw[(List.mem_replicate.1 hx).2]
 exact⟨by decide,by decide⟩
theorem ya0{b:By}(hb:zaj b):∀(t p:Nat)(m:By),t≤255→p≤88+258*(255-t)→zaj m→(zge b t (p,m)).1≤65878∧(zge b t (p,m)).2.length=m.length∧zaj (zge b t (p,m)).2
 | 0,p,m,h0,h1,h2=>by
  refine⟨?_,rfl,h2⟩
  show p≤_
  omega
 | t+1,p,m,h0,h1,h2=>by
  have c:=zb2 hb (p+2)
  have:=ya0 hb t (p+3+(atB b (p+2)).toNat) (wrS b (p+3) (atB b p+256*atB b (p+1)).toNat (atB b (p+2)).toNat m) (by omega) (by omega) (ybf hb _ _ _ h2)
  rw[zkx] at this
  exact this
theorem zqo{b:By}(hb:zaj b):(zi9 b).1≤65878∧(zi9 b).2.length=za1 b∧zaj (zi9 b).2:=by
 have c:=zb2 hb 87
 have:=ya0 hb (atB b 87).toNat 88 (List.replicate (za1 b) 0) (by omega) (by omega) (zx3 (zja hb).2)
 rw[List.length_replicate] at this
 exact this
theorem zsp:DictOk Tryz.prog FDB:=zay (.cons (by kernel_rfl) ya2 (.cons (by kernel_rfl) yvh (.cons (by kernel_rfl) yvn (.cons (by kernel_rfl) zno .nil)))) .nil .nil
theorem zfn(n a c:Nat):adv n (adv n 0 a) c=adv n 0 (a+c):=yfa n 0 a c
theorem zk0{b:By}(a:Nat):atB b (adv b.length 0 a)=atB b a:=by rw[zqk,Nat.zero_add]
theorem zhw{b:By}(a k:Nat):zax b (adv b.length 0 a) k=zax b a k:=by rw[yfi,Nat.zero_add]
theorem yx7{b:By}(hb:zaj b):zbr Tryz.prog 1 (zag Tryz.f57 0) (ymq b):=by
 refine zda mixed zsp (by kernel_rfl) (fun i:Nat=>8-i) (fun  (i:Nat) hi=>⟨zwa b,zab (zuq b i) ⟨fun q => ?_,fun q => ?_⟩⟩)
 · obtain⟨h0,h1⟩:1≤i∧i≤8:=hi
   have q:(i:Int)<8:=of_decide_eq_true q
   have e:IntKind.i64.wrap ((i:Int)+1)=((i+1:Nat):Int):=by rw[zaa (by omega) (by omega)];omega
   have e2:adv b.length (adv b.length 0 (23+8*i)) (Int.toNat 8)=adv b.length 0 (23+8*(i+1)):=by rw[zfn];congr 1
   have e3:0+(i:Int).toNat=i:=by omega
   refine⟨⟨ze6 _ _ _,rfl,hb,by decide,by decide⟩,⟨by omega,q⟩,by rw[e3,zdj];omega,i+1, ?_,⟨by omega,by omega⟩,by omega,fun _ _=>trivial⟩
   rw[e,e2,e3,zhw,ycn b h0 (by omega)]
   repeat' apply And.intro
   all_goals rfl
 · obtain⟨h0,h1⟩:1≤i∧i≤8:=hi
   have q:¬ (i:Int)<8:=of_decide_eq_false q
   have:i=8:=by omega
   subst this
   refine⟨(), ?_,trivial⟩
   repeat' apply And.intro
   all_goals rfl
theorem yqk{b:By}(hb:zaj b):zbr Tryz.prog 1 (zag Tryz.f57 2) (yfq b):=by
 refine zda mixed zsp (by kernel_rfl) (fun x:Nat × Nat × Nat × Nat × Nat × By=>x.2.2.2.1-x.2.2.2.2.1) (fun  (x:Nat × Nat × Nat × Nat × Nat × By) hx => ?_)
 obtain⟨t,p,a,c,j,m⟩:=x
 obtain⟨h0,h1,h2,h3,h4,h5⟩:t≤255∧p≤100000∧a≤100000∧c≤255∧j≤c∧SzR m.length:=hx
 have hs:=zb2 hb (p+j)
 refine⟨zwa b,zab (zus b t p a c j m) ⟨fun q => ?_,fun q => ?_⟩⟩
 · have q:((c-j:Nat):Int)>0:=of_decide_eq_true q
   have e1:IntKind.i64.wrap (((a+j:Nat):Int)+1)=((a+(j+1):Nat):Int):=by rw[zaa (by omega) (by omega)];omega
   have e2:IntKind.i64.wrap (((c-j:Nat):Int)-1)=((c-(j+1):Nat):Int):=by rw[zaa (by omega) (by omega)];omega
   have e3:adv b.length (adv b.length 0 (p+j)) 1=adv b.length 0 (p+(j+1)):=by rw[zfn];congr 1
   have e4:0+((a+j:Nat):Int).toNat=a+j:=by omega
   have e5:IntKind.u8.wrap (atB b (p+j))=atB b (p+j):=by rw[wrap_u8];omega
   rw[e1,e2,e3,e4,zk0,e5]
   refine⟨⟨ze6 _ _ _,rfl,hb⟩,fun r => ?_,fun r => ?_⟩
   · have r:((a+j:Nat):Int)<((wrS b p a j m).length:Int):=of_decide_eq_true r
     have e6:wrS b p a (j+1) m=(wrS b p a j m).set (a+j) (atB b (p+j)):=by
      rw[wrS];exact if_pos (by omega)
     refine⟨⟨by omega,r⟩,by omega,(t,p,a,c,j+1,m), ?_,⟨h0,h1,h2,h3,by show j+1≤c;omega,h5⟩,by show c-(j+1)<c-j;omega,fun z hz=>hz⟩
     show _∧_
     dsimp only
     rw[e6,List.length_set]
     repeat' apply And.intro
     all_goals rfl
   · have r:¬ ((a+j:Nat):Int)<((wrS b p a j m).length:Int):=of_decide_eq_false r
     have e6:wrS b p a (j+1) m=wrS b p a j m:=by
      rw[wrS];exact if_neg (by omega)
     refine⟨(t,p,a,c,j+1,m), ?_,⟨h0,h1,h2,h3,by show j+1≤c;omega,h5⟩,by show c-(j+1)<c-j;omega,fun z hz=>hz⟩
     show _∧_
     dsimp only
     rw[e6]
     repeat' apply And.intro
     all_goals rfl
 · have q:¬ ((c-j:Nat):Int)>0:=of_decide_eq_false q
   have:j=c:=by omega
   subst this
   refine⟨(t,p+j,wrS b p a j m), ?_,rfl,rfl,rfl⟩
   repeat' apply And.intro
   all_goals rfl
theorem yx8{b:By}(hb:zaj b):zbr Tryz.prog 1 (zag Tryz.f57 1) (ymr b):=by
 refine zdh (Ξ:=zwa b) mixed zsp (fun c hc k L hk hL => ?_) (fun x:Nat × Nat × By=>x.1) (fun  (x:Nat × Nat × By) hx => ?_)
 · have e:zap (zag Tryz.f57 1)=[zag Tryz.f57 2]:=by kernel_rfl
   rw[e] at hc
   have e:=List.mem_singleton.1 hc
   subst e
   have hk2:zbj (zag Tryz.f57 2)=some 27:=by kernel_rfl
   rw[hk2] at hk
   cases hk
   have:(zwa b).loop 27=some (yfq b):=rfl
   rw[this] at hL
   cases hL
   exact yqk hb
 · obtain⟨t,p,m⟩:=x
   obtain⟨h0,h1,h2,h3,h4⟩:t≤255∧p≤88+258*(255-t)∧m.length=za1 b∧zaj m∧zge b t (p,m)=zi9 b:=hx
   have key:znx b t p m:=by
    have a0:=zb2 hb p
    have a1:=zb2 hb (p+1)
    have a2:=zb2 hb (p+2)
    refine zab (zur b t p m) ?_
    conv=>zeta
    refine⟨fun q => ?_,fun q => ?_⟩
    · have q:(t:Int)>0:=of_decide_eq_true q
      obtain⟨t',rfl⟩:∃t',t=t'+1:=⟨t-1,by omega⟩
      have e1:adv b.length (adv b.length 0 p) (Int.toNat 2)=adv b.length 0 (p+2):=zfn _ _ _
      have e2:adv b.length (adv b.length 0 (p+2)) 1=adv b.length 0 (p+3):=zfn _ _ _
      have e3:zax b (adv b.length 0 p) (Int.toNat 2)=zax b p 2:=zhw _ _
      have e4:zbq (zax b p 2)=(((atB b p+256*atB b (p+1)).toNat:Nat):Int):=by rw[num2 hb];omega
      have e5:IntKind.i64.wrap (((atB b p+256*atB b (p+1)).toNat:Nat):Int)=(((atB b p+256*atB b (p+1)).toNat:Nat):Int):=zaa (by omega) (by omega)
      rw[e1,e2,e3,e4,e5,zk0]
      refine⟨⟨ze6 _ _ _,rfl,hb,by decide,by decide⟩,⟨ze6 _ _ _,rfl,hb⟩,(t'+1,p+3,(atB b p+256*atB b (p+1)).toNat,(atB b (p+2)).toNat,0,m), ?_,⟨h0,by show p+3≤100000;omega,by show (atB b p+256*atB b (p+1)).toNat≤100000;omega,by show (atB b (p+2)).toNat≤255;omega,Nat.zero_le _,h3.1⟩, ?_⟩
      · have e7:(((atB b (p+2)).toNat-0:Nat):Int)=atB b (p+2):=by omega
        dsimp only
        rw[e7]
        repeat' apply And.intro
        all_goals rfl
      · rintro⟨z1,z2,z3⟩ ⟨rfl,rfl,rfl⟩
        dsimp only
        have e8:IntKind.i64.wrap (((t'+1:Nat):Int)-1)=(t':Int):=by rw[zaa (by omega) (by omega)];omega
        rw[e8]
        refine⟨(t',p+3+(atB b (p+2)).toNat,wrS b (p+3) (atB b p+256*atB b (p+1)).toNat (atB b (p+2)).toNat m), ?_,⟨by show t'≤255;omega,by show p+3+(atB b (p+2)).toNat≤88+258*(255-t');omega,by rw[zkx];exact h2,ybf hb _ _ _ h3,h4⟩,by show t'<t'+1;omega,fun _ _=>trivial⟩
        repeat' apply And.intro
        all_goals rfl
    · have q:¬ (t:Int)>0:=of_decide_eq_false q
      have:t=0:=by omega
      subst this
      have e1:(zge b (atB b 87).toNat (88,List.replicate (za1 b) 0)).1=p:=by
       show (zi9 b).1=p;rw[← h4];rfl
      have e2:(zge b (atB b 87).toNat (88,List.replicate (za1 b) 0)).2=m:=by
       show (zi9 b).2=m;rw[← h4];rfl
      rw[e1,e2]
      refine⟨(), ?_,trivial⟩
      repeat' apply And.intro
      all_goals rfl
   unfold znx zam at key
   exact key
theorem yx9{b:By}(hb:zaj b):zbr Tryz.prog 1 (zag Tryz.f57 3) (yms b):=by
 refine zda mixed zsp (by kernel_rfl) (fun k:Nat=>(dN b).toNat-k) (fun  (k:Nat) hk=>⟨zwa b,zab (zut b k) ?_⟩)
 conv=>zeta
 have hk:(k:Int)≤dN b:=hk
 have hn:=ymp hb
 have hp:=(zqo hb).1
 unfold zi9 at hp
 generalize (zge b (atB b 87).toNat (88,List.replicate (za1 b) 0))=z at hp ⊢
 refine⟨fun q => ?_,fun q => ?_⟩
 · have q:(k:Int)<dN b:=of_decide_eq_true q
   have e1:IntKind.u64.wrap ((k:Int)+1)=((k+1:Nat):Int):=by rw[zah (by omega) (by omega)];omega
   have e2:adv b.length (adv b.length 0 (z.1+k)) 1=adv b.length 0 (z.1+(k+1)):=zfn _ _ _
   rw[e1,e2,zk0]
   refine⟨⟨ze6 _ _ _,rfl,hb⟩,⟨Nat.le_refl 1,Nat.le_of_eq (zbk _ _ _).symm,by show k+1≤_;omega⟩,k+1, ?_,by omega,by omega,fun _ _=>trivial⟩
   have e3:zax b z.1 (k+1)=List.take k (zax b z.1 k)++List.take 1 (List.drop 0 [atB b (z.1+k)]):=by
    rw[zhv,List.take_of_length_le (Nat.le_of_eq (zbk _ _ _))]
    rfl
   rw[e3]
   repeat' apply And.intro
   all_goals rfl
 · have q:¬ (k:Int)<dN b:=of_decide_eq_false q
   have:(dN b).toNat=k:=by omega
   rw[this]
   refine⟨(), ?_,trivial⟩
   repeat' apply And.intro
   all_goals rfl
theorem yvp{x:Int}(h0:0≤x)(h1:x<256):(bits .and .i64 x 4 != 0)=(x/4 % 2==1)∧(bits .and .i64 x 8 != 0)=(x/8 % 2==1):=by
 have key:(List.range 256).all (fun n=>(bits .and .i64 (n:Int) 4 != 0)==((n:Int)/4 % 2==1)&&(bits .and .i64 (n:Int) 8 != 0)==((n:Int)/8 % 2==1))=true:=by kernel_rfl
 have:=List.all_eq_true.1 key x.toNat (List.mem_range.2 (by omega))
 rw[show ((x.toNat:Nat):Int)=x by omega] at this
 obtain⟨a,c⟩:=Bool.and_eq_true_iff.mp this
 exact⟨eq_of_beq a,eq_of_beq c⟩
theorem yfs{b:By}(hb:zaj b):∀c ∈ zap (zau Tryz.f57),∀k L,zbj c=some k→(zwa b).loop k=some L→zbr Tryz.prog 1 c L:=by
 intro c hc k L hk hL
 have e:zap (zau Tryz.f57)=[zag Tryz.f57 0,zag Tryz.f57 1,zag Tryz.f57 2,zag Tryz.f57 3]:=by kernel_rfl
 rw[e] at hc
 rcases List.mem_cons.1 hc with rfl|hc
 · have hk2:zbj (zag Tryz.f57 0)=some 19:=by kernel_rfl
   rw[hk2] at hk
   cases hk
   have:(zwa b).loop 19=some (ymq b):=rfl
   rw[this] at hL
   cases hL
   exact yx7 hb
 rcases List.mem_cons.1 hc with rfl|hc
 · have hk2:zbj (zag Tryz.f57 1)=some 23:=by kernel_rfl
   rw[hk2] at hk
   cases hk
   have:(zwa b).loop 23=some (ymr b):=rfl
   rw[this] at hL
   cases hL
   exact yx8 hb
 rcases List.mem_cons.1 hc with rfl|hc
 · have hk2:zbj (zag Tryz.f57 2)=some 27:=by kernel_rfl
   rw[hk2] at hk
   cases hk
   have:(zwa b).loop 27=some (yfq b):=rfl
   rw[this] at hL
   cases hL
   exact yqk hb
 · have e:=List.mem_singleton.1 hc
   subst e
   have hk2:zbj (zag Tryz.f57 3)=some 34:=by kernel_rfl
   rw[hk2] at hk
   cases hk
   have:(zwa b).loop 34=some (yms b):=rfl
   rw[this] at hL
   cases hL
   exact yx9 hb
theorem yya:Sound Tryz.prog 57 (zai [byP] [scP] (fun b=>some (zaj b)) zhx):=by
 refine zit mixed (fn:=Tryz.f57) Tryz.func57 (by kernel_rfl) zsp (fun  (b:By)(hb:zaj b)=>⟨zwa b,yfs hb,zab (yj1 b) ?_⟩)
 conv=>zeta
 have a3:=zb2 hb 3
 have a4:=zb2 hb 4
 have a87:=zb2 hb 87
 have hS:=yvp a4.1 a4.2
 have hd:=zja hb
 have hn:=ymp hb
 have t3:(atB b 3).tmod 64=atB b 3 % 64:=zb1 a3.1
 have w3:IntKind.i64.wrap (1+atB b 3 % 64)=1+atB b 3 % 64:=zaa (by omega) (by omega)
 have w4:IntKind.i64.wrap (64*(1+atB b 3 % 64))=(za1 b:Int):=by rw[zaa (by omega) (by omega)];exact hd.1
 have t4:(atB b 4).tmod 4=atB b 4 % 4:=zb1 a4.1
 have c4:(if 3<atB b 4 % 4 then (3:Int) else atB b 4 % 4)=atB b 4 % 4:=if_neg (by omega)
 have u2:=zl9 hb 5 2
 have hx:(if 20000<zbq (zax b 5 2) then (20000:Int) else zbq (zax b 5 2))=dN b:=by
  unfold dN
  split<;>omega
 have u15:=zef hb 15 (Nat.le_refl 8)
 have hv:bits .andNot .u64 (zbq (zax b 15 8)) 3=zbv b:=by
  have:=zl7 2 (by decide) u15.1 u15.2
  rw[show (2:Int) ^ 2-1=3 by decide,show (2:Int) ^ 2=4 by decide] at this
  rw[this]
  unfold zbv
  omega
 have z0:List.replicate (za1 b) (El.zero [Ty.i .u8])=List.replicate (za1 b) (0:Int):=rfl
 have x1:adv b.length (adv b.length 0 1) 1=adv b.length 0 2:=zfn _ _ _
 have x2:adv b.length (adv b.length 0 2) 1=adv b.length 0 3:=zfn _ _ _
 have x3:adv b.length (adv b.length 0 3) 1=adv b.length 0 4:=zfn _ _ _
 have x4:adv b.length (adv b.length 0 4) 1=adv b.length 0 5:=zfn _ _ _
 have x5:adv b.length (adv b.length 0 5) (Int.toNat 2)=adv b.length 0 7:=zfn _ _ _
 have x6:adv b.length (adv b.length 0 7) (Int.toNat 8)=adv b.length 0 15:=zfn _ _ _
 have x7:adv b.length (adv b.length 0 15) (Int.toNat 8)=adv b.length 0 23:=zfn _ _ _
 have x8:adv b.length (adv b.length 0 23) (Int.toNat 8)=adv b.length 0 31:=zfn _ _ _
 have x9:adv b.length (adv b.length 0 87) 1=adv b.length 0 88:=zfn _ _ _
 have y5:zax b (adv b.length 0 5) (Int.toNat 2)=zax b 5 2:=zhw _ _
 have y7:zax b (adv b.length 0 7) (Int.toNat 8)=zax b 7 8:=zhw _ _
 have y15:zax b (adv b.length 0 15) (Int.toNat 8)=zax b 15 8:=zhw _ _
 have y23:zax b (adv b.length 0 23) (Int.toNat 8)=zax b 23 8:=zhw _ _
 have hend:=zqo hb
 rw[x1,x2,x3,x4,x5,x6,x7,x8,x9,y5,y7,y15,y23,zk0 1,zk0 2,zk0 3,zk0 4,zk0 87,t3,w3,w4,t4,c4,hx,hv,hS.1,hS.2]
 refine⟨⟨Nat.zero_le _,rfl,hb⟩,⟨ze6 _ _ _,rfl,hb⟩,⟨ze6 _ _ _,rfl,hb⟩,⟨ze6 _ _ _,rfl,hb⟩,by decide,⟨by omega,Int.le_refl _,by omega⟩,(), ?_,⟨ze6 _ _ _,rfl,hb⟩,by decide,fun z=>z=za4 b,⟨fun q=>⟨1, ?_, ?_⟩,fun q=>⟨atB b 4 % 4, ?_, ?_⟩⟩,fun z hz => ?_⟩
 · repeat' apply And.intro
   all_goals rfl
 · repeat' apply And.intro
   all_goals rfl
 · have q:atB b 4 % 4=3:=eq_of_beq q
   show 1=za4 b
   unfold za4
   rw[if_pos q]
 · repeat' apply And.intro
   all_goals rfl
 · have q:¬ atB b 4 % 4=3:=ne_of_beq_false q
   show _=za4 b
   unfold za4
   rw[if_neg q]
 subst hz
 refine⟨(), ?_,⟨ze6 _ _ _,rfl,hb,by decide,by decide⟩,⟨ze6 _ _ _,rfl,hb,by decide,by decide⟩,⟨ze6 _ _ _,rfl,hb,by decide,by decide⟩,⟨ze6 _ _ _,rfl,hb,by decide,by decide⟩,zef hb 23 (Nat.le_refl 8),fun z=>z=zbo b,⟨fun q=>⟨zbq (zax b 23 8), ?_, ?_⟩,fun q=>⟨0, ?_, ?_⟩⟩,fun z hz => ?_⟩
 · repeat' apply And.intro
   all_goals rfl
 · repeat' apply And.intro
   all_goals rfl
 · show _=zbo b
   unfold zbo
   rw[if_pos q]
 · repeat' apply And.intro
   all_goals rfl
 · show _=zbo b
   unfold zbo
   rw[if_neg (by rw[q];decide)]
 subst hz
 refine⟨⟨by decide,by decide,by decide⟩,1, ?_,⟨Nat.le_refl 1,by decide⟩,fun _ _=>⟨⟨ze6 _ _ _,rfl,hb⟩,((atB b 87).toNat,88,List.replicate (za1 b) 0), ?_,⟨by show (atB b 87).toNat≤255;omega,by show 88≤88+_;omega,List.length_replicate,zx3 hd.2,rfl⟩,fun _ _=>⟨0, ?_,hn.1,fun _ _ => ?_⟩⟩⟩
 · rw[List.length_replicate,yip]
   repeat' apply And.intro
   all_goals rfl
 · have e:(((atB b 87).toNat:Nat):Int)=atB b 87:=by omega
   dsimp only
   rw[e]
   repeat' apply And.intro
   all_goals rfl
 · rw[Nat.add_zero]
   repeat' apply And.intro
   all_goals rfl
 · rw[zbk,zdj,List.length_replicate,List.length_replicate,List.length_replicate]
   repeat' apply And.intro
   all_goals rfl
end Go.Proofs.YtfiddfbagbaofaaGreat.V
