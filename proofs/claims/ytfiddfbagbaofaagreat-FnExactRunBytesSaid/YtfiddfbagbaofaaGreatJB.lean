/- Runs' law. Conditions: those in each statement. -/
import Derived.Test.YtfiddfbagbaofaaGreatJA
import Derived.KernelRfl
namespace Go.Proofs.YtfiddfbagbaofaaGreat.V
open Go
set_option linter.unusedVariables false
-- flat
abbrev evP:Pm := .st [.i .u64,.i .i64,.i .i64,.i .u64]
abbrev yea:Pm := .one (.sl shV)
def yhz(k:Int):Int × Int × Int × Int:=(k,k+1,k+2,k+3)
def zcd(k:Int)(n:Nat):Evs:=(List.range n).map fun i:Nat=>yhz (k+4*(i:Int))
def ywa(a b c d:Int):Prop:=zal Tryz.prog F0 .none Tryz.f188 [evP,evP] [bl] ((a,b,c,d),(a,b,c,d)) true
def yal(m:Evs)(k:Int):LoopS where
 α:=Nat
 I i:=i≤m.length
 sl i:=slots 43 [(0,.sl 0 4 0 m.length),(1,.v (.int .i64 (k+4*(i:Int)))),(5,.v (.int .i64 i))]
 H i:=[.arr shV (zcd k i++m.drop i) true]
 fams:=[{ β:=Unit,out:=fun _ _=>True,ex := .ext 0,sl:=fun _=>slots 43 [(1,.v (.int .i64 (k+4*m.length)))],H:=fun _=>[.arr shV (zcd k m.length) true] }]
def yh0(m:Evs)(k:Int):Specs:={ Specs.one 2 (yal m k) with cut:=fun r=>if r=6∨r=8∨r=10∨r=3 then some (CutS.mk (Int × Int × Evs) (fun z=>slots 43 [(0,.sl 0 4 0 m.length),(1,.v (.int .i64 z.2.1)),(5,.v (.int .i64 z.1))]) (fun z=>[.arr shV z.2.2 true])) else none }
def zyu(m:Evs)(k:Int)(i:Nat):Prop:=zam Tryz.prog F0 (yh0 m k) 1 (zag Tryz.f105 0) (yal m k) (fun i:Nat=>m.length-i) i
def yky(m:Evs)(k:Int):Prop:=zon Tryz.prog F0 (yh0 m k) Tryz.f105 [yea,i64] [i64] (m,k) ((zcd k m.length,k),k+4*m.length)
def ztj(m:Evs)(k:Int):LoopS where
 α:=Nat
 I i:=i≤m.length
 sl i:=slots 51 [(0,.sl 0 4 0 m.length),(1,.v (.int .i64 (k+4*(i:Int)))),(5,.v (.int .i64 i))]
 H _:=[.arr shV m false]
 fams:=[{ β:=Unit,out:=fun _ _=>True,ex := .ext 0,sl:=fun _=>slots 51 [(1,.v (.int .i64 (k+4*m.length)))],H:=fun _=>[.arr shV m false] }]
def zyg(m:Evs)(k:Int)(i:Nat):Prop:=zam Tryz.prog F0 (.one 2 (ztj m k)) 1 (zag Tryz.f107 0) (ztj m k) (fun i:Nat=>m.length-i) i
def ykk(m:Evs)(k:Int):Prop:=zal Tryz.prog F0 (.one 2 (ztj m k)) Tryz.f107 [yea,i64] [i64] (m,k) (k+4*m.length)
def kJB0:Known:=[(188,zai [evP,evP] [bl] (fun t=>some (t.1=t.2)) (fun _=>true))]
def FJB0:Dict:=mkD kJB0 [] []
def yyh(m n:Evs):LoopS where
 α:=Nat
 I i:=i≤m.length
 sl i:=slots 27 [(0,.sl 0 4 0 m.length),(1,.sl 1 4 0 n.length),(5,.v (.int .i64 i))]
 H _:=[.arr shV m false,.arr shV n false]
 fams:=[{ β:=Unit,out:=fun _ _=>True,ex := .ext 0,sl:=fun _=>slots 27 [],H:=fun _=>[.arr shV m false,.arr shV n false] }]
def yj8(m n:Evs)(i:Nat):Prop:=zam Tryz.prog FJB0 (.one 4 (yyh m n)) 2 (zag Tryz.f103 0) (yyh m n) (fun i:Nat=>m.length-i) i
def ywd(m n:Evs):Prop:=zal Tryz.prog FJB0 (.one 4 (yyh m n)) Tryz.f103 [yea,yea] [bl] (m,n) true
def kJB1:Known:=[
 (103,zai [yea,yea] [bl] (fun t=>some (t.1=t.2∧SzR t.1.length)) (fun _=>true)),
 (105,yam [yea,i64] [i64] (fun t=>some (zdd t.1.length t.2)) (fun t=>((zcd t.2 t.1.length,t.2),t.2+4*t.1.length))),
 (107,zai [yea,i64] [i64] (fun t=>some (zdd t.1.length t.2∧t.1=zcd t.2 t.1.length)) (fun t=>t.2+4*t.1.length))]
def FJB1:Dict:=mkD (kJB1++kDD1++kHA1++kB3) [] []
def yp9(t:Re):Prop:=SzR t.1.length∧SzR t.2.1.length∧SzR t.2.2.1.length
def zpn(t:Re)(n:Int):Re:=(zcd n t.1.length,zd0 (n+4*t.1.length) t.2.1.length,zds (n+4*t.1.length+t.2.1.length) t.2.2.1.length,t.2.2.2)
def zpl(t:Re)(n:Int):Int:=n+4*t.1.length+t.2.1.length+t.2.2.1.length
def ywb(e:Evs)(m:By)(u:Us)(a b:Int)(c d:Bool)(f g h i j:Int):Prop:=zal Tryz.prog FJB1 .none Tryz.f33 [reP,reP] [bl] ((e,m,u,a,b,c,d,f,g,h,i,j),(e,m,u,a,b,c,d,f,g,h,i,j)) true
def ykw(e:Evs)(m:By)(u:Us)(a b:Int)(c d:Bool)(f g h i j n:Int):Prop:=zon Tryz.prog FJB1 .none Tryz.f35 [reP,i64] [i64] ((e,m,u,a,b,c,d,f,g,h,i,j),n) ((zpn (e,m,u,a,b,c,d,f,g,h,i,j) n,n),zpl (e,m,u,a,b,c,d,f,g,h,i,j) n)
def yki(e:Evs)(m:By)(u:Us)(a b:Int)(c d:Bool)(f g h i j n:Int):Prop:=zal Tryz.prog FJB1 .none Tryz.f36 [reP,i64] [i64] ((e,m,u,a,b,c,d,f,g,h,i,j),n) (zpl (e,m,u,a,b,c,d,f,g,h,i,j) n)
def kJB2:Known:=[
 (33,zai [reP,reP] [bl] (fun t=>some (t.1=t.2∧yp9 t.1)) (fun _=>true)),
 (35,yam [reP,i64] [i64] (fun t=>some (yp9 t.1∧InN t.2)) (fun t=>((zpn t.1 t.2,t.2),zpl t.1 t.2))),
 (36,zai [reP,i64] [i64] (fun t=>some ((yp9 t.1∧InN t.2)∧t.1=zpn t.1 t.2)) (fun t=>zpl t.1 t.2)),
 (21,zai [byP,bl] [reP] (fun t=>some (zaj t.1)) (fun t=>yco t.1 t.2)),
 (19,zai [byP,bl] [reP] (fun t=>some (zaj t.1)) (fun t=>yco t.1 t.2))]
def FJB2:Dict:=mkD (kJB2++kB3) [] []
def ydl(b:By)(pl:Bool):Prop:=zal Tryz.prog FJB2 .none Tryz.f7 [byP,bl] [bl] (b,pl) true
set_option linter.unusedVariables false
set_option maxRecDepth 10000
theorem yc3(a b c d:Int):ywa a b c d=(
 ((a != a)=true→true=false)∧((a != a)=false→((b != b)=true→true=false)∧((b != b)=false→((c != c)=true→true=false)∧((c != c)=false→((d != d)=true→true=false)∧((d != d)=false→true=true))))):=by kernel_rfl
theorem zox(m:Evs)(k:Int)(i:Nat):zyu m k i=(
 let A0:=List.length m;
 let A1(a:Int):=(0:Nat)+a.toNat;
 let A2(a:Int × Int × Evs):=a.2.2;
 let A3(a:Int × Int × Evs):=A1 a.1;
 let A4:=(↑i:Int);
 let A5(a:Int × Int × Evs):=a.2.1;
 let A6:=(↑A0:Int);
 let A7(a b c:Prop):=a∧b∧c;
 let A8(a:Int × Int × Evs):=List.getD (A2 a) (A3 a) (El.zero shV);
 let A9(a b:Int):=a=IntKind.i64.wrap (b+1);
 let Aa(a b c:Prop):=A7 ((0:Nat)=0) (A0=A0) (A7 a b c);
 let Ab(a:Bool)(b:Prop):=decide (A4<A6)=a→b;
 let Ac(a b:Int × Int × Evs)(c:(Ty.i IntKind.i64).T × El [Ty.i IntKind.u64])(d:Prop):=Aa (A9 (A5 a) (A5 b)) (a.1=b.1) (A2 a=List.set (A2 b) (A3 b) ((A8 b).1,(A8 b).2.1,c))∧d;
 let Ad(a:Int × Int × Evs)(b c:Int)(d:Evs)(e:Nat)(f:(Ty.i IntKind.u64).T × El [Ty.i IntKind.i64,Ty.i IntKind.i64,Ty.i IntKind.u64])(g:Prop):=Aa (A9 (A5 a) b) (a.1=c) (A2 a=List.set d e f)∧A7 ((0:Int)≤a.1 ∧
  a.1<A6) (A3 a<List.length (A2 a)) g;
 let Ae(a:Int × Int × Evs):=(A8 a).2.2;
 let Af(a:Prop)(b:Int)(c:Nat)(d:Evs)(e:Prop):=A7 (a∧b<A6) (c<List.length d) e;
 let Ah(a b:Int):=k+4*a=b;
 let Ai(a:Nat):=zcd k a++List.drop a m;
 let Aj:=k+4*A4;
 Ab true (Af ((0:Int)≤A4) A4 (A1 A4) (Ai i) (∃(x0:Int × Int × Evs),Ad x0 Aj A4 (Ai i) (A1 A4) (IntKind.u64.wrap Aj,(List.getD (Ai i) (A1 A4) (El.zero shV)).2) (∃(x1:Int × Int × Evs),Ad x1 (A5 x0) x0.1 (A2 x0) (A3 x0)
  ((A8 x0).1,A5 x0,Ae x0) (∃(x2:Int × Int × Evs),Ac x2 x1 (A5 x1,(Ae x1).2) (Af ((0:Int)≤x2.1) x2.1 (A3 x2) (A2 x2) (∃(x3:Int × Int × Evs),Ac x3 x2 ((Ae x2).1,IntKind.u64.wrap (A5 x2)) (∃(x4 :
  Nat),Aa (Ah (↑x4:Int) (A5 x3)) (A9 (↑x4:Int) x3.1) (Ai x4=A2 x3)∧A7 (x4≤A0) (A0-x4<A0-i) (∀(x5:Unit),True→True))))))))∧Ab false (∃(x6:Unit),(Ah A6 Aj∧zcd k A0=Ai i)∧True)):=by kernel_rfl
theorem zvm(m:Evs)(k:Int):yky m k=(
 ∃(x:Nat),((0:Nat)=0∧List.length m=List.length m∧k+4*(↑x:Int)=k∧(↑x:Int)=0∧zcd k x++List.drop x m=m)∧x≤List.length m∧∀(z:Unit),True→k+(4:PmT [i64]) *
 (↑(List.length m):PmT [i64])=k+4*(↑(List.length m):Int)∧zcd k (List.length m)=zcd k (List.length m)):=by kernel_rfl
theorem zor(m:Evs)(k:Int)(i:Nat):zyg m k i=(
 let A0:=(↑i:Int);
 let A1:=List.length m;
 let A2(a:Int):=IntKind.i64.wrap (a+1);
 let A3:=(↑A1:Int);
 let A4:=(0:Nat)+A0.toNat;
 let A5:=k+4*A0;
 let A6:=A2 (A2 A5);
 let A7:=(List.getD m A4 (El.zero shV)).2;
 let A8(a:Bool)(b:Prop):=decide (A0<A3)=a→b;
 let A9(a b:Int)(c:Prop):=k+4*a=b∧c;
 let Aa(a:Bool)(b:Prop):=((0:Int)≤A0∧A0<A3)∧A4<A1∧(a=true→False)∧(a=false→b);
 A8 true (Aa ((List.getD m A4 (El.zero shV)).1 != IntKind.u64.wrap A5) (Aa (A7.1 != A2 A5) (Aa (A7.2.1 != A6) (Aa (A7.2.2 != IntKind.u64.wrap (A2 A6)) (∃(x0:Nat),((0:Nat)=0∧A1=A1∧A9 (↑x0:Int) (A2 (A2
  A6)) ((↑x0:Int)=A2 A0∧m=m))∧x0≤A1∧A1-x0<A1-i∧∀(x1:Unit),True→True)))))∧A8 false (∃(x2:Unit),A9 A3 A5 (m=m)∧True)):=by kernel_rfl
theorem zu4(m:Evs)(k:Int):ykk m k=(
 ∃(x:Nat),((0:Nat)=0∧List.length m=List.length m∧k+4*(↑x:Int)=k∧(↑x:Int)=0∧m=m)∧x≤List.length m∧∀(z:Unit),True→k+(4:PmT [i64])*(↑(List.length m):PmT [i64])=k+(4
 : Int)*(↑(List.length m):Int)∧m=m):=by kernel_rfl
theorem zux(m n:Evs)(i:Nat):yj8 m n i=(
 (decide ((↑i:Int)<(↑(List.length m):Int))=true→((0:Int)≤(↑i:Int)∧(↑i:Int)<(↑(List.length m):Int))∧0+(↑i:Int).toNat<List.length m∧((0:Int)≤(↑i:Int)∧(↑i:Int)<(↑(List.length n):Int))∧(0
 : Nat)+(↑i:Int).toNat<List.length n∧List.getD m ((0:Nat)+(↑i:Int).toNat) (El.zero shV)=List.getD n ((0:Nat)+(↑i:Int).toNat) (El.zero shV)∧((!true)=true→False)∧((!true)=false→∃(y:Nat),((0:Nat)=(0 :
 Nat)∧List.length m=List.length m∧(0:Nat)=0∧List.length n=List.length n∧(↑y:Int)=IntKind.i64.wrap ((↑i:Int)+1)∧m=m∧n=n)∧y≤List.length m∧List.length m-y<List.length m-i∧∀(z :
 Unit),True→True))∧(decide ((↑i:Int)<(↑(List.length m):Int))=false→∃(z:Unit),(m=m∧n=n)∧True)):=by kernel_rfl
theorem yc6(m n:Evs):ywd m n=(
 (((↑(List.length m):Int) != (↑(List.length n):Int))=true→true=false∧m=m∧n=n)∧(((↑(List.length m):Int) != (↑(List.length n):Int))=false→∃(x:Nat),((0:Nat)=0∧List.length m=List.length m∧(0 :
 Nat)=0∧List.length n=List.length n∧(↑x:Int)=0∧m=m∧n=n)∧x≤List.length m∧∀(z:Unit),True→true=true∧m=m∧n=n)):=by kernel_rfl
theorem yc4(e:Evs)(m:By)(u:Us)(a b:Int)(c d:Bool)(f g h i j:Int):ywb e m u a b c d f g h i j=(
 let A0(a b c:Prop):=a∧b∧c;
 let A1(a:Bool)(b:Prop):=a=false→b;
 let A2:=List.length e;
 let A3(a:Bool):=a=true→A0 (true=false) (e=e) (A0 (m=m) (u=u) (A0 (e=e) (m=m) (u=u)));
 let A4(a b:Int)(c:Prop):=A1 (a != a) (A3 (b != b)∧c);
 let A5(a:Nat)(b c:Prop):=A1 (!true) (A0 (a=a∧A0 (a=a) b (SzR a)) (A3 (!true)) c);
 let A6(a b:Bool)(c:Prop):=A1 a (A3 (!b==b)∧c);
 let A7(a:Bool)(b:Int)(c:Prop):=A1 (!a) (A3 (b != b)∧c);
 A0 (A2=A2∧A0 (A2=A2) (e=e) (SzR A2)) (A3 (!true)) (A5 (List.length m) (m=m) (A5 (List.length u) (u=u) (A7 true a (A4 a b (A6 (b != b) c (A6 (!c==c) d (A7 (d==d) f (A4 f g (A4 g h (A4 h i (A4 i j (A1 (j != j) (A0 (true =
  true) (e=e) (A0 (m=m) (u=u) (A0 (e=e) (m=m) (u=u))))))))))))))))):=by kernel_rfl
theorem zvk(e:Evs)(m:By)(u:Us)(a b:Int)(c d:Bool)(f g h i j n:Int):ykw e m u a b c d f g h i j n=(
 (List.length e=List.length e∧zdd (List.length e) n)∧(List.length m=List.length m∧zdd (List.length m) (n+(4:PmT [i64])*(↑(List.length e):PmT [i64])))∧(List.length u=List.length u∧zdd (List.length u) (n+(4 :
 PmT [i64])*(↑(List.length e):PmT [i64])+(↑(List.length m):PmT [i64])))∧n+4*(↑(List.length e):Int)+(↑(List.length m):Int)+(↑(List.length u):Int)=n+(4:PmT [i64])*(↑(List.length e):PmT [i64]) +
 (↑(List.length m):PmT [i64])+(↑(List.length u):PmT [i64])∧zcd n (List.length e)=zcd n (List.length e)∧zd0 (n+4*(↑(List.length e):Int)) (List.length m)=zd0 (n+(4:PmT [i64])*(↑(List.length e):PmT
 [i64])) (List.length m)∧zds (n+4*(↑(List.length e):Int)+(↑(List.length m):Int)) (List.length u)=zds (n+(4:PmT [i64])*(↑(List.length e):PmT [i64])+(↑(List.length m):PmT [i64])) (List.length u)):=by kernel_rfl
theorem zu2(e:Evs)(m:By)(u:Us)(a b:Int)(c d:Bool)(f g h i j n:Int):yki e m u a b c d f g h i j n=(
 let A0:=List.length u;
 let A1:=List.length m;
 let A2:=List.length e;
 let A3:=(↑A0:PmT [i64]);
 let A4:=n+(4:PmT [i64])*(↑(List.length e):PmT [i64]);
 let A5(a b c:Prop):=a∧b∧c;
 let A6(a:PmT [i64])(b:Bool)(c:Prop):=decide (a<0)=b→c;
 let A7:=A4+(↑(List.length m):PmT [i64]);
 let A8:=n+4*(↑A2:Int)+(↑A1:Int)+(↑A0:Int);
 let A9(a:PmT [i64])(b:Nat)(c:Prop)(d:PmT [i64])(f:Prop):=A6 a false (A5 (A5 (b=b) (zdd b a) c) (A6 d true (A8=(-1)∧A5 (e=e) (m=m) (u=u))) f);
 let Aa(a:PmT [i64])(b:Bool)(c:Prop):=A6 a b (c∧A5 (e=e) (m=m) (u=u));
 A5 (A5 (A2=A2) (zdd A2 n) (e=zcd n A2)) (Aa A4 true (A8=(-1))) (A9 A4 A1 (m=zd0 A4 A1) A7 (A9 A7 A0 (u=zds A7 A0) (A7+A3) (Aa (A7+A3) false (A8=A7+A3))))):=by kernel_rfl
theorem zr8(b:By)(pl:Bool):ydl b pl=(
 let A0:=yco b pl;
 let A1:=List.length b;
 let A2(a:Int)(b:Nat):=a+(↑b:Int);
 let A3(a:Nat):=(1:Int)+4*(↑a:Int);
 let A4(a:Nat):=zcd 1 a;
 let A5:=List.length A0.1;
 let A6:=List.length A0.2.1;
 let A7(a b:Nat)(c:Prop):=a=b∧c;
 let A8(a b:Nat):=A2 (A3 a) b;
 let A9(a b c d:Nat)(e:Prop):=A7 a b (A7 c d e);
 let Aa:=List.length A0.2.2.1;
 let Ab(a b c:Nat):=zds (A8 a b) c;
 let Ac:=List.length (A4 A5);
 let Ad(a:Prop):=A7 A1 A1 a;
 let Ae:=true=false;
 let Af:=List.length (zd0 (A3 A5) A6);
 let Ah(a:Bool)(c d e:Prop):=(a=true→c∧b=b)∧(a=false→d∧e);
 let Ai(a b c:Nat)(d e:Prop):=A7 A5 a (A9 A6 b Aa c (d∧e));
 let Aj:=SzR A5∧SzR A6∧SzR Aa;
 let Ak:=A2 (A8 Ac Af) (Ab A5 A6 Aa).length != A2 (A8 A5 A6) Aa;
 let Al(a:Prop):=Ad (zaj b)∧A9 A5 A5 A6 A6 (A9 Aa Aa A5 A5 (A9 A6 A6 Aa Aa (A0=A0∧Aj)))∧a;
 let Am:=(Ab A5 A6 Aa).length;
 let An:=A0.2.2.2;
 Ah (decide ((↑A1:Int)>1048576)) (true=true) (Ad (SzR A1)) (Ad (zaj b)∧Ad (SzR A1)∧Al (Ah (!true) Ae (Ad (SzR A1)) (A9 A1 A1 A1 A1 (b=b∧SzR A1)∧Ah (!true) Ae (Ad (zdd A1 1)) (((!false)=true→A9 A5 A5 A6
  A6 (A9 Aa Aa A5 A5 (A9 A6 A6 Aa Aa (A0=A0∧Aj))))∧Ah (!true) Ae (Ai A5 A6 Aa Aj (InN 1)) (Ai Ac Af Am ((SzR Ac∧SzR Af∧SzR Am)∧InN 1) ((A4 A5,zd0 (A3 A5) A6,Ab A5 A6 Aa,An)=(A4 Ac,zd0 (A3 Ac) Af,Ab Ac Af
  Am,An))∧Ah false Ae (Ak=true→Ae∧b=b) (Ak=false→Ad (SzR A1)∧Al (Ah (!true) Ae (true=true) (b=b))))))))):=by kernel_rfl
set_option linter.unusedSimpArgs false
set_option linter.unusedVariables false
theorem yti:Sound Tryz.prog 188 (zai [evP,evP] [bl] (fun t=>some (t.1=t.2)) (fun _=>true)):=by
 refine zad mixed Tryz.func188 (by kernel_rfl) (by kernel_rfl) zdc (fun t h => ?_)
 obtain⟨x,y⟩:(Int × Int × Int × Int) × (Int × Int × Int × Int):=t
 have h:x=y:=h
 subst h
 obtain⟨a,b,c,d⟩:=x
 refine zab (yc3 a b c d) ?_
 simp
theorem zjn(k:Int)(n:Nat):(zcd k n).length=n:=by simp[zcd]
theorem zxn(k:Int)(n:Nat):zcd k (n+1)=zcd k n++[yhz (k+4*n)]:=by simp[zcd,List.range_succ]
theorem ycd(k:Int){n i:Nat}(h:i<n)(d:Int × Int × Int × Int):(zcd k n).getD i d=yhz (k+4*i):=by
 unfold zcd
 rw[List.getD_eq_getElem?_getD,List.getElem?_map,List.getElem?_range h]
 rfl
theorem wrapv{c:Int}(h0:0≤c)(h1:c≤2199023255552):IntKind.i64.wrap (c+1)=c+1∧IntKind.i64.wrap (c+1+1)=c+2∧IntKind.i64.wrap (c+2+1)=c+3∧IntKind.i64.wrap (c+3+1)=c+4∧IntKind.u64.wrap c=c∧IntKind.u64.wrap (c+3)=c+3:=by
 refine⟨?_, ?_, ?_, ?_, ?_, ?_⟩
 · rw[zaa (by omega) (by omega)]
 · rw[zaa (by omega) (by omega)];omega
 · rw[zaa (by omega) (by omega)];omega
 · rw[zaa (by omega) (by omega)];omega
 · rw[zah (by omega) (by omega)]
 · rw[zah (by omega) (by omega)]
theorem yh1:Sound Tryz.prog 105 (yam [yea,i64] [i64] (fun t=>some (zdd t.1.length t.2)) (fun t=>((zcd t.2 t.1.length,t.2),t.2+4*t.1.length))):=by
 refine zlq mixed Tryz.func105 (by kernel_rfl) (b:=zag Tryz.f105 0) (k:=2) (by kernel_rfl) (by kernel_rfl) (by kernel_rfl) zdc (fun t h => ?_)
 obtain⟨m,k⟩:Evs × Int:=t
 obtain⟨h,h1,h2⟩:zdd m.length k:=h
 have hs:m.length≤2097152:=h
 refine⟨yh0 m k,yal m k,fun i:Nat=>m.length-i,za3 2 (yal m k),fun  (i:Nat) hi=>zab (zox m k i) ?_,zab (zvm m k) ?_⟩
 all_goals (try conv=>zeta)
 · have hi:i≤m.length:=hi
   refine⟨fun g => ?_,fun g => ?_⟩
   · have g:(i:Int)<m.length:=of_decide_eq_true g
     have hlt:i<m.length:=by omega
     have hn:=zcj h hlt
     have e0:0+(i:Int).toNat=i:=by omega
     have hc0:0≤k+4*(i:Int):=by omega
     have hc1:k+4*(i:Int)≤2199023255552:=by omega
     have hsucc:=zxn k i
     have hk:k+4*((i+1:Nat):Int)=k+4*i+4:=by omega
     have hln:=zjn k i
     have hd:=List.drop_eq_getElem_cons hlt
     generalize m[i]=e at hd
     rw[hd]
     generalize k+4*(i:Int)=c at *
     generalize zcd k i=a at *
     obtain⟨w1,w2,w3,w4,u0,u3⟩:=wrapv hc0 hc1
     have hb:(List.drop (i+1) m).length=m.length-(i+1):=by simp
     have hlen:∀x:Int × Int × Int × Int,i<(a++x::List.drop (i+1) m).length:=fun x=>by simp;omega
     rw[e0,zkm _ _ _ _ hln,znc _ _ _ _ hln,w1]
     refine⟨⟨by omega,by omega⟩,hlen _,((i:Int),c+1,_),⟨rfl,rfl,rfl,rfl,rfl⟩,⟨by simp only;omega,by simp only;omega⟩,by simp only[e0];exact hlen _, ?_⟩
     simp only[e0,zkm _ _ _ _ hln,znc _ _ _ _ hln]
     refine⟨((i:Int),c+2,_),⟨trivial,trivial,w2.symm,rfl,rfl⟩,⟨by simp only;omega,by simp only;omega⟩,by simp only[e0];exact hlen _, ?_⟩
     simp only[e0,zkm _ _ _ _ hln,znc _ _ _ _ hln]
     refine⟨((i:Int),c+3,_),⟨trivial,trivial,w3.symm,rfl,rfl⟩,⟨by simp only;omega,by simp only;omega⟩,by simp only[e0];exact hlen _, ?_⟩
     simp only[e0,zkm _ _ _ _ hln,znc _ _ _ _ hln]
     refine⟨((i:Int),c+4,_),⟨trivial,trivial,w4.symm,rfl,rfl⟩, ?_⟩
     refine⟨i+1,⟨trivial,trivial,hk,hn.symm, ?_⟩,by omega,by omega,fun _ _=>trivial⟩
     rw[hsucc]
     simp only[u0,u3,List.append_assoc]
     rfl
   · have g:¬ (i:Int)<m.length:=of_decide_eq_false g
     have:i=m.length:=by omega
     subst this
     exact⟨(),⟨rfl,by simp⟩,trivial⟩
 · exact⟨0,⟨rfl,rfl,by simp,rfl,rfl⟩,by omega,fun _ _=>⟨rfl,rfl⟩⟩
theorem ygs:Sound Tryz.prog 107 (zai [yea,i64] [i64] (fun t=>some (zdd t.1.length t.2∧t.1=zcd t.2 t.1.length)) (fun t=>t.2+4*t.1.length)):=by
 refine zbl mixed Tryz.func107 (by kernel_rfl) (b:=zag Tryz.f107 0) (k:=2) (by kernel_rfl) (by kernel_rfl) (by kernel_rfl) zdc (fun t h => ?_)
 obtain⟨m,k⟩:Evs × Int:=t
 obtain⟨⟨h,h1,h2⟩,h3⟩:zdd m.length k∧m=zcd k m.length:=h
 have hs:m.length≤2097152:=h
 refine⟨.one 2 (ztj m k),ztj m k,fun i:Nat=>m.length-i,za3 _ _,fun  (i:Nat) hi=>zab (zor m k i) ?_,zab (zu4 m k) ?_⟩
 all_goals (try conv=>zeta)
 · have hi:i≤m.length:=hi
   refine⟨fun g => ?_,fun g => ?_⟩
   · have g:(i:Int)<m.length:=of_decide_eq_true g
     have hlt:i<m.length:=by omega
     have hn:=zcj h hlt
     have e0:0+(i:Int).toNat=i:=by omega
     have hc0:0≤k+4*(i:Int):=by omega
     have hc1:k+4*(i:Int)≤2199023255552:=by omega
     have hk:k+4*((i+1:Nat):Int)=k+4*i+4:=by omega
     have e:List.getD m i (El.zero shV)=yhz (k+4*i):=by rw[h3];exact ycd k hlt _
     rw[e0,e,hn]
     obtain⟨w1,w2,w3,w4,u0,u3⟩:=wrapv hc0 hc1
     have hx:∃(y:Nat),(0=0∧List.length m=List.length m∧k+4*(y:Int)=k+4*(i:Int)+4∧(y:Int)=((i+1:Nat):Int)∧m=m)∧y≤List.length m∧List.length m-y<List.length m-i∧∀(_:Unit),True→True :=
      ⟨i+1,⟨rfl,rfl,hk,rfl,rfl⟩,by omega,by omega,fun _ _=>trivial⟩
     generalize k+4*(i:Int)=c at *
     simp only[w1,w2,w3,w4,yhz,u0,u3]
     simp[hlt]
     simpa using hx
   · have g:¬ (i:Int)<m.length:=of_decide_eq_false g
     have:i=m.length:=by omega
     subst this
     exact⟨(),⟨rfl,rfl⟩,trivial⟩
 · exact⟨0,⟨rfl,rfl,by simp,rfl,rfl⟩,by omega,fun _ _=>⟨rfl,rfl⟩⟩
theorem ysq:DictOk Tryz.prog FJB0:=zay (.cons (by kernel_rfl) yti .nil) .nil .nil
theorem ytm:Sound Tryz.prog 103 (zai [yea,yea] [bl] (fun t=>some (t.1=t.2∧SzR t.1.length)) (fun _=>true)):=by
 refine zbl mixed Tryz.func103 (by kernel_rfl) (b:=zag Tryz.f103 0) (k:=4) (by kernel_rfl) (by kernel_rfl) (by kernel_rfl) ysq (fun t h => ?_)
 obtain⟨m,n⟩:Evs × Evs:=t
 obtain⟨h0,h⟩:m=n∧SzR m.length:=h
 subst h0
 have hs:m.length≤2097152:=h
 refine⟨.one 4 (yyh m m),yyh m m,fun i:Nat=>m.length-i,za3 _ _,fun  (i:Nat) hi=>zab (zux m m i) ?_,zab (yc6 m m) ?_⟩
 · have hi:i≤m.length:=hi
   refine⟨fun g => ?_,fun g=>⟨(),⟨rfl,rfl⟩,trivial⟩⟩
   have g:(i:Int)<m.length:=of_decide_eq_true g
   rw[zcj h (by omega)]
   exact⟨⟨by omega,by omega⟩,by omega,⟨by omega,by omega⟩,by omega,rfl,fun e=>by simp at e,fun _=>⟨i+1,⟨rfl,rfl,rfl,rfl,rfl,rfl,rfl⟩,by omega,by omega,fun _ _=>trivial⟩⟩
 · exact⟨fun e=>by simp at e,fun _=>⟨0,⟨rfl,rfl,rfl,rfl,rfl,rfl,rfl⟩,by omega,fun _ _=>⟨rfl,rfl,rfl⟩⟩⟩
theorem yud:zar Tryz.prog kJB1 := .cons (by kernel_rfl) ytm <| .cons (by kernel_rfl) yh1 <| .cons (by kernel_rfl) ygs .nil
theorem zwh:DictOk Tryz.prog FJB1:=zay (((yud.append yt0).append yha).append zei) .nil .nil
theorem ytk:Sound Tryz.prog 33 (zai [reP,reP] [bl] (fun t=>some (t.1=t.2∧yp9 t.1)) (fun _=>true)):=by
 refine zad mixed Tryz.func33 (by kernel_rfl) (by kernel_rfl) zwh (fun t h => ?_)
 obtain⟨x,y⟩:Re × Re:=t
 obtain⟨rfl,h⟩:x=y∧yp9 x:=h
 obtain⟨e,m,u,a,b,c,d,f,g,h',i,j⟩:=x
 obtain⟨h1,h2,h3⟩:SzR e.length∧SzR m.length∧SzR u.length:=h
 refine zab (yc4 e m u a b c d f g h' i j) ?_
 conv=>zeta
 simp[h1,h2,h3]
theorem yhx:Sound Tryz.prog 35 (yam [reP,i64] [i64] (fun t=>some (yp9 t.1∧InN t.2)) (fun t=>((zpn t.1 t.2,t.2),zpl t.1 t.2))):=by
 refine yh6 mixed Tryz.func35 (by kernel_rfl) (by kernel_rfl) zwh (fun t h => ?_)
 obtain⟨⟨e,m,u,a,b,c,d,f,g,h',i,j⟩,n⟩:Re × Int:=t
 obtain⟨⟨h1,h2,h3⟩,h6,h7⟩:(SzR e.length∧SzR m.length∧SzR u.length)∧0≤n∧n≤549755813888:=h
 have h1':e.length≤2097152:=h1
 have h2':m.length≤2097152:=h2
 have h3':u.length≤2097152:=h3
 have k1:zdd e.length n:=⟨h1,by omega,by omega⟩
 have k2:zdd m.length (n+4*(e.length:Int)):=⟨h2,by omega,by omega⟩
 have k3:zdd u.length (n+4*(e.length:Int)+(m.length:Int)):=⟨h3,by omega,by omega⟩
 exact⟨.none,zab (zvk e m u a b c d f g h' i j n) (by repeat' first|exact k1|exact k2|exact k3|rfl|apply And.intro)⟩
theorem ygq:Sound Tryz.prog 36 (zai [reP,i64] [i64] (fun t=>some ((yp9 t.1∧InN t.2)∧t.1=zpn t.1 t.2)) (fun t=>zpl t.1 t.2)):=by
 refine zad mixed Tryz.func36 (by kernel_rfl) (by kernel_rfl) zwh (fun t h => ?_)
 obtain⟨⟨e,m,u,a,b,c,d,f,g,h',i,j⟩,n⟩:Re × Int:=t
 obtain⟨⟨⟨h1,h2,h3⟩,h6,h7⟩,he⟩:((SzR e.length∧SzR m.length∧SzR u.length)∧0≤n∧n≤549755813888)∧(e,m,u,a,b,c,d,f,g,h',i,j)=zpn (e,m,u,a,b,c,d,f,g,h',i,j) n:=h
 have h1':e.length≤2097152:=h1
 have h2':m.length≤2097152:=h2
 have h3':u.length≤2097152:=h3
 have k1:zdd e.length n:=⟨h1,by omega,by omega⟩
 have k2:zdd m.length (n+4*(e.length:Int)):=⟨h2,by omega,by omega⟩
 have k3:zdd u.length (n+4*(e.length:Int)+(m.length:Int)):=⟨h3,by omega,by omega⟩
 have e1:e=zcd n e.length:=congrArg (fun t:Re=>t.1) he
 have e2:m=zd0 (n+4*(e.length:Int)) m.length:=congrArg (fun t:Re=>t.2.1) he
 have e3:u=zds (n+4*(e.length:Int)+(m.length:Int)) u.length:=congrArg (fun t:Re=>t.2.2.1) he
 refine zab (zu2 e m u a b c d f g h' i j n) ?_
 conv=>zeta
 refine⟨⟨rfl,k1,e1⟩,fun q => ?_,fun _=>⟨⟨rfl,k2,e2⟩,fun q => ?_,fun _=>⟨⟨rfl,k3,e3⟩,fun q => ?_,fun _ => ?_⟩⟩⟩
 · exact absurd (show n+4*(e.length:Int)<0 from of_decide_eq_true q) (by omega)
 · exact absurd (show n+4*(e.length:Int)+(m.length:Int)<0 from of_decide_eq_true q) (by omega)
 · exact absurd (show n+4*(e.length:Int)+(m.length:Int)+(u.length:Int)<0 from of_decide_eq_true q) (by omega)
 · repeat' apply And.intro
   all_goals rfl
theorem yue:zar Tryz.prog kJB2 := .cons (by kernel_rfl) ytk <| .cons (by kernel_rfl) yhx <| .cons (by kernel_rfl) ygq <| .cons (by kernel_rfl) ym7 <| .cons (by kernel_rfl) yn5 .nil
theorem ysr:DictOk Tryz.prog FJB2:=zay (yue.append zei) .nil .nil
theorem zpe(pl:Bool):∀(ps:List Int)(h:Ha),(evR pl h ps).length=ps.length
 | [],_=>rfl
 | p::ps,h=>congrArg (· + 1) (zpe pl ps _)
theorem ygg(pl:Bool):∀(ps:List Int)(h:Ha),HaV h→(∀p ∈ ps,0≤p∧p≤255)→HaV (goR pl h ps)
 | [],h,v,_=>v
 | p::ps,h,v,hp=>ygg pl ps _ (v.next (hp p List.mem_cons_self).1 (hp p List.mem_cons_self).2 pl) (fun x hx=>hp x (List.mem_cons_of_mem _ hx))
theorem yu3{b:By}(hb:zaj b)(pl:Bool):yp9 (yco b pl):=by
 obtain⟨v,hp,hl⟩:=yft hb
 have hz:=yyt (ygg pl _ _ v hp).1
 refine⟨?_,hz.1,hz.2.1⟩
 show SzR (evR pl (yrq (zhx b)) (ya3 (zhx b))).length
 rw[zpe]
 unfold SzR
 omega
theorem lawRunB_ok:Canon Tryz.prog 7 [byP,bl] [bl] (WfPs [byP,bl]) (fun _=>true):=by
 refine zwy mixed Tryz.func7 (by kernel_rfl) (by kernel_rfl) ysr (fun t h => ?_)
 obtain⟨b,pl⟩:By × Bool:=t
 have b1:=ypv (m:=b) h.1
 refine⟨.none,zab (zr8 b pl) ?_⟩
 conv=>zeta
 refine⟨fun _=>by simp,fun g => ?_⟩
 have g:¬ (b.length:Int)>1048576:=of_decide_eq_false g
 have z0:SzR b.length:=by unfold SzR;omega
 have hb:zaj b:=⟨z0,b1⟩
 obtain⟨h1,h2,h3⟩:=yu3 hb pl
 have mk1:zdd b.length 1:=⟨z0,by omega,by omega⟩
 have in1:InN 1:=⟨by decide,by decide⟩
 simp[z0,hb,mk1,in1,h1,h2,h3,zjn,zhj,zhi]
end Go.Proofs.YtfiddfbagbaofaaGreat.V
