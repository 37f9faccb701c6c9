/- The law on whole runs. Conditions: those in each statement. -/
import Derived.Test.YtfiddfbagbaofaaGreatJB
import Derived.KernelRfl
namespace Go.Proofs.YtfiddfbagbaofaaGreat.V
open Go
set_option linter.unusedVariables false
-- flat
def zvm(m n:Evs):LoopS where
 α:=Nat
 I i:=i≤m.length
 sl i:=slots 26 [(0,.sl 0 4 0 m.length),(1,.sl 1 4 0 n.length),(5,.v (.int .i64 i))]
 H _:=[.arr shV m false,.arr shV n false]
 fams:=[{ β:=Unit,out:=fun _ _=>True,ex := .ext 0,sl:=fun _=>slots 26 [],H:=fun _=>[.arr shV m false,.arr shV n false] }]
def zoq(m n:Evs)(i:Nat):Prop:=zam Tryz.prog F0 (.one 4 (zvm m n)) 2 (zag Tryz.f73 0) (zvm m n) (fun i:Nat=>m.length-i) i
def zu4(m n:Evs):Prop:=zal Tryz.prog F0 (.one 4 (zvm m n)) Tryz.f73 [yea,yea] [bl] (m,n) true
def zv2(m n:Us):LoopS where
 α:=Nat
 I i:=i≤m.length
 sl i:=slots 26 [(0,.sl 0 1 0 m.length),(1,.sl 1 1 0 n.length),(5,.v (.int .i64 i))]
 H _:=[.arr [.i .u64] m false,.arr [.i .u64] n false]
 fams:=[{ β:=Unit,out:=fun _ _=>True,ex := .ext 0,sl:=fun _=>slots 26 [],H:=fun _=>[.arr [.i .u64] m false,.arr [.i .u64] n false] }]
def zor(m n:Us)(i:Nat):Prop:=zam Tryz.prog F0 (.one 4 (zv2 m n)) 2 (zag Tryz.f75 0) (zv2 m n) (fun i:Nat=>m.length-i) i
def zvk(m n:Us):Prop:=zal Tryz.prog F0 (.one 4 (zv2 m n)) Tryz.f75 [usP,usP] [bl] (m,n) true
def zux(m:By):Prop:=zal Tryz.prog F0 .none Tryz.f74 [byP,byP] [bl] (m,m) true
def kJC0:Known:=[
 (73,zai [yea,yea] [bl] (fun t=>some (t.1=t.2∧SzR t.1.length)) (fun _=>true)),
 (75,zai [usP,usP] [bl] (fun t=>some (t.1=t.2∧SzR t.1.length)) (fun _=>true)),
 (74,zai [byP,byP] [bl] (fun t=>some (t.1=t.2)) (fun _=>true))]
def FJC0:Dict:=mkD kJC0 [] []
def zvj(e:Evs)(m:By)(u:Us)(a b:Int)(c d:Bool)(f g h i j:Int):Prop:=zal Tryz.prog FJC0 .none Tryz.f20 [reP,reP] [bl] ((e,m,u,a,b,c,d,f,g,h,i,j),(e,m,u,a,b,c,d,f,g,h,i,j)) true
def kJC1:Known:=[
 (20,zai [reP,reP] [bl] (fun t=>some (t.1=t.2∧yp9 t.1)) (fun _=>true)),
 (21,zai [byP,bl] [reP] (fun t=>some (zaj t.1)) (fun t=>yco t.1 t.2)),
 (19,zai [byP,bl] [reP] (fun t=>some (zaj t.1)) (fun t=>yco t.1 t.2)),
 (22,zai [byP] [scP] (fun b=>some (zaj b)) zhx)]
def FJC1:Dict:=mkD kJC1 [] []
def zop(b:By):Prop:=zal Tryz.prog FJC1 .none Tryz.f4 [byP] [bl] b true
set_option linter.unusedVariables false
set_option maxRecDepth 10000
theorem zds(m n:Evs)(i:Nat):zoq m n i=(
 (decide ((↑i:Int)<(↑(List.length m):Int))=true→((0:Int)≤(↑i:Int)∧(↑i:Int)<(↑(List.length m):Int))∧(0:Nat)+(↑i:Int).toNat<List.length m∧((0:Int)≤(↑i:Int)∧(↑i:Int)<(↑(List.length n):Int))∧(0
 : Nat)+(↑i:Int).toNat<List.length n∧((!((List.getD m ((0:Nat)+(↑i:Int).toNat) (El.zero shV)).1==(List.getD n ((0:Nat)+(↑i:Int).toNat) (El.zero shV)).1&&((List.getD m ((0:Nat)+(↑i:Int).toNat) (El.zero
 shV)).2.1==(List.getD n ((0:Nat)+(↑i:Int).toNat) (El.zero shV)).2.1&&((List.getD m ((0:Nat)+(↑i:Int).toNat) (El.zero shV)).2.2.1==(List.getD n ((0:Nat)+(↑i:Int).toNat) (El.zero shV)).2.2.1 &&
 ((List.getD m ((0:Nat)+(↑i:Int).toNat) (El.zero shV)).2.2.2==(List.getD n ((0:Nat)+(↑i:Int).toNat) (El.zero shV)).2.2.2&&true)))))=true→False)∧((!((List.getD m ((0:Nat)+(↑i:Int).toNat) (El.zero
 shV)).1==(List.getD n ((0:Nat)+(↑i:Int).toNat) (El.zero shV)).1&&((List.getD m ((0:Nat)+(↑i:Int).toNat) (El.zero shV)).2.1==(List.getD n ((0:Nat)+(↑i:Int).toNat) (El.zero shV)).2.1&&((List.getD m ((0 :
 Nat)+(↑i:Int).toNat) (El.zero shV)).2.2.1==(List.getD n ((0:Nat)+(↑i:Int).toNat) (El.zero shV)).2.2.1&&((List.getD m ((0:Nat)+(↑i:Int).toNat) (El.zero shV)).2.2.2==(List.getD n ((0:Nat)+(↑i :
 Int).toNat) (El.zero shV)).2.2.2&&true)))))=false→∃(y:Nat),((0:Nat)=(0:Nat)∧List.length m=List.length m∧(0:Nat)=(0:Nat)∧List.length n=List.length n∧(↑y:Int)=IntKind.i64.wrap ((↑i:Int)+(1 :
 Int))∧m=m∧n=n)∧y≤List.length m∧List.length m-y<List.length m-i∧∀(z:Unit),True→True))∧(decide ((↑i:Int)<(↑(List.length m):Int))=false→∃(z:Unit),(m=m∧n=n)∧True)):=by kernel_rfl
theorem zhj(m n:Evs):zu4 m n=(
 (((↑(List.length m):Int) != (↑(List.length n):Int))=true→true=false∧m=m∧n=n)∧(((↑(List.length m):Int) != (↑(List.length n):Int))=false→∃(x:Nat),((0:Nat)=(0:Nat)∧List.length m=List.length m∧(0 :
 Nat)=(0:Nat)∧List.length n=List.length n∧(↑x:Int)=(0:Int)∧m=m∧n=n)∧x≤List.length m∧∀(z:Unit),True→true=true∧m=m∧n=n)):=by kernel_rfl
theorem zd0(m n:Us)(i:Nat):zor m n i=(
 (decide ((↑i:Int)<(↑(List.length m):Int))=true→((0:Int)≤(↑i:Int)∧(↑i:Int)<(↑(List.length m):Int))∧(0:Nat)+(↑i:Int).toNat<List.length m∧((0:Int)≤(↑i:Int)∧(↑i:Int)<(↑(List.length n):Int))∧(0
 : Nat)+(↑i:Int).toNat<List.length n∧((List.getD m ((0:Nat)+(↑i:Int).toNat) (El.zero [Ty.i IntKind.u64]) != List.getD n ((0:Nat)+(↑i:Int).toNat) (El.zero [Ty.i IntKind.u64]))=true→False)∧((List.getD m ((0:Nat) +
 (↑i:Int).toNat) (El.zero [Ty.i IntKind.u64]) != List.getD n ((0:Nat)+(↑i:Int).toNat) (El.zero [Ty.i IntKind.u64]))=false→∃(y:Nat),((0:Nat)=(0:Nat)∧List.length m=List.length m∧(0:Nat)=(0:Nat)∧List.length n
 = List.length n∧(↑y:Int)=IntKind.i64.wrap ((↑i:Int)+(1:Int))∧m=m∧n=n)∧y≤List.length m∧List.length m-y<List.length m-i∧∀(z:Unit),True→True))∧(decide ((↑i:Int)<(↑(List.length m):Int))=false →
 ∃(z:Unit),(m=m∧n=n)∧True)):=by kernel_rfl
theorem zmt(m n:Us):zvk m n=(
 (((↑(List.length m):Int) != (↑(List.length n):Int))=true→true=false∧m=m∧n=n)∧(((↑(List.length m):Int) != (↑(List.length n):Int))=false→∃(x:Nat),((0:Nat)=(0:Nat)∧List.length m=List.length m∧(0 :
 Nat)=(0:Nat)∧List.length n=List.length n∧(↑x:Int)=(0:Int)∧m=m∧n=n)∧x≤List.length m∧∀(z:Unit),True→true=true∧m=m∧n=n)):=by kernel_rfl
theorem zjn(e:Evs)(m:By)(u:Us)(a b:Int)(c d:Bool)(f g h i j:Int):zvj e m u a b c d f g h i j=(
 (List.length e=List.length e∧List.length e=List.length e∧e=e∧SzR (List.length e))∧(true=true→List.length m=List.length m∧List.length m=List.length m∧m=m)∧(true=true→List.length u=List.length u ∧
 List.length u=List.length u∧u=u∧SzR (List.length u))∧(true=bif bif bif bif bif bif bif bif a==a then b==b else false then c==c else false then d==d else false then f==f else false then g==g else false then h==h
 else false then i==i else false then j==j else false)∧e=e∧m=m∧u=u∧e=e∧m=m∧u=u):=by kernel_rfl
theorem zdd(b:By):zop b=(
 (decide ((↑(List.length b):Int)>(1048576:Int))=true→true=true∧b=b)∧(decide ((↑(List.length b):Int)>(1048576:Int))=false→(List.length b=List.length b∧zaj b)∧(List.length b=List.length b∧zaj b) ∧
 ((bif bif (↑(List.length (yco b false).1):Int) != (↑(List.length (zhx b).2.2.2.2.2.2.2.2.2.2.2.2.2.2.2.2.2.2.2.2.2):Int) then true else (↑(List.length (yco b false).2.1):Int) !=
 (↑(List.length (zhx b).1):Int) then true else (↑(List.length (yco b false).2.2.1):Int) != (8:Int))=true→true=false∧b=b)∧((bif bif (↑(List.length (yco b false).1):Int) != (↑(List.length (zhx
 b).2.2.2.2.2.2.2.2.2.2.2.2.2.2.2.2.2.2.2.2.2):Int) then true else (↑(List.length (yco b false).2.1):Int) != (↑(List.length (zhx b).1):Int) then true else (↑(List.length (yco b
 false).2.2.1):Int) != (8:Int))=false→((!decide ((↑(List.length (zhx b).2.2.2.2.2.2.2.2.2.2.2.2.2.2.2.2.2.2.2.2.2):Int)>(400:Int)))=true→List.length b=List.length b∧zaj
 b)∧((!decide ((↑(List.length (zhx b).2.2.2.2.2.2.2.2.2.2.2.2.2.2.2.2.2.2.2.2.2):Int)>(400:Int)))=true→List.length (yco b false).1=List.length (yco b false).1∧List.length
 (yco b false).2.1=List.length (yco b false).2.1∧List.length (yco b false).2.2.1=List.length (yco b false).2.2.1∧List.length (yco b false).1=List.length (yco b false).1∧List.length (yco b
 false).2.1=List.length (yco b false).2.1∧List.length (yco b false).2.2.1=List.length (yco b false).2.2.1∧yco b false=yco b false∧SzR (List.length (yco b false).1)∧SzR (List.length (yco b
 false).2.1)∧SzR (List.length (yco b false).2.2.1))∧(true=bif decide ((↑(List.length (zhx b).2.2.2.2.2.2.2.2.2.2.2.2.2.2.2.2.2.2.2.2.2):Int)>(400:Int)) then true else true) ∧
 b=b))):=by kernel_rfl
set_option linter.unusedSimpArgs false
set_option linter.unusedVariables false
theorem zu1:Sound Tryz.prog 73 (zai [yea,yea] [bl] (fun t=>some (t.1=t.2∧SzR t.1.length)) (fun _=>true)):=by
 refine zbl mixed Tryz.func73 (by kernel_rfl) (b:=zag Tryz.f73 0) (k:=4) (by kernel_rfl) (by kernel_rfl) (by kernel_rfl) zdc (fun t h => ?_)
 obtain⟨m,n⟩:Evs × Evs:=t
 obtain⟨h0,h⟩:m=n∧SzR m.length:=h
 subst h0
 have hs:m.length≤2097152:=h
 refine⟨.one 4 (zvm m m),zvm m m,fun i:Nat=>m.length-i,za3 _ _,fun  (i:Nat) hi=>zab (zds m m i) ?_,zab (zhj m m) ?_⟩
 · have hi:i≤m.length:=hi
   refine⟨fun g => ?_,fun g=>⟨(),⟨rfl,rfl⟩,trivial⟩⟩
   have g:(i:Int)<m.length:=of_decide_eq_true g
   rw[zcj h (by omega)]
   exact⟨⟨by omega,by omega⟩,by omega,⟨by omega,by omega⟩,by omega,fun e=>by simp at e,fun _=>⟨i+1,⟨rfl,rfl,rfl,rfl,rfl,rfl,rfl⟩,by omega,by omega,fun _ _=>trivial⟩⟩
 · exact⟨fun e=>by simp at e,fun _=>⟨0,⟨rfl,rfl,rfl,rfl,rfl,rfl,rfl⟩,by omega,fun _ _=>⟨rfl,rfl,rfl⟩⟩⟩
theorem zu3:Sound Tryz.prog 75 (zai [usP,usP] [bl] (fun t=>some (t.1=t.2∧SzR t.1.length)) (fun _=>true)):=by
 refine zbl mixed Tryz.func75 (by kernel_rfl) (b:=zag Tryz.f75 0) (k:=4) (by kernel_rfl) (by kernel_rfl) (by kernel_rfl) zdc (fun t h => ?_)
 obtain⟨m,n⟩:Us × Us:=t
 obtain⟨h0,h⟩:m=n∧SzR m.length:=h
 subst h0
 have hs:m.length≤2097152:=h
 refine⟨.one 4 (zv2 m m),zv2 m m,fun i:Nat=>m.length-i,za3 _ _,fun  (i:Nat) hi=>zab (zd0 m m i) ?_,zab (zmt m m) ?_⟩
 · have hi:i≤m.length:=hi
   refine⟨fun g => ?_,fun g=>⟨(),⟨rfl,rfl⟩,trivial⟩⟩
   have g:(i:Int)<m.length:=of_decide_eq_true g
   rw[zcj h (by omega)]
   exact⟨⟨by omega,by omega⟩,by omega,⟨by omega,by omega⟩,by omega,fun e=>by simp at e,fun _=>⟨i+1,⟨rfl,rfl,rfl,rfl,rfl,rfl,rfl⟩,by omega,by omega,fun _ _=>trivial⟩⟩
 · exact⟨fun e=>by simp at e,fun _=>⟨0,⟨rfl,rfl,rfl,rfl,rfl,rfl,rfl⟩,by omega,fun _ _=>⟨rfl,rfl,rfl⟩⟩⟩
def strB(l:List Int):List UInt8:=(l.foldl (fun r n=>r.push (UInt8.ofNat n.toNat)) ByteArray.empty).toList
theorem zuv(m:By):zux m=(0+m.length≤m.length∧0+m.length≤m.length∧true=(strB ((m.drop 0).take m.length)==strB ((m.drop 0).take m.length))∧m=m∧m=m):=by kernel_rfl
theorem zuw:Sound Tryz.prog 74 (zai [byP,byP] [bl] (fun t=>some (t.1=t.2)) (fun _=>true)):=by
 refine zad mixed Tryz.func74 (by kernel_rfl) (by kernel_rfl) zdc (fun t h => ?_)
 obtain⟨x,y⟩:By × By:=t
 have h:x=y:=h
 subst h
 refine zab (zuv x) ⟨by omega,by omega, ?_,rfl,rfl⟩
 exact (beq_self_eq_true _).symm
theorem zr8:zar Tryz.prog kJC0 := .cons (by kernel_rfl) zu1 <| .cons (by kernel_rfl) zu3 <| .cons (by kernel_rfl) zuw .nil
theorem zu2:Sound Tryz.prog 20 (zai [reP,reP] [bl] (fun t=>some (t.1=t.2∧yp9 t.1)) (fun _=>true)):=by
 refine zad mixed Tryz.func20 (by kernel_rfl) (by kernel_rfl) (zay zr8 .nil .nil) (fun t h => ?_)
 obtain⟨x,y⟩:Re × Re:=t
 obtain⟨rfl,h⟩:x=y∧yp9 x:=h
 obtain⟨e,m,u,a,b,c,d,f,g,h',i,j⟩:=x
 obtain⟨h1,h2,h3⟩:SzR e.length∧SzR m.length∧SzR u.length:=h
 refine zab (zjn e m u a b c d f g h' i j) ?_
 simp[h1,h2,h3]
theorem ztj:zar Tryz.prog kJC1 := .cons (by kernel_rfl) zu2 <| .cons (by kernel_rfl) ym7 <| .cons (by kernel_rfl) yn5 <| .cons (by kernel_rfl) yu9 .nil
theorem zox{r:Rn}{a ea w:Int}(h:zee r ea w):(ztr r a ea w).m.length=r.m.length:=by
 obtain⟨n1,n2,n3,n4,n5,n6,n7⟩:=zdu (kind:=1) h
 unfold ztr
 split
 · exact congrArg List.length n3
 · exact congrArg List.length n3
theorem zhi{r:Rn}{ea w v:Int}(h:zee r ea w)(hc:r.cs=0)(h0:(zas r 2 ea w).1.cs=0):(zx0 (zas r 2 ea w) w v).m.length=r.m.length:=by
 obtain⟨n1,n2,n3,n4,n5,n6,n7⟩:=zdu (kind:=2) h
 have n8:=n7 hc h0
 rw[← n3] at n8
 exact (ziy _ _ _ (fun p hp=>by obtain⟨x1,x2,x3,x4⟩:=n8.1.2.2.2 p hp;exact⟨x1,x3,x4⟩)).trans (congrArg List.length n3)
theorem zna{r:Rn}{v ea w:Int}(h:zee r ea w)(hc:r.cs=0):(zk9 r v ea w).m.length=r.m.length:=by
 unfold zk9
 split
 · rename_i h0;exact zhi h hc h0
 · exact congrArg List.length (zdu (kind:=2) h).2.2.1
theorem zpn{r:Rn}{a v ea:Int}(h:zee r ea 8)(hc:r.cs=0):(yqe r a v ea).m.length=r.m.length:=by
 unfold yqe
 split
 · rename_i h0;exact zhi h hc h0
 · exact congrArg List.length (zdu (kind:=2) h).2.2.1
theorem zmu(r:Rn)(f:Fc):(zeg r f).m.length=r.m.length:=by unfold zeg;split<;>rfl
theorem zcd{c:Prop}[Decidable c]{a b:Rn}{n:Nat}(ha:c→a.m.length=n)(hb:¬ c→b.m.length=n):(if c then a else b).m.length=n:=by
 by_cases h:c
 · rw[if_pos h];exact ha h
 · rw[if_neg h];exact hb h
theorem zvl{r:Rn}{z:Zx}{op s word:Int}(h:DoR r z):(doM r z op s word).m.length=r.m.length:=by
 obtain⟨h4,h2,h3,hi,hxa,hc8,hW⟩:=h
 unfold doM
 refine zcd (fun _=>rfl) fun _=>zcd (fun _=>rfl) fun _=>zcd (fun _=>rfl) fun _=>zcd (fun _=>rfl) fun _=>zcd (fun _=>zox ⟨h4,h3,zel _,hW.1,hW.2⟩) fun _=>zcd (fun _=>zna ⟨h4,h3,zel _,hW.1,hW.2⟩ h2) fun _=>zcd (fun _=>zpn ⟨h4,h3,zel _,by omega,by omega⟩ h2) fun _=>zcd (fun _=>zcd (fun _=>rfl) fun _=>rfl) fun _=>zcd (fun _=>zcd (fun _=>rfl) fun _=>rfl) fun _=>zcd (fun _=>rfl) fun _=>zcd (fun _=>zmu _ _) fun _=>zcd (fun _=>rfl) fun _=>zcd (fun _=>rfl) fun _=>zcd (fun _=>rfl) fun _=>rfl
theorem zow{r:Rn}{op p q s word:Int}(h:zer r p q s word):(zbg r op p q s word).m.length=r.m.length:=by
 unfold zbg
 split
 · rfl
 · exact zvl (yau h)
theorem zov{r:Rn}(h:zog r):(zbd r).m.length=r.m.length:=by
 obtain⟨h1,hc,hk⟩:=h
 have hpc:U64 r.pc:=h1.1.2.2.2.1
 obtain⟨c1,c2, -⟩:=zh6 r 0 r.pc
 obtain⟨-, -, -, -,f5, -⟩:=zly r 0 r.pc
 have ht:=(zgw (kind:=0) h1 hpc (show SzR _ by unfold SzR;omega)).1
 unfold zbd
 split
 · unfold ybr
   split
   · split
     · have x:=read4 ht.1.1 (a:=(zao r 0 r.pc).2.2)
       exact (zow (zzq ht (c1.trans hc) (by omega) x.1 x.2)).trans (congrArg List.length c2)
     · exact congrArg List.length c2
   · exact congrArg List.length c2
 · rfl
theorem zpl{r:Rn}{pl:Bool}{pk:Int}(h:zsu r pk):(zcy r pl pk).m.length=r.m.length:=by
 unfold zcy
 split
 · rw[zov (zkg h)]
   unfold Rn.first
   split<;>rfl
 · rfl
theorem zm9(pl:Bool):∀(ps:List Int)(h:Ha),HaV h→(∀p ∈ ps,0≤p∧p≤255)→(goR pl h ps).1.length=h.1.length
 | [],h,v,_=>rfl
 | p::ps,h,v,hp=>by
  obtain⟨p0,p1⟩:=hp p List.mem_cons_self
  exact (zm9 pl ps _ (v.next p0 p1 pl) (fun x hx=>hp x (List.mem_cons_of_mem _ hx))).trans (zpl (v.step p0 p1))
theorem lawTot_ok:Canon Tryz.prog 4 [byP] [bl] (WfPs [byP]) (fun _=>true):=by
 refine zwy mixed Tryz.func4 (by kernel_rfl) (by kernel_rfl) (zay ztj .nil .nil) (fun  (b:By) h => ?_)
 have b1:=ypv (m:=b) h
 refine⟨.none,zab (zdd b) ?_⟩
 refine⟨fun _=>by simp,fun g => ?_⟩
 have g:¬ (b.length:Int)>1048576:=of_decide_eq_false g
 have z0:SzR b.length:=by unfold SzR;omega
 have hb:zaj b:=⟨z0,b1⟩
 obtain⟨v,hp,hl⟩:=yft hb
 obtain⟨h1,h2,h3⟩:=yu3 hb false
 have e1:(yco b false).1.length=(zhx b).2.2.2.2.2.2.2.2.2.2.2.2.2.2.2.2.2.2.2.2.2.length:=zpe false _ _
 have e2:(yco b false).2.1.length=(zhx b).1.length:=zm9 false _ _ v hp
 have e3:(yco b false).2.2.1.length=8:=(ygg false _ _ v hp).2.1
 rw[e1] at h1
 rw[e2] at h2
 rw[e3] at h3
 simp[hb,h1,h2,h3,e1,e2,e3]
end Go.Proofs.YtfiddfbagbaofaaGreat.V
