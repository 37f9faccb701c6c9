/- The memory's functions and the laws' helpers on bytes answer as their models. Conditions: those in each statement. -/
import Derived.Test.YtfiddfbagbaofaaGreatGA
import Derived.Test.YtfiddfbagbaofaaGreatV3
import Derived.KernelRfl
namespace Go.Proofs.YtfiddfbagbaofaaGreat.V
open Go
abbrev byP:Pm := .one (.sl [.i .u8])
abbrev bsP:Pm := .one (.sub [.i .u8])
abbrev rrP:Pm := .st [.b,.i .u64]
abbrev By:=List Int
def SzR(n:Nat):Prop:=n≤2097152
def zaj(m:By):Prop:=SzR m.length∧∀b ∈ m,0≤b∧b<256
def gwM(w:Int):Bool:=w==1||w==2||w==4||w==8
def zgg(m:By)(a w:Int):Bool:=decide (w≤m.length)&&decide (a≤m.length-w)
def zbq:By→Int
 | []=>0
 | b::t=>b+256*zbq t
def zce(v:Int):Nat→By
 | 0=>[]
 | n+1=>v % 256::zce (v/256) n
def zso(m:By)(a w:Int):Bool:=gwM w&&zgg m a w
def zbc(m:By)(a w:Int):Bool × Int:=if zso m a w=true then (true,zbq ((m.drop a.toNat).take w.toNat)) else (false,0)
def zg0(m:By)(a:Nat)(b:By):By:=m.take a++b++m.drop (a+b.length)
def ykn(m:By)(a n:Int):Prop:=zal Tryz.prog F0 .none Tryz.f242 [byP,u64,i64] [bl] (m,a,n) (zgg m a n)
def yoz(m:By)(a n:Int):Prop:=zal Tryz.prog F0 .none Tryz.f238 [byP,u64,u64] [bl] (m,a,n) (zgg m a n)
def numS(k:Nat):Sum:=zai [bsP] [u64] (fun m=>some (zaj m∧m.length≤8∧m.length<k)) zbq
def zyl(k:Nat)(m:By):Prop:=zal Tryz.prog (mkD [(180,numS k)] [] []) .none Tryz.f180 [bsP] [u64] m (zbq m)
def yzh(m:By)(a w:Int):LoopS where
 α:=Int
 I i:=0≤i∧i≤w
 sl i:=slots 26 [(0,.sl 0 1 0 m.length),(1,.v (.int .u64 a)),(7,.v (.int .u64 (zbq ((m.drop (a+i).toNat).take (w-i).toNat)))),(8,.v (.int .u64 i))]
 H _:=[.arr [.i .u8] m false]
 fams:=[{ β:=Unit,out:=fun _ _=>True,ex := .ext 0,sl:=fun _=>slots 26 [(7,.v (.int .u64 (zbq ((m.drop a.toNat).take w.toNat))))],H:=fun _=>[.arr [.i .u8] m false] }]
def zyv(m:By)(a w i:Int):Prop:=zam Tryz.prog F0 (.one 3 (yzh m a w)) 1 (zag Tryz.f239 0) (yzh m a w) (fun i:Int=>i.toNat) i
def yk1(m:By)(a w:Int):Prop:=zal Tryz.prog F0 (.one 3 (yzh m a w)) Tryz.f239 [byP,u64,u64] [u64] (m,a,w) (zbq ((m.drop a.toNat).take w.toNat))
def yz0(m:By)(a w v:Int):LoopS where
 α:=Nat
 I i:=(i:Int)≤w
 sl i:=slots 24 [(0,.sl 0 1 0 m.length),(1,.v (.int .u64 a)),(3,.v (.int .u64 v)),(9,.v (.int .u64 w)),(10,.v (.int .u64 i))]
 H i:=[.arr [.i .u8] (zg0 m a.toNat (zce v i)) true]
 fams:=[{ β:=Unit,out:=fun _ _=>True,ex := .ext 0,sl:=fun _=>slots 24 [],H:=fun _=>[.arr [.i .u8] (zg0 m a.toNat (zce v w.toNat)) true] }]
def yph(m:By)(a w v:Int)(i:Nat):Prop:=zam Tryz.prog F0 (.one 1 (yz0 m a w v)) 1 (zag Tryz.f240 0) (yz0 m a w v) (fun i:Nat=>w.toNat-i) i
def yau1(m:By)(a w v:Int):Prop:=zon Tryz.prog F0 (.one 1 (yz0 m a w v)) Tryz.f240 [byP,u64,u64,u64] [] (m,a,w,v) ((zg0 m a.toNat (zce v w.toNat),a,w,v),())
def bytS(k:Nat):Sum:=zai [u64,i64] [byP] (fun t=>some (U64 t.1∧0≤t.2∧t.2≤8∧t.2.toNat<k)) (fun t=>zce t.1 t.2.toNat)
def ydd(k:Nat)(v n:Int):Prop:=zal Tryz.prog (mkD [(190,bytS k)] [] []) .none Tryz.f190 [u64,i64] [byP] (v,n) (zce v n.toNat)
def yo3(m:By)(a:Int)(b:By):Prop:=zal Tryz.prog F0 .none Tryz.f189 [byP,i64,byP] [byP] (m,a,b) (zg0 m a.toNat b)
def zsq(m:By)(a w:Int):Prop:=zaj m∧0≤a∧0≤w∧w≤8∧a+w≤m.length
def kB1:Known:=[
 (242,zai [byP,u64,i64] [bl] (fun t=>some (SzR t.1.length∧0≤t.2.2)) (fun t=>zgg t.1 t.2.1 t.2.2)),
 (238,zai [byP,u64,u64] [bl] (fun t=>some (SzR t.1.length∧0≤t.2.2)) (fun t=>zgg t.1 t.2.1 t.2.2)),
 (180,zai [bsP] [u64] (fun m=>some (zaj m∧m.length≤8)) zbq),
 (239,zai [byP,u64,u64] [u64] (fun t=>some (zsq t.1 t.2.1 t.2.2)) (fun t=>zbq ((t.1.drop t.2.1.toNat).take t.2.2.toNat))),
 (240,yam [byP,u64,u64,u64] [] (fun t=>some (zsq t.1 t.2.1 t.2.2.1∧U64 t.2.2.2)) (fun t=>((zg0 t.1 t.2.1.toNat (zce t.2.2.2 t.2.2.1.toNat),t.2),()))),
 (190,zai [u64,i64] [byP] (fun t=>some (U64 t.1∧0≤t.2∧t.2≤8)) (fun t=>zce t.1 t.2.toNat)),
 (189,zai [byP,i64,byP] [byP] (fun t=>some (SzR t.1.length∧0≤t.2.1∧t.2.1+t.2.2.length≤t.1.length)) (fun t=>zg0 t.1 t.2.1.toNat t.2.2)),
 ]
set_option linter.unusedVariables false
theorem zu7(m:By)(a n:Int):ykn m a n=(
 (zgg m a n=bif decide (n≤(↑(List.length m):Int)) then decide (a≤IntKind.u64.wrap (IntKind.i64.wrap ((↑(List.length m):Int)-n))) else false)∧m=m):=by kernel_rfl
theorem zyh(m:By)(a n:Int):yoz m a n=(
 (zgg m a n=bif decide (n≤IntKind.u64.wrap (↑(List.length m):Int)) then decide (a≤IntKind.u64.wrap (IntKind.u64.wrap (↑(List.length m):Int)-n)) else false)∧m=m):=by kernel_rfl
theorem zos(k:Nat)(m:By):zyl k m=(
 let A0:=(↑(List.length m):Int);
 let A1:=(0:Nat)+(1:Int).toNat;
 let A2:=A0.toNat-(1:Int).toNat;
 let A3:=(0:Nat)+(0:Int).toNat;
 let A4:=List.take A2 (List.drop A1 m);
 let A5(a:Bool)(b:Prop):=(A0==0)=a→b;
 let A6(a:Int):=zbq m=a∧m=m;
 let A7:=(List.take A2 (List.drop A1 m)).length;
 A5 true (A6 0)∧A5 false (((0:Int)≤0∧0<A0)∧A3<List.length m∧((0:Int)≤1∧1≤A0∧A0≤A0)∧(A1+A2≤List.length m∧zaj A4∧A7≤8∧A7<k)∧A6 (IntKind.u64.wrap
  (IntKind.u64.wrap (List.getD m A3 (El.zero (Ty.i IntKind.u8::[])))+IntKind.u64.wrap ((256:Int)*zbq A4))))):=by kernel_rfl
theorem zoy(m:By)(a w i:Int):zyv m a w i=(
 let A0(a:Int):=IntKind.u64.wrap a;
 let A1:=List.length m;
 let A2(a b:Int):=zbq (List.take a.toNat (List.drop b.toNat m));
 let A3:=A0 (A0 (a+i)-1);
 let A4:=(0:Nat)+A3.toNat;
 let A5(a:Prop)(b:Int)(c:Prop)(d e:Nat)(f:Prop):=a∧((0:Int)≤b∧c)∧d<e∧f;
 let A6:=A2 (w-i) (a+i);
 let A7(a:Bool)(b:Prop):=decide (i>0)=a→b;
 A7 true (A5 ((0:Int)≤8) A3 (A3<(↑A1:Int)) A4 A1 (∃(x0:Int),A5 ((0:Nat)=0∧A1=A1∧a=a∧A2 (w-x0) (a+x0)=bits BinOp.or IntKind.u64 (A0 (A6*2 ^ (min (8:Int).toNat 64)))
  (IntKind.u64.wrap (List.getD m A4 (El.zero (Ty.i IntKind.u8::[]))))∧x0=A0 (i-1)∧m=m) x0 (x0≤w) x0.toNat i.toNat (∀(x1:Unit),True→True)))∧A7 false (∃(x2:Unit),(A2 w a=A6∧m=m)∧True)):=by kernel_rfl
theorem zvn(m:By)(a w:Int):yk1 m a w=(
 ∃(x:Int),
   ((0:Nat)=0∧List.length m=List.length m∧a=a∧zbq (List.take (w-x).toNat (List.drop (a+x).toNat m))=0∧x=w∧m=m) ∧
     ((0:Int)≤x∧x≤w)∧∀(z:Unit),True→zbq (List.take w.toNat (List.drop a.toNat m))=zbq (List.take w.toNat (List.drop a.toNat m))∧m=m):=by kernel_rfl
theorem zy8(m:By)(a w v:Int)(i:Nat):yph m a w v i=(
 let A0(a:Int):=IntKind.u64.wrap a;
 let A1:=(↑i:Int);
 let A2:=List.length m;
 let A3(b:Nat):=List.take a.toNat m++zce v b++List.drop (a.toNat+List.length (zce v b)) m;
 let A4(a:Int)(b:Prop):=(0:Int)≤A0 a∧b;
 let A5:=(0:Nat)+(A0 (a+A1)).toNat;
 let A6(a:Bool)(b:Prop):=decide (A1<w)=a→b;
 A6 true (A4 ((8:Int)*A1) (A4 (a+A1) (A0 (a+A1)<(↑A2:Int))∧A5<(A3 i).length∧∃(x0:Nat),((0:Nat)=0∧A2=A2∧a=a∧v=v∧w=w∧(↑x0:Int)=A0 (A1+1)∧A3 x0=(A3 i).set A5
  (IntKind.u8.wrap (v/2 ^ (min (A0 ((8:Int)*A1)).toNat 64))))∧(↑x0:Int)≤w∧w.toNat-x0<w.toNat-i∧∀(x1:Unit),True→True))∧A6 false (∃(x2:Unit),A3 w.toNat=A3 i∧True)):=by kernel_rfl
theorem ylb(m:By)(a w v:Int):yau1 m a w v=(
 ∃(x:Nat),
   ((0:Nat)=0∧List.length m=List.length m∧a=a∧v=v∧w=w∧(↑x:Int)=0∧List.take a.toNat m++zce v x++List.drop (a.toNat+List.length (zce v x)) m=m) ∧
     (↑x:Int)≤w ∧
       ∀(z:Unit),
         True →
           List.take a.toNat m++zce v w.toNat++List.drop (a.toNat+List.length (zce v w.toNat)) m=List.take a.toNat m++zce v w.toNat++List.drop (a.toNat+List.length (zce v w.toNat)) m):=by kernel_rfl
theorem zr0(k:Nat)(v n:Int):ydd k v n=(
 let A0(a b:Int):=zce a b.toNat;
 let A1:=IntKind.i64.wrap (n-1);
 let A2:=IntKind.u64.wrap (v.tdiv 256);
 let A3:=List.length (A0 A2 A1);
 let A4:=(0:Nat)=0;
 let A5:=(256:Int)≠0;
 let A6(a:Nat)(b:List (El [Ty.i IntKind.u8])):=List.length (A0 v n)=a∧A0 v n=b;
 let A7:=(1:Nat)+(List.take A3 (List.drop 0 (A0 A2 A1))).length;
 let A8:=IntKind.u8.wrap (v.tmod 256)::[];
 let A9(a:Bool)(b c:Prop):=(n==0)=a→b∧c;
 A9 true A4 (A6 0 [])∧A9 false A5 (A5∧(U64 A2∧(0:PmT [i64])≤A1∧A1≤(8:PmT [i64])∧A1.toNat<k)∧((0:Nat)+A3≤A3∧1≤A8.length∧A7≤1073741824)∧A4∧A6 A7 (List.take 1 A8 ++
  List.take A3 (List.drop 0 (A0 A2 A1))))):=by kernel_rfl
theorem znz(m:By)(a:Int)(b:By):yo3 m a b=(
 let A0(a b:Nat)(c:By):=List.take a (List.drop b c);
 let A1(a:By):=(↑(List.length a):Int);
 let A2:=(0:Int).toNat;
 let A3(a:Nat):=(0:Nat)+a;
 let A4:=List.length b;
 let A5:=a.toNat-A2;
 let A6(a:Nat):=a≤1073741824;
 let A7:=(IntKind.i64.wrap (a+A1 b)).toNat;
 let A8:=A3 (A0 A5 (A3 A2) m).length;
 let A9(a b c:Prop):=a∧b∧c;
 let Aa:=A8+(A0 A4 0 b).length;
 let Ab(a:Prop)(b:Nat)(c d:List (El [Ty.i IntKind.u8]))(e:Nat):=A9 a (b≤(c++d).length) (A6 e);
 let Ac(a:Int)(b:Prop)(c:Int):=A9 ((0:Int)≤a) b (c≤A1 m);
 let Ad:=A0 A4 0 b;
 let Ae:=IntKind.i64.wrap (a+A1 b);
 let Af:=List.take A8 ([]++A0 A5 (A3 A2) m);
 let Ah:=Aa+(A0 ((A1 m).toNat-A7) (A3 A7) m).length;
 let Ai:=List.take a.toNat m++b++List.drop (a.toNat+A4) m;
 let Aj:=(A1 m).toNat-A7;
 let Ak(a b:Nat):=A3 a+b≤List.length m;
 Ac 0 ((0:Int)≤a) a∧A9 (A9 (Ak A2 A5) ((0:Nat)≤0) (A6 A8)) (Ab (A3 A4≤A4) A8 [] (A0 A5 (A3 A2) m) Aa) (A9 (Ac Ae (Ae≤A1 m) (A1 m)) (Ab (Ak A7 Aj) Aa Af Ad Ah) (A9 ((0:Nat)=0) (Ai.length=Ah) (A9 (m
  = m) (b=b) (Ai=List.take Aa (Af++Ad)++A0 Aj (A3 A7) m))))):=by kernel_rfl
set_option linter.unusedSimpArgs false
theorem wrap_u8(x:Int):IntKind.u8.wrap x=x % 256:=by rw[IntKind.wrap_u8]
theorem zcj{n i:Nat}(h:SzR n)(hi:i<n):IntKind.i64.wrap ((i:Int)+1)=((i+1:Nat):Int):=by
 unfold SzR at h
 rw[zaa (by omega) (by omega)]
 omega
theorem yg0:Sound Tryz.prog 242 (zai [byP,u64,i64] [bl] (fun t=>some (SzR t.1.length∧0≤t.2.2)) (fun t=>zgg t.1 t.2.1 t.2.2)):=by
 refine zad mixed Tryz.func242 (by kernel_rfl) (by kernel_rfl) zdc (fun t h => ?_)
 obtain⟨m,a,n⟩:By × Int × Int:=t
 obtain⟨h1,h2⟩:SzR m.length∧0≤n:=h
 unfold SzR at h1
 refine zab (zu7 m a n) ⟨?_,rfl⟩
 unfold zgg
 by_cases g:n≤(m.length:Int)
 · rw[zaa (n:=(m.length:Int)-n) (by omega) (by omega),zah (by omega) (by omega)]
   simp[g]
 · simp[g]
theorem ym6:Sound Tryz.prog 238 (zai [byP,u64,u64] [bl] (fun t=>some (SzR t.1.length∧0≤t.2.2)) (fun t=>zgg t.1 t.2.1 t.2.2)):=by
 refine zad mixed Tryz.func238 (by kernel_rfl) (by kernel_rfl) zdc (fun t h => ?_)
 obtain⟨m,a,n⟩:By × Int × Int:=t
 obtain⟨h1,h2⟩:SzR m.length∧0≤n:=h
 unfold SzR at h1
 refine zab (zyh m a n) ⟨?_,rfl⟩
 unfold zgg
 rw[zah (n:=(m.length:Int)) (by omega) (by omega)]
 by_cases g:n≤(m.length:Int)
 · rw[zah (by omega) (by omega)]
   simp[g]
 · simp[g]
theorem zkp:∀{m:By},(∀b ∈ m,0≤b∧b<256)→0≤zbq m∧zbq m<256 ^ m.length
 | [],_=>⟨Int.le_refl _,by decide⟩
 | b::t,h=>by
  have h1:=h b List.mem_cons_self
  have h2:=zkp (m:=t) (fun x hx=>h x (List.mem_cons_of_mem _ hx))
  simp only[zbq,List.length_cons]
  rw[Int.pow_succ]
  omega
theorem zh1{m:By}(h:∀b ∈ m,0≤b∧b<256)(hl:m.length≤8):U64 (zbq m):=by
 obtain⟨h1,h2⟩:=zkp h
 refine⟨h1,Int.lt_of_lt_of_le h2 ?_⟩
 have:∀n:Nat,n≤8→(256:Int) ^ n≤18446744073709551616:=by decide
 exact this _ hl
theorem zm1:∀k:Nat,Sound Tryz.prog 180 (numS k)
 | 0=>zad mixed Tryz.func180 (by kernel_rfl) (by kernel_rfl) (D:=mkD [] [] []) (zay .nil .nil .nil) (fun  (m:By) h=>absurd h.2.2 (Nat.not_lt_zero _))
 | k+1=>by
  refine zad mixed Tryz.func180 (by kernel_rfl) (by kernel_rfl) (D:=mkD [(180,numS k)] [] []) (zay (.cons (by kernel_rfl) (zm1 k) .nil) .nil .nil) (fun  (m:By) h => ?_)
  obtain⟨h1,h2,h3⟩:zaj m∧m.length≤8∧m.length<k+1:=h
  refine zab (zos k m) ?_
  conv=>zeta
  refine⟨fun g => ?_,fun g => ?_⟩
  · have:m=[]:=by simpa using g
    subst this
    exact⟨rfl,rfl⟩
  · cases m with
    | nil=>simp at g
    | cons b t =>
     have hb:=h1.2 b List.mem_cons_self
     have ht:∀x ∈ t,0≤x∧x<256:=fun x hx=>h1.2 x (List.mem_cons_of_mem _ hx)
     have e:List.take (((b::t).length:Int).toNat-Int.toNat 1) (List.drop (0+Int.toNat 1) (b::t))=t:=by simp
     have n1:=zh1 ht (by simp at h2;omega)
     have n2:=zh1 h1.2 h2
     have hs:SzR t.length:=by have:=h1.1;unfold SzR at this ⊢;simp at this;omega
     rw[e]
     simp only[List.length_cons] at h2 h3 ⊢
     refine⟨⟨by omega,by omega⟩,by simp,⟨by omega,by omega,by omega⟩,⟨by simp;omega,⟨hs,ht⟩,by omega,by omega⟩, ?_,trivial⟩
     have e2:List.getD (b::t) (0+Int.toNat 0) (El.zero [Ty.i IntKind.u8])=b:=rfl
     rw[e2]
     have n2:U64 (b+256*zbq t):=n2
     show b+256*zbq t=_
     unfold U64 at n1 n2
     rw[IntKind.wrap_u64,IntKind.wrap_u64,IntKind.wrap_u64]
     omega
theorem yh9:Sound Tryz.prog 239 (zai [byP,u64,u64] [u64] (fun t=>some (zsq t.1 t.2.1 t.2.2)) (fun t=>zbq ((t.1.drop t.2.1.toNat).take t.2.2.toNat))):=by
 refine zbl mixed Tryz.func239 (by kernel_rfl) (b:=zag Tryz.f239 0) (k:=3) (by kernel_rfl) (by kernel_rfl) (by kernel_rfl) zdc (fun t h => ?_)
 obtain⟨m,a,w⟩:By × Int × Int:=t
 obtain⟨⟨hs,hb⟩,h1,h2,h3,h4⟩:zsq m a w:=h
 unfold SzR at hs
 refine⟨.one 3 (yzh m a w),yzh m a w,fun i:Int=>i.toNat,za3 _ _,fun  (i:Int) hi=>zab (zoy m a w i) ?_,zab (zvn m a w) ?_⟩
 all_goals (try conv=>zeta)
 · obtain⟨hi0,hi1⟩:0≤i∧i≤w:=hi
   refine⟨fun g => ?_,fun g => ?_⟩
   · have g:i>0:=of_decide_eq_true g
     have e1:IntKind.u64.wrap (IntKind.u64.wrap (a+i)-1)=a+i-1:=by
      rw[zah (n:=a+i) (by omega) (by omega),zah (by omega) (by omega)]
     have e2:IntKind.u64.wrap (i-1)=i-1:=zah (by omega) (by omega)
     rw[e1,e2]
     refine⟨by decide,⟨by omega,by omega⟩,by omega,i-1,⟨rfl,rfl,rfl, ?_,rfl,rfl⟩,⟨by omega,by omega⟩,by omega,fun _ _=>trivial⟩
     have hlt:(a+i-1).toNat<m.length:=by omega
     have hsub:∀b ∈ List.take (w-i).toNat (List.drop (a+i).toNat m),0≤b∧b<256:=fun b hb'=>hb b (List.mem_of_mem_drop (List.mem_of_mem_take hb'))
     have hn:=zkp hsub
     have hlen:(List.take (w-i).toNat (List.drop (a+i).toNat m)).length≤7:=by rw[List.length_take];omega
     have hp:(256:Int) ^ (List.take (w-i).toNat (List.drop (a+i).toNat m)).length≤72057594037927936:=by
      have:∀n:Nat,n≤7→(256:Int) ^ n≤72057594037927936:=by decide
      exact this _ hlen
     have e3:List.take (w-(i-1)).toNat (List.drop (a+(i-1)).toNat m)=m[(a+i-1).toNat]::List.take (w-i).toNat (List.drop (a+i).toNat m):=by
      rw[show (a+(i-1)).toNat=(a+i-1).toNat by omega,List.drop_eq_getElem_cons hlt,show (w-(i-1)).toNat=(w-i).toNat+1 by omega,List.take_succ_cons,show (a+i-1).toNat+1=(a+i).toNat by omega]
     have hbv:=hb m[(a+i-1).toNat] (List.getElem_mem hlt)
     have e4:List.getD m (0+(a+i-1).toNat) (El.zero [Ty.i IntKind.u8])=m[(a+i-1).toNat]:=by
      rw[Nat.zero_add,List.getD_eq_getElem?_getD,List.getElem?_eq_getElem hlt];rfl
     rw[e3,e4]
     generalize List.take (w-i).toNat (List.drop (a+i).toNat m)=r at *
     generalize m[(a+i-1).toNat]=b at *
     have e5:(2:Int) ^ min (Int.toNat 8) 64=256:=by decide
     rw[e5,zah (n:=zbq r*256) (by omega) (by omega),zah (n:=b) (by omega) (by omega),zrg 8 (by omega) (by rw[show (2:Int) ^ 8=256 by decide];omega) (by omega) (by omega) (by rw[show (2:Int) ^ 8=256 by decide];omega) (by omega)]
     show b+256*zbq r=_
     omega
   · have g:¬ i>0:=of_decide_eq_false g
     have:i=0:=by omega
     subst this
     exact⟨(),⟨by rw[Int.add_zero,Int.sub_zero],rfl⟩,trivial⟩
 · refine⟨w,⟨rfl,rfl,rfl, ?_,rfl,rfl⟩,⟨by omega,by omega⟩,fun _ _=>⟨rfl,rfl⟩⟩
   rw[Int.sub_self]
   simp[zbq]
theorem zde:∀(v:Int)(n:Nat),(zce v n).length=n
 | _,0=>rfl
 | v,n+1=>by simp[zce,zde (v/256) n]
theorem zs0:∀(v:Int)(n:Nat),zce v (n+1)=zce v n++[v/2 ^ (8*n) % 256]
 | v,0=>by simp[zce]
 | v,n+1=>by
  have e:v/256/2 ^ (8*n)=v/2 ^ (8*(n+1)):=by
   rw[Int.ediv_ediv_of_nonneg (by decide),show 8*(n+1)=8+8*n by omega,Int.pow_add]
   rfl
  rw[zce,zs0 (v/256) n,e]
  rfl
theorem zww:∀(v:Int)(n:Nat),∀b ∈ zce v n,0≤b∧b<256
 | _,0,b,h=>by simp[zce] at h
 | v,n+1,b,h=>by
  rcases List.mem_cons.1 h with rfl|h
  · omega
  · exact zww (v/256) n b h
theorem ziu{m b:By}{a:Nat}(h:a+b.length≤m.length):(zg0 m a b).length=m.length:=by
 unfold zg0
 simp
 omega
theorem ynz{m b:By}{a:Nat}(v:Int)(h:a+b.length<m.length):(zg0 m a b).set (a+b.length) v=zg0 m a (b++[v]):=by
 unfold zg0
 have hl:(List.take a m++b).length=a+b.length:=by simp;omega
 rw[List.set_append_right _ _ (by omega),hl,Nat.sub_self,List.drop_eq_getElem_cons h]
 simp[Nat.add_assoc]
theorem yz1:Sound Tryz.prog 240 (yam [byP,u64,u64,u64] [] (fun t=>some (zsq t.1 t.2.1 t.2.2.1∧U64 t.2.2.2)) (fun t=>((zg0 t.1 t.2.1.toNat (zce t.2.2.2 t.2.2.1.toNat),t.2),()))):=by
 refine zlq mixed Tryz.func240 (by kernel_rfl) (b:=zag Tryz.f240 0) (k:=1) (by kernel_rfl) (by kernel_rfl) (by kernel_rfl) zdc (fun t h => ?_)
 obtain⟨m,a,w,v⟩:By × Int × Int × Int:=t
 obtain⟨⟨⟨hs,hb⟩,h1,h2,h3,h4⟩,h5⟩:zsq m a w∧U64 v:=h
 unfold SzR at hs
 refine⟨.one 1 (yz0 m a w v),yz0 m a w v,fun i:Nat=>w.toNat-i,za3 _ _,fun  (i:Nat) hi=>zab (zy8 m a w v i) ?_,zab (ylb m a w v) ?_⟩
 all_goals (try conv=>zeta)
 · have hi:(i:Int)≤w:=hi
   refine⟨fun g => ?_,fun g => ?_⟩
   · have g:(i:Int)<w:=of_decide_eq_true g
     have hl:=zde v i
     have hp:(zg0 m a.toNat (zce v i)).length=m.length:=ziu (by omega)
     have e1:IntKind.u64.wrap (a+i)=a+i:=zah (by omega) (by omega)
     have e2:IntKind.u64.wrap (8*(i:Int))=8*i:=zah (by omega) (by omega)
     have e3:IntKind.u64.wrap ((i:Int)+1)=((i+1:Nat):Int):=by rw[zah (by omega) (by omega)];omega
     rw[e1,e2,e3]
     refine⟨by omega,⟨by omega,by omega⟩, ?_,i+1,⟨rfl,rfl,rfl,rfl,rfl,rfl, ?_⟩,by omega,by omega,fun _ _=>trivial⟩
     · change 0+(a+(i:Int)).toNat<(zg0 m a.toNat (zce v i)).length
       rw[hp];omega
     · change zg0 m a.toNat (zce v (i+1))=(zg0 m a.toNat (zce v i)).set (0+(a+(i:Int)).toNat) _
       rw[show 0+(a+(i:Int)).toNat=a.toNat+(zce v i).length by omega,ynz _ (by omega),zs0,wrap_u8,show min (8*(i:Int)).toNat 64=8*i by omega]
   · have g:¬ (i:Int)<w:=of_decide_eq_false g
     have:i=w.toNat:=by omega
     subst this
     exact⟨(),rfl,trivial⟩
 · refine⟨0,⟨rfl,rfl,rfl,rfl,rfl,rfl, ?_⟩,by omega,fun _ _=>rfl⟩
   simp[zce]
theorem zpk:∀k:Nat,Sound Tryz.prog 190 (bytS k)
 | 0=>zad mixed Tryz.func190 (by kernel_rfl) (by kernel_rfl) (D:=mkD [] [] []) (zay .nil .nil .nil) (fun  (t:Int × Int) h=>absurd h.2.2.2 (Nat.not_lt_zero _))
 | k+1=>by
  refine zad mixed Tryz.func190 (by kernel_rfl) (by kernel_rfl) (D:=mkD [(190,bytS k)] [] []) (zay (.cons (by kernel_rfl) (zpk k) .nil) .nil .nil) (fun t h => ?_)
  obtain⟨v,n⟩:Int × Int:=t
  obtain⟨h1,h2,h3,h4⟩:U64 v∧0≤n∧n≤8∧n.toNat<k+1:=h
  refine zab (zr0 k v n) ?_
  conv=>zeta
  refine⟨fun g => ?_,fun g => ?_⟩
  · have:n=0:=by simpa using g
    subst this
    exact⟨rfl,rfl,rfl⟩
  · have g:n≠0:=by simpa using g
    have hv:=zgj 8 h1
    have e1:IntKind.u64.wrap (v.tdiv 256)=v/256:=by rw[zev h1.1];exact zah hv.1 hv.2
    have e2:IntKind.i64.wrap (n-1)=n-1:=zaa (by omega) (by omega)
    have e3:IntKind.u8.wrap (v.tmod 256)=v % 256:=by rw[wrap_u8,zb1 h1.1];omega
    have e4:zce v n.toNat=v % 256::zce (v/256) (n-1).toNat:=by rw[show n.toNat=(n-1).toNat+1 by omega,zce]
    have hl:=zde (v/256) (n-1).toNat
    have e5:List.take (List.length (zce (v/256) (n-1).toNat)) (List.drop 0 (zce (v/256) (n-1).toNat))=zce (v/256) (n-1).toNat:=by simp
    rw[e1,e2,e3,e4,e5]
    exact⟨by decide,by decide,⟨hv,by show (0:Int)≤n-1;omega,by show n-1≤(8:Int);omega,by omega⟩,⟨by omega,Nat.le_refl _,by omega⟩,rfl,by rw[List.length_cons];omega,rfl⟩
theorem ynd:Sound Tryz.prog 189 (zai [byP,i64,byP] [byP] (fun t=>some (SzR t.1.length∧0≤t.2.1∧t.2.1+t.2.2.length≤t.1.length)) (fun t=>zg0 t.1 t.2.1.toNat t.2.2)):=by
 refine zad mixed Tryz.func189 (by kernel_rfl) (by kernel_rfl) zdc (fun t h => ?_)
 obtain⟨m,a,b⟩:By × Int × By:=t
 obtain⟨h1,h2,h3⟩:SzR m.length∧0≤a∧a+b.length≤m.length:=h
 unfold SzR at h1
 refine zab (znz m a b) ?_
 conv=>zeta
 have e:IntKind.i64.wrap (a+(b.length:Int))=a+b.length:=zaa (by omega) (by omega)
 have e2:(a+(b.length:Int)).toNat=a.toNat+b.length:=by omega
 have e3:List.take (List.length b) (List.drop 0 b)=b:=by simp
 have e4:List.take (a.toNat-Int.toNat 0) (List.drop (0+Int.toNat 0) m)=List.take a.toNat m:=rfl
 have e5:List.take ((m.length:Int).toNat-(a.toNat+b.length)) (List.drop (0+(a.toNat+b.length)) m)=List.drop (a.toNat+b.length) m:=by
  rw[Nat.zero_add];exact List.take_of_length_le (by simp<;>omega)
 have e6:(List.take a.toNat m).length=a.toNat:=by simp;omega
 rw[e,e2,e3,e4,e5]
 simp only[List.length_append,e6,List.nil_append,List.length_drop,Nat.zero_add]
 have e7:List.take a.toNat (List.take a.toNat m)=List.take a.toNat m:=by rw[List.take_take,Nat.min_self]
 have e8:List.take (a.toNat+b.length) (List.take a.toNat m++b)=List.take a.toNat m++b:=List.take_of_length_le (by rw[List.length_append,e6];exact Nat.le_refl _)
 rw[e7,e8]
 refine⟨⟨by omega,by omega,by omega⟩,⟨by omega,by omega,by omega⟩,⟨by omega,by omega,by omega⟩,⟨by omega,by omega,by omega⟩,⟨by omega, ?_,by omega⟩, ?_, ?_, ?_, ?_, ?_⟩
 · simp[e6]
 all_goals first|trivial|rfl|omega
theorem ztq:Sound Tryz.prog 180 (zai [bsP] [u64] (fun m=>some (zaj m∧m.length≤8)) zbq) :=
 zft (zm1 9) (fun  (m:By) h=>by have h:zaj m∧m.length≤8:=h;exact⟨h.1,h.2,by omega⟩)
theorem zxl:Sound Tryz.prog 190 (zai [u64,i64] [byP] (fun t=>some (U64 t.1∧0≤t.2∧t.2≤8)) (fun t=>zce t.1 t.2.toNat)) :=
 zft (zpk 9) (fun  (t:Int × Int) h=>by have h:U64 t.1∧0≤t.2∧t.2≤8:=h;exact⟨h.1,h.2.1,h.2.2,by omega⟩)
theorem yg5:zar Tryz.prog kB1 :=
 .cons (by kernel_rfl) yg0 <| .cons (by kernel_rfl) ym6 <| .cons (by kernel_rfl) ztq <| .cons (by kernel_rfl) yh9 <| .cons (by kernel_rfl) yz1 <|
 .cons (by kernel_rfl) zxl <| .cons (by kernel_rfl) ynd <| .nil
end Go.Proofs.YtfiddfbagbaofaaGreat.V
