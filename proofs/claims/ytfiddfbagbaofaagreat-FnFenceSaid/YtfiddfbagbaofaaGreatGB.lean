/- The memory's functions and the laws' helpers on bytes answer as their models. Conditions: those in each statement. -/
import Derived.Test.YtfiddfbagbaofaaGreatGA
import Derived.Test.YtfiddfbagbaofaaGreatV3
import Derived.KernelRfl
namespace Go.Proofs.YtfiddfbagbaofaaGreat.V
open Go
abbrev byP:Pm := .one (.sl [.i .u8])
abbrev bsP:Pm := .one (.sub [.i .u8])
abbrev rrP:Pm := .st [.b,.i .u64]
abbrev By:=List Int
def SzR(n:Nat):Prop:=n≤2097152
def zan(m:By):Prop:=SzR m.length∧∀b ∈ m,0≤b∧b<256
def gwM(w:Int):Bool:=w==1||w==2||w==4||w==8
def zl3(m:By)(a w:Int):Bool:=decide (w≤m.length)&&decide (a≤m.length-w)
def zda:By→Int
 | []=>0
 | b::t=>b+256*zda t
def zc6(v:Int):Nat→By
 | 0=>[]
 | n+1=>v % 256::zc6 (v/256) n
def zsy(m:By)(a w:Int):Bool:=gwM w&&zl3 m a w
def zbi(m:By)(a w:Int):Bool × Int:=if zsy m a w=true then (true,zda ((m.drop a.toNat).take w.toNat)) else (false,0)
def zpz(m:By)(a:Nat)(b:By):By:=m.take a++b++m.drop (a+b.length)
def yif(m:By)(a n:Int):Prop:=zal Tryz.prog F0 .none Tryz.f242 [byP,u64,i64] [bl] (m,a,n) (zl3 m a n)
def ymq(m:By)(a n:Int):Prop:=zal Tryz.prog F0 .none Tryz.f238 [byP,u64,u64] [bl] (m,a,n) (zl3 m a n)
def numS(k:Nat):Sum:=zag [bsP] [u64] (fun m=>some (zan m∧m.length≤8∧m.length<k)) zda
def zw9(k:Nat)(m:By):Prop:=zal Tryz.prog (mkD [(180,numS k)] [] []) .none Tryz.f180 [bsP] [u64] m (zda m)
def yvz(m:By)(a w:Int):LoopS where
 α:=Int
 I i:=0≤i∧i≤w
 sl i:=slots 26 [(0,.sl 0 1 0 m.length),(1,.v (.int .u64 a)),(7,.v (.int .u64 (zda ((m.drop (a+i).toNat).take (w-i).toNat)))),(8,.v (.int .u64 i))]
 H _:=[.arr [.i .u8] m false]
 fams:=[{ β:=Unit,out:=fun _ _=>True,ex := .ext 0,sl:=fun _=>slots 26 [(7,.v (.int .u64 (zda ((m.drop a.toNat).take w.toNat))))],H:=fun _=>[.arr [.i .u8] m false] }]
def zxl(m:By)(a w i:Int):Prop:=zax Tryz.prog F0 (.one 3 (yvz m a w)) 1 (zai Tryz.f239 0) (yvz m a w) (fun i:Int=>i.toNat) i
def yit(m:By)(a w:Int):Prop:=zal Tryz.prog F0 (.one 3 (yvz m a w)) Tryz.f239 [byP,u64,u64] [u64] (m,a,w) (zda ((m.drop a.toNat).take w.toNat))
def bytS(k:Nat):Sum:=zag [u64,i64] [byP] (fun t=>some (U64 t.1∧0≤t.2∧t.2≤8∧t.2.toNat<k)) (fun t=>zc6 t.1 t.2.toNat)
def ybr(k:Nat)(v n:Int):Prop:=zal Tryz.prog (mkD [(190,bytS k)] [] []) .none Tryz.f190 [u64,i64] [byP] (v,n) (zc6 v n.toNat)
def ymv(m:By)(a:Int)(b:By):Prop:=zal Tryz.prog F0 .none Tryz.f189 [byP,i64,byP] [byP] (m,a,b) (zpz m a.toNat b)
def yt6(m:By)(a w:Int):Prop:=zan m∧0≤a∧0≤w∧w≤8∧a+w≤m.length
def kB1:Known:=[
 (242,zag [byP,u64,i64] [bl] (fun t=>some (SzR t.1.length∧0≤t.2.2)) (fun t=>zl3 t.1 t.2.1 t.2.2)),
 (238,zag [byP,u64,u64] [bl] (fun t=>some (SzR t.1.length∧0≤t.2.2)) (fun t=>zl3 t.1 t.2.1 t.2.2)),
 (180,zag [bsP] [u64] (fun m=>some (zan m∧m.length≤8)) zda),
 (239,zag [byP,u64,u64] [u64] (fun t=>some (yt6 t.1 t.2.1 t.2.2)) (fun t=>zda ((t.1.drop t.2.1.toNat).take t.2.2.toNat))),
 (190,zag [u64,i64] [byP] (fun t=>some (U64 t.1∧0≤t.2∧t.2≤8)) (fun t=>zc6 t.1 t.2.toNat)),
 (189,zag [byP,i64,byP] [byP] (fun t=>some (SzR t.1.length∧0≤t.2.1∧t.2.1+t.2.2.length≤t.1.length)) (fun t=>zpz t.1 t.2.1.toNat t.2.2)),
 ]
set_option linter.unusedVariables false
theorem ztv(m:By)(a n:Int):yif m a n=(
 (zl3 m a n=bif decide (n≤(↑(List.length m):Int)) then decide (a≤IntKind.u64.wrap (IntKind.i64.wrap ((↑(List.length m):Int)-n))) else false)∧m=m):=by kernel_rfl
theorem zw4(m:By)(a n:Int):ymq m a n=(
 (zl3 m a n=bif decide (n≤IntKind.u64.wrap (↑(List.length m):Int)) then decide (a≤IntKind.u64.wrap (IntKind.u64.wrap (↑(List.length m):Int)-n)) else false)∧m=m):=by kernel_rfl
theorem znj(k:Nat)(m:By):zw9 k m=(
 let A0:=(↑(List.length m):Int);
 let A1:=(0:Nat)+(1:Int).toNat;
 let A2:=A0.toNat-(1:Int).toNat;
 let A3:=(0:Nat)+(0:Int).toNat;
 let A4:=List.take A2 (List.drop A1 m);
 let A5(a:Bool)(b:Prop):=(A0==(0:Int))=a→b;
 let A6(a:Int):=zda m=a∧m=m;
 let A7:=(List.take A2 (List.drop A1 m)).length;
 A5 true (A6 (0:Int))∧A5 false (((0:Int)≤(0:Int)∧(0:Int)<A0)∧A3<List.length m∧((0:Int)≤(1:Int)∧(1:Int)≤A0∧A0≤A0)∧(A1+A2≤List.length m∧zan A4∧A7≤(8:Nat)∧A7<k)∧A6 (IntKind.u64.wrap
  (IntKind.u64.wrap (List.getD m A3 (El.zero (Ty.i IntKind.u8::[])))+IntKind.u64.wrap ((256:Int)*zda A4))))):=by kernel_rfl
theorem znn(m:By)(a w i:Int):zxl m a w i=(
 let A0(a:Int):=IntKind.u64.wrap a;
 let A1:=List.length m;
 let A2(a b:Int):=zda (List.take a.toNat (List.drop b.toNat m));
 let A3:=A0 (A0 (a+i)-(1:Int));
 let A4:=(0:Nat)+A3.toNat;
 let A5(a:Prop)(b:Int)(c:Prop)(d e:Nat)(f:Prop):=a∧((0:Int)≤b∧c)∧d<e∧f;
 let A6:=A2 (w-i) (a+i);
 let A7(a:Bool)(b:Prop):=decide (i>(0:Int))=a→b;
 A7 true (A5 ((0:Int)≤(8:Int)) A3 (A3<(↑A1:Int)) A4 A1 (∃(x0':Int),A5 ((0:Nat)=(0:Nat)∧A1=A1∧a=a∧A2 (w-x0') (a+x0')=bits BinOp.or IntKind.u64 (A0 (A6*(2:Int) ^ (min (8:Int).toNat (64:Nat))))
  (IntKind.u64.wrap (List.getD m A4 (El.zero (Ty.i IntKind.u8::[]))))∧x0'=A0 (i-(1:Int))∧m=m) x0' (x0'≤w) x0'.toNat i.toNat (∀(x1':Unit),True→True)))∧A7 false (∃(x2':Unit),(A2 w a=A6∧m=m)∧True)):=by kernel_rfl
theorem zub(m:By)(a w:Int):yit m a w=(
 ∃(x:Int),
   ((0:Nat)=(0:Nat)∧List.length m=List.length m∧a=a∧zda (List.take (w-x).toNat (List.drop (a+x).toNat m))=(0:Int)∧x=w∧m=m) ∧
     ((0:Int)≤x∧x≤w)∧∀(z:Unit),True→zda (List.take w.toNat (List.drop a.toNat m))=zda (List.take w.toNat (List.drop a.toNat m))∧m=m):=by kernel_rfl
theorem zqh(k:Nat)(v n:Int):ybr k v n=(
 let A0(a b:Int):=zc6 a b.toNat;
 let A1:=IntKind.i64.wrap (n-(1:Int));
 let A2:=IntKind.u64.wrap (v.tdiv (256:Int));
 let A3:=List.length (A0 A2 A1);
 let A4:=(0:Nat)=(0:Nat);
 let A5:=(256:Int)≠(0:Int);
 let A6(a:Nat)(b:List (El [Ty.i IntKind.u8])):=List.length (A0 v n)=a∧A0 v n=b;
 let A7:=(1:Nat)+(List.take A3 (List.drop (0:Nat) (A0 A2 A1))).length;
 let A8:=IntKind.u8.wrap (v.tmod (256:Int))::[];
 let A9(a:Bool)(b c:Prop):=(n==(0:Int))=a→b∧c;
 A9 true A4 (A6 (0:Nat) [])∧A9 false A5 (A5∧(U64 A2∧(0:PmT [i64])≤A1∧A1≤(8:PmT [i64])∧A1.toNat<k)∧((0:Nat)+A3≤A3∧(1:Nat)≤A8.length∧A7≤(1073741824:Nat))∧A4∧A6 A7 (List.take (1:Nat) A8 ++
  List.take A3 (List.drop (0:Nat) (A0 A2 A1))))):=by kernel_rfl
theorem zm3(m:By)(a:Int)(b:By):ymv m a b=(
 let A0(a b:Nat)(c:By):=List.take a (List.drop b c);
 let A1(a:By):=(↑(List.length a):Int);
 let A2:=(0:Int).toNat;
 let A3(a:Nat):=(0:Nat)+a;
 let A4:=List.length b;
 let A5:=a.toNat-A2;
 let A6(a:Nat):=a≤(1073741824:Nat);
 let A7:=(IntKind.i64.wrap (a+A1 b)).toNat;
 let A8:=A3 (A0 A5 (A3 A2) m).length;
 let A9(a b c:Prop):=a∧b∧c;
 let Aa:=A8+(A0 A4 (0:Nat) b).length;
 let Ab(a:Prop)(b:Nat)(c d:List (El [Ty.i IntKind.u8]))(e:Nat):=A9 a (b≤(c++d).length) (A6 e);
 let Ac(a:Int)(b:Prop)(c:Int):=A9 ((0:Int)≤a) b (c≤A1 m);
 let Ad:=A0 A4 (0:Nat) b;
 let Ae:=IntKind.i64.wrap (a+A1 b);
 let Af:=List.take A8 ([]++A0 A5 (A3 A2) m);
 let Ah:=Aa+(A0 ((A1 m).toNat-A7) (A3 A7) m).length;
 let Ai:=List.take a.toNat m++b++List.drop (a.toNat+A4) m;
 let Aj:=(A1 m).toNat-A7;
 let Ak(a b:Nat):=A3 a+b≤List.length m;
 Ac (0:Int) ((0:Int)≤a) a∧A9 (A9 (Ak A2 A5) ((0:Nat)≤(0:Nat)) (A6 A8)) (Ab (A3 A4≤A4) A8 [] (A0 A5 (A3 A2) m) Aa) (A9 (Ac Ae (Ae≤A1 m) (A1 m)) (Ab (Ak A7 Aj) Aa Af Ad Ah) (A9 ((0:Nat)=(0:Nat)) (Ai.length=Ah) (A9 (m
  = m) (b=b) (Ai=List.take Aa (Af++Ad)++A0 Aj (A3 A7) m))))):=by kernel_rfl
set_option linter.unusedSimpArgs false
theorem wrap_u8(x:Int):IntKind.u8.wrap x=x % 256:=by rw[IntKind.wrap_u8]
theorem zfk{n i:Nat}(h:SzR n)(hi:i<n):IntKind.i64.wrap ((i:Int)+1)=((i+1:Nat):Int):=by
 unfold SzR at h
 rw[zaa (by omega) (by omega)]
 omega
theorem ye1:Sound Tryz.prog 242 (zag [byP,u64,i64] [bl] (fun t=>some (SzR t.1.length∧0≤t.2.2)) (fun t=>zl3 t.1 t.2.1 t.2.2)):=by
 refine zad mixed Tryz.func242 (by kernel_rfl) (by kernel_rfl) zee (fun t h => ?_)
 obtain⟨m,a,n⟩:By × Int × Int:=t
 obtain⟨h1,h2⟩:SzR m.length∧0≤n:=h
 unfold SzR at h1
 refine zah (ztv m a n) ⟨?_,rfl⟩
 unfold zl3
 by_cases g:n≤(m.length:Int)
 · rw[zaa (n:=(m.length:Int)-n) (by omega) (by omega),zar (by omega) (by omega)]
   simp[g]
 · simp[g]
theorem ykv:Sound Tryz.prog 238 (zag [byP,u64,u64] [bl] (fun t=>some (SzR t.1.length∧0≤t.2.2)) (fun t=>zl3 t.1 t.2.1 t.2.2)):=by
 refine zad mixed Tryz.func238 (by kernel_rfl) (by kernel_rfl) zee (fun t h => ?_)
 obtain⟨m,a,n⟩:By × Int × Int:=t
 obtain⟨h1,h2⟩:SzR m.length∧0≤n:=h
 unfold SzR at h1
 refine zah (zw4 m a n) ⟨?_,rfl⟩
 unfold zl3
 rw[zar (n:=(m.length:Int)) (by omega) (by omega)]
 by_cases g:n≤(m.length:Int)
 · rw[zar (by omega) (by omega)]
   simp[g]
 · simp[g]
theorem zmi:∀{m:By},(∀b ∈ m,0≤b∧b<256)→0≤zda m∧zda m<256 ^ m.length
 | [],_=>⟨Int.le_refl _,by decide⟩
 | b::t,h=>by
  have h1:=h b List.mem_cons_self
  have h2:=zmi (m:=t) (fun x hx=>h x (List.mem_cons_of_mem _ hx))
  simp only[zda,List.length_cons]
  rw[Int.pow_succ]
  omega
theorem ziz{m:By}(h:∀b ∈ m,0≤b∧b<256)(hl:m.length≤8):U64 (zda m):=by
 obtain⟨h1,h2⟩:=zmi h
 refine⟨h1,Int.lt_of_lt_of_le h2 ?_⟩
 have:∀n:Nat,n≤8→(256:Int) ^ n≤18446744073709551616:=by decide
 exact this _ hl
theorem zl7:∀k:Nat,Sound Tryz.prog 180 (numS k)
 | 0=>zad mixed Tryz.func180 (by kernel_rfl) (by kernel_rfl) (D:=mkD [] [] []) (za1 .nil .nil .nil) (fun  (m:By) h=>absurd h.2.2 (Nat.not_lt_zero _))
 | k+1=>by
  refine zad mixed Tryz.func180 (by kernel_rfl) (by kernel_rfl) (D:=mkD [(180,numS k)] [] []) (za1 (.cons (by kernel_rfl) (zl7 k) .nil) .nil .nil) (fun  (m:By) h => ?_)
  obtain⟨h1,h2,h3⟩:zan m∧m.length≤8∧m.length<k+1:=h
  refine zah (znj k m) ?_
  conv=>zeta
  refine⟨fun g => ?_,fun g => ?_⟩
  · have:m=[]:=by simpa using g
    subst this
    exact⟨rfl,rfl⟩
  · cases m with
    | nil=>simp at g
    | cons b t =>
     have hb:=h1.2 b List.mem_cons_self
     have ht:∀x ∈ t,0≤x∧x<256:=fun x hx=>h1.2 x (List.mem_cons_of_mem _ hx)
     have e:List.take (((b::t).length:Int).toNat-Int.toNat 1) (List.drop (0+Int.toNat 1) (b::t))=t:=by simp
     have n1:=ziz ht (by simp at h2;omega)
     have n2:=ziz h1.2 h2
     have hs:SzR t.length:=by have:=h1.1;unfold SzR at this ⊢;simp at this;omega
     rw[e]
     simp only[List.length_cons] at h2 h3 ⊢
     refine⟨⟨by omega,by omega⟩,by simp,⟨by omega,by omega,by omega⟩,⟨by simp;omega,⟨hs,ht⟩,by omega,by omega⟩, ?_,trivial⟩
     have e2:List.getD (b::t) (0+Int.toNat 0) (El.zero [Ty.i IntKind.u8])=b:=rfl
     rw[e2]
     have n2:U64 (b+256*zda t):=n2
     show b+256*zda t=_
     unfold U64 at n1 n2
     rw[IntKind.wrap_u64,IntKind.wrap_u64,IntKind.wrap_u64]
     omega
theorem yf7:Sound Tryz.prog 239 (zag [byP,u64,u64] [u64] (fun t=>some (yt6 t.1 t.2.1 t.2.2)) (fun t=>zda ((t.1.drop t.2.1.toNat).take t.2.2.toNat))):=by
 refine zcr mixed Tryz.func239 (by kernel_rfl) (b:=zai Tryz.f239 0) (k:=3) (by kernel_rfl) (by kernel_rfl) (by kernel_rfl) zee (fun t h => ?_)
 obtain⟨m,a,w⟩:By × Int × Int:=t
 obtain⟨⟨hs,hb⟩,h1,h2,h3,h4⟩:yt6 m a w:=h
 unfold SzR at hs
 refine⟨.one 3 (yvz m a w),yvz m a w,fun i:Int=>i.toNat,zby _ _,fun  (i:Int) hi=>zah (znn m a w i) ?_,zah (zub m a w) ?_⟩
 all_goals (try conv=>zeta)
 · obtain⟨hi0,hi1⟩:0≤i∧i≤w:=hi
   refine⟨fun g => ?_,fun g => ?_⟩
   · have g:i>0:=of_decide_eq_true g
     have e1:IntKind.u64.wrap (IntKind.u64.wrap (a+i)-1)=a+i-1:=by
      rw[zar (n:=a+i) (by omega) (by omega),zar (by omega) (by omega)]
     have e2:IntKind.u64.wrap (i-1)=i-1:=zar (by omega) (by omega)
     rw[e1,e2]
     refine⟨by decide,⟨by omega,by omega⟩,by omega,i-1,⟨rfl,rfl,rfl, ?_,rfl,rfl⟩,⟨by omega,by omega⟩,by omega,fun _ _=>trivial⟩
     have hlt:(a+i-1).toNat<m.length:=by omega
     have hsub:∀b ∈ List.take (w-i).toNat (List.drop (a+i).toNat m),0≤b∧b<256:=fun b hb'=>hb b (List.mem_of_mem_drop (List.mem_of_mem_take hb'))
     have hn:=zmi hsub
     have hlen:(List.take (w-i).toNat (List.drop (a+i).toNat m)).length≤7:=by rw[List.length_take];omega
     have hp:(256:Int) ^ (List.take (w-i).toNat (List.drop (a+i).toNat m)).length≤72057594037927936:=by
      have:∀n:Nat,n≤7→(256:Int) ^ n≤72057594037927936:=by decide
      exact this _ hlen
     have e3:List.take (w-(i-1)).toNat (List.drop (a+(i-1)).toNat m)=m[(a+i-1).toNat]::List.take (w-i).toNat (List.drop (a+i).toNat m):=by
      rw[show (a+(i-1)).toNat=(a+i-1).toNat by omega,List.drop_eq_getElem_cons hlt,show (w-(i-1)).toNat=(w-i).toNat+1 by omega,List.take_succ_cons,show (a+i-1).toNat+1=(a+i).toNat by omega]
     have hbv:=hb m[(a+i-1).toNat] (List.getElem_mem hlt)
     have e4:List.getD m (0+(a+i-1).toNat) (El.zero [Ty.i IntKind.u8])=m[(a+i-1).toNat]:=by
      rw[Nat.zero_add,List.getD_eq_getElem?_getD,List.getElem?_eq_getElem hlt];rfl
     rw[e3,e4]
     generalize List.take (w-i).toNat (List.drop (a+i).toNat m)=r at *
     generalize m[(a+i-1).toNat]=b at *
     have e5:(2:Int) ^ min (Int.toNat 8) 64=256:=by decide
     rw[e5,zar (n:=zda r*256) (by omega) (by omega),zar (n:=b) (by omega) (by omega),ygc 8 (by omega) (by rw[show (2:Int) ^ 8=256 by decide];omega) (by omega) (by omega) (by rw[show (2:Int) ^ 8=256 by decide];omega) (by omega)]
     show b+256*zda r=_
     omega
   · have g:¬ i>0:=of_decide_eq_false g
     have:i=0:=by omega
     subst this
     exact⟨(),⟨by rw[Int.add_zero,Int.sub_zero],rfl⟩,trivial⟩
 · refine⟨w,⟨rfl,rfl,rfl, ?_,rfl,rfl⟩,⟨by omega,by omega⟩,fun _ _=>⟨rfl,rfl⟩⟩
   rw[Int.sub_self]
   simp[zda]
theorem zac:∀(v:Int)(n:Nat),(zc6 v n).length=n
 | _,0=>rfl
 | v,n+1=>by simp[zc6,zac (v/256) n]
theorem zbv:∀(v:Int)(n:Nat),∀b ∈ zc6 v n,0≤b∧b<256
 | _,0,b,h=>by simp[zc6] at h
 | v,n+1,b,h=>by
  rcases List.mem_cons.1 h with rfl|h
  · omega
  · exact zbv (v/256) n b h
theorem zob:∀k:Nat,Sound Tryz.prog 190 (bytS k)
 | 0=>zad mixed Tryz.func190 (by kernel_rfl) (by kernel_rfl) (D:=mkD [] [] []) (za1 .nil .nil .nil) (fun  (t:Int × Int) h=>absurd h.2.2.2 (Nat.not_lt_zero _))
 | k+1=>by
  refine zad mixed Tryz.func190 (by kernel_rfl) (by kernel_rfl) (D:=mkD [(190,bytS k)] [] []) (za1 (.cons (by kernel_rfl) (zob k) .nil) .nil .nil) (fun t h => ?_)
  obtain⟨v,n⟩:Int × Int:=t
  obtain⟨h1,h2,h3,h4⟩:U64 v∧0≤n∧n≤8∧n.toNat<k+1:=h
  refine zah (zqh k v n) ?_
  conv=>zeta
  refine⟨fun g => ?_,fun g => ?_⟩
  · have:n=0:=by simpa using g
    subst this
    exact⟨rfl,rfl,rfl⟩
  · have g:n≠0:=by simpa using g
    have hv:=zex 8 h1
    have e1:IntKind.u64.wrap (v.tdiv 256)=v/256:=by rw[zeo h1.1];exact zar hv.1 hv.2
    have e2:IntKind.i64.wrap (n-1)=n-1:=zaa (by omega) (by omega)
    have e3:IntKind.u8.wrap (v.tmod 256)=v % 256:=by rw[wrap_u8,zcq h1.1];omega
    have e4:zc6 v n.toNat=v % 256::zc6 (v/256) (n-1).toNat:=by rw[show n.toNat=(n-1).toNat+1 by omega,zc6]
    have hl:=zac (v/256) (n-1).toNat
    have e5:List.take (List.length (zc6 (v/256) (n-1).toNat)) (List.drop 0 (zc6 (v/256) (n-1).toNat))=zc6 (v/256) (n-1).toNat:=by simp
    rw[e1,e2,e3,e4,e5]
    exact⟨by decide,by decide,⟨hv,by show (0:Int)≤n-1;omega,by show n-1≤(8:Int);omega,by omega⟩,⟨by omega,Nat.le_refl _,by omega⟩,rfl,by rw[List.length_cons];omega,rfl⟩
theorem yk3:Sound Tryz.prog 189 (zag [byP,i64,byP] [byP] (fun t=>some (SzR t.1.length∧0≤t.2.1∧t.2.1+t.2.2.length≤t.1.length)) (fun t=>zpz t.1 t.2.1.toNat t.2.2)):=by
 refine zad mixed Tryz.func189 (by kernel_rfl) (by kernel_rfl) zee (fun t h => ?_)
 obtain⟨m,a,b⟩:By × Int × By:=t
 obtain⟨h1,h2,h3⟩:SzR m.length∧0≤a∧a+b.length≤m.length:=h
 unfold SzR at h1
 refine zah (zm3 m a b) ?_
 conv=>zeta
 have e:IntKind.i64.wrap (a+(b.length:Int))=a+b.length:=zaa (by omega) (by omega)
 have e2:(a+(b.length:Int)).toNat=a.toNat+b.length:=by omega
 have e3:List.take (List.length b) (List.drop 0 b)=b:=by simp
 have e4:List.take (a.toNat-Int.toNat 0) (List.drop (0+Int.toNat 0) m)=List.take a.toNat m:=rfl
 have e5:List.take ((m.length:Int).toNat-(a.toNat+b.length)) (List.drop (0+(a.toNat+b.length)) m)=List.drop (a.toNat+b.length) m:=by
  rw[Nat.zero_add];exact List.take_of_length_le (by simp<;>omega)
 have e6:(List.take a.toNat m).length=a.toNat:=by simp;omega
 rw[e,e2,e3,e4,e5]
 simp only[List.length_append,e6,List.nil_append,List.length_drop,Nat.zero_add]
 have e7:List.take a.toNat (List.take a.toNat m)=List.take a.toNat m:=by rw[List.take_take,Nat.min_self]
 have e8:List.take (a.toNat+b.length) (List.take a.toNat m++b)=List.take a.toNat m++b:=List.take_of_length_le (by rw[List.length_append,e6];exact Nat.le_refl _)
 rw[e7,e8]
 refine⟨⟨by omega,by omega,by omega⟩,⟨by omega,by omega,by omega⟩,⟨by omega,by omega,by omega⟩,⟨by omega,by omega,by omega⟩,⟨by omega, ?_,by omega⟩, ?_, ?_, ?_, ?_, ?_⟩
 · simp[e6]
 all_goals first|trivial|rfl|omega
theorem zsh:Sound Tryz.prog 180 (zag [bsP] [u64] (fun m=>some (zan m∧m.length≤8)) zda) :=
 zea (zl7 9) (fun  (m:By) h=>by have h:zan m∧m.length≤8:=h;exact⟨h.1,h.2,by omega⟩)
theorem zv8:Sound Tryz.prog 190 (zag [u64,i64] [byP] (fun t=>some (U64 t.1∧0≤t.2∧t.2≤8)) (fun t=>zc6 t.1 t.2.toNat)) :=
 zea (zob 9) (fun  (t:Int × Int) h=>by have h:U64 t.1∧0≤t.2∧t.2≤8:=h;exact⟨h.1,h.2.1,h.2.2,by omega⟩)
theorem ye4:zay Tryz.prog kB1 :=
 .cons (by kernel_rfl) ye1 <| .cons (by kernel_rfl) ykv <| .cons (by kernel_rfl) zsh <| .cons (by kernel_rfl) yf7 <| .cons (by kernel_rfl) zv8 <| .cons (by kernel_rfl) yk3 <| .nil
end Go.Proofs.YtfiddfbagbaofaaGreat.V
