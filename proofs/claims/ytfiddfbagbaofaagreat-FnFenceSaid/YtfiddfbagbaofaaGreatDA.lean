/- Reading scripts, byte by byte, answers as its models. Conditions: those in each statement. -/
import Derived.Test.YtfiddfbagbaofaaGreatHA
import Derived.KernelRfl
namespace Go.Proofs.YtfiddfbagbaofaaGreat.V
open Go
def atB(b:By)(p:Nat):Int:=b.getD p 0
def zbs(b:By)(p k:Nat):By:=(List.range k).map fun j=>atB b (p+j)
def zaw(y:Int):Nat:=(2 ^ (y % 4).toNat*(1+y/4 % 4)).toNat
def zaz(y:Int):Tl:=(2 ^ (y % 4).toNat,1+y/4 % 4,List.replicate (zaw y) zE)
def ysv(m:By)(i:Int):Prop:=zal Tryz.prog F0 .none Tryz.f78 [byP,i64] [i64] (m,i) (atB m i.toNat)
def yq4:Sum:=zag [byP,i64] [i64] (fun t=>some (zan t.1∧0≤t.2)) (fun t=>atB t.1 t.2.toNat)
def ytr:Dict:=mkD ((78,yq4)::(kB1++kA4)) [] []
def yfw(m:By)(i:Int):LoopS where
 α:=Nat
 I k:=k≤8
 sl k:=slots 23 [(0,.sl 0 1 0 m.length),(1,.v (.int .i64 i)),(5,.sl 1 1 0 k),(6,.v (.int .i64 (k:Int)))]
 H k:=[.arr [.i .u8] m false,.arr [.i .u8] (zbs m i.toNat k) true]
 fams:=[{ β:=Unit,out:=fun _ _=>True,ex := .ext 0,sl:=fun _=>slots 23 [(5,.sl 1 1 0 8)],H:=fun _=>[.arr [.i .u8] m false,.arr [.i .u8] (zbs m i.toNat 8) true] }]
def zxe(m:By)(i:Int)(k:Nat):Prop:=zax Tryz.prog ytr (.one 3 (yfw m i)) 1 (zai Tryz.f79 0) (yfw m i) (fun k:Nat=>8-k) k
def yin(m:By)(i:Int):Prop:=zal Tryz.prog ytr (.one 3 (yfw m i)) Tryz.f79 [byP,i64] [u64] (m,i) (zda (zbs m i.toNat 8))
def zrs(s w:Int)(n:Nat):LoopS where
 α:=Nat
 I k:=k≤n
 sl k:=slots 30 [(2,.ptr 0 0),(3,.ptr 1 0),(4,.v (.int .i64 (k:Int)))]
 H k:=[.fix [.v (.int .i64 0),.v (.int .i64 0),.v (.slice none 0 0)] true (some 37),.fix (tlA s w 2 k) true (some 37),.arr shE (List.replicate k zE) true]
 fams:=[{ β:=Unit,out:=fun _ _=>True,ex := .ext 0,sl:=fun _=>slots 30 [(2,.ptr 0 0),(3,.ptr 1 0)],H:=fun _=>[.fix [.v (.int .i64 0),.v (.int .i64 0),.v (.slice none 0 0)] true (some 37),.fix (tlA s w 2 n) true (some 37),.arr shE (List.replicate n zE) true] }]
def zt3(s w:Int)(n k:Nat):Prop:=zax Tryz.prog ytr (.one 3 (zrs s w n)) 0 (zai Tryz.f77 0) (zrs s w n) (fun k:Nat=>n-k) k
def ybt(y s w:Int)(n:Nat):Prop:=zal Tryz.prog ytr (.one 3 (zrs s w n)) Tryz.f77 [i64] [tlP] y (s,w,List.replicate n zE)
set_option linter.unusedVariables false
theorem ybs(m:By)(i:Int):ysv m i=(
 (decide (i<(↑(List.length m):Int))=true→((0:Int)≤i∧i<(↑(List.length m):Int))∧0+i.toNat<List.length m∧atB m i.toNat=IntKind.i64.wrap (List.getD m ((0:Nat)+i.toNat) (El.zero [Ty.i IntKind.u8]))∧m=m)
 ∧ (decide (i<(↑(List.length m):Int))=false→atB m i.toNat=0∧m=m)):=by kernel_rfl
theorem znk(m:By)(i:Int)(k:Nat):zxe m i k=(
 (decide ((↑k:Int)<8)=true→(List.length m=List.length m∧zan m∧(0:PmT [i64])≤IntKind.i64.wrap (i+(↑k:Int)))∧((0:Nat)+1≤[IntKind.u8.wrap (atB m (IntKind.i64.wrap (i+(↑k:Int))).toNat)].length
 ∧ k≤List.length (zbs m i.toNat k)∧k+(List.take 1 (List.drop 0 [IntKind.u8.wrap (atB m (IntKind.i64.wrap (i+(↑k:Int))).toNat)])).length≤1073741824)∧∃(y:Nat),((0:Nat)=0∧List.length m =
 List.length m∧i=i∧(0:Nat)=0∧y=k+(List.take 1 (List.drop 0 [IntKind.u8.wrap (atB m (IntKind.i64.wrap (i+(↑k:Int))).toNat)])).length∧(↑y:Int)=IntKind.i64.wrap ((↑k:Int)+1)∧m=m
 ∧ zbs m i.toNat y=List.take k (zbs m i.toNat k)++List.take 1 (List.drop 0 [IntKind.u8.wrap (atB m (IntKind.i64.wrap (i+(↑k:Int))).toNat)]))∧y≤8∧8-y<8-k∧∀(z:Unit),True →
 True)∧(decide ((↑k:Int)<8)=false→∃(z:Unit),((0:Nat)=0∧8=k∧m=m∧zbs m i.toNat 8=zbs m i.toNat k)∧True)):=by kernel_rfl
theorem zt4(m:By)(i:Int):yin m i=(
 ∃(x:Nat),((0:Nat)=0∧List.length m=List.length m∧i=i∧(0:Nat)=0∧x=0∧(↑x:Int)=0∧m=m∧zbs m i.toNat x=[])∧x≤8∧∀(z:Unit),True→((0:Nat)+8 ≤
 List.length (zbs m i.toNat 8)∧zan (List.take 8 (List.drop 0 (zbs m i.toNat 8)))∧(List.take 8 (List.drop 0 (zbs m i.toNat 8))).length≤8)∧zda (zbs m i.toNat (8
 : Nat))=zda (List.take 8 (List.drop 0 (zbs m i.toNat 8)))∧m=m):=by kernel_rfl
theorem zm4(s w:Int)(n k:Nat):zt3 s w n k=(
 let A0(a:Nat):=List.replicate a zE;
 let A1:=(0:Int)=0;
 let A2:=Value.slice none 0 0;
 let A3(a b c:Prop):=a∧b∧c;
 let A4(a:Bool)(b:Prop):=decide ((↑k:Int)<(IntKind.i64.wrap (s*w)))=a→b;
 let A5(a b:Nat)(c:Prop):=A3 A1 (A2=A2) (A3 (s=s) (w=w) (A3 ((0:Nat)=0) (a=b) c));
 A4 true (A3 (((0:Nat)+1).le 1) (k≤(A0 k).length) (k+(1:Nat)≤1073741824)∧∃(x0:Nat),A3 ((↑x0:Int)=IntKind.i64.wrap ((↑k:Int)+1)) A1 (A5 x0 (k+1) (A0 x0=List.take k (A0
  k)++(false,0,0,0,false,0)::[]))∧A3 (x0≤n) (n-x0<n-k) (∀(x1:Unit),True→True))∧A4 false (∃(x2:Unit),(A1∧A5 n k (A0 n=A0 k))∧True)):=by kernel_rfl
theorem zqi(y s w:Int)(n:Nat):ybt y s w n=(
 (4:Int)≠0∧y.tmod 4≤(64:PmT [i64])∧(4:Int)≠0∧(4:Int)≠0∧∃(x:Nat),((↑x:Int)=0∧(0:Int)=0∧(0:Int)=0∧Value.slice none 0 0 =
 Value.slice none 0 0∧s=IntKind.i64.wrap (pw (y.tmod 4))∧w=IntKind.i64.wrap ((1:Int)+(IntKind.i64.wrap (y.tdiv 4)).tmod 4)∧(0:Nat)=0∧x=0∧List.replicate x zE =
 [])∧x≤n∧∀(z:Unit),True→s=s∧w=w∧(0:Nat)=0∧(List.replicate n zE).length=n∧List.replicate n zE=List.replicate n zE):=by kernel_rfl
set_option linter.unusedSimpArgs false
theorem zdg{m:By}(h:zan m)(p:Nat):0≤atB m p∧atB m p<256:=by
 unfold atB
 rw[List.getD_eq_getElem?_getD]
 rcases Nat.lt_or_ge p m.length with q|q
 · rw[List.getElem?_eq_getElem q]
   exact h.2 _ (List.getElem_mem q)
 · rw[List.getElem?_eq_none q]
   exact⟨by decide,by decide⟩
theorem zny(m:By)(p k:Nat):zbs m p (k+1)=zbs m p k++[atB m (p+k)]:=by simp[zbs,List.range_succ]
theorem zcn(m:By)(p k:Nat):(zbs m p k).length=k:=by simp[zbs]
theorem zks{m:By}(h:zan m)(p k:Nat):∀b ∈ zbs m p k,0≤b∧b<256:=by
 intro b hb
 obtain⟨j, -,rfl⟩:=List.mem_map.1 hb
 exact zdg h _
theorem zf1{m:By}(h:zan m)(p:Nat){k:Nat}(hk:k≤8):U64 (zda (zbs m p k)):=ziz (zks h p k) (by rw[zcn];exact hk)
theorem or_comm(x y:Int):bits .or .u64 x y=bits .or .u64 y x:=by
 show IntKind.u64.wrap ((BitVec.ofInt 64 x ||| BitVec.ofInt 64 y).toNat:Int)=IntKind.u64.wrap ((BitVec.ofInt 64 y ||| BitVec.ofInt 64 x).toNat:Int)
 rw[BitVec.or_comm]
theorem ydx{m:By}(h:zan m)(p k:Nat):0≤zda (zbs m p k)∧zda (zbs m p k)<256 ^ k:=by
 have:=zmi (zks h p k)
 rw[zcn] at this
 exact this
theorem zvu{y:Int}(h0:0≤y)(h1:y<256):y.tmod 4=y % 4∧y.tdiv 4=y/4∧IntKind.i64.wrap (y/4)=y/4∧(y/4).tmod 4=y/4 % 4∧IntKind.i64.wrap (1+y/4 % 4)=1+y/4 % 4 ∧
 IntKind.i64.wrap (1*2 ^ min (y % 4).toNat 64)=2 ^ (y % 4).toNat∧(1:Int)≤2 ^ (y % 4).toNat∧(2:Int) ^ (y % 4).toNat≤8∧IntKind.i64.wrap (2 ^ (y % 4).toNat*(1+y/4 % 4))=2 ^ (y % 4).toNat*(1+y/4 % 4)∧1≤2 ^ (y % 4).toNat*(1+y/4 % 4)∧2 ^ (y % 4).toNat*(1+y/4 % 4)≤32:=by
 have a0:0≤y % 4:=Int.emod_nonneg _ (by decide)
 have a1:y % 4<4:=Int.emod_lt_of_pos _ (by decide)
 have b0:0≤y/4 % 4:=Int.emod_nonneg _ (by decide)
 have b1:y/4 % 4<4:=Int.emod_lt_of_pos _ (by decide)
 rw[zcq h0,zeo h0,zcq (show 0≤y/4 by omega)]
 refine⟨rfl,rfl,zaa (by omega) (by omega),rfl,zaa (by omega) (by omega), ?_⟩
 generalize y/4 % 4=w at b0 b1
 have hc:y % 4=0∨y % 4=1∨y % 4=2∨y % 4=3:=by omega
 rcases hc with e|e|e|e<;>rw[e]
 · rw[show (2:Int) ^ (0:Int).toNat=1 by decide];exact⟨by decide,by decide,by decide,zaa (by omega) (by omega),by omega,by omega⟩
 · rw[show (2:Int) ^ (1:Int).toNat=2 by decide];exact⟨by decide,by decide,by decide,zaa (by omega) (by omega),by omega,by omega⟩
 · rw[show (2:Int) ^ (2:Int).toNat=4 by decide];exact⟨by decide,by decide,by decide,zaa (by omega) (by omega),by omega,by omega⟩
 · rw[show (2:Int) ^ (3:Int).toNat=8 by decide];exact⟨by decide,by decide,by decide,zaa (by omega) (by omega),by omega,by omega⟩
theorem yfl:Sound Tryz.prog 78 yq4:=by
 refine zad mixed Tryz.func78 (by kernel_rfl) (by kernel_rfl) zee (fun t h => ?_)
 obtain⟨m,i⟩:By × Int:=t
 obtain⟨hm,h0⟩:zan m∧0≤i:=h
 have hb:=zdg hm i.toNat
 refine zah (ybs m i) ⟨fun q => ?_,fun q => ?_⟩
 · have q:i<m.length:=of_decide_eq_true q
   refine⟨⟨h0,q⟩,by omega, ?_,rfl⟩
   rw[Nat.zero_add]
   show atB m i.toNat=IntKind.i64.wrap (atB m i.toNat)
   rw[zaa (by omega) (by omega)]
 · have q:¬ i<m.length:=of_decide_eq_false q
   refine⟨?_,rfl⟩
   unfold atB
   rw[List.getD_eq_getElem?_getD,List.getElem?_eq_none (by omega)]
   rfl
theorem ycx:DictOk Tryz.prog ytr:=za1 (.cons (by kernel_rfl) yfl (ye4.append zce)) .nil .nil
theorem yfp:Sound Tryz.prog 79 (zag [byP,i64] [u64] (fun t=>some (zan t.1∧0≤t.2∧t.2≤1000000)) (fun t=>zda (zbs t.1 t.2.toNat 8))):=by
 refine zcr mixed Tryz.func79 (by kernel_rfl) (b:=zai Tryz.f79 0) (k:=3) (by kernel_rfl) (by kernel_rfl) (by kernel_rfl) ycx (fun t h => ?_)
 obtain⟨m,i⟩:By × Int:=t
 obtain⟨hm,h0,h1⟩:zan m∧0≤i∧i≤1000000:=h
 refine⟨.one 3 (yfw m i),yfw m i,fun k:Nat=>8-k,zby _ _,fun  (k:Nat) hk=>zah (znk m i k) ⟨fun q => ?_,fun q => ?_⟩,zah (zt4 m i) ?_⟩
 · have q:(k:Int)<8:=of_decide_eq_true q
   have hb:=zdg hm (i.toNat+k)
   have e:IntKind.i64.wrap ((k:Int)+1)=((k+1:Nat):Int):=by rw[zaa (by omega) (by omega)];omega
   have e1:IntKind.i64.wrap (i+(k:Int))=i+k:=zaa (by omega) (by omega)
   have e2:(i+(k:Int)).toNat=i.toNat+k:=by omega
   have e3:IntKind.u8.wrap (atB m (i.toNat+k))=atB m (i.toNat+k):=by rw[wrap_u8];omega
   have hl:=zcn m i.toNat k
   rw[e,e1,e2,e3]
   refine⟨⟨rfl,hm,by show (0:Int)≤i+k;omega⟩,⟨by simp,by omega,by simp;omega⟩,k+1,⟨rfl,rfl,rfl,rfl,by simp,rfl,rfl, ?_⟩,by omega,by omega,fun _ _=>trivial⟩
   rw[zny,List.take_of_length_le (by omega)]
   simp
 · have q:¬ (k:Int)<8:=of_decide_eq_false q
   have hk:k≤8:=hk
   have:k=8:=by omega
   subst this
   exact⟨(),⟨rfl,rfl,rfl,rfl⟩,trivial⟩
 · have hl:=zcn m i.toNat 8
   have e:List.take 8 (List.drop 0 (zbs m i.toNat 8))=zbs m i.toNat 8:=by rw[List.drop_zero,List.take_of_length_le (by omega)]
   rw[e]
   exact⟨0,⟨rfl,rfl,rfl,rfl,rfl,rfl,rfl,rfl⟩,by omega,fun _ _=>⟨⟨by omega,⟨by unfold SzR;omega,zks hm _ _⟩,by omega⟩,rfl,rfl⟩⟩
theorem yar:Sound Tryz.prog 77 (zag [i64] [tlP] (fun y=>some (0≤y∧y<256)) zaz):=by
 refine zcr mixed Tryz.func77 (by kernel_rfl) (b:=zai Tryz.f77 0) (k:=3) (by kernel_rfl) (by kernel_rfl) (by kernel_rfl) ycx (fun  (y:Int) h => ?_)
 obtain⟨h0,h1⟩:0≤y∧y<256:=h
 obtain⟨e1,e2,e3,e4,e5,e6,e7,e8,e9,e10,e11⟩:=zvu h0 h1
 refine⟨.one 3 (zrs (2 ^ (y % 4).toNat) (1+y/4 % 4) (zaw y)),zrs (2 ^ (y % 4).toNat) (1+y/4 % 4) (zaw y),fun k:Nat=>zaw y-k,zby _ _,fun  (k:Nat) hk=>zah (zm4 _ _ _ k) ?_,zah (zqi y _ _ _) ?_⟩
 all_goals (try conv=>zeta)
 · have hk:k≤zaw y:=hk
   have hn:(zaw y:Int)=2 ^ (y % 4).toNat*(1+y/4 % 4):=by unfold zaw;omega
   rw[e9, ← hn]
   refine⟨fun q => ?_,fun q => ?_⟩
   · have q:(k:Int)<zaw y:=of_decide_eq_true q
     have e:IntKind.i64.wrap ((k:Int)+1)=((k+1:Nat):Int):=by rw[zaa (by omega) (by omega)];omega
     rw[e]
     refine⟨⟨Nat.le_refl 1,by simp,by omega⟩,k+1,⟨rfl,rfl,rfl,rfl,rfl,rfl,rfl,rfl, ?_⟩,by omega,by omega,fun _ _=>trivial⟩
     rw[List.take_of_length_le (by simp),List.replicate_succ']
     rfl
   · have q:¬ (k:Int)<zaw y:=of_decide_eq_false q
     have:zaw y=k:=by omega
     rw[this]
     exact⟨(),⟨rfl,rfl,rfl,rfl,rfl,rfl,rfl,rfl⟩,trivial⟩
 · rw[e1,e2,e3,e4,e5]
   have a0:0≤y % 4:=Int.emod_nonneg _ (by decide)
   have a1:y % 4<4:=Int.emod_lt_of_pos _ (by decide)
   refine⟨by decide,by show y % 4≤(64:Int);omega,by decide,by decide,0,⟨rfl,rfl,rfl,rfl, ?_,rfl,rfl,rfl,rfl⟩,by omega,fun _ _=>⟨rfl,rfl,rfl,by simp,rfl⟩⟩
   rw[yrn a0 (by omega),zaa (by omega) (by omega)]
end Go.Proofs.YtfiddfbagbaofaaGreat.V
