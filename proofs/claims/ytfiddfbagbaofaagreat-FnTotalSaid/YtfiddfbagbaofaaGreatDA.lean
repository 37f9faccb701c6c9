/- Reading scripts, byte by byte, answers as its models. Conditions: those in each statement. -/
import Derived.Test.YtfiddfbagbaofaaGreatHA
import Derived.KernelRfl
namespace Go.Proofs.YtfiddfbagbaofaaGreat.V
open Go
def atB(b:By)(p:Nat):Int:=b.getD p 0
def zax(b:By)(p k:Nat):By:=(List.range k).map fun j=>atB b (p+j)
def adv(n lo k:Nat):Nat:=min (lo+k) n
def zac(y:Int):Nat:=(2 ^ (y % 4).toNat*(1+y/4 % 4)).toNat
def zaf(y:Int):Tl:=(2 ^ (y % 4).toNat,1+y/4 % 4,List.replicate (zac y) zE)
def srcA(n lo:Nat):List Av:=[.sl 1 1 lo (n-lo)]
def yjb(m:By)(lo:Nat):Heap:=[.fix (srcA m.length lo) true (some 214),.arr [.i .u8] m false]
def ypf(m:By)(lo:Nat):Prop:=zi1 Tryz.prog F0 .none Tryz.f154 [.ptr 0 0] (yjb m lo) (.v (.int .i64 (atB m lo))) (yjb m (adv m.length lo 1))
def ya1:Sum:=fun args H=>match args,H with
 | [.ptr 0 0],[.fix [.sl 1 1 lo len] true (some 214),.arr sh m false] =>
  if e:sh=[.i .u8] then some (some (lo≤(e ▸ m:List (El [.i .u8])).length∧len=(e ▸ m:List (El [.i .u8])).length-lo∧zaj (e ▸ m:List (El [.i .u8]))),.v (.int .i64 (atB (e ▸ m:List (El [.i .u8])) lo)),yjb (e ▸ m:List (El [.i .u8])) (adv (e ▸ m:List (El [.i .u8])).length lo 1)) else none
 | _,_=>none
def FDA0:Dict:=mkD [(154,ya1)] [] []
def yi7(m:By)(lo:Nat)(k:Int):LoopS where
 α:=Nat
 I i:=(i:Int)≤k
 sl i:=slots 21 [(0,.ptr 0 0),(5,.v (.int .u64 (zbq (zax m lo i)))),(7,.v (.int .i64 k)),(8,.v (.int .i64 (i:Int)))]
 H i:=yjb m (adv m.length lo i)
 fams:=[{ β:=Unit,out:=fun _ _=>True,ex := .ext 0,sl:=fun _=>slots 21 [(5,.v (.int .u64 (zbq (zax m lo k.toNat))))],H:=fun _=>yjb m (adv m.length lo k.toNat) }]
def yld(m:By)(lo:Nat)(k:Int)(i:Nat):Prop:=zam Tryz.prog FDA0 (.one 3 (yi7 m lo k)) 2 (zag Tryz.f155 0) (yi7 m lo k) (fun i:Nat=>k.toNat-i) i
def ywp(m:By)(lo:Nat)(k:Int):Prop:=zi1 Tryz.prog FDA0 (.one 3 (yi7 m lo k)) Tryz.f155 [.ptr 0 0,.v (.int .i64 k)] (yjb m lo) (.v (.int .u64 (zbq (zax m lo k.toNat)))) (yjb m (adv m.length lo k.toNat))
def yvg:Sum:=fun args H=>match args,H with
 | [.ptr 0 0,.v (.int .i64 k)],[.fix [.sl 1 1 lo len] true (some 214),.arr sh m false] =>
  if e:sh=[.i .u8] then some (some (lo≤(e ▸ m:List (El [.i .u8])).length∧len=(e ▸ m:List (El [.i .u8])).length-lo∧zaj (e ▸ m:List (El [.i .u8]))∧0≤k∧k≤8),.v (.int .u64 (zbq (zax (e ▸ m:List (El [.i .u8])) lo k.toNat))),yjb (e ▸ m:List (El [.i .u8])) (adv (e ▸ m:List (El [.i .u8])).length lo k.toNat)) else none
 | _,_=>none
def ywr(m:By)(lo:Nat)(s w:Int)(n:Nat):Prop:=zi1 Tryz.prog FDA0 .none Tryz.f153 [.ptr 0 0] (yjb m lo) (.agg (tlA s w 2 n)) (yjb m (adv m.length lo 1)++[.arr shE (List.replicate n zE) true])
def yvm:Sum:=fun args H=>match args,H with
 | [.ptr 0 0],[.fix [.sl 1 1 lo len] true (some 214),.arr sh m false] =>
  if e:sh=[.i .u8] then some (some (lo≤(e ▸ m:List (El [.i .u8])).length∧len=(e ▸ m:List (El [.i .u8])).length-lo∧zaj (e ▸ m:List (El [.i .u8]))),.agg (tlA (zaf (atB (e ▸ m:List (El [.i .u8])) lo)).1 (zaf (atB (e ▸ m:List (El [.i .u8])) lo)).2.1 2 (zac (atB (e ▸ m:List (El [.i .u8])) lo))),yjb (e ▸ m:List (El [.i .u8])) (adv (e ▸ m:List (El [.i .u8])).length lo 1)++[.arr shE (List.replicate (zac (atB (e ▸ m:List (El [.i .u8])) lo)) zE) true]) else none
 | _,_=>none
def ywi(m:By)(i:Int):Prop:=zal Tryz.prog F0 .none Tryz.f78 [byP,i64] [i64] (m,i) (atB m i.toNat)
def yuh:Sum:=zai [byP,i64] [i64] (fun t=>some (zaj t.1∧0≤t.2)) (fun t=>atB t.1 t.2.toNat)
def yxc:Dict:=mkD ((78,yuh)::(kB1++kA4)) [] []
def yhq(m:By)(i:Int):LoopS where
 α:=Nat
 I k:=k≤8
 sl k:=slots 23 [(0,.sl 0 1 0 m.length),(1,.v (.int .i64 i)),(5,.sl 1 1 0 k),(6,.v (.int .i64 (k:Int)))]
 H k:=[.arr [.i .u8] m false,.arr [.i .u8] (zax m i.toNat k) true]
 fams:=[{ β:=Unit,out:=fun _ _=>True,ex := .ext 0,sl:=fun _=>slots 23 [(5,.sl 1 1 0 8)],H:=fun _=>[.arr [.i .u8] m false,.arr [.i .u8] (zax m i.toNat 8) true] }]
def zyp(m:By)(i:Int)(k:Nat):Prop:=zam Tryz.prog yxc (.one 3 (yhq m i)) 1 (zag Tryz.f79 0) (yhq m i) (fun k:Nat=>8-k) k
def ykt(m:By)(i:Int):Prop:=zal Tryz.prog yxc (.one 3 (yhq m i)) Tryz.f79 [byP,i64] [u64] (m,i) (zbq (zax m i.toNat 8))
def zs5(s w:Int)(n:Nat):LoopS where
 α:=Nat
 I k:=k≤n
 sl k:=slots 30 [(2,.ptr 0 0),(3,.ptr 1 0),(4,.v (.int .i64 (k:Int)))]
 H k:=[.fix [.v (.int .i64 0),.v (.int .i64 0),.v (.slice none 0 0)] true (some 37),.fix (tlA s w 2 k) true (some 37),.arr shE (List.replicate k zE) true]
 fams:=[{ β:=Unit,out:=fun _ _=>True,ex := .ext 0,sl:=fun _=>slots 30 [(2,.ptr 0 0),(3,.ptr 1 0)],H:=fun _=>[.fix [.v (.int .i64 0),.v (.int .i64 0),.v (.slice none 0 0)] true (some 37),.fix (tlA s w 2 n) true (some 37),.arr shE (List.replicate n zE) true] }]
def zvd(s w:Int)(n k:Nat):Prop:=zam Tryz.prog yxc (.one 3 (zs5 s w n)) 0 (zag Tryz.f77 0) (zs5 s w n) (fun k:Nat=>n-k) k
def ydf(y s w:Int)(n:Nat):Prop:=zal Tryz.prog yxc (.one 3 (zs5 s w n)) Tryz.f77 [i64] [tlP] y (s,w,List.replicate n zE)
set_option linter.unusedVariables false
theorem zy6(m:By)(lo:Nat):ypf m lo=(
 (((↑(List.length m-lo):Int)==0)=true→atB m lo=0∧adv (List.length m) lo 1=lo∧List.length m-adv (List.length m) lo 1=List.length m-lo∧m=m)∧(((↑(List.length m-lo):Int)==(0 :
 Int))=false→((0:Int)≤0∧0<(↑(List.length m-lo):Int))∧lo+Int.toNat 0<List.length m∧((0:Int)≤1∧1≤(↑(List.length m-lo):Int)∧(↑(List.length m-lo):Int) ≤
 (↑(List.length m-lo):Int))∧atB m lo=IntKind.i64.wrap (List.getD m (lo+Int.toNat 0) (El.zero [Ty.i IntKind.u8]))∧adv (List.length m) lo 1=lo+Int.toNat 1∧List.length m-adv (List.length m) lo (1 :
 Nat)=(↑(List.length m-lo):Int).toNat-Int.toNat 1∧m=m)):=by kernel_rfl
theorem zvv(m:By)(lo:Nat)(k:Int)(i:Nat):yld m lo k i=(
 (decide ((↑i:Int)<k)=true→(adv (List.length m) lo i≤List.length m∧List.length m-adv (List.length m) lo i=List.length m-adv (List.length m) lo i∧zaj m)∧0≤IntKind.i64.wrap ((8:Int)*(↑i:Int))∧∃(y :
 Nat),(zbq (zax m lo y)=bits BinOp.or IntKind.u64 (zbq (zax m lo i)) (IntKind.u64.wrap (IntKind.u64.wrap (atB m (adv (List.length m) lo i))*2 ^ min (IntKind.i64.wrap ((8:Int)*(↑i:Int))).toNat 64))∧k=k ∧
 (↑y:Int)=IntKind.i64.wrap ((↑i:Int)+1)∧adv (List.length m) lo y=adv (List.length m) (adv (List.length m) lo i) 1∧List.length m-adv (List.length m) lo y=List.length m-adv (List.length m) (adv (List.length
 m) lo i) 1∧m=m)∧(↑y:Int)≤k∧k.toNat-y<k.toNat-i∧∀(z:Unit),True→True)∧(decide ((↑i:Int)<k)=false→∃(z:Unit),(zbq (zax m lo k.toNat)=zbq (zax m lo i)∧adv (List.length m) lo k.toNat =
 adv (List.length m) lo i∧List.length m-adv (List.length m) lo k.toNat=List.length m-adv (List.length m) lo i∧m=m)∧True)):=by kernel_rfl
theorem ydz(m:By)(lo:Nat)(k:Int):ywp m lo k=(
 ∃(x:Nat),(zbq (zax m lo x)=0∧k=k∧(↑x:Int)=0∧adv (List.length m) lo x=lo∧List.length m-adv (List.length m) lo x=List.length m-lo∧m=m)∧(↑x:Int)≤k∧∀(z:Unit),True→zbq (zax m
 lo k.toNat)=zbq (zax m lo k.toNat)∧adv (List.length m) lo k.toNat=adv (List.length m) lo k.toNat∧List.length m-adv (List.length m) lo k.toNat=List.length m-adv (List.length m) lo k.toNat∧m=m):=by kernel_rfl
theorem yd2(m:By)(lo:Nat)(s w:Int)(n:Nat):ywr m lo s w n=(
 (lo≤List.length m∧List.length m-lo=List.length m-lo∧zaj m)∧(4:Int)≠0∧0≤(atB m lo).tmod 4∧(4:Int)≠0∧(4:Int)≠0∧((0:Int)≤IntKind.i64.wrap (IntKind.i64.wrap ((1 :
 Int)*2 ^ min ((atB m lo).tmod 4).toNat 64)*IntKind.i64.wrap ((1:Int)+(IntKind.i64.wrap ((atB m lo).tdiv 4)).tmod 4))∧IntKind.i64.wrap (IntKind.i64.wrap ((1:Int)*2 ^ min ((atB m
 lo).tmod 4).toNat 64)*IntKind.i64.wrap ((1:Int)+(IntKind.i64.wrap ((atB m lo).tdiv 4)).tmod 4))≤IntKind.i64.wrap (IntKind.i64.wrap ((1:Int)*2 ^ min ((atB m lo).tmod 4).toNat (64 :
 Nat))*IntKind.i64.wrap ((1:Int)+(IntKind.i64.wrap ((atB m lo).tdiv 4)).tmod 4))∧IntKind.i64.wrap (IntKind.i64.wrap ((1:Int)*2 ^ min ((atB m lo).tmod 4).toNat 64)*IntKind.i64.wrap ((1 :
 Int)+(IntKind.i64.wrap ((atB m lo).tdiv 4)).tmod 4))≤4294967296)∧s=IntKind.i64.wrap ((1:Int)*2 ^ min ((atB m lo).tmod 4).toNat 64)∧w=IntKind.i64.wrap ((1:Int) +
 (IntKind.i64.wrap ((atB m lo).tdiv 4)).tmod 4)∧(0:Nat)=0∧n=(IntKind.i64.wrap (IntKind.i64.wrap ((1:Int)*2 ^ min ((atB m lo).tmod 4).toNat 64)*IntKind.i64.wrap ((1:Int) +
 (IntKind.i64.wrap ((atB m lo).tdiv 4)).tmod 4))).toNat∧adv (List.length m) lo 1=adv (List.length m) lo 1∧List.length m-adv (List.length m) lo 1=List.length m-adv (List.length m) lo (1 :
 Nat)∧m=m∧List.replicate n zE=List.replicate (IntKind.i64.wrap (IntKind.i64.wrap ((1:Int)*2 ^ min ((atB m lo).tmod 4).toNat 64)*IntKind.i64.wrap ((1:Int)+(IntKind.i64.wrap ((atB m lo).tdiv (4 :
 Int))).tmod 4))).toNat (El.zero [Ty.b,Ty.i IntKind.i64,Ty.i IntKind.u64,Ty.i IntKind.u64,Ty.b,Ty.i IntKind.u64])):=by kernel_rfl
theorem yde(m:By)(i:Int):ywi m i=(
 (decide (i<(↑(List.length m):Int))=true→((0:Int)≤i∧i<(↑(List.length m):Int))∧0+i.toNat<List.length m∧atB m i.toNat=IntKind.i64.wrap (List.getD m ((0:Nat)+i.toNat) (El.zero [Ty.i IntKind.u8]))∧m=m)
 ∧ (decide (i<(↑(List.length m):Int))=false→atB m i.toNat=0∧m=m)):=by kernel_rfl
theorem zot(m:By)(i:Int)(k:Nat):zyp m i k=(
 (decide ((↑k:Int)<8)=true→(List.length m=List.length m∧zaj m∧(0:PmT [i64])≤IntKind.i64.wrap (i+(↑k:Int)))∧((0:Nat)+1≤[IntKind.u8.wrap (atB m (IntKind.i64.wrap (i+(↑k:Int))).toNat)].length
 ∧ k≤List.length (zax m i.toNat k)∧k+(List.take 1 (List.drop 0 [IntKind.u8.wrap (atB m (IntKind.i64.wrap (i+(↑k:Int))).toNat)])).length≤1073741824)∧∃(y:Nat),((0:Nat)=0∧List.length m =
 List.length m∧i=i∧(0:Nat)=0∧y=k+(List.take 1 (List.drop 0 [IntKind.u8.wrap (atB m (IntKind.i64.wrap (i+(↑k:Int))).toNat)])).length∧(↑y:Int)=IntKind.i64.wrap ((↑k:Int)+1)∧m=m
 ∧ zax m i.toNat y=List.take k (zax m i.toNat k)++List.take 1 (List.drop 0 [IntKind.u8.wrap (atB m (IntKind.i64.wrap (i+(↑k:Int))).toNat)]))∧y≤8∧8-y<8-k∧∀(z:Unit),True →
 True)∧(decide ((↑k:Int)<8)=false→∃(z:Unit),((0:Nat)=0∧8=k∧m=m∧zax m i.toNat 8=zax m i.toNat k)∧True)):=by kernel_rfl
theorem zve(m:By)(i:Int):ykt m i=(
 ∃(x:Nat),((0:Nat)=0∧List.length m=List.length m∧i=i∧(0:Nat)=0∧x=0∧(↑x:Int)=0∧m=m∧zax m i.toNat x=[])∧x≤8∧∀(z:Unit),True→((0:Nat)+8 ≤
 List.length (zax m i.toNat 8)∧zaj (List.take 8 (List.drop 0 (zax m i.toNat 8)))∧(List.take 8 (List.drop 0 (zax m i.toNat 8))).length≤8)∧zbq (zax m i.toNat (8
 : Nat))=zbq (List.take 8 (List.drop 0 (zax m i.toNat 8)))∧m=m):=by kernel_rfl
theorem zn0(s w:Int)(n k:Nat):zvd s w n k=(
 let A0(a:Nat):=List.replicate a zE;
 let A1:=(0:Int)=0;
 let A2:=Value.slice none 0 0;
 let A3(a b c:Prop):=a∧b∧c;
 let A4(a:Bool)(b:Prop):=decide ((↑k:Int)<(IntKind.i64.wrap (s*w)))=a→b;
 let A5(a b:Nat)(c:Prop):=A3 A1 (A2=A2) (A3 (s=s) (w=w) (A3 ((0:Nat)=0) (a=b) c));
 A4 true (A3 (((0:Nat)+1).le 1) (k≤(A0 k).length) (k+(1:Nat)≤1073741824)∧∃(x0:Nat),A3 ((↑x0:Int)=IntKind.i64.wrap ((↑k:Int)+1)) A1 (A5 x0 (k+1) (A0 x0=List.take k (A0
  k)++(false,0,0,0,false,0)::[]))∧A3 (x0≤n) (n-x0<n-k) (∀(x1:Unit),True→True))∧A4 false (∃(x2:Unit),(A1∧A5 n k (A0 n=A0 k))∧True)):=by kernel_rfl
theorem zr1(y s w:Int)(n:Nat):ydf y s w n=(
 (4:Int)≠0∧y.tmod 4≤(64:PmT [i64])∧(4:Int)≠0∧(4:Int)≠0∧∃(x:Nat),((↑x:Int)=0∧(0:Int)=0∧(0:Int)=0∧Value.slice none 0 0 =
 Value.slice none 0 0∧s=IntKind.i64.wrap (pw (y.tmod 4))∧w=IntKind.i64.wrap ((1:Int)+(IntKind.i64.wrap (y.tdiv 4)).tmod 4)∧(0:Nat)=0∧x=0∧List.replicate x zE =
 [])∧x≤n∧∀(z:Unit),True→s=s∧w=w∧(0:Nat)=0∧(List.replicate n zE).length=n∧List.replicate n zE=List.replicate n zE):=by kernel_rfl
set_option linter.unusedSimpArgs false
theorem zb2{m:By}(h:zaj m)(p:Nat):0≤atB m p∧atB m p<256:=by
 unfold atB
 rw[List.getD_eq_getElem?_getD]
 rcases Nat.lt_or_ge p m.length with q|q
 · rw[List.getElem?_eq_getElem q]
   exact h.2 _ (List.getElem_mem q)
 · rw[List.getElem?_eq_none q]
   exact⟨by decide,by decide⟩
theorem zhv(m:By)(p k:Nat):zax m p (k+1)=zax m p k++[atB m (p+k)]:=by simp[zax,List.range_succ]
theorem zbk(m:By)(p k:Nat):(zax m p k).length=k:=by simp[zax]
theorem zll{m:By}(h:zaj m)(p k:Nat):∀b ∈ zax m p k,0≤b∧b<256:=by
 intro b hb
 obtain⟨j, -,rfl⟩:=List.mem_map.1 hb
 exact zb2 h _
theorem zef{m:By}(h:zaj m)(p:Nat){k:Nat}(hk:k≤8):U64 (zbq (zax m p k)):=zh1 (zll h p k) (by rw[zbk];exact hk)
theorem zqk{m:By}{lo:Nat}(i:Nat):atB m (adv m.length lo i)=atB m (lo+i):=by
 unfold adv
 rcases Nat.lt_or_ge (lo+i) m.length with q|q
 · rw[Nat.min_eq_left (by omega)]
 · rw[Nat.min_eq_right q]
   unfold atB
   simp only[List.getD_eq_getElem?_getD]
   rw[List.getElem?_eq_none (Nat.le_refl _),List.getElem?_eq_none q]
theorem yfi{m:By}{lo:Nat}(i k:Nat):zax m (adv m.length lo i) k=zax m (lo+i) k:=by
 unfold zax
 refine List.map_congr_left (fun j _ => ?_)
 have e1:=zqk (m:=m) (lo:=lo) (i+j)
 have e2:=zqk (m:=m) (lo:=adv m.length lo i) j
 have e3:adv m.length (adv m.length lo i) j=adv m.length lo (i+j):=by unfold adv;omega
 rw[e3,e1] at e2
 rw[← e2,Nat.add_assoc]
theorem yfa(n lo a b:Nat):adv n (adv n lo a) b=adv n lo (a+b):=by unfold adv;omega
theorem ze6(n lo k:Nat):adv n lo k≤n:=by unfold adv;omega
theorem zzw{n lo:Nat}(h:lo≤n):adv n lo 0=lo:=by unfold adv;omega
theorem ya2:Sound Tryz.prog 154 ya1:=by
 refine zbi mixed Tryz.func154 (by kernel_rfl) (by kernel_rfl) zdc (fun args H p v H' h hp => ?_)
 unfold ya1 at h
 split at h
 case h_2=>cases h
 rename_i lo len sh m
 split at h
 case isFalse=>cases h
 rename_i hsh
 subst hsh
 simp only[Option.some.injEq,Prod.mk.injEq] at h
 obtain⟨rfl,rfl,rfl⟩:=h
 obtain⟨hl,rfl,hm⟩:lo≤m.length∧len=m.length-lo∧zaj m:=hp
 have hb:=zb2 hm lo
 refine⟨.none,zab (zy6 m lo) ⟨fun q => ?_,fun q => ?_⟩⟩
 · have q:m.length-lo=0:=by simpa using q
   have e:lo=m.length:=by omega
   refine⟨?_,by unfold adv;omega,by unfold adv;omega,rfl⟩
   unfold atB
   rw[List.getD_eq_getElem?_getD,List.getElem?_eq_none (by omega)]
   rfl
 · have q:¬ m.length-lo=0:=by simpa using q
   refine⟨⟨by omega,by omega⟩,by show lo+0<_;omega,⟨by omega,by omega,by omega⟩, ?_,by unfold adv;show _=lo+1;omega,by unfold adv;omega,rfl⟩
   show atB m lo=IntKind.i64.wrap (atB m lo)
   rw[zaa (by omega) (by omega)]
theorem yef:DictOk Tryz.prog FDA0:=zay (.cons (by kernel_rfl) ya2 .nil) .nil .nil
theorem ztw:∀(l:By)(b:Int),zbq (l++[b])=zbq l+b*256 ^ l.length
 | [],b=>by simp[zbq]
 | a::l,b=>by
  show a+256*zbq (l++[b])=a+256*zbq l+b*256 ^ (l.length+1)
  rw[ztw l b,Int.pow_succ,Int.mul_add,Int.add_assoc]
  congr 2
  rw[← Int.mul_assoc,Int.mul_comm 256 b,Int.mul_assoc,Int.mul_comm 256]
theorem or_comm(x y:Int):bits .or .u64 x y=bits .or .u64 y x:=by
 show IntKind.u64.wrap ((BitVec.ofInt 64 x ||| BitVec.ofInt 64 y).toNat:Int)=IntKind.u64.wrap ((BitVec.ofInt 64 y ||| BitVec.ofInt 64 x).toNat:Int)
 rw[BitVec.or_comm]
theorem pow8(i:Nat):(2:Int) ^ (8*i)=256 ^ i:=by rw[Int.pow_mul];rfl
theorem yuq{x b:Int}{i:Nat}(hi:i<8)(hx:0≤x∧x<256 ^ i)(hb:0≤b∧b<256):bits .or .u64 x (IntKind.u64.wrap (IntKind.u64.wrap b*2 ^ min (IntKind.i64.wrap (8*(i:Int))).toNat 64))=x+b*256 ^ i:=by
 have e1:IntKind.i64.wrap (8*(i:Int))=8*(i:Int):=zaa (by omega) (by omega)
 have e2:min (8*(i:Int)).toNat 64=8*i:=by omega
 rw[e1,e2,zah (n:=b) hb.1 (by omega),pow8]
 have hp:(0:Int)<256 ^ i:=Int.pow_pos (by omega)
 have hle:(256:Int) ^ i≤256 ^ 7:=by
  have:=zpr (m:=8*i) (n:=8*7) (by omega)
  rw[pow8,pow8] at this
  exact this
 have h7:(256:Int) ^ 7=72057594037927936:=by decide
 rw[h7] at hle
 have hb1:b*256 ^ i≤255*256 ^ i:=Int.mul_le_mul_of_nonneg_right (by omega) (by omega)
 have hb0:0≤b*256 ^ i:=Int.mul_nonneg hb.1 (by omega)
 rw[zah hb0 (by omega),or_comm,zrg (8*i) hb0 (by rw[pow8];exact Int.mul_emod_left _ _) (by omega) hx.1 (by rw[pow8];exact hx.2) (by omega),Int.add_comm]
theorem zl9{m:By}(h:zaj m)(p k:Nat):0≤zbq (zax m p k)∧zbq (zax m p k)<256 ^ k:=by
 have:=zkp (zll h p k)
 rw[zbk] at this
 exact this
theorem yvh:Sound Tryz.prog 155 yvg:=by
 refine zdk mixed Tryz.func155 (by kernel_rfl) (b:=zag Tryz.f155 0) (k:=3) (by kernel_rfl) (by kernel_rfl) (by kernel_rfl) yef (fun args H p v H' h hp => ?_)
 unfold yvg at h
 split at h
 case h_2=>cases h
 rename_i k lo len sh m
 split at h
 case isFalse=>cases h
 rename_i hsh
 subst hsh
 simp only[Option.some.injEq,Prod.mk.injEq] at h
 obtain⟨rfl,rfl,rfl⟩:=h
 obtain⟨hl,rfl,hm,k0,k1⟩:lo≤m.length∧len=m.length-lo∧zaj m∧0≤k∧k≤8:=hp
 refine⟨.one 3 (yi7 m lo k),yi7 m lo k,fun i:Nat=>k.toNat-i,za3 _ _,fun  (i:Nat) hi=>zab (zvv m lo k i) ⟨fun q => ?_,fun q => ?_⟩,zab (ydz m lo k) ?_⟩
 · have q:(i:Int)<k:=of_decide_eq_true q
   have e:IntKind.i64.wrap ((i:Int)+1)=((i+1:Nat):Int):=by rw[zaa (by omega) (by omega)];omega
   have hx:=zl9 hm lo i
   have hb:=zb2 hm (lo+i)
   rw[e,zqk,yuq (by omega) hx hb,yfa]
   refine⟨⟨ze6 _ _ _,rfl,hm⟩,by rw[zaa (by omega) (by omega)];omega,i+1,⟨?_,rfl,rfl,rfl,rfl,rfl⟩,by omega,by omega,fun _ _=>trivial⟩
   rw[zhv,ztw,zbk]
 · have q:¬ (i:Int)<k:=of_decide_eq_false q
   have hi:(i:Int)≤k:=hi
   have:k.toNat=i:=by omega
   rw[this]
   exact⟨(),⟨rfl,rfl,rfl,rfl⟩,trivial⟩
 · exact⟨0,⟨rfl,rfl,rfl,zzw hl,by rw[zzw hl],rfl⟩,k0,fun _ _=>⟨rfl,rfl,rfl,rfl⟩⟩
theorem zmj{y:Int}(h0:0≤y)(h1:y<256):y.tmod 4=y % 4∧y.tdiv 4=y/4∧IntKind.i64.wrap (y/4)=y/4∧(y/4).tmod 4=y/4 % 4∧IntKind.i64.wrap (1+y/4 % 4)=1+y/4 % 4 ∧
 IntKind.i64.wrap (1*2 ^ min (y % 4).toNat 64)=2 ^ (y % 4).toNat∧(1:Int)≤2 ^ (y % 4).toNat∧(2:Int) ^ (y % 4).toNat≤8∧IntKind.i64.wrap (2 ^ (y % 4).toNat*(1+y/4 % 4))=2 ^ (y % 4).toNat*(1+y/4 % 4)∧1≤2 ^ (y % 4).toNat*(1+y/4 % 4)∧2 ^ (y % 4).toNat*(1+y/4 % 4)≤32:=by
 have a0:0≤y % 4:=Int.emod_nonneg _ (by decide)
 have a1:y % 4<4:=Int.emod_lt_of_pos _ (by decide)
 have b0:0≤y/4 % 4:=Int.emod_nonneg _ (by decide)
 have b1:y/4 % 4<4:=Int.emod_lt_of_pos _ (by decide)
 rw[zb1 h0,zev h0,zb1 (show 0≤y/4 by omega)]
 refine⟨rfl,rfl,zaa (by omega) (by omega),rfl,zaa (by omega) (by omega), ?_⟩
 generalize y/4 % 4=w at b0 b1
 have hc:y % 4=0∨y % 4=1∨y % 4=2∨y % 4=3:=by omega
 rcases hc with e|e|e|e<;>rw[e]
 · rw[show (2:Int) ^ (0:Int).toNat=1 by decide];exact⟨by decide,by decide,by decide,zaa (by omega) (by omega),by omega,by omega⟩
 · rw[show (2:Int) ^ (1:Int).toNat=2 by decide];exact⟨by decide,by decide,by decide,zaa (by omega) (by omega),by omega,by omega⟩
 · rw[show (2:Int) ^ (2:Int).toNat=4 by decide];exact⟨by decide,by decide,by decide,zaa (by omega) (by omega),by omega,by omega⟩
 · rw[show (2:Int) ^ (3:Int).toNat=8 by decide];exact⟨by decide,by decide,by decide,zaa (by omega) (by omega),by omega,by omega⟩
theorem yvn:Sound Tryz.prog 153 yvm:=by
 refine zbi mixed Tryz.func153 (by kernel_rfl) (by kernel_rfl) yef (fun args H p v H' h hp => ?_)
 unfold yvm at h
 split at h
 case h_2=>cases h
 rename_i lo len sh m
 split at h
 case isFalse=>cases h
 rename_i hsh
 subst hsh
 simp only[Option.some.injEq,Prod.mk.injEq] at h
 obtain⟨rfl,rfl,rfl⟩:=h
 obtain⟨hl,rfl,hm⟩:lo≤m.length∧len=m.length-lo∧zaj m:=hp
 obtain⟨y0,y1⟩:=zb2 hm lo
 refine⟨.none,zab (yd2 m lo (zaf (atB m lo)).1 (zaf (atB m lo)).2.1 (zac (atB m lo))) ?_⟩
 obtain⟨e1,e2,e3,e4,e5,e6,e7,e8,e9,e10,e11⟩:=zmj y0 y1
 rw[e1,e2,e3,e4,e5,e6,e9]
 refine⟨⟨hl,rfl,hm⟩,by decide,Int.emod_nonneg _ (by decide),by decide,by decide,⟨by omega,by omega,by omega⟩,rfl,rfl,rfl,rfl,rfl,rfl,rfl,rfl⟩
theorem yhh:Sound Tryz.prog 78 yuh:=by
 refine zad mixed Tryz.func78 (by kernel_rfl) (by kernel_rfl) zdc (fun t h => ?_)
 obtain⟨m,i⟩:By × Int:=t
 obtain⟨hm,h0⟩:zaj m∧0≤i:=h
 have hb:=zb2 hm i.toNat
 refine zab (yde m i) ⟨fun q => ?_,fun q => ?_⟩
 · have q:i<m.length:=of_decide_eq_true q
   refine⟨⟨h0,q⟩,by omega, ?_,rfl⟩
   rw[Nat.zero_add]
   show atB m i.toNat=IntKind.i64.wrap (atB m i.toNat)
   rw[zaa (by omega) (by omega)]
 · have q:¬ i<m.length:=of_decide_eq_false q
   refine⟨?_,rfl⟩
   unfold atB
   rw[List.getD_eq_getElem?_getD,List.getElem?_eq_none (by omega)]
   rfl
theorem yeg:DictOk Tryz.prog yxc:=zay (.cons (by kernel_rfl) yhh (yg5.append zc4)) .nil .nil
theorem yhl:Sound Tryz.prog 79 (zai [byP,i64] [u64] (fun t=>some (zaj t.1∧0≤t.2∧t.2≤1000000)) (fun t=>zbq (zax t.1 t.2.toNat 8))):=by
 refine zbl mixed Tryz.func79 (by kernel_rfl) (b:=zag Tryz.f79 0) (k:=3) (by kernel_rfl) (by kernel_rfl) (by kernel_rfl) yeg (fun t h => ?_)
 obtain⟨m,i⟩:By × Int:=t
 obtain⟨hm,h0,h1⟩:zaj m∧0≤i∧i≤1000000:=h
 refine⟨.one 3 (yhq m i),yhq m i,fun k:Nat=>8-k,za3 _ _,fun  (k:Nat) hk=>zab (zot m i k) ⟨fun q => ?_,fun q => ?_⟩,zab (zve m i) ?_⟩
 · have q:(k:Int)<8:=of_decide_eq_true q
   have hb:=zb2 hm (i.toNat+k)
   have e:IntKind.i64.wrap ((k:Int)+1)=((k+1:Nat):Int):=by rw[zaa (by omega) (by omega)];omega
   have e1:IntKind.i64.wrap (i+(k:Int))=i+k:=zaa (by omega) (by omega)
   have e2:(i+(k:Int)).toNat=i.toNat+k:=by omega
   have e3:IntKind.u8.wrap (atB m (i.toNat+k))=atB m (i.toNat+k):=by rw[wrap_u8];omega
   have hl:=zbk m i.toNat k
   rw[e,e1,e2,e3]
   refine⟨⟨rfl,hm,by show (0:Int)≤i+k;omega⟩,⟨by simp,by omega,by simp;omega⟩,k+1,⟨rfl,rfl,rfl,rfl,by simp,rfl,rfl, ?_⟩,by omega,by omega,fun _ _=>trivial⟩
   rw[zhv,List.take_of_length_le (by omega)]
   simp
 · have q:¬ (k:Int)<8:=of_decide_eq_false q
   have hk:k≤8:=hk
   have:k=8:=by omega
   subst this
   exact⟨(),⟨rfl,rfl,rfl,rfl⟩,trivial⟩
 · have hl:=zbk m i.toNat 8
   have e:List.take 8 (List.drop 0 (zax m i.toNat 8))=zax m i.toNat 8:=by rw[List.drop_zero,List.take_of_length_le (by omega)]
   rw[e]
   exact⟨0,⟨rfl,rfl,rfl,rfl,rfl,rfl,rfl,rfl⟩,by omega,fun _ _=>⟨⟨by omega,⟨by unfold SzR;omega,zll hm _ _⟩,by omega⟩,rfl,rfl⟩⟩
theorem yb6:Sound Tryz.prog 77 (zai [i64] [tlP] (fun y=>some (0≤y∧y<256)) zaf):=by
 refine zbl mixed Tryz.func77 (by kernel_rfl) (b:=zag Tryz.f77 0) (k:=3) (by kernel_rfl) (by kernel_rfl) (by kernel_rfl) yeg (fun  (y:Int) h => ?_)
 obtain⟨h0,h1⟩:0≤y∧y<256:=h
 obtain⟨e1,e2,e3,e4,e5,e6,e7,e8,e9,e10,e11⟩:=zmj h0 h1
 refine⟨.one 3 (zs5 (2 ^ (y % 4).toNat) (1+y/4 % 4) (zac y)),zs5 (2 ^ (y % 4).toNat) (1+y/4 % 4) (zac y),fun k:Nat=>zac y-k,za3 _ _,fun  (k:Nat) hk=>zab (zn0 _ _ _ k) ?_,zab (zr1 y _ _ _) ?_⟩
 all_goals (try conv=>zeta)
 · have hk:k≤zac y:=hk
   have hn:(zac y:Int)=2 ^ (y % 4).toNat*(1+y/4 % 4):=by unfold zac;omega
   rw[e9, ← hn]
   refine⟨fun q => ?_,fun q => ?_⟩
   · have q:(k:Int)<zac y:=of_decide_eq_true q
     have e:IntKind.i64.wrap ((k:Int)+1)=((k+1:Nat):Int):=by rw[zaa (by omega) (by omega)];omega
     rw[e]
     refine⟨⟨Nat.le_refl 1,by simp,by omega⟩,k+1,⟨rfl,rfl,rfl,rfl,rfl,rfl,rfl,rfl, ?_⟩,by omega,by omega,fun _ _=>trivial⟩
     rw[List.take_of_length_le (by simp),List.replicate_succ']
     rfl
   · have q:¬ (k:Int)<zac y:=of_decide_eq_false q
     have:zac y=k:=by omega
     rw[this]
     exact⟨(),⟨rfl,rfl,rfl,rfl,rfl,rfl,rfl,rfl⟩,trivial⟩
 · rw[e1,e2,e3,e4,e5]
   have a0:0≤y % 4:=Int.emod_nonneg _ (by decide)
   have a1:y % 4<4:=Int.emod_lt_of_pos _ (by decide)
   refine⟨by decide,by show y % 4≤(64:Int);omega,by decide,by decide,0,⟨rfl,rfl,rfl,rfl, ?_,rfl,rfl,rfl,rfl⟩,by omega,fun _ _=>⟨rfl,rfl,rfl,by simp,rfl⟩⟩
   rw[yuy a0 (by omega),zaa (by omega) (by omega)]
end Go.Proofs.YtfiddfbagbaofaaGreat.V
