/- Draws of memories, fourth part, answer as their models. Conditions: those in each statement. -/
import Derived.Test.YtfiddfbagbaofaaGreatGS
import Derived.KernelRfl
namespace Go.Proofs.YtfiddfbagbaofaaGreat.V
open Go
def yvx(m:By)(i h:Int)(n:Int):LoopS where
 α:=Nat
 I k:=(k:Int)≤n
 sl k:=slots 22 [(0,.ptr 0 0),(1,.v (.int .i64 n)),(5,.sl 2 1 0 k),(6,.v (.int .i64 (k:Int)))]
 H k:=[.fix (zll m.length (itI m.length i k) (itH h k)) true (some 244),.arr [.i .u8] m false,.arr [.i .u8] (zk1 m i h k) true]
 fams:=[{ β:=Unit,out:=fun _ _=>True,ex := .ext 0,sl:=fun _=>slots 22 [(5,.sl 2 1 0 n.toNat)],H:=fun _=>[.fix (zll m.length (itI m.length i n.toNat) (itH h n.toNat)) true (some 244),.arr [.i .u8] m false,.arr [.i .u8] (zk1 m i h n.toNat) true] }]
def ym2(m:By)(i h n:Int)(k:Nat):Prop:=zax Tryz.prog FQ1 (.one 3 (yvx m i h n)) 2 (zai Tryz.f166 0) (yvx m i h n) (fun k:Nat=>n.toNat-k) k
def yw2(m:By)(i h n:Int):Prop:=znh Tryz.prog FQ1 (.one 3 (yvx m i h n)) Tryz.f166 [.ptr 0 0,.v (.int .i64 n)] [.fix (zll m.length i h) true (some 244),.arr [.i .u8] m false] (.sl 2 1 0 n.toNat) [.fix (zll m.length (itI m.length i n.toNat) (itH h n.toNat)) true (some 244),.arr [.i .u8] m false,.arr [.i .u8] (zk1 m i h n.toNat) true]
def zki(m:By):Nat→Int
 | 0=>54321+m.length
 | k+1=>bits .and .i64 (IntKind.i64.wrap (IntKind.i64.wrap (IntKind.i64.wrap (zki m k*131)+m.getD k 0)+7)) 1073741823
def yvy(m:By):LoopS where
 α:=Nat
 I k:=k≤m.length
 sl k:=slots 28 [(0,.sl 0 1 0 m.length),(3,.v (.int .i64 (zki m k))),(4,.v (.int .i64 (k:Int)))]
 H _:=[.arr [.i .u8] m false]
 fams:=[{ β:=Unit,out:=fun _ _=>True,ex := .ext 0,sl:=fun _=>slots 28 [(0,.sl 0 1 0 m.length),(3,.v (.int .i64 (zki m m.length)))],H:=fun _=>[.arr [.i .u8] m false] }]
def ym3(m:By)(k:Nat):Prop:=zax Tryz.prog F0 (.one 3 (yvy m)) 1 (zai Tryz.f81 0) (yvy m) (fun k:Nat=>m.length-k) k
def yw3(m:By):Prop:=znh Tryz.prog F0 (.one 3 (yvy m)) Tryz.f81 [.sl 0 1 0 m.length] [.arr [.i .u8] m false] (.ptr 1 0) [.arr [.i .u8] m false,.fix [.sl 0 1 0 m.length,.v (.int .i64 0),.v (.int .i64 (zki m m.length))] true (some 244)]
set_option linter.unusedVariables false
theorem zxj(m:By)(i h n:Int)(k:Nat):ym2 m i h n k=(
 (decide ((↑k:Int)<n)=true →
     (List.length m=List.length m∧zbe m (itI (List.length m) i k)) ∧
       ((0:Nat)+(1:Nat)≤[IntKind.u8.wrap (byM m (itI (List.length m) i k) (itH h k))].length ∧
           k≤List.length (zk1 m i h k)∧k+(List.take (1:Nat) (List.drop (0:Nat) [IntKind.u8.wrap (byM m (itI (List.length m) i k) (itH h k))])).length≤(1073741824:Nat)) ∧
         ∃(y:Nat),
           (n=n ∧
               (0:Nat)=(0:Nat) ∧
                 y=k+(List.take (1:Nat) (List.drop (0:Nat) [IntKind.u8.wrap (byM m (itI (List.length m) i k) (itH h k))])).length ∧
                   (↑y:Int)=IntKind.i64.wrap ((↑k:Int)+(1:Int)) ∧
                     (0:Nat)=(0:Nat) ∧
                       List.length m=List.length m ∧
                         itI (List.length m) i y=iN (List.length m) (itI (List.length m) i k) ∧
                           itH h y=hN (itH h k) ∧
                             m=m∧zk1 m i h y=List.take k (zk1 m i h k)++List.take (1:Nat) (List.drop (0:Nat) [IntKind.u8.wrap (byM m (itI (List.length m) i k) (itH h k))])) ∧
             (↑y:Int)≤n∧n.toNat-y<n.toNat-k∧∀(z:Unit),True→True) ∧
   (decide ((↑k:Int)<n)=false →
     ∃(z:Unit),
       ((0:Nat)=(0:Nat) ∧
           n.toNat=k ∧
             (0:Nat)=(0:Nat)∧List.length m=List.length m∧itI (List.length m) i n.toNat=itI (List.length m) i k∧itH h n.toNat=itH h k∧m=m∧zk1 m i h n.toNat=zk1 m i h k) ∧
         True)):=by kernel_rfl
theorem yir(m:By)(i h n:Int):yw2 m i h n=(
 ∃(x:Nat),
   (n=n ∧
       (0:Nat)=(0:Nat)∧x=(0:Nat)∧(↑x:Int)=(0:Int)∧(0:Nat)=(0:Nat)∧List.length m=List.length m∧itI (List.length m) i x=i∧itH h x=h∧m=m∧zk1 m i h x=[]) ∧
     (↑x:Int)≤n ∧
       ∀(z:Unit),
         True →
           (0:Nat)=(0:Nat) ∧
             n.toNat=n.toNat ∧
               (0:Nat)=(0:Nat) ∧
                 List.length m=List.length m∧itI (List.length m) i n.toNat=itI (List.length m) i n.toNat∧itH h n.toNat=itH h n.toNat∧m=m∧zk1 m i h n.toNat=zk1 m i h n.toNat):=by kernel_rfl
theorem zxk(m:By)(k:Nat):ym3 m k=(
 (decide ((↑k:Int)<(↑(List.length m):Int))=true →
     ((0:Int)≤(↑k:Int)∧(↑k:Int)<(↑(List.length m):Int)) ∧
       (0:Nat)+(↑k:Int).toNat<List.length m ∧
         ∃(y:Nat),
           ((0:Nat)=(0:Nat) ∧
               List.length m=List.length m ∧
                 zki m y =
                     bits BinOp.and IntKind.i64
                       (IntKind.i64.wrap
                         (IntKind.i64.wrap (IntKind.i64.wrap (zki m k*(131:Int))+IntKind.i64.wrap (List.getD m ((0:Nat)+(↑k:Int).toNat) (El.zero [Ty.i IntKind.u8])))+(7:Int)))
                       (1073741823:Int) ∧
                   (↑y:Int)=IntKind.i64.wrap ((↑k:Int)+(1:Int))∧m=m) ∧
             y≤List.length m∧List.length m-y<List.length m-k∧∀(z:Unit),True→True) ∧
   (decide ((↑k:Int)<(↑(List.length m):Int))=false→∃(z:Unit),((0:Nat)=(0:Nat)∧List.length m=List.length m∧zki m (List.length m)=zki m k∧m=m)∧True)):=by kernel_rfl
theorem yis(m:By):yw3 m=(
 ∃(x:Nat),
   ((0:Nat)=(0:Nat)∧List.length m=List.length m∧zki m x=IntKind.i64.wrap ((54321:Int)+(↑(List.length m):Int))∧(↑x:Int)=(0:Int)∧m=m) ∧
     x≤List.length m∧∀(z:Unit),True→m=m∧(0:Nat)=(0:Nat)∧List.length m=List.length m∧(0:Int)=(0:Int)∧zki m (List.length m)=zki m (List.length m)):=by kernel_rfl
set_option linter.unusedSimpArgs false
theorem zme(m:By)(i h:Int):∀k:Nat,(zk1 m i h k).length=k
 | 0=>rfl
 | k+1=>by simp[zk1,zme m i h k]
def memS:Sum:=fun args H=>match args,H with
 | [.ptr 0 0,.v (.int .i64 k)],[.fix [.sl 1 1 0 n,.v (.int .i64 i),.v (.int .i64 h)] true (some 244),.arr sh m false] =>
  if e:sh=[.i .u8] then some (some (n=(e ▸ m:List (El [.i .u8])).length∧zbe (e ▸ m:List (El [.i .u8])) i∧0≤k∧k≤100000),.sl 2 1 0 k.toNat,[.fix (zll n (itI n i k.toNat) (itH h k.toNat)) true (some 244),.arr [.i .u8] (e ▸ m:List (El [.i .u8])) false,.arr [.i .u8] (zk1 (e ▸ m:List (El [.i .u8])) i h k.toNat) true]) else none
 | _,_=>none
theorem yf3:Sound Tryz.prog 166 memS:=by
 refine zgb mixed Tryz.func166 (by kernel_rfl) (b:=zai Tryz.f166 0) (k:=3) (by kernel_rfl) (by kernel_rfl) (by kernel_rfl) yc5 (fun args H p v H' h hp => ?_)
 unfold memS at h
 split at h
 case h_2=>cases h
 rename_i z n i hh sh m
 split at h
 case isFalse=>cases h
 rename_i hsh
 subst hsh
 simp only[Option.some.injEq,Prod.mk.injEq] at h
 obtain⟨rfl,rfl,rfl⟩:=h
 obtain⟨rfl,hc,z0,z1⟩:n=m.length∧zbe m i∧0≤z∧z≤100000:=hp
 refine⟨.one 3 (yvx m i hh z),yvx m i hh z,fun k:Nat=>z.toNat-k,zby _ _,fun  (k:Nat) hk=>zah (zxj m i hh z k) ⟨fun q => ?_,fun q => ?_⟩,zah (yir m i hh z) ?_⟩
 · have q:(k:Int)<z:=of_decide_eq_true q
   have hb:=zlh m (itI m.length i k) (itH hh k)
   have hl:=zme m i hh k
   have e:IntKind.i64.wrap ((k:Int)+1)=((k+1:Nat):Int):=by rw[zaa (by omega) (by omega)];omega
   have e2:IntKind.u8.wrap (byM m (itI m.length i k) (itH hh k))=byM m (itI m.length i k) (itH hh k):=by rw[wrap_u8];omega
   have e3:List.take k (zk1 m i hh k)=zk1 m i hh k:=List.take_of_length_le (by omega)
   rw[e,e2,e3]
   exact⟨⟨rfl,zro hc k⟩,⟨by simp,by omega,by simp;omega⟩,k+1,⟨rfl,rfl,by simp,rfl,rfl,rfl,rfl,rfl,rfl,by simp[zk1]⟩,by omega,by omega,fun _ _=>trivial⟩
 · have q:¬ (k:Int)<z:=of_decide_eq_false q
   have hk:(k:Int)≤z:=hk
   have:z.toNat=k:=by omega
   rw[this]
   exact⟨(),⟨rfl,rfl,rfl,rfl,rfl,rfl,rfl,rfl⟩,trivial⟩
 · exact⟨0,⟨rfl,rfl,rfl,rfl,rfl,rfl,rfl,rfl,rfl,rfl⟩,z0,fun _ _=>⟨rfl,rfl,rfl,rfl,rfl,rfl,rfl,rfl⟩⟩
def newS:Sum:=fun args H=>match args,H with
 | [.sl 0 1 0 n],[.arr sh m false] =>
  if e:sh=[.i .u8] then some (some (n=(e ▸ m:List (El [.i .u8])).length∧zan (e ▸ m:List (El [.i .u8]))),.ptr 1 0,[.arr [.i .u8] (e ▸ m:List (El [.i .u8])) false,.fix [.sl 0 1 0 n,.v (.int .i64 0),.v (.int .i64 (zki (e ▸ m:List (El [.i .u8])) n))] true (some 244)]) else none
 | _,_=>none
theorem yos:Sound Tryz.prog 81 newS:=by
 refine zgb mixed Tryz.func81 (by kernel_rfl) (b:=zai Tryz.f81 0) (k:=3) (by kernel_rfl) (by kernel_rfl) (by kernel_rfl) zee (fun args H p v H' h hp => ?_)
 unfold newS at h
 split at h
 case h_2=>cases h
 rename_i n sh m
 split at h
 case isFalse=>cases h
 rename_i hsh
 subst hsh
 simp only[Option.some.injEq,Prod.mk.injEq] at h
 obtain⟨rfl,rfl,rfl⟩:=h
 obtain⟨rfl,hm⟩:n=m.length∧zan m:=hp
 have hs:=hm.1
 have hs2:m.length≤2097152:=hs
 refine⟨.one 3 (yvy m),yvy m,fun k:Nat=>m.length-k,zby _ _,fun  (k:Nat) hk=>zah (zxk m k) ⟨fun q => ?_,fun q => ?_⟩,zah (yis m) ⟨0,⟨rfl,rfl, ?_,rfl,rfl⟩,by omega,fun _ _=>⟨rfl,rfl,rfl,rfl,rfl⟩⟩⟩
 · have q:(k:Int)<m.length:=of_decide_eq_true q
   have hlt:k<m.length:=by omega
   have hb:=hm.2 _ (by rw[List.getD_eq_getElem?_getD,List.getElem?_eq_getElem hlt];exact List.getElem_mem hlt:m.getD k (0:Int) ∈ m)
   rw[zfk hs hlt,show 0+(k:Int).toNat=k by omega,show El.zero [Ty.i .u8]=(0:Int) from rfl,zaa (n:=m.getD k (0:Int)) (by omega) (by omega)]
   exact⟨⟨by omega,by omega⟩,by omega,k+1,⟨rfl,rfl,rfl,rfl,rfl⟩,by omega,by omega,fun _ _=>trivial⟩
 · have q:¬ (k:Int)<m.length:=of_decide_eq_false q
   have hk:k≤m.length:=hk
   have:k=m.length:=by omega
   subst this
   exact⟨(),⟨rfl,rfl,rfl,rfl⟩,trivial⟩
 · rw[zaa (by omega) (by omega)]
   rfl
end Go.Proofs.YtfiddfbagbaofaaGreat.V
