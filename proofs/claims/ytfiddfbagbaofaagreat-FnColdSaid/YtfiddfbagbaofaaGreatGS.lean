/- Draws of memories, third part, answer as their models. Conditions: those in each statement. -/
import Derived.Test.YtfiddfbagbaofaaGreatGR
import Derived.KernelRfl
namespace Go.Proofs.YtfiddfbagbaofaaGreat.V
open Go
def itI(n:Nat)(i:Int):Nat→Int
 | 0=>i
 | k+1=>iN n (itI n i k)
def itH(h:Int):Nat→Int
 | 0=>h
 | k+1=>hN (itH h k)
def zhe(m:By)(i h:Int):Nat→Int
 | 0=>0
 | k+1=>IntKind.u64.wrap (IntKind.u64.wrap (zhe m i h k*256)+byM m (itI m.length i k) (itH h k))
def zky(m:By)(i h:Int):Nat→By
 | 0=>[]
 | k+1=>zky m i h k++[byM m (itI m.length i k) (itH h k)]
def yjg(m:By)(i h:Int)(o:Bool):LoopS where
 α:=Nat
 I k:=k≤8
 sl k:=slots 18 [(0,.ptr 0 0),(3,.v (.int .u64 (zhe m i h k))),(4,.v (.int .i64 (k:Int)))]
 H k:=[.fix (zli m.length (itI m.length i k) (itH h k)) true (some 244),.arr [.i .u8] m o]
 fams:=[{ β:=Unit,out:=fun _ _=>True,ex := .ext 0,sl:=fun _=>slots 18 [(3,.v (.int .u64 (zhe m i h 8)))],H:=fun _=>[.fix (zli m.length (itI m.length i 8) (itH h 8)) true (some 244),.arr [.i .u8] m o] }]
def yci(m:By)(i h:Int)(k:Nat):Prop:=zav Tryz.prog FQ1 (.one 3 (yjg m i h false)) 2 (zai Tryz.f181 0) (yjg m i h false) (fun k:Nat=>8-k) k
def ym6(m:By)(i h:Int):Prop:=zng Tryz.prog FQ1 (.one 3 (yjg m i h false)) Tryz.f181 [.ptr 0 0] [.fix (zli m.length i h) true (some 244),.arr [.i .u8] m false] (.v (.int .u64 (zhe m i h 8))) [.fix (zli m.length (itI m.length i 8) (itH h 8)) true (some 244),.arr [.i .u8] m false]
set_option linter.unusedVariables false
theorem zq1(m:By)(i h:Int)(k:Nat):yci m i h k=(
 (decide ((↑k:Int)<(8:Int))=true →
     (List.length m=List.length m∧zbd m (itI (List.length m) i k)) ∧
       ∃(y:Nat),
         (zhe m i h y=IntKind.u64.wrap (IntKind.u64.wrap (zhe m i h k*(256:Int))+IntKind.u64.wrap (byM m (itI (List.length m) i k) (itH h k))) ∧
             (↑y:Int)=IntKind.i64.wrap ((↑k:Int)+(1:Int)) ∧
               (0:Nat)=(0:Nat)∧List.length m=List.length m∧itI (List.length m) i y=iN (List.length m) (itI (List.length m) i k)∧itH h y=hN (itH h k)∧m=m) ∧
           y≤(8:Nat)∧(8:Nat)-y<(8:Nat)-k∧∀(z:Unit),True→True) ∧
   (decide ((↑k:Int)<(8:Int))=false →
     ∃(z:Unit),
       (zhe m i h (8:Nat)=zhe m i h k∧(0:Nat)=(0:Nat)∧List.length m=List.length m∧itI (List.length m) i (8:Nat)=itI (List.length m) i k∧itH h (8:Nat)=itH h k∧m=m) ∧
         True)):=by kernel_rfl
theorem zx1(m:By)(i h:Int):ym6 m i h=(
 ∃(x:Nat),
   (zhe m i h x=(0:Int)∧(↑x:Int)=(0:Int)∧(0:Nat)=(0:Nat)∧List.length m=List.length m∧itI (List.length m) i x=i∧itH h x=h∧m=m) ∧
     x≤(8:Nat) ∧
       ∀(z:Unit),
         True →
           zhe m i h (8:Nat)=zhe m i h (8:Nat) ∧
             (0:Nat)=(0:Nat)∧List.length m=List.length m∧itI (List.length m) i (8:Nat)=itI (List.length m) i (8:Nat)∧itH h (8:Nat)=itH h (8:Nat)∧m=m):=by kernel_rfl
set_option linter.unusedSimpArgs false
theorem ye0{n:Nat}{i:Int}(h0:0≤i)(h1:i≤n):∀k:Nat,0≤itI n i k∧itI n i k≤n
 | 0=>⟨h0,h1⟩
 | k+1=>by
  obtain⟨a,b⟩:=ye0 h0 h1 k
  unfold itI iN
  split
  · omega
  · exact⟨a,b⟩
theorem zrm{m:By}{i:Int}(h:zbd m i)(k:Nat):zbd m (itI m.length i k):=⟨h.1,(ye0 h.2.1 h.2.2 k).1,(ye0 h.2.1 h.2.2 k).2⟩
def yjh:Sum:=fun args H=>match args,H with
 | [.ptr 0 0],[.fix [.sl 1 1 0 n,.v (.int .i64 i),.v (.int .i64 h)] true (some 244),.arr sh m false] =>
  if e:sh=[.i .u8] then some (some (n=(e ▸ m:List (El [.i .u8])).length∧zbd (e ▸ m:List (El [.i .u8])) i),.v (.int .u64 (zhe (e ▸ m:List (El [.i .u8])) i h 8)),[.fix (zli n (itI n i 8) (itH h 8)) true (some 244),.arr [.i .u8] (e ▸ m:List (El [.i .u8])) false]) else none
 | _,_=>none
theorem zx7:Sound Tryz.prog 181 yjh:=by
 refine zf7 mixed Tryz.func181 (by kernel_rfl) (b:=zai Tryz.f181 0) (k:=3) (by kernel_rfl) (by kernel_rfl) (by kernel_rfl) ycx (fun args H p v H' h hp => ?_)
 unfold yjh at h
 split at h
 case h_2=>cases h
 rename_i n i hh sh m
 split at h
 case isFalse=>cases h
 rename_i hsh
 subst hsh
 simp only[Option.some.injEq,Prod.mk.injEq] at h
 obtain⟨rfl,rfl,rfl⟩:=h
 obtain⟨rfl,hc⟩:n=m.length∧zbd m i:=hp
 refine⟨.one 3 (yjg m i hh false),yjg m i hh false,fun k:Nat=>8-k,zbx _ _,fun  (k:Nat) hk=>zag (zq1 m i hh k) ⟨fun q => ?_,fun q => ?_⟩,zag (zx1 m i hh) ⟨0,⟨rfl,rfl,rfl,rfl,rfl,rfl,rfl⟩,by omega,fun _ _=>⟨rfl,rfl,rfl,rfl,rfl,rfl⟩⟩⟩
 · have q:(k:Int)<8:=of_decide_eq_true q
   have hb:=zle m (itI m.length i k) (itH hh k)
   have e:IntKind.i64.wrap ((k:Int)+1)=((k+1:Nat):Int):=by rw[zaa (by omega) (by omega)];omega
   rw[e,zar (n:=byM m (itI m.length i k) (itH hh k)) (by omega) (by omega)]
   exact⟨⟨rfl,zrm hc k⟩,k+1,⟨rfl,rfl,rfl,rfl,rfl,rfl,rfl⟩,by omega,by omega,fun _ _=>trivial⟩
 · have q:¬ (k:Int)<8:=of_decide_eq_false q
   have hk:k≤8:=hk
   have:k=8:=by omega
   subst this
   exact⟨(),⟨rfl,rfl,rfl,rfl,rfl,rfl⟩,trivial⟩
end Go.Proofs.YtfiddfbagbaofaaGreat.V
