/- Draws of memories, third part, answer as their models. Conditions: those in each statement. -/
import Derived.Test.YtfiddfbagbaofaaGreatGR
import Derived.KernelRfl
namespace Go.Proofs.YtfiddfbagbaofaaGreat.V
open Go
def itI(n:Nat)(i:Int):Nat→Int
 | 0=>i
 | k+1=>iN n (itI n i k)
def itH(h:Int):Nat→Int
 | 0=>h
 | k+1=>hN (itH h k)
def zhh(m:By)(i h:Int):Nat→Int
 | 0=>0
 | k+1=>IntKind.u64.wrap (IntKind.u64.wrap (zhh m i h k*256)+byM m (itI m.length i k) (itH h k))
def zk1(m:By)(i h:Int):Nat→By
 | 0=>[]
 | k+1=>zk1 m i h k++[byM m (itI m.length i k) (itH h k)]
def yjl(m:By)(i h:Int)(o:Bool):LoopS where
 α:=Nat
 I k:=k≤8
 sl k:=slots 18 [(0,.ptr 0 0),(3,.v (.int .u64 (zhh m i h k))),(4,.v (.int .i64 (k:Int)))]
 H k:=[.fix (zll m.length (itI m.length i k) (itH h k)) true (some 244),.arr [.i .u8] m o]
 fams:=[{ β:=Unit,out:=fun _ _=>True,ex := .ext 0,sl:=fun _=>slots 18 [(3,.v (.int .u64 (zhh m i h 8)))],H:=fun _=>[.fix (zll m.length (itI m.length i 8) (itH h 8)) true (some 244),.arr [.i .u8] m o] }]
def ycp(m:By)(i h:Int)(k:Nat):Prop:=zax Tryz.prog FQ1 (.one 3 (yjl m i h false)) 2 (zai Tryz.f181 0) (yjl m i h false) (fun k:Nat=>8-k) k
def ynl(m:By)(i h:Int):Prop:=znh Tryz.prog FQ1 (.one 3 (yjl m i h false)) Tryz.f181 [.ptr 0 0] [.fix (zll m.length i h) true (some 244),.arr [.i .u8] m false] (.v (.int .u64 (zhh m i h 8))) [.fix (zll m.length (itI m.length i 8) (itH h 8)) true (some 244),.arr [.i .u8] m false]
set_option linter.unusedVariables false
theorem zq2(m:By)(i h:Int)(k:Nat):ycp m i h k=(
 (decide ((↑k:Int)<(8:Int))=true →
     (List.length m=List.length m∧zbe m (itI (List.length m) i k)) ∧
       ∃(y:Nat),
         (zhh m i h y=IntKind.u64.wrap (IntKind.u64.wrap (zhh m i h k*(256:Int))+IntKind.u64.wrap (byM m (itI (List.length m) i k) (itH h k))) ∧
             (↑y:Int)=IntKind.i64.wrap ((↑k:Int)+(1:Int)) ∧
               (0:Nat)=(0:Nat)∧List.length m=List.length m∧itI (List.length m) i y=iN (List.length m) (itI (List.length m) i k)∧itH h y=hN (itH h k)∧m=m) ∧
           y≤(8:Nat)∧(8:Nat)-y<(8:Nat)-k∧∀(z:Unit),True→True) ∧
   (decide ((↑k:Int)<(8:Int))=false →
     ∃(z:Unit),
       (zhh m i h (8:Nat)=zhh m i h k∧(0:Nat)=(0:Nat)∧List.length m=List.length m∧itI (List.length m) i (8:Nat)=itI (List.length m) i k∧itH h (8:Nat)=itH h k∧m=m) ∧
         True)):=by kernel_rfl
theorem zx7(m:By)(i h:Int):ynl m i h=(
 ∃(x:Nat),
   (zhh m i h x=(0:Int)∧(↑x:Int)=(0:Int)∧(0:Nat)=(0:Nat)∧List.length m=List.length m∧itI (List.length m) i x=i∧itH h x=h∧m=m) ∧
     x≤(8:Nat) ∧
       ∀(z:Unit),
         True →
           zhh m i h (8:Nat)=zhh m i h (8:Nat) ∧
             (0:Nat)=(0:Nat)∧List.length m=List.length m∧itI (List.length m) i (8:Nat)=itI (List.length m) i (8:Nat)∧itH h (8:Nat)=itH h (8:Nat)∧m=m):=by kernel_rfl
set_option linter.unusedSimpArgs false
theorem ye3{n:Nat}{i:Int}(h0:0≤i)(h1:i≤n):∀k:Nat,0≤itI n i k∧itI n i k≤n
 | 0=>⟨h0,h1⟩
 | k+1=>by
  obtain⟨a,b⟩:=ye3 h0 h1 k
  unfold itI iN
  split
  · omega
  · exact⟨a,b⟩
theorem zro{m:By}{i:Int}(h:zbe m i)(k:Nat):zbe m (itI m.length i k):=⟨h.1,(ye3 h.2.1 h.2.2 k).1,(ye3 h.2.1 h.2.2 k).2⟩
def yjm:Sum:=fun args H=>match args,H with
 | [.ptr 0 0],[.fix [.sl 1 1 0 n,.v (.int .i64 i),.v (.int .i64 h)] true (some 244),.arr sh m false] =>
  if e:sh=[.i .u8] then some (some (n=(e ▸ m:List (El [.i .u8])).length∧zbe (e ▸ m:List (El [.i .u8])) i),.v (.int .u64 (zhh (e ▸ m:List (El [.i .u8])) i h 8)),[.fix (zll n (itI n i 8) (itH h 8)) true (some 244),.arr [.i .u8] (e ▸ m:List (El [.i .u8])) false]) else none
 | _,_=>none
theorem zyd:Sound Tryz.prog 181 yjm:=by
 refine zgb mixed Tryz.func181 (by kernel_rfl) (b:=zai Tryz.f181 0) (k:=3) (by kernel_rfl) (by kernel_rfl) (by kernel_rfl) yc5 (fun args H p v H' h hp => ?_)
 unfold yjm at h
 split at h
 case h_2=>cases h
 rename_i n i hh sh m
 split at h
 case isFalse=>cases h
 rename_i hsh
 subst hsh
 simp only[Option.some.injEq,Prod.mk.injEq] at h
 obtain⟨rfl,rfl,rfl⟩:=h
 obtain⟨rfl,hc⟩:n=m.length∧zbe m i:=hp
 refine⟨.one 3 (yjl m i hh false),yjl m i hh false,fun k:Nat=>8-k,zby _ _,fun  (k:Nat) hk=>zah (zq2 m i hh k) ⟨fun q => ?_,fun q => ?_⟩,zah (zx7 m i hh) ⟨0,⟨rfl,rfl,rfl,rfl,rfl,rfl,rfl⟩,by omega,fun _ _=>⟨rfl,rfl,rfl,rfl,rfl,rfl⟩⟩⟩
 · have q:(k:Int)<8:=of_decide_eq_true q
   have hb:=zlh m (itI m.length i k) (itH hh k)
   have e:IntKind.i64.wrap ((k:Int)+1)=((k+1:Nat):Int):=by rw[zaa (by omega) (by omega)];omega
   rw[e,zar (n:=byM m (itI m.length i k) (itH hh k)) (by omega) (by omega)]
   exact⟨⟨rfl,zro hc k⟩,k+1,⟨rfl,rfl,rfl,rfl,rfl,rfl,rfl⟩,by omega,by omega,fun _ _=>trivial⟩
 · have q:¬ (k:Int)<8:=of_decide_eq_false q
   have hk:k≤8:=hk
   have:k=8:=by omega
   subst this
   exact⟨(),⟨rfl,rfl,rfl,rfl,rfl,rfl⟩,trivial⟩
end Go.Proofs.YtfiddfbagbaofaaGreat.V
