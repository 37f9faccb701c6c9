/- Reading and writing a memory answer as their models; the law on writing returns true. Conditions: those in each statement. -/
import Derived.Test.YtfiddfbagbaofaaGreatGB
import Derived.KernelRfl
namespace Go.Proofs.YtfiddfbagbaofaaGreat.V
open Go
def FB1:Dict:=mkD kB1 [] []
def yko(m:By)(a w:Int):Prop:=zal Tryz.prog FB1 .none Tryz.f226 [byP,u64,i64] [bl] (m,a,w) (zso m a w)
def kB2:Known:=[
 (226,zai [byP,u64,i64] [bl] (fun t=>some (SzR t.1.length)) (fun t=>zso t.1 t.2.1 t.2.2))]++kB1
def FB2:Dict:=mkD kB2 [] []
def ypb(m:By)(a w:Int):Prop:=zal Tryz.prog FB2 .none Tryz.f192 [byP,u64,i64] [rrP] (m,a,w) (zbc m a w)
def kB3:Known:=[
 (192,zai [byP,u64,i64] [rrP] (fun t=>some (zaj t.1∧U64 t.2.1)) (fun t=>zbc t.1 t.2.1 t.2.2))]++kB2
set_option linter.unusedVariables false
theorem zu8(m:By)(a w:Int):yko m a w=(
 ((bif bif bif w != 1 then w != 2 else false then w != 4 else false then w != 8 else false)=true→zso m a w=false∧m=m) ∧
   ((bif bif bif w != 1 then w != 2 else false then w != 4 else false then w != 8 else false)=false →
     (List.length m=List.length m∧SzR (List.length m)∧(0:PmT [i64])≤w)∧zso m a w=zgg m a w∧m=m)):=by kernel_rfl
theorem zy2(m:By)(a w:Int):ypb m a w=(
 let A0(a:Int):=IntKind.i64.wrap a;
 let A1(a:Int):=(A0 a).toNat;
 let A2:=List.length m;
 let A3:=List.take (A1 (A0 a+w)-A1 a) (List.drop ((0:Nat)+A1 a) m);
 let A4(b:Bool)(c:Prop):=(!zso m a w)=b→c;
 let A5(b:Bool)(c:Int):=(zbc m a w).1=b∧(zbc m a w).2=c∧m=m;
 (A2=A2∧SzR A2)∧A4 true (A5 false 0)∧A4 false (((0:Int)≤A0 a∧A0 a≤A0 (A0 a+w)∧A0 (A0 a+w)≤(↑A2:Int))∧((0:Nat)+A1 a+(A1 (A0 a+w)-A1 a)≤A2∧zaj A3∧A3.length≤8)∧A5 true (zbq A3))):=by kernel_rfl
set_option linter.unusedSimpArgs false
theorem yp1:DictOk Tryz.prog FB1:=zay yg5 .nil .nil
theorem yys{w:Int}(h:gwM w=true):1≤w∧w≤8:=by
 simp only[gwM,Bool.or_eq_true,beq_iff_eq] at h
 omega
theorem yat{m:By}{a w:Int}(hm:zaj m)(ha:U64 a)(h:zso m a w=true):zsq m a w:=by
 simp only[zso,zgg,Bool.and_eq_true,decide_eq_true_eq] at h
 have:=yys h.1
 exact⟨hm,ha.1,by omega,by omega,by omega⟩
theorem yhd:Sound Tryz.prog 226 (zai [byP,u64,i64] [bl] (fun t=>some (SzR t.1.length)) (fun t=>zso t.1 t.2.1 t.2.2)):=by
 refine zad mixed Tryz.func226 (by kernel_rfl) (by kernel_rfl) yp1 (fun t h => ?_)
 obtain⟨m,a,w⟩:By × Int × Int:=t
 have h:SzR m.length:=h
 refine zab (zu8 m a w) ?_
 have e:(bif bif bif w != 1 then w != 2 else false then w != 4 else false then w != 8 else false) = !gwM w:=by
  unfold gwM
  simp only[Bool.cond_false_right,Bool.not_or,bne]
 rw[e]
 refine⟨fun g => ?_,fun g => ?_⟩
 · have g:gwM w=false:=by simpa using g
   exact⟨by simp[zso,g],rfl⟩
 · have g:gwM w=true:=by simpa using g
   have:=yys g
   exact⟨⟨rfl,h,by show (0:Int)≤w;omega⟩,by simp[zso,g],rfl⟩
theorem yqu:zar Tryz.prog kB2 := .cons (by kernel_rfl) yhd <| yg5
theorem yxb:DictOk Tryz.prog FB2:=zay yqu .nil .nil
theorem yn4:Sound Tryz.prog 192 (zai [byP,u64,i64] [rrP] (fun t=>some (zaj t.1∧U64 t.2.1)) (fun t=>zbc t.1 t.2.1 t.2.2)):=by
 refine zad mixed Tryz.func192 (by kernel_rfl) (by kernel_rfl) yxb (fun t h => ?_)
 obtain⟨m,a,w⟩:By × Int × Int:=t
 obtain⟨h1,h2⟩:zaj m∧U64 a:=h
 have hs:=h1.1
 unfold SzR at hs
 refine zab (zy2 m a w) ?_
 conv=>zeta
 refine⟨⟨rfl,h1.1⟩,fun e => ?_,fun e => ?_⟩
 · have e:zso m a w=false:=by simpa using e
   simp[zbc,e]
 · have e:zso m a w=true:=by simpa using e
   obtain⟨_,g1,g2,g3,g4⟩:=yat h1 h2 e
   have e1:IntKind.i64.wrap a=a:=zaa (by omega) (by omega)
   have e2:IntKind.i64.wrap (a+w)=a+w:=zaa (by omega) (by omega)
   rw[e1,e2,show (a+w).toNat-a.toNat=w.toNat by omega,Nat.zero_add]
   refine⟨⟨by omega,by omega,by omega⟩,⟨by omega,⟨?_,fun b hb=>h1.2 b (List.mem_of_mem_drop (List.mem_of_mem_take hb))⟩,by simp;omega⟩,by simp[zbc,e],by simp[zbc,e],rfl⟩
   unfold SzR
   simp
   omega
theorem zei:zar Tryz.prog kB3 := .cons (by kernel_rfl) yn4 <| yqu
theorem wf_u8{n:Int}(h:(Lit.int .u8 n).wf=true):0≤n∧n<256:=by
 simp only[Lit.wf,Bool.and_eq_true,decide_eq_true_eq] at h
 have h1:(0:Int)≤n:=h.1
 have h2:n≤255:=h.2
 exact⟨h1,by omega⟩
theorem ypv{m:By}(h:WfC (.sl [.i .u8]) m):∀b ∈ m,0≤b∧b<256:=fun b hb=>wf_u8 (h.2 b hb)
end Go.Proofs.YtfiddfbagbaofaaGreat.V
