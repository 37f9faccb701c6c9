/- Reading and writing a memory answer as their models; the law on writing returns true. Conditions: those in each statement. -/
import Derived.Test.YtfiddfbagbaofaaGreatGB
import Derived.KernelRfl
namespace Go.Proofs.YtfiddfbagbaofaaGreat.V
open Go
def FB1:Dict:=mkD kB1 [] []
def ykn(m:By)(a w:Int):Prop:=zag Tryz.prog FB1 .none Tryz.f226 [byP,u64,i64] [bl] (m,a,w) (zrz m a w)
def kB2:Known:=[
 (226,zad [byP,u64,i64] [bl] (fun t=>some (SzR t.1.length)) (fun t=>zrz t.1 t.2.1 t.2.2))]++kB1
def FB2:Dict:=mkD kB2 [] []
def yp3(m:By)(a w:Int):Prop:=zag Tryz.prog FB2 .none Tryz.f192 [byP,u64,i64] [rrP] (m,a,w) (za9 m a w)
def kB3:Known:=[
 (192,zad [byP,u64,i64] [rrP] (fun t=>some (zaz t.1∧U64 t.2.1)) (fun t=>za9 t.1 t.2.1 t.2.2))]++kB2
set_option linter.unusedVariables false
theorem zup(m:By)(a w:Int):ykn m a w=(
 ((bif bif bif w != (1:Int) then w != (2:Int) else false then w != (4:Int) else false then w != (8:Int) else false)=true→zrz m a w=false∧m=m) ∧
   ((bif bif bif w != (1:Int) then w != (2:Int) else false then w != (4:Int) else false then w != (8:Int) else false)=false →
     (List.length m=List.length m∧SzR (List.length m)∧(0:PmT [i64])≤w)∧zrz m a w=zf1 m a w∧m=m)):=by kernel_rfl
theorem zy1(m:By)(a w:Int):yp3 m a w=(
 let A0(a:Int):=IntKind.i64.wrap a;
 let A1(a:Int):=(A0 a).toNat;
 let A2:=List.length m;
 let A3:=List.take (A1 (A0 a+w)-A1 a) (List.drop ((0:Nat)+A1 a) m);
 let A4(b:Bool)(c:Prop):=(!zrz m a w)=b→c;
 let A5(b:Bool)(c:Int):=(za9 m a w).fst=b∧(za9 m a w).snd=c∧m=m;
 (A2=A2∧SzR A2)∧A4 true (A5 false (0:Int))∧A4 false (((0:Int)≤A0 a∧A0 a≤A0 (A0 a+w)∧A0 (A0 a+w)≤(↑A2:Int))∧((0:Nat)+A1 a+(A1 (A0 a+w)-A1 a)≤A2∧zaz A3∧A3.length≤(8:Nat))∧A5 true (zda A3))):=by kernel_rfl
set_option linter.unusedSimpArgs false
theorem yqu:DictOk Tryz.prog FB1:=zaw yro .nil .nil
theorem yza{w:Int}(h:gwM w=true):1≤w∧w≤8:=by
 simp only[gwM,Bool.or_eq_true,beq_iff_eq] at h
 omega
theorem yar{m:By}{a w:Int}(hm:zaz m)(ha:U64 a)(h:zrz m a w=true):zr0 m a w:=by
 simp only[zrz,zf1,Bool.and_eq_true,decide_eq_true_eq] at h
 have:=yza h.1
 exact⟨hm,ha.1,by omega,by omega,by omega⟩
theorem yhf:Sound Tryz.prog 226 (zad [byP,u64,i64] [bl] (fun t=>some (SzR t.1.length)) (fun t=>zrz t.1 t.2.1 t.2.2)):=by
 refine zab mixed Tryz.func226 (by kernel_rfl) (by kernel_rfl) yqu (fun t h => ?_)
 obtain⟨m,a,w⟩:By × Int × Int:=t
 have h:SzR m.length:=h
 refine zae (zup m a w) ?_
 have e:(bif bif bif w != 1 then w != 2 else false then w != 4 else false then w != 8 else false) = !gwM w:=by
  unfold gwM
  simp only[Bool.cond_false_right,Bool.not_or,bne]
 rw[e]
 refine⟨fun g => ?_,fun g => ?_⟩
 · have g:gwM w=false:=by simpa using g
   exact⟨by simp[zrz,g],rfl⟩
 · have g:gwM w=true:=by simpa using g
   have:=yza g
   exact⟨⟨rfl,h,by show (0:Int)≤w;omega⟩,by simp[zrz,g],rfl⟩
theorem yrp:zar Tryz.prog kB2 := .cons (by kernel_rfl) yhf <| yro
theorem yx1:DictOk Tryz.prog FB2:=zaw yrp .nil .nil
theorem yok:Sound Tryz.prog 192 (zad [byP,u64,i64] [rrP] (fun t=>some (zaz t.1∧U64 t.2.1)) (fun t=>za9 t.1 t.2.1 t.2.2)):=by
 refine zab mixed Tryz.func192 (by kernel_rfl) (by kernel_rfl) yx1 (fun t h => ?_)
 obtain⟨m,a,w⟩:By × Int × Int:=t
 obtain⟨h1,h2⟩:zaz m∧U64 a:=h
 have hs:=h1.1
 unfold SzR at hs
 refine zae (zy1 m a w) ?_
 conv=>zeta
 refine⟨⟨rfl,h1.1⟩,fun e => ?_,fun e => ?_⟩
 · have e:zrz m a w=false:=by simpa using e
   simp[za9,e]
 · have e:zrz m a w=true:=by simpa using e
   obtain⟨_,g1,g2,g3,g4⟩:=yar h1 h2 e
   have e1:IntKind.i64.wrap a=a:=zac (by omega) (by omega)
   have e2:IntKind.i64.wrap (a+w)=a+w:=zac (by omega) (by omega)
   rw[e1,e2,show (a+w).toNat-a.toNat=w.toNat by omega,Nat.zero_add]
   refine⟨⟨by omega,by omega,by omega⟩,⟨by omega,⟨?_,fun b hb=>h1.2 b (List.mem_of_mem_drop (List.mem_of_mem_take hb))⟩,by simp;omega⟩,by simp[za9,e],by simp[za9,e],rfl⟩
   unfold SzR
   simp
   omega
theorem zd6:zar Tryz.prog kB3 := .cons (by kernel_rfl) yok <| yrp
theorem zjl{n:Int}(h:(Lit.int .u64 n).wf=true):U64 n:=by
 simp only[Lit.wf,Bool.and_eq_true,decide_eq_true_eq] at h
 have h1:(0:Int)≤n:=h.1
 have h2:n≤18446744073709551615:=h.2
 exact⟨h1,by omega⟩
theorem zhd{n:Int}(h:(Lit.int .i64 n).wf=true):I64 n:=by
 simp only[Lit.wf,Bool.and_eq_true,decide_eq_true_eq] at h
 have h1:(-9223372036854775808:Int)≤n:=h.1
 have h2:n≤9223372036854775807:=h.2
 exact⟨h1,by omega⟩
theorem wf_u8{n:Int}(h:(Lit.int .u8 n).wf=true):0≤n∧n<256:=by
 simp only[Lit.wf,Bool.and_eq_true,decide_eq_true_eq] at h
 have h1:(0:Int)≤n:=h.1
 have h2:n≤255:=h.2
 exact⟨h1,by omega⟩
theorem yqo{m:By}(h:WfC (.sl [.i .u8]) m):∀b ∈ m,0≤b∧b<256:=fun b hb=>wf_u8 (h.2 b hb)
end Go.Proofs.YtfiddfbagbaofaaGreat.V
