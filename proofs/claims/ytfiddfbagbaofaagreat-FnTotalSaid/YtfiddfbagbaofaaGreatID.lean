/- The program's step: a whole step. Conditions: those in each statement. -/
import Derived.Test.YtfiddfbagbaofaaGreatIC
import Derived.Test.YtfiddfbagbaofaaGreatV4
import Derived.KernelRfl
namespace Go.Proofs.YtfiddfbagbaofaaGreat.V
open Go
def rnS(M:Tm)(pan:Bool):Sum:=fun args H=>match args with
 | [.ptr 0 0]=>match ytt H with
  | some (n,r,R1,R2,c,nx,X)=>some (some (M.is X R1 R2∧n=r.ln∧zil M r c∧(match pan with|false=>(zco M r c nx).1=0|true=>¬ (zco M r c nx).1=0)),
   (match pan with|false => .tup []|true=>zjz (zco M r c nx).1 (zco M r c nx).2.1),(match pan with|false=>zh5 M (zco M r c nx).2.2.1 c (zco M r c nx).2.2.2|true=>paH M (zco M r c nx).2.2.1))
  | none=>none
 | _=>none
def kID0(M:Tm):Known:=[(175,ctxS),(177,rnS M false)]
def ysm(M:Tm):Dict:=mkD (kID0 M) [] [(177,(1,fun _=>rnS M true))]
def cHd:Code→Code | .seq a _=>a|c=>c
def cTl:Code→Code | .seq _ b=>b|c=>c
def cOps:Code→Array Oper | .region _ ops _=>ops|_ => #[]
noncomputable def spA:Code:=cHd (zau Tryz.f72)
noncomputable def spB:Code:=cHd (cTl (zau Tryz.f72))
noncomputable def spC:Code:=cHd (cTl (cTl (zau Tryz.f72)))
noncomputable def spR:Code:=cTl (cTl (cTl (zau Tryz.f72)))
noncomputable def spG:Code:=cHd (zau Tryz.f176)
noncomputable def spT:Code:=cTl (zau Tryz.f176)
def trZ(c v:Int):Blk := .fix [.v (.int .i64 c),.v (.int .u64 v)] true (some 127)
def bxH:Blk := .fix [.ptr 0 0] true (some 117)
def spD(M:Tm)(r:Hn):Heap:=h8 M r 0++[bxH,trZ 0 0,.fix [.ptr 0 0,.v (.int .i64 r.mo),.v (.bool r.su),.v (.bool r.mx),.v (.int .u64 r.sa),.opq [0,6] M.X,.v (.int .u64 0)] true (some 238)]
def yed(M:Tm)(r:Hn)(c v:Int):Heap:=h8 M r 0++[bxH,trZ c v,.dead]
def yz5:List Av:=slots 19 [(2,.ptr 8 0),(4,.ptr 9 0),(5,.ptr 10 0)]
def yz6:List Av:=yz5.set 11 (.fn 176 [.ptr 9 0,.ptr 8 0])
def zlz(M:Tm)(r:Hn):Prop:=zoo Tryz.prog (ysm M) 8 spA (yvu (fun sl H=>vcC Tryz.prog (ysm M) .none 8 spB (fitK 8 yz5 (spD M r)) sl H) (fitK 8 yz5 (spD M r))) (zc0 Tryz.f72 [.ptr 0 0,.opq [0,6] M.X]) (h8 M r 0)
def zn5(M:Tm)(r z:Hn):Prop:=zoo Tryz.prog (ysm M) 11 spR (endK 11 4 9 false .any (yed M z 0 0)) yz6 (spD M r)
def zn6(M:Tm)(r z:Hn)(e v:Int):Prop:=zoo Tryz.prog (ysm M) 11 spR (endK 11 4 9 true (zjz e v) (yed M z 0 0)) yz6 (spD M r)
noncomputable def cloS(V:Av):List Av:=((zc0 Tryz.f176 [.ptr 9 0,.ptr 8 0]).set 5 V).set 2 V
def yfg(z:Hn)(e v:Int):Hn:={ z with ep:=z.pc,em:=z.mo,ca:=e,tl:=v,mo:=2,pc:=z.tv }
def zn7(M:Tm)(z:Hn):Prop:=zoo Tryz.prog (ysm M) 11 spT (yta 11 (yed M z 0 0)) (cloS (.v .nilIface)) (yed M z 0 0)
def zn8(M:Tm)(z:Hn)(e v:Int):Prop:=zoo Tryz.prog (ysm M) 11 spT (yta 11 (yed M (yfg z e v) e v)) (cloS (zjz e v)) (yed M z 0 0)
def ypn(M:Tm)(z:Hn)(c v:Int):Prop:=zf3 8 [.agg [.v (.int .i64 c),.v (.int .u64 v)]] (h8 M z 0) [.agg [.v (.int .i64 c),.v (.int .u64 v)]] (yed M z c v)
def zeu(M:Tm)(r:Hn):Int × Int × Hn:=if (zco M r r.c 0).1=0 then (0,0,{ (zco M r r.c 0).2.2.1 with pc:=(zco M r r.c 0).2.2.2 }) else ((zco M r r.c 0).1,(zco M r r.c 0).2.1,yfg (zco M r r.c 0).2.2.1 (zco M r r.c 0).1 (zco M r r.c 0).2.1)
def spS(M:Tm):Sum:=fun args H=>match args with
 | [.ptr 0 0,.opq [0,6] X]=>match get8 0 H with
  | some (n,r,R1,R2)=>some (some (M.is X R1 R2∧n=r.ln∧zil M r r.c),.agg [.v (.int .i64 (zeu M r).1),.v (.int .u64 (zeu M r).2.1)],h8 M (zeu M r).2.2 0)
  | none=>none
 | _=>none
set_option linter.unusedVariables false
set_option maxRecDepth 10000
theorem zzh(M:Tm)(r:Hn):zlz M r=(
 let A0(a:Tl):=List.length a.2.2;
 let A1:=r.13.2.2;
 let A2:=r.13.1;
 let A3:=(0:Nat)=0;
 let A4:=r.13.2.1;
 let A5(a b c d e f g h i:Prop):=a∧b∧c∧d∧e∧f∧g∧h∧i;
 let A6:=(0:Int)=0;
 let A7:=(List.length r.1,List.length r.2,A0 A2,A0 A4,A0 A1);
 A7=A7∧A3∧List.length r.1=List.length r.1∧A5 A3 (List.length r.2=List.length r.2) (r.3=r.3) (r.4=r.4) (r.5=r.5) (r.6=r.6) (r.7=r.7) (r.8=r.8) (A5 (r.9=r.9) (r.10=r.10) (r.11=r.11) (r.12=r.12) (A2.1=A2.1)
  (A2.2.1=A2.2.1) A3 (A0 A2=A0 A2) (A5 (A4.1=A4.1) (A4.2.1=A4.2.1) A3 (A0 A4=A0 A4) (A1.1=A1.1) (A1.2.1=A1.2.1) A3 (A0 A1=A0 A1) (A5 (r.1=r.1) (r.2=r.2) (A2.2.2=A2.2.2) (A4.2.2
  = A4.2.2) (A1.2.2=A1.2.2) (r.14=r.14) (M.2=M.2) (r.15=r.15) (A5 (M.3=M.3) A6 A6 (r.4=r.4) (r.5=r.5) (r.6=r.6) (r.7=r.7) (M.1=M.1) A6))))):=by kernel_rfl
theorem zvx(M:Tm)(r z:Hn):zn5 M r z=(
 let A0(a:Tl):=List.length a.2.2;
 let A1(a:Hn):=List.length a.2;
 let A2(a:Hn):=List.length a.1;
 let A3:=zco M r (r.4,r.5,r.6,r.7) 0;
 let A4(a:Hn):=a.13.2.2;
 let A5(a:Hn):=a.13.1;
 let A6(a:Hn):=a.13.2.1;
 let A7(a b c:Prop):=a∧b∧c;
 let A8(a b c d e:Prop):=A7 a b (A7 c d e);
 let A9:=(A2 r,A1 r,A0 (A5 r),A0 (A6 r),A0 (A4 r));
 let Aa:=A3.2.2.1;
 let Ab(a:Tl):=a.2.1;
 let Ac:=(0:Int)=0;
 let Ad:=(0:Nat)=0;
 let Ae(a:Tl):=a.2.2;
 let Af:=A7 (M.1=M.1) (M.2=M.2) (M.3=M.3)∧A7 (A9=A9) (zil M r (r.4,r.5,r.6,r.7)) (¬A3.1=0);
 let Ah:=A7 (M.1=M.1) (M.2=M.2) (M.3=M.3)∧A7 (A9=A9) (zil M r (r.4,r.5,r.6,r.7)) (A3.1=0);
 A7 (Ah∨Af) (Ah→A8 Ad (A2 z=A2 Aa) Ad (A1 z=A1 Aa) (A8 (z.3=A3.2.2.2) (z.4=Aa.4) (z.5=Aa.5) (z.6=Aa.6) (A8 (z.7=Aa.7) (z.8=Aa.8) (z.9=Aa.9) (z.10=Aa.10) (A8 (z.11=Aa.11) (z.12=Aa.12) ((A5 z).1=(A5
  Aa).1) (Ab (A5 z)=Ab (A5 Aa)) (A8 Ad (A0 (A5 z)=A0 (A5 Aa)) ((A6 z).1=(A6 Aa).1) (Ab (A6 z)=Ab (A6 Aa)) (A8 Ad (A0 (A6 z)=A0 (A6 Aa)) ((A4 z).1=(A4 Aa).1) (Ab (A4 z)=Ab (A4 Aa)) (A8 Ad (A0 (A4 z)=A0 (A4 Aa)) (z.1 =
  Aa.1) (z.2=Aa.2) (A8 (Ae (A5 z)=Ae (A5 Aa)) (Ae (A6 z)=Ae (A6 Aa)) (Ae (A4 z)=Ae (A4 Aa)) (z.14=Aa.14) (A8 (M.2=M.2) (z.15=Aa.15) (M.3=M.3) Ac Ac))))))))) (Af→False)):=by kernel_rfl
theorem zvy(M:Tm)(r z:Hn)(e v:Int):zn6 M r z e v=(
 let A0(a:Tl):=List.length a.2.2;
 let A1(a:Hn):=List.length a.2;
 let A2(a:Hn):=List.length a.1;
 let A3(a:Hn):=a.13.2.2;
 let A4(a:Hn):=a.13.1;
 let A5(a:Hn):=a.13.2.1;
 let A6(a b c:Prop):=a∧b∧c;
 let A7(a:Int):=a=0;
 let A8(a b c d e:Prop):=A6 a b (A6 c d e);
 let A9:=(A2 r,A1 r,A0 (A4 r),A0 (A5 r),A0 (A3 r));
 let Aa:=(zco M r (r.4,r.5,r.6,r.7) 0).2.2.1;
 let Ab(a:Tl):=a.2.1;
 let Ac:=(0:Nat)=0;
 let Ad(a:Tl):=a.2.2;
 let Ae:=(r.4,r.5,r.6,r.7);
 let Af:=(zco M r Ae 0).1;
 let Ah(a b:Int):=some (Value.iface (127:TypeId) (Value.agg ({ toList:=(Value.int IntKind.i64 a::Value.int IntKind.u64 b::[]) })));
 let Ai:=A6 (M.1=M.1) (M.2=M.2) (M.3=M.3)∧A6 (A9=A9) (zil M r Ae) (¬A7 Af);
 let Aj:=A6 (M.1=M.1) (M.2=M.2) (M.3=M.3)∧A6 (A9=A9) (zil M r Ae) (A7 Af);
 A6 (Aj∨Ai) (Aj→False) (Ai→Ah e v=Ah Af (zco M r Ae 0).2.1∧A8 Ac (A2 z=A2 Aa) Ac (A1 z=A1 Aa) (A8 (z.3=Aa.3) (z.4=Aa.4) (z.5=Aa.5) (z.6=Aa.6) (A8 (z.7=Aa.7) (z.8=Aa.8) (z.9=Aa.9) (z.10=Aa.10) (A8
  (z.11=Aa.11) (z.12=Aa.12) ((A4 z).1=(A4 Aa).1) (Ab (A4 z)=Ab (A4 Aa)) (A8 Ac (A0 (A4 z)=A0 (A4 Aa)) ((A5 z).1=(A5 Aa).1) (Ab (A5 z)=Ab (A5 Aa)) (A8 Ac (A0 (A5 z)=A0 (A5 Aa)) ((A3 z).1=(A3 Aa).1) (Ab (A3 z)=Ab
  (A3 Aa)) (A8 Ac (A0 (A3 z)=A0 (A3 Aa)) (z.1=Aa.1) (z.2=Aa.2) (A8 (Ad (A4 z)=Ad (A4 Aa)) (Ad (A5 z)=Ad (A5 Aa)) (Ad (A3 z)=Ad (A3 Aa)) (z.14=Aa.14) (A8 (M.2=M.2) (z.15=Aa.15) (M.3=M.3) (A7 0) (A7 (0 :
  Int)))))))))))):=by kernel_rfl
theorem zvz(M:Tm)(z:Hn):zn7 M z=(
 let A0(a:Tl):=List.length a.2.2;
 let A1(a b c d e:Prop):=a∧b∧c∧d∧e;
 let A2:=(0:Nat)=0;
 let A3(a:Tl):=a.2.2;
 let A4(a:Tl):=a.2.1;
 let A5(a:Int):=a=0;
 let A6:=z.13.2.1;
 let A7:=z.13.1;
 let A8:=z.13.2.2;
 let A9(a:Bool)(b:Prop)(c d e f:Int)(g h:Prop):=((!a)=true→b)∧((!a)=false→A1 A2 (List.length z.1=List.length z.1) A2 (List.length z.2=List.length z.2) (A1 (z.3=c) (z.4=d) (z.5=z.5) (z.6=z.6) (A1 (z.7 =
  z.7) (z.8=z.8) (z.9=e) (z.10=f) (A1 g h (A7.1=A7.1) (A4 A7=A4 A7) (A1 A2 (A0 A7=A0 A7) (A6.1=A6.1) (A4 A6=A4 A6) (A1 A2 (A0 A6=A0 A6) (A8.1=A8.1) (A4 A8=A4 A8) (A1 A2 (A0 A8=A0 A8) (z.1=z.1) (z.2=z.2)
  (A1 (A3 A7=A3 A7) (A3 A6=A3 A6) (A3 A8=A3 A8) (z.14=z.14) (A1 (M.2=M.2) (z.15=z.15) (M.3=M.3) (A5 0) (A5 0))))))))));
 A9 true (A9 false False z.8 2 z.3 z.4 (A5 z.11) (A5 z.12)) z.3 z.4 z.9 z.10 (z.11=z.11) (z.12=z.12)):=by kernel_rfl
theorem zv0(M:Tm)(z:Hn)(e v:Int):zn8 M z e v=(
 let A0:=z.13.2.2;
 let A1:=z.13.1;
 let A2(a:Tl):=List.length a.2.2;
 let A3(a b c d e:Prop):=a∧b∧c∧d∧e;
 let A4:=z.13.2.1;
 let A5:=(0:Nat)=0;
 let A6(a:Tl)(b c:Int)(d:Prop):=A3 A5 (A2 a=A2 a) (b=b) (c=c) d;
 ((!true)=true→False)∧((!true)=false→A3 A5 (List.length z.1=List.length z.1) A5 (List.length z.2=List.length z.2) (A3 (z.8=z.8) ((2:Int)=2) (z.5=z.5) (z.6=z.6) (A3 (z.7=z.7) (z.8=z.8) (z.3=z.3) (z.4 =
  z.4) (A3 (e=e) (v=v) (A1.1=A1.1) (A1.2.1=A1.2.1) (A6 A1 A4.1 A4.2.1 (A6 A4 A0.1 A0.2.1 (A3 A5 (A2 A0=A2 A0) (z.1=z.1) (z.2=z.2) (A3 (A1.2.2=A1.2.2) (A4.2.2=A4.2.2) (A0.2.2 =
  A0.2.2) (z.14=z.14) (A3 (M.2=M.2) (z.15=z.15) (M.3=M.3) (e=e) (v=v))))))))))):=by kernel_rfl
theorem zzi(M:Tm)(z:Hn)(c v:Int):ypn M z c v=(
 let A0:=z.13.2.2;
 let A1:=z.13.1;
 let A2(a:Tl):=List.length a.2.2;
 let A3(a b c d e:Prop):=a∧b∧c∧d∧e;
 let A4:=z.13.2.1;
 let A5:=(0:Nat)=0;
 let A6(a b:Int)(c:Tl)(d:Prop):=A3 (a=a) (b=b) A5 (A2 c=A2 c) d;
 A3 (c=c) (v=v) A5 (List.length z.1=List.length z.1) (A3 A5 (List.length z.2=List.length z.2) (z.3=z.3) (z.4=z.4) (A3 (z.5=z.5) (z.6=z.6) (z.7=z.7) (z.8=z.8) (A3 (z.9=z.9) (z.10=z.10) (z.11=z.11) (z.12=z.12) (A6
  A1.1 A1.2.1 A1 (A6 A4.1 A4.2.1 A4 (A3 (A0.1=A0.1) (A0.2.1=A0.2.1) A5 (A2 A0=A2 A0) (A3 (z.1=z.1) (z.2=z.2) (A1.2.2=A1.2.2) (A4.2.2=A4.2.2) (A3 (A0.2.2=A0.2.2) (z.14=z.14)
  (M.2=M.2) (z.15=z.15) (M.3=M.3)))))))))):=by kernel_rfl
set_option linter.unusedSimpArgs false
set_option linter.unusedVariables false
theorem yzu{M:Tm}(hM:M.Ok Tryz.prog)(pan:Bool):zcp Tryz.prog (zw7 pan) 177 (rnS M pan):=by
 refine zek mixed Tryz.func177 (by kernel_rfl) pan (ysl hM) (fun args H p v H' h hp => ?_)
 unfold rnS at h
 split at h
 case h_2=>cases h
 split at h
 case h_2=>cases h
 rename_i n r R1 R2 c nx X hg
 simp only[Option.some.injEq,Prod.mk.injEq] at h
 obtain⟨rfl,rfl,rfl⟩:=h
 obtain⟨hx,hn,hf,hc⟩:=hp
 obtain rfl:=zmq hg hn hx
 obtain⟨c0,c1,c2,c3⟩:=c
 refine⟨runX M (c0,c1,c2,c3),[⟨false,.tup [],zh5 M (zco M r (c0,c1,c2,c3) nx).2.2.1 (c0,c1,c2,c3) (zco M r (c0,c1,c2,c3) nx).2.2.2,(zco M r (c0,c1,c2,c3) nx).1=0⟩,⟨true,zjz (zco M r (c0,c1,c2,c3) nx).1 (zco M r (c0,c1,c2,c3) nx).2.1,paH M (zco M r (c0,c1,c2,c3) nx).2.2.1,¬ (zco M r (c0,c1,c2,c3) nx).1=0⟩],zd5 (by kernel_rfl),yzw hM hf rfl,fun o ho hout => ?_⟩
 simp only[List.mem_cons,List.not_mem_nil,or_false] at ho
 rcases ho with rfl|rfl
 · cases pan with
   | false=>exact⟨rfl,rfl,rfl⟩
   | true=>exact absurd hout hc
 · cases pan with
   | false=>exact absurd hc hout
   | true=>exact⟨rfl,rfl,rfl⟩
theorem yt8{M:Tm}(hM:M.Ok Tryz.prog):zar Tryz.prog (kID0 M) := .cons (by kernel_rfl) yx5 (.cons (by kernel_rfl) (yzu hM false) .nil)
theorem yel{M:Tm}(hM:M.Ok Tryz.prog):DictOk Tryz.prog (ysm M):=zay (yt8 hM) .nil (.cons (by kernel_rfl) (fun _=>yzu hM true) .nil)
noncomputable def spO(c:Code)(i:Nat):Oper:=(cOps c)[i]?.getD default
theorem yrt:Rec1 Tryz.prog Tryz.f72 Tryz.f176 176 spA spB spR spT 2 0 (spO spC 0) (spO spC 1) (spO spG 0) (spO spG 1) 11 4 2 5 2 4 127 where
 hb:=by kernel_rfl
 hres:=by kernel_rfl
 o1d:=by kernel_rfl
 o1o:=by kernel_rfl
 o1g:=by kernel_rfl
 o2d:=by kernel_rfl
 o2o:=⟨#[],by kernel_rfl⟩
 o2g:=by kernel_rfl
 hg:=Tryz.func176
 hc:=by kernel_rfl
 gb:=by kernel_rfl
 gres:=by kernel_rfl
 p1d:=by kernel_rfl
 p1o:=⟨#[],by kernel_rfl⟩
 p1g:=by kernel_rfl
 p2d:=by kernel_rfl
 p2o:=by kernel_rfl
 p2g:=by kernel_rfl
 lA:=by kernel_rfl
 lB:=by kernel_rfl
 lR:=by kernel_rfl
 lT:=by kernel_rfl
theorem sp_A{M:Tm}{r:Hn}:zlz M r:=by
 refine zab (zzh M r) ?_
 conv=>zeta
 repeat' apply And.intro
 all_goals rfl
theorem sp_T0{M:Tm}{z:Hn}:zn7 M z:=by
 refine zab (zvz M z) ?_
 conv=>zeta
 refine⟨fun h=>(by cases h),fun _ => ?_⟩
 repeat' apply And.intro
 all_goals rfl
theorem sp_T1{M:Tm}{z:Hn}{e v:Int}:zn8 M z e v:=by
 refine zab (zv0 M z e v) ?_
 conv=>zeta
 refine⟨fun h=>(by cases h),fun _ => ?_⟩
 repeat' apply And.intro
 all_goals rfl
theorem sp_R0{M:Tm}{r:Hn}(h:zil M r r.c)(h0:(zco M r r.c 0).1=0):zn5 M r { (zco M r r.c 0).2.2.1 with pc:=(zco M r r.c 0).2.2.2 }:=by
 refine zab (zvx M r _) ?_
 conv=>zeta
 refine⟨.inl ⟨⟨rfl,rfl,rfl⟩,rfl,h,h0⟩,fun _ => ?_,fun q=>absurd h0 q.2.2.2⟩
 repeat' apply And.intro
 all_goals rfl
theorem sp_R1{M:Tm}{r:Hn}(h:zil M r r.c)(h0:¬ (zco M r r.c 0).1=0):zn6 M r (zco M r r.c 0).2.2.1 (zco M r r.c 0).1 (zco M r r.c 0).2.1:=by
 refine zab (zvy M r _ _ _) ?_
 conv=>zeta
 refine⟨.inr ⟨⟨rfl,rfl,rfl⟩,rfl,h,h0⟩,fun q=>absurd q.2.2.2 h0,fun _ => ?_⟩
 repeat' apply And.intro
 all_goals rfl
theorem yf6{M:Tm}{z:Hn}{c v:Int}:zf3 8 [.agg [.v (.int .i64 c),.v (.int .u64 v)]] (h8 M z 0) [.agg [.v (.int .i64 c),.v (.int .u64 v)]] (yed M z c v):=by
 refine zab (zzi M z c v) ?_
 conv=>zeta
 repeat' apply And.intro
 all_goals rfl
theorem sp_ok{M:Tm}(hM:M.Ok Tryz.prog):Sound Tryz.prog 72 (spS M):=by
 intro args H p v H' h hp ρ vs w hw
 unfold spS at h
 split at h
 case h_2=>cases h
 rename_i X
 split at h
 case h_2=>cases h
 rename_i n r R1 R2 hg
 simp only[Option.some.injEq,Prod.mk.injEq] at h
 obtain⟨rfl,rfl,rfl⟩:=h
 obtain⟨⟨rfl,h1,h2⟩,hn,hR⟩:=hp
 obtain rfl:=zki hg hn h1 h2
 unfold zeu
 by_cases h0:(zco M r r.c 0).1=0
 · rw[if_pos h0]
   exact zi8 (args:=[.ptr 0 0,.opq [0,6] M.X]) (H:=h8 M r 0) (HD:=spD M r) (HR:=yed M { (zco M r r.c 0).2.2.1 with pc:=(zco M r r.c 0).2.2.2 } 0 0) (HC:=yed M { (zco M r r.c 0).2.2.1 with pc:=(zco M r r.c 0).2.2.2 } 0 0) (H':=h8 M { (zco M r r.c 0).2.2.1 with pc:=(zco M r r.c 0).2.2.2 } 0) (av := .agg [.v (.int .i64 0),.v (.int .u64 0)]) (v := .agg [.v (.int .i64 0),.v (.int .u64 0)]) mixed Tryz.func72 yrt (yel hM) (slD:=yz5) (bi:=9) (bj:=8) (pan:=false) (X := .any) (show zlz M r from sp_A) (by kernel_rfl) (by kernel_rfl) (show 9<11 by decide) (show 8<11 by decide) (by kernel_rfl) (show zn5 M r { (zco M r r.c 0).2.2.1 with pc:=(zco M r r.c 0).2.2.2 } from sp_R0 hR h0) (show zn7 M { (zco M r r.c 0).2.2.1 with pc:=(zco M r r.c 0).2.2.2 } from sp_T0) (by kernel_rfl) (by kernel_rfl) yf6 hw
 · rw[if_neg h0]
   exact zi8 (args:=[.ptr 0 0,.opq [0,6] M.X]) (H:=h8 M r 0) (HD:=spD M r) (HR:=yed M (zco M r r.c 0).2.2.1 0 0) (HC:=yed M (yfg (zco M r r.c 0).2.2.1 (zco M r r.c 0).1 (zco M r r.c 0).2.1) (zco M r r.c 0).1 (zco M r r.c 0).2.1) (H':=h8 M (yfg (zco M r r.c 0).2.2.1 (zco M r r.c 0).1 (zco M r r.c 0).2.1) 0) (av := .agg [.v (.int .i64 (zco M r r.c 0).1),.v (.int .u64 (zco M r r.c 0).2.1)]) (v := .agg [.v (.int .i64 (zco M r r.c 0).1),.v (.int .u64 (zco M r r.c 0).2.1)]) mixed Tryz.func72 yrt (yel hM) (slD:=yz5) (bi:=9) (bj:=8) (pan:=true) (X:=zjz (zco M r r.c 0).1 (zco M r r.c 0).2.1) (show zlz M r from sp_A) (by kernel_rfl) (by kernel_rfl) (show 9<11 by decide) (show 8<11 by decide) (by kernel_rfl) (show zn6 M r (zco M r r.c 0).2.2.1 (zco M r r.c 0).1 (zco M r r.c 0).2.1 from sp_R1 hR h0) (show zn8 M (zco M r r.c 0).2.2.1 (zco M r r.c 0).1 (zco M r r.c 0).2.1 from sp_T1) (by kernel_rfl) (by kernel_rfl) yf6 hw
end Go.Proofs.YtfiddfbagbaofaaGreat.V
