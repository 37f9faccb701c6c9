/- The reference's step: its small parts; and that translating keeps a run in its kinds. Conditions: those in each statement. -/
import Derived.Test.YtfiddfbagbaofaaGreatEA
import Derived.Test.YtfiddfbagbaofaaGreatGZ
import Derived.Test.YtfiddfbagbaofaaGreatV3
import Derived.KernelRfl
namespace Go.Proofs.YtfiddfbagbaofaaGreat.V
open Go
abbrev Lk:=Int × Int
abbrev Ks:=List Lk
abbrev shL:List Ty:=[.i .i64,.i .u64]
abbrev ruC:List Cs:=[.sl [.i .u8],.sl [.i .u64],.i .u64,.i .i64,.b,.b,.i .u64,.i .u64,.i .u64,.i .i64,.i .i64,.i .u64,.i .i64,.i .i64,.sl shE,.i .i64,.i .i64,.sl shE,.i .i64,.i .i64,.sl shE,.b,.i .i64,.i .i64,.i .u64,.sl shL,.b,.b,.i .u64,.b,.i .u64]
abbrev ruP:Pm := .st ruC
abbrev RnT:=By × Us × Int × Int × Bool × Bool × Int × Int × Int × Int × Int × Int × Int × Int × Es × Int × Int × Es × Int × Int × Es × Bool × Int × Int × Int × Ks × Bool × Bool × Int × Bool × Int
structure Rn where
 m:By
 u:Us
 pc:Int
 mo:Int
 su:Bool
 mx:Bool
 sa:Int
 tv:Int
 ep:Int
 em:Int
 ca:Int
 tl:Int
 s1:Int
 w1:Int
 m1:Es
 s2:Int
 w2:Int
 m2:Es
 s3:Int
 w3:Int
 m3:Es
 pl:Bool
 pk:Int
 cs:Int
 tw:Int
 ks:Ks
 fd:Bool
 f1:Bool
 f2:Int
 f3:Bool
 f4:Int
def Rn.t(r:Rn):RnT:=(r.m,r.u,r.pc,r.mo,r.su,r.mx,r.sa,r.tv,r.ep,r.em,r.ca,r.tl,r.s1,r.w1,r.m1,r.s2,r.w2,r.m2,r.s3,r.w3,r.m3,r.pl,r.pk,r.cs,r.tw,r.ks,r.fd,r.f1,r.f2,r.f3,r.f4)
def Rn.of(x:RnT):Rn:=⟨x.1,x.2.1,x.2.2.1,x.2.2.2.1,x.2.2.2.2.1,x.2.2.2.2.2.1,x.2.2.2.2.2.2.1,x.2.2.2.2.2.2.2.1,x.2.2.2.2.2.2.2.2.1,x.2.2.2.2.2.2.2.2.2.1,x.2.2.2.2.2.2.2.2.2.2.1,x.2.2.2.2.2.2.2.2.2.2.2.1,x.2.2.2.2.2.2.2.2.2.2.2.2.1,x.2.2.2.2.2.2.2.2.2.2.2.2.2.1,x.2.2.2.2.2.2.2.2.2.2.2.2.2.2.1,x.2.2.2.2.2.2.2.2.2.2.2.2.2.2.2.1,x.2.2.2.2.2.2.2.2.2.2.2.2.2.2.2.2.1,x.2.2.2.2.2.2.2.2.2.2.2.2.2.2.2.2.2.1,x.2.2.2.2.2.2.2.2.2.2.2.2.2.2.2.2.2.2.1,x.2.2.2.2.2.2.2.2.2.2.2.2.2.2.2.2.2.2.2.1,x.2.2.2.2.2.2.2.2.2.2.2.2.2.2.2.2.2.2.2.2.1,x.2.2.2.2.2.2.2.2.2.2.2.2.2.2.2.2.2.2.2.2.2.1,x.2.2.2.2.2.2.2.2.2.2.2.2.2.2.2.2.2.2.2.2.2.2.1,x.2.2.2.2.2.2.2.2.2.2.2.2.2.2.2.2.2.2.2.2.2.2.2.1,x.2.2.2.2.2.2.2.2.2.2.2.2.2.2.2.2.2.2.2.2.2.2.2.2.1,x.2.2.2.2.2.2.2.2.2.2.2.2.2.2.2.2.2.2.2.2.2.2.2.2.2.1,x.2.2.2.2.2.2.2.2.2.2.2.2.2.2.2.2.2.2.2.2.2.2.2.2.2.2.1,x.2.2.2.2.2.2.2.2.2.2.2.2.2.2.2.2.2.2.2.2.2.2.2.2.2.2.2.1,x.2.2.2.2.2.2.2.2.2.2.2.2.2.2.2.2.2.2.2.2.2.2.2.2.2.2.2.2.1,x.2.2.2.2.2.2.2.2.2.2.2.2.2.2.2.2.2.2.2.2.2.2.2.2.2.2.2.2.2.1,x.2.2.2.2.2.2.2.2.2.2.2.2.2.2.2.2.2.2.2.2.2.2.2.2.2.2.2.2.2.2⟩
def Rn.h(r:Rn):Ha:=(r.m,r.u,r.pc,r.mo,r.su,r.mx,r.sa,r.tv,r.ep,r.em,r.ca,r.tl,r.s1,r.w1,r.m1,r.s2,r.w2,r.m2,r.s3,r.w3,r.m3)
def Rn.c(r:Rn):Ct:=(r.mo,r.su,r.mx,r.sa)
def Rn.k(r:Rn):Cf:=(r.s1,r.w1,r.m1,r.s2,r.w2,r.m2,r.s3,r.w3,r.m3)
def Rn.withK(r:Rn)(x:Cf):Rn:={ r with s1:=x.1,w1:=x.2.1,m1:=x.2.2.1,s2:=x.2.2.2.1,w2:=x.2.2.2.2.1,m2:=x.2.2.2.2.2.1,s3:=x.2.2.2.2.2.2.1,w3:=x.2.2.2.2.2.2.2.1,m3:=x.2.2.2.2.2.2.2.2 }
def zwb(r:Rn)(b:Nat):List Av:=[.sl b 1 0 r.m.length,.sl (b+1) 1 0 r.u.length,.v (.int .u64 r.pc),.v (.int .i64 r.mo),.v (.bool r.su),.v (.bool r.mx),.v (.int .u64 r.sa),.v (.int .u64 r.tv),.v (.int .u64 r.ep),.v (.int .i64 r.em),.v (.int .i64 r.ca),.v (.int .u64 r.tl),.v (.int .i64 r.s1),.v (.int .i64 r.w1),.sl (b+2) 6 0 r.m1.length,.v (.int .i64 r.s2),.v (.int .i64 r.w2),.sl (b+3) 6 0 r.m2.length,.v (.int .i64 r.s3),.v (.int .i64 r.w3),.sl (b+4) 6 0 r.m3.length,.v (.bool r.pl),.v (.int .i64 r.pk),.v (.int .i64 r.cs),.v (.int .u64 r.tw),.sl (b+5) 2 0 r.ks.length,.v (.bool r.fd),.v (.bool r.f1),.v (.int .u64 r.f2),.v (.bool r.f3),.v (.int .u64 r.f4)]
def yl4:List Av:=[.v (.slice none 0 0),.v (.slice none 0 0),.v (.int .u64 0),.v (.int .i64 0),.v (.bool false),.v (.bool false),.v (.int .u64 0),.v (.int .u64 0),.v (.int .u64 0),.v (.int .i64 0),.v (.int .i64 0),.v (.int .u64 0),.v (.int .i64 0),.v (.int .i64 0),.v (.slice none 0 0),.v (.int .i64 0),.v (.int .i64 0),.v (.slice none 0 0),.v (.int .i64 0),.v (.int .i64 0),.v (.slice none 0 0),.v (.bool false),.v (.int .i64 0),.v (.int .i64 0),.v (.int .u64 0),.v (.slice none 0 0),.v (.bool false),.v (.bool false),.v (.int .u64 0),.v (.bool false),.v (.int .u64 0)]
def yec(r:Rn):Heap:=[.arr [.i .u8] r.m true,.arr [.i .u64] r.u true,.arr shE r.m1 true,.arr shE r.m2 true,.arr shE r.m3 true,.arr shL r.ks true]
def RnR(r:Rn):Prop:=HaR r.h∧r.u.length=8∧SzR r.ks.length
def zd1(r:Rn)(c v:Int):Rn:={ r with cs:=c,tw:=v }
def zdr(r:Rn)(kind va:Int):Rn:={ r with ks:=r.ks++[(kind,va)] }
def yjo(r:Rn)(kind va:Int):Int × Int × Cf:=zom r.m r.c r.k kind va r.pk
def zao(r:Rn)(kind va:Int):Rn × Int × Int :=
 if r.pl=true then (zdr r kind va,zaw r.m r.c kind va) else ((zdr r kind va).withK (yjo r kind va).2.2,(yjo r kind va).1,(yjo r kind va).2.1)
def zb3(r:Rn)(a x:Int):Rn:={ r with u:=if 0<a then r.u.set a.toNat x else r.u }
def kEE0:Known:=[
 (160,zai [haP] [haP] (fun h=>some (SzH h)) (fun h=>h)),
 (161,zai [tlP,i64] [tlP] (fun t=>some (SzR t.1.2.2.length∧1≤t.1.2.2.length∧0≤t.2)) (fun t=>zcq t.1 t.2)),
 (163,zai [haP] [zg4] (fun _=>none) (fun h=>(h.2.2.2.1,h.2.2.2.2.1,h.2.2.2.2.2.1,h.2.2.2.2.2.2.1)))]
def kEE1:Known:=kEE0++kZ1++kO2
def yxe:Dict:=mkD kEE1 [] []
def yku(r:Rn)(c v:Int):Prop:=zi2 Tryz.prog yxe .none Tryz.f206 [ruP,i64,u64] [ruP] (r.t,c,v) (zd1 r c v).t
def ydk(r:Rn)(kind va:Int)(z:Rn)(e pa:Int):Prop:=zi2 Tryz.prog yxe .none Tryz.f207 [ruP,i64,u64] [ruP,trP] (r.t,kind,va) (z.t,e,pa)
def zyq(r:Rn)(a x:Int)(z:Us):Prop:=zi2 Tryz.prog yxe .none Tryz.f232 [ruP,i64,u64] [ruP] (r.t,a,x) { r with u:=z }.t
def kEE2:Known:=[
 (206,ztv [ruP,i64,u64] [ruP] (fun _=>none) (fun t=>(zd1 (Rn.of t.1) t.2.1 t.2.2).t)),
 (207,ztv [ruP,i64,u64] [ruP,trP] (fun t=>some (RnR (Rn.of t.1)∧U64 t.2.2)) (fun t=>((zao (Rn.of t.1) t.2.1 t.2.2).1.t,(zao (Rn.of t.1) t.2.1 t.2.2).2))),
 (232,ztv [ruP,i64,u64] [ruP] (fun t=>some (t.1.2.1.length=8∧0≤t.2.1∧t.2.1<8)) (fun t=>(zb3 (Rn.of t.1) t.2.1 t.2.2).t))]
set_option linter.unusedVariables false
theorem zvh(r:Rn)(c v:Int):yku r c v=(
 (0:Nat)=0∧List.length r.1=List.length r.1∧(0:Nat)=0∧List.length r.2=List.length r.2∧r.3=r.3∧r.4=r.4∧r.5=r.5∧r.6=r.6∧r.7=r.7∧r.8=r.8∧r.9=r.9∧r.10=r.10∧r.11=r.11∧r.12 =
 r.12∧r.13=r.13∧r.14=r.14∧(0:Nat)=0∧List.length r.15=List.length r.15∧r.16=r.16∧r.17=r.17∧(0:Nat)=0∧List.length r.18=List.length r.18∧r.19=r.19∧r.20=r.20∧(0:Nat)=0 ∧
 List.length r.21=List.length r.21∧r.22=r.22∧r.23=r.23∧c=c∧v=v∧(0:Nat)=0∧List.length r.26=List.length r.26∧r.27=r.27∧r.28=r.28∧r.29=r.29∧r.30=r.30∧r.31=r.31∧r.1=r.1∧r.2=r.2 ∧
 r.15=r.15∧r.18=r.18∧r.21=r.21∧r.26=r.26):=by kernel_rfl
theorem zj0(r:Rn)(kind va:Int)(z:Rn)(e pa:Int):ydk r kind va z e pa=(
 let A0(a:Es)(b:Nat):=List.length a=b;
 let A1(a b:Es):=A0 a (List.length b);
 let A2(a b c:Prop):=a∧b∧c;
 let A3(a b c d e:Prop):=A2 a b (A2 c d e);
 let A4:=(0:Nat)=0;
 let A5(a:Rn):=List.length a.2;
 let A6(a:Nat):=(0:Nat)+a;
 let A7:=(r.4,r.5,r.6,r.7);
 let A8:=(r.13,r.14,r.15,r.16,r.17,r.18,r.19,r.20,r.21);
 let A9:=(zom r.1 A7 A8 kind va r.23).2.2;
 let Aa(a b c d e f g h i:Prop):=A3 a b c d (A3 e f g h i);
 let Ab:=List.take (List.length r.26) (List.drop 0 r.26);
 let Ac:=A9.2.2.2;
 let Ad:=A6 Ab.length;
 let Ae:=List.take 1 (List.drop 0 ((kind,va)::[]));
 let Af:=List.length r.1;
 let Ah(a b:Prop)(c:Nat):=A2 a b (c≤1073741824);
 let Ai(a:Bool)(b c d f g h j k l m:Prop)(n:(Cs.i IntKind.i64).T)(o p q s:Prop):=r.22=a→A2 (A3 (Af=Af) (A5 r=A5 r) (A1 r.15 r.15) (A1 r.18 r.18) (A1 r.21 r.21)) b (A3 A4 (List.length z.1=Af) A4 (A5 z=A5 r) (Aa (z.3
  = r.3) (z.4=r.4) (z.5=r.5) (z.6=r.6) (z.7=r.7) (z.8=r.8) (z.9=r.9) (z.10=r.10) (Aa (z.11=r.11) (z.12=r.12) c d A4 f g h (Aa A4 j k l A4 m (z.22=r.22) (z.23=r.23) (Aa (z.24=r.24) (z.25=r.25) A4 (List.length z.26 =
  Ad+Ae.length) (z.27=r.27) (z.28=r.28) (z.29=r.29) (z.30=r.30) (Aa (z.31=r.31) (e=n) o (z.1=r.1) (z.2=r.2) p q s (z.26=List.take Ad ([]++Ab)++Ae)))))));
 let Aj:=Ac.2.2.2;
 let Ak:=Ac.2.2.2.2.2;
 let Al:=Ac.2.2.1;
 let Am:=A9.2.2.1;
 let An:=zaw r.1 A7 kind va;
 let Ao:=List.length r.26;
 Ah (A6 Ao≤Ao) ((0:Nat)≤0) Ad∧A2 (Ah (A6 1≤((kind,va)::[]).length) (Ad≤([]++Ab).length) (Ad+Ae.length)) (Ai true (Af=Af∧A2 (zaj r.1) (U64 r.7) (U64 va)) (z.13=r.13) (z.14=r.14) (A1 z.15 r.15)
  (z.16=r.16) (z.17=r.17) (A1 z.18 r.18) (z.19=r.19) (z.20=r.20) (A1 z.21 r.21) An.1 (pa=An.2) (z.15=r.15) (z.18=r.18) (z.21=r.21)) (Ai false (A3 (Af=Af) (A1 r.15 r.15) (A1 r.18 r.18) (A1 r.21 r.21) (yl0 r.1 A7 A8 va))
  (z.13=A9.1) (z.14=A9.2.1) (A0 z.15 (List.length Am)) (z.16=Ac.1) (z.17=Ac.2.1) (A0 z.18 (List.length Al)) (z.19=Aj.1) (z.20=Aj.2.1) (A0 z.21 (List.length Ak)) (zom r.1 A7 A8 kind va r.23).1 (pa=(zom r.1
  A7 A8 kind va r.23).2.1) (z.15=Am) (z.18=Al) (z.21=Ak))):=by kernel_rfl
theorem zou(r:Rn)(a x:Int)(z:Us):zyq r a x z=(
 ((0:Nat)+List.length r.2≤List.length r.2∧(0:Nat)≤0∧0+(List.take (List.length r.2) (List.drop 0 r.2)).length≤1073741824)∧(decide (a>0)=true→((0:Int)≤a∧a<(↑((0:Nat) +
 (List.take (List.length r.2) (List.drop 0 r.2)).length):Int))∧0+a.toNat<([]++List.take (List.length r.2) (List.drop 0 r.2)).length∧(0:Nat)=0∧List.length r.1=List.length r.1∧0 =
 0∧List.length z=0+(List.take (List.length r.2) (List.drop 0 r.2)).length∧r.3=r.3∧r.4=r.4∧r.5=r.5∧r.6=r.6∧r.7=r.7∧r.8=r.8∧r.9=r.9∧r.10=r.10∧r.11=r.11∧r.12=r.12∧r.13 =
 r.13∧r.14=r.14∧(0:Nat)=0∧List.length r.15=List.length r.15∧r.16=r.16∧r.17=r.17∧(0:Nat)=0∧List.length r.18=List.length r.18∧r.19=r.19∧r.20=r.20∧(0:Nat)=0∧List.length
 r.21=List.length r.21∧r.22=r.22∧r.23=r.23∧r.24=r.24∧r.25=r.25∧(0:Nat)=0∧List.length r.26=List.length r.26∧r.27=r.27∧r.28=r.28∧r.29=r.29∧r.30=r.30∧r.31=r.31∧r.1=r.1∧z=([] ++
 List.take (List.length r.2) (List.drop 0 r.2)).set ((0:Nat)+a.toNat) x∧r.15=r.15∧r.18=r.18∧r.21=r.21∧r.26=r.26)∧(decide (a>0)=false→(0:Nat)=0∧List.length r.1=List.length r.1∧(0 :
 Nat)=0∧List.length z=0+(List.take (List.length r.2) (List.drop 0 r.2)).length∧r.3=r.3∧r.4=r.4∧r.5=r.5∧r.6=r.6∧r.7=r.7∧r.8=r.8∧r.9=r.9∧r.10=r.10∧r.11=r.11∧r.12=r.12 ∧
 r.13=r.13∧r.14=r.14∧(0:Nat)=0∧List.length r.15=List.length r.15∧r.16=r.16∧r.17=r.17∧(0:Nat)=0∧List.length r.18=List.length r.18∧r.19=r.19∧r.20=r.20∧(0:Nat)=0 ∧
 List.length r.21=List.length r.21∧r.22=r.22∧r.23=r.23∧r.24=r.24∧r.25=r.25∧(0:Nat)=0∧List.length r.26=List.length r.26∧r.27=r.27∧r.28=r.28∧r.29=r.29∧r.30=r.30∧r.31=r.31∧r.1=r.1∧z
 = []++List.take (List.length r.2) (List.drop 0 r.2)∧r.15=r.15∧r.18=r.18∧r.21=r.21∧r.26=r.26)):=by kernel_rfl
set_option linter.unusedSimpArgs false
set_option linter.unusedVariables false
theorem zj5:U64 0:=⟨by omega,by omega⟩
theorem yd8:I64 0:=⟨by omega,by omega⟩
theorem zxu{p l va:Int}(hp:U64 p)(hv:U64 va):U64 (zck p l va):=by
 unfold zck
 split
 · rename_i hl
   have hb:0≤zcl p∧zcl p<17592186044416:=by unfold zcl;omega
   have h0:=hv.1
   rcases zcn (zgq.1 hl) with rfl|rfl|rfl
   · show 0≤zcl p*64/64*64+va % 64∧zcl p*64/64*64+va % 64<18446744073709551616
     omega
   · show 0≤zcl p*64/512*512+va % 512∧zcl p*64/512*512+va % 512<18446744073709551616
     omega
   · show 0≤zcl p*64/4096*4096+va % 4096∧zcl p*64/4096*4096+va % 4096<18446744073709551616
     omega
 · exact⟨by omega,by omega⟩
theorem zpq{kind:Int}{k:Cch}(g:zci k=true)(h:ChR k):zat false (zfd kind k)=true∧TlR (zfd kind k):=by
 simp only[zci,Bool.and_eq_true] at g
 unfold zfd
 split
 · exact⟨g.1.1,h.1⟩
 · exact⟨g.1.2,h.2.1⟩
theorem yim{kind:Int}{k:Cch}{t:Tl}(g:zci k=true)(h:ChR k)(hv:zat false t=true)(ht:TlR t):zci (zol kind k t)=true∧ChR (zol kind k t):=by
 simp only[zci,Bool.and_eq_true] at g
 unfold zol
 split
 · exact⟨by simp[zci,hv,g.1.2,g.2],ht,h.2⟩
 · exact⟨by simp[zci,hv,g.1.1,g.2],h.1,ht,h.2.2⟩
theorem yfx{W:Wr}{c:Ct}{k:Cch}{kind va pick:Int}(g:zci k=true)(h:ChR k)(hv:U64 va)(p0:0≤pick)(hW:W.1=1→U64 W.2.2.1∧LvR W.2.1∧za7 W.2.2.1 W.2.1=2):zci (zgz W c k kind va pick).2.2.2=true∧ChR (zgz W c k kind va pick).2.2.2∧U64 (zgz W c k kind va pick).2.1:=by
 unfold zgz
 split
 · rename_i hw
   obtain⟨w1,w2,w3⟩:=hW hw
   split
   · obtain⟨a,b⟩:=zpq (kind:=kind) g h
     have e:=zfq (ptr:=false) (va:=va) (satp:=c.2.2.2) w2 w3
     obtain⟨x,y⟩:=yim (kind:=kind) g h (zuk a e (yfy w2) p0) (yet b (zjc w2 w1))
     exact⟨x,y,zxu w1 hv⟩
   · exact⟨g,h,zj5⟩
 · split
   · exact⟨g,h,zj5⟩
   · exact⟨g,h,zj5⟩
theorem zlw{m:By}{c:Ct}{k:Cch}{kind va pick:Int}(hm:zaj m)(hs:U64 c.2.2.2)(hv:U64 va)(h:ChR k)(g:zci k=true)(p0:0≤pick):zci (trM m c k kind va pick).2.2.2=true∧ChR (trM m c k kind va pick).2.2.2∧U64 (trM m c k kind va pick).2.1:=by
 have g':=g
 simp only[zci,Bool.and_eq_true] at g'
 unfold trM
 split
 · exact⟨g,h,hv⟩
 split
 · exact⟨g,h,zj5⟩
 split
 · rename_i hf
   obtain⟨a,b⟩:=zpq (kind:=kind) g h
   obtain⟨u1,u2,u3⟩:=zd7 a b hf
   unfold ygw
   split
   · exact⟨g,h,zxu u2 hv⟩
   · exact⟨g,h,zj5⟩
 · unfold zla
   have hst:=zet (satp:=c.2.2.2) hm hv g'.2 h.2.2
   have hst2:=hst.2.2.2.1
   have hrec:=ze4 (va:=va) hm ((zan c.2.2.2 va k.2.2).2+1).toNat (zan c.2.2.2 va k.2.2).1
   have hleaf:=zbz (va:=va) hm ((zan c.2.2.2 va k.2.2).2+1).toNat (zan c.2.2.2 va k.2.2).1
   have hkind:=ze3 (m:=m) (va:=va) ((zan c.2.2.2 va k.2.2).2+1).toNat (zan c.2.2.2 va k.2.2).1
   have hn3:((zan c.2.2.2 va k.2.2).2+1).toNat≤3:=by have:=hst2.2;omega
   generalize za6 m va ((zan c.2.2.2 va k.2.2).2+1).toNat (zan c.2.2.2 va k.2.2).1=W at *
   obtain⟨v1,v2⟩:=zfr (va:=va) (satp:=c.2.2.2) p0 W.2.2.2 k.2.2 g'.2 h.2.2 (fun r hr=>by obtain⟨a,b,d⟩:=hrec r hr;exact⟨⟨a,by omega⟩,d⟩)
   have eta:(k.2.2.1,k.2.2.2.1,(zae va c.2.2.2 pick k.2.2 W.2.2.2).2.2)=zae va c.2.2.2 pick k.2.2 W.2.2.2:=zgn va c.2.2.2 pick k.2.2 W.2.2.2
   rw[eta]
   refine yfx (by simp[zci,g'.1.1,g'.1.2,v1]) ⟨h.1,h.2.1,v2⟩ hv p0 (fun hw => ?_)
   obtain⟨a,b,d⟩:=hleaf hw
   exact⟨a,⟨b,by omega⟩,hkind hw⟩
theorem yw2:TlR (0,0,[]):=⟨yd8,yd8,Nat.zero_le _,fun e he=>(by cases he)⟩
theorem zC_in:ChR zC:=⟨yw2,yw2,yw2⟩
theorem yvv{m:By}{c:Ct}{x:Cf}{kind va pick:Int}(h:yl0 m c x va):ChR (toC (zom m c x kind va pick).2.2)∧U64 (zom m c x kind va pick).2.1:=by
 obtain⟨hm,hs,hx,hv⟩:zaj m∧U64 c.2.2.2∧ChR (toC x)∧U64 va:=h
 unfold zom yee
 split
 · rename_i ok
   obtain⟨g,_,p0,_⟩:=zrf ok
   obtain⟨_,b,d⟩:=zlw hm hs hv hx g p0 (kind:=kind)
   exact⟨b,d⟩
 · exact⟨zC_in,zj5⟩
theorem ycu{m:By}{c:Ct}{x:Cf}{kind va pick:Int}(h:yl0 m c x va)(ok:okT c (toC x) kind pick=true):zci (toC (zom m c x kind va pick).2.2)=true:=by
 obtain⟨hm,hs,hx,hv⟩:zaj m∧U64 c.2.2.2∧ChR (toC x)∧U64 va:=h
 unfold zom yee
 rw[if_pos ok]
 obtain⟨g,_,p0,_⟩:=zrf ok
 exact (zlw hm hs hv hx g p0 (kind:=kind)).1
theorem zt5{m:By}{c:Ct}{kind va:Int}(hm:zaj m)(hs:U64 c.2.2.2)(hv:U64 va):U64 (zaw m c kind va).2:=by
 unfold zaw
 split
 · split
   · unfold zak
     split
     · exact zj5
     · split
       · exact zj5
       · unfold zcc
         split
         · refine zxu ?_ hv
           rename_i h1 h2 _
           unfold zcf at h1 h2 ⊢
           split at h1
           · rename_i hc
             rw[if_pos hc] at h2 ⊢
             have hl:=zbz (va:=va) hm 3 (c.2.2.2 % 17592186044416)
             rcases zb5 m va 3 (c.2.2.2 % 17592186044416) with z|z|z
             · exact (hl z).1
             · exact absurd z h2
             · exact absurd z h1
           · exact absurd rfl h1
         · exact zj5
   · exact hv
 · exact zj5
theorem yg6:zar Tryz.prog kEE0 := .cons (by kernel_rfl) yhj <| .cons (by kernel_rfl) yb7 <| .cons (by kernel_rfl) ynf .nil
theorem yt1:zar Tryz.prog kEE1:=(yg6.append yzb).append yy8
theorem zwf:DictOk Tryz.prog yxe:=zay yt1 .nil .nil
theorem RnR.tlb{r:Rn}(h:RnR r){va:Int}(hv:U64 va):yl0 r.m r.c r.k va:=⟨h.1.1,h.1.2.2.2.2.2.1,h.1.2.2.2.2.2.2.2.2.2.2.2,hv⟩
theorem RnR.look{r:Rn}(h:RnR r){kind va:Int}(hn:SzR (r.ks.length+1)):RnR (zdr r kind va):=⟨h.1,h.2.1,by simpa[zdr] using hn⟩
theorem RnR.withK{r:Rn}(h:RnR r){x:Cf}(hx:ChR (toC x)):RnR (r.withK x):=by
 obtain⟨⟨a1,a2,a3,a4,a5,a6,a7,a8,a9,a10,a11,_⟩,b,d⟩:=h
 exact⟨⟨a1,a2,a3,a4,a5,a6,a7,a8,a9,a10,a11,hx⟩,b,d⟩
theorem zgw{r:Rn}(h:RnR r){kind va:Int}(hv:U64 va)(hn:SzR (r.ks.length+1)):RnR (zao r kind va).1∧U64 (zao r kind va).2.2:=by
 unfold zao
 split
 · exact⟨h.look hn,zt5 h.1.1 (h.tlb hv).2.1 hv⟩
 · obtain⟨a,b⟩:=yvv (kind:=kind) (pick:=r.pk) (h.tlb hv)
   exact⟨(h.look hn).withK a,b⟩
theorem yho:Sound Tryz.prog 206 (ztv [ruP,i64,u64] [ruP] (fun _=>none) (fun t=>(zd1 (Rn.of t.1) t.2.1 t.2.2).t)):=by
 refine zhk mixed Tryz.func206 (by kernel_rfl) (by kernel_rfl) zwf (fun t _ => ?_)
 obtain⟨x,c,v⟩:RnT × Int × Int:=t
 refine⟨.none,zab (zvh (Rn.of x) c v) ?_⟩
 generalize Rn.of x=r
 repeat' apply And.intro
 all_goals rfl
theorem zxm:Sound Tryz.prog 232 (ztv [ruP,i64,u64] [ruP] (fun t=>some (t.1.2.1.length=8∧0≤t.2.1∧t.2.1<8)) (fun t=>(zb3 (Rn.of t.1) t.2.1 t.2.2).t)):=by
 refine zhk mixed Tryz.func232 (by kernel_rfl) (by kernel_rfl) zwf (fun t h => ?_)
 obtain⟨y,a,x⟩:RnT × Int × Int:=t
 obtain⟨h1,h2,h3⟩:(Rn.of y).u.length=8∧0≤a∧a<8:=h
 refine⟨.none,zab (zou (Rn.of y) a x (if 0<a then (Rn.of y).u.set a.toNat x else (Rn.of y).u)) ?_⟩
 generalize Rn.of y=r at *
 have e8:r.u.take 8=r.u:=by rw[← h1,List.take_length]
 by_cases g:0<a
 · simp[g,h1,h2,h3,e8]
 · simp[g,h1,h2,h3,e8]
theorem yb9:Sound Tryz.prog 207 (ztv [ruP,i64,u64] [ruP,trP] (fun t=>some (RnR (Rn.of t.1)∧U64 t.2.2)) (fun t=>((zao (Rn.of t.1) t.2.1 t.2.2).1.t,(zao (Rn.of t.1) t.2.1 t.2.2).2))):=by
 refine zhk mixed Tryz.func207 (by kernel_rfl) (by kernel_rfl) zwf (fun t h => ?_)
 obtain⟨y,kind,va⟩:RnT × Int × Int:=t
 obtain⟨h1,hv⟩:RnR (Rn.of y)∧U64 va:=h
 suffices h:zi2 Tryz.prog yxe .none Tryz.f207 [ruP,i64,u64] [ruP,trP] ((Rn.of y).t,kind,va) ((zao (Rn.of y) kind va).1.t,(zao (Rn.of y) kind va).2) from ⟨.none,h⟩
 generalize Rn.of y=r at *
 have ht:=h1.tlb hv
 obtain⟨⟨hm,_,_,_,_,hs,_⟩,_,hk⟩:=h1
 have hk:r.ks.length≤2097152:=hk
 have hm:zaj r.m:=hm
 have hs:U64 r.sa:=hs
 have k1:r.ks.length≤1073741824:=by omega
 have k2:r.ks.length+1≤1073741824:=by omega
 cases hp:r.pl with
 | true =>
  have e:zao r kind va=(zdr r kind va,zaw r.m r.c kind va):=by unfold zao;rw[if_pos hp]
  rw[e]
  refine zab (zj0 r kind va (zdr r kind va) (zaw r.m r.c kind va).1 (zaw r.m r.c kind va).2) ?_
  conv=>zeta
  simp[hp,zdr,Rn.c,hm,hs,hv,k1,k2]
 | false =>
  have e:zao r kind va=((zdr r kind va).withK (yjo r kind va).2.2,(yjo r kind va).1,(yjo r kind va).2.1):=by unfold zao;rw[if_neg (by rw[hp];simp)]
  rw[e]
  refine zab (zj0 r kind va ((zdr r kind va).withK (yjo r kind va).2.2) (yjo r kind va).1 (yjo r kind va).2.1) ?_
  conv=>zeta
  have ht':yl0 r.m (r.mo,r.su,r.mx,r.sa) (r.s1,r.w1,r.m1,r.s2,r.w2,r.m2,r.s3,r.w3,r.m3) va:=ht
  simp[hp,zdr,Rn.withK,yjo,Rn.c,Rn.k,ht',k1,k2]
theorem yg7:zar Tryz.prog kEE2 := .cons (by kernel_rfl) yho <| .cons (by kernel_rfl) yb9 <| .cons (by kernel_rfl) zxm .nil
end Go.Proofs.YtfiddfbagbaofaaGreat.V
