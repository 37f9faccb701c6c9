/- The laws on translations: with empty caches, what is found after one, behind a fence (seat G). Conditions: those in each statement. -/
import Derived.Test.YtfiddfbagbaofaaGreatET
import Derived.Test.YtfiddfbagbaofaaGreatEU
import Derived.KernelRfl
namespace Go.Proofs.YtfiddfbagbaofaaGreat.V
open Go
def yoo(c:Ct):Bool:=c.2.2.2/1152921504606846976==8 && !(c.1==2)
def FEV0:Dict:=mkD kA4 [] []
def ysx(a:Int)(b c:Bool)(d:Int):Prop:=zal Tryz.prog FEV0 .none Tryz.f41 [zds] [bl] (a,b,c,d) (yoo (a,b,c,d))
def yiq(s:Int):Prop:=zal Tryz.prog FEV0 .none Tryz.f42 [u64] [u64] s (zav s)
def kEV1:Known:=[
 (41,zag [zds] [bl] (fun c=>some (U64 c.2.2.2)) yoo),
 (42,zag [u64] [u64] (fun s=>some (U64 s)) zav)]
def kEV2:Known:=kEV1
def kEV3:Known:=[
 (46,zag [byP,zds,i64,u64] [trP] (fun t=>some (zan t.1∧U64 t.2.1.2.2.2∧U64 t.2.2.2)) (fun t=>zbt t.1 t.2.1 t.2.2.1 t.2.2.2)),
 (45,zag [byP,zds,i64,u64] [trP] (fun t=>some (zan t.1∧U64 t.2.1.2.2.2∧U64 t.2.2.2)) (fun t=>zbt t.1 t.2.1 t.2.2.1 t.2.2.2)),
 (22,zag [byP] [scP] (fun b=>some (zan b)) yjr)]
def FEV2:Dict:=mkD (kEV3++kEV2++kZ1++kJ3++kH++kA4) [] []
def lwX:SpecW:={ plan:=fun k=>if k=3 then some (fun _ => .std) else none }
abbrev TtR:=Int × Int × Cf
def grX(m:By):SpecW:={ lwX with cut:=fun r=>if r=6 then some { β:=Tq × TtR,sl:=fun z=>slots 135 [(4,.ptr 1 0),(6,.v (.int .i64 z.1.2.2.2.1)),(7,.v (.int .u64 z.1.2.2.2.2.1)),(9,.ptr 2 0),(10,.ptr 3 0)],H:=fun z=>[.arr [.i .u8] m false,.fix (ctA z.1.2.1) true (some 65),.fix (.v (.int .i64 z.2.1)::List.replicate 10 .any) true (some 69),.fix (.v (.int .i64 z.2.1) :: .v (.int .u64 z.2.2.1)::cfA z.2.2.2 4) true (some 69)]++cfH z.2.2.2 } else none }
def zxi(m:By):Prop:=vcP Tryz.prog FEV2 (Rels.of [(37,dtrR)]) (grX m) Tryz.f8 [byP] [bl] m (fun z:Bool=>z=true)
set_option linter.unusedVariables false
set_option maxRecDepth 10000
theorem yb0(a:Int)(b c:Bool)(d:Int):ysx a b c d=(
 (0:Int)≤(60:Int)∧yoo (a,b,c,d)=bif d/(2:Int) ^ min (Int.toNat (60:Int)) (64:Nat)==(8:Int) then a != (2:Int) else false):=by kernel_rfl
theorem zt8(s:Int):yiq s=(
 (0:Int)≤(44:Int)∧zav s=bits BinOp.and IntKind.u64 (s/(2:Int) ^ min (Int.toNat (44:Int)) (64:Nat)) (65535:Int)):=by kernel_rfl
theorem znm(m:By):zxi m=(
 let A0(a:PmT tqP × Unit):=a.fst.snd.snd;
 let A1(a:PmT tqP × Unit):=(A0 a).fst.snd;
 let A2(a:PmT tqP × Unit):=(A1 a).snd.snd;
 let A3(a:Tq × TtR):=a.snd.snd.snd.snd;
 let A4(a:PmT tqP × Unit):=a.fst.snd.fst.snd.snd;
 let A5(a:Tq × TtR):=a.fst.snd.fst.snd;
 let A6(a:PmT tqP × Unit):=(A2 a).snd.snd.snd.snd;
 let A7(a:Tq × TtR):=(A3 a).snd.snd.snd.snd;
 let A8(a:Tq × TtR):=(A5 a).snd.snd;
 let A9(a b:Int)(c:Es):=(a,b,c);
 let Aa(a:Tq × TtR):=(A7 a).fst;
 let Ab(a:Tq × TtR):=a.fst.snd.snd.snd.snd.fst;
 let Ac(a:Tq × TtR):=(A3 a).snd.fst;
 let Ad(a:PmT tqP × Unit):=(A0 a).snd.snd.fst;
 let Ae(a:PmT tqP × Unit):=a.fst.snd.fst.snd.fst;
 let Af(a b:Bool):=bif a then true else b;
 let Ah(a:(Cs.i IntKind.i64).T × CsT [Cs.i IntKind.i64,Cs.sl shE])(b:Tq × TtR):=zb1 a (Ab b) (zav (A8 b));
 let Ai(a:Tq × TtR):=(A3 a).snd.snd.snd.fst;
 let Aj(a:Es)(b:Nat):=List.length a=b;
 let Ak(a:PmT tqP × Unit):=(a.fst.snd.fst.fst,Ae a,(A4 a).fst,(A4 a).snd);
 let Al(a:Tq × TtR):=A9 a.snd.snd.snd.fst (A3 a).fst (Ac a);
 let Am(a:Tq × TtR):=A9 (A3 a).snd.snd.fst (Ai a) (Aa a);
 let An(a:PmT tqP × Unit):=((A0 a).fst.fst,(A1 a).fst,(A1 a).snd.fst,(A2 a).fst,(A2 a).snd.fst,(A2 a).snd.snd.fst,(A2 a).snd.snd.snd.fst,(A6 a).fst,(A6 a).snd);
 let Ao(a:Es):=Aj a (List.length a);
 let Ap(a:PmT tqP × Unit):=zgc a.fst.fst (Ak a) (An a) (A0 a).snd.fst (Ad a) (A0 a).snd.snd.snd;
 let Aq(a:PmT tqP × Unit):=(Ap a).snd.snd.snd;
 let Ar(a:PmT tqP × Unit):=(Aq a).snd.snd;
 let Au(a:Tq × TtR):=a.snd.fst;
 let Aw(a b c:Prop):=a∧b∧c;
 let Ax(a:Tq × TtR):=(A7 a).snd.snd.snd;
 let Ay(a:PmT tqP × Unit):=List.length (A6 a).snd;
 let Az(a:PmT tqP × Unit):=List.length (A1 a).snd.fst;
 let AB(a:PmT tqP × Unit):=List.length a.fst.fst;
 let AC(a b c d e:Prop):=Aw a b (Aw c d e);
 let AD(a:PmT tqP × Unit):=List.length (A2 a).snd.snd.fst;
 let AE(a:Es):=(↑(List.length a):Int);
 let AF(a:Int):=a==(0:Int);
 let AG(a:Tq × TtR):=(A5 a).fst;
 let AH(a:Tq × TtR):=a.fst.snd.fst.fst;
 let AI(a:Tq × TtR):=a.fst.snd.snd.snd.fst;
 let AJ(a:Tq × TtR):=(A5 a).snd.fst;
 let AK(a:(Cs.i IntKind.i64).T × CsT [Cs.i IntKind.i64,Cs.sl shE])(b:Tq × TtR):=(Ah a b).fst;
 let AL(a:Bool)(b:Prop):=a=true→b;
 let AM(a:Bool)(b:Prop):=a=false→b;
 let AN(a:PmT tqP × Unit):=(Ar a).snd.snd.snd;
 let AO(a:Tq × TtR):=(Ah (Am a) a).snd.snd.snd;
 let AP(a:Tq × TtR):=(Ah (Al a) a).snd.snd.snd;
 let AQ(a:Tq × TtR):=(A7 a).snd.snd.fst;
 let AR(a:Tq × TtR):=(A7 a).snd.fst;
 let AS(a:PmT tqP × Unit):=AC (AB a=AB a) (Az a=Az a) (AD a=AD a) (Ay a=Ay a) (zq4 a.fst.fst (Ak a) (An a) (Ad a));
 let AT(a:Tq × TtR):=Au a==(63:Int);
 let AU(a:Bool)(b:Es):=bif a then AF (AE b) else false;
 let AV:=(0:Nat)=(0:Nat);
 let AW(a:PmT [Pm.one Cs.b])(c:Bool):=(a=c∧m=m)∧a=true;
 let AX(a:PmT [Pm.one Cs.b])(c:(Cs.i IntKind.i64).T × CsT [Cs.i IntKind.i64,Cs.sl shE])(d:Tq × TtR)(e:CsT [Cs.i IntKind.u64]):=AW a (bif bif AK c d then za3 e (AI d) (AH d) (AG d) (AJ d) else false then d.snd.snd.fst ==
  zcg e (Ah c d).snd.snd.fst (Ab d) else false);
 let AY(a:Es)(b:(Cs.sl shE).T)(c:Int)(d:(Cs.i IntKind.i64).T)(e:Int)(f:(Cs.i IntKind.i64).T)(g:Prop):=AC AV (Aj a (List.length b)) (c=d) (e=f) g;
 let AZ(a:Cs.b.T)(c:CsT [Cs.i IntKind.u64])(d:Tq × TtR)(e:Prop):=AL (bif a then za3 c (AI d) (AH d) (AG d) (AJ d) else false) (e∧U64 (Ab d));
 let A157(a:Tq × TtR) := !yoo (AH a,AG a,AJ a,A8 a);
 let A158(a:Tq × TtR) := !zaj true (A9 (AR a) (AQ a) (Ax a));
 let A159(a:Tq × TtR):=Af (!zaj false (Al a)) (!zaj false (Am a));
 let A160:=decide ((↑(List.length m):Int)>(1048576:Int));
 let A161(a:PmT [Pm.one Cs.b]):=(a=true∧m=m)∧a=true;
 AL A160 (∃(x0':PmT [Pm.one Cs.b]),A161 x0')∧AM A160 ((List.length m=List.length m∧zan m)∧∀(x1':PmT tqP × Unit),TqK x1'.fst→Aw (AS x1') (AS x1') (∃(x2':Tq × TtR→Prop),(∃(x3':Tq × TtR),Aw (AC (AI x3'=(A0
  x1').snd.fst) (Ab x3'=Ad x1') (m=m) (AH x3'=x1'.fst.snd.fst.fst) (AC (AG x3'=Ae x1') (AJ x3'=(A4 x1').fst) (A8 x3'=(A4 x1').snd) (Au x3'=(Ap x1').fst) (AC (Au x3'=(Ap x1').fst) (x3'.snd.snd.fst=(Ap x1').snd.fst)
  (x3'.snd.snd.snd.fst=(Ap x1').snd.snd.fst) ((A3 x3').fst=(Aq x1').fst) (AY (Ac x3') (Aq x1').snd.fst (A3 x3').snd.snd.fst (Ar x1').fst (Ai x3') (Ar x1').snd.fst (AY (Aa x3') (Ar x1').snd.snd.fst (AR x3') (AN x1').fst (AQ x3') (AN
  x1').snd.fst (AC AV (Aj (Ax x3') (List.length (AN x1').snd.snd)) (Ac x3'=(Aq x1').snd.fst) (Aa x3'=(Ar x1').snd.snd.fst) (Ax x3'=(AN x1').snd.snd))))))) (zj1 Fz.none Fz.none) (x2' x3'))∧∀(x4':Tq × TtR),x2' x4'→AL (Au x4' !=
  Au x4') (∃(x5':PmT [Pm.one Cs.b]),AW x5' false)∧AM (Au x4' != Au x4') (AL (AT x4') (∃(x6':PmT [Pm.one Cs.b]),AW x6' (AU (AU (AF (AE (Ac x4'))) (Aa x4')) (Ax x4')))∧AM (AT x4') (AC (Ao (Ac x4')∧TlR (Al x4')) (AL (!!zaj false
  (Al x4')) (Ao (Aa x4')∧TlR (Am x4'))) (AL (!A159 x4') (Ao (Ax x4')∧TlR (A9 (AR x4') (AQ x4') (Ax x4')))) (AL (Af (A159 x4') (A158 x4')) (∃(x5':PmT [Pm.one Cs.b]),AW x5' false)) (AM (Af (A159 x4') (A158 x4')) (Aw (U64 (A8 x4')) (AL
  (Af (A157 x4') (Au x4' != (0:Int))) (∃(x0':PmT [Pm.one Cs.b]),A161 x0')) (AM (Af (A157 x4') (Au x4' != (0:Int))) (AL (AF (AI x4')) (AC (U64 (A8 x4')) (Aw (Ao (Ac x4')) (TlR (Al x4')) (U64 (Ab x4'))) (AK (Al x4') x4'=true→U64 (AP
  x4')) (AZ (AK (Al x4') x4') (AP x4') x4' (U64 (AP x4'))) (∃(x7':PmT [Pm.one Cs.b]),AX x7' (Al x4') x4' (AP x4')))∧AM (AF (AI x4')) (AC (U64 (A8 x4')) (Aw (Ao (Aa x4')) (TlR (Am x4')) (U64 (Ab x4'))) (AK (Am x4') x4'=true→U64 (AO
  x4')) (AZ (AK (Am x4') x4') (AO x4') x4' (U64 (AO x4'))) (∃(x8':PmT [Pm.one Cs.b]),AX x8' (Am x4') x4' (AO x4')))))))))))):=by kernel_rfl
set_option linter.unusedSimpArgs false
set_option linter.unusedVariables false
set_option maxRecDepth 10000
theorem yc3:DictOk Tryz.prog FEV0:=za1 zce .nil .nil
theorem yq9:Sound Tryz.prog 41 (zag [zds] [bl] (fun c=>some (U64 c.2.2.2)) yoo):=by
 refine zad mixed Tryz.func41 (by kernel_rfl) (by kernel_rfl) yc3 (fun c _ => ?_)
 obtain⟨m,s,x,t⟩:Int × Bool × Bool × Int:=c
 refine zah (yb0 m s x t) ⟨by decide, ?_⟩
 have e:(2:Int) ^ min (Int.toNat 60) 64=1152921504606846976:=by decide
 rw[e]
 unfold yoo
 cases t/1152921504606846976==8<;>rfl
theorem yf0:Sound Tryz.prog 42 (zag [u64] [u64] (fun s=>some (U64 s)) zav):=by
 refine zad mixed Tryz.func42 (by kernel_rfl) (by kernel_rfl) yc3 (fun s h => ?_)
 have h:U64 s:=h
 refine zah (zt8 s) ⟨by decide, ?_⟩
 have e:(2:Int) ^ min (Int.toNat 44) 64=2 ^ 44:=by decide
 have e2:(2:Int) ^ 44=17592186044416:=by decide
 rw[e,zfq 16 65535 65536 (by decide) (by decide) (by decide) (zex 44 h).1 (zex 44 h).2,e2]
 rfl
theorem yqy:zay Tryz.prog kEV1 := .cons (by kernel_rfl) yq9 <| .cons (by kernel_rfl) yf0 <| .nil
theorem yqz:zay Tryz.prog kEV2:=yqy
theorem yq0:zay Tryz.prog kEV3 := .cons (by kernel_rfl) zsa <| .cons (by kernel_rfl) zs3 <| .cons (by kernel_rfl) yg2 .nil
theorem ypu:DictOk Tryz.prog FEV2:=za1 (((((yq0.append yqz).append yfd).append yvo).append yvl).append zce) .nil .nil
theorem ywb:zb7 Tryz.prog (Rels.of [(37,dtrR)]):=zdq (by kernel_rfl) yux Rels.nil
theorem yp9{m:By}(hm:yud [byP] m)(hl:decide ((m.length:Int)>1048576)=false):zan m:=by
 have hl:¬ (m.length:Int)>1048576:=of_decide_eq_false hl
 exact⟨by show m.length≤2097152;omega,ynq hm⟩
theorem yp7{x:Cf}(h:ChK x):ChR (toC x):=⟨h.1.1,h.2.1.1,h.2.2.1⟩
theorem tq_R{z:Tq}(h:TqK z):zq4 z.1 z.2.1 z.2.2.1 z.2.2.2.2.1:=⟨h.1,h.2.1,yp7 h.2.2.1,h.2.2.2⟩
theorem yoa{m:By}{t:Tl}{va satp pa kind mo:Int}{su mx:Bool}(hs:U64 satp)(hR:TlR t)(hva:U64 va)(h1:(zb1 t va (zav satp)).1=true)(h2:za3 (zb1 t va (zav satp)).2.2.2 kind mo su mx=true)(h3:U64 (zb1 t va (zav satp)).2.2.2)
 (h4:pa=zcg (zb1 t va (zav satp)).2.2.2 (zb1 t va (zav satp)).2.2.1 va) :
 U64 satp∧(t.2.2.length=t.2.2.length∧TlR t∧U64 va)∧((zb1 t va (zav satp)).1=true→U64 (zb1 t va (zav satp)).2.2.2)∧((bif (zb1 t va (zav satp)).1 then za3 (zb1 t va (zav satp)).2.2.2 kind mo su mx else false)=true→U64 (zb1 t va (zav satp)).2.2.2∧U64 va) ∧
 ∃z:PmT [bl],((z=bif (bif (zb1 t va (zav satp)).1 then za3 (zb1 t va (zav satp)).2.2.2 kind mo su mx else false) then pa==zcg (zb1 t va (zav satp)).2.2.2 (zb1 t va (zav satp)).2.2.1 va else false)∧m=m)∧z=true :=
 ⟨hs,⟨rfl,hR,hva⟩,fun _=>h3,fun _=>⟨h3,hva⟩,true,⟨by rw[h1,h2, ← h4];simp,rfl⟩,rfl⟩
def GrJ(q:Tq × TtR):Prop:=TqK q.1∧q.2=zgc q.1.1 q.1.2.1 q.1.2.2.1 q.1.2.2.2.1 q.1.2.2.2.2.1 q.1.2.2.2.2.2
theorem yka{e:Nat}{kind:Int}(h:zbd e kind=0):e=0:=by
 unfold zbd at h
 split at h
 · assumption
 · split at h
   · exact absurd h (yaa _)
   · exact absurd h (zpx _)
theorem yvw{c:Ct}{kind:Int}(h:yoo c=true)(ha:zid c kind=true):onM c=true:=by
 simp only[yoo,Bool.and_eq_true,Bool.not_eq_true',beq_eq_false_iff_ne] at h
 simp only[zid,Bool.and_eq_true,decide_eq_true_eq] at ha
 simp only[onM,Bool.and_eq_true,Bool.or_eq_true,beq_iff_eq]
 exact⟨by simpa using h.1,by have:=h.2;omega⟩
theorem yui{a b:Bool}(h:(bif !a then true else b)=false):a=true∧b=false:=by cases a<;>cases b<;>simp_all
theorem lawGrant_ok:Canon Tryz.prog 8 [byP] [bl] (yud [byP]) (fun _=>true):=by
 refine ydz mixed Tryz.func8 (by kernel_rfl) ypu ywb (fun  (m:By) hm=>⟨grX m,zbw (by kernel_rfl), ?_⟩)
 refine zah (znm m) ?_
 conv=>zeta
 refine⟨fun _=>yon,fun hl=>⟨⟨rfl,yp9 hm hl⟩,fun z hz=>⟨⟨rfl,rfl,rfl,rfl,tq_R hz⟩,⟨rfl,rfl,rfl,rfl,tq_R hz⟩,GrJ,⟨(z.1,zgc z.1.1 z.1.2.1 z.1.2.2.1 z.1.2.2.2.1 z.1.2.2.2.2.1 z.1.2.2.2.2.2), ?_,za8,hz,rfl⟩,fun q hq => ?_⟩⟩⟩
 · dsimp only
   repeat' apply And.intro
   all_goals exact rfl
 · obtain⟨⟨mm,⟨c0,c1,c2,c3⟩,x,kind,va,pick⟩,T⟩:=q
   obtain⟨⟨h1,h2,h3,h4⟩,hT⟩:(zan mm∧U64 c3∧ChK x∧U64 va)∧T=zgc mm (c0,c1,c2,c3) x kind va pick:=hq
   have hr:zq4 mm (c0,c1,c2,c3) x va:=⟨h1,h2,yp7 h3,h4⟩
   have hin:=(zww (kind:=kind) (pick:=pick) hr).1
   rw[← hT] at hin
   obtain⟨rI,rD,rP⟩:=hin
   refine⟨fun h=>absurd h (by simp),fun _=>⟨fun hb => ?_,fun hb => ?_⟩⟩
   · have e:T.2.2=ofC zC:=by rw[hT];exact ymf (by rw[← hT];simpa using hb)
     exact⟨true,⟨by dsimp only;rw[e];rfl,rfl⟩,rfl⟩
   · have hok:okT (c0,c1,c2,c3) (toC x) kind pick=true:=ysc (by rw[← hT];simpa using hb)
     obtain⟨hg,hask,p0,p1⟩:=zjt hok
     have hval:=zj2 hr hok
     rw[← hT] at hval
     obtain⟨vI,vD,vP⟩:=zc1.1 hval
     have vI':zaj false (T.2.2.1,T.2.2.2.1,T.2.2.2.2.1)=true:=vI
     have vD':zaj false (T.2.2.2.2.2.1,T.2.2.2.2.2.2.1,T.2.2.2.2.2.2.2.1)=true:=vD
     have vP':zaj true (T.2.2.2.2.2.2.2.2.1,T.2.2.2.2.2.2.2.2.2.1,T.2.2.2.2.2.2.2.2.2.2)=true:=vP
     refine⟨⟨rfl,rI⟩,fun _=>⟨rfl,rD⟩,fun _=>⟨rfl,rP⟩,fun hv=>absurd hv (by dsimp only;rw[vI',vD',vP'];decide),fun _=>⟨h2,fun _=>yon,fun hon => ?_⟩⟩
     obtain⟨ho,hc⟩:=yui hon
     have hc0:T.1=0:=by simpa using hc
     rw[ysd hok] at hT
     have h0:(trM mm (c0,c1,c2,c3) (toC x) kind va pick).1=0:=yka (kind:=kind) (by rw[hT] at hc0;exact hc0)
     obtain⟨f1,f2,f3,f4,f5⟩:=ymg h1 h4 (yvw ho hask) hg (yp7 h3) p0 h0
     generalize hK:trM mm (c0,c1,c2,c3) (toC x) kind va pick=K at *
     subst hT
     refine⟨fun hk => ?_,fun hk => ?_⟩
     · have hk:kind=0:=by simpa using hk
       have ep:zb4 kind K.2.2.2=K.2.2.2.1:=by unfold zb4;rw[if_pos hk]
       rw[ep] at f1 f2 f3 f4 f5
       have el:zb1 K.2.2.2.1 va (zav c3)=zau va (zav c3) K.2.2.2.1.2.2:=zf4 vI
       rw[← el] at f1 f2 f3 f4 f5
       exact yoa (t:=K.2.2.2.1) h2 rI h4 f1 f2 f4 f5
     · have hk:¬ kind=0:=by simpa using hk
       have ep:zb4 kind K.2.2.2=K.2.2.2.2.1:=by unfold zb4;rw[if_neg hk]
       rw[ep] at f1 f2 f3 f4 f5
       have el:zb1 K.2.2.2.2.1 va (zav c3)=zau va (zav c3) K.2.2.2.2.1.2.2:=zf4 vD
       rw[← el] at f1 f2 f3 f4 f5
       exact yoa (t:=K.2.2.2.2.1) h2 rD h4 f1 f2 f4 f5
end Go.Proofs.YtfiddfbagbaofaaGreat.V
