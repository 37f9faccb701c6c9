/- The laws on translations: with empty caches, what is found after one, behind a fence (seat G). Conditions: those in each statement. -/
import Derived.Test.YtfiddfbagbaofaaGreatET
import Derived.Test.YtfiddfbagbaofaaGreatEU
import Derived.KernelRfl
namespace Go.Proofs.YtfiddfbagbaofaaGreat.V
open Go
def kEV1:Known:=[
 ]
def kEV2:Known:=kEV1
def kEV3:Known:=[
 (46,zah [byP,zdr,i64,u64] [trP] (fun t=>some (zal t.1∧U64 t.2.1.2.2.2∧U64 t.2.2.2)) (fun t=>zbi t.1 t.2.1 t.2.2.1 t.2.2.2)),
 (45,zah [byP,zdr,i64,u64] [trP] (fun t=>some (zal t.1∧U64 t.2.1.2.2.2∧U64 t.2.2.2)) (fun t=>zbi t.1 t.2.1 t.2.2.1 t.2.2.2)),
 (22,zah [byP] [scP] (fun b=>some (zal b)) zz9)]
def FEV2:Dict:=mkD (kEV3++kEV2++kZ1++kJ3++kH++kA4) [] []
def lwX:SpecW:={ plan:=fun k=>if k=3 then some (fun _ => .std) else none }
def ybt(m:By):Prop:=vcP Tryz.prog FEV2 (Rels.of [(37,dtrR)]) lwX Tryz.f9 [byP] [bl] m (fun z:Bool=>z=true)
set_option linter.unusedVariables false
set_option maxRecDepth 10000
theorem zqn(m:By):ybt m=(
 let A0(a:PmT tqP × Unit):=a.fst.snd.snd.fst;
 let A1(a:PmT tqP × Unit):=a.fst.snd.fst.snd.snd;
 let A2(a:PmT tqP × Unit):=a.fst.fst;
 let A3(a:PmT tqP × Unit):=(A0 a).snd.snd.snd;
 let A4:=(zz9 m).snd.snd.snd.snd.snd.snd.snd.snd.snd.snd.snd.snd;
 let A5:=A4.snd.snd.snd;
 let A6(a:PmT tqP × Unit):=a.fst.snd.snd.snd.snd;
 let A7(a:PmT tqP × Unit):=List.length (A2 a);
 let A8(a:PmT tqP × Unit):=(A6 a).fst;
 let A9:=A5.snd.snd.snd;
 let Aa(a:PmT tqP × Unit):=(A3 a).snd.snd.snd;
 let Ab(a:PmT tqP × Unit):=a.fst.snd.snd.snd.fst;
 let Ac:=List.length m;
 let Ad(a:(Cs.sl shE).T):=List.length a=List.length a;
 let Ae(a:PmT tqP × Unit):=(Aa a).snd;
 let Af(a:PmT tqP × Unit):=(a.fst.snd.fst.fst,a.fst.snd.fst.snd.fst,(A1 a).fst,(A1 a).snd);
 let Ah(a b:Bool):=bif a then b else false;
 let Ai(a:PmT tqP × Unit):=zbi (A2 a) (Af a) (Ab a) (A8 a);
 let Aj(a b:(Cs.i IntKind.i64).T)(c:(Cs.sl shE).T)(d e:(Cs.i IntKind.i64).T)(f:(Cs.sl shE).T)(g:(Cs.i IntKind.i64).T × CsT [Cs.i IntKind.i64,Cs.sl shE]):=(a,b,c,d,e,f,g);
 let Ak(a:PmT tqP × Unit):=List.length (Ae a).snd;
 let Al(a b c:Prop):=a∧b∧c;
 let Am(a:PmT tqP × Unit)(b c:(Cs.sl shE).T)(d:Prop)(e f g h j:(Cs.i IntKind.i64).T)(k:(Cs.i IntKind.i64).T × CsT [Cs.sl shE]):=Al (A7 a=A7 a) (Ad b) (Al (Ad c) d (zrb (A2 a) (Af a) (Aj e f b g h c (j,k)) (A8 a)));
 let An(a:PmT tqP × Unit)(b:Bool)(c:Prop):=((zgo (A2 a) (Af a) (Aj (A0 a).fst (A0 a).snd.fst (A0 a).snd.snd.fst (A3 a).fst (A3 a).snd.fst (A3 a).snd.snd.fst ((Aa a).fst,(Ae a).fst,(Ae a).snd)) (Ab a) (A8 a) (A6 a).snd).fst ==
  (63:Int))=b→c;
 let Ao(a:PmT tqP × Unit):=A7 a=A7 a∧Al (zal (A2 a)) (U64 (A1 a).snd) (U64 (A8 a));
 let Ap(a:Bool)(b:Prop):=decide ((↑Ac:Int)>(1048576:Int))=a→b;
 let Aq(a:PmT tqP × Unit):=zgo (A2 a) (Af a) (Aj A4.fst A4.snd.fst A4.snd.snd.fst A5.fst A5.snd.fst A5.snd.snd.fst (A9.fst,A9.snd.fst,A9.snd.snd.fst)) (Ab a) (A8 a) (A6 a).snd;
 let Ar(a:PmT [Pm.one Cs.b]):=(a=true∧m=m)∧a=true;
 let Au:=Ac=Ac∧zal m;
 let Aw:=A9.snd.snd.fst;
 Ap true (∃(x0':PmT [Pm.one Cs.b]),Ar x0')∧Ap false (Au∧∀(x1':PmT tqP × Unit),TqK x1'.fst→Al (Am x1' (A0 x1').snd.snd.fst (A3 x1').snd.snd.fst (Ak x1'=Ak x1') (A0 x1').fst (A0 x1').snd.fst (A3 x1').fst (A3 x1').snd.fst (Aa
  x1').fst ((Ae x1').fst,(Ae x1').snd)) (An x1' true (∃(x0':PmT [Pm.one Cs.b]),Ar x0')) (An x1' false (Al Au (Am x1' A4.snd.snd.fst A5.snd.snd.fst (Ad Aw) A4.fst A4.snd.fst A5.fst A5.snd.fst A9.fst (A9.snd.fst,Aw)) (Al (Ao x1') (Ao x1')
  (∃(x2':PmT [Pm.one Cs.b]),(x2'=Ah (Ah ((Aq x1').fst==(Ai x1').fst) ((Aq x1').snd.fst==(Ai x1').snd)) ((Ai x1').fst==(Ai x1').fst&&((Ai x1').snd==(Ai x1').snd&&true))∧m=m)∧x2'=true)))))):=by kernel_rfl
set_option linter.unusedSimpArgs false
set_option linter.unusedVariables false
set_option maxRecDepth 10000
theorem yqh:zaw Tryz.prog kEV1 := .nil
theorem yqi:zaw Tryz.prog kEV2:=yqh
theorem yqj:zaw Tryz.prog kEV3 := .cons (by kernel_rfl) zr7 <| .cons (by kernel_rfl) zs1 <| .cons (by kernel_rfl) ygy .nil
theorem ypf:DictOk Tryz.prog FEV2:=za0 (((((yqj.append yqi).append yfa).append yu2).append yuz).append zcg) .nil .nil
theorem yvo:zb5 Tryz.prog (Rels.of [(37,dtrR)]):=zdl (by kernel_rfl) yub Rels.nil
theorem ypt{m:By}(hm:yts [byP] m)(hl:decide ((m.length:Int)>1048576)=false):zal m:=by
 have hl:¬ (m.length:Int)>1048576:=of_decide_eq_false hl
 exact⟨by show m.length≤2097152;omega,ynb hm⟩
theorem chk_R{x:Cf}(h:ChK x):ChR (toC x):=⟨h.1.1,h.2.1.1,h.2.2.1⟩
theorem tq_R{z:Tq}(h:TqK z):zrb z.1 z.2.1 z.2.2.1 z.2.2.2.2.1:=⟨h.1,h.2.1,chk_R h.2.2.1,h.2.2.2⟩
theorem ydp{a b c d e f:Int}(h1:a=b)(h2:c=d):(true:Bool)=bif (bif a==b then c==d else false) then (e==e&&(f==f&&true)) else false:=by subst h1 h2;simp
theorem lawCold_ok:Canon Tryz.prog 9 [byP] [bl] (yts [byP]) (fun _=>true):=by
 refine ydt mixed Tryz.func9 (by kernel_rfl) ypf yvo (fun  (m:By) hm=>⟨lwX,zbw (by kernel_rfl), ?_⟩)
 refine zag (zqn m) ?_
 conv=>zeta
 refine⟨fun _=>yn8,fun hl => ?_⟩
 have hB:=ypt hm hl
 refine⟨⟨rfl,hB⟩,fun z hz=>⟨⟨rfl,rfl,rfl,rfl,tq_R hz⟩,fun _=>yn8,fun hb => ?_⟩⟩
 obtain⟨⟨mm,⟨c0,c1,c2,c3⟩,⟨s1,w1,m1,s2,w2,m2,s3,w3,m3⟩,kind,va,pick⟩,u⟩:=z
 obtain⟨h1,h2,h3,h4⟩:zal mm∧U64 c3∧ChK (s1,w1,m1,s2,w2,m2,s3,w3,m3)∧U64 va:=hz
 have hok:okT (c0,c1,c2,c3) (toC (s1,w1,m1,s2,w2,m2,s3,w3,m3)) kind pick=true:=yru (by simpa using hb)
 obtain⟨hv, -, -⟩:=yd1 hB
 have hR:ChR (toC (scHa (zz9 m)).2.2.2.2.2.2.2.2.2.2.2.2):=hv.1.2.2.2.2.2.2.2.2.2.2.2
 obtain⟨e1,e2⟩:=ya8 (m:=mm) (va:=va) (y:=(scHa (zz9 m)).2.2.2.2.2.2.2.2.2.2.2.2) hok hv.2.2.1 (zme _ _ _) (zme _ _ _) (zme _ _ _)
 refine⟨⟨rfl,hB⟩,⟨rfl,rfl,rfl,rfl,h1,h2,hR,h4⟩,⟨rfl,h1,h2,h4⟩,⟨rfl,h1,h2,h4⟩,true,⟨ydp e1 e2,rfl⟩,rfl⟩
end Go.Proofs.YtfiddfbagbaofaaGreat.V
