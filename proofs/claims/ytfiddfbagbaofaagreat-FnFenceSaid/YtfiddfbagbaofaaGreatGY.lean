/- Translating through caches, and the laws' helpers on caches, answer as their models. Conditions: those in each statement. -/
import Derived.Test.YtfiddfbagbaofaaGreatGX
import Derived.KernelRfl
namespace Go.Proofs.YtfiddfbagbaofaaGreat.V
open Go
def zb5(k:Cch):Bool:=zaj false k.1&&zaj false k.2.1&&zaj true k.2.2
def ChR(k:Cch):Prop:=TlR k.1∧TlR k.2.1∧TlR k.2.2
def ytj(m:By)(c:Ct)(k:Cch)(kind va pick:Int):Prop:=zan m∧U64 c.2.2.2∧U64 va∧zb5 k=true∧ChR k∧0≤pick∧pick≤255∧0≤kind∧kind≤2
def yp8(k:Nat)(r:TrR):Prop:=match k with|0=>r.1=0|1=>r.1=1|_=>r.1=2
def trS(k:Nat):Sum:=fun args H=>match args,H with
 | [.ptr 0 0,.sl 4 1 0 n,.agg [.v (.int .i64 c0),.v (.bool c1),.v (.bool c2),.v (.int .u64 c3)],.v (.int .i64 kind),.v (.int .u64 va),.v (.int .i64 pick)],[b0,b1,b2,b3,.arr sh m false] =>
  if h:sh=[.i .u8] then (match getH 0 [b0,b1,b2,b3] with
   | some (n3,I,D,P)=>some (some (n=(h ▸ m:List (El [.i .u8])).length∧n3=zne I D P∧ytj (h ▸ m:List (El [.i .u8])) (c0,c1,c2,c3) (I,D,P) kind va pick∧yp8 k (trM (h ▸ m:List (El [.i .u8])) (c0,c1,c2,c3) (I,D,P) kind va pick)),
    .tup [.v (.int .u64 (trM (h ▸ m:List (El [.i .u8])) (c0,c1,c2,c3) (I,D,P) kind va pick).2.1),yuz k (trM (h ▸ m:List (El [.i .u8])) (c0,c1,c2,c3) (I,D,P) kind va pick).2.2.1],trH (h ▸ m:List (El [.i .u8])) (trM (h ▸ m:List (El [.i .u8])) (c0,c1,c2,c3) (I,D,P) kind va pick).2.2.2)
   | none=>none) else none
 | _,_=>none
abbrev chP:Pm := .st [.i .i64,.i .i64,.sl shE,.i .i64,.i .i64,.sl shE,.i .i64,.i .i64,.sl shE]
abbrev ttP:Pm := .st [.i .i64,.i .u64,.i .i64,.i .i64,.sl shE,.i .i64,.i .i64,.sl shE,.i .i64,.i .i64,.sl shE]
abbrev Cf:=Int × Int × Es × Int × Int × Es × Int × Int × Es
def toC(x:Cf):Cch:=((x.1,x.2.1,x.2.2.1),(x.2.2.2.1,x.2.2.2.2.1,x.2.2.2.2.2.1),(x.2.2.2.2.2.2.1,x.2.2.2.2.2.2.2.1,x.2.2.2.2.2.2.2.2))
def ofC(k:Cch):Cf:=(k.1.1,k.1.2.1,k.1.2.2,k.2.1.1,k.2.1.2.1,k.2.1.2.2,k.2.2.1,k.2.2.2.1,k.2.2.2.2)
def SzC(k:Cch):Prop:=SzR k.1.2.2.length∧SzR k.2.1.2.2.length∧SzR k.2.2.2.2.length
def zbd(e:Nat)(kind:Int):Int:=if e=0 then 0 else if e=1 then afM kind else pfM kind
def okT(c:Ct)(k:Cch)(kind pick:Int):Bool:=zb5 k&&zid c kind&&decide (0≤pick)&&decide (pick≤255)
def zC:Cch:=((0,0,[]),(0,0,[]),(0,0,[]))
def zos(m:By)(c:Ct)(k:Cch)(kind va pick:Int):Int × Int × Cch:=if okT c k kind pick=true then (zbd (trM m c k kind va pick).1 kind,(trM m c k kind va pick).2.1,(trM m c k kind va pick).2.2.2) else (63,0,zC)
def zgc(m:By)(c:Ct)(x:Cf)(kind va pick:Int):Int × Int × Cf:=((zos m c (toC x) kind va pick).1,(zos m c (toC x) kind va pick).2.1,ofC (zos m c (toC x) kind va pick).2.2)
def kY0:Known:=kJ1++kX2++kN2
def FY0:Dict:=mkD kY0 [(132,(3,fun k=>zx8 9 (trS k)))] []
def yhz(s1 w1:Int)(m1:Es)(s2 w2:Int)(m2:Es)(s3 w3:Int)(m3:Es):Prop:=zal Tryz.prog FY0 .none Tryz.f129 [chP] [bl] (s1,w1,m1,s2,w2,m2,s3,w3,m3) (zb5 ((s1,w1,m1),(s2,w2,m2),(s3,w3,m3)))
def yhx(s1 w1:Int)(m1:Es)(s2 w2:Int)(m2:Es)(s3 w3:Int)(m3:Es):Prop:=zal Tryz.prog FY0 .none Tryz.f131 [chP] [chP] (s1,w1,m1,s2,w2,m2,s3,w3,m3) (s1,w1,m1,s2,w2,m2,s3,w3,m3)
def yi1(s1 w1:Int)(m1:Es)(s2 w2:Int)(m2:Es)(s3 w3:Int)(m3:Es):Prop:=zal Tryz.prog FY0 .none Tryz.f119 [chP] [bl] (s1,w1,m1,s2,w2,m2,s3,w3,m3) (zb5 ((s1,w1,m1),(s2,w2,m2),(s3,w3,m3)))
def yb7(s1 w1:Int)(m1:Es)(s2 w2:Int)(m2:Es)(s3 w3:Int)(m3:Es):Prop:=zal Tryz.prog FY0 .none Tryz.f120 [chP] [chP] (s1,w1,m1,s2,w2,m2,s3,w3,m3) (s1,w1,m1,s2,w2,m2,s3,w3,m3)
def yi0(l va s p:Int):Prop:=zal Tryz.prog FY0 .none Tryz.f87 [i64,u64,u64,u64] [enP] (l,va,s,p) (zbo l va s p)
def kY1:Known:=[
 (129,zag [chP] [bl] (fun x=>some (ChR (toC x))) (fun x=>zb5 (toC x))),
 (131,zag [chP] [chP] (fun x=>some (SzC (toC x))) (fun x=>x)),
 (119,zag [chP] [bl] (fun x=>some (ChR (toC x))) (fun x=>zb5 (toC x))),
 (120,zag [chP] [chP] (fun x=>some (SzC (toC x))) (fun x=>x)),
 (87,zag [i64,u64,u64,u64] [enP] (fun t=>some (LvR t.1∧U64 t.2.1∧U64 t.2.2.1∧U64 t.2.2.2)) (fun t=>zbo t.1 t.2.1 t.2.2.1 t.2.2.2)),
 ]
def FY1:Dict:=mkD (kY1++kY0) [(132,(3,fun k=>zx8 9 (trS k)))] []
def ysr(m:By)(c0:Int)(c1 c2:Bool)(c3:Int)(s1 w1:Int)(m1:Es)(s2 w2:Int)(m2:Es)(s3 w3:Int)(m3:Es)(kind va pick:Int)(e pa:Int)(t1 u1:Int)(n1:Es)(t2 u2:Int)(n2:Es)(t3 u3:Int)(n3:Es):Prop:=zal Tryz.prog FY1 .none Tryz.f39 [byP,zds,chP,i64,u64,i64] [ttP] (m,(c0,c1,c2,c3),(s1,w1,m1,s2,w2,m2,s3,w3,m3),kind,va,pick) (e,pa,t1,u1,n1,t2,u2,n2,t3,u3,n3)
set_option linter.unusedVariables false
theorem ztm(s1 w1:Int)(m1:Es)(s2 w2:Int)(m2:Es)(s3 w3:Int)(m3:Es):yhz s1 w1 m1 s2 w2 m2 s3 w3 m3=(
 (List.length m1=List.length m1∧TlR (s1,w1,m1))∧(zaj false (s1,w1,m1)=true→List.length m2=List.length m2∧TlR (s2,w2,m2))∧((bif zaj false (s1,w1,m1) then zaj false (s2,w2,m2) else false)=true→List.length
 m3=List.length m3∧TlR (s3,w3,m3))∧(zb5 ((s1,w1,m1),(s2,w2,m2),s3,w3,m3)=bif bif zaj false (s1,w1,m1) then zaj false (s2,w2,m2) else false then zaj true (s3,w3,m3) else false)∧m1=m1∧m2=m2∧m3=m3):=by kernel_rfl
theorem ztl(s1 w1:Int)(m1:Es)(s2 w2:Int)(m2:Es)(s3 w3:Int)(m3:Es):yhx s1 w1 m1 s2 w2 m2 s3 w3 m3=(
 (List.length m1=List.length m1∧SzR (List.length m1))∧(List.length m2=List.length m2∧SzR (List.length m2))∧(List.length m3=List.length m3∧SzR (List.length m3))∧s1=s1∧w1=w1∧(0:Nat)=0∧List.length m1 =
 List.length m1∧s2=s2∧w2=w2∧(0:Nat)=0∧List.length m2=List.length m2∧s3=s3∧w3=w3∧(0:Nat)=0∧List.length m3=List.length m3∧m1=m1∧m2=m2∧m3=m3∧m1=m1∧m2=m2∧m3=m3):=by kernel_rfl
theorem zuj(s1 w1:Int)(m1:Es)(s2 w2:Int)(m2:Es)(s3 w3:Int)(m3:Es):yi1 s1 w1 m1 s2 w2 m2 s3 w3 m3=(
 (List.length m1=List.length m1∧TlR (s1,w1,m1))∧(zaj false (s1,w1,m1)=true→List.length m2=List.length m2∧TlR (s2,w2,m2))∧((bif zaj false (s1,w1,m1) then zaj false (s2,w2,m2) else false)=true→List.length
 m3=List.length m3∧TlR (s3,w3,m3))∧(zb5 ((s1,w1,m1),(s2,w2,m2),s3,w3,m3)=bif bif zaj false (s1,w1,m1) then zaj false (s2,w2,m2) else false then zaj true (s3,w3,m3) else false)∧m1=m1∧m2=m2∧m3=m3):=by kernel_rfl
theorem zqr(s1 w1:Int)(m1:Es)(s2 w2:Int)(m2:Es)(s3 w3:Int)(m3:Es):yb7 s1 w1 m1 s2 w2 m2 s3 w3 m3=(
 (List.length m1=List.length m1∧SzR (List.length m1))∧(List.length m2=List.length m2∧SzR (List.length m2))∧(List.length m3=List.length m3∧SzR (List.length m3))∧s1=s1∧w1=w1∧(0:Nat)=0∧List.length m1 =
 List.length m1∧s2=s2∧w2=w2∧(0:Nat)=0∧List.length m2=List.length m2∧s3=s3∧w3=w3∧(0:Nat)=0∧List.length m3=List.length m3∧m1=m1∧m2=m2∧m3=m3∧m1=m1∧m2=m2∧m3=m3):=by kernel_rfl
theorem zui(l va s p:Int):yi0 l va s p=(
 (U64 va∧LvR l)∧U64 s∧zhw (p,5)∧(zbo l va s p).fst=true∧(zbo l va s p).snd.fst=l∧(zbo l va s p).snd.snd.fst=zkk va l∧(zbo l va s p).snd.snd.snd.fst=zav s∧(zbo l va s p).snd.snd.snd.snd.fst=za0 p
 5∧(zbo l va s p).snd.snd.snd.snd.snd=p):=by kernel_rfl
theorem zou(m:By)(c0:Int)(c1 c2:Bool)(c3:Int)(s1 w1:Int)(m1:Es)(s2 w2:Int)(m2:Es)(s3 w3:Int)(m3:Es)(kind va pick:Int)(e pa:Int)(t1 u1:Int)(n1:Es)(t2 u2:Int)(n2:Es)(t3 u3:Int)(n3:Es):ysr m c0 c1 c2 c3 s1 w1 m1 s2 w2 m2 s3 w3 m3 kind va pick e pa t1 u1 n1 t2 u2 n2 t3 u3 n3=(
 let A0(a b:Int)(c:Es):=(a,b,c);
 let A1:=(c0,c1,c2,c3);
 let A2(a b:Es):=List.length a=List.length b;
 let A3:=(trM m A1 (A0 s1 w1 m1,A0 s2 w2 m2,A0 s3 w3 m3) kind va pick).snd;
 let A4(a b c:Prop):=a∧b∧c;
 let A5(a b c d e:Prop):=A4 a b (A4 c d e);
 let A6:=(0:Nat)=0;
 let A7:=A3.snd.snd.snd;
 let A8(a b:Bool):=bif a then true else b;
 let A9:=(A0 s1 w1 m1,A0 s2 w2 m2,A0 s3 w3 m3);
 let Aa(a:Int):=a=0;
 let Ab(a:Es)(b:Tl):=a=b.snd.snd;
 let Ac(a:Int)(b:Tl):=a=b.snd.fst;
 let Ad(a:Es)(b:Tl)(c d e:Prop):=A5 A6 (A2 a b.snd.snd) c d e;
 let Ae(a:Nat):=List.length m=List.length m∧A4 ((List.length m1,List.length m2,List.length m3)=zne (A0 s1 w1 m1) (A0 s2 w2 m2) (A0 s3 w3 m3)) (ytj m A1 A9 kind va pick) (yp8 a (trM m A1 A9 kind va pick));
 let Af:=Int.ofNat 0;
 let Ah:=A7.snd;
 let Ai:=A7.fst;
 let Aj:=A3.snd.snd.fst;
 let Ak(a:Es):=List.length a=0;
 let Al(a:Prop):=Ad n1 Aj (t2=Ai.fst) (Ac u2 Ai) (Ad n2 Ai (t3=Ah.fst) (Ac u3 Ah) a);
 let Am(a b:Int)(c:Es):=TlR (A0 a b c);
 let An(a b c:Prop):=A5 (A2 m2 m2) (A2 m3 m3) a b c;
 let Ao(a:Bool)(b:Int):=true=a→A5 (Aa e) (pa=b) (t1=Aj.fst) (Ac u1 Aj) (Al (Ad n3 Ah (m=m) (m1=m1) (A5 (m2=m2) (m3=m3) (Ab n1 Aj) (Ab n2 Ai) (Ab n3 Ah))));
 let Ap(a:Bool)(b c d e f:Prop):=A8 (A8 (A8 (!zb5 A9) (!zid (c0,c1,c2,c3) kind)) (decide (pick<0))) (decide (pick>255))=a→A5 b c d e f;
 let Aq:=Ae ((0:Nat)+(1:Nat)+1);
 let Ar:=Ae ((0:Nat)+1);
 let Au(a:Prop)(b:Int):=a→((0:Int)≤kind∧kind≤2)∧A5 (e=b) (pa=Af) (t1=Aj.fst) (Ac u1 Aj) (Al (Ad n3 Ah (m=m) (m1=m1) (A5 (m2=m2) (m3=m3) (Ab n1 Aj) (Ab n2 Ai) (Ab n3 Ah))));
 A4 (A2 m1 m1∧An (Am s1 w1 m1) (Am s2 w2 m2) (Am s3 w3 m3)) (Ap true (e=63) (Aa pa) (Aa t1) (Aa u1) (A5 A6 (Ak n1) (Aa t2) (Aa u2) (A5 A6 (Ak n2) (Aa t3) (Aa u3) (A5 A6 (Ak n3) (m=m) (m1=m1) (A5 (m2=m2) (m3=m3) (n1=[])
  (n2=[]) (n3=[])))))) (Ap false (A2 m1 m1∧An (SzR (List.length m1)) (SzR (List.length m2)) (SzR (List.length m3))) (Ae 0∨Ar∨Aq) (Ae 0→A4 ((0:Int)≤kind∧kind≤2) (Ao true A3.fst) (Ao false Af)) (Au Ar
  (afM kind)) (Au Aq (pfM kind)))):=by kernel_rfl
set_option linter.unusedSimpArgs false
theorem zn4{va asid:Int}{m:Es}:∀n:Nat,n≤m.length→(zdk va asid m n=(false,0,0,0))∨∃i,i<n∧zc0 (m.getD i zE) va asid=true∧zdk va asid m n=(true,(i:Int),(m.getD i zE).2.1,(m.getD i zE).2.2.2.2.2)
 | 0,_ => .inl rfl
 | n+1,h=>by
  unfold zdk zcv
  split
  · rename_i q
    simp only[Bool.and_eq_true] at q
    exact .inr ⟨n,by omega,q.1,rfl⟩
  · rcases zn4 (va:=va) (asid:=asid) (m:=m) n (by omega) with e|⟨i,h1,h2,h3⟩
    · exact .inl e
    · exact .inr ⟨i,by omega,h2,h3⟩
theorem zr0{va asid:Int}{m:Es}(h:(zau va asid m).1=true):∃i,i<m.length∧zc0 (m.getD i zE) va asid=true∧zau va asid m=(true,(i:Int),(m.getD i zE).2.1,(m.getD i zE).2.2.2.2.2):=by
 rcases zn4 (va:=va) (asid:=asid) (m:=m) m.length (Nat.le_refl _) with e|e
 · unfold zau at h
   rw[e] at h
   cases h
 · exact e
theorem ybg{p:Bool}{t:Tl}(h:zaj p t=true){i:Nat}(hi:i<t.2.2.length)(hv:(t.2.2.getD i zE).1=true):zcd p (t.2.2.getD i zE)=true:=by
 simp only[zaj,Bool.and_eq_true] at h
 have:=zcl.1 h.2 i hi
 simp only[zk3,Bool.or_eq_true,Bool.and_eq_true] at this
 rcases this with e|e
 · have e:t.2.2.getD i zE=zE:=by simpa using e
   rw[e] at hv
   cases hv
 · exact e.1
theorem yep{p:Bool}{e:En}(h:zcd p e=true):LvR e.2.1∧za7 e.2.2.2.2.2 e.2.1=zuy p:=by
 simp only[zcd,Bool.and_eq_true,decide_eq_true_eq,beq_iff_eq] at h
 exact⟨zeg.1 h.1.1.1.1.2,h.2⟩
theorem zdm{p:Bool}{t:Tl}{va asid:Int}(h:zaj p t=true)(ht:TlR t)(hf:(zau va asid t.2.2).1=true):LvR (zau va asid t.2.2).2.2.1∧U64 (zau va asid t.2.2).2.2.2∧za7 (zau va asid t.2.2).2.2.2 (zau va asid t.2.2).2.2.1=zuy p:=by
 obtain⟨i,hi,hfit,e⟩:=zr0 hf
 rw[e]
 have hv:(t.2.2.getD i zE).1=true:=by
  simp only[zc0,Bool.and_eq_true] at hfit
  exact hfit.1.1
 obtain⟨h1,h2⟩:=yep (ybg h hi hv)
 exact⟨h1,(ht.2.2.2 _ (zlx hi zE)).2.2.2,h2⟩
theorem zpn{p l:Int}(h:za7 p l=1):l≠0:=zy5 (by rw[h];decide) (by rw[h];decide)
theorem zd3{m:By}{satp va:Int}{P:Tl}(hm:zan m)(hv:U64 va)(hP:zaj true P=true)(hR:TlR P):zfp m (zao satp va P).1 (zao satp va P).2 va:=by
 unfold zao
 split
 · rename_i hf
   obtain⟨h1,h2,h3⟩:=zdm hP hR hf
   have h4:=zpn (show za7 _ _=1 from h3)
   obtain⟨g0,g1⟩:=zi0 h2
   exact⟨hm,g0,g1,⟨by have:=h1.1;show 0≤_-1;omega,by have:=h1.2;show _-1≤(2:Int);omega⟩,hv⟩
 · exact⟨hm,Int.emod_nonneg _ (by decide),Int.emod_lt_of_pos _ (by decide),⟨show (0:Int)≤2 by decide,show (2:Int)≤2 by decide⟩,hv⟩
theorem zez{p:Bool}{t:Tl}(h:zaj p t=true):za4 t=true:=by cases p<;>simp[za4,h]
theorem ywx(m:By)(s1 w1:Int)(m1:Es)(s2 w2:Int)(m2:Es)(s3 w3:Int)(m3:Es)(c0:Int)(c1 c2:Bool)(c3 kind va pick:Int)(h:ytj m (c0,c1,c2,c3) ((s1,w1,m1),(s2,w2,m2),(s3,w3,m3)) kind va pick)(hk:kind=0){e:Nat}{pa l:Int}{t1 t2 t3:Es}(hr:trM m (c0,c1,c2,c3) ((s1,w1,m1),(s2,w2,m2),(s3,w3,m3)) kind va pick=(e,pa,l,(s1,w1,t1),(s2,w2,t2),(s3,w3,t3))):ypk m s1 w1 m1 s2 w2 m2 s3 w3 m3 c0 c1 c2 c3 kind va pick e pa l t1 t2 t3:=by
 obtain⟨hm,hc3,hv,hgc,⟨r1,r2,r3⟩,p0,p1, -, -⟩:=h
 have hc3:U64 c3:=hc3
 simp only[zb5,Bool.and_eq_true] at hgc
 obtain⟨⟨g1,g2⟩,g3⟩:=hgc
 have hd1:=zb2 g1
 have hd2:=zb2 g2
 have hd3:=zb2 g3
 have hpick:∀k:Cch,zb4 kind k=k.1:=fun k=>by unfold zb4;rw[if_pos hk]
 have hput:∀(k:Cch)(t:Tl),zmo kind k t=(t,k.2.1,k.2.2):=fun k t=>by unfold zmo;rw[if_pos hk]
 refine zah (yi8 m s1 w1 m1 s2 w2 m2 s3 w3 m3 c0 c1 c2 c3 kind va pick e pa l t1 t2 t3) ?_
 conv=>zeta
 refine⟨hc3,fun q => ?_,fun q=>⟨hv,fun q2 => ?_,fun q2=>⟨by simp[hk],hc3,⟨rfl,zez g1,r1,hv⟩,zau va (zav c3) m1,by simp,fun q3 => ?_,fun q3=>⟨hc3,hc3,⟨rfl,zez g3,r3,hv⟩,zau va (zav c3) m3,by simp,fun q4 => ?_,fun q4 => ?_⟩⟩⟩⟩
 · have q:onM (c0,c1,c2,c3)=false:=by simpa using q
   unfold trM at hr
   rw[if_pos q] at hr
   cases hr
   simp
 · have q:¬ onM (c0,c1,c2,c3)=false:=by simpa using q
   have q2:zef va=false:=by simpa using q2
   unfold trM at hr
   rw[if_neg q,if_pos q2] at hr
   cases hr
   simp
 · have q:¬ onM (c0,c1,c2,c3)=false:=by simpa using q
   have q2:¬ zef va=false:=by simpa using q2
   unfold trM at hr
   rw[if_neg q,if_neg q2,hpick,if_pos q3] at hr
   obtain⟨u1,u2,u3⟩:=zdm g1 r1 q3
   simp only at u1 u2 hr
   generalize zau va (zav c3) m1=H at *
   refine⟨u2,fun g => ?_,fun g=>⟨⟨u2,u1,hv⟩, ?_⟩⟩
   · have g:za3 H.2.2.2 kind c0 c1 c2=false:=by simpa using g
     have hr2:((2,0,H.2.2.1,((s1,w1,m1),(s2,w2,m2),(s3,w3,m3))):TrR)=(e,pa,l,(s1,w1,t1),(s2,w2,t2),(s3,w3,t3)):=by rw[← hr];unfold yal;rw[if_neg (by rw[g];simp)]
     cases hr2
     simp
   · have g:za3 H.2.2.2 kind c0 c1 c2=true:=by simpa using g
     have hr2:((0,zcg H.2.2.2 H.2.2.1 va,0,((s1,w1,m1),(s2,w2,m2),(s3,w3,m3))):TrR)=(e,pa,l,(s1,w1,t1),(s2,w2,t2),(s3,w3,t3)):=by rw[← hr];unfold yal;rw[if_pos g]
     cases hr2
     simp
 · have q:¬ onM (c0,c1,c2,c3)=false:=by simpa using q
   have q2:¬ zef va=false:=by simpa using q2
   unfold trM at hr
   rw[if_neg q,if_neg q2,hpick,if_neg (by rw[q3];simp)] at hr
   unfold ziv at hr
   simp only at hr
   have hst:=zd3 (satp:=c3) hm hv g3 r3
   have es:zao c3 va (s3,w3,m3)=(zcs (zau va (zav c3) m3).2.2.2,(zau va (zav c3) m3).2.2.1-1):=by unfold zao;rw[if_pos q4]
   obtain⟨u1,u2,u3⟩:=zdm g3 r3 q4
   simp only at u1 u2
   have ew:IntKind.i64.wrap ((zau va (zav c3) m3).2.2.1-1)=(zau va (zav c3) m3).2.2.1-1:=zaa (by have:=u1.1;omega) (by have:=u1.2;omega)
   refine⟨u2,zao c3 va (s3,w3,m3),by simp[es,ew], ?_⟩
   clear es
   generalize zao c3 va (s3,w3,m3)=st at *
   have hc:=zb6 m va (st.2+1).toNat st.1
   have hleaf:=zbu (va:=va) hm (st.2+1).toNat st.1
   have hR:zfp m st.1 st.2 va∧zcf s3 w3 m3=true∧U64 c3∧0≤pick∧pick≤255:=⟨hst,hd3,hc3,p0,p1⟩
   generalize za6 m va (st.2+1).toNat st.1=W at *
   refine⟨?_,fun a0 => ?_,fun a0 => ?_,fun a0 => ?_⟩
   · rcases hc with a0|a0|a0
     · exact .inl ⟨rfl,rfl,rfl,hR,a0⟩
     · exact .inr (.inl ⟨rfl,rfl,rfl,hR,a0⟩)
     · exact .inr (.inr ⟨rfl,rfl,rfl,hR,a0⟩)
   · have a0:W.1=1:=a0.2.2.2.2
     obtain⟨u1,u2,u3⟩:=hleaf a0
     have ul:LvR W.2.1:=⟨u2,by have:=hst.2.2.2.1.2;omega⟩
     refine⟨fun _=>u1,fun g => ?_,fun g=>⟨fun g2=>absurd g2 (by decide),fun _=>⟨⟨rfl,hd1,ul,hv,hc3,u1,p0,p1⟩,⟨u1,ul,hv⟩, ?_⟩⟩⟩
     · have g:za3 W.2.2.1 kind c0 c1 c2=false:=by simpa using g
       have hr2:((2,0,W.2.1,(s1,w1,m1),(s2,w2,m2),(s3,w3,(zaf va c3 pick (s3,w3,m3) W.2.2.2).2.2)):TrR)=(e,pa,l,(s1,w1,t1),(s2,w2,t2),(s3,w3,t3)):=by
        rw[← hr];unfold zgg;rw[if_pos a0,if_neg (by rw[g];simp)]
       cases hr2
       simp
     · have g:za3 W.2.2.1 kind c0 c1 c2=true:=by simpa using g
       have hr2:((0,zcg W.2.2.1 W.2.1 va,0,zmo kind ((s1,w1,m1),(s2,w2,m2),(s3,w3,(zaf va c3 pick (s3,w3,m3) W.2.2.2).2.2)) (zed (zb4 kind ((s1,w1,m1),(s2,w2,m2),(s3,w3,(zaf va c3 pick (s3,w3,m3) W.2.2.2).2.2))) (zbo W.2.1 va c3 W.2.2.1) pick)):TrR)=(e,pa,l,(s1,w1,t1),(s2,w2,t2),(s3,w3,t3)):=by
        rw[← hr];unfold zgg;rw[if_pos a0,if_pos g]
       rw[hput,hpick] at hr2
       simp only[Prod.mk.injEq] at hr2
       obtain⟨rfl,rfl, -,h1,h2,h3⟩:=hr2
       obtain⟨-, -,rfl⟩:=h2
       obtain⟨-, -,rfl⟩:=h3
       have h1:(zed (s1,w1,m1) (zbo W.2.1 va c3 W.2.2.1) pick)=(s1,w1,t1):=h1
       have h1':t1=(zed (s1,w1,m1) (zbo W.2.1 va c3 W.2.2.1) pick).2.2:=by rw[h1]
       subst h1'
       simp[zed]
   · have a0:W.1=3:=a0.2.2.2.2
     have hr2:((1,0,W.2.1,(s1,w1,m1),(s2,w2,m2),(s3,w3,(zaf va c3 pick (s3,w3,m3) W.2.2.2).2.2)):TrR)=(e,pa,l,(s1,w1,t1),(s2,w2,t2),(s3,w3,t3)):=by
      rw[← hr];unfold zgg;rw[if_neg (by rw[a0];decide),if_pos a0]
     cases hr2
     simp
   · have a0:W.1=2:=a0.2.2.2.2
     have hr2:((2,0,W.2.1,(s1,w1,m1),(s2,w2,m2),(s3,w3,(zaf va c3 pick (s3,w3,m3) W.2.2.2).2.2)):TrR)=(e,pa,l,(s1,w1,t1),(s2,w2,t2),(s3,w3,t3)):=by
      rw[← hr];unfold zgg;rw[if_neg (by rw[a0];decide),if_neg (by rw[a0];decide)]
     cases hr2
     simp
 · have q:¬ onM (c0,c1,c2,c3)=false:=by simpa using q
   have q2:¬ zef va=false:=by simpa using q2
   unfold trM at hr
   rw[if_neg q,if_neg q2,hpick,if_neg (by rw[q3];simp)] at hr
   unfold ziv at hr
   simp only at hr
   have hst:=zd3 (satp:=c3) hm hv g3 r3
   have es:zao c3 va (s3,w3,m3)=(ze4 c3,2):=by unfold zao;rw[if_neg (by rw[q4];simp)]
   refine⟨zao c3 va (s3,w3,m3),by simp[es], ?_⟩
   clear es
   generalize zao c3 va (s3,w3,m3)=st at *
   have hc:=zb6 m va (st.2+1).toNat st.1
   have hleaf:=zbu (va:=va) hm (st.2+1).toNat st.1
   have hR:zfp m st.1 st.2 va∧zcf s3 w3 m3=true∧U64 c3∧0≤pick∧pick≤255:=⟨hst,hd3,hc3,p0,p1⟩
   generalize za6 m va (st.2+1).toNat st.1=W at *
   refine⟨?_,fun a0 => ?_,fun a0 => ?_,fun a0 => ?_⟩
   · rcases hc with a0|a0|a0
     · exact .inl ⟨rfl,rfl,rfl,hR,a0⟩
     · exact .inr (.inl ⟨rfl,rfl,rfl,hR,a0⟩)
     · exact .inr (.inr ⟨rfl,rfl,rfl,hR,a0⟩)
   · have a0:W.1=1:=a0.2.2.2.2
     obtain⟨u1,u2,u3⟩:=hleaf a0
     have ul:LvR W.2.1:=⟨u2,by have:=hst.2.2.2.1.2;omega⟩
     refine⟨fun _=>u1,fun g => ?_,fun g=>⟨fun g2=>absurd g2 (by decide),fun _=>⟨⟨rfl,hd1,ul,hv,hc3,u1,p0,p1⟩,⟨u1,ul,hv⟩, ?_⟩⟩⟩
     · have g:za3 W.2.2.1 kind c0 c1 c2=false:=by simpa using g
       have hr2:((2,0,W.2.1,(s1,w1,m1),(s2,w2,m2),(s3,w3,(zaf va c3 pick (s3,w3,m3) W.2.2.2).2.2)):TrR)=(e,pa,l,(s1,w1,t1),(s2,w2,t2),(s3,w3,t3)):=by
        rw[← hr];unfold zgg;rw[if_pos a0,if_neg (by rw[g];simp)]
       cases hr2
       simp
     · have g:za3 W.2.2.1 kind c0 c1 c2=true:=by simpa using g
       have hr2:((0,zcg W.2.2.1 W.2.1 va,0,zmo kind ((s1,w1,m1),(s2,w2,m2),(s3,w3,(zaf va c3 pick (s3,w3,m3) W.2.2.2).2.2)) (zed (zb4 kind ((s1,w1,m1),(s2,w2,m2),(s3,w3,(zaf va c3 pick (s3,w3,m3) W.2.2.2).2.2))) (zbo W.2.1 va c3 W.2.2.1) pick)):TrR)=(e,pa,l,(s1,w1,t1),(s2,w2,t2),(s3,w3,t3)):=by
        rw[← hr];unfold zgg;rw[if_pos a0,if_pos g]
       rw[hput,hpick] at hr2
       simp only[Prod.mk.injEq] at hr2
       obtain⟨rfl,rfl, -,h1,h2,h3⟩:=hr2
       obtain⟨-, -,rfl⟩:=h2
       obtain⟨-, -,rfl⟩:=h3
       have h1:(zed (s1,w1,m1) (zbo W.2.1 va c3 W.2.2.1) pick)=(s1,w1,t1):=h1
       have h1':t1=(zed (s1,w1,m1) (zbo W.2.1 va c3 W.2.2.1) pick).2.2:=by rw[h1]
       subst h1'
       simp[zed]
   · have a0:W.1=3:=a0.2.2.2.2
     have hr2:((1,0,W.2.1,(s1,w1,m1),(s2,w2,m2),(s3,w3,(zaf va c3 pick (s3,w3,m3) W.2.2.2).2.2)):TrR)=(e,pa,l,(s1,w1,t1),(s2,w2,t2),(s3,w3,t3)):=by
      rw[← hr];unfold zgg;rw[if_neg (by rw[a0];decide),if_pos a0]
     cases hr2
     simp
   · have a0:W.1=2:=a0.2.2.2.2
     have hr2:((2,0,W.2.1,(s1,w1,m1),(s2,w2,m2),(s3,w3,(zaf va c3 pick (s3,w3,m3) W.2.2.2).2.2)):TrR)=(e,pa,l,(s1,w1,t1),(s2,w2,t2),(s3,w3,t3)):=by
      rw[← hr];unfold zgg;rw[if_neg (by rw[a0];decide),if_neg (by rw[a0];decide)]
     cases hr2
     simp
theorem yww(m:By)(s1 w1:Int)(m1:Es)(s2 w2:Int)(m2:Es)(s3 w3:Int)(m3:Es)(c0:Int)(c1 c2:Bool)(c3 kind va pick:Int)(h:ytj m (c0,c1,c2,c3) ((s1,w1,m1),(s2,w2,m2),(s3,w3,m3)) kind va pick)(hk:kind≠0){e:Nat}{pa l:Int}{t1 t2 t3:Es}(hr:trM m (c0,c1,c2,c3) ((s1,w1,m1),(s2,w2,m2),(s3,w3,m3)) kind va pick=(e,pa,l,(s1,w1,t1),(s2,w2,t2),(s3,w3,t3))):ypj m s1 w1 m1 s2 w2 m2 s3 w3 m3 c0 c1 c2 c3 kind va pick e pa l t1 t2 t3:=by
 obtain⟨hm,hc3,hv,hgc,⟨r1,r2,r3⟩,p0,p1, -, -⟩:=h
 have hc3:U64 c3:=hc3
 simp only[zb5,Bool.and_eq_true] at hgc
 obtain⟨⟨g1,g2⟩,g3⟩:=hgc
 have hd1:=zb2 g1
 have hd2:=zb2 g2
 have hd3:=zb2 g3
 have hpick:∀k:Cch,zb4 kind k=k.2.1:=fun k=>by unfold zb4;rw[if_neg hk]
 have hput:∀(k:Cch)(t:Tl),zmo kind k t=(k.1,t,k.2.2):=fun k t=>by unfold zmo;rw[if_neg hk]
 refine zah (yi7 m s1 w1 m1 s2 w2 m2 s3 w3 m3 c0 c1 c2 c3 kind va pick e pa l t1 t2 t3) ?_
 conv=>zeta
 refine⟨hc3,fun q => ?_,fun q=>⟨hv,fun q2 => ?_,fun q2=>⟨by simp[hk],hc3,⟨rfl,zez g2,r2,hv⟩,zau va (zav c3) m2,by simp,fun q3 => ?_,fun q3=>⟨hc3,hc3,⟨rfl,zez g3,r3,hv⟩,zau va (zav c3) m3,by simp,fun q4 => ?_,fun q4 => ?_⟩⟩⟩⟩
 · have q:onM (c0,c1,c2,c3)=false:=by simpa using q
   unfold trM at hr
   rw[if_pos q] at hr
   cases hr
   simp
 · have q:¬ onM (c0,c1,c2,c3)=false:=by simpa using q
   have q2:zef va=false:=by simpa using q2
   unfold trM at hr
   rw[if_neg q,if_pos q2] at hr
   cases hr
   simp
 · have q:¬ onM (c0,c1,c2,c3)=false:=by simpa using q
   have q2:¬ zef va=false:=by simpa using q2
   unfold trM at hr
   rw[if_neg q,if_neg q2,hpick,if_pos q3] at hr
   obtain⟨u1,u2,u3⟩:=zdm g2 r2 q3
   simp only at u1 u2 hr
   generalize zau va (zav c3) m2=H at *
   refine⟨u2,fun g => ?_,fun g=>⟨⟨u2,u1,hv⟩, ?_⟩⟩
   · have g:za3 H.2.2.2 kind c0 c1 c2=false:=by simpa using g
     have hr2:((2,0,H.2.2.1,((s1,w1,m1),(s2,w2,m2),(s3,w3,m3))):TrR)=(e,pa,l,(s1,w1,t1),(s2,w2,t2),(s3,w3,t3)):=by rw[← hr];unfold yal;rw[if_neg (by rw[g];simp)]
     cases hr2
     simp
   · have g:za3 H.2.2.2 kind c0 c1 c2=true:=by simpa using g
     have hr2:((0,zcg H.2.2.2 H.2.2.1 va,0,((s1,w1,m1),(s2,w2,m2),(s3,w3,m3))):TrR)=(e,pa,l,(s1,w1,t1),(s2,w2,t2),(s3,w3,t3)):=by rw[← hr];unfold yal;rw[if_pos g]
     cases hr2
     simp
 · have q:¬ onM (c0,c1,c2,c3)=false:=by simpa using q
   have q2:¬ zef va=false:=by simpa using q2
   unfold trM at hr
   rw[if_neg q,if_neg q2,hpick,if_neg (by rw[q3];simp)] at hr
   unfold ziv at hr
   simp only at hr
   have hst:=zd3 (satp:=c3) hm hv g3 r3
   have es:zao c3 va (s3,w3,m3)=(zcs (zau va (zav c3) m3).2.2.2,(zau va (zav c3) m3).2.2.1-1):=by unfold zao;rw[if_pos q4]
   obtain⟨u1,u2,u3⟩:=zdm g3 r3 q4
   simp only at u1 u2
   have ew:IntKind.i64.wrap ((zau va (zav c3) m3).2.2.1-1)=(zau va (zav c3) m3).2.2.1-1:=zaa (by have:=u1.1;omega) (by have:=u1.2;omega)
   refine⟨u2,zao c3 va (s3,w3,m3),by simp[es,ew], ?_⟩
   clear es
   generalize zao c3 va (s3,w3,m3)=st at *
   have hc:=zb6 m va (st.2+1).toNat st.1
   have hleaf:=zbu (va:=va) hm (st.2+1).toNat st.1
   have hR:zfp m st.1 st.2 va∧zcf s3 w3 m3=true∧U64 c3∧0≤pick∧pick≤255:=⟨hst,hd3,hc3,p0,p1⟩
   generalize za6 m va (st.2+1).toNat st.1=W at *
   refine⟨?_,fun a0 => ?_,fun a0 => ?_,fun a0 => ?_⟩
   · rcases hc with a0|a0|a0
     · exact .inl ⟨rfl,rfl,rfl,hR,a0⟩
     · exact .inr (.inl ⟨rfl,rfl,rfl,hR,a0⟩)
     · exact .inr (.inr ⟨rfl,rfl,rfl,hR,a0⟩)
   · have a0:W.1=1:=a0.2.2.2.2
     obtain⟨u1,u2,u3⟩:=hleaf a0
     have ul:LvR W.2.1:=⟨u2,by have:=hst.2.2.2.1.2;omega⟩
     refine⟨fun _=>u1,fun g => ?_,fun g=>⟨fun g2=>absurd g2 (by decide),fun _=>⟨⟨rfl,hd2,ul,hv,hc3,u1,p0,p1⟩,⟨u1,ul,hv⟩, ?_⟩⟩⟩
     · have g:za3 W.2.2.1 kind c0 c1 c2=false:=by simpa using g
       have hr2:((2,0,W.2.1,(s1,w1,m1),(s2,w2,m2),(s3,w3,(zaf va c3 pick (s3,w3,m3) W.2.2.2).2.2)):TrR)=(e,pa,l,(s1,w1,t1),(s2,w2,t2),(s3,w3,t3)):=by
        rw[← hr];unfold zgg;rw[if_pos a0,if_neg (by rw[g];simp)]
       cases hr2
       simp
     · have g:za3 W.2.2.1 kind c0 c1 c2=true:=by simpa using g
       have hr2:((0,zcg W.2.2.1 W.2.1 va,0,zmo kind ((s1,w1,m1),(s2,w2,m2),(s3,w3,(zaf va c3 pick (s3,w3,m3) W.2.2.2).2.2)) (zed (zb4 kind ((s1,w1,m1),(s2,w2,m2),(s3,w3,(zaf va c3 pick (s3,w3,m3) W.2.2.2).2.2))) (zbo W.2.1 va c3 W.2.2.1) pick)):TrR)=(e,pa,l,(s1,w1,t1),(s2,w2,t2),(s3,w3,t3)):=by
        rw[← hr];unfold zgg;rw[if_pos a0,if_pos g]
       rw[hput,hpick] at hr2
       simp only[Prod.mk.injEq] at hr2
       obtain⟨rfl,rfl, -,h1,h2,h3⟩:=hr2
       obtain⟨-, -,rfl⟩:=h1
       obtain⟨-, -,rfl⟩:=h3
       have h1:(zed (s2,w2,m2) (zbo W.2.1 va c3 W.2.2.1) pick)=(s2,w2,t2):=h2
       have h1':t2=(zed (s2,w2,m2) (zbo W.2.1 va c3 W.2.2.1) pick).2.2:=by rw[h1]
       subst h1'
       simp[zed]
   · have a0:W.1=3:=a0.2.2.2.2
     have hr2:((1,0,W.2.1,(s1,w1,m1),(s2,w2,m2),(s3,w3,(zaf va c3 pick (s3,w3,m3) W.2.2.2).2.2)):TrR)=(e,pa,l,(s1,w1,t1),(s2,w2,t2),(s3,w3,t3)):=by
      rw[← hr];unfold zgg;rw[if_neg (by rw[a0];decide),if_pos a0]
     cases hr2
     simp
   · have a0:W.1=2:=a0.2.2.2.2
     have hr2:((2,0,W.2.1,(s1,w1,m1),(s2,w2,m2),(s3,w3,(zaf va c3 pick (s3,w3,m3) W.2.2.2).2.2)):TrR)=(e,pa,l,(s1,w1,t1),(s2,w2,t2),(s3,w3,t3)):=by
      rw[← hr];unfold zgg;rw[if_neg (by rw[a0];decide),if_neg (by rw[a0];decide)]
     cases hr2
     simp
 · have q:¬ onM (c0,c1,c2,c3)=false:=by simpa using q
   have q2:¬ zef va=false:=by simpa using q2
   unfold trM at hr
   rw[if_neg q,if_neg q2,hpick,if_neg (by rw[q3];simp)] at hr
   unfold ziv at hr
   simp only at hr
   have hst:=zd3 (satp:=c3) hm hv g3 r3
   have es:zao c3 va (s3,w3,m3)=(ze4 c3,2):=by unfold zao;rw[if_neg (by rw[q4];simp)]
   refine⟨zao c3 va (s3,w3,m3),by simp[es], ?_⟩
   clear es
   generalize zao c3 va (s3,w3,m3)=st at *
   have hc:=zb6 m va (st.2+1).toNat st.1
   have hleaf:=zbu (va:=va) hm (st.2+1).toNat st.1
   have hR:zfp m st.1 st.2 va∧zcf s3 w3 m3=true∧U64 c3∧0≤pick∧pick≤255:=⟨hst,hd3,hc3,p0,p1⟩
   generalize za6 m va (st.2+1).toNat st.1=W at *
   refine⟨?_,fun a0 => ?_,fun a0 => ?_,fun a0 => ?_⟩
   · rcases hc with a0|a0|a0
     · exact .inl ⟨rfl,rfl,rfl,hR,a0⟩
     · exact .inr (.inl ⟨rfl,rfl,rfl,hR,a0⟩)
     · exact .inr (.inr ⟨rfl,rfl,rfl,hR,a0⟩)
   · have a0:W.1=1:=a0.2.2.2.2
     obtain⟨u1,u2,u3⟩:=hleaf a0
     have ul:LvR W.2.1:=⟨u2,by have:=hst.2.2.2.1.2;omega⟩
     refine⟨fun _=>u1,fun g => ?_,fun g=>⟨fun g2=>absurd g2 (by decide),fun _=>⟨⟨rfl,hd2,ul,hv,hc3,u1,p0,p1⟩,⟨u1,ul,hv⟩, ?_⟩⟩⟩
     · have g:za3 W.2.2.1 kind c0 c1 c2=false:=by simpa using g
       have hr2:((2,0,W.2.1,(s1,w1,m1),(s2,w2,m2),(s3,w3,(zaf va c3 pick (s3,w3,m3) W.2.2.2).2.2)):TrR)=(e,pa,l,(s1,w1,t1),(s2,w2,t2),(s3,w3,t3)):=by
        rw[← hr];unfold zgg;rw[if_pos a0,if_neg (by rw[g];simp)]
       cases hr2
       simp
     · have g:za3 W.2.2.1 kind c0 c1 c2=true:=by simpa using g
       have hr2:((0,zcg W.2.2.1 W.2.1 va,0,zmo kind ((s1,w1,m1),(s2,w2,m2),(s3,w3,(zaf va c3 pick (s3,w3,m3) W.2.2.2).2.2)) (zed (zb4 kind ((s1,w1,m1),(s2,w2,m2),(s3,w3,(zaf va c3 pick (s3,w3,m3) W.2.2.2).2.2))) (zbo W.2.1 va c3 W.2.2.1) pick)):TrR)=(e,pa,l,(s1,w1,t1),(s2,w2,t2),(s3,w3,t3)):=by
        rw[← hr];unfold zgg;rw[if_pos a0,if_pos g]
       rw[hput,hpick] at hr2
       simp only[Prod.mk.injEq] at hr2
       obtain⟨rfl,rfl, -,h1,h2,h3⟩:=hr2
       obtain⟨-, -,rfl⟩:=h1
       obtain⟨-, -,rfl⟩:=h3
       have h1:(zed (s2,w2,m2) (zbo W.2.1 va c3 W.2.2.1) pick)=(s2,w2,t2):=h2
       have h1':t2=(zed (s2,w2,m2) (zbo W.2.1 va c3 W.2.2.1) pick).2.2:=by rw[h1]
       subst h1'
       simp[zed]
   · have a0:W.1=3:=a0.2.2.2.2
     have hr2:((1,0,W.2.1,(s1,w1,m1),(s2,w2,m2),(s3,w3,(zaf va c3 pick (s3,w3,m3) W.2.2.2).2.2)):TrR)=(e,pa,l,(s1,w1,t1),(s2,w2,t2),(s3,w3,t3)):=by
      rw[← hr];unfold zgg;rw[if_neg (by rw[a0];decide),if_pos a0]
     cases hr2
     simp
   · have a0:W.1=2:=a0.2.2.2.2
     have hr2:((2,0,W.2.1,(s1,w1,m1),(s2,w2,m2),(s3,w3,(zaf va c3 pick (s3,w3,m3) W.2.2.2).2.2)):TrR)=(e,pa,l,(s1,w1,t1),(s2,w2,t2),(s3,w3,t3)):=by
      rw[← hr];unfold zgg;rw[if_neg (by rw[a0];decide),if_neg (by rw[a0];decide)]
     cases hr2
     simp
theorem zm0(m:By)(c:Ct)(I D P:Tl)(kind va pick:Int):∃e pa l t1 t2 t3,trM m c (I,D,P) kind va pick=(e,pa,l,(I.1,I.2.1,t1),(D.1,D.2.1,t2),(P.1,P.2.1,t3))∧t1.length=I.2.2.length∧t2.length=D.2.2.length∧t3.length=P.2.2.length∧(e=0∨e≠0∧pa=0)∧(e=0∨e=1∨e=2):=by
 have miss:∃e pa l t1 t2 t3,ziv m c (I,D,P) kind va pick=(e,pa,l,(I.1,I.2.1,t1),(D.1,D.2.1,t2),(P.1,P.2.1,t3))∧t1.length=I.2.2.length∧t2.length=D.2.2.length∧t3.length=P.2.2.length∧(e=0∨e≠0∧pa=0)∧(e=0∨e=1∨e=2):=by
  unfold ziv
  generalize za6 m va _ _=W
  obtain⟨-, -,kl⟩:=zb0 va c.2.2.2 pick W.2.2.2 P
  unfold zgg
  split
  · split
    · unfold zmo zb4
      split
      · exact⟨_,_,_,_,_,_,rfl,by simp[zed,zb8],rfl,kl,.inl rfl,.inl rfl⟩
      · exact⟨_,_,_,_,_,_,rfl,rfl,by simp[zed,zb8],kl,.inl rfl,.inl rfl⟩
    · exact⟨_,_,_,_,_,_,rfl,rfl,rfl,kl,.inr ⟨by decide,rfl⟩,.inr (.inr rfl)⟩
  · split
    · exact⟨_,_,_,_,_,_,rfl,rfl,rfl,kl,.inr ⟨by decide,rfl⟩,.inr (.inl rfl)⟩
    · exact⟨_,_,_,_,_,_,rfl,rfl,rfl,kl,.inr ⟨by decide,rfl⟩,.inr (.inr rfl)⟩
 unfold trM
 split
 · exact⟨_,_,_,_,_,_,rfl,rfl,rfl,rfl,.inl rfl,.inl rfl⟩
 · split
   · exact⟨_,_,_,_,_,_,rfl,rfl,rfl,rfl,.inr ⟨by decide,rfl⟩,.inr (.inr rfl)⟩
   · split
     · unfold yal
       split
       · exact⟨_,_,_,_,_,_,rfl,rfl,rfl,rfl,.inl rfl,.inl rfl⟩
       · exact⟨_,_,_,_,_,_,rfl,rfl,rfl,rfl,.inr ⟨by decide,rfl⟩,.inr (.inr rfl)⟩
     · exact miss
theorem yt3:DictOk Tryz.prog FX4:=za1 (zy3.append zsf) (.cons (by kernel_rfl) ynn .nil) .nil
theorem ywv(k:Nat):Sound Tryz.prog 132 (trS k):=by
 refine zs8 mixed Tryz.func132 (by kernel_rfl) false yt3 (fun args H p v H' h hp => ?_)
 unfold trS at h
 split at h
 case h_2=>cases h
 rename_i n c0 c1 c2 c3 kind va pick b0 b1 b2 b3 sh m
 split at h
 case isFalse=>cases h
 rename_i hsh
 subst hsh
 split at h
 case h_2=>cases h
 rename_i n3 I D P hg
 simp only[Option.some.injEq,Prod.mk.injEq] at h
 obtain⟨rfl,rfl,rfl⟩:=h
 obtain⟨rfl,rfl,ht,hk⟩:n=m.length∧n3=zne I D P∧ytj m (c0,c1,c2,c3) (I,D,P) kind va pick∧yp8 k (trM m (c0,c1,c2,c3) (I,D,P) kind va pick):=hp
 have e:=yen hg
 have e2:[b0,b1,b2,b3,Blk.arr [.i .u8] m false]=trH m (I,D,P):=by
  have:[b0,b1,b2,b3,Blk.arr [.i .u8] m false]=[b0,b1,b2,b3]++[Blk.arr [.i .u8] m false]:=rfl
  rw[this,e];rfl
 rw[e2]
 clear e e2 hg
 obtain⟨s1,w1,m1⟩:=I
 obtain⟨s2,w2,m2⟩:=D
 obtain⟨s3,w3,m3⟩:=P
 obtain⟨e,pa,l,t1,t2,t3,hr, -⟩:=zm0 m (c0,c1,c2,c3) (s1,w1,m1) (s2,w2,m2) (s3,w3,m3) kind va pick
 rw[hr] at hk ⊢
 have outs:∀o ∈ trO m (e,pa,l,(s1,w1,t1),(s2,w2,t2),(s3,w3,t3)),o.out→o.pan=false∧o.v = .tup [.v (.int .u64 pa),yuz k l]∧o.H=trH m ((s1,w1,t1),(s2,w2,t2),(s3,w3,t3)):=by
  intro o ho hout
  simp only[trO,List.mem_cons,List.not_mem_nil,or_false] at ho
  match k,hk with
  | 0,hk =>
   have hk:e=0:=hk
   subst hk
   rcases ho with rfl|rfl|rfl
   · exact⟨rfl,rfl,rfl⟩
   · exact absurd (show (0:Nat)=1 from hout) (by decide)
   · exact absurd (show (0:Nat)=2 from hout) (by decide)
  | 1,hk =>
   have hk:e=1:=hk
   subst hk
   rcases ho with rfl|rfl|rfl
   · exact absurd (show (1:Nat)=0 from hout) (by decide)
   · exact⟨rfl,rfl,rfl⟩
   · exact absurd (show (1:Nat)=2 from hout) (by decide)
  | k+2,hk =>
   have hk:e=2:=hk
   subst hk
   rcases ho with rfl|rfl|rfl
   · exact absurd (show (2:Nat)=0 from hout) (by decide)
   · exact absurd (show (2:Nat)=1 from hout) (by decide)
   · exact⟨rfl,rfl,rfl⟩
 by_cases hkd:kind=0
 · exact⟨_,_,zoc (by kernel_rfl),ywx m s1 w1 m1 s2 w2 m2 s3 w3 m3 c0 c1 c2 c3 kind va pick ht hkd hr,outs⟩
 · exact⟨_,_,zoc (by kernel_rfl),yww m s1 w1 m1 s2 w2 m2 s3 w3 m3 c0 c1 c2 c3 kind va pick ht hkd hr,outs⟩
theorem yfc:zay Tryz.prog kY0:=(ye9.append zy3).append zsf
theorem zq8:DictOk Tryz.prog FY0:=za1 yfc (.cons (by kernel_rfl) (fun k=>zi9 (ywv k)) .nil) .nil
theorem zr5(I D P:Tl):zb5 (I,D,P)=bif bif zaj false I then zaj false D else false then zaj true P else false:=by simp[zb5]
theorem yd5:Sound Tryz.prog 129 (zag [chP] [bl] (fun x=>some (ChR (toC x))) (fun x=>zb5 (toC x))):=by
 refine zad mixed Tryz.func129 (by kernel_rfl) (by kernel_rfl) zq8 (fun t h => ?_)
 obtain⟨s1,w1,m1,s2,w2,m2,s3,w3,m3⟩:Cf:=t
 obtain⟨h1,h2,h3⟩:TlR (s1,w1,m1)∧TlR (s2,w2,m2)∧TlR (s3,w3,m3):=h
 exact zah (ztm s1 w1 m1 s2 w2 m2 s3 w3 m3) (by rw[zr5];simp[h1,h2,h3])
theorem yg6:Sound Tryz.prog 119 (zag [chP] [bl] (fun x=>some (ChR (toC x))) (fun x=>zb5 (toC x))):=by
 refine zad mixed Tryz.func119 (by kernel_rfl) (by kernel_rfl) zq8 (fun t h => ?_)
 obtain⟨s1,w1,m1,s2,w2,m2,s3,w3,m3⟩:Cf:=t
 obtain⟨h1,h2,h3⟩:TlR (s1,w1,m1)∧TlR (s2,w2,m2)∧TlR (s3,w3,m3):=h
 exact zah (zuj s1 w1 m1 s2 w2 m2 s3 w3 m3) (by rw[zr5];simp[h1,h2,h3])
theorem yd2:Sound Tryz.prog 131 (zag [chP] [chP] (fun x=>some (SzC (toC x))) (fun x=>x)):=by
 refine zad mixed Tryz.func131 (by kernel_rfl) (by kernel_rfl) zq8 (fun t h => ?_)
 obtain⟨s1,w1,m1,s2,w2,m2,s3,w3,m3⟩:Cf:=t
 obtain⟨h1,h2,h3⟩:SzR m1.length∧SzR m2.length∧SzR m3.length:=h
 exact zah (ztl s1 w1 m1 s2 w2 m2 s3 w3 m3) (by simp[h1,h2,h3])
theorem ya9:Sound Tryz.prog 120 (zag [chP] [chP] (fun x=>some (SzC (toC x))) (fun x=>x)):=by
 refine zad mixed Tryz.func120 (by kernel_rfl) (by kernel_rfl) zq8 (fun t h => ?_)
 obtain⟨s1,w1,m1,s2,w2,m2,s3,w3,m3⟩:Cf:=t
 obtain⟨h1,h2,h3⟩:SzR m1.length∧SzR m2.length∧SzR m3.length:=h
 exact zah (zqr s1 w1 m1 s2 w2 m2 s3 w3 m3) (by simp[h1,h2,h3])
theorem yg4:Sound Tryz.prog 87 (zag [i64,u64,u64,u64] [enP] (fun t=>some (LvR t.1∧U64 t.2.1∧U64 t.2.2.1∧U64 t.2.2.2)) (fun t=>zbo t.1 t.2.1 t.2.2.1 t.2.2.2)):=by
 refine zad mixed Tryz.func87 (by kernel_rfl) (by kernel_rfl) zq8 (fun t h => ?_)
 obtain⟨l,va,s,p⟩:Int × Int × Int × Int:=t
 obtain⟨h1,h2,h3,h4⟩:LvR l∧U64 va∧U64 s∧U64 p:=h
 exact zah (zui l va s p) ⟨⟨h2,h1⟩,h3,zo8 h4 (by decide) (by decide),rfl,rfl,rfl,rfl,rfl,rfl⟩
theorem zy4:zay Tryz.prog kY1 := .cons (by kernel_rfl) yd5 <| .cons (by kernel_rfl) yd2 <| .cons (by kernel_rfl) yg6 <| .cons (by kernel_rfl) ya9 <| .cons (by kernel_rfl) yg4 <| .nil
theorem yt4:DictOk Tryz.prog FY1:=za1 (zy4.append yfc) (.cons (by kernel_rfl) (fun k=>zi9 (ywv k)) .nil) .nil
theorem yf9(c:Ct)(k:Cch)(kind pick:Int):(bif bif bif !zb5 k then true else !zid c kind then true else decide (pick<0) then true else decide (pick>255)) = !okT c k kind pick:=by
 have e1:decide (0≤pick) = !decide (pick<0):=by
  by_cases h:pick<0
  · have:¬ 0≤pick:=by omega
    simp[h,this]
  · have:0≤pick:=by omega
    simp[h,this]
 have e2:decide (pick≤255) = !decide (pick>255):=by
  by_cases h:pick>255
  · have:¬ pick≤255:=by omega
    simp[h,this]
  · have:pick≤255:=by omega
    simp[h,this]
 unfold okT
 rw[e1,e2]
 cases zb5 k<;>cases zid c kind<;>cases decide (pick<0)<;>cases decide (pick>255)<;>rfl
theorem zjt{c:Ct}{k:Cch}{kind pick:Int}(h:okT c k kind pick=true):zb5 k=true∧zid c kind=true∧0≤pick∧pick≤255:=by
 simp only[okT,Bool.and_eq_true,decide_eq_true_eq] at h
 exact⟨h.1.1.1,h.1.1.2,h.1.2,h.2⟩
theorem yj7{c:Ct}{kind:Int}(h:zid c kind=true):0≤kind∧kind≤2:=by
 simp only[zid,Bool.and_eq_true,decide_eq_true_eq] at h
 exact⟨h.1.1.1,h.1.1.2⟩
theorem yqo:Sound Tryz.prog 39 (zag [byP,zds,chP,i64,u64,i64] [ttP] (fun t=>some (zan t.1∧U64 t.2.1.2.2.2∧ChR (toC t.2.2.1)∧U64 t.2.2.2.2.1)) (fun t=>zgc t.1 t.2.1 t.2.2.1 t.2.2.2.1 t.2.2.2.2.1 t.2.2.2.2.2)):=by
 refine zad mixed Tryz.func39 (by kernel_rfl) (by kernel_rfl) yt4 (fun t h => ?_)
 obtain⟨m,⟨c0,c1,c2,c3⟩,⟨s1,w1,m1,s2,w2,m2,s3,w3,m3⟩,kind,va,pick⟩:By × Ct × Cf × Int × Int × Int:=t
 obtain⟨hm,hc3,⟨r1,r2,r3⟩,hv⟩:zan m∧U64 c3∧(TlR (s1,w1,m1)∧TlR (s2,w2,m2)∧TlR (s3,w3,m3))∧U64 va:=h
 show zal Tryz.prog FY1 .none Tryz.f39 [byP,zds,chP,i64,u64,i64] [ttP] (m,(c0,c1,c2,c3),(s1,w1,m1,s2,w2,m2,s3,w3,m3),kind,va,pick) (zgc m (c0,c1,c2,c3) (s1,w1,m1,s2,w2,m2,s3,w3,m3) kind va pick)
 have el:zgc m (c0,c1,c2,c3) (s1,w1,m1,s2,w2,m2,s3,w3,m3) kind va pick=((zos m (c0,c1,c2,c3) ((s1,w1,m1),(s2,w2,m2),(s3,w3,m3)) kind va pick).1,(zos m (c0,c1,c2,c3) ((s1,w1,m1),(s2,w2,m2),(s3,w3,m3)) kind va pick).2.1,ofC (zos m (c0,c1,c2,c3) ((s1,w1,m1),(s2,w2,m2),(s3,w3,m3)) kind va pick).2.2):=rfl
 rw[el]
 clear el
 by_cases ok:okT (c0,c1,c2,c3) ((s1,w1,m1),(s2,w2,m2),(s3,w3,m3)) kind pick=true
 · obtain⟨o1,o2,o3,o4⟩:=zjt ok
   obtain⟨o5,o6⟩:=yj7 o2
   have ht:ytj m (c0,c1,c2,c3) ((s1,w1,m1),(s2,w2,m2),(s3,w3,m3)) kind va pick:=⟨hm,hc3,hv,o1,⟨r1,r2,r3⟩,o3,o4,o5,o6⟩
   unfold zos
   rw[if_pos ok]
   obtain⟨e,pa,l,t1,t2,t3,hr, -, -, -,hpa,hcode⟩:=zm0 m (c0,c1,c2,c3) (s1,w1,m1) (s2,w2,m2) (s3,w3,m3) kind va pick
   have hq:=zou m c0 c1 c2 c3 s1 w1 m1 s2 w2 m2 s3 w3 m3 kind va pick (zbd e kind) pa s1 w1 t1 s2 w2 t2 s3 w3 t3
   conv at hq=>rhs;zeta
   rw[yf9,ok,hr] at hq
   rw[hr]
   refine zah hq ⟨⟨rfl,rfl,rfl,r1,r2,r3⟩,fun q=>(by cases q),fun _=>⟨⟨rfl,rfl,rfl,r1.2.2.1,r2.2.2.1,r3.2.2.1⟩, ?_,fun a=>⟨⟨o5,o6⟩,fun _ => ?_,fun q=>by cases q⟩,fun a=>⟨⟨o5,o6⟩, ?_⟩,fun a=>⟨⟨o5,o6⟩, ?_⟩⟩⟩
   · rcases hcode with a|a|a
     · exact .inl ⟨rfl,rfl,ht,a⟩
     · exact .inr (.inl ⟨rfl,rfl,ht,a⟩)
     · exact .inr (.inr ⟨rfl,rfl,ht,a⟩)
   · have a:e=0:=a.2.2.2
     simp[a,zbd]
   · have a:e=1:=a.2.2.2
     have hp:pa=0:=by rcases hpa with z|z;(rw[a] at z;cases z);exact z.2
     simp[a,hp,zbd]
   · have a:e=2:=a.2.2.2
     have hp:pa=0:=by rcases hpa with z|z;(rw[a] at z;cases z);exact z.2
     simp[a,hp,zbd]
 · unfold zos
   rw[if_neg ok]
   have ok:okT (c0,c1,c2,c3) ((s1,w1,m1),(s2,w2,m2),(s3,w3,m3)) kind pick=false:=by simpa using ok
   have hq:=zou m c0 c1 c2 c3 s1 w1 m1 s2 w2 m2 s3 w3 m3 kind va pick 63 0 0 0 [] 0 0 [] 0 0 []
   conv at hq=>rhs;zeta
   rw[yf9,ok] at hq
   refine zah hq ⟨⟨rfl,rfl,rfl,r1,r2,r3⟩,fun _ => ?_,fun q=>by cases q⟩
   simp
end Go.Proofs.YtfiddfbagbaofaaGreat.V
