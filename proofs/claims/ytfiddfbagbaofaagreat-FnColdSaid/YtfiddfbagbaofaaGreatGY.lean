/- Translating through caches, and the laws' helpers on caches, answer as their models. Conditions: those in each statement. -/
import Derived.Test.YtfiddfbagbaofaaGreatGX
import Derived.KernelRfl
namespace Go.Proofs.YtfiddfbagbaofaaGreat.V
open Go
def zb3(k:Cch):Bool:=zan false k.1&&zan false k.2.1&&zan true k.2.2
def ChR(k:Cch):Prop:=TlR k.1∧TlR k.2.1∧TlR k.2.2
def ysx(m:By)(c:Ct)(k:Cch)(kind va pick:Int):Prop:=zal m∧U64 c.2.2.2∧U64 va∧zb3 k=true∧ChR k∧0≤pick∧pick≤255∧0≤kind∧kind≤2
def yps(k:Nat)(r:TrR):Prop:=match k with|0=>r.1=0|1=>r.1=1|_=>r.1=2
def trS(k:Nat):Sum:=fun args H=>match args,H with
 | [.ptr 0 0,.sl 4 1 0 n,.agg [.v (.int .i64 c0),.v (.bool c1),.v (.bool c2),.v (.int .u64 c3)],.v (.int .i64 kind),.v (.int .u64 va),.v (.int .i64 pick)],[b0,b1,b2,b3,.arr sh m false] =>
  if h:sh=[.i .u8] then (match getH 0 [b0,b1,b2,b3] with
   | some (n3,I,D,P)=>some (some (n=(h ▸ m:List (El [.i .u8])).length∧n3=znc I D P∧ysx (h ▸ m:List (El [.i .u8])) (c0,c1,c2,c3) (I,D,P) kind va pick∧yps k (trM (h ▸ m:List (El [.i .u8])) (c0,c1,c2,c3) (I,D,P) kind va pick)),
    .tup [.v (.int .u64 (trM (h ▸ m:List (El [.i .u8])) (c0,c1,c2,c3) (I,D,P) kind va pick).2.1),yud k (trM (h ▸ m:List (El [.i .u8])) (c0,c1,c2,c3) (I,D,P) kind va pick).2.2.1],trH (h ▸ m:List (El [.i .u8])) (trM (h ▸ m:List (El [.i .u8])) (c0,c1,c2,c3) (I,D,P) kind va pick).2.2.2)
   | none=>none) else none
 | _,_=>none
abbrev chP:Pm := .st [.i .i64,.i .i64,.sl shE,.i .i64,.i .i64,.sl shE,.i .i64,.i .i64,.sl shE]
abbrev ttP:Pm := .st [.i .i64,.i .u64,.i .i64,.i .i64,.sl shE,.i .i64,.i .i64,.sl shE,.i .i64,.i .i64,.sl shE]
abbrev Cf:=Int × Int × Es × Int × Int × Es × Int × Int × Es
def toC(x:Cf):Cch:=((x.1,x.2.1,x.2.2.1),(x.2.2.2.1,x.2.2.2.2.1,x.2.2.2.2.2.1),(x.2.2.2.2.2.2.1,x.2.2.2.2.2.2.2.1,x.2.2.2.2.2.2.2.2))
def ofC(k:Cch):Cf:=(k.1.1,k.1.2.1,k.1.2.2,k.2.1.1,k.2.1.2.1,k.2.1.2.2,k.2.2.1,k.2.2.2.1,k.2.2.2.2)
def SzC(k:Cch):Prop:=SzR k.1.2.2.length∧SzR k.2.1.2.2.length∧SzR k.2.2.2.2.length
def zbf(e:Nat)(kind:Int):Int:=if e=0 then 0 else if e=1 then afM kind else pfM kind
def okT(c:Ct)(k:Cch)(kind pick:Int):Bool:=zb3 k&&zif c kind&&decide (0≤pick)&&decide (pick≤255)
def zC:Cch:=((0,0,[]),(0,0,[]),(0,0,[]))
def zqa(m:By)(c:Ct)(k:Cch)(kind va pick:Int):Int × Int × Cch:=if okT c k kind pick=true then (zbf (trM m c k kind va pick).1 kind,(trM m c k kind va pick).2.1,(trM m c k kind va pick).2.2.2) else (63,0,zC)
def zgo(m:By)(c:Ct)(x:Cf)(kind va pick:Int):Int × Int × Cf:=((zqa m c (toC x) kind va pick).1,(zqa m c (toC x) kind va pick).2.1,ofC (zqa m c (toC x) kind va pick).2.2)
def kY0:Known:=kJ1++kX2++kN2
def FY0:Dict:=mkD kY0 [(132,(3,fun k=>zx2 9 (trS k)))] []
def yhw(s1 w1:Int)(m1:Es)(s2 w2:Int)(m2:Es)(s3 w3:Int)(m3:Es):Prop:=zam Tryz.prog FY0 .none Tryz.f129 [chP] [bl] (s1,w1,m1,s2,w2,m2,s3,w3,m3) (zb3 ((s1,w1,m1),(s2,w2,m2),(s3,w3,m3)))
def yhu(s1 w1:Int)(m1:Es)(s2 w2:Int)(m2:Es)(s3 w3:Int)(m3:Es):Prop:=zam Tryz.prog FY0 .none Tryz.f131 [chP] [chP] (s1,w1,m1,s2,w2,m2,s3,w3,m3) (s1,w1,m1,s2,w2,m2,s3,w3,m3)
def yix(s1 w1:Int)(m1:Es)(s2 w2:Int)(m2:Es)(s3 w3:Int)(m3:Es):Prop:=zam Tryz.prog FY0 .none Tryz.f119 [chP] [bl] (s1,w1,m1,s2,w2,m2,s3,w3,m3) (zb3 ((s1,w1,m1),(s2,w2,m2),(s3,w3,m3)))
def yb1(s1 w1:Int)(m1:Es)(s2 w2:Int)(m2:Es)(s3 w3:Int)(m3:Es):Prop:=zam Tryz.prog FY0 .none Tryz.f120 [chP] [chP] (s1,w1,m1,s2,w2,m2,s3,w3,m3) (s1,w1,m1,s2,w2,m2,s3,w3,m3)
def yiw(l va s p:Int):Prop:=zam Tryz.prog FY0 .none Tryz.f87 [i64,u64,u64,u64] [enP] (l,va,s,p) (zbt l va s p)
def kY1:Known:=[
 (129,zah [chP] [bl] (fun x=>some (ChR (toC x))) (fun x=>zb3 (toC x))),
 (131,zah [chP] [chP] (fun x=>some (SzC (toC x))) (fun x=>x)),
 (119,zah [chP] [bl] (fun x=>some (ChR (toC x))) (fun x=>zb3 (toC x))),
 (120,zah [chP] [chP] (fun x=>some (SzC (toC x))) (fun x=>x)),
 (87,zah [i64,u64,u64,u64] [enP] (fun t=>some (LvR t.1∧U64 t.2.1∧U64 t.2.2.1∧U64 t.2.2.2)) (fun t=>zbt t.1 t.2.1 t.2.2.1 t.2.2.2)),
 ]
def FY1:Dict:=mkD (kY1++kY0) [(132,(3,fun k=>zx2 9 (trS k)))] []
def yr8(m:By)(c0:Int)(c1 c2:Bool)(c3:Int)(s1 w1:Int)(m1:Es)(s2 w2:Int)(m2:Es)(s3 w3:Int)(m3:Es)(kind va pick:Int)(e pa:Int)(t1 u1:Int)(n1:Es)(t2 u2:Int)(n2:Es)(t3 u3:Int)(n3:Es):Prop:=zam Tryz.prog FY1 .none Tryz.f39 [byP,zdr,chP,i64,u64,i64] [ttP] (m,(c0,c1,c2,c3),(s1,w1,m1,s2,w2,m2,s3,w3,m3),kind,va,pick) (e,pa,t1,u1,n1,t2,u2,n2,t3,u3,n3)
set_option linter.unusedVariables false
theorem ztk(s1 w1:Int)(m1:Es)(s2 w2:Int)(m2:Es)(s3 w3:Int)(m3:Es):yhw s1 w1 m1 s2 w2 m2 s3 w3 m3=(
 (List.length m1=List.length m1∧TlR (s1,w1,m1))∧(zan false (s1,w1,m1)=true→List.length m2=List.length m2∧TlR (s2,w2,m2))∧((bif zan false (s1,w1,m1) then zan false (s2,w2,m2) else false)=true→List.length
 m3=List.length m3∧TlR (s3,w3,m3))∧(zb3 ((s1,w1,m1),(s2,w2,m2),s3,w3,m3)=bif bif zan false (s1,w1,m1) then zan false (s2,w2,m2) else false then zan true (s3,w3,m3) else false)∧m1=m1∧m2=m2∧m3=m3):=by kernel_rfl
theorem ztj(s1 w1:Int)(m1:Es)(s2 w2:Int)(m2:Es)(s3 w3:Int)(m3:Es):yhu s1 w1 m1 s2 w2 m2 s3 w3 m3=(
 (List.length m1=List.length m1∧SzR (List.length m1))∧(List.length m2=List.length m2∧SzR (List.length m2))∧(List.length m3=List.length m3∧SzR (List.length m3))∧s1=s1∧w1=w1∧(0:Nat)=(0:Nat)∧List.length m1 =
 List.length m1∧s2=s2∧w2=w2∧(0:Nat)=(0:Nat)∧List.length m2=List.length m2∧s3=s3∧w3=w3∧(0:Nat)=(0:Nat)∧List.length m3=List.length m3∧m1=m1∧m2=m2∧m3=m3∧m1=m1∧m2=m2∧m3=m3):=by kernel_rfl
theorem zug(s1 w1:Int)(m1:Es)(s2 w2:Int)(m2:Es)(s3 w3:Int)(m3:Es):yix s1 w1 m1 s2 w2 m2 s3 w3 m3=(
 (List.length m1=List.length m1∧TlR (s1,w1,m1))∧(zan false (s1,w1,m1)=true→List.length m2=List.length m2∧TlR (s2,w2,m2))∧((bif zan false (s1,w1,m1) then zan false (s2,w2,m2) else false)=true→List.length
 m3=List.length m3∧TlR (s3,w3,m3))∧(zb3 ((s1,w1,m1),(s2,w2,m2),s3,w3,m3)=bif bif zan false (s1,w1,m1) then zan false (s2,w2,m2) else false then zan true (s3,w3,m3) else false)∧m1=m1∧m2=m2∧m3=m3):=by kernel_rfl
theorem zqq(s1 w1:Int)(m1:Es)(s2 w2:Int)(m2:Es)(s3 w3:Int)(m3:Es):yb1 s1 w1 m1 s2 w2 m2 s3 w3 m3=(
 (List.length m1=List.length m1∧SzR (List.length m1))∧(List.length m2=List.length m2∧SzR (List.length m2))∧(List.length m3=List.length m3∧SzR (List.length m3))∧s1=s1∧w1=w1∧(0:Nat)=(0:Nat)∧List.length m1 =
 List.length m1∧s2=s2∧w2=w2∧(0:Nat)=(0:Nat)∧List.length m2=List.length m2∧s3=s3∧w3=w3∧(0:Nat)=(0:Nat)∧List.length m3=List.length m3∧m1=m1∧m2=m2∧m3=m3∧m1=m1∧m2=m2∧m3=m3):=by kernel_rfl
theorem zuf(l va s p:Int):yiw l va s p=(
 (U64 va∧LvR l)∧U64 s∧zhv (p,(5:Int))∧(zbt l va s p).fst=true∧(zbt l va s p).snd.fst=l∧(zbt l va s p).snd.snd.fst=zkj va l∧(zbt l va s p).snd.snd.snd.fst=za6 s∧(zbt l va s p).snd.snd.snd.snd.fst=zay p
 (5:Int)∧(zbt l va s p).snd.snd.snd.snd.snd=p):=by kernel_rfl
theorem zor(m:By)(c0:Int)(c1 c2:Bool)(c3:Int)(s1 w1:Int)(m1:Es)(s2 w2:Int)(m2:Es)(s3 w3:Int)(m3:Es)(kind va pick:Int)(e pa:Int)(t1 u1:Int)(n1:Es)(t2 u2:Int)(n2:Es)(t3 u3:Int)(n3:Es):yr8 m c0 c1 c2 c3 s1 w1 m1 s2 w2 m2 s3 w3 m3 kind va pick e pa t1 u1 n1 t2 u2 n2 t3 u3 n3=(
 let A0(a b:Int)(c:Es):=(a,b,c);
 let A1:=(c0,c1,c2,c3);
 let A2(a b:Es):=List.length a=List.length b;
 let A3:=(trM m A1 (A0 s1 w1 m1,A0 s2 w2 m2,A0 s3 w3 m3) kind va pick).snd;
 let A4(a b c:Prop):=a∧b∧c;
 let A5(a b c d e:Prop):=A4 a b (A4 c d e);
 let A6:=(0:Nat)=(0:Nat);
 let A7:=A3.snd.snd.snd;
 let A8(a b:Bool):=bif a then true else b;
 let A9:=(A0 s1 w1 m1,A0 s2 w2 m2,A0 s3 w3 m3);
 let Aa(a:Int):=a=(0:Int);
 let Ab(a:Es)(b:Tl):=a=b.snd.snd;
 let Ac(a:Int)(b:Tl):=a=b.snd.fst;
 let Ad(a:Es)(b:Tl)(c d e:Prop):=A5 A6 (A2 a b.snd.snd) c d e;
 let Ae(a:Nat):=List.length m=List.length m∧A4 ((List.length m1,List.length m2,List.length m3)=znc (A0 s1 w1 m1) (A0 s2 w2 m2) (A0 s3 w3 m3)) (ysx m A1 A9 kind va pick) (yps a (trM m A1 A9 kind va pick));
 let Af:=Int.ofNat (0:Nat);
 let Ah:=A7.snd;
 let Ai:=A7.fst;
 let Aj:=A3.snd.snd.fst;
 let Ak(a:Es):=List.length a=(0:Nat);
 let Al(a:Prop):=Ad n1 Aj (t2=Ai.fst) (Ac u2 Ai) (Ad n2 Ai (t3=Ah.fst) (Ac u3 Ah) a);
 let Am(a b:Int)(c:Es):=TlR (A0 a b c);
 let An(a b c:Prop):=A5 (A2 m2 m2) (A2 m3 m3) a b c;
 let Ao(a:Bool)(b:Int):=true=a→A5 (Aa e) (pa=b) (t1=Aj.fst) (Ac u1 Aj) (Al (Ad n3 Ah (m=m) (m1=m1) (A5 (m2=m2) (m3=m3) (Ab n1 Aj) (Ab n2 Ai) (Ab n3 Ah))));
 let Ap(a:Bool)(b c d e f:Prop):=A8 (A8 (A8 (!zb3 A9) (!zif (c0,c1,c2,c3) kind)) (decide (pick<(0:Int)))) (decide (pick>(255:Int)))=a→A5 b c d e f;
 let Aq:=Ae ((0:Nat)+(1:Nat)+(1:Nat));
 let Ar:=Ae ((0:Nat)+(1:Nat));
 let Au(a:Prop)(b:Int):=a→((0:Int)≤kind∧kind≤(2:Int))∧A5 (e=b) (pa=Af) (t1=Aj.fst) (Ac u1 Aj) (Al (Ad n3 Ah (m=m) (m1=m1) (A5 (m2=m2) (m3=m3) (Ab n1 Aj) (Ab n2 Ai) (Ab n3 Ah))));
 A4 (A2 m1 m1∧An (Am s1 w1 m1) (Am s2 w2 m2) (Am s3 w3 m3)) (Ap true (e=(63:Int)) (Aa pa) (Aa t1) (Aa u1) (A5 A6 (Ak n1) (Aa t2) (Aa u2) (A5 A6 (Ak n2) (Aa t3) (Aa u3) (A5 A6 (Ak n3) (m=m) (m1=m1) (A5 (m2=m2) (m3=m3) (n1=[])
  (n2=[]) (n3=[])))))) (Ap false (A2 m1 m1∧An (SzR (List.length m1)) (SzR (List.length m2)) (SzR (List.length m3))) (Ae (0:Nat)∨Ar∨Aq) (Ae (0:Nat)→A4 ((0:Int)≤kind∧kind≤(2:Int)) (Ao true A3.fst) (Ao false Af)) (Au Ar
  (afM kind)) (Au Aq (pfM kind)))):=by kernel_rfl
set_option linter.unusedSimpArgs false
theorem zn1{va asid:Int}{m:Es}:∀n:Nat,n≤m.length→(zd4 va asid m n=(false,0,0,0))∨∃i,i<n∧zdg (m.getD i zE) va asid=true∧zd4 va asid m n=(true,(i:Int),(m.getD i zE).2.1,(m.getD i zE).2.2.2.2.2)
 | 0,_ => .inl rfl
 | n+1,h=>by
  unfold zd4 zc5
  split
  · rename_i q
    simp only[Bool.and_eq_true] at q
    exact .inr ⟨n,by omega,q.1,rfl⟩
  · rcases zn1 (va:=va) (asid:=asid) (m:=m) n (by omega) with e|⟨i,h1,h2,h3⟩
    · exact .inl e
    · exact .inr ⟨i,by omega,h2,h3⟩
theorem yee{va asid:Int}{m:Es}(h:(za1 va asid m).1=true):∃i,i<m.length∧zdg (m.getD i zE) va asid=true∧za1 va asid m=(true,(i:Int),(m.getD i zE).2.1,(m.getD i zE).2.2.2.2.2):=by
 rcases zn1 (va:=va) (asid:=asid) (m:=m) m.length (Nat.le_refl _) with e|e
 · unfold za1 at h
   rw[e] at h
   cases h
 · exact e
theorem yba{p:Bool}{t:Tl}(h:zan p t=true){i:Nat}(hi:i<t.2.2.length)(hv:(t.2.2.getD i zE).1=true):zcb p (t.2.2.getD i zE)=true:=by
 simp only[zan,Bool.and_eq_true] at h
 have:=zch.1 h.2 i hi
 simp only[zk0,Bool.or_eq_true,Bool.and_eq_true] at this
 rcases this with e|e
 · have e:t.2.2.getD i zE=zE:=by simpa using e
   rw[e] at hv
   cases hv
 · exact e.1
theorem yel{p:Bool}{e:En}(h:zcb p e=true):LvR e.2.1∧za4 e.2.2.2.2.2 e.2.1=zuu p:=by
 simp only[zcb,Bool.and_eq_true,decide_eq_true_eq,beq_iff_eq] at h
 exact⟨zec.1 h.1.1.1.1.2,h.2⟩
theorem zdw{p:Bool}{t:Tl}{va asid:Int}(h:zan p t=true)(ht:TlR t)(hf:(za1 va asid t.2.2).1=true):LvR (za1 va asid t.2.2).2.2.1∧U64 (za1 va asid t.2.2).2.2.2∧za4 (za1 va asid t.2.2).2.2.2 (za1 va asid t.2.2).2.2.1=zuu p:=by
 obtain⟨i,hi,hfit,e⟩:=yee hf
 rw[e]
 have hv:(t.2.2.getD i zE).1=true:=by
  simp only[zdg,Bool.and_eq_true] at hfit
  exact hfit.1.1
 obtain⟨h1,h2⟩:=yel (yba h hi hv)
 exact⟨h1,(ht.2.2.2 _ (zlu hi zE)).2.2.2,h2⟩
theorem zpl{p l:Int}(h:za4 p l=1):l≠0:=zyz (by rw[h];decide) (by rw[h];decide)
theorem zel{m:By}{satp va:Int}{P:Tl}(hm:zal m)(hv:U64 va)(hP:zan true P=true)(hR:TlR P):zfn m (zap satp va P).1 (zap satp va P).2 va:=by
 unfold zap
 split
 · rename_i hf
   obtain⟨h1,h2,h3⟩:=zdw hP hR hf
   have h4:=zpl (show za4 _ _=1 from h3)
   obtain⟨g0,g1⟩:=zi0 h2
   exact⟨hm,g0,g1,⟨by have:=h1.1;show 0≤_-1;omega,by have:=h1.2;show _-1≤(2:Int);omega⟩,hv⟩
 · exact⟨hm,Int.emod_nonneg _ (by decide),Int.emod_lt_of_pos _ (by decide),⟨show (0:Int)≤2 by decide,show (2:Int)≤2 by decide⟩,hv⟩
theorem zex{p:Bool}{t:Tl}(h:zan p t=true):zbc t=true:=by cases p<;>simp[zbc,h]
theorem ywa(m:By)(s1 w1:Int)(m1:Es)(s2 w2:Int)(m2:Es)(s3 w3:Int)(m3:Es)(c0:Int)(c1 c2:Bool)(c3 kind va pick:Int)(h:ysx m (c0,c1,c2,c3) ((s1,w1,m1),(s2,w2,m2),(s3,w3,m3)) kind va pick)(hk:kind=0){e:Nat}{pa l:Int}{t1 t2 t3:Es}(hr:trM m (c0,c1,c2,c3) ((s1,w1,m1),(s2,w2,m2),(s3,w3,m3)) kind va pick=(e,pa,l,(s1,w1,t1),(s2,w2,t2),(s3,w3,t3))):yo4 m s1 w1 m1 s2 w2 m2 s3 w3 m3 c0 c1 c2 c3 kind va pick e pa l t1 t2 t3:=by
 obtain⟨hm,hc3,hv,hgc,⟨r1,r2,r3⟩,p0,p1, -, -⟩:=h
 have hc3:U64 c3:=hc3
 simp only[zb3,Bool.and_eq_true] at hgc
 obtain⟨⟨g1,g2⟩,g3⟩:=hgc
 have hd1:=zb4 g1
 have hd2:=zb4 g2
 have hd3:=zb4 g3
 have hpick:∀k:Cch,zed kind k=k.1:=fun k=>by unfold zed;rw[if_pos hk]
 have hput:∀(k:Cch)(t:Tl),zne kind k t=(t,k.2.1,k.2.2):=fun k t=>by unfold zne;rw[if_pos hk]
 refine zag (yi4 m s1 w1 m1 s2 w2 m2 s3 w3 m3 c0 c1 c2 c3 kind va pick e pa l t1 t2 t3) ?_
 conv=>zeta
 refine⟨hc3,fun q => ?_,fun q=>⟨hv,fun q2 => ?_,fun q2=>⟨by simp[hk],hc3,⟨rfl,zex g1,r1,hv⟩,za1 va (za6 c3) m1,by simp,fun q3 => ?_,fun q3=>⟨hc3,hc3,⟨rfl,zex g3,r3,hv⟩,za1 va (za6 c3) m3,by simp,fun q4 => ?_,fun q4 => ?_⟩⟩⟩⟩
 · have q:onM (c0,c1,c2,c3)=false:=by simpa using q
   unfold trM at hr
   rw[if_pos q] at hr
   cases hr
   simp
 · have q:¬ onM (c0,c1,c2,c3)=false:=by simpa using q
   have q2:zef va=false:=by simpa using q2
   unfold trM at hr
   rw[if_neg q,if_pos q2] at hr
   cases hr
   simp
 · have q:¬ onM (c0,c1,c2,c3)=false:=by simpa using q
   have q2:¬ zef va=false:=by simpa using q2
   unfold trM at hr
   rw[if_neg q,if_neg q2,hpick,if_pos q3] at hr
   obtain⟨u1,u2,u3⟩:=zdw g1 r1 q3
   simp only at u1 u2 hr
   generalize za1 va (za6 c3) m1=H at *
   refine⟨u2,fun g => ?_,fun g=>⟨⟨u2,u1,hv⟩, ?_⟩⟩
   · have g:za5 H.2.2.2 kind c0 c1 c2=false:=by simpa using g
     have hr2:((2,0,H.2.2.1,((s1,w1,m1),(s2,w2,m2),(s3,w3,m3))):TrR)=(e,pa,l,(s1,w1,t1),(s2,w2,t2),(s3,w3,t3)):=by rw[← hr];unfold yeu;rw[if_neg (by rw[g];simp)]
     cases hr2
     simp
   · have g:za5 H.2.2.2 kind c0 c1 c2=true:=by simpa using g
     have hr2:((0,zco H.2.2.2 H.2.2.1 va,0,((s1,w1,m1),(s2,w2,m2),(s3,w3,m3))):TrR)=(e,pa,l,(s1,w1,t1),(s2,w2,t2),(s3,w3,t3)):=by rw[← hr];unfold yeu;rw[if_pos g]
     cases hr2
     simp
 · have q:¬ onM (c0,c1,c2,c3)=false:=by simpa using q
   have q2:¬ zef va=false:=by simpa using q2
   unfold trM at hr
   rw[if_neg q,if_neg q2,hpick,if_neg (by rw[q3];simp)] at hr
   unfold zjs at hr
   simp only at hr
   have hst:=zel (satp:=c3) hm hv g3 r3
   have es:zap c3 va (s3,w3,m3)=(zcq (za1 va (za6 c3) m3).2.2.2,(za1 va (za6 c3) m3).2.2.1-1):=by unfold zap;rw[if_pos q4]
   obtain⟨u1,u2,u3⟩:=zdw g3 r3 q4
   simp only at u1 u2
   have ew:IntKind.i64.wrap ((za1 va (za6 c3) m3).2.2.1-1)=(za1 va (za6 c3) m3).2.2.1-1:=zaa (by have:=u1.1;omega) (by have:=u1.2;omega)
   refine⟨u2,zap c3 va (s3,w3,m3),by simp[es,ew], ?_⟩
   clear es
   generalize zap c3 va (s3,w3,m3)=st at *
   have hc:=zb0 m va (st.2+1).toNat st.1
   have hleaf:=zb1 (va:=va) hm (st.2+1).toNat st.1
   have hR:zfn m st.1 st.2 va∧zcc s3 w3 m3=true∧U64 c3∧0≤pick∧pick≤255:=⟨hst,hd3,hc3,p0,p1⟩
   generalize za2 m va (st.2+1).toNat st.1=W at *
   refine⟨?_,fun a0 => ?_,fun a0 => ?_,fun a0 => ?_⟩
   · rcases hc with a0|a0|a0
     · exact .inl ⟨rfl,rfl,rfl,hR,a0⟩
     · exact .inr (.inl ⟨rfl,rfl,rfl,hR,a0⟩)
     · exact .inr (.inr ⟨rfl,rfl,rfl,hR,a0⟩)
   · have a0:W.1=1:=a0.2.2.2.2
     obtain⟨u1,u2,u3⟩:=hleaf a0
     have ul:LvR W.2.1:=⟨u2,by have:=hst.2.2.2.1.2;omega⟩
     refine⟨fun _=>u1,fun g => ?_,fun g=>⟨fun g2=>absurd g2 (by decide),fun _=>⟨⟨rfl,hd1,ul,hv,hc3,u1,p0,p1⟩,⟨u1,ul,hv⟩, ?_⟩⟩⟩
     · have g:za5 W.2.2.1 kind c0 c1 c2=false:=by simpa using g
       have hr2:((2,0,W.2.1,(s1,w1,m1),(s2,w2,m2),(s3,w3,(zaf va c3 pick (s3,w3,m3) W.2.2.2).2.2)):TrR)=(e,pa,l,(s1,w1,t1),(s2,w2,t2),(s3,w3,t3)):=by
        rw[← hr];unfold zfy;rw[if_pos a0,if_neg (by rw[g];simp)]
       cases hr2
       simp
     · have g:za5 W.2.2.1 kind c0 c1 c2=true:=by simpa using g
       have hr2:((0,zco W.2.2.1 W.2.1 va,0,zne kind ((s1,w1,m1),(s2,w2,m2),(s3,w3,(zaf va c3 pick (s3,w3,m3) W.2.2.2).2.2)) (zeb (zed kind ((s1,w1,m1),(s2,w2,m2),(s3,w3,(zaf va c3 pick (s3,w3,m3) W.2.2.2).2.2))) (zbt W.2.1 va c3 W.2.2.1) pick)):TrR)=(e,pa,l,(s1,w1,t1),(s2,w2,t2),(s3,w3,t3)):=by
        rw[← hr];unfold zfy;rw[if_pos a0,if_pos g]
       rw[hput,hpick] at hr2
       simp only[Prod.mk.injEq] at hr2
       obtain⟨rfl,rfl, -,h1,h2,h3⟩:=hr2
       obtain⟨-, -,rfl⟩:=h2
       obtain⟨-, -,rfl⟩:=h3
       have h1:(zeb (s1,w1,m1) (zbt W.2.1 va c3 W.2.2.1) pick)=(s1,w1,t1):=h1
       have h1':t1=(zeb (s1,w1,m1) (zbt W.2.1 va c3 W.2.2.1) pick).2.2:=by rw[h1]
       subst h1'
       simp[zeb]
   · have a0:W.1=3:=a0.2.2.2.2
     have hr2:((1,0,W.2.1,(s1,w1,m1),(s2,w2,m2),(s3,w3,(zaf va c3 pick (s3,w3,m3) W.2.2.2).2.2)):TrR)=(e,pa,l,(s1,w1,t1),(s2,w2,t2),(s3,w3,t3)):=by
      rw[← hr];unfold zfy;rw[if_neg (by rw[a0];decide),if_pos a0]
     cases hr2
     simp
   · have a0:W.1=2:=a0.2.2.2.2
     have hr2:((2,0,W.2.1,(s1,w1,m1),(s2,w2,m2),(s3,w3,(zaf va c3 pick (s3,w3,m3) W.2.2.2).2.2)):TrR)=(e,pa,l,(s1,w1,t1),(s2,w2,t2),(s3,w3,t3)):=by
      rw[← hr];unfold zfy;rw[if_neg (by rw[a0];decide),if_neg (by rw[a0];decide)]
     cases hr2
     simp
 · have q:¬ onM (c0,c1,c2,c3)=false:=by simpa using q
   have q2:¬ zef va=false:=by simpa using q2
   unfold trM at hr
   rw[if_neg q,if_neg q2,hpick,if_neg (by rw[q3];simp)] at hr
   unfold zjs at hr
   simp only at hr
   have hst:=zel (satp:=c3) hm hv g3 r3
   have es:zap c3 va (s3,w3,m3)=(zdo c3,2):=by unfold zap;rw[if_neg (by rw[q4];simp)]
   refine⟨zap c3 va (s3,w3,m3),by simp[es], ?_⟩
   clear es
   generalize zap c3 va (s3,w3,m3)=st at *
   have hc:=zb0 m va (st.2+1).toNat st.1
   have hleaf:=zb1 (va:=va) hm (st.2+1).toNat st.1
   have hR:zfn m st.1 st.2 va∧zcc s3 w3 m3=true∧U64 c3∧0≤pick∧pick≤255:=⟨hst,hd3,hc3,p0,p1⟩
   generalize za2 m va (st.2+1).toNat st.1=W at *
   refine⟨?_,fun a0 => ?_,fun a0 => ?_,fun a0 => ?_⟩
   · rcases hc with a0|a0|a0
     · exact .inl ⟨rfl,rfl,rfl,hR,a0⟩
     · exact .inr (.inl ⟨rfl,rfl,rfl,hR,a0⟩)
     · exact .inr (.inr ⟨rfl,rfl,rfl,hR,a0⟩)
   · have a0:W.1=1:=a0.2.2.2.2
     obtain⟨u1,u2,u3⟩:=hleaf a0
     have ul:LvR W.2.1:=⟨u2,by have:=hst.2.2.2.1.2;omega⟩
     refine⟨fun _=>u1,fun g => ?_,fun g=>⟨fun g2=>absurd g2 (by decide),fun _=>⟨⟨rfl,hd1,ul,hv,hc3,u1,p0,p1⟩,⟨u1,ul,hv⟩, ?_⟩⟩⟩
     · have g:za5 W.2.2.1 kind c0 c1 c2=false:=by simpa using g
       have hr2:((2,0,W.2.1,(s1,w1,m1),(s2,w2,m2),(s3,w3,(zaf va c3 pick (s3,w3,m3) W.2.2.2).2.2)):TrR)=(e,pa,l,(s1,w1,t1),(s2,w2,t2),(s3,w3,t3)):=by
        rw[← hr];unfold zfy;rw[if_pos a0,if_neg (by rw[g];simp)]
       cases hr2
       simp
     · have g:za5 W.2.2.1 kind c0 c1 c2=true:=by simpa using g
       have hr2:((0,zco W.2.2.1 W.2.1 va,0,zne kind ((s1,w1,m1),(s2,w2,m2),(s3,w3,(zaf va c3 pick (s3,w3,m3) W.2.2.2).2.2)) (zeb (zed kind ((s1,w1,m1),(s2,w2,m2),(s3,w3,(zaf va c3 pick (s3,w3,m3) W.2.2.2).2.2))) (zbt W.2.1 va c3 W.2.2.1) pick)):TrR)=(e,pa,l,(s1,w1,t1),(s2,w2,t2),(s3,w3,t3)):=by
        rw[← hr];unfold zfy;rw[if_pos a0,if_pos g]
       rw[hput,hpick] at hr2
       simp only[Prod.mk.injEq] at hr2
       obtain⟨rfl,rfl, -,h1,h2,h3⟩:=hr2
       obtain⟨-, -,rfl⟩:=h2
       obtain⟨-, -,rfl⟩:=h3
       have h1:(zeb (s1,w1,m1) (zbt W.2.1 va c3 W.2.2.1) pick)=(s1,w1,t1):=h1
       have h1':t1=(zeb (s1,w1,m1) (zbt W.2.1 va c3 W.2.2.1) pick).2.2:=by rw[h1]
       subst h1'
       simp[zeb]
   · have a0:W.1=3:=a0.2.2.2.2
     have hr2:((1,0,W.2.1,(s1,w1,m1),(s2,w2,m2),(s3,w3,(zaf va c3 pick (s3,w3,m3) W.2.2.2).2.2)):TrR)=(e,pa,l,(s1,w1,t1),(s2,w2,t2),(s3,w3,t3)):=by
      rw[← hr];unfold zfy;rw[if_neg (by rw[a0];decide),if_pos a0]
     cases hr2
     simp
   · have a0:W.1=2:=a0.2.2.2.2
     have hr2:((2,0,W.2.1,(s1,w1,m1),(s2,w2,m2),(s3,w3,(zaf va c3 pick (s3,w3,m3) W.2.2.2).2.2)):TrR)=(e,pa,l,(s1,w1,t1),(s2,w2,t2),(s3,w3,t3)):=by
      rw[← hr];unfold zfy;rw[if_neg (by rw[a0];decide),if_neg (by rw[a0];decide)]
     cases hr2
     simp
theorem yv9(m:By)(s1 w1:Int)(m1:Es)(s2 w2:Int)(m2:Es)(s3 w3:Int)(m3:Es)(c0:Int)(c1 c2:Bool)(c3 kind va pick:Int)(h:ysx m (c0,c1,c2,c3) ((s1,w1,m1),(s2,w2,m2),(s3,w3,m3)) kind va pick)(hk:kind≠0){e:Nat}{pa l:Int}{t1 t2 t3:Es}(hr:trM m (c0,c1,c2,c3) ((s1,w1,m1),(s2,w2,m2),(s3,w3,m3)) kind va pick=(e,pa,l,(s1,w1,t1),(s2,w2,t2),(s3,w3,t3))):yo3 m s1 w1 m1 s2 w2 m2 s3 w3 m3 c0 c1 c2 c3 kind va pick e pa l t1 t2 t3:=by
 obtain⟨hm,hc3,hv,hgc,⟨r1,r2,r3⟩,p0,p1, -, -⟩:=h
 have hc3:U64 c3:=hc3
 simp only[zb3,Bool.and_eq_true] at hgc
 obtain⟨⟨g1,g2⟩,g3⟩:=hgc
 have hd1:=zb4 g1
 have hd2:=zb4 g2
 have hd3:=zb4 g3
 have hpick:∀k:Cch,zed kind k=k.2.1:=fun k=>by unfold zed;rw[if_neg hk]
 have hput:∀(k:Cch)(t:Tl),zne kind k t=(k.1,t,k.2.2):=fun k t=>by unfold zne;rw[if_neg hk]
 refine zag (yi3 m s1 w1 m1 s2 w2 m2 s3 w3 m3 c0 c1 c2 c3 kind va pick e pa l t1 t2 t3) ?_
 conv=>zeta
 refine⟨hc3,fun q => ?_,fun q=>⟨hv,fun q2 => ?_,fun q2=>⟨by simp[hk],hc3,⟨rfl,zex g2,r2,hv⟩,za1 va (za6 c3) m2,by simp,fun q3 => ?_,fun q3=>⟨hc3,hc3,⟨rfl,zex g3,r3,hv⟩,za1 va (za6 c3) m3,by simp,fun q4 => ?_,fun q4 => ?_⟩⟩⟩⟩
 · have q:onM (c0,c1,c2,c3)=false:=by simpa using q
   unfold trM at hr
   rw[if_pos q] at hr
   cases hr
   simp
 · have q:¬ onM (c0,c1,c2,c3)=false:=by simpa using q
   have q2:zef va=false:=by simpa using q2
   unfold trM at hr
   rw[if_neg q,if_pos q2] at hr
   cases hr
   simp
 · have q:¬ onM (c0,c1,c2,c3)=false:=by simpa using q
   have q2:¬ zef va=false:=by simpa using q2
   unfold trM at hr
   rw[if_neg q,if_neg q2,hpick,if_pos q3] at hr
   obtain⟨u1,u2,u3⟩:=zdw g2 r2 q3
   simp only at u1 u2 hr
   generalize za1 va (za6 c3) m2=H at *
   refine⟨u2,fun g => ?_,fun g=>⟨⟨u2,u1,hv⟩, ?_⟩⟩
   · have g:za5 H.2.2.2 kind c0 c1 c2=false:=by simpa using g
     have hr2:((2,0,H.2.2.1,((s1,w1,m1),(s2,w2,m2),(s3,w3,m3))):TrR)=(e,pa,l,(s1,w1,t1),(s2,w2,t2),(s3,w3,t3)):=by rw[← hr];unfold yeu;rw[if_neg (by rw[g];simp)]
     cases hr2
     simp
   · have g:za5 H.2.2.2 kind c0 c1 c2=true:=by simpa using g
     have hr2:((0,zco H.2.2.2 H.2.2.1 va,0,((s1,w1,m1),(s2,w2,m2),(s3,w3,m3))):TrR)=(e,pa,l,(s1,w1,t1),(s2,w2,t2),(s3,w3,t3)):=by rw[← hr];unfold yeu;rw[if_pos g]
     cases hr2
     simp
 · have q:¬ onM (c0,c1,c2,c3)=false:=by simpa using q
   have q2:¬ zef va=false:=by simpa using q2
   unfold trM at hr
   rw[if_neg q,if_neg q2,hpick,if_neg (by rw[q3];simp)] at hr
   unfold zjs at hr
   simp only at hr
   have hst:=zel (satp:=c3) hm hv g3 r3
   have es:zap c3 va (s3,w3,m3)=(zcq (za1 va (za6 c3) m3).2.2.2,(za1 va (za6 c3) m3).2.2.1-1):=by unfold zap;rw[if_pos q4]
   obtain⟨u1,u2,u3⟩:=zdw g3 r3 q4
   simp only at u1 u2
   have ew:IntKind.i64.wrap ((za1 va (za6 c3) m3).2.2.1-1)=(za1 va (za6 c3) m3).2.2.1-1:=zaa (by have:=u1.1;omega) (by have:=u1.2;omega)
   refine⟨u2,zap c3 va (s3,w3,m3),by simp[es,ew], ?_⟩
   clear es
   generalize zap c3 va (s3,w3,m3)=st at *
   have hc:=zb0 m va (st.2+1).toNat st.1
   have hleaf:=zb1 (va:=va) hm (st.2+1).toNat st.1
   have hR:zfn m st.1 st.2 va∧zcc s3 w3 m3=true∧U64 c3∧0≤pick∧pick≤255:=⟨hst,hd3,hc3,p0,p1⟩
   generalize za2 m va (st.2+1).toNat st.1=W at *
   refine⟨?_,fun a0 => ?_,fun a0 => ?_,fun a0 => ?_⟩
   · rcases hc with a0|a0|a0
     · exact .inl ⟨rfl,rfl,rfl,hR,a0⟩
     · exact .inr (.inl ⟨rfl,rfl,rfl,hR,a0⟩)
     · exact .inr (.inr ⟨rfl,rfl,rfl,hR,a0⟩)
   · have a0:W.1=1:=a0.2.2.2.2
     obtain⟨u1,u2,u3⟩:=hleaf a0
     have ul:LvR W.2.1:=⟨u2,by have:=hst.2.2.2.1.2;omega⟩
     refine⟨fun _=>u1,fun g => ?_,fun g=>⟨fun g2=>absurd g2 (by decide),fun _=>⟨⟨rfl,hd2,ul,hv,hc3,u1,p0,p1⟩,⟨u1,ul,hv⟩, ?_⟩⟩⟩
     · have g:za5 W.2.2.1 kind c0 c1 c2=false:=by simpa using g
       have hr2:((2,0,W.2.1,(s1,w1,m1),(s2,w2,m2),(s3,w3,(zaf va c3 pick (s3,w3,m3) W.2.2.2).2.2)):TrR)=(e,pa,l,(s1,w1,t1),(s2,w2,t2),(s3,w3,t3)):=by
        rw[← hr];unfold zfy;rw[if_pos a0,if_neg (by rw[g];simp)]
       cases hr2
       simp
     · have g:za5 W.2.2.1 kind c0 c1 c2=true:=by simpa using g
       have hr2:((0,zco W.2.2.1 W.2.1 va,0,zne kind ((s1,w1,m1),(s2,w2,m2),(s3,w3,(zaf va c3 pick (s3,w3,m3) W.2.2.2).2.2)) (zeb (zed kind ((s1,w1,m1),(s2,w2,m2),(s3,w3,(zaf va c3 pick (s3,w3,m3) W.2.2.2).2.2))) (zbt W.2.1 va c3 W.2.2.1) pick)):TrR)=(e,pa,l,(s1,w1,t1),(s2,w2,t2),(s3,w3,t3)):=by
        rw[← hr];unfold zfy;rw[if_pos a0,if_pos g]
       rw[hput,hpick] at hr2
       simp only[Prod.mk.injEq] at hr2
       obtain⟨rfl,rfl, -,h1,h2,h3⟩:=hr2
       obtain⟨-, -,rfl⟩:=h1
       obtain⟨-, -,rfl⟩:=h3
       have h1:(zeb (s2,w2,m2) (zbt W.2.1 va c3 W.2.2.1) pick)=(s2,w2,t2):=h2
       have h1':t2=(zeb (s2,w2,m2) (zbt W.2.1 va c3 W.2.2.1) pick).2.2:=by rw[h1]
       subst h1'
       simp[zeb]
   · have a0:W.1=3:=a0.2.2.2.2
     have hr2:((1,0,W.2.1,(s1,w1,m1),(s2,w2,m2),(s3,w3,(zaf va c3 pick (s3,w3,m3) W.2.2.2).2.2)):TrR)=(e,pa,l,(s1,w1,t1),(s2,w2,t2),(s3,w3,t3)):=by
      rw[← hr];unfold zfy;rw[if_neg (by rw[a0];decide),if_pos a0]
     cases hr2
     simp
   · have a0:W.1=2:=a0.2.2.2.2
     have hr2:((2,0,W.2.1,(s1,w1,m1),(s2,w2,m2),(s3,w3,(zaf va c3 pick (s3,w3,m3) W.2.2.2).2.2)):TrR)=(e,pa,l,(s1,w1,t1),(s2,w2,t2),(s3,w3,t3)):=by
      rw[← hr];unfold zfy;rw[if_neg (by rw[a0];decide),if_neg (by rw[a0];decide)]
     cases hr2
     simp
 · have q:¬ onM (c0,c1,c2,c3)=false:=by simpa using q
   have q2:¬ zef va=false:=by simpa using q2
   unfold trM at hr
   rw[if_neg q,if_neg q2,hpick,if_neg (by rw[q3];simp)] at hr
   unfold zjs at hr
   simp only at hr
   have hst:=zel (satp:=c3) hm hv g3 r3
   have es:zap c3 va (s3,w3,m3)=(zdo c3,2):=by unfold zap;rw[if_neg (by rw[q4];simp)]
   refine⟨zap c3 va (s3,w3,m3),by simp[es], ?_⟩
   clear es
   generalize zap c3 va (s3,w3,m3)=st at *
   have hc:=zb0 m va (st.2+1).toNat st.1
   have hleaf:=zb1 (va:=va) hm (st.2+1).toNat st.1
   have hR:zfn m st.1 st.2 va∧zcc s3 w3 m3=true∧U64 c3∧0≤pick∧pick≤255:=⟨hst,hd3,hc3,p0,p1⟩
   generalize za2 m va (st.2+1).toNat st.1=W at *
   refine⟨?_,fun a0 => ?_,fun a0 => ?_,fun a0 => ?_⟩
   · rcases hc with a0|a0|a0
     · exact .inl ⟨rfl,rfl,rfl,hR,a0⟩
     · exact .inr (.inl ⟨rfl,rfl,rfl,hR,a0⟩)
     · exact .inr (.inr ⟨rfl,rfl,rfl,hR,a0⟩)
   · have a0:W.1=1:=a0.2.2.2.2
     obtain⟨u1,u2,u3⟩:=hleaf a0
     have ul:LvR W.2.1:=⟨u2,by have:=hst.2.2.2.1.2;omega⟩
     refine⟨fun _=>u1,fun g => ?_,fun g=>⟨fun g2=>absurd g2 (by decide),fun _=>⟨⟨rfl,hd2,ul,hv,hc3,u1,p0,p1⟩,⟨u1,ul,hv⟩, ?_⟩⟩⟩
     · have g:za5 W.2.2.1 kind c0 c1 c2=false:=by simpa using g
       have hr2:((2,0,W.2.1,(s1,w1,m1),(s2,w2,m2),(s3,w3,(zaf va c3 pick (s3,w3,m3) W.2.2.2).2.2)):TrR)=(e,pa,l,(s1,w1,t1),(s2,w2,t2),(s3,w3,t3)):=by
        rw[← hr];unfold zfy;rw[if_pos a0,if_neg (by rw[g];simp)]
       cases hr2
       simp
     · have g:za5 W.2.2.1 kind c0 c1 c2=true:=by simpa using g
       have hr2:((0,zco W.2.2.1 W.2.1 va,0,zne kind ((s1,w1,m1),(s2,w2,m2),(s3,w3,(zaf va c3 pick (s3,w3,m3) W.2.2.2).2.2)) (zeb (zed kind ((s1,w1,m1),(s2,w2,m2),(s3,w3,(zaf va c3 pick (s3,w3,m3) W.2.2.2).2.2))) (zbt W.2.1 va c3 W.2.2.1) pick)):TrR)=(e,pa,l,(s1,w1,t1),(s2,w2,t2),(s3,w3,t3)):=by
        rw[← hr];unfold zfy;rw[if_pos a0,if_pos g]
       rw[hput,hpick] at hr2
       simp only[Prod.mk.injEq] at hr2
       obtain⟨rfl,rfl, -,h1,h2,h3⟩:=hr2
       obtain⟨-, -,rfl⟩:=h1
       obtain⟨-, -,rfl⟩:=h3
       have h1:(zeb (s2,w2,m2) (zbt W.2.1 va c3 W.2.2.1) pick)=(s2,w2,t2):=h2
       have h1':t2=(zeb (s2,w2,m2) (zbt W.2.1 va c3 W.2.2.1) pick).2.2:=by rw[h1]
       subst h1'
       simp[zeb]
   · have a0:W.1=3:=a0.2.2.2.2
     have hr2:((1,0,W.2.1,(s1,w1,m1),(s2,w2,m2),(s3,w3,(zaf va c3 pick (s3,w3,m3) W.2.2.2).2.2)):TrR)=(e,pa,l,(s1,w1,t1),(s2,w2,t2),(s3,w3,t3)):=by
      rw[← hr];unfold zfy;rw[if_neg (by rw[a0];decide),if_pos a0]
     cases hr2
     simp
   · have a0:W.1=2:=a0.2.2.2.2
     have hr2:((2,0,W.2.1,(s1,w1,m1),(s2,w2,m2),(s3,w3,(zaf va c3 pick (s3,w3,m3) W.2.2.2).2.2)):TrR)=(e,pa,l,(s1,w1,t1),(s2,w2,t2),(s3,w3,t3)):=by
      rw[← hr];unfold zfy;rw[if_neg (by rw[a0];decide),if_neg (by rw[a0];decide)]
     cases hr2
     simp
theorem zmx(m:By)(c:Ct)(I D P:Tl)(kind va pick:Int):∃e pa l t1 t2 t3,trM m c (I,D,P) kind va pick=(e,pa,l,(I.1,I.2.1,t1),(D.1,D.2.1,t2),(P.1,P.2.1,t3))∧t1.length=I.2.2.length∧t2.length=D.2.2.length∧t3.length=P.2.2.length∧(e=0∨e≠0∧pa=0)∧(e=0∨e=1∨e=2):=by
 have miss:∃e pa l t1 t2 t3,zjs m c (I,D,P) kind va pick=(e,pa,l,(I.1,I.2.1,t1),(D.1,D.2.1,t2),(P.1,P.2.1,t3))∧t1.length=I.2.2.length∧t2.length=D.2.2.length∧t3.length=P.2.2.length∧(e=0∨e≠0∧pa=0)∧(e=0∨e=1∨e=2):=by
  unfold zjs
  generalize za2 m va _ _=W
  obtain⟨-, -,kl⟩:=zbz va c.2.2.2 pick W.2.2.2 P
  unfold zfy
  split
  · split
    · unfold zne zed
      split
      · exact⟨_,_,_,_,_,_,rfl,by simp[zeb,zb6],rfl,kl,.inl rfl,.inl rfl⟩
      · exact⟨_,_,_,_,_,_,rfl,rfl,by simp[zeb,zb6],kl,.inl rfl,.inl rfl⟩
    · exact⟨_,_,_,_,_,_,rfl,rfl,rfl,kl,.inr ⟨by decide,rfl⟩,.inr (.inr rfl)⟩
  · split
    · exact⟨_,_,_,_,_,_,rfl,rfl,rfl,kl,.inr ⟨by decide,rfl⟩,.inr (.inl rfl)⟩
    · exact⟨_,_,_,_,_,_,rfl,rfl,rfl,kl,.inr ⟨by decide,rfl⟩,.inr (.inr rfl)⟩
 unfold trM
 split
 · exact⟨_,_,_,_,_,_,rfl,rfl,rfl,rfl,.inl rfl,.inl rfl⟩
 · split
   · exact⟨_,_,_,_,_,_,rfl,rfl,rfl,rfl,.inr ⟨by decide,rfl⟩,.inr (.inr rfl)⟩
   · split
     · unfold yeu
       split
       · exact⟨_,_,_,_,_,_,rfl,rfl,rfl,rfl,.inl rfl,.inl rfl⟩
       · exact⟨_,_,_,_,_,_,rfl,rfl,rfl,rfl,.inr ⟨by decide,rfl⟩,.inr (.inr rfl)⟩
     · exact miss
theorem ytj:DictOk Tryz.prog FX4:=za0 (zyx.append zsc) (.cons (by kernel_rfl) ym8 .nil) .nil
theorem yv8(k:Nat):Sound Tryz.prog 132 (trS k):=by
 refine zs6 mixed Tryz.func132 (by kernel_rfl) false ytj (fun args H p v H' h hp => ?_)
 unfold trS at h
 split at h
 case h_2=>cases h
 rename_i n c0 c1 c2 c3 kind va pick b0 b1 b2 b3 sh m
 split at h
 case isFalse=>cases h
 rename_i hsh
 subst hsh
 split at h
 case h_2=>cases h
 rename_i n3 I D P hg
 simp only[Option.some.injEq,Prod.mk.injEq] at h
 obtain⟨rfl,rfl,rfl⟩:=h
 obtain⟨rfl,rfl,ht,hk⟩:n=m.length∧n3=znc I D P∧ysx m (c0,c1,c2,c3) (I,D,P) kind va pick∧yps k (trM m (c0,c1,c2,c3) (I,D,P) kind va pick):=hp
 have e:=yej hg
 have e2:[b0,b1,b2,b3,Blk.arr [.i .u8] m false]=trH m (I,D,P):=by
  have:[b0,b1,b2,b3,Blk.arr [.i .u8] m false]=[b0,b1,b2,b3]++[Blk.arr [.i .u8] m false]:=rfl
  rw[this,e];rfl
 rw[e2]
 clear e e2 hg
 obtain⟨s1,w1,m1⟩:=I
 obtain⟨s2,w2,m2⟩:=D
 obtain⟨s3,w3,m3⟩:=P
 obtain⟨e,pa,l,t1,t2,t3,hr, -⟩:=zmx m (c0,c1,c2,c3) (s1,w1,m1) (s2,w2,m2) (s3,w3,m3) kind va pick
 rw[hr] at hk ⊢
 have outs:∀o ∈ trO m (e,pa,l,(s1,w1,t1),(s2,w2,t2),(s3,w3,t3)),o.out→o.pan=false∧o.v = .tup [.v (.int .u64 pa),yud k l]∧o.H=trH m ((s1,w1,t1),(s2,w2,t2),(s3,w3,t3)):=by
  intro o ho hout
  simp only[trO,List.mem_cons,List.not_mem_nil,or_false] at ho
  match k,hk with
  | 0,hk =>
   have hk:e=0:=hk
   subst hk
   rcases ho with rfl|rfl|rfl
   · exact⟨rfl,rfl,rfl⟩
   · exact absurd (show (0:Nat)=1 from hout) (by decide)
   · exact absurd (show (0:Nat)=2 from hout) (by decide)
  | 1,hk =>
   have hk:e=1:=hk
   subst hk
   rcases ho with rfl|rfl|rfl
   · exact absurd (show (1:Nat)=0 from hout) (by decide)
   · exact⟨rfl,rfl,rfl⟩
   · exact absurd (show (1:Nat)=2 from hout) (by decide)
  | k+2,hk =>
   have hk:e=2:=hk
   subst hk
   rcases ho with rfl|rfl|rfl
   · exact absurd (show (2:Nat)=0 from hout) (by decide)
   · exact absurd (show (2:Nat)=1 from hout) (by decide)
   · exact⟨rfl,rfl,rfl⟩
 by_cases hkd:kind=0
 · exact⟨_,_,zn8 (by kernel_rfl),ywa m s1 w1 m1 s2 w2 m2 s3 w3 m3 c0 c1 c2 c3 kind va pick ht hkd hr,outs⟩
 · exact⟨_,_,zn8 (by kernel_rfl),yv9 m s1 w1 m1 s2 w2 m2 s3 w3 m3 c0 c1 c2 c3 kind va pick ht hkd hr,outs⟩
theorem ye9:zaw Tryz.prog kY0:=(ye6.append zyx).append zsc
theorem zq5:DictOk Tryz.prog FY0:=za0 ye9 (.cons (by kernel_rfl) (fun k=>zi9 (yv8 k)) .nil) .nil
theorem zr2(I D P:Tl):zb3 (I,D,P)=bif bif zan false I then zan false D else false then zan true P else false:=by simp[zb3]
theorem ydy:Sound Tryz.prog 129 (zah [chP] [bl] (fun x=>some (ChR (toC x))) (fun x=>zb3 (toC x))):=by
 refine zad mixed Tryz.func129 (by kernel_rfl) (by kernel_rfl) zq5 (fun t h => ?_)
 obtain⟨s1,w1,m1,s2,w2,m2,s3,w3,m3⟩:Cf:=t
 obtain⟨h1,h2,h3⟩:TlR (s1,w1,m1)∧TlR (s2,w2,m2)∧TlR (s3,w3,m3):=h
 exact zag (ztk s1 w1 m1 s2 w2 m2 s3 w3 m3) (by rw[zr2];simp[h1,h2,h3])
theorem yg2:Sound Tryz.prog 119 (zah [chP] [bl] (fun x=>some (ChR (toC x))) (fun x=>zb3 (toC x))):=by
 refine zad mixed Tryz.func119 (by kernel_rfl) (by kernel_rfl) zq5 (fun t h => ?_)
 obtain⟨s1,w1,m1,s2,w2,m2,s3,w3,m3⟩:Cf:=t
 obtain⟨h1,h2,h3⟩:TlR (s1,w1,m1)∧TlR (s2,w2,m2)∧TlR (s3,w3,m3):=h
 exact zag (zug s1 w1 m1 s2 w2 m2 s3 w3 m3) (by rw[zr2];simp[h1,h2,h3])
theorem ydv:Sound Tryz.prog 131 (zah [chP] [chP] (fun x=>some (SzC (toC x))) (fun x=>x)):=by
 refine zad mixed Tryz.func131 (by kernel_rfl) (by kernel_rfl) zq5 (fun t h => ?_)
 obtain⟨s1,w1,m1,s2,w2,m2,s3,w3,m3⟩:Cf:=t
 obtain⟨h1,h2,h3⟩:SzR m1.length∧SzR m2.length∧SzR m3.length:=h
 exact zag (ztj s1 w1 m1 s2 w2 m2 s3 w3 m3) (by simp[h1,h2,h3])
theorem ya2:Sound Tryz.prog 120 (zah [chP] [chP] (fun x=>some (SzC (toC x))) (fun x=>x)):=by
 refine zad mixed Tryz.func120 (by kernel_rfl) (by kernel_rfl) zq5 (fun t h => ?_)
 obtain⟨s1,w1,m1,s2,w2,m2,s3,w3,m3⟩:Cf:=t
 obtain⟨h1,h2,h3⟩:SzR m1.length∧SzR m2.length∧SzR m3.length:=h
 exact zag (zqq s1 w1 m1 s2 w2 m2 s3 w3 m3) (by simp[h1,h2,h3])
theorem yg0:Sound Tryz.prog 87 (zah [i64,u64,u64,u64] [enP] (fun t=>some (LvR t.1∧U64 t.2.1∧U64 t.2.2.1∧U64 t.2.2.2)) (fun t=>zbt t.1 t.2.1 t.2.2.1 t.2.2.2)):=by
 refine zad mixed Tryz.func87 (by kernel_rfl) (by kernel_rfl) zq5 (fun t h => ?_)
 obtain⟨l,va,s,p⟩:Int × Int × Int × Int:=t
 obtain⟨h1,h2,h3,h4⟩:LvR l∧U64 va∧U64 s∧U64 p:=h
 exact zag (zuf l va s p) ⟨⟨h2,h1⟩,h3,zo5 h4 (by decide) (by decide),rfl,rfl,rfl,rfl,rfl,rfl⟩
theorem zyy:zaw Tryz.prog kY1 := .cons (by kernel_rfl) ydy <| .cons (by kernel_rfl) ydv <| .cons (by kernel_rfl) yg2 <| .cons (by kernel_rfl) ya2 <| .cons (by kernel_rfl) yg0 <| .nil
theorem ytk:DictOk Tryz.prog FY1:=za0 (zyy.append ye9) (.cons (by kernel_rfl) (fun k=>zi9 (yv8 k)) .nil) .nil
theorem yf5(c:Ct)(k:Cch)(kind pick:Int):(bif bif bif !zb3 k then true else !zif c kind then true else decide (pick<0) then true else decide (pick>255)) = !okT c k kind pick:=by
 have e1:decide (0≤pick) = !decide (pick<0):=by
  by_cases h:pick<0
  · have:¬ 0≤pick:=by omega
    simp[h,this]
  · have:0≤pick:=by omega
    simp[h,this]
 have e2:decide (pick≤255) = !decide (pick>255):=by
  by_cases h:pick>255
  · have:¬ pick≤255:=by omega
    simp[h,this]
  · have:pick≤255:=by omega
    simp[h,this]
 unfold okT
 rw[e1,e2]
 cases zb3 k<;>cases zif c kind<;>cases decide (pick<0)<;>cases decide (pick>255)<;>rfl
theorem zh5{c:Ct}{k:Cch}{kind pick:Int}(h:okT c k kind pick=true):zb3 k=true∧zif c kind=true∧0≤pick∧pick≤255:=by
 simp only[okT,Bool.and_eq_true,decide_eq_true_eq] at h
 exact⟨h.1.1.1,h.1.1.2,h.1.2,h.2⟩
theorem yj1{c:Ct}{kind:Int}(h:zif c kind=true):0≤kind∧kind≤2:=by
 simp only[zif,Bool.and_eq_true,decide_eq_true_eq] at h
 exact⟨h.1.1.1,h.1.1.2⟩
theorem yp7:Sound Tryz.prog 39 (zah [byP,zdr,chP,i64,u64,i64] [ttP] (fun t=>some (zal t.1∧U64 t.2.1.2.2.2∧ChR (toC t.2.2.1)∧U64 t.2.2.2.2.1)) (fun t=>zgo t.1 t.2.1 t.2.2.1 t.2.2.2.1 t.2.2.2.2.1 t.2.2.2.2.2)):=by
 refine zad mixed Tryz.func39 (by kernel_rfl) (by kernel_rfl) ytk (fun t h => ?_)
 obtain⟨m,⟨c0,c1,c2,c3⟩,⟨s1,w1,m1,s2,w2,m2,s3,w3,m3⟩,kind,va,pick⟩:By × Ct × Cf × Int × Int × Int:=t
 obtain⟨hm,hc3,⟨r1,r2,r3⟩,hv⟩:zal m∧U64 c3∧(TlR (s1,w1,m1)∧TlR (s2,w2,m2)∧TlR (s3,w3,m3))∧U64 va:=h
 show zam Tryz.prog FY1 .none Tryz.f39 [byP,zdr,chP,i64,u64,i64] [ttP] (m,(c0,c1,c2,c3),(s1,w1,m1,s2,w2,m2,s3,w3,m3),kind,va,pick) (zgo m (c0,c1,c2,c3) (s1,w1,m1,s2,w2,m2,s3,w3,m3) kind va pick)
 have el:zgo m (c0,c1,c2,c3) (s1,w1,m1,s2,w2,m2,s3,w3,m3) kind va pick=((zqa m (c0,c1,c2,c3) ((s1,w1,m1),(s2,w2,m2),(s3,w3,m3)) kind va pick).1,(zqa m (c0,c1,c2,c3) ((s1,w1,m1),(s2,w2,m2),(s3,w3,m3)) kind va pick).2.1,ofC (zqa m (c0,c1,c2,c3) ((s1,w1,m1),(s2,w2,m2),(s3,w3,m3)) kind va pick).2.2):=rfl
 rw[el]
 clear el
 by_cases ok:okT (c0,c1,c2,c3) ((s1,w1,m1),(s2,w2,m2),(s3,w3,m3)) kind pick=true
 · obtain⟨o1,o2,o3,o4⟩:=zh5 ok
   obtain⟨o5,o6⟩:=yj1 o2
   have ht:ysx m (c0,c1,c2,c3) ((s1,w1,m1),(s2,w2,m2),(s3,w3,m3)) kind va pick:=⟨hm,hc3,hv,o1,⟨r1,r2,r3⟩,o3,o4,o5,o6⟩
   unfold zqa
   rw[if_pos ok]
   obtain⟨e,pa,l,t1,t2,t3,hr, -, -, -,hpa,hcode⟩:=zmx m (c0,c1,c2,c3) (s1,w1,m1) (s2,w2,m2) (s3,w3,m3) kind va pick
   have hq:=zor m c0 c1 c2 c3 s1 w1 m1 s2 w2 m2 s3 w3 m3 kind va pick (zbf e kind) pa s1 w1 t1 s2 w2 t2 s3 w3 t3
   conv at hq=>rhs;zeta
   rw[yf5,ok,hr] at hq
   rw[hr]
   refine zag hq ⟨⟨rfl,rfl,rfl,r1,r2,r3⟩,fun q=>(by cases q),fun _=>⟨⟨rfl,rfl,rfl,r1.2.2.1,r2.2.2.1,r3.2.2.1⟩, ?_,fun a=>⟨⟨o5,o6⟩,fun _ => ?_,fun q=>by cases q⟩,fun a=>⟨⟨o5,o6⟩, ?_⟩,fun a=>⟨⟨o5,o6⟩, ?_⟩⟩⟩
   · rcases hcode with a|a|a
     · exact .inl ⟨rfl,rfl,ht,a⟩
     · exact .inr (.inl ⟨rfl,rfl,ht,a⟩)
     · exact .inr (.inr ⟨rfl,rfl,ht,a⟩)
   · have a:e=0:=a.2.2.2
     simp[a,zbf]
   · have a:e=1:=a.2.2.2
     have hp:pa=0:=by rcases hpa with z|z;(rw[a] at z;cases z);exact z.2
     simp[a,hp,zbf]
   · have a:e=2:=a.2.2.2
     have hp:pa=0:=by rcases hpa with z|z;(rw[a] at z;cases z);exact z.2
     simp[a,hp,zbf]
 · unfold zqa
   rw[if_neg ok]
   have ok:okT (c0,c1,c2,c3) ((s1,w1,m1),(s2,w2,m2),(s3,w3,m3)) kind pick=false:=by simpa using ok
   have hq:=zor m c0 c1 c2 c3 s1 w1 m1 s2 w2 m2 s3 w3 m3 kind va pick 63 0 0 0 [] 0 0 [] 0 0 []
   conv at hq=>rhs;zeta
   rw[yf5,ok] at hq
   refine zag hq ⟨⟨rfl,rfl,rfl,r1,r2,r3⟩,fun _ => ?_,fun q=>by cases q⟩
   simp
end Go.Proofs.YtfiddfbagbaofaaGreat.V
