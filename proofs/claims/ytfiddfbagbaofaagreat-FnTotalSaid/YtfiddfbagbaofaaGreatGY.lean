/- Translating through caches, and the laws' helpers on caches, answer as their models. Conditions: those in each statement. -/
import Derived.Test.YtfiddfbagbaofaaGreatGX
import Derived.KernelRfl
namespace Go.Proofs.YtfiddfbagbaofaaGreat.V
open Go
def zci(k:Cch):Bool:=zat false k.1&&zat false k.2.1&&zat true k.2.2
def ChR(k:Cch):Prop:=TlR k.1∧TlR k.2.1∧TlR k.2.2
def yeu(m:By)(c:Ct)(k:Cch)(kind va pick:Int):Prop:=zaj m∧U64 c.2.2.2∧U64 va∧zci k=true∧ChR k∧0≤pick∧pick≤255∧0≤kind∧kind≤2
def ybt(k:Nat)(r:TrR):Prop:=match k with|0=>r.1=0|1=>r.1=1|_=>r.1=2
def trS(k:Nat):Sum:=fun args H=>match args,H with
 | [.ptr 0 0,.sl 4 1 0 n,.agg [.v (.int .i64 c0),.v (.bool c1),.v (.bool c2),.v (.int .u64 c3)],.v (.int .i64 kind),.v (.int .u64 va),.v (.int .i64 pick)],[b0,b1,b2,b3,.arr sh m false] =>
  if h:sh=[.i .u8] then (match getH 0 [b0,b1,b2,b3] with
   | some (n3,I,D,P)=>some (some (n=(h ▸ m:List (El [.i .u8])).length∧n3=zq8 I D P∧yeu (h ▸ m:List (El [.i .u8])) (c0,c1,c2,c3) (I,D,P) kind va pick∧ybt k (trM (h ▸ m:List (El [.i .u8])) (c0,c1,c2,c3) (I,D,P) kind va pick)),
    .tup [.v (.int .u64 (trM (h ▸ m:List (El [.i .u8])) (c0,c1,c2,c3) (I,D,P) kind va pick).2.1),ymv k (trM (h ▸ m:List (El [.i .u8])) (c0,c1,c2,c3) (I,D,P) kind va pick).2.2.1],trH (h ▸ m:List (El [.i .u8])) (trM (h ▸ m:List (El [.i .u8])) (c0,c1,c2,c3) (I,D,P) kind va pick).2.2.2)
   | none=>none) else none
 | _,_=>none
abbrev chP:Pm := .st [.i .i64,.i .i64,.sl shE,.i .i64,.i .i64,.sl shE,.i .i64,.i .i64,.sl shE]
abbrev ttP:Pm := .st [.i .i64,.i .u64,.i .i64,.i .i64,.sl shE,.i .i64,.i .i64,.sl shE,.i .i64,.i .i64,.sl shE]
abbrev Cf:=Int × Int × Es × Int × Int × Es × Int × Int × Es
def toC(x:Cf):Cch:=((x.1,x.2.1,x.2.2.1),(x.2.2.2.1,x.2.2.2.2.1,x.2.2.2.2.2.1),(x.2.2.2.2.2.2.1,x.2.2.2.2.2.2.2.1,x.2.2.2.2.2.2.2.2))
def ofC(k:Cch):Cf:=(k.1.1,k.1.2.1,k.1.2.2,k.2.1.1,k.2.1.2.1,k.2.1.2.2,k.2.2.1,k.2.2.2.1,k.2.2.2.2)
def SzC(k:Cch):Prop:=SzR k.1.2.2.length∧SzR k.2.1.2.2.length∧SzR k.2.2.2.2.length
def zbn(e:Nat)(kind:Int):Int:=if e=0 then 0 else if e=1 then afM kind else pfM kind
def okT(c:Ct)(k:Cch)(kind pick:Int):Bool:=zci k&&zl8 c kind&&decide (0≤pick)&&decide (pick≤255)
def zC:Cch:=((0,0,[]),(0,0,[]),(0,0,[]))
def yee(m:By)(c:Ct)(k:Cch)(kind va pick:Int):Int × Int × Cch:=if okT c k kind pick=true then (zbn (trM m c k kind va pick).1 kind,(trM m c k kind va pick).2.1,(trM m c k kind va pick).2.2.2) else (63,0,zC)
def zom(m:By)(c:Ct)(x:Cf)(kind va pick:Int):Int × Int × Cf:=((yee m c (toC x) kind va pick).1,(yee m c (toC x) kind va pick).2.1,ofC (yee m c (toC x) kind va pick).2.2)
def kY0:Known:=kJ1++kX2++kN2
def FY0:Dict:=mkD kY0 [(132,(3,fun k=>zn9 9 (trS k)))] []
def ylc(s1 w1:Int)(m1:Es)(s2 w2:Int)(m2:Es)(s3 w3:Int)(m3:Es):Prop:=zal Tryz.prog FY0 .none Tryz.f119 [chP] [bl] (s1,w1,m1,s2,w2,m2,s3,w3,m3) (zci ((s1,w1,m1),(s2,w2,m2),(s3,w3,m3)))
def ydq(s1 w1:Int)(m1:Es)(s2 w2:Int)(m2:Es)(s3 w3:Int)(m3:Es):Prop:=zal Tryz.prog FY0 .none Tryz.f120 [chP] [chP] (s1,w1,m1,s2,w2,m2,s3,w3,m3) (s1,w1,m1,s2,w2,m2,s3,w3,m3)
def yla(l va s p:Int):Prop:=zal Tryz.prog FY0 .none Tryz.f87 [i64,u64,u64,u64] [enP] (l,va,s,p) (zbs l va s p)
def kY1:Known:=[
 (119,zai [chP] [bl] (fun x=>some (ChR (toC x))) (fun x=>zci (toC x))),
 (120,zai [chP] [chP] (fun x=>some (SzC (toC x))) (fun x=>x)),
 (87,zai [i64,u64,u64,u64] [enP] (fun t=>some (LvR t.1∧U64 t.2.1∧U64 t.2.2.1∧U64 t.2.2.2)) (fun t=>zbs t.1 t.2.1 t.2.2.1 t.2.2.2)),
 ]
set_option linter.unusedVariables false
theorem zvu(s1 w1:Int)(m1:Es)(s2 w2:Int)(m2:Es)(s3 w3:Int)(m3:Es):ylc s1 w1 m1 s2 w2 m2 s3 w3 m3=(
 (List.length m1=List.length m1∧TlR (s1,w1,m1))∧(zat false (s1,w1,m1)=true→List.length m2=List.length m2∧TlR (s2,w2,m2))∧((bif zat false (s1,w1,m1) then zat false (s2,w2,m2) else false)=true→List.length
 m3=List.length m3∧TlR (s3,w3,m3))∧(zci ((s1,w1,m1),(s2,w2,m2),s3,w3,m3)=bif bif zat false (s1,w1,m1) then zat false (s2,w2,m2) else false then zat true (s3,w3,m3) else false)∧m1=m1∧m2=m2∧m3=m3):=by kernel_rfl
theorem zsb(s1 w1:Int)(m1:Es)(s2 w2:Int)(m2:Es)(s3 w3:Int)(m3:Es):ydq s1 w1 m1 s2 w2 m2 s3 w3 m3=(
 (List.length m1=List.length m1∧SzR (List.length m1))∧(List.length m2=List.length m2∧SzR (List.length m2))∧(List.length m3=List.length m3∧SzR (List.length m3))∧s1=s1∧w1=w1∧(0:Nat)=0∧List.length m1 =
 List.length m1∧s2=s2∧w2=w2∧(0:Nat)=0∧List.length m2=List.length m2∧s3=s3∧w3=w3∧(0:Nat)=0∧List.length m3=List.length m3∧m1=m1∧m2=m2∧m3=m3∧m1=m1∧m2=m2∧m3=m3):=by kernel_rfl
theorem zvt(l va s p:Int):yla l va s p=(
 (U64 va∧LvR l)∧U64 s∧zi3 (p,5)∧(zbs l va s p).1=true∧(zbs l va s p).2.1=l∧(zbs l va s p).2.2.1=zj4 va l∧(zbs l va s p).2.2.2.1=zba s∧(zbs l va s p).2.2.2.2.1=za0 p
 5∧(zbs l va s p).2.2.2.2.2=p):=by kernel_rfl
set_option linter.unusedSimpArgs false
theorem zpg{va asid:Int}{m:Es}:∀n:Nat,n≤m.length→(zeh va asid m n=(false,0,0,0))∨∃i,i<n∧zdy (m.getD i zE) va asid=true∧zeh va asid m n=(true,(i:Int),(m.getD i zE).2.1,(m.getD i zE).2.2.2.2.2)
 | 0,_ => .inl rfl
 | n+1,h=>by
  unfold zeh zc9
  split
  · rename_i q
    simp only[Bool.and_eq_true] at q
    exact .inr ⟨n,by omega,q.1,rfl⟩
  · rcases zpg (va:=va) (asid:=asid) (m:=m) n (by omega) with e|⟨i,h1,h2,h3⟩
    · exact .inl e
    · exact .inr ⟨i,by omega,h2,h3⟩
theorem yf5{va asid:Int}{m:Es}(h:(za2 va asid m).1=true):∃i,i<m.length∧zdy (m.getD i zE) va asid=true∧za2 va asid m=(true,(i:Int),(m.getD i zE).2.1,(m.getD i zE).2.2.2.2.2):=by
 rcases zpg (va:=va) (asid:=asid) (m:=m) m.length (Nat.le_refl _) with e|e
 · unfold za2 at h
   rw[e] at h
   cases h
 · exact e
theorem ycw{p:Bool}{t:Tl}(h:zat p t=true){i:Nat}(hi:i<t.2.2.length)(hv:(t.2.2.getD i zE).1=true):zdz p (t.2.2.getD i zE)=true:=by
 simp only[zat,Bool.and_eq_true] at h
 have:=zct.1 h.2 i hi
 simp only[ztz,Bool.or_eq_true,Bool.and_eq_true] at this
 rcases this with e|e
 · have e:t.2.2.getD i zE=zE:=by simpa using e
   rw[e] at hv
   cases hv
 · exact e.1
theorem ygi{p:Bool}{e:En}(h:zdz p e=true):LvR e.2.1∧za7 e.2.2.2.2.2 e.2.1=zzp p:=by
 simp only[zdz,Bool.and_eq_true,decide_eq_true_eq,beq_iff_eq] at h
 exact⟨zgq.1 h.1.1.1.1.2,h.2⟩
theorem zd7{p:Bool}{t:Tl}{va asid:Int}(h:zat p t=true)(ht:TlR t)(hf:(za2 va asid t.2.2).1=true):LvR (za2 va asid t.2.2).2.2.1∧U64 (za2 va asid t.2.2).2.2.2∧za7 (za2 va asid t.2.2).2.2.2 (za2 va asid t.2.2).2.2.1=zzp p:=by
 obtain⟨i,hi,hfit,e⟩:=yf5 hf
 rw[e]
 have hv:(t.2.2.getD i zE).1=true:=by
  simp only[zdy,Bool.and_eq_true] at hfit
  exact hfit.1.1
 obtain⟨h1,h2⟩:=ygi (ycw h hi hv)
 exact⟨h1,(ht.2.2.2 _ (zxd hi zE)).2.2.2,h2⟩
theorem zq6{p l:Int}(h:za7 p l=1):l≠0:=yah (by rw[h];decide) (by rw[h];decide)
theorem zet{m:By}{satp va:Int}{P:Tl}(hm:zaj m)(hv:U64 va)(hP:zat true P=true)(hR:TlR P):zfy m (zan satp va P).1 (zan satp va P).2 va:=by
 unfold zan
 split
 · rename_i hf
   obtain⟨h1,h2,h3⟩:=zd7 hP hR hf
   have h4:=zq6 (show za7 _ _=1 from h3)
   obtain⟨g0,g1⟩:=zk7 h2
   exact⟨hm,g0,g1,⟨by have:=h1.1;show 0≤_-1;omega,by have:=h1.2;show _-1≤(2:Int);omega⟩,hv⟩
 · exact⟨hm,Int.emod_nonneg _ (by decide),Int.emod_lt_of_pos _ (by decide),⟨show (0:Int)≤2 by decide,show (2:Int)≤2 by decide⟩,hv⟩
theorem zb0{p:Bool}{t:Tl}(h:zat p t=true):zbb t=true:=by cases p<;>simp[zbb,h]
theorem yah1(m:By)(s1 w1:Int)(m1:Es)(s2 w2:Int)(m2:Es)(s3 w3:Int)(m3:Es)(c0:Int)(c1 c2:Bool)(c3 kind va pick:Int)(h:yeu m (c0,c1,c2,c3) ((s1,w1,m1),(s2,w2,m2),(s3,w3,m3)) kind va pick)(hk:kind=0){e:Nat}{pa l:Int}{t1 t2 t3:Es}(hr:trM m (c0,c1,c2,c3) ((s1,w1,m1),(s2,w2,m2),(s3,w3,m3)) kind va pick=(e,pa,l,(s1,w1,t1),(s2,w2,t2),(s3,w3,t3))):yr9 m s1 w1 m1 s2 w2 m2 s3 w3 m3 c0 c1 c2 c3 kind va pick e pa l t1 t2 t3:=by
 obtain⟨hm,hc3,hv,hgc,⟨r1,r2,r3⟩,p0,p1, -, -⟩:=h
 have hc3:U64 c3:=hc3
 simp only[zci,Bool.and_eq_true] at hgc
 obtain⟨⟨g1,g2⟩,g3⟩:=hgc
 have hd1:=zb4 g1
 have hd2:=zb4 g2
 have hd3:=zb4 g3
 have hpick:∀k:Cch,zfd kind k=k.1:=fun k=>by unfold zfd;rw[if_pos hk]
 have hput:∀(k:Cch)(t:Tl),zol kind k t=(t,k.2.1,k.2.2):=fun k t=>by unfold zol;rw[if_pos hk]
 refine zab (ylp m s1 w1 m1 s2 w2 m2 s3 w3 m3 c0 c1 c2 c3 kind va pick e pa l t1 t2 t3) ?_
 conv=>zeta
 refine⟨hc3,fun q => ?_,fun q=>⟨hv,fun q2 => ?_,fun q2=>⟨by simp[hk],hc3,⟨rfl,zb0 g1,r1,hv⟩,za2 va (zba c3) m1,by simp,fun q3 => ?_,fun q3=>⟨hc3,hc3,⟨rfl,zb0 g3,r3,hv⟩,za2 va (zba c3) m3,by simp,fun q4 => ?_,fun q4 => ?_⟩⟩⟩⟩
 · have q:onM (c0,c1,c2,c3)=false:=by simpa using q
   unfold trM at hr
   rw[if_pos q] at hr
   cases hr
   simp
 · have q:¬ onM (c0,c1,c2,c3)=false:=by simpa using q
   have q2:zen va=false:=by simpa using q2
   unfold trM at hr
   rw[if_neg q,if_pos q2] at hr
   cases hr
   simp
 · have q:¬ onM (c0,c1,c2,c3)=false:=by simpa using q
   have q2:¬ zen va=false:=by simpa using q2
   unfold trM at hr
   rw[if_neg q,if_neg q2,hpick,if_pos q3] at hr
   obtain⟨u1,u2,u3⟩:=zd7 g1 r1 q3
   simp only at u1 u2 hr
   generalize za2 va (zba c3) m1=H at *
   refine⟨u2,fun g => ?_,fun g=>⟨⟨u2,u1,hv⟩, ?_⟩⟩
   · have g:za5 H.2.2.2 kind c0 c1 c2=false:=by simpa using g
     have hr2:((2,0,H.2.2.1,((s1,w1,m1),(s2,w2,m2),(s3,w3,m3))):TrR)=(e,pa,l,(s1,w1,t1),(s2,w2,t2),(s3,w3,t3)):=by rw[← hr];unfold ygw;rw[if_neg (by rw[g];simp)]
     cases hr2
     simp
   · have g:za5 H.2.2.2 kind c0 c1 c2=true:=by simpa using g
     have hr2:((0,zck H.2.2.2 H.2.2.1 va,0,((s1,w1,m1),(s2,w2,m2),(s3,w3,m3))):TrR)=(e,pa,l,(s1,w1,t1),(s2,w2,t2),(s3,w3,t3)):=by rw[← hr];unfold ygw;rw[if_pos g]
     cases hr2
     simp
 · have q:¬ onM (c0,c1,c2,c3)=false:=by simpa using q
   have q2:¬ zen va=false:=by simpa using q2
   unfold trM at hr
   rw[if_neg q,if_neg q2,hpick,if_neg (by rw[q3];simp)] at hr
   unfold zla at hr
   simp only at hr
   have hst:=zet (satp:=c3) hm hv g3 r3
   have es:zan c3 va (s3,w3,m3)=(zcl (za2 va (zba c3) m3).2.2.2,(za2 va (zba c3) m3).2.2.1-1):=by unfold zan;rw[if_pos q4]
   obtain⟨u1,u2,u3⟩:=zd7 g3 r3 q4
   simp only at u1 u2
   have ew:IntKind.i64.wrap ((za2 va (zba c3) m3).2.2.1-1)=(za2 va (zba c3) m3).2.2.1-1:=zaa (by have:=u1.1;omega) (by have:=u1.2;omega)
   refine⟨u2,zan c3 va (s3,w3,m3),by simp[es,ew], ?_⟩
   clear es
   generalize zan c3 va (s3,w3,m3)=st at *
   have hc:=zb5 m va (st.2+1).toNat st.1
   have hleaf:=zbz (va:=va) hm (st.2+1).toNat st.1
   have hR:zfy m st.1 st.2 va∧zcw s3 w3 m3=true∧U64 c3∧0≤pick∧pick≤255:=⟨hst,hd3,hc3,p0,p1⟩
   generalize za6 m va (st.2+1).toNat st.1=W at *
   refine⟨?_,fun a0 => ?_,fun a0 => ?_,fun a0 => ?_⟩
   · rcases hc with a0|a0|a0
     · exact .inl ⟨rfl,rfl,rfl,hR,a0⟩
     · exact .inr (.inl ⟨rfl,rfl,rfl,hR,a0⟩)
     · exact .inr (.inr ⟨rfl,rfl,rfl,hR,a0⟩)
   · have a0:W.1=1:=a0.2.2.2.2
     obtain⟨u1,u2,u3⟩:=hleaf a0
     have ul:LvR W.2.1:=⟨u2,by have:=hst.2.2.2.1.2;omega⟩
     refine⟨fun _=>u1,fun g => ?_,fun g=>⟨fun g2=>absurd g2 (by decide),fun _=>⟨⟨rfl,hd1,ul,hv,hc3,u1,p0,p1⟩,⟨u1,ul,hv⟩, ?_⟩⟩⟩
     · have g:za5 W.2.2.1 kind c0 c1 c2=false:=by simpa using g
       have hr2:((2,0,W.2.1,(s1,w1,m1),(s2,w2,m2),(s3,w3,(zae va c3 pick (s3,w3,m3) W.2.2.2).2.2)):TrR)=(e,pa,l,(s1,w1,t1),(s2,w2,t2),(s3,w3,t3)):=by
        rw[← hr];unfold zgz;rw[if_pos a0,if_neg (by rw[g];simp)]
       cases hr2
       simp
     · have g:za5 W.2.2.1 kind c0 c1 c2=true:=by simpa using g
       have hr2:((0,zck W.2.2.1 W.2.1 va,0,zol kind ((s1,w1,m1),(s2,w2,m2),(s3,w3,(zae va c3 pick (s3,w3,m3) W.2.2.2).2.2)) (zem (zfd kind ((s1,w1,m1),(s2,w2,m2),(s3,w3,(zae va c3 pick (s3,w3,m3) W.2.2.2).2.2))) (zbs W.2.1 va c3 W.2.2.1) pick)):TrR)=(e,pa,l,(s1,w1,t1),(s2,w2,t2),(s3,w3,t3)):=by
        rw[← hr];unfold zgz;rw[if_pos a0,if_pos g]
       rw[hput,hpick] at hr2
       simp only[Prod.mk.injEq] at hr2
       obtain⟨rfl,rfl, -,h1,h2,h3⟩:=hr2
       obtain⟨-, -,rfl⟩:=h2
       obtain⟨-, -,rfl⟩:=h3
       have h1:(zem (s1,w1,m1) (zbs W.2.1 va c3 W.2.2.1) pick)=(s1,w1,t1):=h1
       have h1':t1=(zem (s1,w1,m1) (zbs W.2.1 va c3 W.2.2.1) pick).2.2:=by rw[h1]
       subst h1'
       simp[zem]
   · have a0:W.1=3:=a0.2.2.2.2
     have hr2:((1,0,W.2.1,(s1,w1,m1),(s2,w2,m2),(s3,w3,(zae va c3 pick (s3,w3,m3) W.2.2.2).2.2)):TrR)=(e,pa,l,(s1,w1,t1),(s2,w2,t2),(s3,w3,t3)):=by
      rw[← hr];unfold zgz;rw[if_neg (by rw[a0];decide),if_pos a0]
     cases hr2
     simp
   · have a0:W.1=2:=a0.2.2.2.2
     have hr2:((2,0,W.2.1,(s1,w1,m1),(s2,w2,m2),(s3,w3,(zae va c3 pick (s3,w3,m3) W.2.2.2).2.2)):TrR)=(e,pa,l,(s1,w1,t1),(s2,w2,t2),(s3,w3,t3)):=by
      rw[← hr];unfold zgz;rw[if_neg (by rw[a0];decide),if_neg (by rw[a0];decide)]
     cases hr2
     simp
 · have q:¬ onM (c0,c1,c2,c3)=false:=by simpa using q
   have q2:¬ zen va=false:=by simpa using q2
   unfold trM at hr
   rw[if_neg q,if_neg q2,hpick,if_neg (by rw[q3];simp)] at hr
   unfold zla at hr
   simp only at hr
   have hst:=zet (satp:=c3) hm hv g3 r3
   have es:zan c3 va (s3,w3,m3)=(zfe c3,2):=by unfold zan;rw[if_neg (by rw[q4];simp)]
   refine⟨zan c3 va (s3,w3,m3),by simp[es], ?_⟩
   clear es
   generalize zan c3 va (s3,w3,m3)=st at *
   have hc:=zb5 m va (st.2+1).toNat st.1
   have hleaf:=zbz (va:=va) hm (st.2+1).toNat st.1
   have hR:zfy m st.1 st.2 va∧zcw s3 w3 m3=true∧U64 c3∧0≤pick∧pick≤255:=⟨hst,hd3,hc3,p0,p1⟩
   generalize za6 m va (st.2+1).toNat st.1=W at *
   refine⟨?_,fun a0 => ?_,fun a0 => ?_,fun a0 => ?_⟩
   · rcases hc with a0|a0|a0
     · exact .inl ⟨rfl,rfl,rfl,hR,a0⟩
     · exact .inr (.inl ⟨rfl,rfl,rfl,hR,a0⟩)
     · exact .inr (.inr ⟨rfl,rfl,rfl,hR,a0⟩)
   · have a0:W.1=1:=a0.2.2.2.2
     obtain⟨u1,u2,u3⟩:=hleaf a0
     have ul:LvR W.2.1:=⟨u2,by have:=hst.2.2.2.1.2;omega⟩
     refine⟨fun _=>u1,fun g => ?_,fun g=>⟨fun g2=>absurd g2 (by decide),fun _=>⟨⟨rfl,hd1,ul,hv,hc3,u1,p0,p1⟩,⟨u1,ul,hv⟩, ?_⟩⟩⟩
     · have g:za5 W.2.2.1 kind c0 c1 c2=false:=by simpa using g
       have hr2:((2,0,W.2.1,(s1,w1,m1),(s2,w2,m2),(s3,w3,(zae va c3 pick (s3,w3,m3) W.2.2.2).2.2)):TrR)=(e,pa,l,(s1,w1,t1),(s2,w2,t2),(s3,w3,t3)):=by
        rw[← hr];unfold zgz;rw[if_pos a0,if_neg (by rw[g];simp)]
       cases hr2
       simp
     · have g:za5 W.2.2.1 kind c0 c1 c2=true:=by simpa using g
       have hr2:((0,zck W.2.2.1 W.2.1 va,0,zol kind ((s1,w1,m1),(s2,w2,m2),(s3,w3,(zae va c3 pick (s3,w3,m3) W.2.2.2).2.2)) (zem (zfd kind ((s1,w1,m1),(s2,w2,m2),(s3,w3,(zae va c3 pick (s3,w3,m3) W.2.2.2).2.2))) (zbs W.2.1 va c3 W.2.2.1) pick)):TrR)=(e,pa,l,(s1,w1,t1),(s2,w2,t2),(s3,w3,t3)):=by
        rw[← hr];unfold zgz;rw[if_pos a0,if_pos g]
       rw[hput,hpick] at hr2
       simp only[Prod.mk.injEq] at hr2
       obtain⟨rfl,rfl, -,h1,h2,h3⟩:=hr2
       obtain⟨-, -,rfl⟩:=h2
       obtain⟨-, -,rfl⟩:=h3
       have h1:(zem (s1,w1,m1) (zbs W.2.1 va c3 W.2.2.1) pick)=(s1,w1,t1):=h1
       have h1':t1=(zem (s1,w1,m1) (zbs W.2.1 va c3 W.2.2.1) pick).2.2:=by rw[h1]
       subst h1'
       simp[zem]
   · have a0:W.1=3:=a0.2.2.2.2
     have hr2:((1,0,W.2.1,(s1,w1,m1),(s2,w2,m2),(s3,w3,(zae va c3 pick (s3,w3,m3) W.2.2.2).2.2)):TrR)=(e,pa,l,(s1,w1,t1),(s2,w2,t2),(s3,w3,t3)):=by
      rw[← hr];unfold zgz;rw[if_neg (by rw[a0];decide),if_pos a0]
     cases hr2
     simp
   · have a0:W.1=2:=a0.2.2.2.2
     have hr2:((2,0,W.2.1,(s1,w1,m1),(s2,w2,m2),(s3,w3,(zae va c3 pick (s3,w3,m3) W.2.2.2).2.2)):TrR)=(e,pa,l,(s1,w1,t1),(s2,w2,t2),(s3,w3,t3)):=by
      rw[← hr];unfold zgz;rw[if_neg (by rw[a0];decide),if_neg (by rw[a0];decide)]
     cases hr2
     simp
theorem yag1(m:By)(s1 w1:Int)(m1:Es)(s2 w2:Int)(m2:Es)(s3 w3:Int)(m3:Es)(c0:Int)(c1 c2:Bool)(c3 kind va pick:Int)(h:yeu m (c0,c1,c2,c3) ((s1,w1,m1),(s2,w2,m2),(s3,w3,m3)) kind va pick)(hk:kind≠0){e:Nat}{pa l:Int}{t1 t2 t3:Es}(hr:trM m (c0,c1,c2,c3) ((s1,w1,m1),(s2,w2,m2),(s3,w3,m3)) kind va pick=(e,pa,l,(s1,w1,t1),(s2,w2,t2),(s3,w3,t3))):yr8 m s1 w1 m1 s2 w2 m2 s3 w3 m3 c0 c1 c2 c3 kind va pick e pa l t1 t2 t3:=by
 obtain⟨hm,hc3,hv,hgc,⟨r1,r2,r3⟩,p0,p1, -, -⟩:=h
 have hc3:U64 c3:=hc3
 simp only[zci,Bool.and_eq_true] at hgc
 obtain⟨⟨g1,g2⟩,g3⟩:=hgc
 have hd1:=zb4 g1
 have hd2:=zb4 g2
 have hd3:=zb4 g3
 have hpick:∀k:Cch,zfd kind k=k.2.1:=fun k=>by unfold zfd;rw[if_neg hk]
 have hput:∀(k:Cch)(t:Tl),zol kind k t=(k.1,t,k.2.2):=fun k t=>by unfold zol;rw[if_neg hk]
 refine zab (ylo m s1 w1 m1 s2 w2 m2 s3 w3 m3 c0 c1 c2 c3 kind va pick e pa l t1 t2 t3) ?_
 conv=>zeta
 refine⟨hc3,fun q => ?_,fun q=>⟨hv,fun q2 => ?_,fun q2=>⟨by simp[hk],hc3,⟨rfl,zb0 g2,r2,hv⟩,za2 va (zba c3) m2,by simp,fun q3 => ?_,fun q3=>⟨hc3,hc3,⟨rfl,zb0 g3,r3,hv⟩,za2 va (zba c3) m3,by simp,fun q4 => ?_,fun q4 => ?_⟩⟩⟩⟩
 · have q:onM (c0,c1,c2,c3)=false:=by simpa using q
   unfold trM at hr
   rw[if_pos q] at hr
   cases hr
   simp
 · have q:¬ onM (c0,c1,c2,c3)=false:=by simpa using q
   have q2:zen va=false:=by simpa using q2
   unfold trM at hr
   rw[if_neg q,if_pos q2] at hr
   cases hr
   simp
 · have q:¬ onM (c0,c1,c2,c3)=false:=by simpa using q
   have q2:¬ zen va=false:=by simpa using q2
   unfold trM at hr
   rw[if_neg q,if_neg q2,hpick,if_pos q3] at hr
   obtain⟨u1,u2,u3⟩:=zd7 g2 r2 q3
   simp only at u1 u2 hr
   generalize za2 va (zba c3) m2=H at *
   refine⟨u2,fun g => ?_,fun g=>⟨⟨u2,u1,hv⟩, ?_⟩⟩
   · have g:za5 H.2.2.2 kind c0 c1 c2=false:=by simpa using g
     have hr2:((2,0,H.2.2.1,((s1,w1,m1),(s2,w2,m2),(s3,w3,m3))):TrR)=(e,pa,l,(s1,w1,t1),(s2,w2,t2),(s3,w3,t3)):=by rw[← hr];unfold ygw;rw[if_neg (by rw[g];simp)]
     cases hr2
     simp
   · have g:za5 H.2.2.2 kind c0 c1 c2=true:=by simpa using g
     have hr2:((0,zck H.2.2.2 H.2.2.1 va,0,((s1,w1,m1),(s2,w2,m2),(s3,w3,m3))):TrR)=(e,pa,l,(s1,w1,t1),(s2,w2,t2),(s3,w3,t3)):=by rw[← hr];unfold ygw;rw[if_pos g]
     cases hr2
     simp
 · have q:¬ onM (c0,c1,c2,c3)=false:=by simpa using q
   have q2:¬ zen va=false:=by simpa using q2
   unfold trM at hr
   rw[if_neg q,if_neg q2,hpick,if_neg (by rw[q3];simp)] at hr
   unfold zla at hr
   simp only at hr
   have hst:=zet (satp:=c3) hm hv g3 r3
   have es:zan c3 va (s3,w3,m3)=(zcl (za2 va (zba c3) m3).2.2.2,(za2 va (zba c3) m3).2.2.1-1):=by unfold zan;rw[if_pos q4]
   obtain⟨u1,u2,u3⟩:=zd7 g3 r3 q4
   simp only at u1 u2
   have ew:IntKind.i64.wrap ((za2 va (zba c3) m3).2.2.1-1)=(za2 va (zba c3) m3).2.2.1-1:=zaa (by have:=u1.1;omega) (by have:=u1.2;omega)
   refine⟨u2,zan c3 va (s3,w3,m3),by simp[es,ew], ?_⟩
   clear es
   generalize zan c3 va (s3,w3,m3)=st at *
   have hc:=zb5 m va (st.2+1).toNat st.1
   have hleaf:=zbz (va:=va) hm (st.2+1).toNat st.1
   have hR:zfy m st.1 st.2 va∧zcw s3 w3 m3=true∧U64 c3∧0≤pick∧pick≤255:=⟨hst,hd3,hc3,p0,p1⟩
   generalize za6 m va (st.2+1).toNat st.1=W at *
   refine⟨?_,fun a0 => ?_,fun a0 => ?_,fun a0 => ?_⟩
   · rcases hc with a0|a0|a0
     · exact .inl ⟨rfl,rfl,rfl,hR,a0⟩
     · exact .inr (.inl ⟨rfl,rfl,rfl,hR,a0⟩)
     · exact .inr (.inr ⟨rfl,rfl,rfl,hR,a0⟩)
   · have a0:W.1=1:=a0.2.2.2.2
     obtain⟨u1,u2,u3⟩:=hleaf a0
     have ul:LvR W.2.1:=⟨u2,by have:=hst.2.2.2.1.2;omega⟩
     refine⟨fun _=>u1,fun g => ?_,fun g=>⟨fun g2=>absurd g2 (by decide),fun _=>⟨⟨rfl,hd2,ul,hv,hc3,u1,p0,p1⟩,⟨u1,ul,hv⟩, ?_⟩⟩⟩
     · have g:za5 W.2.2.1 kind c0 c1 c2=false:=by simpa using g
       have hr2:((2,0,W.2.1,(s1,w1,m1),(s2,w2,m2),(s3,w3,(zae va c3 pick (s3,w3,m3) W.2.2.2).2.2)):TrR)=(e,pa,l,(s1,w1,t1),(s2,w2,t2),(s3,w3,t3)):=by
        rw[← hr];unfold zgz;rw[if_pos a0,if_neg (by rw[g];simp)]
       cases hr2
       simp
     · have g:za5 W.2.2.1 kind c0 c1 c2=true:=by simpa using g
       have hr2:((0,zck W.2.2.1 W.2.1 va,0,zol kind ((s1,w1,m1),(s2,w2,m2),(s3,w3,(zae va c3 pick (s3,w3,m3) W.2.2.2).2.2)) (zem (zfd kind ((s1,w1,m1),(s2,w2,m2),(s3,w3,(zae va c3 pick (s3,w3,m3) W.2.2.2).2.2))) (zbs W.2.1 va c3 W.2.2.1) pick)):TrR)=(e,pa,l,(s1,w1,t1),(s2,w2,t2),(s3,w3,t3)):=by
        rw[← hr];unfold zgz;rw[if_pos a0,if_pos g]
       rw[hput,hpick] at hr2
       simp only[Prod.mk.injEq] at hr2
       obtain⟨rfl,rfl, -,h1,h2,h3⟩:=hr2
       obtain⟨-, -,rfl⟩:=h1
       obtain⟨-, -,rfl⟩:=h3
       have h1:(zem (s2,w2,m2) (zbs W.2.1 va c3 W.2.2.1) pick)=(s2,w2,t2):=h2
       have h1':t2=(zem (s2,w2,m2) (zbs W.2.1 va c3 W.2.2.1) pick).2.2:=by rw[h1]
       subst h1'
       simp[zem]
   · have a0:W.1=3:=a0.2.2.2.2
     have hr2:((1,0,W.2.1,(s1,w1,m1),(s2,w2,m2),(s3,w3,(zae va c3 pick (s3,w3,m3) W.2.2.2).2.2)):TrR)=(e,pa,l,(s1,w1,t1),(s2,w2,t2),(s3,w3,t3)):=by
      rw[← hr];unfold zgz;rw[if_neg (by rw[a0];decide),if_pos a0]
     cases hr2
     simp
   · have a0:W.1=2:=a0.2.2.2.2
     have hr2:((2,0,W.2.1,(s1,w1,m1),(s2,w2,m2),(s3,w3,(zae va c3 pick (s3,w3,m3) W.2.2.2).2.2)):TrR)=(e,pa,l,(s1,w1,t1),(s2,w2,t2),(s3,w3,t3)):=by
      rw[← hr];unfold zgz;rw[if_neg (by rw[a0];decide),if_neg (by rw[a0];decide)]
     cases hr2
     simp
 · have q:¬ onM (c0,c1,c2,c3)=false:=by simpa using q
   have q2:¬ zen va=false:=by simpa using q2
   unfold trM at hr
   rw[if_neg q,if_neg q2,hpick,if_neg (by rw[q3];simp)] at hr
   unfold zla at hr
   simp only at hr
   have hst:=zet (satp:=c3) hm hv g3 r3
   have es:zan c3 va (s3,w3,m3)=(zfe c3,2):=by unfold zan;rw[if_neg (by rw[q4];simp)]
   refine⟨zan c3 va (s3,w3,m3),by simp[es], ?_⟩
   clear es
   generalize zan c3 va (s3,w3,m3)=st at *
   have hc:=zb5 m va (st.2+1).toNat st.1
   have hleaf:=zbz (va:=va) hm (st.2+1).toNat st.1
   have hR:zfy m st.1 st.2 va∧zcw s3 w3 m3=true∧U64 c3∧0≤pick∧pick≤255:=⟨hst,hd3,hc3,p0,p1⟩
   generalize za6 m va (st.2+1).toNat st.1=W at *
   refine⟨?_,fun a0 => ?_,fun a0 => ?_,fun a0 => ?_⟩
   · rcases hc with a0|a0|a0
     · exact .inl ⟨rfl,rfl,rfl,hR,a0⟩
     · exact .inr (.inl ⟨rfl,rfl,rfl,hR,a0⟩)
     · exact .inr (.inr ⟨rfl,rfl,rfl,hR,a0⟩)
   · have a0:W.1=1:=a0.2.2.2.2
     obtain⟨u1,u2,u3⟩:=hleaf a0
     have ul:LvR W.2.1:=⟨u2,by have:=hst.2.2.2.1.2;omega⟩
     refine⟨fun _=>u1,fun g => ?_,fun g=>⟨fun g2=>absurd g2 (by decide),fun _=>⟨⟨rfl,hd2,ul,hv,hc3,u1,p0,p1⟩,⟨u1,ul,hv⟩, ?_⟩⟩⟩
     · have g:za5 W.2.2.1 kind c0 c1 c2=false:=by simpa using g
       have hr2:((2,0,W.2.1,(s1,w1,m1),(s2,w2,m2),(s3,w3,(zae va c3 pick (s3,w3,m3) W.2.2.2).2.2)):TrR)=(e,pa,l,(s1,w1,t1),(s2,w2,t2),(s3,w3,t3)):=by
        rw[← hr];unfold zgz;rw[if_pos a0,if_neg (by rw[g];simp)]
       cases hr2
       simp
     · have g:za5 W.2.2.1 kind c0 c1 c2=true:=by simpa using g
       have hr2:((0,zck W.2.2.1 W.2.1 va,0,zol kind ((s1,w1,m1),(s2,w2,m2),(s3,w3,(zae va c3 pick (s3,w3,m3) W.2.2.2).2.2)) (zem (zfd kind ((s1,w1,m1),(s2,w2,m2),(s3,w3,(zae va c3 pick (s3,w3,m3) W.2.2.2).2.2))) (zbs W.2.1 va c3 W.2.2.1) pick)):TrR)=(e,pa,l,(s1,w1,t1),(s2,w2,t2),(s3,w3,t3)):=by
        rw[← hr];unfold zgz;rw[if_pos a0,if_pos g]
       rw[hput,hpick] at hr2
       simp only[Prod.mk.injEq] at hr2
       obtain⟨rfl,rfl, -,h1,h2,h3⟩:=hr2
       obtain⟨-, -,rfl⟩:=h1
       obtain⟨-, -,rfl⟩:=h3
       have h1:(zem (s2,w2,m2) (zbs W.2.1 va c3 W.2.2.1) pick)=(s2,w2,t2):=h2
       have h1':t2=(zem (s2,w2,m2) (zbs W.2.1 va c3 W.2.2.1) pick).2.2:=by rw[h1]
       subst h1'
       simp[zem]
   · have a0:W.1=3:=a0.2.2.2.2
     have hr2:((1,0,W.2.1,(s1,w1,m1),(s2,w2,m2),(s3,w3,(zae va c3 pick (s3,w3,m3) W.2.2.2).2.2)):TrR)=(e,pa,l,(s1,w1,t1),(s2,w2,t2),(s3,w3,t3)):=by
      rw[← hr];unfold zgz;rw[if_neg (by rw[a0];decide),if_pos a0]
     cases hr2
     simp
   · have a0:W.1=2:=a0.2.2.2.2
     have hr2:((2,0,W.2.1,(s1,w1,m1),(s2,w2,m2),(s3,w3,(zae va c3 pick (s3,w3,m3) W.2.2.2).2.2)):TrR)=(e,pa,l,(s1,w1,t1),(s2,w2,t2),(s3,w3,t3)):=by
      rw[← hr];unfold zgz;rw[if_neg (by rw[a0];decide),if_neg (by rw[a0];decide)]
     cases hr2
     simp
theorem znt(m:By)(c:Ct)(I D P:Tl)(kind va pick:Int):∃e pa l t1 t2 t3,trM m c (I,D,P) kind va pick=(e,pa,l,(I.1,I.2.1,t1),(D.1,D.2.1,t2),(P.1,P.2.1,t3))∧t1.length=I.2.2.length∧t2.length=D.2.2.length∧t3.length=P.2.2.length∧(e=0∨e≠0∧pa=0)∧(e=0∨e=1∨e=2):=by
 have miss:∃e pa l t1 t2 t3,zla m c (I,D,P) kind va pick=(e,pa,l,(I.1,I.2.1,t1),(D.1,D.2.1,t2),(P.1,P.2.1,t3))∧t1.length=I.2.2.length∧t2.length=D.2.2.length∧t3.length=P.2.2.length∧(e=0∨e≠0∧pa=0)∧(e=0∨e=1∨e=2):=by
  unfold zla
  generalize za6 m va _ _=W
  obtain⟨-, -,kl⟩:=zby va c.2.2.2 pick W.2.2.2 P
  unfold zgz
  split
  · split
    · unfold zol zfd
      split
      · exact⟨_,_,_,_,_,_,rfl,by simp[zem,zb6],rfl,kl,.inl rfl,.inl rfl⟩
      · exact⟨_,_,_,_,_,_,rfl,rfl,by simp[zem,zb6],kl,.inl rfl,.inl rfl⟩
    · exact⟨_,_,_,_,_,_,rfl,rfl,rfl,kl,.inr ⟨by decide,rfl⟩,.inr (.inr rfl)⟩
  · split
    · exact⟨_,_,_,_,_,_,rfl,rfl,rfl,kl,.inr ⟨by decide,rfl⟩,.inr (.inl rfl)⟩
    · exact⟨_,_,_,_,_,_,rfl,rfl,rfl,kl,.inr ⟨by decide,rfl⟩,.inr (.inr rfl)⟩
 unfold trM
 split
 · exact⟨_,_,_,_,_,_,rfl,rfl,rfl,rfl,.inl rfl,.inl rfl⟩
 · split
   · exact⟨_,_,_,_,_,_,rfl,rfl,rfl,rfl,.inr ⟨by decide,rfl⟩,.inr (.inr rfl)⟩
   · split
     · unfold ygw
       split
       · exact⟨_,_,_,_,_,_,rfl,rfl,rfl,rfl,.inl rfl,.inl rfl⟩
       · exact⟨_,_,_,_,_,_,rfl,rfl,rfl,rfl,.inr ⟨by decide,rfl⟩,.inr (.inr rfl)⟩
     · exact miss
theorem yxp:DictOk Tryz.prog FX4:=zay (yag.append zmz) (.cons (by kernel_rfl) ypt .nil) .nil
theorem yaf1(k:Nat):Sound Tryz.prog 132 (trS k):=by
 refine zek mixed Tryz.func132 (by kernel_rfl) false yxp (fun args H p v H' h hp => ?_)
 unfold trS at h
 split at h
 case h_2=>cases h
 rename_i n c0 c1 c2 c3 kind va pick b0 b1 b2 b3 sh m
 split at h
 case isFalse=>cases h
 rename_i hsh
 subst hsh
 split at h
 case h_2=>cases h
 rename_i n3 I D P hg
 simp only[Option.some.injEq,Prod.mk.injEq] at h
 obtain⟨rfl,rfl,rfl⟩:=h
 obtain⟨rfl,rfl,ht,hk⟩:n=m.length∧n3=zq8 I D P∧yeu m (c0,c1,c2,c3) (I,D,P) kind va pick∧ybt k (trM m (c0,c1,c2,c3) (I,D,P) kind va pick):=hp
 have e:=ygd hg
 have e2:[b0,b1,b2,b3,Blk.arr [.i .u8] m false]=trH m (I,D,P):=by
  have:[b0,b1,b2,b3,Blk.arr [.i .u8] m false]=[b0,b1,b2,b3]++[Blk.arr [.i .u8] m false]:=rfl
  rw[this,e];rfl
 rw[e2]
 clear e e2 hg
 obtain⟨s1,w1,m1⟩:=I
 obtain⟨s2,w2,m2⟩:=D
 obtain⟨s3,w3,m3⟩:=P
 obtain⟨e,pa,l,t1,t2,t3,hr, -⟩:=znt m (c0,c1,c2,c3) (s1,w1,m1) (s2,w2,m2) (s3,w3,m3) kind va pick
 rw[hr] at hk ⊢
 have outs:∀o ∈ trO m (e,pa,l,(s1,w1,t1),(s2,w2,t2),(s3,w3,t3)),o.out→o.pan=false∧o.v = .tup [.v (.int .u64 pa),ymv k l]∧o.H=trH m ((s1,w1,t1),(s2,w2,t2),(s3,w3,t3)):=by
  intro o ho hout
  simp only[trO,List.mem_cons,List.not_mem_nil,or_false] at ho
  match k,hk with
  | 0,hk =>
   have hk:e=0:=hk
   subst hk
   rcases ho with rfl|rfl|rfl
   · exact⟨rfl,rfl,rfl⟩
   · exact absurd (show (0:Nat)=1 from hout) (by decide)
   · exact absurd (show (0:Nat)=2 from hout) (by decide)
  | 1,hk =>
   have hk:e=1:=hk
   subst hk
   rcases ho with rfl|rfl|rfl
   · exact absurd (show (1:Nat)=0 from hout) (by decide)
   · exact⟨rfl,rfl,rfl⟩
   · exact absurd (show (1:Nat)=2 from hout) (by decide)
  | k+2,hk =>
   have hk:e=2:=hk
   subst hk
   rcases ho with rfl|rfl|rfl
   · exact absurd (show (2:Nat)=0 from hout) (by decide)
   · exact absurd (show (2:Nat)=1 from hout) (by decide)
   · exact⟨rfl,rfl,rfl⟩
 by_cases hkd:kind=0
 · exact⟨_,_,zd5 (by kernel_rfl),yah1 m s1 w1 m1 s2 w2 m2 s3 w3 m3 c0 c1 c2 c3 kind va pick ht hkd hr,outs⟩
 · exact⟨_,_,zd5 (by kernel_rfl),yag1 m s1 w1 m1 s2 w2 m2 s3 w3 m3 c0 c1 c2 c3 kind va pick ht hkd hr,outs⟩
theorem yq0:zar Tryz.prog kY0:=(yaf.append yag).append zmz
theorem zzr:DictOk Tryz.prog FY0:=zay yq0 (.cons (by kernel_rfl) (fun k=>zew (yaf1 k)) .nil) .nil
theorem ygh(I D P:Tl):zci (I,D,P)=bif bif zat false I then zat false D else false then zat true P else false:=by simp[zci]
theorem yi3:Sound Tryz.prog 119 (zai [chP] [bl] (fun x=>some (ChR (toC x))) (fun x=>zci (toC x))):=by
 refine zad mixed Tryz.func119 (by kernel_rfl) (by kernel_rfl) zzr (fun t h => ?_)
 obtain⟨s1,w1,m1,s2,w2,m2,s3,w3,m3⟩:Cf:=t
 obtain⟨h1,h2,h3⟩:TlR (s1,w1,m1)∧TlR (s2,w2,m2)∧TlR (s3,w3,m3):=h
 exact zab (zvu s1 w1 m1 s2 w2 m2 s3 w3 m3) (by rw[ygh];simp[h1,h2,h3])
theorem ycq:Sound Tryz.prog 120 (zai [chP] [chP] (fun x=>some (SzC (toC x))) (fun x=>x)):=by
 refine zad mixed Tryz.func120 (by kernel_rfl) (by kernel_rfl) zzr (fun t h => ?_)
 obtain⟨s1,w1,m1,s2,w2,m2,s3,w3,m3⟩:Cf:=t
 obtain⟨h1,h2,h3⟩:SzR m1.length∧SzR m2.length∧SzR m3.length:=h
 exact zab (zsb s1 w1 m1 s2 w2 m2 s3 w3 m3) (by simp[h1,h2,h3])
theorem yi1:Sound Tryz.prog 87 (zai [i64,u64,u64,u64] [enP] (fun t=>some (LvR t.1∧U64 t.2.1∧U64 t.2.2.1∧U64 t.2.2.2)) (fun t=>zbs t.1 t.2.1 t.2.2.1 t.2.2.2)):=by
 refine zad mixed Tryz.func87 (by kernel_rfl) (by kernel_rfl) zzr (fun t h => ?_)
 obtain⟨l,va,s,p⟩:Int × Int × Int × Int:=t
 obtain⟨h1,h2,h3,h4⟩:LvR l∧U64 va∧U64 s∧U64 p:=h
 exact zab (zvt l va s p) ⟨⟨h2,h1⟩,h3,yfh h4 (by decide) (by decide),rfl,rfl,rfl,rfl,rfl,rfl⟩
theorem yq1:zar Tryz.prog kY1 := .cons (by kernel_rfl) yi3 <| .cons (by kernel_rfl) ycq <| .cons (by kernel_rfl) yi1 <| .nil
theorem zrf{c:Ct}{k:Cch}{kind pick:Int}(h:okT c k kind pick=true):zci k=true∧zl8 c kind=true∧0≤pick∧pick≤255:=by
 simp only[okT,Bool.and_eq_true,decide_eq_true_eq] at h
 exact⟨h.1.1.1,h.1.1.2,h.1.2,h.2⟩
end Go.Proofs.YtfiddfbagbaofaaGreat.V
