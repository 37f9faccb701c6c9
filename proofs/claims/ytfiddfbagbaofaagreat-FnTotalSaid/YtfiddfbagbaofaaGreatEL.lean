/- The reference's step keeps a run in order (seat G). Conditions: those in each statement. -/
import Derived.Test.YtfiddfbagbaofaaGreatEH
namespace Go.Proofs.YtfiddfbagbaofaaGreat.V
open Go
def VaR(r:Rn):Prop:=zci (toC r.k)=true∧(0≤r.mo∧r.mo≤2)∧(0≤r.em∧r.em≤2)∧(0≤r.pk∧r.pk≤255)∧(0≤r.cs∧r.cs≤63)∧U64 r.tw
set_option linter.unusedSimpArgs false
set_option linter.unusedVariables false
theorem yw1(p:Bool)(s w:Int)(i:Nat):ztz p s w i zE=true:=by
 unfold ztz
 have:(zE==zE)=true:=beq_self_eq_true _
 rw[this,Bool.true_or]
theorem yjs{p:Bool}{t:Tl}{f:En→En}(hf:∀e,f e=zE∨f e=e)(h:zat p t=true):zat p (t.1,t.2.1,t.2.2.map f)=true:=by
 have hd:=zb4 h
 simp only[zat,Bool.and_eq_true] at h ⊢
 refine⟨by rw[zjf (show (t.2.2.map f).length=t.2.2.length by simp)];exact hd,zct.2 (fun i hi => ?_)⟩
 rw[List.length_map] at hi
 have:=zct.1 h.2 i hi
 have e:(t.2.2.map f).getD i zE=f (t.2.2.getD i zE):=by
  rw[List.getD_eq_getElem?_getD,List.getD_eq_getElem?_getD,List.getElem?_map,List.getElem?_eq_getElem hi]
  rfl
 rw[e]
 rcases hf (t.2.2.getD i zE) with q|q
 · rw[q];exact yw1 ..
 · rw[q];exact this
theorem zd6{p:Bool}{t:Tl}(h:zat p t=true)(f:Fc):zat p (zdg t f)=true:=by
 unfold zdg
 split
 · refine yjs (fun e => ?_) h
   unfold zok
   split
   · exact .inl rfl
   · exact .inr rfl
 · exact h
theorem zi0{p:Bool}{t:Tl}(h:zat p t=true)(k:Int):zat p (zcq t k)=true:=by
 have hd:=zb4 h
 simp only[zat,zcq,Bool.and_eq_true] at h ⊢
 refine⟨by rw[zjf (show (t.2.2.set (k % t.2.2.length).toNat zE).length=t.2.2.length by simp)];exact hd,zct.2 (fun i hi => ?_)⟩
 rw[List.length_set] at hi
 have:=zct.1 h.2 i hi
 rw[yab]
 split
 · exact yw1 ..
 · exact this
theorem zdo{k:Cch}:zci k=true↔zat false k.1=true∧zat false k.2.1=true∧zat true k.2.2=true:=by
 unfold zci
 simp only[Bool.and_eq_true,and_assoc]
theorem ysz(k:Int):0≤afM k∧afM k≤63:=by unfold afM;split<;>(try split)<;>omega
theorem yut(k:Int):0≤pfM k∧pfM k≤63:=by unfold pfM;split<;>(try split)<;>omega
theorem ymm(e:Nat)(k:Int):0≤zbn e k∧zbn e k≤63:=by
 unfold zbn
 split
 · omega
 · split
   · exact ysz k
   · exact yut k
theorem yuk(p l:Int)(c:Ct)(k va:Int):0≤(zcc p l c k va).1∧(zcc p l c k va).1≤63:=by
 unfold zcc
 split
 · exact⟨Int.le_refl 0,by show (0:Int)≤63;decide⟩
 · exact yut k
theorem yny(m:By)(c:Ct)(k va:Int):0≤(zaw m c k va).1∧(zaw m c k va).1≤63:=by
 unfold zaw
 split
 · split
   · unfold zak
     split
     · exact yut k
     · split
       · exact ysz k
       · exact yuk ..
   · exact⟨Int.le_refl 0,by show (0:Int)≤63;decide⟩
 · exact⟨by show (0:Int)≤63;decide,Int.le_refl 63⟩
theorem yae1(m:By)(c:Ct)(x:Cf)(k va pick:Int):0≤(zom m c x k va pick).1∧(zom m c x k va pick).1≤63:=by
 unfold zom yee
 split
 · exact ymm ..
 · exact⟨by show (0:Int)≤63;decide,Int.le_refl 63⟩
theorem znu(r:Rn)(k va:Int):0≤(zao r k va).2.1∧(zao r k va).2.1≤63:=by
 unfold zao
 split
 · exact yny ..
 · exact yae1 ..
theorem VaR.trans{r:Rn}(h:RnR r)(v:VaR r){kind va:Int}(hv:U64 va)(k0:0≤kind)(k2:kind≤2):VaR (zao r kind va).1:=by
 obtain⟨v1,⟨v2,v3⟩,v4,⟨v5,v6⟩,v7⟩:=v
 unfold zao
 split
 · exact⟨v1,⟨v2,v3⟩,v4,⟨v5,v6⟩,v7⟩
 · refine⟨?_,⟨v2,v3⟩,v4,⟨v5,v6⟩,v7⟩
   refine ycu (h.tlb hv) ?_
   unfold okT zl8
   simp only[Bool.and_eq_true,decide_eq_true_eq]
   exact⟨⟨⟨v1,⟨⟨k0,k2⟩,v2⟩,v3⟩,v5⟩,v6⟩
theorem VaR.trap{r:Rn}(v:VaR r){c x:Int}(hc:0≤c∧c≤63)(hx:U64 x):VaR (zd1 r c x):=⟨v.1,v.2.1,v.2.2.1,v.2.2.2.1,hc,hx⟩
theorem VaR.place{kind:Int}(k0:0≤kind)(k2:kind≤2):∀(todo:Ps)(r:Rn)(done:Ps),RnR r→VaR r→r.ks.length+todo.length≤2097152→(∀p ∈ todo,U64 p.1)→(∀p ∈ done,U64 p.1) →
 VaR (zaz kind r done todo).1∧∀p ∈ (zaz kind r done todo).2.1,U64 p.1
 | [],r,done,_,v,_,_,hd=>⟨v,hd⟩
 | p::todo,r,done,h,v,hk,hv,hd=>by
  have hk:r.ks.length+(todo.length+1)≤2097152:=hk
  obtain⟨t1,_⟩:=zgw h (kind:=kind) (hv p (by simp)) (show r.ks.length+1≤2097152 by omega)
  have tv:=v.trans h (kind:=kind) (hv p (by simp)) k0 k2
  have tk:=zh7 r kind p.1
  unfold zaz
  split
  · refine VaR.place k0 k2 todo (zao r kind p.1).1 _ t1 tv (by rw[tk];simp;omega) (fun q hq=>hv q (by simp[hq])) (fun q hq => ?_)
    rcases List.mem_append.1 hq with g|g
    · exact hd q g
    · rw[List.mem_singleton.1 g]
      exact hv p (by simp)
  · refine⟨tv.trap (znu ..) (hv p (by simp)),fun q hq => ?_⟩
    rcases List.mem_append.1 hq with g|g
    · exact hd q g
    · exact hv q g
theorem VaR.inside(kind:Int):∀(ps:Ps){r:Rn},VaR r→(∀p ∈ ps,U64 p.1)→VaR (zbt kind r ps)
 | [],r,v,_=>v
 | p::ps,r,v,h=>by
  unfold zbt
  split
  · exact VaR.inside kind ps v (fun q hq=>h q (by simp[hq]))
  · exact v.trap (ysz kind) (h p (by simp))
theorem VaR.parts{r:Rn}{kind va w:Int}(h:zee r va w)(v:VaR r)(k0:0≤kind)(k2:kind≤2):VaR (zas r kind va w).1:=by
 obtain⟨h1,h2,h3,h4,h5⟩:=h
 obtain⟨o1,o2,o3,o4⟩:=zh3 h3 h4 h5
 obtain⟨pv,pw⟩:=VaR.place k0 k2 (zaq va w) r [] h1 v (by omega) (fun p hp=>(o4 p hp).1) (fun p hp=>by cases hp)
 unfold zas
 split
 · exact pv
 · exact VaR.inside _ _ pv pw
theorem VaR.setReg{r:Rn}(v:VaR r)(a x:Int):VaR (zb3 r a x):=v
theorem VaR.puts{x:Rn × Ps}(v:VaR x.1)(w y:Int):VaR (zx0 x w y):=v
theorem VaR.fence{r:Rn}(v:VaR r)(f:Fc):VaR (zeg r f):=by
 unfold zeg
 split
 · exact v
 · obtain⟨v1,v2⟩:=v
   obtain⟨a,b,c⟩:=zdo.1 v1
   exact⟨zdo.2 ⟨zd6 a f,zd6 b f,zd6 c f⟩,v2⟩
theorem VaR.doing{r:Rn}{z:Zx}{op s word:Int}(h:DoR r z)(v:VaR r)(hw:U64 word)(hop:op=13→z.2.2.1≤2):VaR (doM r z op s word):=by
 obtain⟨h4,h2,h3,hi,hxa,hc8,hW⟩:=h
 obtain⟨za,zb,zc,imm,jump,xa,xb,xc,w⟩:=z
 dsimp only at hi hxa hc8 hW hop
 have hPW:zee r (IntKind.u64.wrap (xb+imm)) w:=⟨h4,h3,zel _,hW.1,hW.2⟩
 have hP8:zee r (IntKind.u64.wrap (xb+imm)) 8:=⟨h4,h3,zel _,by omega,by omega⟩
 have l1:=v.parts hPW (kind:=1) (by decide) (by decide)
 have s1:=v.parts hPW (kind:=2) (by decide) (by decide)
 have a1:=v.parts hP8 (kind:=2) (by decide) (by decide)
 obtain⟨v1,v2,v3,v4⟩:=id v
 by_cases o1:op=1
 · simp only[doM,if_pos o1]
   exact v.setReg _ _
 by_cases o2:op=2
 · simp only[doM,if_neg o1,if_pos o2]
   exact v.setReg _ _
 by_cases o3:op=3
 · simp only[doM,if_neg o1,if_neg o2,if_pos o3]
   exact v.setReg _ _
 by_cases o4:op=4
 · simp only[doM,if_neg o1,if_neg o2,if_neg o3,if_pos o4]
   exact v.setReg _ _
 by_cases o5:op=5
 · simp only[doM,if_neg o1,if_neg o2,if_neg o3,if_neg o4,if_pos o5]
   unfold ztr
   split
   · exact l1.setReg _ _
   · exact l1
 by_cases o6:op=6
 · simp only[doM,if_neg o1,if_neg o2,if_neg o3,if_neg o4,if_neg o5,if_pos o6]
   unfold zk9
   split
   · exact s1.puts _ _
   · exact s1
 by_cases o7:op=7
 · simp only[doM,if_neg o1,if_neg o2,if_neg o3,if_neg o4,if_neg o5,if_neg o6,if_pos o7]
   unfold yqe
   split
   · exact (VaR.puts a1 _ _).setReg _ _
   · exact a1
 by_cases o8:op=8
 · simp only[doM,if_neg o1,if_neg o2,if_neg o3,if_neg o4,if_neg o5,if_neg o6,if_neg o7,if_pos o8]
   split
   · exact v
   · exact⟨v1,v2,v3,v4⟩
 by_cases o9:op=9
 · simp only[doM,if_neg o1,if_neg o2,if_neg o3,if_neg o4,if_neg o5,if_neg o6,if_neg o7,if_neg o8,if_pos o9]
   split
   · exact⟨v1,v2,v3,v4⟩
   · exact v
 by_cases o10:op=10
 · simp only[doM,if_neg o1,if_neg o2,if_neg o3,if_neg o4,if_neg o5,if_neg o6,if_neg o7,if_neg o8,if_neg o9,if_pos o10]
   exact⟨v1,v2,v3,v4⟩
 by_cases o11:op=11
 · simp only[doM,if_neg o1,if_neg o2,if_neg o3,if_neg o4,if_neg o5,if_neg o6,if_neg o7,if_neg o8,if_neg o9,if_neg o10,if_pos o11]
   exact v.fence _
 by_cases o12:op=12
 · simp only[doM,if_neg o1,if_neg o2,if_neg o3,if_neg o4,if_neg o5,if_neg o6,if_neg o7,if_neg o8,if_neg o9,if_neg o10,if_neg o11,if_pos o12]
   exact⟨v1,v3,v3,v4⟩
 by_cases o13:op=13
 · simp only[doM,if_neg o1,if_neg o2,if_neg o3,if_neg o4,if_neg o5,if_neg o6,if_neg o7,if_neg o8,if_neg o9,if_neg o10,if_neg o11,if_neg o12,if_pos o13]
   exact⟨v1,v2,⟨hc8.1,hop o13⟩,v4⟩
 by_cases o14:op=14
 · simp only[doM,if_neg o1,if_neg o2,if_neg o3,if_neg o4,if_neg o5,if_neg o6,if_neg o7,if_neg o8,if_neg o9,if_neg o10,if_neg o11,if_neg o12,if_neg o13,if_pos o14]
   exact v.trap (by rw[zaa (by omega) (by omega)];omega) zj5
 simp only[doM,if_neg o1,if_neg o2,if_neg o3,if_neg o4,if_neg o5,if_neg o6,if_neg o7,if_neg o8,if_neg o9,if_neg o10,if_neg o11,if_neg o12,if_neg o13,if_neg o14]
 exact v.trap (by decide) hw
theorem VaR.exec{r:Rn}{op p q s word:Int}(h:zer r p q s word)(v:VaR r):VaR (zbg r op p q s word):=by
 have hz:=yau h
 have hw:U64 word:=h.2.2.2.2.2.2
 have v4:VaR (pc4 r):=v
 unfold zbg
 split
 · exact v4.trap (by decide) hw
 · rename_i hn
   refine VaR.doing hz v4 hw (fun h13 => ?_)
   show q % 8≤2
   unfold zkj at hn
   subst h13
   have:¬ (q % 8>2):=fun h=>hn (by simp[h])
   omega
theorem VaR.body{r:Rn}(h:zog r)(v:VaR r):VaR (zbd r):=by
 obtain⟨h1,h2,h3⟩:=h
 have hpc:U64 r.pc:=h1.1.2.2.2.1
 obtain⟨t1,t2⟩:=zgw h1 (kind:=0) hpc (show r.ks.length+1≤2097152 by omega)
 have tv:=v.trans h1 (kind:=0) hpc (by decide) (by decide)
 obtain⟨c1,c2,c3⟩:=zh6 r 0 r.pc
 have tk:(zao r 0 r.pc).1.ks.length=r.ks.length+1:=by rw[zh7];simp
 unfold zbd
 split
 · unfold ybr
   split
   · split
     · obtain⟨x0,x1⟩:=read4 t1.1.1 (a:=(zao r 0 r.pc).2.2)
       exact VaR.exec (zzq t1 (c1.trans h2) (by omega) x0 x1) tv
     · exact tv.trap (by decide) hpc
   · exact tv.trap (znu ..) hpc
 · exact v.trap (by decide) hpc
def HaV(h:Ha):Prop:=HaR h∧h.2.1.length=8∧zci (toC (Rn.ofH h).k)=true∧(0≤(Rn.ofH h).mo∧(Rn.ofH h).mo≤2)∧(0≤(Rn.ofH h).em∧(Rn.ofH h).em≤2)
theorem zfi{p:Bool}{t:Tl}(h:zat p t=true):1≤t.2.2.length∧t.2.2.length≤32:=by
 obtain⟨s,w,m⟩:=t
 obtain⟨hs,w1,w4,hl⟩:=zio (zb4 h)
 show 1≤m.length∧m.length≤32
 rcases hs with e|e|e|e<;>(rw[e] at hl;omega)
theorem HaV.step{h:Ha}(v:HaV h){pk:Int}(p0:0≤pk)(p1:pk≤255):zsu (Rn.ofH h) pk:=by
 obtain⟨a,b,c,d,e⟩:=v
 obtain⟨c1,c2,c3⟩:=zdo.1 c
 exact⟨a,b,p0,p1,(zfi c1).1,(zfi c2).1,(zfi c3).1⟩
theorem VaR.evict{r:Rn}(v:VaR r)(k:Int):VaR (r.evict k):=by
 obtain⟨v1,v2,v3,v4⟩:=v
 obtain⟨a,b,c⟩:=zdo.1 v1
 exact⟨zdo.2 ⟨zi0 a k,zi0 b k,zi0 c k⟩,v2,v3,v4⟩
theorem HaV.next{h:Ha}(v:HaV h){pk:Int}(p0:0≤pk)(p1:pk≤255)(pl:Bool):HaV (zcy (Rn.ofH h) pl pk).h:=by
 have hs:=v.step p0 p1
 have hb:=zkg (pl:=pl) hs
 have vs:VaR ((Rn.ofH h).start pl pk):=⟨v.2.2.1,v.2.2.2.1,v.2.2.2.2,⟨p0,p1⟩,⟨Int.le_refl 0,(by decide:(0:Int)≤63)⟩,zj5⟩
 have vf:VaR ((Rn.ofH h).first pl pk):=by
  unfold Rn.first
  split
  · exact vs.evict _
  · exact vs
 obtain⟨b1,b2⟩:=ys8 hb
 have bv:=VaR.body hb vf
 obtain⟨⟨a1,a2,a3,a4,a5,a6,a7,a8,a9,a10,a11,a12⟩,hlen,hks⟩:=b1
 have v4:=v.2.2.2.1
 obtain⟨⟨e1,e2,e3,e4,e5,e6,e7,e8,e9,e10,e11,e12⟩,elen,_⟩:=v
 unfold zcy
 split
 · exact⟨⟨a1,a2,a3,a4,a5,a6,a7,a8,a9,a10,a11,a12⟩,hlen,bv.1,bv.2.1,bv.2.2.1⟩
 · exact⟨⟨e1,e2,e3,e7,⟨by show _≤(2:Int);decide,by show (2:Int)<_;decide⟩,e6,e7,e4,e5,⟨by show _≤(zbd _).cs;have:=bv.2.2.2.2.1;omega,by show (zbd _).cs<_;have:=bv.2.2.2.2.1;omega⟩,bv.2.2.2.2.2,a12⟩,elen,bv.1,⟨(by decide:(0:Int)≤2),Int.le_refl 2⟩,v4⟩
end Go.Proofs.YtfiddfbagbaofaaGreat.V
