/- The program's step is the reference's: plain words, no program in sight. Conditions: those in each statement. -/
import Derived.Test.YtfiddfbagbaofaaGreatIF
namespace Go.Proofs.YtfiddfbagbaofaaGreat.V
open Go
def Rn.hp(r:Rn)(pc:Int):Hn:=⟨r.m,r.u,pc,r.mo,r.su,r.mx,r.sa,r.tv,r.ep,r.em,r.ca,r.tl,toC r.k,[],[]⟩
def qOf(p:Pt):Qt:=(p.1,p.2.2,p.2.1)
structure Tel (M:Tm) (pl:Bool) (pk:Int):Prop where
 ok:M.Ok Tryz.prog
 inv:∀{r:Rn}(n:Nat),RnR r→VaR r→r.pl=pl→r.pk=pk→M.inv n (toC r.k) [] []
 tr:∀{r:Rn}{kind va:Int}(pc:Int),RnR r→VaR r→r.pl=pl→r.pk=pk→0≤kind→kind≤2→U64 va→(zdy M (r.hp pc) r.c kind va).1=(zam r kind va).2.1∧((zam r kind va).2.1=0→(zdy M (r.hp pc) r.c kind va).2.1=(zam r kind va).2.2)∧(zdy M (r.hp pc) r.c kind va).2.2=(zam r kind va).1.hp pc
 fe:∀{r:Rn}{f:Fc},RnR r→VaR r→r.pl=pl→r.pk=pk→U64 f.2.1→M.fe f (toC r.k) [] []=(toC (zd4 r f).k,[],[])
structure Run (pl:Bool) (pk:Int) (r:Rn):Prop where
 R:RnR r
 V:VaR r
 pl:r.pl=pl
 pk:r.pk=pk
 cs:r.cs=0
 tw:r.tw=0
 u0:r.u.getD 0 0=0
def Sim(r:Rn)(O:Oq)(y:Rn):Prop:=(y.cs=0→O.1=0∧y.tw=0∧{ O.2.2.1 with pc:=O.2.2.2 }=y.hp y.pc)∧(y.cs≠0→O.1=y.cs∧O.2.1=y.tw∧O.2.2.1=(r.hp r.pc).upd (toC y.k,[],[]))
set_option linter.unusedSimpArgs false
set_option linter.unusedVariables false
theorem zmz:∀a b:By,zda (a++b)=zda a+256 ^ a.length*zda b
 | [],b=>by simp[zda]
 | x::a,b=>by
  simp only[List.cons_append,zda,zmz a b,List.length_cons]
  rw[Int.pow_succ,Int.mul_add,Int.add_assoc, ← Int.mul_assoc,Int.mul_comm 256 (256 ^ a.length)]
theorem yzx{x y:Int}{i n:Nat}(hx:0≤x∧x<256 ^ i)(hy:0≤y∧y<256 ^ n)(hn:i+n≤8):bits .or .u64 x (IntKind.u64.wrap (y*2 ^ (8*i)))=x+256 ^ i*y:=by
 have hp:(0:Int)<256 ^ i:=Int.pow_pos (by omega)
 have h8:(256:Int) ^ i*256 ^ n≤18446744073709551616:=by
  rw[← Int.pow_add]
  have:=ztk (m:=8*(i+n)) (n:=8*8) (by omega)
  rw[pow8,pow8] at this
  exact this
 have q0:0≤y*256 ^ i:=Int.mul_nonneg hy.1 (by omega)
 have q1:y*256 ^ i<18446744073709551616:=by
  have:=Int.mul_lt_mul_of_pos_right hy.2 hp
  rw[Int.mul_comm (256 ^ n)] at this
  omega
 have hxb:x<18446744073709551616:=by
  have:=ztk (m:=8*i) (n:=8*8) (by omega)
  rw[pow8,pow8] at this
  have e:(256:Int) ^ 8=18446744073709551616:=by decide
  omega
 rw[pow8,zah q0 q1,or_comm,zxe (8*i) q0 (by rw[pow8];exact Int.mul_emod_left _ _) q1 hx.1 (by rw[pow8];exact hx.2) hxb,Int.add_comm,Int.mul_comm]
theorem yr0{m:By}(hm:zaz m):∀(ps:Ps)(x:Int)(i:Nat),(∀p ∈ ps,0≤p.2.1∧0≤p.2.2∧p.2.2+p.2.1≤m.length)→0≤x→x<256 ^ i→i+zdx ps≤8→ldM m x (8*i) (ps.map qOf)=x+256 ^ i*zda (zef m ps)
 | [],x,i,_,_,_,_=>by simp[ldM,zef,zda]
 | p::ps,x,i,h,x0,x1,hi=>by
  obtain⟨h1,h2,h3⟩:=h p List.mem_cons_self
  have hi:i+(p.2.1.toNat+zdx ps)≤8:=hi
  have hl:((m.drop p.2.2.toNat).take p.2.1.toNat).length=p.2.1.toNat:=by simp only[List.length_take,List.length_drop];omega
  have hn:=zm0 (m:=(m.drop p.2.2.toNat).take p.2.1.toNat) (fun b hb=>hm.2 b (List.mem_of_mem_drop (List.mem_of_mem_take hb)))
  rw[hl] at hn
  show ldM m (bits .or .u64 x (IntKind.u64.wrap (zda ((m.drop p.2.2.toNat).take p.2.1.toNat)*2 ^ (8*(i:Int)).toNat))) (8*(i:Int)+8*p.2.1) (ps.map qOf)=x+256 ^ i*zda ((m.drop p.2.2.toNat).take p.2.1.toNat++zef m ps)
  have e1:(8*(i:Int)).toNat=8*i:=by omega
  have e2:8*(i:Int)+8*p.2.1=8*((i+p.2.1.toNat:Nat):Int):=by omega
  rw[e1,yzx ⟨x0,x1⟩ hn (by omega),e2]
  have hp:(0:Int)<256 ^ i:=Int.pow_pos (by omega)
  have hb:256 ^ i*zda ((m.drop p.2.2.toNat).take p.2.1.toNat)≤256 ^ i*(256 ^ p.2.1.toNat-1):=Int.mul_le_mul_of_nonneg_left (by omega) (by omega)
  have h0:0≤256 ^ i*zda ((m.drop p.2.2.toNat).take p.2.1.toNat):=Int.mul_nonneg (by omega) hn.1
  rw[yr0 hm ps _ _ (fun q hq=>h q (List.mem_cons_of_mem _ hq)) (by omega) (by rw[Int.pow_add];rw[Int.mul_sub] at hb;omega) (by omega),zmz,hl,Int.pow_add,Int.mul_add]
  rw[Int.add_assoc,Int.mul_assoc]
theorem yr1{m:By}{ps:Ps}(hm:zaz m)(h:PsR m.length ps):ldM m 0 0 (ps.map qOf)=zda (zef m ps):=by
 have:=yr0 hm ps 0 0 (fun p hp=>⟨(h.2.2.2 p hp).1,(h.2.2.2 p hp).2.2.1,(h.2.2.2 p hp).2.2.2⟩) (by omega) (by decide) (by have:=h.2.2.1;omega)
 simpa using this
theorem zsc:∀(n:Nat)(v:Int)(k:Nat),(zb6 v (n+k)).take n=zb6 v n
 | 0,v,k=>by simp[zb6]
 | n+1,v,k=>by rw[show n+1+k=(n+k)+1 by omega];simp only[zb6,List.take_succ_cons,zsc n]
theorem zsa:∀(n:Nat)(v:Int)(k:Nat),(zb6 v (n+k)).drop n=zb6 (v/2 ^ (8*n)) k
 | 0,v,k=>by simp
 | n+1,v,k=>by
  rw[show n+1+k=(n+k)+1 by omega]
  simp only[zb6,List.drop_succ_cons,zsa n]
  rw[Int.ediv_ediv_of_nonneg (by omega),show 8*(n+1)=8+8*n by omega,Int.pow_add]
  rfl
theorem yi4:∀(ps:Ps)(m:By)(x:Int),(∀p ∈ ps,0≤p.2.1)→(stM m x (ps.map qOf)).1=zh0 m ps (zb6 x (zdx ps))
 | [],m,x,_=>rfl
 | p::ps,m,x,h=>by
  have h1:=h p List.mem_cons_self
  show (stM (zgk m p.2.2.toNat (zb6 x p.2.1.toNat)) (x/2 ^ (8*p.2.1).toNat) (ps.map qOf)).1=zh0 (zgk m p.2.2.toNat ((zb6 x (p.2.1.toNat+zdx ps)).take p.2.1.toNat)) ps ((zb6 x (p.2.1.toNat+zdx ps)).drop p.2.1.toNat)
  rw[yi4 ps _ _ (fun q hq=>h q (List.mem_cons_of_mem _ hq)),zsc,zsa,show (8*p.2.1).toNat=8*p.2.1.toNat by omega]
theorem zlj(r:Rn)(kind va:Int):(zam r kind va).1.u=r.u∧(zam r kind va).1.pc=r.pc∧(zam r kind va).1.tw=r.tw∧(zam r kind va).1.pk=r.pk∧(zam r kind va).1.ks.length=r.ks.length+1∧(zam r kind va).1.c=r.c:=by
 unfold zam
 split
 · exact⟨rfl,rfl,rfl,rfl,by simp[zdf],rfl⟩
 · exact⟨rfl,rfl,rfl,rfl,by simp[zdf,Rn.withK],rfl⟩
theorem Run.trans{pl:Bool}{pk:Int}{r:Rn}(h:Run pl pk r){kind va:Int}(hv:U64 va)(k0:0≤kind)(k2:kind≤2)(hk:r.ks.length+1≤2097152):Run pl pk (zam r kind va).1:=by
 obtain⟨a1,a2,a3,a4,a5,a6⟩:=zlj r kind va
 obtain⟨b1,b2,b3⟩:=zho r kind va
 exact⟨(zgg h.R hv hk).1,VaR.trans h.R h.V hv k0 k2,b3.trans h.pl,a4.trans h.pk,b1.trans h.cs,a3.trans h.tw,by rw[a1];exact h.u0⟩
theorem yap(kind:Int):∀(todo:Ps)(r:Rn)(done:Ps),(zay kind r done todo).1.pc=r.pc∧(zay kind r done todo).1.u=r.u∧(zay kind r done todo).1.pk=r.pk∧((zay kind r done todo).2.2=false→(zay kind r done todo).1.tw=r.tw)
 | [],r,done=>⟨rfl,rfl,rfl,fun _=>rfl⟩
 | p::todo,r,done=>by
  obtain⟨t1,t2,t3,t4, -⟩:=zlj r kind p.1
  unfold zay
  split
  · obtain⟨a,b,c,d⟩:=yap kind todo (zam r kind p.1).1 (done++[(p.1,p.2.1,(zam r kind p.1).2.2)])
    exact⟨a.trans t2,b.trans t1,c.trans t4,fun h=>(d h).trans t3⟩
  · exact⟨t2,t1,t4,fun h=>by cases h⟩
theorem ztj{M:Tm}{pl:Bool}{pk:Int}(T:Tel M pl pk){kind:Int}(k0:0≤kind)(k2:kind≤2)(pc:Int):∀(todo:Ps)(r:Rn)(done:Ps),Run pl pk r→r.ks.length+todo.length≤2097152→(∀p ∈ todo,U64 p.1) →
 zeq M r.c kind (r.hp pc) (done.map qOf) (todo.map qOf)=((zay kind r done todo).1.cs,(zay kind r done todo).1.tw,(zay kind r done todo).1.hp pc,(zay kind r done todo).2.1.map qOf)
 | [],r,done,h,_,_=>by
  show ((0,0,r.hp pc,done.map qOf):Int × Int × Hn × Qs)=(r.cs,r.tw,r.hp pc,done.map qOf)
  rw[h.cs,h.tw]
 | p::todo,r,done,h,hk,hp=>by
  have hk:r.ks.length+(todo.length+1)≤2097152:=hk
  have hu:U64 p.1:=hp p List.mem_cons_self
  obtain⟨t1,t2,t3⟩:=T.tr pc h.R h.V h.pl h.pk k0 k2 hu
  obtain⟨-, -, -, -,f5,f6⟩:=zlj r kind p.1
  by_cases q:(zam r kind p.1).2.1=0
  · have e1:zeq M r.c kind (r.hp pc) (done.map qOf) ((p::todo).map qOf)=zeq M r.c kind (zdy M (r.hp pc) r.c kind p.1).2.2 (done.map qOf++[(p.1,(zdy M (r.hp pc) r.c kind p.1).2.1,p.2.1)]) (todo.map qOf):=if_pos (t1.trans q)
    have e2:zay kind r done (p::todo)=zay kind (zam r kind p.1).1 (done++[(p.1,p.2.1,(zam r kind p.1).2.2)]) todo:=if_pos q
    have e3:done.map qOf++[(p.1,(zam r kind p.1).2.2,p.2.1)]=(done++[(p.1,p.2.1,(zam r kind p.1).2.2)]).map qOf:=by rw[List.map_append];rfl
    rw[e1,e2,t2 q,t3,e3, ← f6]
    exact ztj T k0 k2 pc todo _ _ (h.trans hu k0 k2 (by omega)) (by omega) (fun x hx=>hp x (List.mem_cons_of_mem _ hx))
  · have e1:zeq M r.c kind (r.hp pc) (done.map qOf) ((p::todo).map qOf)=((zdy M (r.hp pc) r.c kind p.1).1,p.1,(zdy M (r.hp pc) r.c kind p.1).2.2,done.map qOf++qOf p::todo.map qOf):=if_neg (fun z=>q (t1.symm.trans z))
    have e2:zay kind r done (p::todo)=(zdn (zam r kind p.1).1 (zam r kind p.1).2.1 p.1,done++p::todo,true):=if_neg q
    rw[e1,e2,t1,t3,List.map_append]
    rfl
theorem zo1(kind:Int)(r:Rn)(hc:r.cs=0):∀ps:Ps,(zqi r.m kind (ps.map qOf)).1=(zbl kind r ps).cs∧((zbl kind r ps).cs≠0→(zqi r.m kind (ps.map qOf)).2=(zbl kind r ps).tw)∧((zbl kind r ps).cs=0→zbl kind r ps=r)
 | []=>⟨hc.symm,fun q=>absurd hc q,fun _=>rfl⟩
 | p::ps=>by
  obtain⟨a1,a2,a3⟩:=zo1 kind r hc ps
  by_cases q:zf1 r.m p.2.2 p.2.1=true
  · have e1:zqi r.m kind ((p::ps).map qOf)=zqi r.m kind (ps.map qOf):=if_pos q
    have e2:zbl kind r (p::ps)=zbl kind r ps:=if_pos q
    rw[e1,e2]
    exact⟨a1,a2,a3⟩
  · have e1:zqi r.m kind ((p::ps).map qOf)=(afM kind,p.1):=if_neg q
    have e2:zbl kind r (p::ps)=zdn r (afM kind) p.1:=if_neg q
    rw[e1,e2]
    exact⟨rfl,fun _=>rfl,fun z=>absurd z (ybj kind)⟩
theorem yoy(ea w:Int):zba ea w=(zaq ea w).map qOf:=by
 unfold zba zaq
 split<;>rfl
theorem yfd{M:Tm}{pl:Bool}{pk:Int}(T:Tel M pl pk){r:Rn}(h:Run pl pk r){kind ea w:Int}(k0:0≤kind)(k2:kind≤2)(hp:zd3 r ea w)(pc:Int) :
 (zc2 M (r.hp pc) r.c kind ea w).1=(zas r kind ea w).1.cs∧((zas r kind ea w).1.cs≠0→(zc2 M (r.hp pc) r.c kind ea w).2.1=(zas r kind ea w).1.tw)∧(zc2 M (r.hp pc) r.c kind ea w).2.2.1=(zas r kind ea w).1.hp pc ∧
 (zas r kind ea w).1.hp pc=(r.hp pc).upd (toC (zas r kind ea w).1.k,[],[])∧(zas r kind ea w).1.pc=r.pc ∧
 ((zas r kind ea w).1.cs=0→(zc2 M (r.hp pc) r.c kind ea w).2.2.2=(zas r kind ea w).2.map qOf∧(zas r kind ea w).1.tw=0):=by
 have hc:=h.R.1
 obtain⟨-,hks,hva,w1,w8⟩:=id hp
 obtain⟨o1,o2,o3,o4⟩:=zhl hva w1 w8
 have e1:=ztj T k0 k2 pc (zaq ea w) r [] h (by omega) (fun p hp=>(o4 p hp).1)
 rw[List.map_nil, ← yoy] at e1
 obtain⟨g1,g2,g3,g4⟩:=zja kind (zaq ea w) r []
 obtain⟨f1,f2,f3,f4⟩:=yap kind (zaq ea w) r []
 have hA:yl7 M (r.hp pc) r.c kind ea w:=⟨hc.1,hc.2.2.2.2.2.1,h.V.2.1.1,h.V.2.1.2,k0,k2,hva,w1,w8,0,T.inv 2 h.R h.V h.pl h.pk⟩
 obtain⟨i1, -, -⟩:=zkh T.ok (n:=0) hA (T.inv 2 h.R h.V h.pl h.pk)
 have key:(zc2 M (r.hp pc) r.c kind ea w).1=(zas r kind ea w).1.cs∧((zas r kind ea w).1.cs≠0→(zc2 M (r.hp pc) r.c kind ea w).2.1=(zas r kind ea w).1.tw)∧(zc2 M (r.hp pc) r.c kind ea w).2.2.1=(zas r kind ea w).1.hp pc∧(zas r kind ea w).1.pc=r.pc ∧
  ((zas r kind ea w).1.cs=0→(zc2 M (r.hp pc) r.c kind ea w).2.2.2=(zas r kind ea w).2.map qOf∧(zas r kind ea w).1.tw=0):=by
  unfold zc2 zas
  rw[e1]
  cases q:(zay kind r [] (zaq ea w)).2.2 with
  | true =>
   have q1:=g4 q
   rw[if_pos q1,if_pos rfl]
   exact⟨rfl,fun _=>rfl,rfl,f1,fun z=>absurd z q1⟩
  | false =>
   have q1:=(g3 q).trans h.cs
   obtain⟨a1,a2,a3⟩:=zo1 kind (zay kind r [] (zaq ea w)).1 q1 (zay kind r [] (zaq ea w)).2.1
   rw[if_neg (fun z=>z q1),if_neg (by decide)]
   have hi:(zbl kind (zay kind r [] (zaq ea w)).1 (zay kind r [] (zaq ea w)).2.1).hp pc=(zay kind r [] (zaq ea w)).1.hp pc∧(zbl kind (zay kind r [] (zaq ea w)).1 (zay kind r [] (zaq ea w)).2.1).pc=(zay kind r [] (zaq ea w)).1.pc:=by
    rcases zf6 kind (zay kind r [] (zaq ea w)).1 (zay kind r [] (zaq ea w)).2.1 with ⟨z, -⟩|⟨v,z⟩
    · rw[z];exact⟨rfl,rfl⟩
    · rw[z];exact⟨rfl,rfl⟩
   exact⟨a1,a2,hi.1.symm,hi.2.trans f1,fun z=>⟨rfl,by rw[a3 z];exact (f4 q).trans h.tw⟩⟩
 obtain⟨k1,k3,k4,k5,k6⟩:=key
 refine⟨k1,k3,k4, ?_,k5,k6⟩
 rw[k4] at i1
 exact i1
theorem yur:∀s:Fin 256,IntKind.u64.wrap (IntKind.i64.wrap (IntKind.i8.wrap (s.1:Int)))=ze5 s.1∧IntKind.u64.wrap (4*ze5 s.1)=zgp s.1∧bits .and .u64 (ze5 s.1) 63=(s.1:Int) % 64:=by decide +kernel
theorem yrk{s:Int}(h0:0≤s)(h1:s<256):IntKind.u64.wrap (IntKind.i64.wrap (IntKind.i8.wrap s))=ze5 s∧IntKind.u64.wrap (4*ze5 s)=zgp s∧bits .and .u64 (ze5 s) 63=s % 64:=by
 have h:=yur ⟨s.toNat,by omega⟩
 have e:((s.toNat:Nat):Int)=s:=by omega
 rw[e] at h
 exact h
theorem yxr:∀d:Fin 8,znw (d.1:Int)=pw ((d.1:Int) % 4):=by decide +kernel
theorem ybh1{d:Int}(h0:0≤d)(h1:d<8):znw d=pw (d % 4):=by
 have h:=yxr ⟨d.toNat,by omega⟩
 have e:((d.toNat:Nat):Int)=d:=by omega
 rw[e] at h
 exact h
theorem yvx:∀n:Fin 64,((2:Int) ^ min ((n.1:Int)).toNat 64)=pw (n.1:Int):=by decide +kernel
theorem yae1{n:Int}(h0:0≤n)(h1:n<64):(2:Int) ^ min n.toNat 64=pw n:=by
 have h:=yvx ⟨n.toNat,by omega⟩
 have e:((n.toNat:Nat):Int)=n:=by omega
 rw[e] at h
 exact h
theorem yty{x y:Int}(h:U64 x)(y0:0≤y)(y1:y<64):bits .and .u64 x y=((x.toNat &&& y.toNat:Nat):Int):=by
 have e:bits .and .u64 x y=IntKind.u64.wrap ((BitVec.ofInt 64 x &&& BitVec.ofInt 64 y).toNat:Int):=rfl
 obtain⟨h0,h1⟩:=h
 have ex:(BitVec.ofInt 64 x).toNat=x.toNat:=by rw[BitVec.toNat_ofInt];omega
 have ey:(BitVec.ofInt 64 y).toNat=y.toNat:=by rw[BitVec.toNat_ofInt];omega
 rw[e,BitVec.toNat_and,ex,ey]
 have:x.toNat &&& y.toNat≤y.toNat:=Nat.and_le_right
 exact zah (by omega) (by omega)
theorem ywl:∀n:Fin 4,((((n.1 &&& 2:Nat):Int))==2)=(((n.1:Int)/2 % 2)==1):=by decide
theorem ytz{x:Int}(h:U64 x):(bits .and .u64 x 2==2)=zax x 1:=by
 rw[yty h (by omega) (by omega)]
 have e1:x.toNat &&& (2:Int).toNat=x.toNat % 4 &&& 2:=by
  show x.toNat &&& 2=x.toNat % 4 &&& 2
  rw[← Nat.and_two_pow_sub_one_eq_mod x.toNat 2,Nat.and_assoc,show (2 ^ 2-1 &&& 2:Nat)=2 by decide]
 rw[e1]
 have h2:=ywl ⟨x.toNat % 4,by omega⟩
 have h0:=h.1
 have e2:zax x 1=((((x.toNat % 4:Nat):Int)/2 % 2)==1):=by
  show (x/2 % 2==1)=_
  congr 1
  omega
 rw[e2]
 exact h2
theorem ymq{x:Int}(h:U64 x):(bits .and .u64 x 1==1)=zax x 0:=by
 rw[yfg h]
 unfold zax
 simp
theorem yg0{op c mo:Int}(h0:0≤mo)(h2:mo≤2):zcz op c mo=false↔(zj3 op c mo=true∨¬ (1≤op∧op≤14)):=by
 unfold zcz zj3
 split
 · rename_i q
   rcases q with rfl|rfl|rfl<;>simp
 · split
   · rename_i q;subst q;simp
   · split
     · rename_i q;subst q
       by_cases m2:mo=2<;>by_cases c2:c≤2<;>simp[m2,c2]<;>omega
     · rename_i q1 q2 q3
       by_cases p1:1≤op<;>by_cases p2:op≤14<;>simp[p1,p2,q2,q3]<;>omega
theorem zq4{u:Us}(h:u.getD 0 0=0):u.set 0 0=u:=by
 cases u with
 | nil=>rfl
 | cons x t=>have h:x=0:=h;subst h;rfl
theorem yvw{u:Us}(h:u.getD 0 0=0){a:Int}(ha:0≤a)(v:Int):(u.set (0+a.toNat) v).set 0 0=if 0<a then u.set a.toNat v else u:=by
 rw[Nat.zero_add]
 split
 · rw[List.set_comm _ _ (by omega),zq4 h]
 · rw[show a.toNat=0 by omega,List.set_set,zq4 h]
theorem zgh{X:Hn}(h:X.u.getD 0 0=0):X.zero=X:=by
 show ({ X with u:=X.u.set 0 0 }:Hn)=X
 rw[zq4 h]
theorem zrx{r:Rn}(h:r.u.getD 0 0=0){a:Int}(ha:0≤a)(v pc nx:Int):{ ((r.hp pc).setU a v).zero with pc:=nx }=(zbu r a v).hp nx:=by
 show ({ (r.hp nx) with u:=(r.u.set (0+a.toNat) v).set 0 0 }:Hn)={ (r.hp nx) with u:=if 0<a then r.u.set a.toNat v else r.u }
 rw[yvw h ha]
theorem ygc(r:Rn)(pc i:Int):gd (r.hp pc) i=zby r i:=by
 unfold gd zby
 rw[Nat.zero_add]
 rfl
theorem zgm{r y:Rn}{X:Hn}{nx:Int}(hy:y.cs=0)(ht:y.tw=0)(e:{ X.zero with pc:=nx }=y.hp y.pc):Sim r (zny (0,0,X,nx)) y:=⟨fun _=>⟨rfl,ht,e⟩,fun q=>absurd hy q⟩
theorem zle{r y:Rn}{X:Hn}{c v nx:Int}(hc:y.cs≠0)(e1:c=y.cs)(e2:v=y.tw)(e3:X=(r.hp r.pc).upd (toC y.k,[],[])):Sim r (zny (c,v,X,nx)) y:=by
 subst e1 e2 e3
 refine⟨fun q=>absurd q hc,fun _=>⟨rfl,rfl, ?_⟩⟩
 show (if _ then _ else _)=_
 rw[if_neg hc]
theorem zq7{pl:Bool}{pk:Int}{r:Rn}(h:Run pl pk r){a:Int}(ha:0≤a)(v:Int):Sim r (zny (0,0,(r.hp r.pc).setU a v,(pc4 r).pc)) (zbu (pc4 r) a v) :=
 zgm h.cs h.tw (zrx (r:=pc4 r) h.u0 ha v r.pc (pc4 r).pc)
theorem Run.pc4{pl:Bool}{pk:Int}{r:Rn}(h:Run pl pk r):Run pl pk (pc4 r):=⟨zdo h.R,h.V,h.pl,h.pk,h.cs,h.tw,h.u0⟩
theorem yfc{M:Tm}{pl:Bool}{pk:Int}(T:Tel M pl pk){r:Rn}(h:Run pl pk r)(hk:r.ks.length+2≤2097152){kind ea w:Int}(k0:0≤kind)(k2:kind≤2)(hea:U64 ea)(w1:1≤w)(w8:w≤8){A:Int × Int × Hn × Qs}(hA:zc2 M (r.hp r.pc) r.c kind ea w=A){B:Rn × Ps}(hB:zas (pc4 r) kind ea w=B) :
 A.1=B.1.cs∧(B.1.cs≠0→A.2.1=B.1.tw)∧A.2.2.1=B.1.hp r.pc∧B.1.hp r.pc=(r.hp r.pc).upd (toC B.1.k,[],[])∧B.1.pc=(pc4 r).pc∧(B.1.cs=0→A.2.2.2=B.2.map qOf∧B.1.tw=0)∧B.1.m=r.m∧B.1.u=r.u∧(B.1.cs=0→PsR r.m.length B.2∧(zdx B.2:Int)=w):=by
 have hp:zd3 (pc4 r) ea w:=⟨h.pc4.R,hk,hea,w1,w8⟩
 obtain⟨e1,e2,e3,e4,e5,e6⟩:=yfd T h.pc4 k0 k2 hp r.pc
 obtain⟨-, -,g3, -, -, -,g7⟩:=zdi (kind:=kind) hp
 subst hA hB
 exact⟨e1,e2,e3,e4,e5,e6,g3,congrArg Hn.u e4,fun q=>g7 h.cs q⟩
theorem ynx{M:Tm}{pl:Bool}{pk:Int}(T:Tel M pl pk){r:Rn}(h:Run pl pk r)(hk:r.ks.length+2≤2097152){a ea w:Int}(ha:0≤a)(hea:U64 ea)(w1:1≤w)(w8:w≤8) :
 Sim r (zny (ldO (zc2 M (r.hp r.pc) r.c 1 ea w) a (pc4 r).pc)) (zs4 (pc4 r) a ea w):=by
 unfold zs4
 generalize hA:zc2 M (r.hp r.pc) r.c 1 ea w=A
 generalize hB:zas (pc4 r) 1 ea w=B
 obtain⟨e1,e2,e3,e4,e5,e6,e7,e8,e9⟩:=yfc T h hk (by omega) (by omega) hea w1 w8 hA hB
 unfold ldO
 by_cases q:B.1.cs=0
 · rw[if_pos q,if_pos (e1.trans q),e3,(e6 q).1]
   have e:ldM (B.1.hp r.pc).m 0 0 (B.2.map qOf)=zda (zef B.1.m B.2):=by
    show ldM B.1.m 0 0 (B.2.map qOf)=_
    rw[e7]
    exact yr1 h.R.1.1 (e9 q).1
   rw[e]
   refine zgm q (e6 q).2 ?_
   rw[zrx (by rw[e8];exact h.u0) ha, ← e5]
   rfl
 · rw[if_neg q,if_neg (fun z=>q (e1.symm.trans z))]
   exact zle q e1 (e2 q) (e3.trans e4)
theorem yi6{M:Tm}{pl:Bool}{pk:Int}(T:Tel M pl pk){r:Rn}(h:Run pl pk r)(hk:r.ks.length+2≤2097152){ea w:Int}(x:Int)(hea:U64 ea)(w1:1≤w)(w8:w≤8) :
 Sim r (zny (stO (zc2 M (r.hp r.pc) r.c 2 ea w) x (pc4 r).pc)) (zkr (pc4 r) x ea w):=by
 unfold zkr
 generalize hA:zc2 M (r.hp r.pc) r.c 2 ea w=A
 generalize hB:zas (pc4 r) 2 ea w=B
 obtain⟨e1,e2,e3,e4,e5,e6,e7,e8,e9⟩:=yfc T h hk (by omega) (by omega) hea w1 w8 hA hB
 unfold stO
 by_cases q:B.1.cs=0
 · rw[if_pos q,if_pos (e1.trans q),e3,(e6 q).1]
   refine zgm q (e6 q).2 ?_
   rw[zgh (by show B.1.u.getD 0 0=0;rw[e8];exact h.u0)]
   have e:(stM (B.1.hp r.pc).m x (B.2.map qOf)).1=zh0 B.1.m B.2 (zb6 x w.toNat):=by
    rw[yi4 B.2 _ _ (fun p hp=>((e9 q).1.2.2.2 p hp).1),show zdx B.2=w.toNat by have:=(e9 q).2;omega]
    rfl
   rw[e, ← e5]
   rfl
 · rw[if_neg q,if_neg (fun z=>q (e1.symm.trans z))]
   exact zle q e1 (e2 q) (e3.trans e4)
theorem ytx{M:Tm}{pl:Bool}{pk:Int}(T:Tel M pl pk){r:Rn}(h:Run pl pk r)(hk:r.ks.length+2≤2097152){a d ea:Int}(ha:0≤a)(hea:U64 ea) :
 Sim r (zny (amO (zc2 M (r.hp r.pc) r.c 2 ea 8) a d (pc4 r).pc)) (yq8 (pc4 r) a (zby r d) ea):=by
 unfold yq8
 generalize hA:zc2 M (r.hp r.pc) r.c 2 ea 8=A
 generalize hB:zas (pc4 r) 2 ea 8=B
 obtain⟨e1,e2,e3,e4,e5,e6,e7,e8,e9⟩:=yfc T h hk (by omega) (by omega) hea (by omega) (by omega) hA hB
 unfold amO
 by_cases q:B.1.cs=0
 · rw[if_pos q,if_pos (e1.trans q),e3,(e6 q).1]
   have e:ldM (B.1.hp r.pc).m 0 0 (B.2.map qOf)=ymb B:=by
    show ldM B.1.m 0 0 (B.2.map qOf)=zda (zef B.1.m B.2)
    rw[e7]
    exact yr1 h.R.1.1 (e9 q).1
   have eg:gd (B.1.hp r.pc) d=zby r d:=by
    rw[ygc]
    unfold zby
    rw[e8]
   rw[e,eg]
   have es:(stM (B.1.hp r.pc).m (IntKind.u64.wrap (ymb B+zby r d)) (B.2.map qOf)).1=zh0 B.1.m B.2 (zb6 (IntKind.u64.wrap (ymb B+zby r d)) (8:Int).toNat):=by
    rw[yi4 B.2 _ _ (fun p hp=>((e9 q).1.2.2.2 p hp).1),show zdx B.2=(8:Int).toNat by have:=(e9 q).2;omega]
    rfl
   rw[es]
   refine zgm q (e6 q).2 ?_
   have z:=zrx (r:=zxo B 8 (IntKind.u64.wrap (ymb B+zby r d))) (by show B.1.u.getD 0 0=0;rw[e8];exact h.u0) ha (ymb B) r.pc (pc4 r).pc
   refine z.trans ?_
   rw[← e5]
   rfl
 · rw[if_neg q,if_neg (fun z=>q (e1.symm.trans z))]
   exact zle q e1 (e2 q) (e3.trans e4)
theorem yy8(r:Rn)(pc:Int){w:Int}(w0:0≤w)(w1:w<4294967296):ybx (r.hp pc) w=(w % 256,w/256 % 256 % 8,w/256 % 256/8 % 8,w/65536 % 256 % 8,ze5 (w/16777216),zby r (w/256 % 256 % 8)):=by
 unfold ybx
 have p8:(2:Int) ^ min (Int.toNat 8) 64=256:=by decide
 have p11:(2:Int) ^ min (Int.toNat 11) 64=2048:=by decide
 have p16:(2:Int) ^ min (Int.toNat 16) 64=65536:=by decide
 have p24:(2:Int) ^ min (Int.toNat 24) 64=16777216:=by decide
 rw[p8,p11,p16,p24,zb9 8 255 256 (by decide) (by decide) (by decide) w0 (by omega),zb9 3 7 8 (by decide) (by decide) (by decide) (x:=w/256) (by omega) (by omega),zb9 3 7 8 (by decide) (by decide) (by decide) (x:=w/2048) (by omega) (by omega),zb9 3 7 8 (by decide) (by decide) (by decide) (x:=w/65536) (by omega) (by omega),(yrk (s:=w/16777216) (by omega) (by omega)).1,ygc]
 have a1:w/256 % 8=w/256 % 256 % 8:=by omega
 have a2:w/2048 % 8=w/256 % 256/8 % 8:=by omega
 have a3:w/65536 % 8=w/65536 % 256 % 8:=by omega
 rw[a1,a2,a3]
theorem yzw{M:Tm}{pl:Bool}{pk:Int}(T:Tel M pl pk){r:Rn}(h:Run pl pk r)(hk:r.ks.length+2≤2097152){op a b c s word:Int}(o1:1≤op)(o2:op≤14)(a0:0≤a)(a8:a<8)(b0:0≤b)(b8:b<8)(c0:0≤c)(c8:c<8)(s0:0≤s)(s1:s<256) :
 Sim r (zny (opM M (r.hp r.pc) r.c (op,a,b,c,ze5 s,zby r a) (pc4 r).pc)) (doM (pc4 r) (a,b,c,ze5 s,zgp s,zby r a,zby r b,zby r c,pw (c % 4)) op s word):=by
 obtain⟨i1,i2,i3⟩:=yrk s0 s1
 have ga:gd (r.hp r.pc) a=zby r a:=ygc ..
 have gb:gd (r.hp r.pc) b=zby r b:=ygc ..
 have gc:gd (r.hp r.pc) c=zby r c:=ygc ..
 have hea:U64 (IntKind.u64.wrap (zby r b+ze5 s)):=zeb _
 have hw:=ybh1 c0 c8
 have hpw:=zry (c:=c)
 have ra:=za6 h.R a0 a8
 have rb:=za6 h.R b0 b8
 have hops:op=1∨op=2∨op=3∨op=4∨op=5∨op=6∨op=7∨op=8∨op=9∨op=10∨op=11∨op=12∨op=13∨op=14:=by omega
 rcases hops with rfl|rfl|rfl|rfl|rfl|rfl|rfl|rfl|rfl|rfl|rfl|rfl|rfl|rfl
 · exact zq7 h a0 _
 · show Sim r (zny (0,0,(r.hp r.pc).setU a (IntKind.u64.wrap (gd (r.hp r.pc) b+gd (r.hp r.pc) c)),(pc4 r).pc)) (zbu (pc4 r) a (IntKind.u64.wrap (zby r b+zby r c)))
   rw[gb,gc]
   exact zq7 h a0 _
 · show Sim r (zny (0,0,(r.hp r.pc).setU a (IntKind.u64.wrap (gd (r.hp r.pc) b+ze5 s)),(pc4 r).pc)) (zbu (pc4 r) a (IntKind.u64.wrap (zby r b+ze5 s)))
   rw[gb]
   exact zq7 h a0 _
 · show Sim r (zny (0,0,(r.hp r.pc).setU a (IntKind.u64.wrap (gd (r.hp r.pc) b*2 ^ min (bits .and .u64 (ze5 s) 63).toNat 64)),(pc4 r).pc)) (zbu (pc4 r) a (IntKind.u64.wrap (zby r b*pw (s % 64))))
   rw[gb,i3,yae1 (by omega) (by omega)]
   exact zq7 h a0 _
 · show Sim r (zny (ldO (zc2 M (r.hp r.pc) r.c 1 (IntKind.u64.wrap (gd (r.hp r.pc) b+ze5 s)) (znw c)) a (pc4 r).pc)) (zs4 (pc4 r) a (IntKind.u64.wrap (zby r b+ze5 s)) (pw (c % 4)))
   rw[gb,hw]
   exact ynx T h hk a0 hea hpw.1 hpw.2
 · show Sim r (zny (stO (zc2 M (r.hp r.pc) r.c 2 (IntKind.u64.wrap (gd (r.hp r.pc) b+ze5 s)) (znw c)) (zby r a) (pc4 r).pc)) (zkr (pc4 r) (zby r a) (IntKind.u64.wrap (zby r b+ze5 s)) (pw (c % 4)))
   rw[gb,hw]
   exact yi6 T h hk _ hea hpw.1 hpw.2
 · show Sim r (zny (amO (zc2 M (r.hp r.pc) r.c 2 (IntKind.u64.wrap (gd (r.hp r.pc) b+ze5 s)) 8) a c (pc4 r).pc)) (yq8 (pc4 r) a (zby r c) (IntKind.u64.wrap (zby r b+ze5 s)))
   rw[gb]
   exact ytx T h hk a0 hea
 · have ep:IntKind.u64.wrap (IntKind.u64.wrap (r.pc+4)-4)=r.pc:=by
    have hpc:U64 r.pc:=h.R.1.2.2.2.1
    have h0:=hpc.1
    have h1:=hpc.2
    rw[IntKind.wrap_u64,IntKind.wrap_u64]
    omega
   have ej:IntKind.u64.wrap (r.pc+IntKind.u64.wrap (4*ze5 s))=IntKind.u64.wrap (IntKind.u64.wrap ((pc4 r).pc-4)+zgp s):=by
    rw[i2]
    show _=IntKind.u64.wrap (IntKind.u64.wrap (IntKind.u64.wrap (r.pc+4)-4)+zgp s)
    rw[ep]
   show Sim r (zny (0,0,r.hp r.pc,if zby r a=gd (r.hp r.pc) b then (pc4 r).pc else IntKind.u64.wrap (r.pc+IntKind.u64.wrap (4*ze5 s)))) (if zby r a=zby r b then pc4 r else { (pc4 r) with pc:=IntKind.u64.wrap (IntKind.u64.wrap ((pc4 r).pc-4)+zgp s) })
   rw[gb,ej]
   split
   · exact zgm h.cs h.tw (by rw[zgh h.u0];rfl)
   · exact zgm h.cs h.tw (by rw[zgh h.u0];rfl)
 · show Sim r (zny (0,0,if zbh (zby r a)=true then { r.hp r.pc with sa:=zby r a } else r.hp r.pc,(pc4 r).pc)) (if zbh (zby r a)=true then { (pc4 r) with sa:=zby r a } else pc4 r)
   split
   · exact zgm h.cs h.tw (by rw[zgh h.u0];rfl)
   · exact zgm h.cs h.tw (by rw[zgh h.u0];rfl)
 · show Sim r (zny (0,0,{ r.hp r.pc with su:=bits .and .u64 (zby r a) 1==1,mx:=bits .and .u64 (zby r a) 2==2 },(pc4 r).pc)) { (pc4 r) with su:=zax (zby r a) 0,mx:=zax (zby r a) 1 }
   rw[ytz ra,ymq ra]
   exact zgm h.cs h.tw (by rw[zgh h.u0];rfl)
 · have em:bits .and .u64 (gd (r.hp r.pc) b) 65535=zby r b % 65536:=by
    rw[gb]
    exact zb9 16 65535 65536 (by decide) (by decide) (by decide) rb.1 rb.2
   have ef:=T.fe (r:=pc4 r) (f:=yf4 a b (zby r a) (zby r b)) h.pc4.R h.pc4.V h.pl h.pk ra
   show Sim r (zny (0,0,(r.hp r.pc).upd (M.fe (!(a==0),zby r a, !(b==0),bits .and .u64 (gd (r.hp r.pc) b) 65535) (toC r.k) [] []),(pc4 r).pc)) (zd4 (pc4 r) (yf4 a b (zby r a) (zby r b)))
   rw[em]
   have ef:M.fe (!(a==0),zby r a, !(b==0),zby r b % 65536) (toC r.k) [] []=(toC (zd4 (pc4 r) (yf4 a b (zby r a) (zby r b))).k,[],[]):=ef
   rw[ef]
   generalize yf4 a b (zby r a) (zby r b)=f
   have hf:(zd4 (pc4 r) f).cs=0∧(zd4 (pc4 r) f).tw=0∧((r.hp (pc4 r).pc).upd (toC (zd4 (pc4 r) f).k,[],[]))=(zd4 (pc4 r) f).hp (zd4 (pc4 r) f).pc:=by
    unfold zd4
    split
    · exact⟨h.cs,h.tw,rfl⟩
    · exact⟨h.cs,h.tw,rfl⟩
   exact zgm hf.1 hf.2.1 (by rw[zgh h.u0];exact hf.2.2)
 · show Sim r (zny (0,0,{ r.hp r.pc with mo:=r.em },IntKind.u64.wrap (r.ep+IntKind.u64.wrap (4*ze5 s)))) { (pc4 r) with pc:=IntKind.u64.wrap (r.ep+zgp s),mo:=r.em }
   rw[i2]
   exact zgm h.cs h.tw (by rw[zgh h.u0];rfl)
 · show Sim r (zny (0,0,{ r.hp r.pc with ep:=zby r a,em:=IntKind.i64.wrap c },(pc4 r).pc)) { (pc4 r) with ep:=zby r a,em:=c }
   rw[zac (n:=c) (by omega) (by omega)]
   exact zgm h.cs h.tw (by rw[zgh h.u0];rfl)
 · have hm:=h.V.2.1
   have e:IntKind.i64.wrap (8+r.mo)=8+r.mo:=zac (by omega) (by omega)
   exact zle (by show IntKind.i64.wrap (8+r.mo)≠0;rw[e];omega) rfl rfl rfl
theorem yqq{M:Tm}{pl:Bool}{pk:Int}(T:Tel M pl pk){r:Rn}(h:Run pl pk r)(hk:r.ks.length+2≤2097152){w nx:Int}(w0:0≤w)(w1:w<4294967296):Sim r (yta M r.c nx (0,w,r.hp r.pc)) (yxs r w):=by
 unfold yta
 rw[if_neg (fun z=>z rfl)]
 dsimp only
 rw[yy8 r r.pc w0 w1]
 have hl:=yg0 (op:=w % 256) (c:=w/65536 % 256 % 8) h.V.2.1.1 h.V.2.1.2
 dsimp only
 show Sim r (if zcz (w % 256) (w/65536 % 256 % 8) r.mo=false then _ else _) (if zj3 (w % 256) (w/65536 % 256 % 8) r.mo=true then _ else _)
 by_cases q1:zj3 (w % 256) (w/65536 % 256 % 8) r.mo=true
 · rw[if_pos (hl.2 (.inl q1)),if_pos q1]
   exact⟨fun z=>absurd z (show ¬ (2:Int)=0 by decide),fun _=>⟨rfl,rfl,rfl⟩⟩
 · rw[if_neg q1]
   by_cases q2:1≤w % 256∧w % 256≤14
   · rw[if_neg (fun z=>(hl.1 z).elim q1 (fun k=>k q2))]
     exact yzw T h hk q2.1 q2.2 (by omega) (by omega) (by omega) (by omega) (by omega) (by omega) (by omega) (by omega)
   · rw[if_pos (hl.2 (.inr q2))]
     have e:doM (pc4 r) (zgr r (w/256 % 256) (w/65536 % 256) (w/16777216)) (w % 256) (w/16777216) w=zdn (pc4 r) 2 w:=by
      unfold doM
      repeat rw[if_neg (by omega)]
     rw[e]
     exact⟨fun z=>absurd z (show ¬ (2:Int)=0 by decide),fun _=>⟨rfl,rfl,rfl⟩⟩
theorem yo6(r:Rn)(kind va pc:Int):(zam r kind va).1.hp pc=(r.hp pc).upd (toC (zam r kind va).1.k,[],[]):=by
 unfold zam
 split<;>rfl
theorem ymu{M:Tm}{pl:Bool}{pk:Int}(T:Tel M pl pk){r:Rn}(h:Run pl pk r)(hk:r.ks.length+3≤2097152)(nx:Int):Sim r (zcr M (r.hp r.pc) r.c nx) (zbc r):=by
 have hpc:U64 r.pc:=h.R.1.2.2.2.1
 obtain⟨t1,t2,t3⟩:=T.tr (kind:=0) r.pc h.R h.V h.pl h.pk (by omega) (by omega) hpc
 have ht:=h.trans (kind:=0) hpc (by omega) (by omega) (by omega)
 obtain⟨f1,f2,f3,f4,f5,f6⟩:=zlj r 0 r.pc
 obtain⟨-,g2, -⟩:=zho r 0 r.pc
 have g4:=yo6 r 0 r.pc r.pc
 have ef:zh7 M (r.hp r.pc) r.c=if ¬ r.pc % 4=0 then (20,r.pc,r.hp r.pc)
  else if ¬ (zdy M (r.hp r.pc) r.c 0 r.pc).1=0 then ((zdy M (r.hp r.pc) r.c 0 r.pc).1,r.pc,(zdy M (r.hp r.pc) r.c 0 r.pc).2.2)
  else if zf1 r.m (zdy M (r.hp r.pc) r.c 0 r.pc).2.1 4=true then (0,yqp (r.hp r.pc) (zdy M (r.hp r.pc) r.c 0 r.pc).2.1,(zdy M (r.hp r.pc) r.c 0 r.pc).2.2)
  else (1,r.pc,(zdy M (r.hp r.pc) r.c 0 r.pc).2.2):=rfl
 unfold zcr zbc
 rw[ef]
 by_cases q:r.pc % 4=0
 · rw[if_neg (fun z=>z q),if_pos q]
   unfold ybl
   generalize zam r 0 r.pc=t at *
   rw[t1,t3]
   by_cases q1:t.2.1=0
   · rw[if_neg (fun z=>z q1),if_pos q1,t2 q1]
     have e:(za9 t.1.m t.2.2 4).1=zf1 r.m t.2.2 4:=by
      rw[g2]
      unfold za9 zrz
      have gw:gwM 4=true:=by decide
      rw[gw,Bool.true_and]
      split
      · rename_i z;exact z.symm
      · rename_i z;simpa using z
     rw[e]
     show Sim r (yta M r.c nx (if zf1 r.m t.2.2 4=true then _ else _)) _
     by_cases q2:zf1 r.m t.2.2 4=true
     · rw[if_pos q2,if_pos q2]
       have ew:yqp (r.hp r.pc) t.2.2=(za9 t.1.m t.2.2 4).2:=by
        rw[g2]
        unfold za9 zrz
        have gw:gwM 4=true:=by decide
        rw[gw,Bool.true_and,if_pos q2]
        rfl
       rw[ew]
       have hr4:=read4 ht.R.1.1 (a:=t.2.2)
       have z:=yqq T ht (nx:=nx) (by omega) hr4.1 hr4.2
       rw[f2,f6] at z
       refine⟨z.1,fun y => ?_⟩
       obtain⟨z1,z2,z3⟩:=z.2 y
       refine⟨z1,z2,z3.trans ?_⟩
       rw[f2,g4]
       rfl
     · rw[if_neg q2,if_neg q2]
       exact⟨fun z=>absurd z (show ¬ (1:Int)=0 by decide),fun _=>⟨rfl,rfl,g4⟩⟩
   · rw[if_pos q1,if_neg q1]
     refine⟨fun z=>absurd z q1,fun _ => ?_⟩
     unfold yta
     rw[if_pos q1]
     exact⟨rfl,rfl,g4⟩
 · rw[if_pos q,if_neg q]
   exact⟨fun z=>absurd z (show ¬ (20:Int)=0 by decide),fun _=>⟨rfl,rfl,rfl⟩⟩
theorem yt1(r:Rn)(pl:Bool)(pk:Int)(y:Rn):yfk ((((r.first pl pk).hp (r.first pl pk).pc)).upd (toC y.k,[],[])) y.cs y.tw=(r.back y).hp (r.back y).pc:=by
 unfold Rn.first
 split<;>rfl
theorem ya2{M:Tm}{pl:Bool}{pk:Int}(T:Tel M pl pk){r:Rn}(h:Run pl pk (r.first pl pk))(hk:(r.first pl pk).ks.length+3≤2097152) :
 zd9 M ((r.first pl pk).hp (r.first pl pk).pc)=((zck r pl pk).cs,(zck r pl pk).tw,(zck r pl pk).hp (zck r pl pk).pc):=by
 obtain⟨z1,z2⟩:=ymu T h hk 0
 have eb:=yt1 r pl pk (zbc (r.first pl pk))
 unfold zd9 zck
 have ec:((r.first pl pk).hp (r.first pl pk).pc).c=(r.first pl pk).c:=rfl
 rw[ec]
 by_cases q:(zbc (r.first pl pk)).cs=0
 · obtain⟨a1,a2,a3⟩:=z1 q
   rw[if_pos a1,if_pos q,a3,q,a2]
 · obtain⟨a1,a2,a3⟩:=z2 q
   rw[if_neg (fun z=>q (a1.symm.trans z)),if_neg q,a3,a1,a2,eb]
   rfl
theorem ymy{e:Nat}{l kind:Int}(h:e=0∨e=1∨e=2):zgv e l kind=zbi e kind:=by
 rcases h with rfl|rfl|rfl<;>rfl
theorem ysp{pk:Int}(p0:0≤pk)(p1:pk≤255):Tel (caT pk) false pk where
 ok:=yrb pk
 inv n R V _ _:=⟨V.1,R.1.2.2.2.2.2.2.2.2.2.2.2,p0,p1⟩
 tr {r kind va} pc R V hpl hpk k0 k2 hva:=by
  subst hpk
  have hok:okT r.c (toC r.k) kind r.pk=true:=by
   obtain⟨v1,⟨v2,v3⟩, -⟩:=V
   unfold okT zlt
   simp only[Bool.and_eq_true,decide_eq_true_eq]
   exact⟨⟨⟨v1,⟨⟨k0,k2⟩,v2⟩,v3⟩,p0⟩,p1⟩
  have et:zn6 r.m r.c r.k kind va r.pk=(zbi (trM r.m r.c (toC r.k) kind va r.pk).1 kind,(trM r.m r.c (toC r.k) kind va r.pk).2.1,ofC (trM r.m r.c (toC r.k) kind va r.pk).2.2.2):=by
   unfold zn6 yek
   rw[if_pos hok]
  have hcd:=zli r.m r.c (toC r.k) kind va r.pk
  have ep:zdy (caT r.pk) (r.hp pc) r.c kind va=(zgv (trM r.m r.c (toC r.k) kind va r.pk).1 (trM r.m r.c (toC r.k) kind va r.pk).2.2.1 kind,(trM r.m r.c (toC r.k) kind va r.pk).2.1,(r.hp pc).upd ((trM r.m r.c (toC r.k) kind va r.pk).2.2.2,[],[])):=rfl
  have e2:zam r kind va=((zdf r kind va).withK (ofC (trM r.m r.c (toC r.k) kind va r.pk).2.2.2),zbi (trM r.m r.c (toC r.k) kind va r.pk).1 kind,(trM r.m r.c (toC r.k) kind va r.pk).2.1):=by
   unfold zam
   rw[if_neg (by rw[hpl];decide)]
   have e3:yje r kind va=_:=et
   rw[e3]
  rw[ep,e2,ymy hcd]
  exact⟨rfl,fun _=>rfl,rfl⟩
 fe {r f} R V hpl hpk hf:=by
  show (ym9 f (toC r.k),_,_)=_
  unfold zd4
  rw[if_neg (by rw[hpl];decide),zww V.1]
  rfl
theorem ysq(pk:Int):Tel plT true pk where
 ok:=ysd
 inv _ _ _ _ _:=trivial
 tr {r kind va} pc R V hpl hpk k0 k2 hva:=by
  have ep:zdy plT (r.hp pc) r.c kind va=(zgv (if (zav r.m r.c kind va).1=0 then 0 else 3) (zav r.m r.c kind va).1 kind,(if (zav r.m r.c kind va).1=0 then (zav r.m r.c kind va).2 else 0),(r.hp pc).upd (toC r.k,[],[])):=rfl
  have e2:zam r kind va=(zdf r kind va,zav r.m r.c kind va):=by unfold zam;rw[if_pos hpl]
  rw[ep,e2]
  refine⟨?_,fun q=>if_pos q,rfl⟩
  by_cases q:(zav r.m r.c kind va).1=0
  · rw[if_pos q];exact q.symm
  · rw[if_neg q];rfl
 fe {r f} R V hpl hpk hf:=by
  show (toC r.k,_,_)=_
  unfold zd4
  rw[if_pos hpl]
  rfl
theorem zit{h:Ha}(v:HaV h)(hu:(Rn.ofH h).u.getD 0 0=0){pk:Int}(p0:0≤pk)(p1:pk≤255)(pl:Bool):Run pl pk ((Rn.ofH h).first pl pk)∧((Rn.ofH h).first pl pk).ks.length+3≤2097152:=by
 have hs:=v.step p0 p1
 have hb:=zj0 (pl:=pl) hs
 have vs:VaR ((Rn.ofH h).start pl pk):=⟨v.2.2.1,v.2.2.2.1,v.2.2.2.2,⟨p0,p1⟩,⟨Int.le_refl 0,(by decide:(0:Int)≤63)⟩,zor⟩
 have vf:VaR ((Rn.ofH h).first pl pk)∧((Rn.ofH h).first pl pk).pl=pl∧((Rn.ofH h).first pl pk).pk=pk∧((Rn.ofH h).first pl pk).tw=0∧((Rn.ofH h).first pl pk).u=(Rn.ofH h).u:=by
  unfold Rn.first
  split
  · exact⟨vs.evict _,rfl,rfl,rfl,rfl⟩
  · exact⟨vs,rfl,rfl,rfl,rfl⟩
 exact⟨⟨hb.1,vf.1,vf.2.1,vf.2.2.1,hb.2.1,vf.2.2.2.1,by rw[vf.2.2.2.2];exact hu⟩,hb.2.2⟩
theorem yv2{h:Ha}(v:HaV h)(hu:(Rn.ofH h).u.getD 0 0=0){pk:Int}(p0:0≤pk)(p1:pk≤255) :
 zd9 (caT pk) { ((Rn.ofH h).hp (Rn.ofH h).pc) with k:=evK (toC (Rn.ofH h).k) pk }=((zck (Rn.ofH h) false pk).cs,(zck (Rn.ofH h) false pk).tw,(zck (Rn.ofH h) false pk).hp (zck (Rn.ofH h) false pk).pc):=by
 obtain⟨h1,h2⟩:=zit v hu p0 p1 false
 rw[← ya2 (ysp p0 p1) h1 h2]
 congr 1
 unfold evK Rn.first
 by_cases q:pk≥128
 · rw[if_pos q,if_pos (by simp[q])];rfl
 · rw[if_neg q,if_neg (by simp[q])];rfl
theorem yv3{h:Ha}(v:HaV h)(hu:(Rn.ofH h).u.getD 0 0=0){pk:Int}(p0:0≤pk)(p1:pk≤255) :
 zd9 plT ((Rn.ofH h).hp (Rn.ofH h).pc)=((zck (Rn.ofH h) true pk).cs,(zck (Rn.ofH h) true pk).tw,(zck (Rn.ofH h) true pk).hp (zck (Rn.ofH h) true pk).pc):=by
 obtain⟨h1,h2⟩:=zit v hu p0 p1 true
 rw[← ya2 (ysq pk) h1 h2]
 congr 1
 unfold Rn.first
 rw[if_neg (by simp)]
 rfl
end Go.Proofs.YtfiddfbagbaofaaGreat.V
