/- The program's step is the reference's: plain words, no program in sight. Conditions: those in each statement. -/
import Derived.Test.YtfiddfbagbaofaaGreatIF
namespace Go.Proofs.YtfiddfbagbaofaaGreat.V
open Go
def Rn.hp(r:Rn)(pc:Int):Hn:=⟨r.m,r.u,pc,r.mo,r.su,r.mx,r.sa,r.tv,r.ep,r.em,r.ca,r.tl,toC r.k,[],[]⟩
def qOf(p:Pt):Qt:=(p.1,p.2.2,p.2.1)
structure Tel (M:Tm) (pl:Bool) (pk:Int):Prop where
 ok:M.Ok Tryz.prog
 inv:∀{r:Rn}(n:Nat),RnR r→VaR r→r.pl=pl→r.pk=pk→M.inv n (toC r.k) [] []
 tr:∀{r:Rn}{kind va:Int}(pc:Int),RnR r→VaR r→r.pl=pl→r.pk=pk→0≤kind→kind≤2→U64 va→(zea M (r.hp pc) r.c kind va).1=(zao r kind va).2.1∧((zao r kind va).2.1=0→(zea M (r.hp pc) r.c kind va).2.1=(zao r kind va).2.2)∧(zea M (r.hp pc) r.c kind va).2.2=(zao r kind va).1.hp pc
 fe:∀{r:Rn}{f:Fc},RnR r→VaR r→r.pl=pl→r.pk=pk→U64 f.2.1→M.fe f (toC r.k) [] []=(toC (zeg r f).k,[],[])
structure Run (pl:Bool) (pk:Int) (r:Rn):Prop where
 R:RnR r
 V:VaR r
 pl:r.pl=pl
 pk:r.pk=pk
 cs:r.cs=0
 tw:r.tw=0
 u0:r.u.getD 0 0=0
def Sim(r:Rn)(O:Oq)(y:Rn):Prop:=(y.cs=0→O.1=0∧y.tw=0∧{ O.2.2.1 with pc:=O.2.2.2 }=y.hp y.pc)∧(y.cs≠0→O.1=y.cs∧O.2.1=y.tw∧O.2.2.1=(r.hp r.pc).upd (toC y.k,[],[]))
set_option linter.unusedSimpArgs false
set_option linter.unusedVariables false
theorem zng:∀a b:By,zbq (a++b)=zbq a+256 ^ a.length*zbq b
 | [],b=>by simp[zbq]
 | x::a,b=>by
  simp only[List.cons_append,zbq,zng a b,List.length_cons]
  rw[Int.pow_succ,Int.mul_add,Int.add_assoc, ← Int.mul_assoc,Int.mul_comm 256 (256 ^ a.length)]
theorem yzj{x y:Int}{i n:Nat}(hx:0≤x∧x<256 ^ i)(hy:0≤y∧y<256 ^ n)(hn:i+n≤8):bits .or .u64 x (IntKind.u64.wrap (y*2 ^ (8*i)))=x+256 ^ i*y:=by
 have hp:(0:Int)<256 ^ i:=Int.pow_pos (by omega)
 have h8:(256:Int) ^ i*256 ^ n≤18446744073709551616:=by
  rw[← Int.pow_add]
  have:=zpr (m:=8*(i+n)) (n:=8*8) (by omega)
  rw[pow8,pow8] at this
  exact this
 have q0:0≤y*256 ^ i:=Int.mul_nonneg hy.1 (by omega)
 have q1:y*256 ^ i<18446744073709551616:=by
  have:=Int.mul_lt_mul_of_pos_right hy.2 hp
  rw[Int.mul_comm (256 ^ n)] at this
  omega
 have hxb:x<18446744073709551616:=by
  have:=zpr (m:=8*i) (n:=8*8) (by omega)
  rw[pow8,pow8] at this
  have e:(256:Int) ^ 8=18446744073709551616:=by decide
  omega
 rw[pow8,zah q0 q1,or_comm,zrg (8*i) q0 (by rw[pow8];exact Int.mul_emod_left _ _) q1 hx.1 (by rw[pow8];exact hx.2) hxb,Int.add_comm,Int.mul_comm]
theorem yq4{m:By}(hm:zaj m):∀(ps:Ps)(x:Int)(i:Nat),(∀p ∈ ps,0≤p.2.1∧0≤p.2.2∧p.2.2+p.2.1≤m.length)→0≤x→x<256 ^ i→i+zd9 ps≤8→ldM m x (8*i) (ps.map qOf)=x+256 ^ i*zbq (zeo m ps)
 | [],x,i,_,_,_,_=>by simp[ldM,zeo,zbq]
 | p::ps,x,i,h,x0,x1,hi=>by
  obtain⟨h1,h2,h3⟩:=h p List.mem_cons_self
  have hi:i+(p.2.1.toNat+zd9 ps)≤8:=hi
  have hl:((m.drop p.2.2.toNat).take p.2.1.toNat).length=p.2.1.toNat:=by simp only[List.length_take,List.length_drop];omega
  have hn:=zkp (m:=(m.drop p.2.2.toNat).take p.2.1.toNat) (fun b hb=>hm.2 b (List.mem_of_mem_drop (List.mem_of_mem_take hb)))
  rw[hl] at hn
  show ldM m (bits .or .u64 x (IntKind.u64.wrap (zbq ((m.drop p.2.2.toNat).take p.2.1.toNat)*2 ^ (8*(i:Int)).toNat))) (8*(i:Int)+8*p.2.1) (ps.map qOf)=x+256 ^ i*zbq ((m.drop p.2.2.toNat).take p.2.1.toNat++zeo m ps)
  have e1:(8*(i:Int)).toNat=8*i:=by omega
  have e2:8*(i:Int)+8*p.2.1=8*((i+p.2.1.toNat:Nat):Int):=by omega
  rw[e1,yzj ⟨x0,x1⟩ hn (by omega),e2]
  have hp:(0:Int)<256 ^ i:=Int.pow_pos (by omega)
  have hb:256 ^ i*zbq ((m.drop p.2.2.toNat).take p.2.1.toNat)≤256 ^ i*(256 ^ p.2.1.toNat-1):=Int.mul_le_mul_of_nonneg_left (by omega) (by omega)
  have h0:0≤256 ^ i*zbq ((m.drop p.2.2.toNat).take p.2.1.toNat):=Int.mul_nonneg (by omega) hn.1
  rw[yq4 hm ps _ _ (fun q hq=>h q (List.mem_cons_of_mem _ hq)) (by omega) (by rw[Int.pow_add];rw[Int.mul_sub] at hb;omega) (by omega),zng,hl,Int.pow_add,Int.mul_add]
  rw[Int.add_assoc,Int.mul_assoc]
theorem yq5{m:By}{ps:Ps}(hm:zaj m)(h:PsR m.length ps):ldM m 0 0 (ps.map qOf)=zbq (zeo m ps):=by
 have:=yq4 hm ps 0 0 (fun p hp=>⟨(h.2.2.2 p hp).1,(h.2.2.2 p hp).2.2.1,(h.2.2.2 p hp).2.2.2⟩) (by omega) (by decide) (by have:=h.2.2.1;omega)
 simpa using this
theorem zs1:∀(n:Nat)(v:Int)(k:Nat),(zce v (n+k)).take n=zce v n
 | 0,v,k=>by simp[zce]
 | n+1,v,k=>by rw[show n+1+k=(n+k)+1 by omega];simp only[zce,List.take_succ_cons,zs1 n]
theorem zsz:∀(n:Nat)(v:Int)(k:Nat),(zce v (n+k)).drop n=zce (v/2 ^ (8*n)) k
 | 0,v,k=>by simp
 | n+1,v,k=>by
  rw[show n+1+k=(n+k)+1 by omega]
  simp only[zce,List.drop_succ_cons,zsz n]
  rw[Int.ediv_ediv_of_nonneg (by omega),show 8*(n+1)=8+8*n by omega,Int.pow_add]
  rfl
theorem yjc:∀(ps:Ps)(m:By)(x:Int),(∀p ∈ ps,0≤p.2.1)→(stM m x (ps.map qOf)).1=zii m ps (zce x (zd9 ps))
 | [],m,x,_=>rfl
 | p::ps,m,x,h=>by
  have h1:=h p List.mem_cons_self
  show (stM (zg0 m p.2.2.toNat (zce x p.2.1.toNat)) (x/2 ^ (8*p.2.1).toNat) (ps.map qOf)).1=zii (zg0 m p.2.2.toNat ((zce x (p.2.1.toNat+zd9 ps)).take p.2.1.toNat)) ps ((zce x (p.2.1.toNat+zd9 ps)).drop p.2.1.toNat)
  rw[yjc ps _ _ (fun q hq=>h q (List.mem_cons_of_mem _ hq)),zs1,zsz,show (8*p.2.1).toNat=8*p.2.1.toNat by omega]
theorem zly(r:Rn)(kind va:Int):(zao r kind va).1.u=r.u∧(zao r kind va).1.pc=r.pc∧(zao r kind va).1.tw=r.tw∧(zao r kind va).1.pk=r.pk∧(zao r kind va).1.ks.length=r.ks.length+1∧(zao r kind va).1.c=r.c:=by
 unfold zao
 split
 · exact⟨rfl,rfl,rfl,rfl,by simp[zdr],rfl⟩
 · exact⟨rfl,rfl,rfl,rfl,by simp[zdr,Rn.withK],rfl⟩
theorem Run.trans{pl:Bool}{pk:Int}{r:Rn}(h:Run pl pk r){kind va:Int}(hv:U64 va)(k0:0≤kind)(k2:kind≤2)(hk:r.ks.length+1≤2097152):Run pl pk (zao r kind va).1:=by
 obtain⟨a1,a2,a3,a4,a5,a6⟩:=zly r kind va
 obtain⟨b1,b2,b3⟩:=zh6 r kind va
 exact⟨(zgw h.R hv hk).1,VaR.trans h.R h.V hv k0 k2,b3.trans h.pl,a4.trans h.pk,b1.trans h.cs,a3.trans h.tw,by rw[a1];exact h.u0⟩
theorem yaq(kind:Int):∀(todo:Ps)(r:Rn)(done:Ps),(zaz kind r done todo).1.pc=r.pc∧(zaz kind r done todo).1.u=r.u∧(zaz kind r done todo).1.pk=r.pk∧((zaz kind r done todo).2.2=false→(zaz kind r done todo).1.tw=r.tw)
 | [],r,done=>⟨rfl,rfl,rfl,fun _=>rfl⟩
 | p::todo,r,done=>by
  obtain⟨t1,t2,t3,t4, -⟩:=zly r kind p.1
  unfold zaz
  split
  · obtain⟨a,b,c,d⟩:=yaq kind todo (zao r kind p.1).1 (done++[(p.1,p.2.1,(zao r kind p.1).2.2)])
    exact⟨a.trans t2,b.trans t1,c.trans t4,fun h=>(d h).trans t3⟩
  · exact⟨t2,t1,t4,fun h=>by cases h⟩
theorem zt6{M:Tm}{pl:Bool}{pk:Int}(T:Tel M pl pk){kind:Int}(k0:0≤kind)(k2:kind≤2)(pc:Int):∀(todo:Ps)(r:Rn)(done:Ps),Run pl pk r→r.ks.length+todo.length≤2097152→(∀p ∈ todo,U64 p.1) →
 ze2 M r.c kind (r.hp pc) (done.map qOf) (todo.map qOf)=((zaz kind r done todo).1.cs,(zaz kind r done todo).1.tw,(zaz kind r done todo).1.hp pc,(zaz kind r done todo).2.1.map qOf)
 | [],r,done,h,_,_=>by
  show ((0,0,r.hp pc,done.map qOf):Int × Int × Hn × Qs)=(r.cs,r.tw,r.hp pc,done.map qOf)
  rw[h.cs,h.tw]
 | p::todo,r,done,h,hk,hp=>by
  have hk:r.ks.length+(todo.length+1)≤2097152:=hk
  have hu:U64 p.1:=hp p List.mem_cons_self
  obtain⟨t1,t2,t3⟩:=T.tr pc h.R h.V h.pl h.pk k0 k2 hu
  obtain⟨-, -, -, -,f5,f6⟩:=zly r kind p.1
  by_cases q:(zao r kind p.1).2.1=0
  · have e1:ze2 M r.c kind (r.hp pc) (done.map qOf) ((p::todo).map qOf)=ze2 M r.c kind (zea M (r.hp pc) r.c kind p.1).2.2 (done.map qOf++[(p.1,(zea M (r.hp pc) r.c kind p.1).2.1,p.2.1)]) (todo.map qOf):=if_pos (t1.trans q)
    have e2:zaz kind r done (p::todo)=zaz kind (zao r kind p.1).1 (done++[(p.1,p.2.1,(zao r kind p.1).2.2)]) todo:=if_pos q
    have e3:done.map qOf++[(p.1,(zao r kind p.1).2.2,p.2.1)]=(done++[(p.1,p.2.1,(zao r kind p.1).2.2)]).map qOf:=by rw[List.map_append];rfl
    rw[e1,e2,t2 q,t3,e3, ← f6]
    exact zt6 T k0 k2 pc todo _ _ (h.trans hu k0 k2 (by omega)) (by omega) (fun x hx=>hp x (List.mem_cons_of_mem _ hx))
  · have e1:ze2 M r.c kind (r.hp pc) (done.map qOf) ((p::todo).map qOf)=((zea M (r.hp pc) r.c kind p.1).1,p.1,(zea M (r.hp pc) r.c kind p.1).2.2,done.map qOf++qOf p::todo.map qOf):=if_neg (fun z=>q (t1.symm.trans z))
    have e2:zaz kind r done (p::todo)=(zd1 (zao r kind p.1).1 (zao r kind p.1).2.1 p.1,done++p::todo,true):=if_neg q
    rw[e1,e2,t1,t3,List.map_append]
    rfl
theorem zph(kind:Int)(r:Rn)(hc:r.cs=0):∀ps:Ps,(zq3 r.m kind (ps.map qOf)).1=(zbt kind r ps).cs∧((zbt kind r ps).cs≠0→(zq3 r.m kind (ps.map qOf)).2=(zbt kind r ps).tw)∧((zbt kind r ps).cs=0→zbt kind r ps=r)
 | []=>⟨hc.symm,fun q=>absurd hc q,fun _=>rfl⟩
 | p::ps=>by
  obtain⟨a1,a2,a3⟩:=zph kind r hc ps
  by_cases q:zgg r.m p.2.2 p.2.1=true
  · have e1:zq3 r.m kind ((p::ps).map qOf)=zq3 r.m kind (ps.map qOf):=if_pos q
    have e2:zbt kind r (p::ps)=zbt kind r ps:=if_pos q
    rw[e1,e2]
    exact⟨a1,a2,a3⟩
  · have e1:zq3 r.m kind ((p::ps).map qOf)=(afM kind,p.1):=if_neg q
    have e2:zbt kind r (p::ps)=zd1 r (afM kind) p.1:=if_neg q
    rw[e1,e2]
    exact⟨rfl,fun _=>rfl,fun z=>absurd z (ybp kind)⟩
theorem yok(ea w:Int):zbe ea w=(zaq ea w).map qOf:=by
 unfold zbe zaq
 split<;>rfl
theorem ye8{M:Tm}{pl:Bool}{pk:Int}(T:Tel M pl pk){r:Rn}(h:Run pl pk r){kind ea w:Int}(k0:0≤kind)(k2:kind≤2)(hp:zee r ea w)(pc:Int) :
 (zc8 M (r.hp pc) r.c kind ea w).1=(zas r kind ea w).1.cs∧((zas r kind ea w).1.cs≠0→(zc8 M (r.hp pc) r.c kind ea w).2.1=(zas r kind ea w).1.tw)∧(zc8 M (r.hp pc) r.c kind ea w).2.2.1=(zas r kind ea w).1.hp pc ∧
 (zas r kind ea w).1.hp pc=(r.hp pc).upd (toC (zas r kind ea w).1.k,[],[])∧(zas r kind ea w).1.pc=r.pc ∧
 ((zas r kind ea w).1.cs=0→(zc8 M (r.hp pc) r.c kind ea w).2.2.2=(zas r kind ea w).2.map qOf∧(zas r kind ea w).1.tw=0):=by
 have hc:=h.R.1
 obtain⟨-,hks,hva,w1,w8⟩:=id hp
 obtain⟨o1,o2,o3,o4⟩:=zh3 hva w1 w8
 have e1:=zt6 T k0 k2 pc (zaq ea w) r [] h (by omega) (fun p hp=>(o4 p hp).1)
 rw[List.map_nil, ← yok] at e1
 obtain⟨g1,g2,g3,g4⟩:=zjs kind (zaq ea w) r []
 obtain⟨f1,f2,f3,f4⟩:=yaq kind (zaq ea w) r []
 have hA:ylz M (r.hp pc) r.c kind ea w:=⟨hc.1,hc.2.2.2.2.2.1,h.V.2.1.1,h.V.2.1.2,k0,k2,hva,w1,w8,0,T.inv 2 h.R h.V h.pl h.pk⟩
 obtain⟨i1, -, -⟩:=zkz T.ok (n:=0) hA (T.inv 2 h.R h.V h.pl h.pk)
 have key:(zc8 M (r.hp pc) r.c kind ea w).1=(zas r kind ea w).1.cs∧((zas r kind ea w).1.cs≠0→(zc8 M (r.hp pc) r.c kind ea w).2.1=(zas r kind ea w).1.tw)∧(zc8 M (r.hp pc) r.c kind ea w).2.2.1=(zas r kind ea w).1.hp pc∧(zas r kind ea w).1.pc=r.pc ∧
  ((zas r kind ea w).1.cs=0→(zc8 M (r.hp pc) r.c kind ea w).2.2.2=(zas r kind ea w).2.map qOf∧(zas r kind ea w).1.tw=0):=by
  unfold zc8 zas
  rw[e1]
  cases q:(zaz kind r [] (zaq ea w)).2.2 with
  | true =>
   have q1:=g4 q
   rw[if_pos q1,if_pos rfl]
   exact⟨rfl,fun _=>rfl,rfl,f1,fun z=>absurd z q1⟩
  | false =>
   have q1:=(g3 q).trans h.cs
   obtain⟨a1,a2,a3⟩:=zph kind (zaz kind r [] (zaq ea w)).1 q1 (zaz kind r [] (zaq ea w)).2.1
   rw[if_neg (fun z=>z q1),if_neg (by decide)]
   have hi:(zbt kind (zaz kind r [] (zaq ea w)).1 (zaz kind r [] (zaq ea w)).2.1).hp pc=(zaz kind r [] (zaq ea w)).1.hp pc∧(zbt kind (zaz kind r [] (zaq ea w)).1 (zaz kind r [] (zaq ea w)).2.1).pc=(zaz kind r [] (zaq ea w)).1.pc:=by
    rcases zgl kind (zaz kind r [] (zaq ea w)).1 (zaz kind r [] (zaq ea w)).2.1 with ⟨z, -⟩|⟨v,z⟩
    · rw[z];exact⟨rfl,rfl⟩
    · rw[z];exact⟨rfl,rfl⟩
   exact⟨a1,a2,hi.1.symm,hi.2.trans f1,fun z=>⟨rfl,by rw[a3 z];exact (f4 q).trans h.tw⟩⟩
 obtain⟨k1,k3,k4,k5,k6⟩:=key
 refine⟨k1,k3,k4, ?_,k5,k6⟩
 rw[k4] at i1
 exact i1
theorem ytx:∀s:Fin 256,IntKind.u64.wrap (IntKind.i64.wrap (IntKind.i8.wrap (s.1:Int)))=zfk s.1∧IntKind.u64.wrap (4*zfk s.1)=zg5 s.1∧bits .and .u64 (zfk s.1) 63=(s.1:Int) % 64:=by decide +kernel
theorem yqq{s:Int}(h0:0≤s)(h1:s<256):IntKind.u64.wrap (IntKind.i64.wrap (IntKind.i8.wrap s))=zfk s∧IntKind.u64.wrap (4*zfk s)=zg5 s∧bits .and .u64 (zfk s) 63=s % 64:=by
 have h:=ytx ⟨s.toNat,by omega⟩
 have e:((s.toNat:Nat):Int)=s:=by omega
 rw[e] at h
 exact h
theorem ywz:∀d:Fin 8,zoc (d.1:Int)=pw ((d.1:Int) % 4):=by decide +kernel
theorem yay1{d:Int}(h0:0≤d)(h1:d<8):zoc d=pw (d % 4):=by
 have h:=ywz ⟨d.toNat,by omega⟩
 have e:((d.toNat:Nat):Int)=d:=by omega
 rw[e] at h
 exact h
theorem yvd:∀n:Fin 64,((2:Int) ^ min ((n.1:Int)).toNat 64)=pw (n.1:Int):=by decide +kernel
theorem yz3{n:Int}(h0:0≤n)(h1:n<64):(2:Int) ^ min n.toNat 64=pw n:=by
 have h:=yvd ⟨n.toNat,by omega⟩
 have e:((n.toNat:Nat):Int)=n:=by omega
 rw[e] at h
 exact h
theorem ys1{x y:Int}(h:U64 x)(y0:0≤y)(y1:y<64):bits .and .u64 x y=((x.toNat &&& y.toNat:Nat):Int):=by
 have e:bits .and .u64 x y=IntKind.u64.wrap ((BitVec.ofInt 64 x &&& BitVec.ofInt 64 y).toNat:Int):=rfl
 obtain⟨h0,h1⟩:=h
 have ex:(BitVec.ofInt 64 x).toNat=x.toNat:=by rw[BitVec.toNat_ofInt];omega
 have ey:(BitVec.ofInt 64 y).toNat=y.toNat:=by rw[BitVec.toNat_ofInt];omega
 rw[e,BitVec.toNat_and,ex,ey]
 have:x.toNat &&& y.toNat≤y.toNat:=Nat.and_le_right
 exact zah (by omega) (by omega)
theorem yvz:∀n:Fin 4,((((n.1 &&& 2:Nat):Int))==2)=(((n.1:Int)/2 % 2)==1):=by decide
theorem ys3{x:Int}(h:U64 x):(bits .and .u64 x 2==2)=za0 x 1:=by
 rw[ys1 h (by omega) (by omega)]
 have e1:x.toNat &&& (2:Int).toNat=x.toNat % 4 &&& 2:=by
  show x.toNat &&& 2=x.toNat % 4 &&& 2
  rw[← Nat.and_two_pow_sub_one_eq_mod x.toNat 2,Nat.and_assoc,show (2 ^ 2-1 &&& 2:Nat)=2 by decide]
 rw[e1]
 have h2:=yvz ⟨x.toNat % 4,by omega⟩
 have h0:=h.1
 have e2:za0 x 1=((((x.toNat % 4:Nat):Int)/2 % 2)==1):=by
  show (x/2 % 2==1)=_
  congr 1
  omega
 rw[e2]
 exact h2
theorem ymf{x:Int}(h:U64 x):(bits .and .u64 x 1==1)=za0 x 0:=by
 rw[yfc h]
 unfold za0
 simp
theorem ygz{op c mo:Int}(h0:0≤mo)(h2:mo≤2):zc5 op c mo=false↔(zkj op c mo=true∨¬ (1≤op∧op≤14)):=by
 unfold zc5 zkj
 split
 · rename_i q
   rcases q with rfl|rfl|rfl<;>simp
 · split
   · rename_i q;subst q;simp
   · split
     · rename_i q;subst q
       by_cases m2:mo=2<;>by_cases c2:c≤2<;>simp[m2,c2]<;>omega
     · rename_i q1 q2 q3
       by_cases p1:1≤op<;>by_cases p2:op≤14<;>simp[p1,p2,q2,q3]<;>omega
theorem zrq{u:Us}(h:u.getD 0 0=0):u.set 0 0=u:=by
 cases u with
 | nil=>rfl
 | cons x t=>have h:x=0:=h;subst h;rfl
theorem yvc{u:Us}(h:u.getD 0 0=0){a:Int}(ha:0≤a)(v:Int):(u.set (0+a.toNat) v).set 0 0=if 0<a then u.set a.toNat v else u:=by
 rw[Nat.zero_add]
 split
 · rw[List.set_comm _ _ (by omega),zrq h]
 · rw[show a.toNat=0 by omega,List.set_set,zrq h]
theorem zgx{X:Hn}(h:X.u.getD 0 0=0):X.zero=X:=by
 show ({ X with u:=X.u.set 0 0 }:Hn)=X
 rw[zrq h]
theorem zsm{r:Rn}(h:r.u.getD 0 0=0){a:Int}(ha:0≤a)(v pc nx:Int):{ ((r.hp pc).setU a v).zero with pc:=nx }=(zb3 r a v).hp nx:=by
 show ({ (r.hp nx) with u:=(r.u.set (0+a.toNat) v).set 0 0 }:Hn)={ (r.hp nx) with u:=if 0<a then r.u.set a.toNat v else r.u }
 rw[yvc h ha]
theorem ygb(r:Rn)(pc i:Int):gd (r.hp pc) i=zb7 r i:=by
 unfold gd zb7
 rw[Nat.zero_add]
 rfl
theorem zg2{r y:Rn}{X:Hn}{nx:Int}(hy:y.cs=0)(ht:y.tw=0)(e:{ X.zero with pc:=nx }=y.hp y.pc):Sim r (zoe (0,0,X,nx)) y:=⟨fun _=>⟨rfl,ht,e⟩,fun q=>absurd hy q⟩
theorem zlt{r y:Rn}{X:Hn}{c v nx:Int}(hc:y.cs≠0)(e1:c=y.cs)(e2:v=y.tw)(e3:X=(r.hp r.pc).upd (toC y.k,[],[])):Sim r (zoe (c,v,X,nx)) y:=by
 subst e1 e2 e3
 refine⟨fun q=>absurd q hc,fun _=>⟨rfl,rfl, ?_⟩⟩
 show (if _ then _ else _)=_
 rw[if_neg hc]
theorem zrt{pl:Bool}{pk:Int}{r:Rn}(h:Run pl pk r){a:Int}(ha:0≤a)(v:Int):Sim r (zoe (0,0,(r.hp r.pc).setU a v,(pc4 r).pc)) (zb3 (pc4 r) a v) :=
 zg2 h.cs h.tw (zsm (r:=pc4 r) h.u0 ha v r.pc (pc4 r).pc)
theorem Run.pc4{pl:Bool}{pk:Int}{r:Rn}(h:Run pl pk r):Run pl pk (pc4 r):=⟨zd2 h.R,h.V,h.pl,h.pk,h.cs,h.tw,h.u0⟩
theorem ye7{M:Tm}{pl:Bool}{pk:Int}(T:Tel M pl pk){r:Rn}(h:Run pl pk r)(hk:r.ks.length+2≤2097152){kind ea w:Int}(k0:0≤kind)(k2:kind≤2)(hea:U64 ea)(w1:1≤w)(w8:w≤8){A:Int × Int × Hn × Qs}(hA:zc8 M (r.hp r.pc) r.c kind ea w=A){B:Rn × Ps}(hB:zas (pc4 r) kind ea w=B) :
 A.1=B.1.cs∧(B.1.cs≠0→A.2.1=B.1.tw)∧A.2.2.1=B.1.hp r.pc∧B.1.hp r.pc=(r.hp r.pc).upd (toC B.1.k,[],[])∧B.1.pc=(pc4 r).pc∧(B.1.cs=0→A.2.2.2=B.2.map qOf∧B.1.tw=0)∧B.1.m=r.m∧B.1.u=r.u∧(B.1.cs=0→PsR r.m.length B.2∧(zd9 B.2:Int)=w):=by
 have hp:zee (pc4 r) ea w:=⟨h.pc4.R,hk,hea,w1,w8⟩
 obtain⟨e1,e2,e3,e4,e5,e6⟩:=ye8 T h.pc4 k0 k2 hp r.pc
 obtain⟨-, -,g3, -, -, -,g7⟩:=zdu (kind:=kind) hp
 subst hA hB
 exact⟨e1,e2,e3,e4,e5,e6,g3,congrArg Hn.u e4,fun q=>g7 h.cs q⟩
theorem ynk{M:Tm}{pl:Bool}{pk:Int}(T:Tel M pl pk){r:Rn}(h:Run pl pk r)(hk:r.ks.length+2≤2097152){a ea w:Int}(ha:0≤a)(hea:U64 ea)(w1:1≤w)(w8:w≤8) :
 Sim r (zoe (ldO (zc8 M (r.hp r.pc) r.c 1 ea w) a (pc4 r).pc)) (ztr (pc4 r) a ea w):=by
 unfold ztr
 generalize hA:zc8 M (r.hp r.pc) r.c 1 ea w=A
 generalize hB:zas (pc4 r) 1 ea w=B
 obtain⟨e1,e2,e3,e4,e5,e6,e7,e8,e9⟩:=ye7 T h hk (by omega) (by omega) hea w1 w8 hA hB
 unfold ldO
 by_cases q:B.1.cs=0
 · rw[if_pos q,if_pos (e1.trans q),e3,(e6 q).1]
   have e:ldM (B.1.hp r.pc).m 0 0 (B.2.map qOf)=zbq (zeo B.1.m B.2):=by
    show ldM B.1.m 0 0 (B.2.map qOf)=_
    rw[e7]
    exact yq5 h.R.1.1 (e9 q).1
   rw[e]
   refine zg2 q (e6 q).2 ?_
   rw[zsm (by rw[e8];exact h.u0) ha, ← e5]
   rfl
 · rw[if_neg q,if_neg (fun z=>q (e1.symm.trans z))]
   exact zlt q e1 (e2 q) (e3.trans e4)
theorem yjf{M:Tm}{pl:Bool}{pk:Int}(T:Tel M pl pk){r:Rn}(h:Run pl pk r)(hk:r.ks.length+2≤2097152){ea w:Int}(x:Int)(hea:U64 ea)(w1:1≤w)(w8:w≤8) :
 Sim r (zoe (stO (zc8 M (r.hp r.pc) r.c 2 ea w) x (pc4 r).pc)) (zk9 (pc4 r) x ea w):=by
 unfold zk9
 generalize hA:zc8 M (r.hp r.pc) r.c 2 ea w=A
 generalize hB:zas (pc4 r) 2 ea w=B
 obtain⟨e1,e2,e3,e4,e5,e6,e7,e8,e9⟩:=ye7 T h hk (by omega) (by omega) hea w1 w8 hA hB
 unfold stO
 by_cases q:B.1.cs=0
 · rw[if_pos q,if_pos (e1.trans q),e3,(e6 q).1]
   refine zg2 q (e6 q).2 ?_
   rw[zgx (by show B.1.u.getD 0 0=0;rw[e8];exact h.u0)]
   have e:(stM (B.1.hp r.pc).m x (B.2.map qOf)).1=zii B.1.m B.2 (zce x w.toNat):=by
    rw[yjc B.2 _ _ (fun p hp=>((e9 q).1.2.2.2 p hp).1),show zd9 B.2=w.toNat by have:=(e9 q).2;omega]
    rfl
   rw[e, ← e5]
   rfl
 · rw[if_neg q,if_neg (fun z=>q (e1.symm.trans z))]
   exact zlt q e1 (e2 q) (e3.trans e4)
theorem ys0{M:Tm}{pl:Bool}{pk:Int}(T:Tel M pl pk){r:Rn}(h:Run pl pk r)(hk:r.ks.length+2≤2097152){a d ea:Int}(ha:0≤a)(hea:U64 ea) :
 Sim r (zoe (amO (zc8 M (r.hp r.pc) r.c 2 ea 8) a d (pc4 r).pc)) (yqe (pc4 r) a (zb7 r d) ea):=by
 unfold yqe
 generalize hA:zc8 M (r.hp r.pc) r.c 2 ea 8=A
 generalize hB:zas (pc4 r) 2 ea 8=B
 obtain⟨e1,e2,e3,e4,e5,e6,e7,e8,e9⟩:=ye7 T h hk (by omega) (by omega) hea (by omega) (by omega) hA hB
 unfold amO
 by_cases q:B.1.cs=0
 · rw[if_pos q,if_pos (e1.trans q),e3,(e6 q).1]
   have e:ldM (B.1.hp r.pc).m 0 0 (B.2.map qOf)=yl2 B:=by
    show ldM B.1.m 0 0 (B.2.map qOf)=zbq (zeo B.1.m B.2)
    rw[e7]
    exact yq5 h.R.1.1 (e9 q).1
   have eg:gd (B.1.hp r.pc) d=zb7 r d:=by
    rw[ygb]
    unfold zb7
    rw[e8]
   rw[e,eg]
   have es:(stM (B.1.hp r.pc).m (IntKind.u64.wrap (yl2 B+zb7 r d)) (B.2.map qOf)).1=zii B.1.m B.2 (zce (IntKind.u64.wrap (yl2 B+zb7 r d)) (8:Int).toNat):=by
    rw[yjc B.2 _ _ (fun p hp=>((e9 q).1.2.2.2 p hp).1),show zd9 B.2=(8:Int).toNat by have:=(e9 q).2;omega]
    rfl
   rw[es]
   refine zg2 q (e6 q).2 ?_
   have z:=zsm (r:=zx0 B 8 (IntKind.u64.wrap (yl2 B+zb7 r d))) (by show B.1.u.getD 0 0=0;rw[e8];exact h.u0) ha (yl2 B) r.pc (pc4 r).pc
   refine z.trans ?_
   rw[← e5]
   rfl
 · rw[if_neg q,if_neg (fun z=>q (e1.symm.trans z))]
   exact zlt q e1 (e2 q) (e3.trans e4)
theorem yyq(r:Rn)(pc:Int){w:Int}(w0:0≤w)(w1:w<4294967296):zz8 (r.hp pc) w=(w % 256,w/256 % 256 % 8,w/256 % 256/8 % 8,w/65536 % 256 % 8,zfk (w/16777216),zb7 r (w/256 % 256 % 8)):=by
 unfold zz8
 have p8:(2:Int) ^ min (Int.toNat 8) 64=256:=by decide
 have p11:(2:Int) ^ min (Int.toNat 11) 64=2048:=by decide
 have p16:(2:Int) ^ min (Int.toNat 16) 64=65536:=by decide
 have p24:(2:Int) ^ min (Int.toNat 24) 64=16777216:=by decide
 rw[p8,p11,p16,p24,zcg 8 255 256 (by decide) (by decide) (by decide) w0 (by omega),zcg 3 7 8 (by decide) (by decide) (by decide) (x:=w/256) (by omega) (by omega),zcg 3 7 8 (by decide) (by decide) (by decide) (x:=w/2048) (by omega) (by omega),zcg 3 7 8 (by decide) (by decide) (by decide) (x:=w/65536) (by omega) (by omega),(yqq (s:=w/16777216) (by omega) (by omega)).1,ygb]
 have a1:w/256 % 8=w/256 % 256 % 8:=by omega
 have a2:w/2048 % 8=w/256 % 256/8 % 8:=by omega
 have a3:w/65536 % 8=w/65536 % 256 % 8:=by omega
 rw[a1,a2,a3]
theorem yzi{M:Tm}{pl:Bool}{pk:Int}(T:Tel M pl pk){r:Rn}(h:Run pl pk r)(hk:r.ks.length+2≤2097152){op a b c s word:Int}(o1:1≤op)(o2:op≤14)(a0:0≤a)(a8:a<8)(b0:0≤b)(b8:b<8)(c0:0≤c)(c8:c<8)(s0:0≤s)(s1:s<256) :
 Sim r (zoe (opM M (r.hp r.pc) r.c (op,a,b,c,zfk s,zb7 r a) (pc4 r).pc)) (doM (pc4 r) (a,b,c,zfk s,zg5 s,zb7 r a,zb7 r b,zb7 r c,pw (c % 4)) op s word):=by
 obtain⟨i1,i2,i3⟩:=yqq s0 s1
 have ga:gd (r.hp r.pc) a=zb7 r a:=ygb ..
 have gb:gd (r.hp r.pc) b=zb7 r b:=ygb ..
 have gc:gd (r.hp r.pc) c=zb7 r c:=ygb ..
 have hea:U64 (IntKind.u64.wrap (zb7 r b+zfk s)):=zel _
 have hw:=yay1 c0 c8
 have hpw:=zsn (c:=c)
 have ra:=za9 h.R a0 a8
 have rb:=za9 h.R b0 b8
 have hops:op=1∨op=2∨op=3∨op=4∨op=5∨op=6∨op=7∨op=8∨op=9∨op=10∨op=11∨op=12∨op=13∨op=14:=by omega
 rcases hops with rfl|rfl|rfl|rfl|rfl|rfl|rfl|rfl|rfl|rfl|rfl|rfl|rfl|rfl
 · exact zrt h a0 _
 · show Sim r (zoe (0,0,(r.hp r.pc).setU a (IntKind.u64.wrap (gd (r.hp r.pc) b+gd (r.hp r.pc) c)),(pc4 r).pc)) (zb3 (pc4 r) a (IntKind.u64.wrap (zb7 r b+zb7 r c)))
   rw[gb,gc]
   exact zrt h a0 _
 · show Sim r (zoe (0,0,(r.hp r.pc).setU a (IntKind.u64.wrap (gd (r.hp r.pc) b+zfk s)),(pc4 r).pc)) (zb3 (pc4 r) a (IntKind.u64.wrap (zb7 r b+zfk s)))
   rw[gb]
   exact zrt h a0 _
 · show Sim r (zoe (0,0,(r.hp r.pc).setU a (IntKind.u64.wrap (gd (r.hp r.pc) b*2 ^ min (bits .and .u64 (zfk s) 63).toNat 64)),(pc4 r).pc)) (zb3 (pc4 r) a (IntKind.u64.wrap (zb7 r b*pw (s % 64))))
   rw[gb,i3,yz3 (by omega) (by omega)]
   exact zrt h a0 _
 · show Sim r (zoe (ldO (zc8 M (r.hp r.pc) r.c 1 (IntKind.u64.wrap (gd (r.hp r.pc) b+zfk s)) (zoc c)) a (pc4 r).pc)) (ztr (pc4 r) a (IntKind.u64.wrap (zb7 r b+zfk s)) (pw (c % 4)))
   rw[gb,hw]
   exact ynk T h hk a0 hea hpw.1 hpw.2
 · show Sim r (zoe (stO (zc8 M (r.hp r.pc) r.c 2 (IntKind.u64.wrap (gd (r.hp r.pc) b+zfk s)) (zoc c)) (zb7 r a) (pc4 r).pc)) (zk9 (pc4 r) (zb7 r a) (IntKind.u64.wrap (zb7 r b+zfk s)) (pw (c % 4)))
   rw[gb,hw]
   exact yjf T h hk _ hea hpw.1 hpw.2
 · show Sim r (zoe (amO (zc8 M (r.hp r.pc) r.c 2 (IntKind.u64.wrap (gd (r.hp r.pc) b+zfk s)) 8) a c (pc4 r).pc)) (yqe (pc4 r) a (zb7 r c) (IntKind.u64.wrap (zb7 r b+zfk s)))
   rw[gb]
   exact ys0 T h hk a0 hea
 · have ep:IntKind.u64.wrap (IntKind.u64.wrap (r.pc+4)-4)=r.pc:=by
    have hpc:U64 r.pc:=h.R.1.2.2.2.1
    have h0:=hpc.1
    have h1:=hpc.2
    rw[IntKind.wrap_u64,IntKind.wrap_u64]
    omega
   have ej:IntKind.u64.wrap (r.pc+IntKind.u64.wrap (4*zfk s))=IntKind.u64.wrap (IntKind.u64.wrap ((pc4 r).pc-4)+zg5 s):=by
    rw[i2]
    show _=IntKind.u64.wrap (IntKind.u64.wrap (IntKind.u64.wrap (r.pc+4)-4)+zg5 s)
    rw[ep]
   show Sim r (zoe (0,0,r.hp r.pc,if zb7 r a=gd (r.hp r.pc) b then (pc4 r).pc else IntKind.u64.wrap (r.pc+IntKind.u64.wrap (4*zfk s)))) (if zb7 r a=zb7 r b then pc4 r else { (pc4 r) with pc:=IntKind.u64.wrap (IntKind.u64.wrap ((pc4 r).pc-4)+zg5 s) })
   rw[gb,ej]
   split
   · exact zg2 h.cs h.tw (by rw[zgx h.u0];rfl)
   · exact zg2 h.cs h.tw (by rw[zgx h.u0];rfl)
 · show Sim r (zoe (0,0,if zbu (zb7 r a)=true then { r.hp r.pc with sa:=zb7 r a } else r.hp r.pc,(pc4 r).pc)) (if zbu (zb7 r a)=true then { (pc4 r) with sa:=zb7 r a } else pc4 r)
   split
   · exact zg2 h.cs h.tw (by rw[zgx h.u0];rfl)
   · exact zg2 h.cs h.tw (by rw[zgx h.u0];rfl)
 · show Sim r (zoe (0,0,{ r.hp r.pc with su:=bits .and .u64 (zb7 r a) 1==1,mx:=bits .and .u64 (zb7 r a) 2==2 },(pc4 r).pc)) { (pc4 r) with su:=za0 (zb7 r a) 0,mx:=za0 (zb7 r a) 1 }
   rw[ys3 ra,ymf ra]
   exact zg2 h.cs h.tw (by rw[zgx h.u0];rfl)
 · have em:bits .and .u64 (gd (r.hp r.pc) b) 65535=zb7 r b % 65536:=by
    rw[gb]
    exact zcg 16 65535 65536 (by decide) (by decide) (by decide) rb.1 rb.2
   have ef:=T.fe (r:=pc4 r) (f:=yf3 a b (zb7 r a) (zb7 r b)) h.pc4.R h.pc4.V h.pl h.pk ra
   show Sim r (zoe (0,0,(r.hp r.pc).upd (M.fe (!(a==0),zb7 r a, !(b==0),bits .and .u64 (gd (r.hp r.pc) b) 65535) (toC r.k) [] []),(pc4 r).pc)) (zeg (pc4 r) (yf3 a b (zb7 r a) (zb7 r b)))
   rw[em]
   have ef:M.fe (!(a==0),zb7 r a, !(b==0),zb7 r b % 65536) (toC r.k) [] []=(toC (zeg (pc4 r) (yf3 a b (zb7 r a) (zb7 r b))).k,[],[]):=ef
   rw[ef]
   generalize yf3 a b (zb7 r a) (zb7 r b)=f
   have hf:(zeg (pc4 r) f).cs=0∧(zeg (pc4 r) f).tw=0∧((r.hp (pc4 r).pc).upd (toC (zeg (pc4 r) f).k,[],[]))=(zeg (pc4 r) f).hp (zeg (pc4 r) f).pc:=by
    unfold zeg
    split
    · exact⟨h.cs,h.tw,rfl⟩
    · exact⟨h.cs,h.tw,rfl⟩
   exact zg2 hf.1 hf.2.1 (by rw[zgx h.u0];exact hf.2.2)
 · show Sim r (zoe (0,0,{ r.hp r.pc with mo:=r.em },IntKind.u64.wrap (r.ep+IntKind.u64.wrap (4*zfk s)))) { (pc4 r) with pc:=IntKind.u64.wrap (r.ep+zg5 s),mo:=r.em }
   rw[i2]
   exact zg2 h.cs h.tw (by rw[zgx h.u0];rfl)
 · show Sim r (zoe (0,0,{ r.hp r.pc with ep:=zb7 r a,em:=IntKind.i64.wrap c },(pc4 r).pc)) { (pc4 r) with ep:=zb7 r a,em:=c }
   rw[zaa (n:=c) (by omega) (by omega)]
   exact zg2 h.cs h.tw (by rw[zgx h.u0];rfl)
 · have hm:=h.V.2.1
   have e:IntKind.i64.wrap (8+r.mo)=8+r.mo:=zaa (by omega) (by omega)
   exact zlt (by show IntKind.i64.wrap (8+r.mo)≠0;rw[e];omega) rfl rfl rfl
theorem ypx{M:Tm}{pl:Bool}{pk:Int}(T:Tel M pl pk){r:Rn}(h:Run pl pk r)(hk:r.ks.length+2≤2097152){w nx:Int}(w0:0≤w)(w1:w<4294967296):Sim r (yp0 M r.c nx (0,w,r.hp r.pc)) (yw0 r w):=by
 unfold yp0
 rw[if_neg (fun z=>z rfl)]
 dsimp only
 rw[yyq r r.pc w0 w1]
 have hl:=ygz (op:=w % 256) (c:=w/65536 % 256 % 8) h.V.2.1.1 h.V.2.1.2
 dsimp only
 show Sim r (if zc5 (w % 256) (w/65536 % 256 % 8) r.mo=false then _ else _) (if zkj (w % 256) (w/65536 % 256 % 8) r.mo=true then _ else _)
 by_cases q1:zkj (w % 256) (w/65536 % 256 % 8) r.mo=true
 · rw[if_pos (hl.2 (.inl q1)),if_pos q1]
   exact⟨fun z=>absurd z (show ¬ (2:Int)=0 by decide),fun _=>⟨rfl,rfl,rfl⟩⟩
 · rw[if_neg q1]
   by_cases q2:1≤w % 256∧w % 256≤14
   · rw[if_neg (fun z=>(hl.1 z).elim q1 (fun k=>k q2))]
     exact yzi T h hk q2.1 q2.2 (by omega) (by omega) (by omega) (by omega) (by omega) (by omega) (by omega) (by omega)
   · rw[if_pos (hl.2 (.inr q2))]
     have e:doM (pc4 r) (zg7 r (w/256 % 256) (w/65536 % 256) (w/16777216)) (w % 256) (w/16777216) w=zd1 (pc4 r) 2 w:=by
      unfold doM
      repeat rw[if_neg (by omega)]
     rw[e]
     exact⟨fun z=>absurd z (show ¬ (2:Int)=0 by decide),fun _=>⟨rfl,rfl,rfl⟩⟩
theorem yop(r:Rn)(kind va pc:Int):(zao r kind va).1.hp pc=(r.hp pc).upd (toC (zao r kind va).1.k,[],[]):=by
 unfold zao
 split<;>rfl
theorem zzy{M:Tm}{pl:Bool}{pk:Int}(T:Tel M pl pk){r:Rn}(h:Run pl pk r)(hk:r.ks.length+3≤2097152)(nx:Int):Sim r (zco M (r.hp r.pc) r.c nx) (zbd r):=by
 have hpc:U64 r.pc:=h.R.1.2.2.2.1
 obtain⟨t1,t2,t3⟩:=T.tr (kind:=0) r.pc h.R h.V h.pl h.pk (by omega) (by omega) hpc
 have ht:=h.trans (kind:=0) hpc (by omega) (by omega) (by omega)
 obtain⟨f1,f2,f3,f4,f5,f6⟩:=zly r 0 r.pc
 obtain⟨-,g2, -⟩:=zh6 r 0 r.pc
 have g4:=yop r 0 r.pc r.pc
 have ef:zid M (r.hp r.pc) r.c=if ¬ r.pc % 4=0 then (20,r.pc,r.hp r.pc)
  else if ¬ (zea M (r.hp r.pc) r.c 0 r.pc).1=0 then ((zea M (r.hp r.pc) r.c 0 r.pc).1,r.pc,(zea M (r.hp r.pc) r.c 0 r.pc).2.2)
  else if zgg r.m (zea M (r.hp r.pc) r.c 0 r.pc).2.1 4=true then (0,ypw (r.hp r.pc) (zea M (r.hp r.pc) r.c 0 r.pc).2.1,(zea M (r.hp r.pc) r.c 0 r.pc).2.2)
  else (1,r.pc,(zea M (r.hp r.pc) r.c 0 r.pc).2.2):=rfl
 unfold zco zbd
 rw[ef]
 by_cases q:r.pc % 4=0
 · rw[if_neg (fun z=>z q),if_pos q]
   unfold ybr
   generalize zao r 0 r.pc=t at *
   rw[t1,t3]
   by_cases q1:t.2.1=0
   · rw[if_neg (fun z=>z q1),if_pos q1,t2 q1]
     have e:(zbc t.1.m t.2.2 4).1=zgg r.m t.2.2 4:=by
      rw[g2]
      unfold zbc zso
      have gw:gwM 4=true:=by decide
      rw[gw,Bool.true_and]
      split
      · rename_i z;exact z.symm
      · rename_i z;simpa using z
     rw[e]
     show Sim r (yp0 M r.c nx (if zgg r.m t.2.2 4=true then _ else _)) _
     by_cases q2:zgg r.m t.2.2 4=true
     · rw[if_pos q2,if_pos q2]
       have ew:ypw (r.hp r.pc) t.2.2=(zbc t.1.m t.2.2 4).2:=by
        rw[g2]
        unfold zbc zso
        have gw:gwM 4=true:=by decide
        rw[gw,Bool.true_and,if_pos q2]
        rfl
       rw[ew]
       have hr4:=read4 ht.R.1.1 (a:=t.2.2)
       have z:=ypx T ht (nx:=nx) (by omega) hr4.1 hr4.2
       rw[f2,f6] at z
       refine⟨z.1,fun y => ?_⟩
       obtain⟨z1,z2,z3⟩:=z.2 y
       refine⟨z1,z2,z3.trans ?_⟩
       rw[f2,g4]
       rfl
     · rw[if_neg q2,if_neg q2]
       exact⟨fun z=>absurd z (show ¬ (1:Int)=0 by decide),fun _=>⟨rfl,rfl,g4⟩⟩
   · rw[if_pos q1,if_neg q1]
     refine⟨fun z=>absurd z q1,fun _ => ?_⟩
     unfold yp0
     rw[if_pos q1]
     exact⟨rfl,rfl,g4⟩
 · rw[if_pos q,if_neg q]
   exact⟨fun z=>absurd z (show ¬ (20:Int)=0 by decide),fun _=>⟨rfl,rfl,rfl⟩⟩
theorem ys5(r:Rn)(pl:Bool)(pk:Int)(y:Rn):yfg ((((r.first pl pk).hp (r.first pl pk).pc)).upd (toC y.k,[],[])) y.cs y.tw=(r.back y).hp (r.back y).pc:=by
 unfold Rn.first
 split<;>rfl
theorem ya8{M:Tm}{pl:Bool}{pk:Int}(T:Tel M pl pk){r:Rn}(h:Run pl pk (r.first pl pk))(hk:(r.first pl pk).ks.length+3≤2097152) :
 zeu M ((r.first pl pk).hp (r.first pl pk).pc)=((zcy r pl pk).cs,(zcy r pl pk).tw,(zcy r pl pk).hp (zcy r pl pk).pc):=by
 obtain⟨z1,z2⟩:=zzy T h hk 0
 have eb:=ys5 r pl pk (zbd (r.first pl pk))
 unfold zeu zcy
 have ec:((r.first pl pk).hp (r.first pl pk).pc).c=(r.first pl pk).c:=rfl
 rw[ec]
 by_cases q:(zbd (r.first pl pk)).cs=0
 · obtain⟨a1,a2,a3⟩:=z1 q
   rw[if_pos a1,if_pos q,a3,q,a2]
 · obtain⟨a1,a2,a3⟩:=z2 q
   rw[if_neg (fun z=>q (a1.symm.trans z)),if_neg q,a3,a1,a2,eb]
   rfl
theorem yml{e:Nat}{l kind:Int}(h:e=0∨e=1∨e=2):zhb e l kind=zbn e kind:=by
 rcases h with rfl|rfl|rfl<;>rfl
theorem yjj{pk:Int}(p0:0≤pk)(p1:pk≤255):Tel (caT pk) false pk where
 ok:=yqh pk
 inv n R V _ _:=⟨V.1,R.1.2.2.2.2.2.2.2.2.2.2.2,p0,p1⟩
 tr {r kind va} pc R V hpl hpk k0 k2 hva:=by
  subst hpk
  have hok:okT r.c (toC r.k) kind r.pk=true:=by
   obtain⟨v1,⟨v2,v3⟩, -⟩:=V
   unfold okT zl8
   simp only[Bool.and_eq_true,decide_eq_true_eq]
   exact⟨⟨⟨v1,⟨⟨k0,k2⟩,v2⟩,v3⟩,p0⟩,p1⟩
  have et:zom r.m r.c r.k kind va r.pk=(zbn (trM r.m r.c (toC r.k) kind va r.pk).1 kind,(trM r.m r.c (toC r.k) kind va r.pk).2.1,ofC (trM r.m r.c (toC r.k) kind va r.pk).2.2.2):=by
   unfold zom yee
   rw[if_pos hok]
  have hcd:=zlx r.m r.c (toC r.k) kind va r.pk
  have ep:zea (caT r.pk) (r.hp pc) r.c kind va=(zhb (trM r.m r.c (toC r.k) kind va r.pk).1 (trM r.m r.c (toC r.k) kind va r.pk).2.2.1 kind,(trM r.m r.c (toC r.k) kind va r.pk).2.1,(r.hp pc).upd ((trM r.m r.c (toC r.k) kind va r.pk).2.2.2,[],[])):=rfl
  have e2:zao r kind va=((zdr r kind va).withK (ofC (trM r.m r.c (toC r.k) kind va r.pk).2.2.2),zbn (trM r.m r.c (toC r.k) kind va r.pk).1 kind,(trM r.m r.c (toC r.k) kind va r.pk).2.1):=by
   unfold zao
   rw[if_neg (by rw[hpl];decide)]
   have e3:yjo r kind va=_:=et
   rw[e3]
  rw[ep,e2,yml hcd]
  exact⟨rfl,fun _=>rfl,rfl⟩
 fe {r f} R V hpl hpk hf:=by
  show (ymz f (toC r.k),_,_)=_
  unfold zeg
  rw[if_neg (by rw[hpl];decide),zw9 V.1]
  rfl
theorem yjk(pk:Int):Tel plT true pk where
 ok:=yrg
 inv _ _ _ _ _:=trivial
 tr {r kind va} pc R V hpl hpk k0 k2 hva:=by
  have ep:zea plT (r.hp pc) r.c kind va=(zhb (if (zaw r.m r.c kind va).1=0 then 0 else 3) (zaw r.m r.c kind va).1 kind,(if (zaw r.m r.c kind va).1=0 then (zaw r.m r.c kind va).2 else 0),(r.hp pc).upd (toC r.k,[],[])):=rfl
  have e2:zao r kind va=(zdr r kind va,zaw r.m r.c kind va):=by unfold zao;rw[if_pos hpl]
  rw[ep,e2]
  refine⟨?_,fun q=>if_pos q,rfl⟩
  by_cases q:(zaw r.m r.c kind va).1=0
  · rw[if_pos q];exact q.symm
  · rw[if_neg q];rfl
 fe {r f} R V hpl hpk hf:=by
  show (toC r.k,_,_)=_
  unfold zeg
  rw[if_pos hpl]
  rfl
theorem zhe{h:Ha}(v:HaV h)(hu:(Rn.ofH h).u.getD 0 0=0){pk:Int}(p0:0≤pk)(p1:pk≤255)(pl:Bool):Run pl pk ((Rn.ofH h).first pl pk)∧((Rn.ofH h).first pl pk).ks.length+3≤2097152:=by
 have hs:=v.step p0 p1
 have hb:=zkg (pl:=pl) hs
 have vs:VaR ((Rn.ofH h).start pl pk):=⟨v.2.2.1,v.2.2.2.1,v.2.2.2.2,⟨p0,p1⟩,⟨Int.le_refl 0,(by decide:(0:Int)≤63)⟩,zj5⟩
 have vf:VaR ((Rn.ofH h).first pl pk)∧((Rn.ofH h).first pl pk).pl=pl∧((Rn.ofH h).first pl pk).pk=pk∧((Rn.ofH h).first pl pk).tw=0∧((Rn.ofH h).first pl pk).u=(Rn.ofH h).u:=by
  unfold Rn.first
  split
  · exact⟨vs.evict _,rfl,rfl,rfl,rfl⟩
  · exact⟨vs,rfl,rfl,rfl,rfl⟩
 exact⟨⟨hb.1,vf.1,vf.2.1,vf.2.2.1,hb.2.1,vf.2.2.2.1,by rw[vf.2.2.2.2];exact hu⟩,hb.2.2⟩
theorem yvk{h:Ha}(v:HaV h)(hu:(Rn.ofH h).u.getD 0 0=0){pk:Int}(p0:0≤pk)(p1:pk≤255) :
 zeu (caT pk) { ((Rn.ofH h).hp (Rn.ofH h).pc) with k:=evK (toC (Rn.ofH h).k) pk }=((zcy (Rn.ofH h) false pk).cs,(zcy (Rn.ofH h) false pk).tw,(zcy (Rn.ofH h) false pk).hp (zcy (Rn.ofH h) false pk).pc):=by
 obtain⟨h1,h2⟩:=zhe v hu p0 p1 false
 rw[← ya8 (yjj p0 p1) h1 h2]
 congr 1
 unfold evK Rn.first
 by_cases q:pk≥128
 · rw[if_pos q,if_pos (by simp[q])];rfl
 · rw[if_neg q,if_neg (by simp[q])];rfl
theorem yvl{h:Ha}(v:HaV h)(hu:(Rn.ofH h).u.getD 0 0=0){pk:Int}(p0:0≤pk)(p1:pk≤255) :
 zeu plT ((Rn.ofH h).hp (Rn.ofH h).pc)=((zcy (Rn.ofH h) true pk).cs,(zcy (Rn.ofH h) true pk).tw,(zcy (Rn.ofH h) true pk).hp (zcy (Rn.ofH h) true pk).pc):=by
 obtain⟨h1,h2⟩:=zhe v hu p0 p1 true
 rw[← ya8 (yjk pk) h1 h2]
 congr 1
 unfold Rn.first
 rw[if_neg (by simp)]
 rfl
end Go.Proofs.YtfiddfbagbaofaaGreat.V
