/- Records of a walk, and the reference's walk, answer as their models. Conditions: those in each statement. -/
import Derived.Test.YtfiddfbagbaofaaGreatGJ
import Derived.KernelRfl
namespace Go.Proofs.YtfiddfbagbaofaaGreat.V
open Go
abbrev shR:List Ty:=[.i .i64,.i .u64,.i .u64]
abbrev Rc:=Int × Int × Int
abbrev Rs:=List Rc
abbrev rsP:Pm := .one (.sl shR)
abbrev wrP:Pm := .st [.i .i64,.i .i64,.i .u64,.sl shR]
abbrev Wr:=Int × Int × Int × Rs
def za6(m:By)(va:Int):Nat→Int→Wr
 | 0,_=>(2,0,0,[])
 | n+1,page =>
  if (zbc m (64*page+8*zeq va n) 8).1=false then (3,n,0,[])
  else if za7 (zbc m (64*page+8*zeq va n) 8).2 n=0 then (2,n,0,[])
  else if za7 (zbc m (64*page+8*zeq va n) 8).2 n=2 then (1,n,(zbc m (64*page+8*zeq va n) 8).2,[((n:Int),64*page+8*zeq va n,(zbc m (64*page+8*zeq va n) 8).2)])
  else
   ((za6 m va n (zcl (zbc m (64*page+8*zeq va n) 8).2)).1,(za6 m va n (zcl (zbc m (64*page+8*zeq va n) 8).2)).2.1,(za6 m va n (zcl (zbc m (64*page+8*zeq va n) 8).2)).2.2.1,
    ((n:Int),64*page+8*zeq va n,(zbc m (64*page+8*zeq va n) 8).2)::(za6 m va n (zcl (zbc m (64*page+8*zeq va n) 8).2)).2.2.2)
def zcf(m:By)(root va:Int):Wr:=if zen va=true then za6 m va 3 (root % 17592186044416) else (2,2,0,[])
def zfy(m:By)(n l va:Int):Prop:=zaj m∧0≤n∧n<17592186044416∧LvR l∧U64 va
def yo4(a b c:Int):Prop:=zal Tryz.prog F0 .none Tryz.f193 [i64,u64,u64] [rsP] (a,b,c) [(a,b,c)]
def yow(m:By)(a:Int):Prop:=zal Tryz.prog FB1 .none Tryz.f265 [byP,u64] [u64,bl] (m,a) ((zbc m a 8).2,(zbc m a 8).1)
def kK1:Known:=[
 (193,zai [i64,u64,u64] [rsP] (fun _=>none) (fun t=>[t])),
 (265,zai [byP,u64] [u64,bl] (fun t=>some (zaj t.1∧U64 t.2)) (fun t=>((zbc t.1 t.2 8).2,(zbc t.1 t.2 8).1)))]
def ytr(k:Nat):Sum:=zai [byP,u64,i64,u64] [wrP] (fun t=>some (zfy t.1 t.2.1 t.2.2.1 t.2.2.2∧t.2.2.1.toNat<k)) (fun t=>za6 t.1 t.2.2.2 (t.2.2.1.toNat+1) t.2.1)
def ywf(k:Nat)(m:By)(n l va:Int):Prop:=zal Tryz.prog (mkD ((125,ytr k)::(kK1++kB3++kA4)) [] []) .none Tryz.f125 [byP,u64,i64,u64] [wrP] (m,n,l,va) (za6 m va (l.toNat+1) n)
def kK2:Known:=[
 (125,zai [byP,u64,i64,u64] [wrP] (fun t=>some (zfy t.1 t.2.1 t.2.2.1 t.2.2.2)) (fun t=>za6 t.1 t.2.2.2 (t.2.2.1.toNat+1) t.2.1))]++kK1
def FK2:Dict:=mkD (kK2++kB3++kA4) [] []
def ypd(m:By)(root va:Int):Prop:=zal Tryz.prog FK2 .none Tryz.f124 [byP,u64,u64] [wrP] (m,root,va) (zcf m root va)
set_option linter.unusedVariables false
theorem zym(a b c:Int):yo4 a b c=(
 (0:Nat)=(0:Nat)∧[(a,b,c)].length=(1:Nat)∧[(a,b,c)]=[(a,b,c)]):=by kernel_rfl
theorem zya(m:By)(a:Int):yow m a=(
 (List.length m=List.length m∧SzR (List.length m)∧(0:PmT [u64])≤8) ∧
   ((!zgg m a 8)=true→(zbc m a 8).2=0∧(zbc m a 8).1=false∧m=m) ∧
     ((!zgg m a 8)=false →
       (List.length m=List.length m∧zsq m a 8)∧(zbc m a 8).2=zbq (List.take (Int.toNat 8) (List.drop a.toNat m))∧(zbc m a 8).1=true∧m=m)):=by kernel_rfl
theorem yc9(k:Nat)(m:By)(n l va:Int):ywf k m n l va=(
 let A0(a:Int):=IntKind.u64.wrap a;
 let A1(a:Int):=a.toNat+1;
 let A2:=A0 ((64:Int)*n)+A0 ((8:Int)*zeq va l);
 let A3:=zbc m (A0 A2) 8;
 let A4(a:CsT [Cs.i IntKind.u64,Cs.sl shR]):=List.length a.2;
 let A5:=IntKind.i64.wrap (l-1);
 let A6:=A3.2;
 let A7:=(za6 m va (A1 A5) (zcl A6)).2.2;
 let A8:=List.drop 0 A7.2;
 let A9(a b c:Prop):=a∧b∧c;
 let Aa(a b:Int):=(za6 m va (A1 a) b).2.1;
 let Ab:=(0:Nat)=0;
 let Ac(a b:Int):=(za6 m va (A1 a) b).1;
 let Ad:=A4 A7;
 let Ae(a b c d e:Prop):=A9 a b (A9 c d e);
 let Af:=(za6 m va (A1 l) n).2.2;
 let Ah:=((l,A0 A2,A6)::[]).length;
 let Ai(a b:Prop):=A9 (List.length m=List.length m) a b;
 let Aj(a:Prop)(b:Nat)(c:Prop):=Ae a Ab (A4 Af=b) (m=m) c;
 let Ak(a b:Prop)(c:Int)(d e:Prop):=A9 a (b→A9 (Ac l n=c) (Aa l n=l) (Ae (Af.1=0) Ab (A4 Af=0) (m=m) (Af.2=[]))) (d→e);
 let Al:=Ah+(List.take Ad A8).length;
 let Am:=(l,A0 A2,A6)::[];
 let An(a:Bool):=(za7 A6 l==0)=a;
 let Ao:=za7 A6 l==2;
 (U64 va∧LvR l)∧Ak (Ai (zaj m) (U64 (A0 A2))) ((!A3.1)=true) 3 ((!A3.1)=false) (Ak (U64 A6) (An true) 2 (An false) ((Ao=true→A9 (Ac l n=1) (Aa l n=l) (Aj (Af.1=A6) Ah (Af.2=Am)))∧(Ao =
  false→U64 A6∧Ae (Ai (zfy m (zcl A6) A5 va) (A5.toNat<k)) (A9 ((0:Nat)+Ad≤Ad) (Ah≤Ah) (Al≤1073741824)) (Ac l n=Ac A5 (zcl A6)) (Aa l n=Aa A5 (zcl A6)) (Aj (Af.1=A7.1) Al (Af.2=List.take Ah Am ++
  List.take Ad A8)))))):=by kernel_rfl
theorem zy4(m:By)(root va:Int):ypd m root va=(
 let A0:=zes root 0 43;
 let A1(a:Wr):=a.2.2.2;
 let A2:=zcf m root va;
 let A3:=za6 m va ((2:Int).toNat+1) A0;
 let A4(a b c:Prop):=a∧b∧c;
 let A5:=A2.2.2.1;
 let A6(a:Prop)(b:Nat)(c:Prop):=A4 a ((0:Nat)=0) (A4 (List.length (A1 A2)=b) (m=m) c);
 A4 (U64 va) ((!zen va)=true→A4 (A2.1=2) (A2.2.1=2) (A6 (A5=0) 0 (A1 A2=[]))) ((!zen va)=false→A4 (zim (root,0,43)) (List.length m=List.length m∧zfy m A0 (2 :
  Int) va) (A4 (A2.1=A3.1) (A2.2.1=A3.2.1) (A6 (A5=A3.2.2.1) (List.length (A1 A3)) (A1 A2=A1 A3))))):=by kernel_rfl
set_option linter.unusedSimpArgs false
theorem yne:Sound Tryz.prog 193 (zai [i64,u64,u64] [rsP] (fun _=>none) (fun t=>[t])):=by
 refine zad mixed Tryz.func193 (by kernel_rfl) (by kernel_rfl) zdc (fun t _ => ?_)
 obtain⟨a,b,c⟩:Rc:=t
 refine zab (zym a b c) ?_
 simp
theorem ymu:Sound Tryz.prog 265 (zai [byP,u64] [u64,bl] (fun t=>some (zaj t.1∧U64 t.2)) (fun t=>((zbc t.1 t.2 8).2,(zbc t.1 t.2 8).1))):=by
 refine zad mixed Tryz.func265 (by kernel_rfl) (by kernel_rfl) yp1 (fun t h => ?_)
 obtain⟨m,a⟩:By × Int:=t
 obtain⟨h1,h2⟩:zaj m∧U64 a:=h
 have g:gwM 8=true:=by decide
 refine zab (zya m a) ⟨⟨rfl,h1.1,by show (0:Int)≤8;decide⟩,fun e => ?_,fun e => ?_⟩
 · have e:zgg m a 8=false:=by simpa using e
   simp[zbc,zso,e]
 · have e:zgg m a 8=true:=by simpa using e
   have hr:zso m a 8=true:=by simp[zso,g,e]
   refine⟨⟨rfl,yat h1 h2 hr⟩, ?_, ?_,rfl⟩
   · unfold zbc;rw[if_pos hr]
   · unfold zbc;rw[if_pos hr]
theorem yqy:zar Tryz.prog kK1 := .cons (by kernel_rfl) yne <| .cons (by kernel_rfl) ymu <| .nil
theorem yuf:zar Tryz.prog (kK1++kB3++kA4):=(yqy.append zei).append zc4
theorem zt8{m:By}{a:Int}(hm:zaj m):U64 (zbc m a 8).2:=by
 unfold zbc
 split
 · exact zh1 (fun b hb=>hm.2 b (List.mem_of_mem_drop (List.mem_of_mem_take hb))) (by simp;omega)
 · exact⟨by decide,by decide⟩
theorem yah{p l:Int}(h0:za7 p l≠0)(h2:za7 p l≠2):l≠0:=by
 intro e
 subst e
 unfold za7 at h0 h2
 split at h0
 · exact h0 rfl
 · rename_i hc
   rw[if_neg hc] at h2
   split at h0
   · simp at h0
   · rename_i hd
     rw[if_neg hd] at h2
     split at h0
     · rename_i he
       rw[if_pos he] at h2
       exact h2 rfl
     · exact h0 rfl
theorem ztl(va:Int)(l:Int):0≤zeq va l∧zeq va l<8:=by
 unfold zeq
 exact⟨Int.emod_nonneg _ (by decide),Int.emod_lt_of_pos _ (by decide)⟩
theorem ye9{n va l:Int}(h0:0≤n)(h1:n<17592186044416):IntKind.u64.wrap (IntKind.u64.wrap (64*n)+IntKind.u64.wrap (8*zeq va l))=64*n+8*zeq va l:=by
 obtain⟨a,b⟩:=ztl va l
 rw[zah (n:=64*n) (by omega) (by omega),zah (n:=8*zeq va l) (by omega) (by omega),zah (by omega) (by omega)]
theorem zdl(m:By)(va:Int):∀(n:Nat)(p:Int),(za6 m va n p).2.2.2.length≤n
 | 0,_=>Nat.le_refl _
 | n+1,p=>by
  unfold za6
  split
  · exact Nat.zero_le _
  · split
    · exact Nat.zero_le _
    · split
      · simp
      · simp only[List.length_cons]
        have:=zdl m va n (zcl (zbc m (64*p+8*zeq va n) 8).2)
        omega
theorem zob{m:By}{va l p:Int}(h:0≤l):za6 m va (l.toNat+1) p =
 if (zbc m (64*p+8*zeq va l) 8).1=false then (3,l,0,[])
 else if za7 (zbc m (64*p+8*zeq va l) 8).2 l=0 then (2,l,0,[])
 else if za7 (zbc m (64*p+8*zeq va l) 8).2 l=2 then (1,l,(zbc m (64*p+8*zeq va l) 8).2,[(l,64*p+8*zeq va l,(zbc m (64*p+8*zeq va l) 8).2)])
 else
  ((za6 m va l.toNat (zcl (zbc m (64*p+8*zeq va l) 8).2)).1,(za6 m va l.toNat (zcl (zbc m (64*p+8*zeq va l) 8).2)).2.1,(za6 m va l.toNat (zcl (zbc m (64*p+8*zeq va l) 8).2)).2.2.1,
   (l,64*p+8*zeq va l,(zbc m (64*p+8*zeq va l) 8).2)::(za6 m va l.toNat (zcl (zbc m (64*p+8*zeq va l) 8).2)).2.2.2):=by
 have e:((l.toNat:Nat):Int)=l:=by omega
 rw[za6,e]
theorem yga:∀k:Nat,Sound Tryz.prog 125 (ytr k)
 | 0=>zad mixed Tryz.func125 (by kernel_rfl) (by kernel_rfl) (D:=mkD [] [] []) (zay .nil .nil .nil) (fun  (t:By × Int × Int × Int) h=>absurd h.2 (Nat.not_lt_zero _))
 | k+1=>by
  refine zad mixed Tryz.func125 (by kernel_rfl) (by kernel_rfl) (D:=mkD ((125,ytr k)::(kK1++kB3++kA4)) [] []) (zay (.cons (by kernel_rfl) (yga k) yuf) .nil .nil) (fun t h => ?_)
  obtain⟨m,n,l,va⟩:By × Int × Int × Int:=t
  obtain⟨⟨hm,n0,n1,hl,hv⟩,hk⟩:zfy m n l va∧l.toNat<k+1:=h
  have hl2:=hl
  unfold LvR at hl2
  obtain⟨i0,i1⟩:=ztl va l
  have hr:=zt8 (a:=64*n+8*zeq va l) hm
  refine zab (yc9 k m n l va) ?_
  conv=>zeta
  rw[ye9 n0 n1,zob hl2.1]
  have hA:U64 (64*n+8*zeq va l):=⟨by omega,by omega⟩
  generalize 64*n+8*zeq va l=A at *
  generalize zbc m A 8=r at *
  refine⟨⟨hv,hl⟩,⟨rfl,hm,hA⟩,fun q => ?_,fun q=>⟨hr,fun q2 => ?_,fun q2=>⟨fun q3 => ?_,fun q3 => ?_⟩⟩⟩
  · have q:r.1=false:=by simpa using q
    rw[if_pos q]
    exact⟨rfl,rfl,rfl,rfl,rfl,rfl,rfl⟩
  · have q:r.1≠false:=by simpa using q
    have q2:za7 r.2 l=0:=by simpa using q2
    rw[if_neg q,if_pos q2]
    exact⟨rfl,rfl,rfl,rfl,rfl,rfl,rfl⟩
  · have q:r.1≠false:=by simpa using q
    have q2:za7 r.2 l≠0:=by simpa using q2
    have q3:za7 r.2 l=2:=by simpa using q3
    rw[if_neg q,if_neg q2,if_pos q3]
    exact⟨rfl,rfl,rfl,rfl,rfl,rfl,rfl⟩
  · have q:r.1≠false:=by simpa using q
    have q2:za7 r.2 l≠0:=by simpa using q2
    have q3:za7 r.2 l≠2:=by simpa using q3
    have hlow:=yah q2 q3
    obtain⟨p0,p1⟩:=zk7 hr
    have e1:IntKind.i64.wrap (l-1)=l-1:=zaa (by omega) (by omega)
    have e2:(l-1).toNat+1=l.toNat:=by omega
    have hw:=zdl m va l.toNat (zcl r.2)
    rw[if_neg q,if_neg q2,if_neg q3,e1,e2]
    generalize za6 m va l.toNat (zcl r.2)=W at *
    have e3:List.take (List.length W.2.2.2) (List.drop 0 W.2.2.2)=W.2.2.2:=by rw[List.drop_zero,List.take_length]
    rw[e3]
    refine⟨hr,⟨rfl,⟨hm,p0,p1,⟨by omega,by omega⟩,hv⟩,by omega⟩,⟨by omega,Nat.le_refl _,by simp;omega⟩,rfl,rfl,rfl,rfl, ?_,rfl, ?_⟩
    · simp;omega
    · simp
theorem ym2:Sound Tryz.prog 125 (zai [byP,u64,i64,u64] [wrP] (fun t=>some (zfy t.1 t.2.1 t.2.2.1 t.2.2.2)) (fun t=>za6 t.1 t.2.2.2 (t.2.2.1.toNat+1) t.2.1)) :=
 zft (yga 3) (fun  (t:By × Int × Int × Int) h=>by have h:zfy t.1 t.2.1 t.2.2.1 t.2.2.2:=h;exact⟨h,by have:=h.2.2.2.1;unfold LvR at this;omega⟩)
theorem zto:zar Tryz.prog kK2 := .cons (by kernel_rfl) ym2 yqy
theorem yxj:DictOk Tryz.prog FK2:=zay ((zto.append zei).append zc4) .nil .nil
theorem yn6:Sound Tryz.prog 124 (zai [byP,u64,u64] [wrP] (fun t=>some (zaj t.1∧U64 t.2.1∧U64 t.2.2)) (fun t=>zcf t.1 t.2.1 t.2.2)):=by
 refine zad mixed Tryz.func124 (by kernel_rfl) (by kernel_rfl) yxj (fun t h => ?_)
 obtain⟨m,root,va⟩:By × Int × Int:=t
 obtain⟨h1,h2,h3⟩:zaj m∧U64 root∧U64 va:=h
 have e:zes root 0 43=root % 17592186044416:=by
  show root/2 ^ 0 % 2 ^ 44=_
  rw[show (2:Int) ^ 0=1 by decide,show (2:Int) ^ 44=17592186044416 by decide,Int.ediv_one]
 refine zab (zy4 m root va) ?_
 conv=>zeta
 refine⟨h3,fun q => ?_,fun q => ?_⟩
 · have q:zen va=false:=by simpa using q
   have:zcf m root va=(2,2,0,[]):=by simp[zcf,q]
   rw[this]
   exact⟨rfl,rfl,rfl,rfl,rfl,rfl,rfl⟩
 · have q:zen va=true:=by simpa using q
   have:zcf m root va=za6 m va 3 (root % 17592186044416):=by simp[zcf,q]
   rw[this,e]
   exact⟨⟨h2,by simp only;omega⟩,⟨rfl,h1,Int.emod_nonneg _ (by decide),Int.emod_lt_of_pos _ (by decide),⟨by decide,by decide⟩,h3⟩,rfl,rfl,rfl,rfl,rfl,rfl,rfl⟩
end Go.Proofs.YtfiddfbagbaofaaGreat.V
