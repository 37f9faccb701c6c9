/- Records of a walk, and the reference's walk, answer as their models. Conditions: those in each statement. -/
import Derived.Test.YtfiddfbagbaofaaGreatGJ
import Derived.KernelRfl
namespace Go.Proofs.YtfiddfbagbaofaaGreat.V
open Go
abbrev shR:List Ty:=[.i .i64,.i .u64,.i .u64]
abbrev Rc:=Int × Int × Int
abbrev Rs:=List Rc
abbrev rsP:Pm := .one (.sl shR)
abbrev wrP:Pm := .st [.i .i64,.i .i64,.i .u64,.sl shR]
abbrev Wr:=Int × Int × Int × Rs
def za4(m:By)(va:Int):Nat→Int→Wr
 | 0,_=>(2,0,0,[])
 | n+1,page =>
  if (za9 m (64*page+8*zeh va n) 8).1=false then (3,n,0,[])
  else if za2 (za9 m (64*page+8*zeh va n) 8).2 n=0 then (2,n,0,[])
  else if za2 (za9 m (64*page+8*zeh va n) 8).2 n=2 then (1,n,(za9 m (64*page+8*zeh va n) 8).2,[((n:Int),64*page+8*zeh va n,(za9 m (64*page+8*zeh va n) 8).2)])
  else
   ((za4 m va n (zch (za9 m (64*page+8*zeh va n) 8).2)).1,(za4 m va n (zch (za9 m (64*page+8*zeh va n) 8).2)).2.1,(za4 m va n (zch (za9 m (64*page+8*zeh va n) 8).2)).2.2.1,
    ((n:Int),64*page+8*zeh va n,(za9 m (64*page+8*zeh va n) 8).2)::(za4 m va n (zch (za9 m (64*page+8*zeh va n) 8).2)).2.2.2)
def zb7(m:By)(root va:Int):Wr:=if zee va=true then za4 m va 3 (root % 17592186044416) else (2,2,0,[])
def zfi(m:By)(n l va:Int):Prop:=zaz m∧0≤n∧n<17592186044416∧LvR l∧U64 va
def ypt(a b c:Int):Prop:=zag Tryz.prog F0 .none Tryz.f193 [i64,u64,u64] [rsP] (a,b,c) [(a,b,c)]
def ypf(m:By)(a:Int):Prop:=zag Tryz.prog FB1 .none Tryz.f265 [byP,u64] [u64,bl] (m,a) ((za9 m a 8).2,(za9 m a 8).1)
def kK1:Known:=[
 (193,zad [i64,u64,u64] [rsP] (fun _=>none) (fun t=>[t])),
 (265,zad [byP,u64] [u64,bl] (fun t=>some (zaz t.1∧U64 t.2)) (fun t=>((za9 t.1 t.2 8).2,(za9 t.1 t.2 8).1)))]
def yul(k:Nat):Sum:=zad [byP,u64,i64,u64] [wrP] (fun t=>some (zfi t.1 t.2.1 t.2.2.1 t.2.2.2∧t.2.2.1.toNat<k)) (fun t=>za4 t.1 t.2.2.2 (t.2.2.1.toNat+1) t.2.1)
def yw2(k:Nat)(m:By)(n l va:Int):Prop:=zag Tryz.prog (mkD ((125,yul k)::(kK1++kB3++kA4)) [] []) .none Tryz.f125 [byP,u64,i64,u64] [wrP] (m,n,l,va) (za4 m va (l.toNat+1) n)
def kK2:Known:=[
 (125,zad [byP,u64,i64,u64] [wrP] (fun t=>some (zfi t.1 t.2.1 t.2.2.1 t.2.2.2)) (fun t=>za4 t.1 t.2.2.2 (t.2.2.1.toNat+1) t.2.1))]++kK1
def FK2:Dict:=mkD (kK2++kB3++kA4) [] []
def yp4(m:By)(root va:Int):Prop:=zag Tryz.prog FK2 .none Tryz.f124 [byP,u64,u64] [wrP] (m,root,va) (zb7 m root va)
set_option linter.unusedVariables false
theorem zyj(a b c:Int):ypt a b c=(
 (0:Nat)=(0:Nat)∧[(a,b,c)].length=(1:Nat)∧[(a,b,c)]=[(a,b,c)]):=by kernel_rfl
theorem zx1(m:By)(a:Int):ypf m a=(
 (List.length m=List.length m∧SzR (List.length m)∧(0:PmT [u64])≤8) ∧
   ((!zf1 m a 8)=true→(za9 m a 8).snd=0∧(za9 m a 8).fst=false∧m=m) ∧
     ((!zf1 m a 8)=false →
       (List.length m=List.length m∧zr0 m a 8)∧(za9 m a 8).snd=zda (List.take (Int.toNat 8) (List.drop a.toNat m))∧(za9 m a 8).fst=true∧m=m)):=by kernel_rfl
theorem ydd(k:Nat)(m:By)(n l va:Int):yw2 k m n l va=(
 let A0(a:Int):=IntKind.u64.wrap a;
 let A1(a:Int):=a.toNat+1;
 let A2:=A0 ((64:Int)*n)+A0 ((8:Int)*zeh va l);
 let A3:=za9 m (A0 A2) 8;
 let A4(a:CsT [Cs.i IntKind.u64,Cs.sl shR]):=List.length a.snd;
 let A5:=IntKind.i64.wrap (l-1);
 let A6:=A3.snd;
 let A7:=(za4 m va (A1 A5) (zch A6)).snd.snd;
 let A8:=List.drop 0 A7.snd;
 let A9(a b c:Prop):=a∧b∧c;
 let Aa(a b:Int):=(za4 m va (A1 a) b).snd.fst;
 let Ab:=(0:Nat)=0;
 let Ac(a b:Int):=(za4 m va (A1 a) b).fst;
 let Ad:=A4 A7;
 let Ae(a b c d e:Prop):=A9 a b (A9 c d e);
 let Af:=(za4 m va (A1 l) n).snd.snd;
 let Ah:=((l,A0 A2,A6)::[]).length;
 let Ai(a b:Prop):=A9 (List.length m=List.length m) a b;
 let Aj(a:Prop)(b:Nat)(c:Prop):=Ae a Ab (A4 Af=b) (m=m) c;
 let Ak(a b:Prop)(c:Int)(d e:Prop):=A9 a (b→A9 (Ac l n=c) (Aa l n=l) (Ae (Af.fst=0) Ab (A4 Af=0) (m=m) (Af.snd=[]))) (d→e);
 let Al:=Ah+(List.take Ad A8).length;
 let Am:=(l,A0 A2,A6)::[];
 let An(a:Bool):=(za2 A6 l==0)=a;
 let Ao:=za2 A6 l==2;
 (U64 va∧LvR l)∧Ak (Ai (zaz m) (U64 (A0 A2))) ((!A3.fst)=true) 3 ((!A3.fst)=false) (Ak (U64 A6) (An true) 2 (An false) ((Ao=true→A9 (Ac l n=1) (Aa l n=l) (Aj (Af.fst=A6) Ah (Af.snd=Am)))∧(Ao =
  false→U64 A6∧Ae (Ai (zfi m (zch A6) A5 va) (A5.toNat<k)) (A9 ((0:Nat)+Ad≤Ad) (Ah≤Ah) (Al≤1073741824)) (Ac l n=Ac A5 (zch A6)) (Aa l n=Aa A5 (zch A6)) (Aj (Af.fst=A7.fst) Al (Af.snd=List.take Ah Am ++
  List.take Ad A8)))))):=by kernel_rfl
theorem zy2(m:By)(root va:Int):yp4 m root va=(
 let A0:=zej root 0 43;
 let A1(a:Wr):=a.snd.snd.snd;
 let A2:=zb7 m root va;
 let A3:=za4 m va ((2:Int).toNat+1) A0;
 let A4(a b c:Prop):=a∧b∧c;
 let A5:=A2.snd.snd.fst;
 let A6(a:Prop)(b:Nat)(c:Prop):=A4 a ((0:Nat)=0) (A4 (List.length (A1 A2)=b) (m=m) c);
 A4 (U64 va) ((!zee va)=true→A4 (A2.fst=2) (A2.snd.fst=2) (A6 (A5=0) 0 (A1 A2=[]))) ((!zee va)=false→A4 (zh5 (root,0,43)) (List.length m=List.length m∧zfi m A0 (2 :
  Int) va) (A4 (A2.fst=A3.fst) (A2.snd.fst=A3.snd.fst) (A6 (A5=A3.snd.snd.fst) (List.length (A1 A3)) (A1 A2=A1 A3))))):=by kernel_rfl
set_option linter.unusedSimpArgs false
theorem ynr:Sound Tryz.prog 193 (zad [i64,u64,u64] [rsP] (fun _=>none) (fun t=>[t])):=by
 refine zab mixed Tryz.func193 (by kernel_rfl) (by kernel_rfl) zcg (fun t _ => ?_)
 obtain⟨a,b,c⟩:Rc:=t
 refine zae (zyj a b c) ?_
 simp
theorem ym3:Sound Tryz.prog 265 (zad [byP,u64] [u64,bl] (fun t=>some (zaz t.1∧U64 t.2)) (fun t=>((za9 t.1 t.2 8).2,(za9 t.1 t.2 8).1))):=by
 refine zab mixed Tryz.func265 (by kernel_rfl) (by kernel_rfl) yqu (fun t h => ?_)
 obtain⟨m,a⟩:By × Int:=t
 obtain⟨h1,h2⟩:zaz m∧U64 a:=h
 have g:gwM 8=true:=by decide
 refine zae (zx1 m a) ⟨⟨rfl,h1.1,by show (0:Int)≤8;decide⟩,fun e => ?_,fun e => ?_⟩
 · have e:zf1 m a 8=false:=by simpa using e
   simp[za9,zrz,e]
 · have e:zf1 m a 8=true:=by simpa using e
   have hr:zrz m a 8=true:=by simp[zrz,g,e]
   refine⟨⟨rfl,yar h1 h2 hr⟩, ?_, ?_,rfl⟩
   · unfold za9;rw[if_pos hr]
   · unfold za9;rw[if_pos hr]
theorem yrv:zar Tryz.prog kK1 := .cons (by kernel_rfl) ynr <| .cons (by kernel_rfl) ym3 <| .nil
theorem yva:zar Tryz.prog (kK1++kB3++kA4):=(yrv.append zd6).append zcy
theorem ztm{m:By}{a:Int}(hm:zaz m):U64 (za9 m a 8).2:=by
 unfold za9
 split
 · exact zi8 (fun b hb=>hm.2 b (List.mem_of_mem_drop (List.mem_of_mem_take hb))) (by simp;omega)
 · exact⟨by decide,by decide⟩
theorem yai{p l:Int}(h0:za2 p l≠0)(h2:za2 p l≠2):l≠0:=by
 intro e
 subst e
 unfold za2 at h0 h2
 split at h0
 · exact h0 rfl
 · rename_i hc
   rw[if_neg hc] at h2
   split at h0
   · simp at h0
   · rename_i hd
     rw[if_neg hd] at h2
     split at h0
     · rename_i he
       rw[if_pos he] at h2
       exact h2 rfl
     · exact h0 rfl
theorem zsy(va:Int)(l:Int):0≤zeh va l∧zeh va l<8:=by
 unfold zeh
 exact⟨Int.emod_nonneg _ (by decide),Int.emod_lt_of_pos _ (by decide)⟩
theorem yfe{n va l:Int}(h0:0≤n)(h1:n<17592186044416):IntKind.u64.wrap (IntKind.u64.wrap (64*n)+IntKind.u64.wrap (8*zeh va l))=64*n+8*zeh va l:=by
 obtain⟨a,b⟩:=zsy va l
 rw[zah (n:=64*n) (by omega) (by omega),zah (n:=8*zeh va l) (by omega) (by omega),zah (by omega) (by omega)]
theorem zc9(m:By)(va:Int):∀(n:Nat)(p:Int),(za4 m va n p).2.2.2.length≤n
 | 0,_=>Nat.le_refl _
 | n+1,p=>by
  unfold za4
  split
  · exact Nat.zero_le _
  · split
    · exact Nat.zero_le _
    · split
      · simp
      · simp only[List.length_cons]
        have:=zc9 m va n (zch (za9 m (64*p+8*zeh va n) 8).2)
        omega
theorem znv{m:By}{va l p:Int}(h:0≤l):za4 m va (l.toNat+1) p =
 if (za9 m (64*p+8*zeh va l) 8).1=false then (3,l,0,[])
 else if za2 (za9 m (64*p+8*zeh va l) 8).2 l=0 then (2,l,0,[])
 else if za2 (za9 m (64*p+8*zeh va l) 8).2 l=2 then (1,l,(za9 m (64*p+8*zeh va l) 8).2,[(l,64*p+8*zeh va l,(za9 m (64*p+8*zeh va l) 8).2)])
 else
  ((za4 m va l.toNat (zch (za9 m (64*p+8*zeh va l) 8).2)).1,(za4 m va l.toNat (zch (za9 m (64*p+8*zeh va l) 8).2)).2.1,(za4 m va l.toNat (zch (za9 m (64*p+8*zeh va l) 8).2)).2.2.1,
   (l,64*p+8*zeh va l,(za9 m (64*p+8*zeh va l) 8).2)::(za4 m va l.toNat (zch (za9 m (64*p+8*zeh va l) 8).2)).2.2.2):=by
 have e:((l.toNat:Nat):Int)=l:=by omega
 rw[za4,e]
theorem ygb:∀k:Nat,Sound Tryz.prog 125 (yul k)
 | 0=>zab mixed Tryz.func125 (by kernel_rfl) (by kernel_rfl) (D:=mkD [] [] []) (zaw .nil .nil .nil) (fun  (t:By × Int × Int × Int) h=>absurd h.2 (Nat.not_lt_zero _))
 | k+1=>by
  refine zab mixed Tryz.func125 (by kernel_rfl) (by kernel_rfl) (D:=mkD ((125,yul k)::(kK1++kB3++kA4)) [] []) (zaw (.cons (by kernel_rfl) (ygb k) yva) .nil .nil) (fun t h => ?_)
  obtain⟨m,n,l,va⟩:By × Int × Int × Int:=t
  obtain⟨⟨hm,n0,n1,hl,hv⟩,hk⟩:zfi m n l va∧l.toNat<k+1:=h
  have hl2:=hl
  unfold LvR at hl2
  obtain⟨i0,i1⟩:=zsy va l
  have hr:=ztm (a:=64*n+8*zeh va l) hm
  refine zae (ydd k m n l va) ?_
  conv=>zeta
  rw[yfe n0 n1,znv hl2.1]
  have hA:U64 (64*n+8*zeh va l):=⟨by omega,by omega⟩
  generalize 64*n+8*zeh va l=A at *
  generalize za9 m A 8=r at *
  refine⟨⟨hv,hl⟩,⟨rfl,hm,hA⟩,fun q => ?_,fun q=>⟨hr,fun q2 => ?_,fun q2=>⟨fun q3 => ?_,fun q3 => ?_⟩⟩⟩
  · have q:r.1=false:=by simpa using q
    rw[if_pos q]
    exact⟨rfl,rfl,rfl,rfl,rfl,rfl,rfl⟩
  · have q:r.1≠false:=by simpa using q
    have q2:za2 r.2 l=0:=by simpa using q2
    rw[if_neg q,if_pos q2]
    exact⟨rfl,rfl,rfl,rfl,rfl,rfl,rfl⟩
  · have q:r.1≠false:=by simpa using q
    have q2:za2 r.2 l≠0:=by simpa using q2
    have q3:za2 r.2 l=2:=by simpa using q3
    rw[if_neg q,if_neg q2,if_pos q3]
    exact⟨rfl,rfl,rfl,rfl,rfl,rfl,rfl⟩
  · have q:r.1≠false:=by simpa using q
    have q2:za2 r.2 l≠0:=by simpa using q2
    have q3:za2 r.2 l≠2:=by simpa using q3
    have hlow:=yai q2 q3
    obtain⟨p0,p1⟩:=zkp hr
    have e1:IntKind.i64.wrap (l-1)=l-1:=zac (by omega) (by omega)
    have e2:(l-1).toNat+1=l.toNat:=by omega
    have hw:=zc9 m va l.toNat (zch r.2)
    rw[if_neg q,if_neg q2,if_neg q3,e1,e2]
    generalize za4 m va l.toNat (zch r.2)=W at *
    have e3:List.take (List.length W.2.2.2) (List.drop 0 W.2.2.2)=W.2.2.2:=by rw[List.drop_zero,List.take_length]
    rw[e3]
    refine⟨hr,⟨rfl,⟨hm,p0,p1,⟨by omega,by omega⟩,hv⟩,by omega⟩,⟨by omega,Nat.le_refl _,by simp;omega⟩,rfl,rfl,rfl,rfl, ?_,rfl, ?_⟩
    · simp;omega
    · simp
theorem ynb:Sound Tryz.prog 125 (zad [byP,u64,i64,u64] [wrP] (fun t=>some (zfi t.1 t.2.1 t.2.2.1 t.2.2.2)) (fun t=>za4 t.1 t.2.2.2 (t.2.2.1.toNat+1) t.2.1)) :=
 zfd (ygb 3) (fun  (t:By × Int × Int × Int) h=>by have h:zfi t.1 t.2.1 t.2.2.1 t.2.2.2:=h;exact⟨h,by have:=h.2.2.2.1;unfold LvR at this;omega⟩)
theorem zs1:zar Tryz.prog kK2 := .cons (by kernel_rfl) ynb yrv
theorem yx5:DictOk Tryz.prog FK2:=zaw ((zs1.append zd6).append zcy) .nil .nil
theorem yol:Sound Tryz.prog 124 (zad [byP,u64,u64] [wrP] (fun t=>some (zaz t.1∧U64 t.2.1∧U64 t.2.2)) (fun t=>zb7 t.1 t.2.1 t.2.2)):=by
 refine zab mixed Tryz.func124 (by kernel_rfl) (by kernel_rfl) yx5 (fun t h => ?_)
 obtain⟨m,root,va⟩:By × Int × Int:=t
 obtain⟨h1,h2,h3⟩:zaz m∧U64 root∧U64 va:=h
 have e:zej root 0 43=root % 17592186044416:=by
  show root/2 ^ 0 % 2 ^ 44=_
  rw[show (2:Int) ^ 0=1 by decide,show (2:Int) ^ 44=17592186044416 by decide,Int.ediv_one]
 refine zae (zy2 m root va) ?_
 conv=>zeta
 refine⟨h3,fun q => ?_,fun q => ?_⟩
 · have q:zee va=false:=by simpa using q
   have:zb7 m root va=(2,2,0,[]):=by simp[zb7,q]
   rw[this]
   exact⟨rfl,rfl,rfl,rfl,rfl,rfl,rfl⟩
 · have q:zee va=true:=by simpa using q
   have:zb7 m root va=za4 m va 3 (root % 17592186044416):=by simp[zb7,q]
   rw[this,e]
   exact⟨⟨h2,by simp only;omega⟩,⟨rfl,h1,Int.emod_nonneg _ (by decide),Int.emod_lt_of_pos _ (by decide),⟨by decide,by decide⟩,h3⟩,rfl,rfl,rfl,rfl,rfl,rfl,rfl⟩
end Go.Proofs.YtfiddfbagbaofaaGreat.V
