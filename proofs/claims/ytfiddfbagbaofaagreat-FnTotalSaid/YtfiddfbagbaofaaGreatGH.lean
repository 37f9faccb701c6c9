/- Looking up in a cache answers as the model; the law on it returns true. Conditions: those in each statement. -/
import Derived.Test.YtfiddfbagbaofaaGreatGF
import Derived.KernelRfl
namespace Go.Proofs.YtfiddfbagbaofaaGreat.V
open Go
def zia(t:Tl)(va asid:Int):Hi:=if zbb t=true then za2 va asid t.2.2 else (false,0,0,0)
def zfl(va asid:Int)(m:Es)(l:Int):Prop:=∀i,i<m.length→zdy (m.getD i zE) va asid=true→l≤(m.getD i zE).2.1
def yhr(s w:Int)(m:Es)(va asid:Int):LoopS where
 α:=Int
 I l:=zbb (s,w,m)=true∧0≤l∧l≤3∧zfl va asid m l
 sl l:=slots 52 [(1,.v (.int .u64 va)),(2,.v (.int .u64 asid)),(3,.ptr 1 0),(6,.ptr 2 0),(7,.v (.int .i64 l))]
 H _:=[.arr shE m false,.fix [.v (.int .i64 s),.v (.int .i64 w),.sl 0 6 0 m.length] true (some 37),.fix (yae (false,0,0,0)) true (some 52)]
 fams:=[{ β:=Unit,out:=fun _ _=>za2 va asid m=(false,0,0,0),ex := .ext 0,sl:=fun _=>slots 52 [(6,.ptr 1 0)],H:=fun _=>[.arr shE m false,.fix (yae (false,0,0,0)) true (some 52)] },
  { β:=Unit,out:=fun _ _=>True,ex := .ret,sl:=fun _=>slots 52 [(6,.ptr 1 0)],H:=fun _=>[.arr shE m false,.fix (yae (za2 va asid m)) true (some 52)] }]
def yhs(s w:Int)(m:Es)(va asid:Int):LoopS where
 α:=Int × Nat
 I x:=zbb (s,w,m)=true∧(0≤x.1∧x.1≤2∧zfl va asid m x.1)∧x.2≤m.length∧∀j,j<x.2→zdy (m.getD j zE) va asid=true→(m.getD j zE).2.1≠x.1
 sl x:=slots 52 [(1,.v (.int .u64 va)),(2,.v (.int .u64 asid)),(3,.ptr 1 0),(6,.ptr 2 0),(7,.v (.int .i64 x.1)),(8,.v (.int .i64 (x.2:Int)))]
 H _:=[.arr shE m false,.fix [.v (.int .i64 s),.v (.int .i64 w),.sl 0 6 0 m.length] true (some 37),.fix (yae (false,0,0,0)) true (some 52)]
 fams:=[{ β:=Int,out:=fun x z=>z=x.1∧zfl va asid m (x.1+1),ex := .ext 2,sl:=fun z=>slots 52 [(1,.v (.int .u64 va)),(2,.v (.int .u64 asid)),(3,.ptr 1 0),(6,.ptr 2 0),(7,.v (.int .i64 z))],H:=fun _=>[.arr shE m false,.fix [.v (.int .i64 s),.v (.int .i64 w),.sl 0 6 0 m.length] true (some 37),.fix (yae (false,0,0,0)) true (some 52)] },
  { β:=Unit,out:=fun _ _=>True,ex := .ret,sl:=fun _=>slots 52 [(6,.ptr 1 0)],H:=fun _=>[.arr shE m false,.fix (yae (za2 va asid m)) true (some 52)] }]
def ynl(s w:Int)(m:Es)(va asid:Int):Specs := .two 4 (yhr s w m va asid) 7 (yhs s w m va asid)
def zzd(s w:Int)(m:Es)(va asid l:Int)(i:Nat):Prop:=zam Tryz.prog FF4 (ynl s w m va asid) 1 (zag Tryz.f24 1) (yhs s w m va asid) (fun x:Int × Nat=>m.length-x.2) (l,i)
def zzc(s w:Int)(m:Es)(va asid l:Int):Prop:=zam Tryz.prog FF4 (ynl s w m va asid) 1 (zag Tryz.f24 0) (yhr s w m va asid) (fun l:Int=>(3-l).toNat) l
def ypj(s w:Int)(m:Es)(va asid:Int):Prop:=zal Tryz.prog FF4 (ynl s w m va asid) Tryz.f24 [tlP,u64,u64] [yw6] ((s,w,m),va,asid) (zia (s,w,m) va asid)
def kH:Known:=[
 (24,zai [tlP,u64,u64] [yw6] (fun t=>some (TlR t.1∧U64 t.2.1)) (fun t=>zia t.1 t.2.1 t.2.2))]++kF4
set_option linter.unusedVariables false
theorem zo6(s w:Int)(m:Es)(va asid l:Int)(i:Nat):zzd s w m va asid l i=(
 let A0:=List.length m;
 let A1:=Int.ofNat 0;
 let A2:=(0:Nat)+(↑i:Int).toNat;
 let A3:=(List.getD m A2 (El.zero shE)).2;
 let A4:=(↑i:Int);
 let A5(a b c:Prop):=a∧b∧c;
 let A6:=A3.1;
 let A7(a b c d e:Prop):=A5 a b (A5 c d e);
 let A8(a:Int):=a+1;
 let A9(a:Int):=(0:Int)≤a;
 let Aa:=A3.2.2.2.2;
 let Ab(a:Bool)(b:Prop):=a=true→b;
 let Ac:=(List.getD m A2 (El.zero shE)).1;
 let Ad:=A3.2.2.2.1;
 let Ae:=decide (A4<(↑A0:Int));
 let Af(a:Prop):=Ab (A6==l) a;
 let Ah(a:Bool)(b:Prop):=Ab a (A5 (A9 A4∧A4<(↑A0:Int)) (A2<A0) b);
 let Ai:=za2 va asid m;
 let Aj(a b:Prop)(c:Int):=A5 a b (zfl va asid m c);
 let Ak:=A7 (m=m) (s=s) (w=w) ((0:Nat)=0) (A7 (A0=A0) (false=false) (A1=A1) (A1=A1) (A1=A1));
 let Al:=bif A6==l then zdy (Ac,A6,A3.2.1,A3.2.2.1,Ad,Aa) va asid else false;
 let Am(a b:Int):=a=b∧zfl va asid m (A8 b);
 let An:=(za2 va asid m).2.2;
 Ah Ae (A7 (Af (A9 A4∧A4<(↑A0:Int))) (Af (A2<A0)) (Af (A5 (EnR (Ac,A6,A3.2.1,A3.2.2.1,Ad,Aa)) (Ac=true→LvR A6) (U64 va))) (Ah Al (∃(x0:Unit),A7 (m=m) (Ai.1=true) (Ai.2.1=A4) (An.1=l) (An.2 =
  Aa)∧True)) (Al=false→∃(x1:Int × Nat),A7 (A7 (va=va) (asid=asid) (x1.1=l) ((↑x1.2:Int)=IntKind.i64.wrap (A8 A4)) Ak) (zbb (s,w,m)=true∧A5 (Aj (A9 x1.1) (x1.1≤2) x1.1) (x1.2≤A0) (∀
  (x2:Nat),x2<x1.2→Ab (zdy (List.getD m x2 zE) va asid) ((List.getD m x2 zE).2.1≠x1.1))) (A0-x1.2<A0-i) (∀(x3:Int),Am x3 x1.1→Am x3 l) (∀(x4:Unit),True→True)))∧(Ae=false→∃(x5 :
  Int),Aj (va=va∧A5 (asid=asid) (x5=l) Ak) (x5=l) (A8 l))):=by kernel_rfl
theorem zo5(s w:Int)(m:Es)(va asid l:Int):zzc s w m va asid l=(
 (decide (l≤2)=true →
     ∃(x:Int × Nat),
       (va=va ∧
           asid=asid ∧
             x.1=l ∧
               (↑x.2:Int)=0 ∧
                 m=m ∧
                   s=s ∧
                     w=w ∧
                       (0:Nat)=0 ∧
                         List.length m=List.length m ∧
                           false=false∧Int.ofNat 0=Int.ofNat 0∧Int.ofNat 0=Int.ofNat 0∧Int.ofNat 0=Int.ofNat 0) ∧
         (zbb (s,w,m)=true ∧
             ((0:Int)≤x.1∧x.1≤2∧zfl va asid m x.1) ∧
               x.2≤List.length m∧∀(j:Nat),j<x.2→zdy (List.getD m j zE) va asid=true→(List.getD m j zE).2.1≠x.1) ∧
           (∀(z:Int),
               z=x.1∧zfl va asid m (x.1+1) →
                 ∃(y:Int),
                   (va=va ∧
                       asid=asid ∧
                         y=IntKind.i64.wrap (z+1) ∧
                           m=m ∧
                             s=s ∧
                               w=w ∧
                                 (0:Nat)=0 ∧
                                   List.length m=List.length m ∧
                                     false=false∧Int.ofNat 0=Int.ofNat 0∧Int.ofNat 0=Int.ofNat 0∧Int.ofNat 0=Int.ofNat 0) ∧
                     (zbb (s,w,m)=true∧0≤y∧y≤3∧zfl va asid m y) ∧
                       ((3:Int)-y).toNat<((3:Int)-l).toNat ∧
                         (∀(z:Unit),za2 va asid m=(false,0,0,0)→za2 va asid m=(false,0,0,0))∧∀(z:Unit),True→True) ∧
             ∀(z:Unit),
               True →
                 ∃(z:Unit),
                   (m=m ∧
                       (za2 va asid m).1=(za2 va asid m).1 ∧
                         (za2 va asid m).2.1=(za2 va asid m).2.1 ∧
                           (za2 va asid m).2.2.1=(za2 va asid m).2.2.1∧(za2 va asid m).2.2.2=(za2 va asid m).2.2.2) ∧
                     True) ∧
   (decide (l≤2)=false →
     ∃(z:Unit),
       (m=m∧false=false∧Int.ofNat 0=Int.ofNat 0∧Int.ofNat 0=Int.ofNat 0∧Int.ofNat 0=Int.ofNat 0) ∧
         za2 va asid m=(false,0,0,0))):=by kernel_rfl
theorem zzb(s w:Int)(m:Es)(va asid:Int):ypj s w m va asid=(
 let A0:=zia (s,w,m) va asid;
 let A1(a b c:Prop):=a∧b∧c;
 let A2(a b c d e:Prop):=A1 a b (A1 c d e);
 let A3:=A0.2.2;
 let A4:=Int.ofNat (0:Nat)=0;
 let A5:=List.length m=List.length m;
 let A6 := !zbb (s,w,m);
 let A7:=(za2 va asid m).2.2;
 let A8(a:Prop):=a→A2 (A0.1=false) (A0.2.1=0) (A3.1=0) (A3.2=0) (m=m);
 let A9:=za2 va asid m;
 A1 (A5∧TlR (s,w,m)) (A8 (A6=true)) (A6=false→∃(x0:Int),(va=va∧A1 (asid=asid) (x0=0) (A2 (m=m) (s=s) (w=w) ((0:Nat)=0) (A2 A5 (false=false) A4 A4 A4)))∧A1 (zbb (s,w,m)=true∧A1
  ((0:Int)≤x0) (x0≤3) (zfl va asid m x0)) (∀(x1:Unit),A8 (A9=(false,0,0,0))) (∀(x2:Unit),True→A2 (A0.1=A9.1) (A0.2.1=A9.2.1) (A3.1=A7.1) (A3.2=A7.2) (m =
  m)))):=by kernel_rfl
set_option linter.unusedSimpArgs false
theorem zpf{va asid:Int}{m:Es}:∀{n:Nat},(∀i,i<n→zdy (m.getD i zE) va asid=false)→zeh va asid m n=(false,0,0,0)
 | 0,_=>rfl
 | n+1,h=>by
  have e:zeh va asid m (n+1)=zc9 va asid (zeh va asid m n) n (m.getD n zE):=rfl
  rw[e,zpf (n:=n) (fun i hi=>h i (by omega))]
  unfold zc9
  rw[if_neg (by rw[h n (by omega)];simp)]
theorem ztc{va asid:Int}{m:Es}{i:Nat}(hi:i<m.length)(hA:zfl va asid m (m.getD i zE).2.1)(hB:∀j,j<i→zdy (m.getD j zE) va asid=true→(m.getD j zE).2.1≠(m.getD i zE).2.1) :
 ∀{n:Nat},n≤i→(zeh va asid m n).1=true→(m.getD i zE).2.1<(zeh va asid m n).2.2.1
 | 0,_,h=>by cases h
 | n+1,hn,h=>by
  have e:zeh va asid m (n+1)=zc9 va asid (zeh va asid m n) n (m.getD n zE):=rfl
  rw[e] at h ⊢
  unfold zc9 at h ⊢
  by_cases c:(zdy (m.getD n zE) va asid&&(!(zeh va asid m n).1||decide ((m.getD n zE).2.1<(zeh va asid m n).2.2.1)))=true
  · rw[if_pos c]
    have hf:zdy (m.getD n zE) va asid=true:=by simp only[Bool.and_eq_true] at c;exact c.1
    have h1:=hA n (by omega) hf
    have h2:=hB n (by omega) hf
    show (m.getD i zE).2.1<(m.getD n zE).2.1
    omega
  · rw[if_neg c] at h ⊢
    exact ztc hi hA hB (by omega) h
theorem ztd{va asid:Int}{m:Es}{i:Nat}(hi:i<m.length)(hf:zdy (m.getD i zE) va asid=true)(hA:zfl va asid m (m.getD i zE).2.1)(hB:∀j,j<i→zdy (m.getD j zE) va asid=true→(m.getD j zE).2.1≠(m.getD i zE).2.1) :
 ∀{n:Nat},i<n→n≤m.length→zeh va asid m n=(true,(i:Int),(m.getD i zE).2.1,(m.getD i zE).2.2.2.2.2)
 | 0,h,_=>absurd h (Nat.not_lt_zero _)
 | n+1,h,hn=>by
  have e:zeh va asid m (n+1)=zc9 va asid (zeh va asid m n) n (m.getD n zE):=rfl
  rw[e]
  rcases Nat.lt_or_ge i n with q|q
  · rw[ztd hi hf hA hB q (by omega)]
    unfold zc9
    rw[if_neg]
    intro c
    simp only[Bool.and_eq_true,Bool.not_true,Bool.false_or,decide_eq_true_eq] at c
    have:=hA n (by omega) c.1
    omega
  · have:n=i:=by omega
    subst this
    have far:=fun q=>ztc hi hA hB (Nat.le_refl n) q
    unfold zc9
    rw[if_pos]
    rw[hf,Bool.true_and]
    cases z:(zeh va asid m n).1 with
    | false=>rfl
    | true=>rw[Bool.not_true,Bool.false_or];exact decide_eq_true (far z)
theorem yof:Sound Tryz.prog 24 (zai [tlP,u64,u64] [yw6] (fun t=>some (TlR t.1∧U64 t.2.1)) (fun t=>zia t.1 t.2.1 t.2.2)):=by
 refine yil mixed Tryz.func24 (by kernel_rfl) (b1:=zag Tryz.f24 0) (b2:=zag Tryz.f24 1) (k1:=4) (k2:=7) (by kernel_rfl) (by kernel_rfl) (by kernel_rfl) (by kernel_rfl) (by kernel_rfl) zo8 (fun t h => ?_)
 obtain⟨⟨s,w,m⟩,va,asid⟩:Tl × Int × Int:=t
 obtain⟨ht,h5⟩:TlR (s,w,m)∧U64 va:=h
 obtain⟨h1,h2,h,h4⟩:I64 s∧I64 w∧SzR m.length∧∀e ∈ m,EnR e:=ht
 have hs:m.length≤2097152:=h
 have hlv:zbb (s,w,m)=true→∀i,i<m.length→(m.getD i zE).1=true→LvR (m.getD i zE).2.1:=fun he i hi hv=>zmi (t:=(s,w,m)) he hi hv
 refine⟨ynl s w m va asid,yhr s w m va asid,fun l:Int=>(3-l).toNat,yhs s w m va asid,fun x:Int × Nat=>m.length-x.2,znv ..,znw _ _ _ _ (by decide),fun x hx => ?_,fun  (l:Int) hl=>zab (zo5 s w m va asid l) ?_,zab (zzb s w m va asid) ?_⟩
 · obtain⟨l,i⟩:Int × Nat:=x
   obtain⟨he,⟨l0,l1,hA⟩,hi,hb⟩:zbb (s,w,m)=true∧(0≤l∧l≤2∧zfl va asid m l)∧i≤m.length∧∀j,j<i→zdy (m.getD j zE) va asid=true→(m.getD j zE).2.1≠l:=hx
   refine zab (zo6 s w m va asid l i) ?_
   conv=>zeta
   refine⟨fun g => ?_,fun g => ?_⟩
   · have g:(i:Int)<m.length:=of_decide_eq_true g
     have hlt:i<m.length:=by omega
     rw[zcj h hlt,show 0+(i:Int).toNat=i by omega,show El.zero shE=zE from rfl]
     have hm:=h4 _ (zxd hlt zE)
     have hv:=hlv he i hlt
     have hit:(m.getD i zE).2.1=l→zdy (m.getD i zE) va asid=true→za2 va asid m=(true,(i:Int),(m.getD i zE).2.1,(m.getD i zE).2.2.2.2.2):=by
      intro e1 e2
      exact ztd hlt e2 (by rw[e1];exact hA) (by rw[e1];exact hb) hlt (Nat.le_refl _)
     have hnx:(m.getD i zE).2.1≠l∨zdy (m.getD i zE) va asid=false→∀j,j<i+1→zdy (m.getD j zE) va asid=true→(m.getD j zE).2.1≠l:=by
      intro q j hj hf
      rcases Nat.lt_or_ge j i with z|z
      · exact hb j z hf
      · have:j=i:=by omega
        subst this
        rcases q with q|q
        · exact q
        · rw[q] at hf;cases hf
     generalize m.getD i zE=e at *
     obtain⟨a,b,c,d,k,f⟩:=e
     have hi2:(0:Int)≤i∧(i:Int)<m.length:=⟨by omega,by omega⟩
     refine⟨hi2,hlt,fun _=>hi2,fun _=>hlt,fun _=>⟨hm,hv,h5⟩,fun q => ?_,fun q => ?_⟩
     · rw[Bool.cond_false_right,Bool.and_eq_true] at q
       have q1:b=l:=by simpa using q.1
       have:=hit q1 q.2
       rw[this]
       exact⟨hi2,hlt,(),⟨rfl,rfl,rfl,q1,rfl⟩,trivial⟩
     · rw[Bool.cond_false_right,Bool.and_eq_false_iff] at q
       refine⟨(l,i+1),⟨rfl,rfl,rfl,rfl,rfl,rfl,rfl,rfl,rfl,rfl,rfl,rfl,rfl⟩,⟨he,⟨l0,l1,hA⟩,by simp only;omega,hnx ?_⟩,by simp only;omega,fun _ z=>z,fun _ _=>trivial⟩
       rcases q with q|q
       · exact .inl (by simpa using q)
       · exact .inr q
   · have g:¬ (i:Int)<m.length:=of_decide_eq_false g
     have:i=m.length:=by omega
     subst this
     refine⟨l,⟨rfl,rfl,rfl,rfl,rfl,rfl,rfl,rfl,rfl,rfl,rfl,rfl⟩,rfl,fun j hj hf => ?_⟩
     have p1:=hA j hj hf
     have p2:=hb j hj hf
     omega
 · obtain⟨he,l0,l1,hA⟩:zbb (s,w,m)=true∧0≤l∧l≤3∧zfl va asid m l:=hl
   refine⟨fun g => ?_,fun g => ?_⟩
   · have g:l≤2:=of_decide_eq_true g
     refine⟨(l,0),⟨rfl,rfl,rfl,rfl,rfl,rfl,rfl,rfl,rfl,rfl,rfl,rfl,rfl⟩,⟨he,⟨l0,g,hA⟩,Nat.zero_le _,fun j hj=>absurd hj (Nat.not_lt_zero _)⟩,fun z hz => ?_,fun _ _=>⟨(),⟨rfl,rfl,rfl,rfl,rfl⟩,trivial⟩⟩
     have hz0:z=l:=hz.1
     have hz1:zfl va asid m (l+1):=hz.2
     rw[hz0,zaa (by omega) (by omega)]
     exact⟨l+1,⟨rfl,rfl,rfl,rfl,rfl,rfl,rfl,rfl,rfl,rfl,rfl,rfl⟩,⟨he,by omega,by omega,hz1⟩,by omega,fun _ z=>z,fun _ _=>trivial⟩
   · have g:¬ l≤2:=of_decide_eq_false g
     refine⟨(),⟨rfl,rfl,rfl,rfl,rfl⟩, ?_⟩
     refine zpf (fun i hi => ?_)
     cases z:zdy (m.getD i zE) va asid with
     | false=>rfl
     | true =>
      have p1:=hA i hi z
      have p2:=hlv he i hi (by simp only[zdy,Bool.and_eq_true] at z;exact z.1.1)
      unfold LvR at p2
      omega
 · refine⟨⟨rfl,h1,h2,h,h4⟩,fun q => ?_,fun q => ?_⟩
   · have he:zbb (s,w,m)=false:=by simpa using q
     have el:zia (s,w,m) va asid=(false,0,0,0):=by simp[zia,he]
     rw[el]
     exact⟨rfl,rfl,rfl,rfl,rfl⟩
   · have he:zbb (s,w,m)=true:=by simpa using q
     have el:zia (s,w,m) va asid=za2 va asid m:=by simp[zia,he]
     rw[el]
     refine⟨0,⟨rfl,rfl,rfl,rfl,rfl,rfl,rfl,rfl,rfl,rfl,rfl,rfl⟩,⟨he,by omega,by omega,fun i hi hf => ?_⟩,fun _ z => ?_,fun _ _=>⟨rfl,rfl,rfl,rfl,rfl⟩⟩
     · have p2:=hlv he i hi (by simp only[zdy,Bool.and_eq_true] at hf;exact hf.1.1)
       unfold LvR at p2
       omega
     · rw[z]
       exact⟨rfl,rfl,rfl,rfl,rfl⟩
theorem kH_ok:zar Tryz.prog kH := .cons (by kernel_rfl) yof <| ztn
end Go.Proofs.YtfiddfbagbaofaaGreat.V
