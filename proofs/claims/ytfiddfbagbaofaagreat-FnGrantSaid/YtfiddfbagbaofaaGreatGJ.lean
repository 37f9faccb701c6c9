/- Flushing a cache answers as the model; the law on it returns true. Conditions: those in each statement. -/
import Derived.Test.YtfiddfbagbaofaaGreatGI
import Derived.KernelRfl
namespace Go.Proofs.YtfiddfbagbaofaaGreat.V
open Go
abbrev fnP:Pm := .st [.b,.i .u64,.b,.i .u64]
abbrev Fc:=Bool × Int × Bool × Int
def zvn(f:Fc)(l t a:Int)(g:Bool):Bool:=(!f.1||t==zkk f.2.1 l)&&(!f.2.2.1||(!g&&a==f.2.2.2))
def zc2(f:Fc)(l t a:Int)(g:Bool):Bool := !(f.1&&(!zef f.2.1||t != zkk f.2.1 l))&&(!f.2.2.1||(!g&&a==f.2.2.2))
def yak(f:Fc):Bool := !f.1||zef f.2.1
def yv2(f:Fc)(e:En):En:=if (e.1&&zvn f e.2.1 e.2.2.1 e.2.2.2.1 e.2.2.2.2.1)=true then zE else e
def zi4(f:Fc)(e:En):En:=if (e.1&&zc2 f e.2.1 e.2.2.1 e.2.2.2.1 e.2.2.2.2.1)=true then zE else e
def zdl(t:Tl)(f:Fc):Tl:=(t.1,t.2.1,if (za4 t&&yak f)=true then t.2.2.map (yv2 f) else t.2.2)
def FlR(m:Es)(f:Fc):Prop:=SzR m.length∧U64 f.2.1∧∀i,i<m.length→(m.getD i zE).1=true→LvR (m.getD i zE).2.1
def fcA(f:Fc):List Av:=[.v (.bool f.1),.v (.int .u64 f.2.1),.v (.bool f.2.2.1),.v (.int .u64 f.2.2.2)]
def yb8(a:Bool)(b:Int)(c:Bool)(d l t s:Int)(g:Bool):Prop:=zal Tryz.prog FF4 .none Tryz.f165 [fnP,i64,u64,u64,bl] [bl] ((a,b,c,d),l,t,s,g) (zc2 (a,b,c,d) l t s g)
def kJ1:Known:=[
 (165,zag [fnP,i64,u64,u64,bl] [bl] (fun t=>some (U64 t.1.2.1∧LvR t.2.1)) (fun t=>zc2 t.1 t.2.1 t.2.2.1 t.2.2.2.1 t.2.2.2.2)),
 ]
def FJ1:Dict:=mkD (kJ1++kF4++kE3++kA4) [] []
def ywj(s w:Int)(m:Es)(f:Fc):LoopS where
 α:=Nat
 I i:=i≤m.length∧FlR m f
 sl i:=slots 46 [(2,.ptr 1 0),(3,.ptr 2 0),(4,.ptr 3 0),(5,.ptr 4 0),(6,.v (.int .i64 (i:Int)))]
 H i:=[.arr shE m false,.fix (tlA s w 0 m.length) true (some 37),.fix (fcA f) true (some 58),.fix [.v (.int .i64 0),.v (.int .i64 0),.v (.slice none 0 0)] true (some 37),.fix (tlA s w 5 m.length) true (some 37),.arr shE ((m.map (zi4 f)).take i++m.drop i) true]
 fams:=[{ β:=Unit,out:=fun _ _=>True,ex := .ext 0,sl:=fun _=>slots 46 [(4,.ptr 1 0),(5,.ptr 2 0)],H:=fun _=>[.arr shE m false,.fix [.v (.int .i64 0),.v (.int .i64 0),.v (.slice none 0 0)] true (some 37),.fix (tlA s w 3 m.length) true (some 37),.arr shE (m.map (zi4 f)) true] }]
def zxr(s w:Int)(m:Es)(a:Bool)(b:Int)(c:Bool)(d:Int)(i:Nat):Prop:=zax Tryz.prog FJ1 (.one 5 (ywj s w m (a,b,c,d))) 1 (zai Tryz.f236 0) (ywj s w m (a,b,c,d)) (fun i:Nat=>m.length-i) i
def yix(s w:Int)(m:Es)(a:Bool)(b:Int)(c:Bool)(d:Int):Prop:=zal Tryz.prog FJ1 (.one 5 (ywj s w m (a,b,c,d))) Tryz.f236 [tlP,fnP] [tlP] ((s,w,m),(a,b,c,d)) (zdl (s,w,m) (a,b,c,d))
def kJ2:Known:=[(236,zag [tlP,fnP] [tlP] (fun t=>some (TlR t.1∧U64 t.2.2.1)) (fun t=>zdl t.1 t.2))]++kJ1
def kJ3:Known:=kJ2
set_option linter.unusedVariables false
theorem zqs(a:Bool)(b:Int)(c:Bool)(d l t s:Int)(g:Bool):yb8 a b c d l t s g=(
 (a=true→U64 b) ∧
   ((match a, !!zef b with
         | true,y=>y
         | false,x=>false) =
         true →
       U64 b∧LvR l) ∧
     ((bif a then bif !zef b then true else t != zkk b l else false)=true→zc2 (a,b,c,d) l t s g=false) ∧
       ((bif a then bif !zef b then true else t != zkk b l else false)=false→zc2 (a,b,c,d) l t s g=bif !c then true else bif !g then s==d else false)):=by kernel_rfl
theorem znq(s w:Int)(m:Es)(a:Bool)(b:Int)(c:Bool)(d:Int)(i:Nat):zxr s w m a b c d i=(
 let A0:=List.length m;
 let A1:=(0:Nat)+(↑i:Int).toNat;
 let A2:=List.getD m A1 (El.zero shE);
 let A3:=(↑i:Int);
 let A4(a b c:Prop):=a∧b∧c;
 let A5(a b c d e:Prop):=A4 a b (A4 c d e);
 let A6:=(0:Int)=(0:Int);
 let A7:=A2.snd;
 let A8:=(b,c,d);
 let A9:=Value.slice none (0:Nat) (0:Nat);
 let Aa:=(0:Nat)=(0:Nat);
 let Ab(b:Nat):=List.take b (List.map (zi4 (a,A8)) m)++List.drop b m;
 let Ac(a b c d e f g h i:Prop):=A5 a b c d (A5 e f g h i);
 let Ad:=(0:Int)≤A3∧A3<(↑A0:Int);
 let Ae(a:Bool)(b:Prop):=decide (A3<(↑A0:Int))=a→b;
 let Af(e:Nat)(f:Prop):=((↑e:Int)=IntKind.i64.wrap (A3+(1:Int))∧Ac (m=m) (s=s) (w=w) Aa (A0=A0) (a=a) (b=b) (c=c) (Ac (d=d) A6 A6 (A9=A9) (s=s) (w=w) Aa (A0=A0) f))∧A4 (e≤A0∧FlR m (a,A8)) (A0
  - e<A0-i) (∀(x1':Unit),True→True);
 let Ah(e:Bool)(f:Prop):=(bif A2.fst then zc2 (a,b,c,d) A7.fst A7.snd.fst A7.snd.snd.fst A7.snd.snd.snd.fst else false)=e→f;
 Ae true (A5 Ad (A1<A0) (A2.fst=true→U64 b∧LvR A7.fst) (Ah true (A4 Ad (A1<(Ab i).length) (∃(x0':Nat),Af x0' (Ab x0'=(Ab i).set A1 (false,(0:Int),(0:Int),(0:Int),false,(0:Int)))))) (Ah false (∃(x2':Nat),Af
  x2' (Ab x2'=Ab i))))∧Ae false (∃(x3':Unit),Ac (m=m) A6 A6 (A9=A9) (s=s) (w=w) Aa (A0=A0) (List.map (zi4 (a,A8)) m=Ab i)∧True)):=by kernel_rfl
theorem zue(s w:Int)(m:Es)(a:Bool)(b:Int)(c:Bool)(d:Int):yix s w m a b c d=(
 let A0:=List.length m;
 let A1:=(b,c,d);
 let A2(a b c d e:Prop):=a∧b∧c∧d∧e;
 let A3:=(zdl (s,w,m) (a,A1)).snd;
 let A4:=(0:Nat)=(0:Nat);
 let A5:=(0:Int)=(0:Int);
 let A6:=Value.slice none (0:Nat) (0:Nat);
 let A7(a:Bool):=(!za4 (s,w,m))=a;
 let A8(b c:Prop):=b→(zdl (s,w,m) (a,A1)).fst=s∧A2 (A3.fst=w) A4 (List.length A3.snd=A0) (m=m) c;
 let A9:=A0=A0;
 (A9∧SzR A0)∧(A9∧TlR (s,w,m))∧A8 (A7 true) (A3.snd=m)∧(A7 false→∃(x0':Nat),((↑x0':Int)=(0:Int)∧A2 (m=m) (s=s) (w=w) A4 (A2 A9 (a=a) (b=b) (c=c) (A2 (d=d) A5 A5 (A6=A6) (A2 (s=s) (w=w) A4 A9
  (List.take x0' (List.map (zi4 (a,A1)) m)++List.drop x0' m=m)))))∧(x0'≤A0∧FlR m (a,A1))∧∀(x1':Unit),A8 True (A3.snd=List.map (zi4 (a,A1)) m))):=by kernel_rfl
set_option linter.unusedSimpArgs false
theorem half{α:Type}(f:α→α)(m:List α){i:Nat}(h:i<m.length):∃a b:List α,∃x:α,(∀d,m.getD i d=x)∧a.length=i∧(m.map f).take i++m.drop i=a++x::b∧(m.map f).take (i+1)++m.drop (i+1)=a++f x::b:=by
 refine⟨(m.map f).take i,m.drop (i+1),m[i],fun d=>by rw[List.getD_eq_getElem?_getD,List.getElem?_eq_getElem h];rfl,by simp;omega,by rw[← List.drop_eq_getElem_cons h], ?_⟩
 have h':i<(m.map f).length:=by simpa using h
 rw[List.take_succ_eq_append_getElem h',List.append_assoc]
 simp
theorem yks{α:Type}(f:α→α)(m:List α):m.map f=(m.map f).take m.length++m.drop m.length:=by
 rw[List.drop_length,List.append_nil,List.take_of_length_le (by simp)]
theorem yba:Sound Tryz.prog 165 (zag [fnP,i64,u64,u64,bl] [bl] (fun t=>some (U64 t.1.2.1∧LvR t.2.1)) (fun t=>zc2 t.1 t.2.1 t.2.2.1 t.2.2.2.1 t.2.2.2.2)):=by
 refine zad mixed Tryz.func165 (by kernel_rfl) (by kernel_rfl) zyh (fun t h => ?_)
 obtain⟨⟨a,b,c,d⟩,l,t,s,g⟩:Fc × Int × Int × Int × Bool:=t
 obtain⟨h1,h2⟩:U64 b∧LvR l:=h
 refine zah (zqs a b c d l t s g) ⟨fun _=>h1,fun _=>⟨h1,h2⟩,fun q => ?_,fun q => ?_⟩
 · rw[Bool.cond_false_right,Bool.cond_true_left] at q
   unfold zc2
   simp only
   rw[q]
   rfl
 · rw[Bool.cond_false_right,Bool.cond_true_left] at q
   unfold zc2
   simp only
   rw[q,Bool.cond_true_left,Bool.cond_false_right]
   rfl
theorem ye9:zay Tryz.prog kJ1 := .cons (by kernel_rfl) yba <| .nil
theorem ytv:DictOk Tryz.prog FJ1:=za1 (((ye9.append zsd).append zj8).append zce) .nil .nil
theorem yhb{f:Fc}(h:yak f=true)(e:En):zi4 f e=yv2 f e:=by
 obtain⟨a,b,c,d⟩:=f
 have:zc2 (a,b,c,d) e.2.1 e.2.2.1 e.2.2.2.1 e.2.2.2.2.1=zvn (a,b,c,d) e.2.1 e.2.2.1 e.2.2.2.1 e.2.2.2.2.1:=by
  unfold yak at h
  unfold zc2 zvn
  simp only at h ⊢
  cases a with
  | false=>rfl
  | true =>
   have h:zef b=true:=by simpa using h
   rw[h]
   simp[bne]
 unfold zi4 yv2
 rw[this]
theorem yl8{f:Fc}(h:yak f=false)(e:En):zi4 f e=e:=by
 obtain⟨a,b,c,d⟩:=f
 have:zc2 (a,b,c,d) e.2.1 e.2.2.1 e.2.2.2.1 e.2.2.2.2.1=false:=by
  unfold yak at h
  unfold zc2
  simp only[Bool.or_eq_false_iff,Bool.not_eq_false'] at h
  simp only at h ⊢
  rw[h.1,h.2]
  rfl
 unfold zi4
 rw[this,if_neg (by simp)]
theorem zvy{t:Tl}{f:Fc}(h:za4 t=true):(zdl t f).2.2=t.2.2.map (zi4 f):=by
 unfold zdl
 simp only
 cases g:yak f with
 | true =>
  rw[h,if_pos (by rfl)]
  exact List.map_congr_left (fun e _=>(yhb g e).symm)
 | false =>
  rw[h,if_neg (by simp)]
  rw[List.map_congr_left (fun e _=>yl8 g e)]
  simp
theorem zpj(t:Tl)(f:Fc):(zdl t f).2.2.length=t.2.2.length:=by
 unfold zdl
 simp only
 split<;>simp
theorem fl_of{s w:Int}{m:Es}{f:Fc}(ht:TlR (s,w,m))(hb:U64 f.2.1)(he:za4 (s,w,m)=true):FlR m f:=⟨ht.2.2.1,hb,fun _ hi hv=>zlo (t:=(s,w,m)) he hi hv⟩
theorem ygy:Sound Tryz.prog 236 (zag [tlP,fnP] [tlP] (fun t=>some (TlR t.1∧U64 t.2.2.1)) (fun t=>zdl t.1 t.2)):=by
 refine zcr mixed Tryz.func236 (by kernel_rfl) (b:=zai Tryz.f236 0) (k:=5) (by kernel_rfl) (by kernel_rfl) (by kernel_rfl) ytv (fun t h => ?_)
 obtain⟨⟨s,w,m⟩,a,b,c,d⟩:Tl × Fc:=t
 obtain⟨ht,hb⟩:TlR (s,w,m)∧U64 b:=h
 have hz:SzR m.length:=ht.2.2.1
 have hs:m.length≤2097152:=hz
 refine⟨.one 5 (ywj s w m (a,b,c,d)),ywj s w m (a,b,c,d),fun i:Nat=>m.length-i,zby _ _,fun  (i:Nat) hi=>zah (znq s w m a b c d i) ?_,zah (zue s w m a b c d) ?_⟩
 all_goals (try conv=>zeta)
 · obtain⟨hi,hF⟩:i≤m.length∧FlR m (a,b,c,d):=hi
   refine⟨fun q => ?_,fun q => ?_⟩
   · have q:(i:Int)<m.length:=of_decide_eq_true q
     have hlt:i<m.length:=by omega
     obtain⟨x,y,e,h1,h2,h3,h4⟩:=half (zi4 (a,b,c,d)) m hlt
     have hv:=hF.2.2 i hlt
     rw[h1] at hv
     have hlen:i<(x++e::y).length:=by simp;omega
     rw[zfk hz hlt,show 0+(i:Int).toNat=i by omega,h3,h1,yra _ _ _ _ h2]
     refine⟨⟨by omega,by omega⟩,hlt,fun z=>⟨hb,hv z⟩,fun z=>⟨⟨by omega,by omega⟩,hlen,i+1,⟨rfl,rfl,rfl,rfl,rfl,rfl,rfl,rfl,rfl,rfl,rfl,rfl,rfl,rfl,rfl,rfl,rfl, ?_⟩,⟨by omega,hF⟩,by omega,fun _ _=>trivial⟩,fun z=>⟨i+1,⟨rfl,rfl,rfl,rfl,rfl,rfl,rfl,rfl,rfl,rfl,rfl,rfl,rfl,rfl,rfl,rfl,rfl, ?_⟩,⟨by omega,hF⟩,by omega,fun _ _=>trivial⟩⟩
     · rw[Bool.cond_false_right] at z
       rw[h4]
       unfold zi4
       rw[if_pos z]
       rfl
     · rw[Bool.cond_false_right] at z
       rw[h4]
       unfold zi4
       rw[if_neg (by rw[z];decide)]
   · have q:¬ (i:Int)<m.length:=of_decide_eq_false q
     have:i=m.length:=by omega
     subst this
     exact⟨(),⟨rfl,rfl,rfl,rfl,rfl,rfl,rfl,rfl,yks _ m⟩,trivial⟩
 · refine⟨⟨rfl,hz⟩,⟨rfl,ht⟩,fun q => ?_,fun q => ?_⟩
   · have he:za4 (s,w,m)=false:=by simpa using q
     have e:zdl (s,w,m) (a,b,c,d)=(s,w,m):=by simp[zdl,he]
     rw[e]
     exact⟨rfl,rfl,rfl,rfl,rfl,rfl⟩
   · have he:za4 (s,w,m)=true:=by simpa using q
     refine⟨0,⟨rfl,rfl,rfl,rfl,rfl,rfl,rfl,rfl,rfl,rfl,rfl,rfl,rfl,rfl,rfl,rfl,rfl,rfl⟩,⟨by omega,fl_of ht hb he⟩,fun _ _=>⟨rfl,rfl,rfl,zpj _ _,rfl,zvy he⟩⟩
theorem yok:zay Tryz.prog kJ2 := .cons (by kernel_rfl) ygy ye9
theorem yvo:zay Tryz.prog kJ3:=yok
end Go.Proofs.YtfiddfbagbaofaaGreat.V
