/- What a translation with caches comes to: the plain one where nothing fits; what is found after it (seat G). Conditions: those in each statement. -/
import Derived.Test.YtfiddfbagbaofaaGreatEE
import Derived.Test.YtfiddfbagbaofaaGreatEL
namespace Go.Proofs.YtfiddfbagbaofaaGreat.V
open Go
def yt7(va asid:Int)(m:Es):Prop:=∀i,i<m.length→zc0 (m.getD i zE) va asid=false
def zn5(va:Int)(m:Es):Bool:=m.any fun e=>e.1&&e.2.2.2.2.1&&(e.2.2.1==zkk va e.2.1)
set_option linter.unusedSimpArgs false
theorem zw6{va asid:Int}{m:Es}(h:yt7 va asid m):zau va asid m=(false,0,0,0):=zn3 h
theorem yq9{m:By}{c:Ct}{k:Cch}{kind va pick:Int}(hk:zid c kind=true)(n1:yt7 va (zav c.2.2.2) (zb4 kind k).2.2)(n2:yt7 va (zav c.2.2.2) k.2.2.2.2) :
 zbd (trM m c k kind va pick).1 kind=(zbt m c kind va).1∧(trM m c k kind va pick).2.1=(zbt m c kind va).2:=by
 unfold zbt
 rw[if_pos hk]
 unfold trM
 cases ho:onM c with
 | false=>exact⟨rfl,rfl⟩
 | true =>
  simp only[Bool.true_eq_false,if_false,if_true]
  cases hc:zef va with
  | false =>
   have e:zbx m c.2.2.2 va=(2,2,0,[]):=by unfold zbx;rw[hc];rfl
   rw[e]
   exact⟨rfl,rfl⟩
  | true =>
   simp only[Bool.true_eq_false,if_false]
   rw[zw6 n1]
   simp only[Bool.false_eq_true,if_false]
   have es:zao c.2.2.2 va k.2.2=(ze4 c.2.2.2,2):=by unfold zao;rw[zw6 n2];rfl
   unfold ziv
   rw[es,zuw hc]
   show zbd (zgg (za6 m va 3 (ze4 c.2.2.2)) c _ kind va pick).1 kind=_∧(zgg (za6 m va 3 (ze4 c.2.2.2)) c _ kind va pick).2.1=_
   have code:=zb6 m va 3 (ze4 c.2.2.2)
   generalize za6 m va 3 (ze4 c.2.2.2)=W at code ⊢
   obtain⟨w1,w2,w3,w4⟩:=W
   rcases code with e|e|e<;>(have e:w1=_:=e;subst e)
   · simp only[zgg,zam,zck]
     simp only[if_true,show ¬ (1:Int)=2 by decide,show ¬ (1:Int)=3 by decide,if_false]
     split<;>exact⟨rfl,rfl⟩
   · exact⟨rfl,rfl⟩
   · exact⟨rfl,rfl⟩
theorem ysc{m:By}{c:Ct}{x:Cf}{kind va pick:Int}(h:(zgc m c x kind va pick).1≠63):okT c (toC x) kind pick=true:=by
 unfold zgc zos at h
 cases ho:okT c (toC x) kind pick with
 | true=>rfl
 | false=>rw[if_neg (by rw[ho];decide)] at h;exact absurd rfl h
theorem ysd{m:By}{c:Ct}{x:Cf}{kind va pick:Int}(h:okT c (toC x) kind pick=true):zgc m c x kind va pick=(zbd (trM m c (toC x) kind va pick).1 kind,(trM m c (toC x) kind va pick).2.1,ofC (trM m c (toC x) kind va pick).2.2.2):=by
 unfold zgc zos
 rw[if_pos h]
theorem yyd{c:Ct}{k k':Cch}{kind pick:Int}(h:okT c k kind pick=true)(g:zb5 k'=true):okT c k' kind pick=true:=by
 obtain⟨_,a,b,d⟩:=zjt h
 simp only[okT,Bool.and_eq_true,decide_eq_true_eq]
 exact⟨⟨⟨g,a⟩,b⟩,d⟩
theorem ysx{m:By}{c:Ct}{x y:Cf}{kind va pick:Int}(h:okT c (toC x) kind pick=true)(g:zb5 (toC y)=true)(n1:yt7 va (zav c.2.2.2) y.2.2.1)(n2:yt7 va (zav c.2.2.2) y.2.2.2.2.2.1)(n3:yt7 va (zav c.2.2.2) y.2.2.2.2.2.2.2.2) :
 (zgc m c y kind va pick).1=(zbt m c kind va).1∧(zgc m c y kind va pick).2.1=(zbt m c kind va).2:=by
 rw[ysd (yyd h g)]
 refine yq9 (zjt h).2.1 ?_ n3
 unfold zb4
 split
 · exact n1
 · exact n2
theorem yxi{es:Es}{f:En→En}(hf:f zE=zE)(i:Nat):(es.map f).getD i zE=f (es.getD i zE):=by
 simp only[List.getD_eq_getElem?_getD,List.getElem?_map]
 cases es[i]? with
 | none=>exact hf.symm
 | some e=>rfl
theorem yx3{va:Int}{m:Es}(h:zn5 va m=false){i:Nat}(hi:i<m.length):((m.getD i zE).1&&(m.getD i zE).2.2.2.2.1&&((m.getD i zE).2.2.1==zkk va (m.getD i zE).2.1))=false:=by
 unfold zn5 at h
 rw[List.any_eq_false] at h
 have:=h (m.getD i zE) (zlx hi zE)
 simpa using this
theorem zlu{p:Bool}{t:Tl}{f:Fc}{va asid:Int}(hv:zaj p t=true)(hg:yak f=true)(ht:f.1=true→∀l,LvR l→zkk f.2.1 l=zkk va l)(ha:f.2.2.1=true→f.2.2.2=asid∧zn5 va t.2.2=false):yt7 va asid (zdl t f).2.2:=by
 intro i hi
 have hl:(zdl t f).2.2.length=t.2.2.length:=by unfold zdl;split<;>simp
 rw[hl] at hi
 have he:(za4 t&&yak f)=true:=by rw[zez hv,hg];rfl
 unfold zdl
 simp only[he,if_true]
 rw[yxi (by rfl)]
 have hlv:=fun q=>ymj hv hi q
 have hG:=fun q:f.2.2.1=true=>yx3 (ha q).2 hi
 generalize t.2.2.getD i zE=e at *
 unfold yv2
 split
 · rfl
 · rename_i hn
   cases hf:zc0 e va asid with
   | false=>rfl
   | true =>
    exfalso
    apply hn
    simp only[zc0,Bool.and_eq_true] at hf
    obtain⟨⟨g1,g2⟩,g3⟩:=hf
    have l:=hlv g1
    unfold zvn
    rw[g1,Bool.true_and,Bool.and_eq_true]
    refine⟨?_, ?_⟩
    · cases h1:f.1 with
      | false=>rfl
      | true=>rw[ht h1 _ l];exact g2
    · cases h2:f.2.2.1 with
      | false=>rfl
      | true =>
       have k:=hG h2
       rw[g1,g2] at k
       have k:e.2.2.2.2.1=false:=by simpa using k
       rw[k] at g3 ⊢
       rw[(ha h2).1]
       simpa using g3
theorem ykk{x:Cf}{f:Fc}(h:zb5 (toC x)=true):zb5 (zdl (toC x).1 f,zdl (toC x).2.1 f,zdl (toC x).2.2 f)=true:=by
 obtain⟨a,b,c⟩:=zc1.1 h
 exact zc1.2 ⟨zib a f,zib b f,zib c f⟩
theorem yya{va off:Int}(h:U64 va)(o0:0≤off)(o1:off<64):bits .xor .u64 va off=((va.toNat ^^^ off.toNat:Nat):Int):=by
 obtain⟨h0,h1⟩:=h
 obtain⟨a,rfl⟩:=Int.eq_ofNat_of_zero_le h0
 obtain⟨b,rfl⟩:=Int.eq_ofNat_of_zero_le o0
 have ha:a<2 ^ 64:=by omega
 have hb:b<2 ^ 64:=by omega
 have hx:a ^^^ b<2 ^ 64:=Nat.xor_lt_two_pow ha hb
 unfold bits
 simp only
 rw[show (IntKind.u64).bits=64 from rfl,BitVec.toNat_xor]
 rw[show (BitVec.ofInt 64 (a:Int)).toNat=a by rw[BitVec.toNat_ofInt];omega]
 rw[show (BitVec.ofInt 64 (b:Int)).toNat=b by rw[BitVec.toNat_ofInt];omega]
 rw[zar (by omega) (by omega)]
 rfl
theorem yoo{va off:Int}(h:U64 va)(o0:0≤off)(o1:off<64):bits .xor .u64 va off/64=va/64:=by
 rw[yya h o0 o1]
 obtain⟨h0,h1⟩:=h
 have e:(va.toNat ^^^ off.toNat) >>> 6=va.toNat >>> 6:=by
  rw[Nat.shiftRight_xor_distrib]
  have:off.toNat >>> 6=0:=by rw[Nat.shiftRight_eq_div_pow];omega
  rw[this]
  exact Nat.xor_zero _
 rw[Nat.shiftRight_eq_div_pow,Nat.shiftRight_eq_div_pow] at e
 omega
theorem yxv{x y l:Int}(h:x/64=y/64)(hl:LvR l):zkk x l=zkk y l:=by
 unfold zkk
 rcases zcp hl with rfl|rfl|rfl
 · rw[show ((2:Int) ^ (6+3*0:Int).toNat)=64 by decide];omega
 · rw[show ((2:Int) ^ (6+3*1:Int).toNat)=512 by decide];omega
 · rw[show ((2:Int) ^ (6+3*2:Int).toNat)=4096 by decide];omega
theorem yxr{x y:Int}(h:x/64=y/64):zef x=zef y:=by
 unfold zef
 rw[show x/16384=y/16384 by omega]
end Go.Proofs.YtfiddfbagbaofaaGreat.V
