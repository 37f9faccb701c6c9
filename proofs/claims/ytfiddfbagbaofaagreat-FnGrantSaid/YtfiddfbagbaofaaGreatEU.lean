/- What a translation with caches comes to: the plain one where nothing fits; what is found after it (seat G). Conditions: those in each statement. -/
import Derived.Test.YtfiddfbagbaofaaGreatEE
import Derived.Test.YtfiddfbagbaofaaGreatEL
namespace Go.Proofs.YtfiddfbagbaofaaGreat.V
open Go
def yt7(va asid:Int)(m:Es):Prop:=∀i,i<m.length→zc0 (m.getD i zE) va asid=false
set_option linter.unusedSimpArgs false
theorem zlu{va asid:Int}{m:Es}:∀n:Nat,(zdk va asid m n).1=false→∀i,i<n→zc0 (m.getD i zE) va asid=false
 | 0,_,i,hi=>absurd hi (Nat.not_lt_zero _)
 | n+1,h,i,hi=>by
  have e:zdk va asid m (n+1)=zcv va asid (zdk va asid m n) n (m.getD n zE):=rfl
  rw[e] at h
  unfold zcv at h
  split at h
  · cases h
  · rename_i c
    rcases Nat.lt_or_ge i n with q|q
    · exact zlu n h i q
    · have:i=n:=by omega
      subst this
      cases hf:zc0 (m.getD i zE) va asid with
      | false=>rfl
      | true=>exact absurd (by rw[hf,h];rfl) c
theorem zn5{va asid:Int}{m:Es}(h:(zau va asid m).1=false):yt7 va asid m:=zlu _ h
theorem yd0(e:Nat)(kind:Int):zbd e kind≠63:=by
 unfold zbd afM pfM
 split
 · decide
 · split
   · split
     · decide
     · split<;>decide
   · split
     · decide
     · split<;>decide
theorem ysc{m:By}{c:Ct}{x:Cf}{kind va pick:Int}(h:(zgc m c x kind va pick).1≠63):okT c (toC x) kind pick=true:=by
 unfold zgc zos at h
 cases ho:okT c (toC x) kind pick with
 | true=>rfl
 | false=>rw[if_neg (by rw[ho];decide)] at h;exact absurd rfl h
theorem ymf{m:By}{c:Ct}{x:Cf}{kind va pick:Int}(h:(zgc m c x kind va pick).1=63):(zgc m c x kind va pick).2.2=ofC zC:=by
 unfold zgc zos at *
 split at h
 · exact absurd h (yd0 _ _)
 · rename_i hn
   rw[if_neg hn]
theorem ysd{m:By}{c:Ct}{x:Cf}{kind va pick:Int}(h:okT c (toC x) kind pick=true):zgc m c x kind va pick=(zbd (trM m c (toC x) kind va pick).1 kind,(trM m c (toC x) kind va pick).2.1,ofC (trM m c (toC x) kind va pick).2.2.2):=by
 unfold zgc zos
 rw[if_pos h]
theorem ykj{p:Bool}{t:Tl}{e:En}{va asid pick:Int}(hv:zaj p t=true)(he:zcd p e=true)(h0:0≤e.2.2.1)(p0:0≤pick)(hn:yt7 va asid t.2.2)(hf:zc0 e va asid=true) :
 ∃i:Int,zau va asid (zed t e pick).2.2=(true,i,e.2.1,e.2.2.2.2.2):=by
 obtain⟨s,w,m⟩:=t
 have hd:=zb2 hv
 obtain⟨hs,w1,w4,hl⟩:=zfr hd
 have hc:=zky he
 obtain⟨f0,f1⟩:=zjq (s:=s) (w:=w) (by omega) w1 h0 hc
 obtain⟨y0,y1⟩:=yjk (m:=m) (s:=s) (w:=w) (c:=e.2.2.1) (p:=pick) w1 p0
 show ∃i:Int,zau va asid (zgt m s w e pick)=_
 unfold zgt
 have hk:(zcj s w e.2.2.1+zq6 m s w e.2.2.1 pick).toNat<m.length:=by omega
 generalize (zcj s w e.2.2.1+zq6 m s w e.2.2.1 pick).toNat=k at hk
 cases hfd:(zau va asid (m.set k e)).1 with
 | false =>
  have:=zn5 hfd k (by rw[List.length_set];exact hk)
  rw[zkx,if_pos ⟨rfl,hk⟩,hf] at this
  cases this
 | true =>
  obtain⟨i,hi,g1,g2⟩:=zr0 hfd
  rw[List.length_set] at hi
  rw[g2]
  rw[zkx] at g1 ⊢
  split at g1
  · rename_i c
    rw[if_pos c]
    exact⟨_,rfl⟩
  · rw[hn i hi] at g1
    cases g1
theorem ykk{l va satp p:Int}:zc0 (zbo l va satp p) va (zav satp)=true:=by
 unfold zc0 zbo
 simp
theorem yaz{k:Cch}(h:zb5 k=true)(kind:Int):zaj false (zb4 kind k)=true:=by
 obtain⟨a,b,_⟩:=zc1.1 h
 unfold zb4
 split
 · exact a
 · exact b
theorem yv5{k:Cch}(h:ChR k)(kind:Int):TlR (zb4 kind k):=by
 unfold zb4
 split
 · exact h.1
 · exact h.2.1
theorem ylo(kind:Int)(k:Cch)(t:Tl):zb4 kind (zmo kind k t)=t:=by
 unfold zb4 zmo
 split<;>rename_i h<;>simp[h]
theorem ymg{m:By}{c:Ct}{k:Cch}{kind va pick:Int}(hm:zan m)(hva:U64 va)(ho:onM c=true)(g:zb5 k=true)(r:ChR k)(p0:0≤pick)(h0:(trM m c k kind va pick).1=0) :
 (zau va (zav c.2.2.2) (zb4 kind (trM m c k kind va pick).2.2.2).2.2).1=true ∧
 za3 (zau va (zav c.2.2.2) (zb4 kind (trM m c k kind va pick).2.2.2).2.2).2.2.2 kind c.1 c.2.1 c.2.2.1=true ∧
 LvR (zau va (zav c.2.2.2) (zb4 kind (trM m c k kind va pick).2.2.2).2.2).2.2.1∧U64 (zau va (zav c.2.2.2) (zb4 kind (trM m c k kind va pick).2.2.2).2.2).2.2.2 ∧
 (trM m c k kind va pick).2.1=zcg (zau va (zav c.2.2.2) (zb4 kind (trM m c k kind va pick).2.2.2).2.2).2.2.2 (zau va (zav c.2.2.2) (zb4 kind (trM m c k kind va pick).2.2.2).2.2).2.2.1 va:=by
 have hv:=yaz g kind
 have hc:zef va=true:=by
  cases hc:zef va with
  | true=>rfl
  | false =>
   exfalso
   have e:trM m c k kind va pick=(2,0,2,k):=by unfold trM;rw[ho,hc];rfl
   rw[e] at h0
   exact absurd (show (2:Nat)=0 from h0) (by decide)
 have e1:trM m c k kind va pick=if (zau va (zav c.2.2.2) (zb4 kind k).2.2).1=true then yal (zau va (zav c.2.2.2) (zb4 kind k).2.2) c k kind va else ziv m c k kind va pick:=by
  unfold trM
  rw[ho,hc]
  simp only[Bool.true_eq_false,if_false]
 cases hf:(zau va (zav c.2.2.2) (zb4 kind k).2.2).1 with
 | true =>
  rw[if_pos hf] at e1
  obtain⟨q1,q2,q3⟩:=zdm hv (yv5 r kind) hf
  unfold yal at e1
  cases hg:za3 (zau va (zav c.2.2.2) (zb4 kind k).2.2).2.2.2 kind c.1 c.2.1 c.2.2.1 with
  | true =>
   rw[if_pos hg] at e1
   rw[e1]
   exact⟨hf,hg,q1,q2,rfl⟩
  | false =>
   rw[if_neg (by rw[hg];decide)] at e1
   rw[e1] at h0
   exact absurd (show (2:Nat)=0 from h0) (by decide)
 | false =>
  rw[if_neg (by rw[hf];decide)] at e1
  unfold ziv at e1
  obtain⟨_,_,g3⟩:=zc1.1 g
  have hst:=zd3 (satp:=c.2.2.2) hm hva g3 r.2.2
  have hw:=fun q=>zbu (va:=va) hm ((zao c.2.2.2 va k.2.2).2+1).toNat (zao c.2.2.2 va k.2.2).1 q
  have hkd:=zdz (m:=m) (va:=va) ((zao c.2.2.2 va k.2.2).2+1).toNat (zao c.2.2.2 va k.2.2).1
  have hl3:((zao c.2.2.2 va k.2.2).2+1).toNat≤3:=by have:=hst.2.2.2.1.2;omega
  generalize za6 m va ((zao c.2.2.2 va k.2.2).2+1).toNat (zao c.2.2.2 va k.2.2).1=W at *
  unfold zgg at e1
  by_cases h1:W.1=1
  · rw[if_pos h1] at e1
    cases hg:za3 W.2.2.1 kind c.1 c.2.1 c.2.2.1 with
    | true =>
     rw[if_pos hg] at e1
     obtain⟨w1,w2,w3⟩:=hw h1
     have hl:LvR W.2.1:=⟨w2,by omega⟩
     have hpk:∀P':Tl,zb4 kind (k.1,k.2.1,P')=zb4 kind k:=fun P'=>by unfold zb4;rfl
     obtain⟨i,e⟩:=ykj (p:=false) (pick:=pick) (va:=va) (asid:=zav c.2.2.2) (t:=zb4 kind k) (e:=zbo W.2.1 va c.2.2.2 W.2.2.1) hv (zem hl (hkd h1)) (zvw hl) p0 (zn5 hf) ykk
     rw[e1]
     simp only[ylo,hpk]
     rw[e]
     exact⟨rfl,hg,hl,w1,rfl⟩
    | false =>
     rw[if_neg (by rw[hg];decide)] at e1
     rw[e1] at h0
     exact absurd (show (2:Nat)=0 from h0) (by decide)
  · rw[if_neg h1] at e1
    by_cases h3:W.1=3
    · rw[if_pos h3] at e1
      rw[e1] at h0
      exact absurd (show (1:Nat)=0 from h0) (by decide)
    · rw[if_neg h3] at e1
      rw[e1] at h0
      exact absurd (show (2:Nat)=0 from h0) (by decide)
end Go.Proofs.YtfiddfbagbaofaaGreat.V
