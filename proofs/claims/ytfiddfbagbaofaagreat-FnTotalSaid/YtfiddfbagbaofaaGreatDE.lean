/- The hart of a decoded script is in order (seat G). Conditions: those in each statement. -/
import Derived.Test.YtfiddfbagbaofaaGreatEL
import Derived.Test.YtfiddfbagbaofaaGreatDC
namespace Go.Proofs.YtfiddfbagbaofaaGreat.V
open Go
def yrq(s:Sc):Ha:=(s.1,s.2.1,s.2.2.1,s.2.2.2.1,s.2.2.2.2.1,s.2.2.2.2.2.1,s.2.2.2.2.2.2.1,s.2.2.2.2.2.2.2.1,s.2.2.2.2.2.2.2.2.1,s.2.2.2.2.2.2.2.2.2.1,s.2.2.2.2.2.2.2.2.2.2.1,s.2.2.2.2.2.2.2.2.2.2.2.1,(s.2.2.2.2.2.2.2.2.2.2.2.2.1,s.2.2.2.2.2.2.2.2.2.2.2.2.2.1,s.2.2.2.2.2.2.2.2.2.2.2.2.2.2.1,s.2.2.2.2.2.2.2.2.2.2.2.2.2.2.2.1,s.2.2.2.2.2.2.2.2.2.2.2.2.2.2.2.2.1,s.2.2.2.2.2.2.2.2.2.2.2.2.2.2.2.2.2.1,s.2.2.2.2.2.2.2.2.2.2.2.2.2.2.2.2.2.2.1,s.2.2.2.2.2.2.2.2.2.2.2.2.2.2.2.2.2.2.2.1,s.2.2.2.2.2.2.2.2.2.2.2.2.2.2.2.2.2.2.2.2.1))
def ya3(s:Sc):List Int:=s.2.2.2.2.2.2.2.2.2.2.2.2.2.2.2.2.2.2.2.2.2
set_option linter.unusedSimpArgs false
set_option linter.unusedVariables false
set_option maxRecDepth 4000
theorem zpd(y:Int):zcw (zaf y).1 (zaf y).2.1 (zaf y).2.2=true:=by
 have h4:y % 4=0∨y % 4=1∨y % 4=2∨y % 4=3:=by omega
 have h5:1≤1+y/4 % 4∧1+y/4 % 4≤4:=by omega
 show zcw (2 ^ (y % 4).toNat) (1+y/4 % 4) (List.replicate (zac y) zE)=true
 unfold zcw zac
 generalize 1+y/4 % 4=w at h5
 simp only[Bool.and_eq_true,Bool.or_eq_true,beq_iff_eq,decide_eq_true_eq,List.length_replicate]
 rcases h4 with e|e|e|e<;>rw[e]<;>refine⟨⟨⟨by decide,h5.1⟩,h5.2⟩, ?_⟩
 · show (((1:Int)*w).toNat:Int)=1*w;omega
 · show (((2:Int)*w).toNat:Int)=2*w;omega
 · show (((4:Int)*w).toNat:Int)=4*w;omega
 · show (((8:Int)*w).toNat:Int)=8*w;omega
theorem zjb(p:Bool)(y:Int):zat p (zaf y)=true:=by
 unfold zat
 rw[Bool.and_eq_true]
 refine⟨zpd y,zct.2 (fun i hi => ?_)⟩
 have:(zaf y).2.2.getD i zE=zE:=by
  show (List.replicate (zac y) zE).getD i zE=zE
  rw[List.getD_eq_getElem?_getD,List.getElem?_replicate]
  split<;>rfl
 rw[this]
 exact yw1 ..
theorem zqr(y:Int):TlR (zaf y):=by
 have h:=zfi (zjb true y)
 have hd:=zpd y
 obtain⟨hs,w1,w4,hl⟩:=zio hd
 refine⟨?_, ?_,Nat.le_trans h.2 (by decide),fun e he => ?_⟩
 · rcases hs with e|e|e|e<;>(unfold I64;rw[e];omega)
 · unfold I64;omega
 · rw[List.eq_of_mem_replicate he]
   exact⟨yd8,zj5,zj5,zj5⟩
theorem yun(b:By)(h:zaj b):0≤za4 b∧za4 b≤2:=by
 have:=zb2 h 4
 unfold za4
 split<;>omega
theorem yft{b:By}(h:zaj b):HaV (yrq (zhx b))∧(∀p ∈ ya3 (zhx b),0≤p∧p≤255)∧(ya3 (zhx b)).length≤20000:=by
 obtain⟨d1,d2,d3⟩:=zqo h
 obtain⟨m0,m2⟩:=yun b h
 have hmI:I64 (za4 b):=by unfold I64;omega
 have hr:∀r ∈ zbw b 8,U64 r:=by
  intro r hr
  obtain⟨j,hj,rfl⟩:=List.mem_map.1 hr
  split
  · exact zef h _ (by decide)
  · exact zj5
 have hs:U64 (zbo b):=by
  unfold zbo
  split
  · exact zef h _ (by decide)
  · exact zj5
 have ht:U64 (zbv b):=by
  obtain⟨a,c⟩:=zef h 15 (k:=8) (by decide)
  unfold zbv U64
  omega
 refine⟨⟨⟨d3,(by show (zbw b 8).length≤2097152;rw[zdj];decide),hr,zef h 7 (by decide),hmI,hs,ht,zj5,hmI,yd8,zj5,zqr _,zqr _,zqr _⟩,zdj b 8,zdo.2 ⟨zjb _ _,zjb _ _,zjb _ _⟩,⟨m0,m2⟩,⟨m0,m2⟩⟩,fun p hp => ?_, ?_⟩
 · have:=zll h _ _ p hp
   omega
 · show (zax b (zi9 b).1 (dN b).toNat).length≤20000
   rw[zbk]
   unfold dN
   omega
theorem yyb(b:By):(yrq (zhx b)).2.1.getD 0 0=0:=rfl
end Go.Proofs.YtfiddfbagbaofaaGreat.V
