/- Draws with rows among their arguments (seat G). Conditions: those in each statement. -/
import Derived.Test.YtfiddfbagbaofaaGreatEM
import Derived.Test.YtfiddfbagbaofaaGreatV4
namespace Go.Proofs.YtfiddfbagbaofaaGreat.V
open Go
def zkh(As Rs:List Pm)(d:PmT Rs)(req:PmT As→Prop)(kind:PmT As→PmT Rs→Prop):RelS where
 β:=PmT Rs × Int × Int
 d:=(d,0,0)
 S z:=fun args H=>match args,H with
  | .ptr 0 0::av,.fix [.sl 1 1 0 k,.v (.int .i64 i),.v (.int .i64 h)] true (some 244) :: .arr sh m false::rest=>(match zkg (([Blk.fix [.sl 1 1 0 k,.v (.int .i64 i),.v (.int .i64 h)] true (some 244),Blk.arr sh m false]++rest).map rwB) As av 2 with
   | some (ps,x,n)=>if e:sh=[.i .u8] then (if n=rest.length+2 then some (some (zkq (ps++[k=(e ▸ m:List (El [.i .u8])).length∧zbe (e ▸ m:List (El [.i .u8])) i∧req x])),(zfb true Rs z.1 n).1,zff (e ▸ m:List (El [.i .u8])) z.2.1 z.2.2++rest++(zfb true Rs z.1 n).2) else none) else none
   | none=>none)
  | _,_=>none
 Q z:=fun args H=>match args,H with
  | _::av,c :: .arr sh m o::rest=>(match zkg (([c,Blk.arr sh m o]++rest).map rwB) As av 2 with
   | some (_,x,_)=>if e:sh=[.i .u8] then zbe (e ▸ m:List (El [.i .u8])) z.2.1∧kind x z.1 else False
   | none=>False)
  | _,_=>False
set_option linter.unusedSimpArgs false
set_option linter.unusedVariables false
theorem zhm{f:FuncId}{fn:Func}(hf:Tryz.prog.funcs[f]? = some fn)(hb:fn.body=some (zat fn)){As Rs:List Pm}{d:PmT Rs}{req:PmT As→Prop}{kind:PmT As→PmT Rs→Prop}{D:Dict}(hD:DictOk Tryz.prog D){R:Rels}(hR:zb7 Tryz.prog R)
 (h:∀(m:By)(i hh:Int)(x:PmT As),zbe m i→req x→∃Ξ:SpecW,(∀b ∈ zak (zat fn),∀k L,zbh b=some k→Ξ.loop k=some L→zb3 Tryz.prog ((zap false As x 2).2.length+2) b L)∧vcR Tryz.prog D R Ξ fn (zkh As Rs d req kind) (.ptr 0 0::(zap false As x 2).1) (zff m i hh++(zap false As x 2).2)):zcm Tryz.prog f (zkh As Rs d req kind):=by
 intro args H p v H' hs hp ρ vs w hw
 unfold zkh at hs
 simp only at hs
 split at hs
 case h_2=>cases hs
 rename_i av k i hh sh m rest
 split at hs
 case h_2=>cases hs
 rename_i ps x n hd
 split at hs
 case isFalse=>cases hs
 rename_i hsh
 subst hsh
 split at hs
 case isFalse=>cases hs
 rename_i hn
 simp only[Option.some.injEq,Prod.mk.injEq] at hs
 obtain⟨rfl, -, -⟩:=hs
 have hp':=zbp.1 (show zkq (ps++[k=m.length∧zbe m i∧req x]) from hp)
 obtain⟨rfl,hc,hx⟩:k=m.length∧zbe m i∧req x:=hp' _ (by simp)
 obtain⟨e1,e2⟩:=ylw hd (fun q hq=>hp' q (by simp[hq])) (by simp[hn])
 obtain⟨Ξ,hL,hvc⟩:=h m i hh x hc hx
 have hlen:rest.length=(zap false As x 2).2.length:=by rw[← e2,List.length_map]
 rw[← e1, ← e2] at hvc
 have e4:(rest.map roB).map rwB=rest.map rwB:=by
  rw[List.map_map]
  exact List.map_congr_left (fun b _=>rw_ro b)
 have hlow:=zy8 (zff m i hh) rest
 have run:=zs7 mixed hf hb hD hR (Ξ:=Ξ) (H:=zff m i hh++rest.map roB) (by
  have:(zff m i hh++rest.map roB).length=(zap false As x 2).2.length+2:=by rw[hlow.1];simp[zff,hlen]
  rw[this];exact hL) hvc ρ vs w (fun ρ' hag=>by
   rw[hlow.1] at hag
   obtain⟨a,b⟩:=hw ρ' hag
   exact⟨a,hlow.rel b⟩)
 refine run.mono ?_
 rintro e w' ⟨z,p',v',H2,s1,q1,e3⟩
 have hd0:zkg ((zff m i hh++rest.map roB).map rwB) As av 2=some (ps,x,n):=by
  rw[List.map_append,e4, ← List.map_append]
  exact hd
 have hn0:n=(rest.map roB).length+2:=by rw[List.length_map];exact hn
 unfold zkh at s1 q1
 simp only[zff,zll,List.cons_append,List.nil_append] at s1 q1 hd0 hd
 rw[hd0] at s1 q1
 simp only[dif_pos,if_pos hn0,Option.some.injEq,Prod.mk.injEq] at s1 q1
 obtain⟨-,rfl,rfl⟩:=s1
 have e5:zfb true Rs z.1 n=zfb true Rs z.1 n:=rfl
 refine⟨z,some (zkq (ps++[m.length=m.length∧zbe m i∧req x])),(zfb true Rs z.1 n).1,zff m z.2.1 z.2.2++rest++(zfb true Rs z.1 n).2, ?_, ?_,ycw rfl ⟨rfl,rfl⟩ (fun ρ' hag=>(hw ρ' hag).2) e3⟩
 · unfold zkh
   simp only[List.cons_append,List.nil_append]
   rw[hd]
   simp only[dif_pos,if_pos hn]
 · unfold zkh
   simp only[List.cons_append,List.nil_append]
   rw[hd]
   exact q1
end Go.Proofs.YtfiddfbagbaofaaGreat.V
