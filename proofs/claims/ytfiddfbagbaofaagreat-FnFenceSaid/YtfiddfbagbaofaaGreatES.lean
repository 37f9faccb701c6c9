/- Drawn caches, drawn insertions, and the law on a cache's life (seat G). Conditions: those in each statement. -/
import Derived.Test.YtfiddfbagbaofaaGreatER
import Derived.Test.YtfiddfbagbaofaaGreatV4
import Derived.KernelRfl
namespace Go.Proofs.YtfiddfbagbaofaaGreat.V
open Go
def kES:Known:=yvj++kY1++kB3++kA4
def TlK(t:Tl):Prop:=TlR t∧1≤t.2.2.length∧t.2.2.length≤1000
def rES1:List (FuncId × RelS):=[(111,ctx1),(114,warm1),(115,spoil1),(110,reach1)]++zu1
set_option linter.unusedVariables false
set_option maxRecDepth 10000
set_option linter.unusedSimpArgs false
set_option linter.unusedVariables false
set_option maxRecDepth 10000
set_option maxHeartbeats 2000000
theorem yvk:zay Tryz.prog kES:=((zpm.append zy4).append zdn).append zce
theorem yrt:zb7 Tryz.prog (Rels.of rES1):=zdq (by kernel_rfl) yqd <| zdq (by kernel_rfl) ynp <| zdq (by kernel_rfl) yhd <| zdq (by kernel_rfl) ygp ze3
theorem ha_by{h:Ha}(v:HaV h):zan h.1:=v.1.1
theorem ha_ch{h:Ha}(v:HaV h):ChV h.2.2.2.2.2.2.2.2.2.2.2.2:=⟨v.2.2.1,v.1.2.2.2.2.2.2.2.2.2.2.2⟩
theorem ysk{p:Bool}{t:Tl}(h:zaj p t=true)(g:TlR t):TlK t:=⟨g,(ze9 h).1,Nat.le_trans (ze9 h).2 (by decide)⟩
theorem ch_I{x:Cf}(h:ChV x):TlK (x.1,x.2.1,x.2.2.1):=ysk (zc1.1 h.1).1 h.2.1
theorem ch_D{x:Cf}(h:ChV x):TlK (x.2.2.2.1,x.2.2.2.2.1,x.2.2.2.2.2.1):=ysk (zc1.1 h.1).2.1 h.2.2.1
theorem ch_P{x:Cf}(h:ChV x):TlK (x.2.2.2.2.2.2.1,x.2.2.2.2.2.2.2.1,x.2.2.2.2.2.2.2.2):=ysk (zc1.1 h.1).2.2 h.2.2.2
theorem sp_tl{z t:Tl}(h:TlR z)(e:z.2.2.length=t.2.2.length)(k:TlK t):TlK z:=⟨h,by rw[e];exact k.2.1,by rw[e];exact k.2.2⟩
end Go.Proofs.YtfiddfbagbaofaaGreat.V
