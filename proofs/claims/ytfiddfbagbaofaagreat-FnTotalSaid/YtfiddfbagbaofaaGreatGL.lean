/- The program's walk answers as the model. Conditions: those in each statement. -/
import Derived.Test.YtfiddfbagbaofaaGreatGK
import Derived.KernelRfl
namespace Go.Proofs.YtfiddfbagbaofaaGreat.V
open Go
def rcA(r:Rc):List Av:=[.v (.int .i64 r.1),.v (.int .u64 r.2.1),.v (.int .u64 r.2.2)]
def errA(k:Nat)(W:Wr):Av:=match k with|0 => .v .nilIface|1 => .ifc 256 (.agg [.v (.int .i64 W.2.1)])|_ => .ifc 200 (.agg [.v (.int .i64 W.2.1)])
def zwz(k:Nat)(W:Wr):Prop:=match k with|0=>W.1=1|1=>W.1=3|_=>W.1=2
def yrm(k:Nat)(W:Wr):Av := .tup [.v (.int .u64 W.2.2.1),.v (.int .i64 W.2.1),errA k W]
set_option linter.unusedVariables false
set_option linter.unusedSimpArgs false
theorem zsx{p va l:Int}(hl:LvR l)(hv:U64 va)(h0:0≤p)(h1:p<17592186044416):IntKind.u64.wrap (IntKind.u64.wrap (p*2 ^ min (Int.toNat 6) 64)+IntKind.u64.wrap (bits .and .u64 (va/2 ^ min (IntKind.i64.wrap (6+IntKind.i64.wrap (3*l))).toNat 64) 7*2 ^ min (Int.toNat 3) 64))=64*p+8*zeq va l∧0≤IntKind.i64.wrap (6+IntKind.i64.wrap (3*l)):=by
 have e6:(2:Int) ^ min (Int.toNat 6) 64=64:=by decide
 have e3:(2:Int) ^ min (Int.toNat 3) 64=8:=by decide
 have key:∀n:Nat,bits .and .u64 (va/2 ^ n) 7=va/2 ^ n % 8:=fun n=>zcg 3 7 8 (by decide) (by decide) (by decide) (zgj n hv).1 (zgj n hv).2
 have hi:=ztl va l
 have hx:bits .and .u64 (va/2 ^ min (IntKind.i64.wrap (6+IntKind.i64.wrap (3*l))).toNat 64) 7=zeq va l:=by
  rw[key]
  rcases zcn hl with rfl|rfl|rfl<;>rfl
 rw[e6,e3,hx,zah (n:=p*64) (by omega) (by omega),zah (n:=zeq va l*8) (by omega) (by omega),zah (by omega) (by omega)]
 refine⟨by omega, ?_⟩
 rcases zcn hl with rfl|rfl|rfl<;>decide
theorem zb5(m:By)(va:Int):∀(n:Nat)(p:Int),(za6 m va n p).1=1∨(za6 m va n p).1=3∨(za6 m va n p).1=2
 | 0,_ => .inr (.inr rfl)
 | n+1,p=>by
  unfold za6
  split
  · exact .inr (.inl rfl)
  · split
    · exact .inr (.inr rfl)
    · split
      · exact .inl rfl
      · exact zb5 m va n _
end Go.Proofs.YtfiddfbagbaofaaGreat.V
