/- The small functions on bits answer as their models. Conditions: those in each statement. -/
import Derived.Test.YtfiddfbagbaofaaGreatProg
import Derived.Test.YtfiddfbagbaofaaGreatV3
import Derived.KernelRfl
namespace Go.Proofs.YtfiddfbagbaofaaGreat.V
open Go
abbrev u64:Pm := .one (.i .u64)
abbrev i64:Pm := .one (.i .i64)
abbrev bl:Pm := .one .b
abbrev zg4:Pm := .st [.i .i64,.b,.b,.i .u64]
def U64(x:Int):Prop:=0≤x∧x<18446744073709551616
def I64(x:Int):Prop := -9223372036854775808≤x∧x<9223372036854775808
def LvR(l:Int):Prop:=0≤l∧l≤2
abbrev Known:=List (FuncId × Sum)
def pw(n:Int):Int:=if n≤0 then 1 else 2 ^ n.toNat % 18446744073709551616
def zes(x i j:Int):Int:=x/2 ^ i.toNat % 2 ^ (j-i+1).toNat
def zim(t:Int × Int × Int):Prop:=U64 t.1∧0≤t.2.1∧t.2.1≤t.2.2∧t.2.2≤63∧(0<t.2.1∨t.2.2<63)
def za0(x i:Int):Bool:=x/2 ^ i.toNat % 2==1
def zi3(t:Int × Int):Prop:=U64 t.1∧0≤t.2∧t.2≤62
def zcl(p:Int):Int:=p/1024 % 17592186044416
def zen(va:Int):Bool:=va/16384==0||va/16384==1125899906842623
def lvM(l:Int):Bool:=decide (0≤l)&&decide (l≤2)
def za7(p l:Int):Int :=
 if (!lvM l || !za0 p 0||p/18014398509481984 != 0||(za0 p 2 && !za0 p 1))=true then 0
 else if (!za0 p 1 && !za0 p 3)=true then (if (l==0||za0 p 4||za0 p 6||za0 p 7)=true then 0 else 1)
 else if zcl p % 2 ^ (3*l).toNat=0 then 2 else 0
def yq7(p kind:Int)(mxr:Bool):Bool:=if kind=0 then za0 p 3 else if kind=1 then (za0 p 1||(za0 p 3&&mxr)) else if kind=2 then (za0 p 2&&za0 p 7) else false
def ywy(p kind mode:Int)(sum:Bool):Bool:=if mode=0 then za0 p 4 else if mode=1 then (!za0 p 4||(kind != 0&&sum)) else false
def za5(p kind mode:Int)(sum mxr:Bool):Bool:=yq7 p kind mxr&&ywy p kind mode sum&&za0 p 6
def zck(p l va:Int):Int:=if lvM l=true then zcl p*64/2 ^ (6+3*l).toNat*2 ^ (6+3*l).toNat+va % 2 ^ (6+3*l).toNat else 0
def zj4(va l:Int):Int:=va % 32768/2 ^ (6+3*l).toNat
def onM(c:Int × Bool × Bool × Int):Bool:=c.2.2.2/1152921504606846976==8&&(c.1==0||c.1==1)
def zba(satp:Int):Int:=satp/17592186044416 % 65536
def zl8(c:Int × Bool × Bool × Int)(kind:Int):Bool:=decide (0≤kind)&&decide (kind≤2)&&decide (0≤c.1)&&decide (c.1≤2)
def zeq(va l:Int):Int:=va/2 ^ (6+3*l).toNat % 8
def pfM(kind:Int):Int:=if kind=0 then 12 else if kind=1 then 13 else 15
def afM(kind:Int):Int:=if kind=0 then 1 else if kind=1 then 5 else 7
def zfe(x:Int):Int:=x % 17592186044416
def powS(k:Nat):Sum:=zai [i64] [u64] (fun n=>some (n≤64∧n.toNat<k)) pw
def yar1(k:Nat)(n:Int):Prop:=zal Tryz.prog (mkD [(88,powS k)] [] []) .none Tryz.f88 [i64] [u64] n (pw n)
def F0:Dict:=mkD [] [] []
def ywg(x i:Int):Prop:=zal Tryz.prog F0 .none Tryz.f174 [u64,i64] [bl] (x,i) (za0 x i)
def ywl(x:Int):Prop:=zal Tryz.prog F0 .none Tryz.f196 [u64] [u64] x (zcl x)
def zuz(x:Int):Prop:=zal Tryz.prog F0 .none Tryz.f217 [i64] [bl] x (lvM x)
def ykm(x:Int):Prop:=zal Tryz.prog F0 .none Tryz.f136 [u64] [bl] x (zen x)
def zy0(x:Int):Prop:=zal Tryz.prog F0 .none Tryz.f138 [u64] [u64] x (zfe x)
def vc_on(m:Int)(s x:Bool)(t:Int):Prop:=zal Tryz.prog F0 .none Tryz.f135 [zg4] [bl] (m,s,x,t) (onM (m,s,x,t))
def yv2(m:Int)(s x:Bool)(t:Int):Prop:=zal Tryz.prog F0 .none Tryz.f171 [zg4] [u64] (m,s,x,t) (zba t)
def yaw1(x l:Int):Prop:=zal Tryz.prog F0 .none Tryz.f170 [u64,i64] [u64] (x,l) (zj4 x l)
def yda(m:Int)(s x:Bool)(t k:Int):Prop:=zal Tryz.prog F0 .none Tryz.f130 [zg4,i64] [bl] ((m,s,x,t),k) (zl8 (m,s,x,t) k)
def vc_pf(k:Int):Prop:=zal Tryz.prog F0 .none Tryz.f121 [i64] [i64] k (pfM k)
def vc_af(k:Int):Prop:=zal Tryz.prog F0 .none Tryz.f194 [i64] [i64] k (afM k)
def kA1:Known:=[
 (88,zai [i64] [u64] (fun n=>some (n≤64)) pw),
 (174,zai [u64,i64] [bl] (fun t=>some (zi3 t)) (fun t=>za0 t.1 t.2)),
 (196,zai [u64] [u64] (fun x=>some (U64 x)) zcl),
 (217,zai [i64] [bl] (fun _=>none) lvM),
 (136,zai [u64] [bl] (fun x=>some (U64 x)) zen),
 (138,zai [u64] [u64] (fun x=>some (U64 x)) zfe),
 (135,zai [zg4] [bl] (fun c=>some (U64 c.2.2.2)) onM),
 (171,zai [zg4] [u64] (fun c=>some (U64 c.2.2.2)) (fun c=>zba c.2.2.2)),
 (170,zai [u64,i64] [u64] (fun t=>some (U64 t.1∧LvR t.2)) (fun t=>zj4 t.1 t.2)),
 (130,zai [zg4,i64] [bl] (fun _=>none) (fun t=>zl8 t.1 t.2)),
 (121,zai [i64] [i64] (fun _=>none) pfM),
 (194,zai [i64] [i64] (fun _=>none) afM)]
def F1:Dict:=mkD kA1 [] []
def yv3(x i j:Int):Prop:=zal Tryz.prog F1 .none Tryz.f99 [u64,i64,i64] [u64] (x,i,j) (zes x i j)
def yzc(p l:Int):Specs:={ Specs.none with cond:=fun i=>if i=2 then some { β:=Bool,sl:=fun z=>slots 54 [(0,.v (.int .u64 p)),(1,.v (.int .i64 l)),(5,.v (.bool z))],H:=fun _=>[] } else none }
def ywh(p l:Int):Prop:=zal Tryz.prog F1 (yzc p l) Tryz.f173 [u64,i64] [i64] (p,l) (za7 p l)
def ygj(p k m:Int)(s x:Bool)(t:Int):Specs:={ Specs.none with blk:=fun i=>some { β:=Bool,sl:=fun z=>slots 63 (if i=0 then [(0,.v (.int .u64 p)),(1,.v (.int .i64 k)),(5,.ptr 0 0),(7,.v (.bool z))] else [(0,.v (.int .u64 p)),(7,.v (.bool z))]),H:=fun _=>if i=0 then [.fix [.v (.int .i64 m),.v (.bool s),.v (.bool x),.v (.int .u64 t)] true none] else [] } }
def ykg(p k m:Int)(s x:Bool)(t:Int):Prop:=zal Tryz.prog F1 (ygj p k m s x t) Tryz.f140 [u64,i64,zg4] [bl] (p,k,m,s,x,t) (za5 p k m s x)
def zyx(p l va:Int):Prop:=zal Tryz.prog F1 .none Tryz.f141 [u64,i64,u64] [u64] (p,l,va) (zck p l va)
def kA2:Known:=[
 (99,zai [u64,i64,i64] [u64] (fun t=>some (zim t)) (fun t=>zes t.1 t.2.1 t.2.2)),
 (173,zai [u64,i64] [i64] (fun t=>some (U64 t.1)) (fun t=>za7 t.1 t.2)),
 (140,zai [u64,i64,zg4] [bl] (fun t=>some (U64 t.1)) (fun t=>za5 t.1 t.2.1 t.2.2.1 t.2.2.2.1 t.2.2.2.2.1)),
 (141,zai [u64,i64,u64] [u64] (fun t=>some (U64 t.1∧LvR t.2.1∧U64 t.2.2)) (fun t=>zck t.1 t.2.1 t.2.2))]++kA1
def F2:Dict:=mkD kA2 [] []
def yal1(x i:Int):Prop:=zal Tryz.prog F2 .none Tryz.f134 [u64,i64] [bl] (x,i) (za0 x i)
def yas1(x:Int):Prop:=zal Tryz.prog F2 .none Tryz.f126 [u64] [u64] x (zcl x)
def yk8(x:Int):Prop:=zal Tryz.prog F2 .none Tryz.f28 [u64] [bl] x (zen x)
def yo1(x l:Int):Prop:=zal Tryz.prog F2 .none Tryz.f191 [u64,i64] [u64] (x,l) (zeq x l)
def yav1(m:Int)(s x:Bool)(t:Int):Prop:=zal Tryz.prog F2 .none Tryz.f112 [zg4] [bl] (m,s,x,t) (onM (m,s,x,t))
def ype(t:Int):Prop:=zal Tryz.prog F2 .none Tryz.f122 [u64] [u64] t (zba t)
def ywq(x l:Int):Prop:=zal Tryz.prog F2 .none Tryz.f164 [u64,i64] [u64] (x,l) (zj4 x l)
def kA3:Known:=[
 (134,zai [u64,i64] [bl] (fun t=>some (zi3 t)) (fun t=>za0 t.1 t.2)),
 (126,zai [u64] [u64] (fun x=>some (U64 x)) zcl),
 (28,zai [u64] [bl] (fun x=>some (U64 x)) zen),
 (191,zai [u64,i64] [u64] (fun t=>some (U64 t.1∧LvR t.2)) (fun t=>zeq t.1 t.2)),
 (112,zai [zg4] [bl] (fun c=>some (U64 c.2.2.2)) onM),
 (122,zai [u64] [u64] (fun x=>some (U64 x)) zba),
 (164,zai [u64,i64] [u64] (fun t=>some (U64 t.1∧LvR t.2)) (fun t=>zj4 t.1 t.2))]++kA2
def F3:Dict:=mkD kA3 [] []
def ypi(p l:Int):Prop:=zal Tryz.prog F3 .joins Tryz.f127 [u64,i64] [i64] (p,l) (za7 p l)
def yi4(p k m:Int)(s x:Bool)(i:Nat):Option CutS :=
 if i=9∨i=11∨i=13 then some (CutS.mk Bool (fun z=>slots 70 [(0,.v (.int .u64 p)),(1,.v (.int .i64 k)),(2,.v (.int .i64 m)),(3,.v (.bool s)),(4,.v (.bool x)),(11,.v (.bool (za0 p 1))),(12,.v (.bool (za0 p 2))),(13,.v (.bool (za0 p 3))),(14,.v (.bool (za0 p 4))),(15,.v (.bool (za0 p 6))),(16,.v (.bool (za0 p 7))),(17,.v (.bool z))]) (fun _=>[]))
 else if i=16∨i=18 then some (CutS.mk (Bool × Bool) (fun z=>slots 70 [(1,.v (.int .i64 k)),(2,.v (.int .i64 m)),(3,.v (.bool s)),(14,.v (.bool (za0 p 4))),(15,.v (.bool (za0 p 6))),(17,.v (.bool z.1)),(18,.v (.bool z.2))]) (fun _=>[]))
 else none
def zug(p k m:Int)(s x:Bool):Specs:={ Specs.none with cond:=yi4 p k m s x }
def zy9(p k m:Int)(s x:Bool):Prop:=zal Tryz.prog F3 (zug p k m s x) Tryz.f43 [u64,i64,i64,bl,bl] [bl] (p,k,m,s,x) (za5 p k m s x)
def ypm(p l va:Int):Prop:=zal Tryz.prog F3 .none Tryz.f44 [u64,i64,u64] [u64] (p,l,va) (zck p l va)
def kA4:Known:=[
 (127,zai [u64,i64] [i64] (fun t=>some (U64 t.1)) (fun t=>za7 t.1 t.2)),
 (43,zai [u64,i64,i64,bl,bl] [bl] (fun t=>some (U64 t.1)) (fun t=>za5 t.1 t.2.1 t.2.2.1 t.2.2.2.1 t.2.2.2.2)),
 (44,zai [u64,i64,u64] [u64] (fun t=>some (U64 t.1∧U64 t.2.2)) (fun t=>zck t.1 t.2.1 t.2.2))]++kA3
set_option linter.unusedVariables false
theorem yk2(k:Nat)(n:Int):yar1 k n=(
 (decide (n≤(0:Int))=true→pw n=(1:Int)) ∧
   (decide (n≤(0:Int))=false →
     (IntKind.i64.wrap (n-(1:Int))≤(64:PmT [i64])∧(IntKind.i64.wrap (n-(1:Int))).toNat<k)∧pw n=IntKind.u64.wrap ((2:Int)*pw (IntKind.i64.wrap (n-(1:Int)))))):=by kernel_rfl
theorem ydb(x i:Int):ywg x i=(
 (0:Int)≤i∧za0 x i=(bits BinOp.and IntKind.u64 (x/(2:Int) ^ min i.toNat (64:Nat)) (1:Int)==(1:Int))):=by kernel_rfl
theorem ydo(x:Int):ywl x=(
 (0:Int)≤(10:Int)∧zcl x=bits BinOp.and IntKind.u64 (x/(2:Int) ^ min (Int.toNat (10:Int)) (64:Nat)) (17592186044415:Int)):=by kernel_rfl
theorem zny(x:Int):zuz x=(
 lvM x=bif decide (x≥(0:Int)) then decide (x≤(2:Int)) else false):=by kernel_rfl
theorem zu6(x:Int):ykm x=(
 (0:Int)≤(14:Int) ∧
   ((!x/(2:Int) ^ min (Int.toNat (14:Int)) (64:Nat)==(0:Int))=true→(0:Int)≤(14:Int)) ∧
     zen x=bif x/(2:Int) ^ min (Int.toNat (14:Int)) (64:Nat)==(0:Int) then true else x/(2:Int) ^ min (Int.toNat (14:Int)) (64:Nat)==(1125899906842623:Int)):=by kernel_rfl
theorem zo2(x:Int):zy0 x=(
 zfe x=bits BinOp.and IntKind.u64 x (17592186044415:Int)):=by kernel_rfl
theorem yo8(m:Int)(s x:Bool)(t:Int):vc_on m s x t=(
 (0:Int)≤(60:Int)∧onM (m,s,x,t)=bif t/(2:Int) ^ min (Int.toNat (60:Int)) (64:Nat)==(8:Int) then bif m==(0:Int) then true else m==(1:Int) else false):=by kernel_rfl
theorem ycz(m:Int)(s x:Bool)(t:Int):yv2 m s x t=(
 (0:Int)≤(44:Int)∧zba t=bits BinOp.and IntKind.u64 (t/(2:Int) ^ min (Int.toNat (44:Int)) (64:Nat)) (65535:Int)):=by kernel_rfl
theorem ylh(x l:Int):yaw1 x l=(
 (0:Int)≤IntKind.i64.wrap ((6:Int)+IntKind.i64.wrap ((3:Int)*l)) ∧
   zj4 x l=bits BinOp.and IntKind.u64 x (32767:Int)/(2:Int) ^ min (IntKind.i64.wrap ((6:Int)+IntKind.i64.wrap ((3:Int)*l))).toNat (64:Nat)):=by kernel_rfl
theorem zry(m:Int)(s x:Bool)(t k:Int):yda m s x t k=(
 zl8 (m,s,x,t) k=bif bif bif decide (k≥(0:Int)) then decide (k≤(2:Int)) else false then decide (m≥(0:Int)) else false then decide (m≤(2:Int)) else false):=by kernel_rfl
theorem yo9(k:Int):vc_pf k=(
 ((k==(0:Int))=true→pfM k=(12:Int))∧((k==(0:Int))=false→((k==(1:Int))=true→pfM k=(13:Int))∧((k==(1:Int))=false→pfM k=(15:Int)))):=by kernel_rfl
theorem yov(k:Int):vc_af k=(
 ((k==(0:Int))=true→afM k=(1:Int))∧((k==(0:Int))=false→((k==(1:Int))=true→afM k=(5:Int))∧((k==(1:Int))=false→afM k=(7:Int)))):=by kernel_rfl
theorem yc0(x i j:Int):yv3 x i j=(
 i≤(64:PmT [i64]) ∧
   pw i≠(0:Int) ∧
     IntKind.i64.wrap (IntKind.i64.wrap (j-i)+(1:Int))≤(64:PmT [i64]) ∧
       pw (IntKind.i64.wrap (IntKind.i64.wrap (j-i)+(1:Int)))≠(0:Int)∧zes x i j=(IntKind.u64.wrap (x.tdiv (pw i))).tmod (pw (IntKind.i64.wrap (IntKind.i64.wrap (j-i)+(1:Int))))):=by kernel_rfl
theorem ydc(p l:Int):ywh p l=(
 let A0(a:Int):=zi3 (p,a);
 let A1(a:Bool)(b:Int):=bif a then true else za0 p b;
 let A2(a b:Bool):=bif a then b else false;
 let A3(a:Bool)(b c:Prop):=(a=true→b)∧c;
 let A4(a:Int):=(2:Int) ^ (min a.toNat (64:Nat));
 let A5:=A1 (l==(0:Int)) (4:Int);
 let A6(a:Bool)(b:Int)(c:Prop):=A3 a (A0 b) c;
 let A7(a:Bool)(b c d:Prop):=A3 a b (a=false→c∧d);
 let A8(a b:Bool)(c:Bool→Prop):=(p=p∧l=l∧a=b)∧c a;
 let A9(a b:Bool)(c:Bool→Prop):=(p=p∧l=l∧a=(!b))∧c a;
 let Aa(a:Bool)(b:Int):=A3 a (za7 p l=(0:Int)) (a=false→za7 p l=b);
 let Ab := !za0 p (1:Int);
 let Ac:=za0 p (2:Int);
 let Ad:=p/A4 (54:Int) != (0:Int);
 ∃(x0':Bool→Prop),A7 (!lvM l) (∃(x1':Bool),A9 x1' (lvM l) x0') (A0 (0:Int)) (A7 (!za0 p (0:Int)) (∃(x2':Bool),A9 x2' (za0 p (0:Int)) x0') ((0:Int)≤(54:Int)) (A7 Ad (∃(x3':Bool),A8 x3' Ad x0') (A0 (2:Int))
  (A3 Ac (A0 (1:Int)) (∃(x4':Bool),A8 x4' (A2 Ac Ab) x0'))))∧∀(x5':Bool),x0' x5'→A7 x5' (za7 p l=(0:Int)) (A0 (1:Int)) (A6 Ab (3:Int) (A7 (A2 (!za0 p (1:Int)) (!za0 p (3:Int))) (A6 (!l==(0:Int)) (4:Int) (A6
  (!A5) (6:Int) (A6 (!A1 A5 (6:Int)) (7:Int) (Aa (A1 (A1 A5 (6:Int)) (7:Int)) (1:Int))))) (U64 p) ((0:Int)≤IntKind.i64.wrap ((3:Int)*l)∧Aa (bits BinOp.and IntKind.u64 (zcl p) (IntKind.u64.wrap (IntKind.u64.wrap ((1 :
  Int)*A4 (IntKind.i64.wrap ((3:Int)*l)))-(1:Int))) != (0:Int)) (2:Int))))):=by kernel_rfl
theorem zu0(p k m:Int)(s x:Bool)(t:Int):ykg p k m s x t=(
 let A0(a b:Bool):=bif a then b else false;
 let A1(a:Int):=zi3 (p,a);
 let A2(a:Int):=za0 p a;
 let A3(a:Int):=a==(1:Int);
 let A4(a:Int):=a==(0:Int);
 let A5(a:Bool):=a=false;
 let A6(a:Bool)(b c:Prop):=(a=true→b)∧c;
 let A7(a b c:Bool):=bif a then true else A0 b c;
 let A8(a b:Bool)(c d:Prop):=A6 a (A6 b (A1 (4:Int)) c) d;
 let A9(a b:Bool)(c:Prop):=(p=p∧k=k∧a=b∧m=m∧s=s∧x=x∧t=t)∧c;
 ∃(x0':Bool→Prop),A6 (A4 k) (A1 (3:Int)∧∃(x1':Bool),A9 x1' (A2 (3:Int)) (x0' x1')) (A5 (A4 k)→A6 (A3 k) (A1 (1:Int)∧A6 (!A2 (1:Int)) (A1 (3:Int)) (∃(x2':Bool),A9 x2' (A7 (A2 (1:Int)) (A2 (3:Int)) x) (x0'
  x2'))) (A5 (A3 k)→A6 (k==(2:Int)) (A1 (2:Int)∧A6 (A2 (2:Int)) (A1 (7:Int)) (∃(x3':Bool),A9 x3' (A0 (A2 (2:Int)) (A2 (7:Int))) (x0' x3'))) (A5 (k==(2:Int))→∃(x4':Bool),(p=p∧k=k∧A5 x4'∧m=m∧s=s ∧
  x=x∧t=t)∧x0' x4')))∧∀(x5':Bool),x0' x5'→∃(x6':Bool→Prop),A8 (A4 m) x5' (∃(x7':Bool),(p=p∧x7'=A0 x5' (A2 (4:Int)))∧x6' x7') (A5 (A4 m)→A8 (A3 m) x5' (∃(x8':Bool),(p=p∧x8'=A0 x5' (A7 (!A2 (4 :
  Int)) (k != (0:Int)) s))∧x6' x8') (A5 (A3 m)→∃(x9':Bool),(p=p∧A5 x9')∧x6' x9'))∧∀(x10':Bool),x6' x10'→A6 x10' (A1 (6:Int)) (za5 p k m s x=A0 x10' (A2 (6:Int)))):=by kernel_rfl
theorem zo1(p l va:Int):zyx p l va=(
 (0:Int)≤IntKind.i64.wrap ((6:Int)+IntKind.i64.wrap ((3:Int)*l)) ∧
   U64 p ∧
     (0:Int)≤(6:Int) ∧
       zck p l va =
         bits BinOp.or IntKind.u64
           (bits BinOp.andNot IntKind.u64 (IntKind.u64.wrap (zcl p*(2:Int) ^ min (Int.toNat (6:Int)) (64:Nat)))
             (IntKind.u64.wrap (IntKind.u64.wrap ((1:Int)*(2:Int) ^ min (IntKind.i64.wrap ((6:Int)+IntKind.i64.wrap ((3:Int)*l))).toNat (64:Nat))-(1:Int))))
           (bits BinOp.and IntKind.u64 va
             (IntKind.u64.wrap (IntKind.u64.wrap ((1:Int)*(2:Int) ^ min (IntKind.i64.wrap ((6:Int)+IntKind.i64.wrap ((3:Int)*l))).toNat (64:Nat))-(1:Int))))):=by kernel_rfl
theorem yjw(x i:Int):yal1 x i=(
 zim (x,i,i)∧za0 x i=(zes x i i==(1:Int))):=by kernel_rfl
theorem yk3(x:Int):yas1 x=(
 zim (x,(10:Int),(53:Int))∧zcl x=zes x (10:Int) (53:Int)):=by kernel_rfl
theorem zvr(x:Int):yk8 x=(
 zim (x,(14:Int),(63:Int)) ∧
   ((!zes x (14:Int) (63:Int)==(0:Int))=true→(50:Int)≤(64:PmT [i64])) ∧
     zen x=bif zes x (14:Int) (63:Int)==(0:Int) then true else zes x (14:Int) (63:Int)==IntKind.u64.wrap (pw (50:Int)-(1:Int))):=by kernel_rfl
theorem zyj(x l:Int):yo1 x l=(
 zim (x,IntKind.i64.wrap ((6:Int)+IntKind.i64.wrap ((3:Int)*l)),IntKind.i64.wrap ((8:Int)+IntKind.i64.wrap ((3:Int)*l))) ∧
   zeq x l=zes x (IntKind.i64.wrap ((6:Int)+IntKind.i64.wrap ((3:Int)*l))) (IntKind.i64.wrap ((8:Int)+IntKind.i64.wrap ((3:Int)*l)))):=by kernel_rfl
theorem yle(m:Int)(s x:Bool)(t:Int):yav1 m s x t=(
 zim (t,(60:Int),(63:Int))∧onM (m,s,x,t)=bif zes t (60:Int) (63:Int)==(8:Int) then bif m==(0:Int) then true else m==(1:Int) else false):=by kernel_rfl
theorem zy5(t:Int):ype t=(
 zim (t,(44:Int),(59:Int))∧zba t=zes t (44:Int) (59:Int)):=by kernel_rfl
theorem yd1(x l:Int):ywq x l=(
 zim (x,IntKind.i64.wrap ((6:Int)+IntKind.i64.wrap ((3:Int)*l)),(14:Int))∧zj4 x l=zes x (IntKind.i64.wrap ((6:Int)+IntKind.i64.wrap ((3:Int)*l))) (14:Int)):=by kernel_rfl
theorem zza(p l:Int):ypi p l=(
 let A0(a b:Bool):=bif a then true else b;
 let A1(a b:Bool):=bif a then b else false;
 let A2(a:Int):=za0 p a;
 let A3(a:Bool)(b:Int):=A0 a (A2 b);
 let A4:=IntKind.i64.wrap ((3:Int)*l);
 let A5:=A0 (decide (l<(0:Int))) (decide (l>(2:Int)));
 let A6(a:Bool)(b c:Prop):=(a=true→b)∧c;
 let A7(a b:Int)(c:Prop):=zi3 (p,a)∧zi3 (p,b)∧c;
 let A8(a:Bool)(b:Int):=A6 a (za7 p l=(0:Int)) (a=false→za7 p l=b);
 let A9:=A1 (A1 (!A2 (1:Int)) (!A2 (2:Int))) (!A2 (3:Int));
 let Aa:=A0 (A0 (A0 A5 (!A2 (0:Int))) (decide ((zes p (54:Int) (63:Int))>(0:Int)))) (A1 (A2 (2:Int)) (!A2 (1:Int)));
 A7 (1:Int) (2:Int) (A7 (3:Int) (4:Int) (A7 (6:Int) (7:Int) (A6 (!A5) (zi3 (p,(0:Int))) (A6 (!A0 A5 (!A2 (0:Int))) (zim (p,(54:Int),(63:Int))) (A6 Aa (za7 p l=(0:Int)) (Aa=false→A6 A9 (A8 (A3 (A3 (A3 (l ==
  (0:Int)) (4:Int)) (6:Int)) (7:Int)) (1:Int)) (A9=false→U64 p∧A4≤(64:PmT [i64])∧pw A4≠(0:Int)∧A8 (decide (((zcl p).tmod (pw A4))>(0:Int))) (2:Int))))))))):=by kernel_rfl
theorem zo4(p k m:Int)(s x:Bool):zy9 p k m s x=(
 zi3 (p,(1:Int)) ∧
   zi3 (p,(2:Int)) ∧
     zi3 (p,(3:Int)) ∧
       zi3 (p,(4:Int)) ∧
         zi3 (p,(6:Int)) ∧
           zi3 (p,(7:Int)) ∧
             ∃(J:Bool→Prop),
               (((k==(0:Int))=true →
                     ∃(z:Bool),
                       (p=p ∧
                           k=k ∧
                             m=m ∧
                               s=s ∧
                                 x=x ∧
                                   za0 p (1:Int)=za0 p (1:Int) ∧
                                     za0 p (2:Int)=za0 p (2:Int) ∧
                                       za0 p (3:Int)=za0 p (3:Int) ∧
                                         za0 p (4:Int)=za0 p (4:Int)∧za0 p (6:Int)=za0 p (6:Int)∧za0 p (7:Int)=za0 p (7:Int)∧z=za0 p (3:Int)) ∧
                         J z) ∧
                   ((k==(0:Int))=false →
                     ∃(z:Bool),
                       (p=p ∧
                           k=k ∧
                             m=m ∧
                               s=s ∧
                                 x=x ∧
                                   za0 p (1:Int)=za0 p (1:Int) ∧
                                     za0 p (2:Int)=za0 p (2:Int) ∧
                                       za0 p (3:Int)=za0 p (3:Int) ∧
                                         za0 p (4:Int)=za0 p (4:Int)∧za0 p (6:Int)=za0 p (6:Int)∧za0 p (7:Int)=za0 p (7:Int)∧z=false) ∧
                         J z)) ∧
                 ∀(z:Bool),
                   J z →
                     ∃(J:Bool→Prop),
                       (((k==(1:Int))=true →
                             ∃(z:Bool),
                               (p=p ∧
                                   k=k ∧
                                     m=m ∧
                                       s=s ∧
                                         x=x ∧
                                           za0 p (1:Int)=za0 p (1:Int) ∧
                                             za0 p (2:Int)=za0 p (2:Int) ∧
                                               za0 p (3:Int)=za0 p (3:Int) ∧
                                                 za0 p (4:Int)=za0 p (4:Int) ∧
                                                   za0 p (6:Int)=za0 p (6:Int) ∧
                                                     za0 p (7:Int)=za0 p (7:Int)∧z=bif za0 p (1:Int) then true else bif x then za0 p (3:Int) else false) ∧
                                 J z) ∧
                           ((k==(1:Int))=false →
                             ∃(z_1:Bool),
                               (p=p ∧
                                   k=k ∧
                                     m=m ∧
                                       s=s ∧
                                         x=x ∧
                                           za0 p (1:Int)=za0 p (1:Int) ∧
                                             za0 p (2:Int)=za0 p (2:Int) ∧
                                               za0 p (3:Int)=za0 p (3:Int) ∧
                                                 za0 p (4:Int)=za0 p (4:Int)∧za0 p (6:Int)=za0 p (6:Int)∧za0 p (7:Int)=za0 p (7:Int)∧z_1=z) ∧
                                 J z_1)) ∧
                         ∀(z:Bool),
                           J z →
                             ∃(J:Bool→Prop),
                               (((k==(2:Int))=true →
                                     ∃(z:Bool),
                                       (p=p ∧
                                           k=k ∧
                                             m=m ∧
                                               s=s ∧
                                                 x=x ∧
                                                   za0 p (1:Int)=za0 p (1:Int) ∧
                                                     za0 p (2:Int)=za0 p (2:Int) ∧
                                                       za0 p (3:Int)=za0 p (3:Int) ∧
                                                         za0 p (4:Int)=za0 p (4:Int) ∧
                                                           za0 p (6:Int)=za0 p (6:Int)∧za0 p (7:Int)=za0 p (7:Int)∧z=bif za0 p (2:Int) then za0 p (7:Int) else false) ∧
                                         J z) ∧
                                   ((k==(2:Int))=false →
                                     ∃(z_1:Bool),
                                       (p=p ∧
                                           k=k ∧
                                             m=m ∧
                                               s=s ∧
                                                 x=x ∧
                                                   za0 p (1:Int)=za0 p (1:Int) ∧
                                                     za0 p (2:Int)=za0 p (2:Int) ∧
                                                       za0 p (3:Int)=za0 p (3:Int) ∧
                                                         za0 p (4:Int)=za0 p (4:Int)∧za0 p (6:Int)=za0 p (6:Int)∧za0 p (7:Int)=za0 p (7:Int)∧z_1=z) ∧
                                         J z_1)) ∧
                                 ∀(z:Bool),
                                   J z →
                                     ∃(J:Bool × Bool→Prop),
                                       (((m==(0:Int))=true →
                                             ∃(z_1:Bool × Bool),
                                               (k=k∧m=m∧s=s∧za0 p (4:Int)=za0 p (4:Int)∧za0 p (6:Int)=za0 p (6:Int)∧z_1.1=z∧z_1.2=za0 p (4:Int))∧J z_1) ∧
                                           ((m==(0:Int))=false →
                                             ∃(z_1:Bool × Bool),
                                               (k=k∧m=m∧s=s∧za0 p (4:Int)=za0 p (4:Int)∧za0 p (6:Int)=za0 p (6:Int)∧z_1.1=z∧z_1.2=false)∧J z_1)) ∧
                                         ∀(z:Bool × Bool),
                                           J z →
                                             ∃(J:Bool × Bool→Prop),
                                               (((m==(1:Int))=true →
                                                     ∃(z_1:Bool × Bool),
                                                       (k=k ∧
                                                           m=m ∧
                                                             s=s ∧
                                                               za0 p (4:Int)=za0 p (4:Int) ∧
                                                                 za0 p (6:Int)=za0 p (6:Int) ∧
                                                                   z_1.1=z.1∧z_1.2=bif !za0 p (4:Int) then true else bif k != (0:Int) then s else false) ∧
                                                         J z_1) ∧
                                                   ((m==(1:Int))=false →
                                                     ∃(z_1:Bool × Bool),
                                                       (k=k∧m=m∧s=s∧za0 p (4:Int)=za0 p (4:Int)∧za0 p (6:Int)=za0 p (6:Int)∧z_1.1=z.1∧z_1.2=z.2) ∧
                                                         J z_1)) ∧
                                                 ∀(z:Bool × Bool),J z→za5 p k m s x=bif bif z.1 then z.2 else false then za0 p (6:Int) else false):=by kernel_rfl
theorem zzg(p l va:Int):ypm p l va=(
 let A0(a:Int):=IntKind.i64.wrap a;
 let A1(a:Int):=IntKind.u64.wrap a;
 let A2:=(6:Int)+A0 ((3:Int)*l);
 let A3(a:Bool)(b:Prop):=(bif decide (l<(0:Int)) then true else decide (l>(2:Int)))=a→b;
 let A4(a:Prop):=pw (A0 A2)≠(0:Int)∧a;
 let A5:=pw (A0 A2);
 A3 true (zck p l va=(0:Int))∧A3 false (A0 A2≤(64:PmT [i64])∧U64 p∧A4 (A4 (zck p l va=A1 (A1 (A1 ((A1 (zcl p*(64:Int))).tdiv A5)*A5)+va.tmod A5))))):=by kernel_rfl
set_option linter.unusedSimpArgs false
theorem mixed:Tryz.prog.follows .mixedOrders=true:=by kernel_rfl
theorem yuy{n:Int}(h0:0≤n)(h1:n≤63):pw n=2 ^ n.toNat:=by
 unfold pw
 split
 · have:n=0:=by omega
   subst this;rfl
 · have h:=zpr (m:=n.toNat) (n:=63) (by omega)
   have:=pow_pos n.toNat
   rw[Int.emod_eq_of_lt (by omega) (by omega)]
theorem yuz{n:Int}(h:0<n):pw n=IntKind.u64.wrap (2*pw (n-1)):=by
 rw[IntKind.wrap_u64]
 unfold pw
 rw[if_neg (by omega)]
 by_cases h1:n-1≤0
 · have:n=1:=by omega
   subst this;rfl
 · rw[if_neg h1]
   have e:n.toNat=(n-1).toNat+1:=by omega
   rw[e,Int.pow_succ]
   omega
theorem zcn{l:Int}(h:LvR l):l=0∨l=1∨l=2:=by unfold LvR at h;omega
theorem yri:∀k:Nat,Sound Tryz.prog 88 (powS k)
 | 0=>zad mixed Tryz.func88 (by kernel_rfl) (by kernel_rfl) (D:=mkD [] [] []) (zay .nil .nil .nil) (fun  (n:Int) h=>absurd h.2 (Nat.not_lt_zero _))
 | k+1=>by
  refine zad mixed Tryz.func88 (by kernel_rfl) (by kernel_rfl) (D:=mkD [(88,powS k)] [] []) (zay (.cons (by kernel_rfl) (yri k) .nil) .nil .nil) (fun  (n:Int) h => ?_)
  have h:n≤64∧n.toNat<k+1:=h
  refine zab (yk2 k n) ⟨fun hn => ?_,fun hn => ?_⟩
  · have:n≤0:=by simpa using hn
    simp[pw,this]
  · have hn':0<n:=by simpa using hn
    rw[zaa (by omega) (by omega)]
    exact⟨by omega,yuz hn'⟩
theorem yuv:Sound Tryz.prog 88 (zai [i64] [u64] (fun n=>some (n≤64)) pw) :=
 zft (yri 65) (fun  (n:Int) h=>by have h:n≤64:=h;exact⟨h,by omega⟩)
theorem zdc:DictOk Tryz.prog F0:=zay .nil .nil .nil
theorem yfc{x:Int}(h:U64 x):bits .and .u64 x 1=x % 2:=zcg 1 1 2 (by decide) (by decide) (by decide) h.1 h.2
theorem zgj{x:Int}(n:Nat)(h:U64 x):U64 (x/2 ^ n):=by
 have:=zs4 n h.1
 exact⟨this.1,by have:=h.2;omega⟩
theorem ytw:Sound Tryz.prog 174 (zai [u64,i64] [bl] (fun t=>some (zi3 t)) (fun t=>za0 t.1 t.2)):=by
 refine zad mixed Tryz.func174 (by kernel_rfl) (by kernel_rfl) zdc (fun t h => ?_)
 obtain⟨x,i⟩:=t
 obtain⟨h1,h2,h3⟩:zi3 (x,i):=h
 simp only at h1 h2 h3
 refine zab (ydb x i) ⟨h2, ?_⟩
 rw[show min i.toNat 64=i.toNat by omega,yfc (zgj _ h1)]
 rfl
theorem yus:Sound Tryz.prog 196 (zai [u64] [u64] (fun x=>some (U64 x)) zcl):=by
 refine zad mixed Tryz.func196 (by kernel_rfl) (by kernel_rfl) zdc (fun x h => ?_)
 have h:U64 x:=h
 refine zab (ydo x) ⟨by decide, ?_⟩
 have e:(2:Int) ^ min (Int.toNat 10) 64=2 ^ 10:=by decide
 rw[e,zcg 44 17592186044415 17592186044416 (by decide) (by decide) (by decide) (zgj 10 h).1 (zgj 10 h).2]
 rfl
theorem zti:Sound Tryz.prog 217 (zai [i64] [bl] (fun _=>none) lvM):=by
 refine zad mixed Tryz.func217 (by kernel_rfl) (by kernel_rfl) zdc (fun  (x:Int) _ => ?_)
 refine zab (zny x) ?_
 unfold lvM
 cases h:decide (0≤x)<;>simp_all
theorem ygy:Sound Tryz.prog 136 (zai [u64] [bl] (fun x=>some (U64 x)) zen):=by
 refine zad mixed Tryz.func136 (by kernel_rfl) (by kernel_rfl) zdc (fun x _ => ?_)
 refine zab (zu6 x) ⟨by decide,fun _=>by decide, ?_⟩
 have e:(2:Int) ^ min (Int.toNat 14) 64=16384:=by decide
 rw[e]
 unfold zen
 cases x/16384==0<;>rfl
theorem zx5:Sound Tryz.prog 138 (zai [u64] [u64] (fun x=>some (U64 x)) zfe):=by
 refine zad mixed Tryz.func138 (by kernel_rfl) (by kernel_rfl) zdc (fun x h => ?_)
 have h:U64 x:=h
 exact zab (zo2 x) (zcg 44 17592186044415 17592186044416 (by decide) (by decide) (by decide) h.1 h.2).symm
theorem on_ok:Sound Tryz.prog 135 (zai [zg4] [bl] (fun c=>some (U64 c.2.2.2)) onM):=by
 refine zad mixed Tryz.func135 (by kernel_rfl) (by kernel_rfl) zdc (fun c _ => ?_)
 obtain⟨m,s,x,t⟩:Int × Bool × Bool × Int:=c
 refine zab (yo8 m s x t) ⟨by decide, ?_⟩
 have e:(2:Int) ^ min (Int.toNat 60) 64=1152921504606846976:=by decide
 rw[e]
 unfold onM
 cases t/1152921504606846976==8<;>cases m==0<;>rfl
theorem ys4:Sound Tryz.prog 171 (zai [zg4] [u64] (fun c=>some (U64 c.2.2.2)) (fun c=>zba c.2.2.2)):=by
 refine zad mixed Tryz.func171 (by kernel_rfl) (by kernel_rfl) zdc (fun c h => ?_)
 obtain⟨m,s,x,t⟩:Int × Bool × Bool × Int:=c
 have h:U64 t:=h
 refine zab (ycz m s x t) ⟨by decide, ?_⟩
 have e:(2:Int) ^ min (Int.toNat 44) 64=2 ^ 44:=by decide
 have e2:(2:Int) ^ 44=17592186044416:=by decide
 rw[e,zcg 16 65535 65536 (by decide) (by decide) (by decide) (zgj 44 h).1 (zgj 44 h).2,e2]
 rfl
theorem yac1:Sound Tryz.prog 170 (zai [u64,i64] [u64] (fun t=>some (U64 t.1∧LvR t.2)) (fun t=>zj4 t.1 t.2)):=by
 refine zad mixed Tryz.func170 (by kernel_rfl) (by kernel_rfl) zdc (fun t h => ?_)
 obtain⟨x,l⟩:=t
 obtain⟨h1,h2⟩:U64 x∧LvR l:=h
 refine zab (ylh x l) ?_
 have e:bits .and .u64 x 32767=x % 32768:=zcg 15 32767 32768 (by decide) (by decide) (by decide) h1.1 h1.2
 rw[e]
 rcases zcn h2 with rfl|rfl|rfl<;>exact⟨by decide,rfl⟩
theorem yb0:Sound Tryz.prog 130 (zai [zg4,i64] [bl] (fun _=>none) (fun t=>zl8 t.1 t.2)):=by
 refine zad mixed Tryz.func130 (by kernel_rfl) (by kernel_rfl) zdc (fun t _ => ?_)
 obtain⟨⟨m,s,x,t⟩,k⟩:(Int × Bool × Bool × Int) × Int:=t
 refine zab (zry m s x t k) ?_
 unfold zl8
 simp only[ge_iff_le]
 cases decide (0≤k)<;>cases decide (k≤2)<;>cases decide (0≤m)<;>rfl
theorem pf_ok:Sound Tryz.prog 121 (zai [i64] [i64] (fun _=>none) pfM):=by
 refine zad mixed Tryz.func121 (by kernel_rfl) (by kernel_rfl) zdc (fun k _ => ?_)
 refine zab (yo9 k) ⟨fun h => ?_,fun h=>⟨fun g => ?_,fun g => ?_⟩⟩<;>simp_all[pfM]
theorem af_ok:Sound Tryz.prog 194 (zai [i64] [i64] (fun _=>none) afM):=by
 refine zad mixed Tryz.func194 (by kernel_rfl) (by kernel_rfl) zdc (fun k _ => ?_)
 refine zab (yov k) ⟨fun h => ?_,fun h=>⟨fun g => ?_,fun g => ?_⟩⟩<;>simp_all[afM]
theorem yqr:zar Tryz.prog kA1 :=
 .cons (by kernel_rfl) yuv <| .cons (by kernel_rfl) ytw <| .cons (by kernel_rfl) yus <| .cons (by kernel_rfl) zti <| .cons (by kernel_rfl) ygy <| .cons (by kernel_rfl) zx5 <|
 .cons (by kernel_rfl) on_ok <| .cons (by kernel_rfl) ys4 <| .cons (by kernel_rfl) yac1 <| .cons (by kernel_rfl) yb0 <| .cons (by kernel_rfl) pf_ok <| .cons (by kernel_rfl) af_ok .nil
theorem yl6:DictOk Tryz.prog F1:=zay yqr .nil .nil
theorem yfh{p i:Int}(h:U64 p)(h0:0≤i)(h1:i≤62):zi3 (p,i):=⟨h,h0,h1⟩
theorem ys6:Sound Tryz.prog 99 (zai [u64,i64,i64] [u64] (fun t=>some (zim t)) (fun t=>zes t.1 t.2.1 t.2.2)):=by
 refine zad mixed Tryz.func99 (by kernel_rfl) (by kernel_rfl) yl6 (fun t h => ?_)
 obtain⟨x,i,j⟩:Int × Int × Int:=t
 obtain⟨h1,h2,h3,h4,h5⟩:zim (x,i,j):=h
 simp only at h1 h2 h3 h4 h5
 refine zab (yc0 x i j) ?_
 have w:IntKind.i64.wrap (IntKind.i64.wrap (j-i)+1)=j-i+1:=by
  rw[zaa (n:=j-i) (by omega) (by omega),zaa (by omega) (by omega)]
 have q1:=pow_pos i.toNat
 have q2:=pow_pos (j-i+1).toNat
 have:=zgj i.toNat h1
 rw[w,yuy h2 (by omega),yuy (n:=j-i+1) (by omega) (by omega),zev h1.1,zah this.1 this.2,zb1 this.1]
 exact⟨by show i≤(64:Int);omega,by omega,by show j-i+1≤(64:Int);omega,by omega,rfl⟩
theorem zk7{p:Int}(_h:U64 p):0≤zcl p∧zcl p<17592186044416:=by
 unfold zcl
 exact⟨Int.emod_nonneg _ (by decide),Int.emod_lt_of_pos _ (by decide)⟩
theorem yug:Sound Tryz.prog 173 (zai [u64,i64] [i64] (fun t=>some (U64 t.1)) (fun t=>za7 t.1 t.2)):=by
 refine zlr mixed Tryz.func173 (by kernel_rfl) (by kernel_rfl) yl6 (fun t h => ?_)
 obtain⟨p,l⟩:Int × Int:=t
 have h:U64 p:=h
 have e:(2:Int) ^ min (Int.toNat 54) 64=18014398509481984:=by decide
 refine⟨yzc p l,zab (ydc p l) ?_⟩
 conv=>zeta
 rw[e]
 have hk:∀k:Int,0≤k→k≤62→zi3 (p,k):=fun k h0 h1=>⟨h,h0,h1⟩
 refine⟨fun z=>z=(!lvM l || !za0 p 0||p/18014398509481984 != 0||(za0 p 2 && !za0 p 1)),⟨fun g=>⟨_,⟨rfl,rfl,rfl⟩, ?_⟩,fun g=>⟨hk _ (by decide) (by decide),fun g2=>⟨_,⟨rfl,rfl,rfl⟩, ?_⟩,fun g2=>⟨by decide,fun g3=>⟨_,⟨rfl,rfl,rfl⟩, ?_⟩,fun g3=>⟨hk _ (by decide) (by decide),fun _=>hk _ (by decide) (by decide),_,⟨rfl,rfl,rfl⟩, ?_⟩⟩⟩⟩,fun z hz => ?_⟩
 · simp[g]
 · simp[g2]
 · simp[g3]
 · simp only[g,g2,g3,Bool.false_or,Bool.cond_false_right]
 · simp only at hz
   refine⟨fun g => ?_,fun g=>⟨hk _ (by decide) (by decide),fun _=>hk _ (by decide) (by decide),fun g2=>⟨fun _=>hk _ (by decide) (by decide),fun _=>hk _ (by decide) (by decide),fun _=>hk _ (by decide) (by decide),fun g3 => ?_,fun g3 => ?_⟩,fun g2 => ?_⟩⟩
   · unfold za7
     rw[← hz,if_pos g]
   · simp only[Bool.cond_true_left,Bool.cond_false_right] at g2 g3
     unfold za7
     rw[← hz,if_neg (by simp[g]),if_pos g2,if_pos g3]
   · simp only[Bool.cond_true_left,Bool.cond_false_right] at g2 g3
     unfold za7
     rw[← hz,if_neg (by simp[g]),if_pos g2,if_neg (by simp[g3])]
   · simp only[Bool.cond_false_right] at g2
     have hl:LvR l:=by
      rw[hz] at g
      simp only[Bool.or_eq_false_iff,Bool.not_eq_false',lvM,Bool.and_eq_true,decide_eq_true_eq] at g
      exact g.1.1.1
     have hp:=zk7 h
     have key:bits .and .u64 (zcl p) (IntKind.u64.wrap (IntKind.u64.wrap (1*2 ^ min (IntKind.i64.wrap (3*l)).toNat 64)-1))=zcl p % 2 ^ (3*l).toNat∧0≤IntKind.i64.wrap (3*l):=by
      rcases zcn hl with rfl|rfl|rfl
      · exact⟨zcg 0 _ _ (by decide) (by decide) (by decide) hp.1 (by omega),by decide⟩
      · exact⟨zcg 3 _ _ (by decide) (by decide) (by decide) hp.1 (by omega),by decide⟩
      · exact⟨zcg 6 _ _ (by decide) (by decide) (by decide) hp.1 (by omega),by decide⟩
     rw[key.1]
     refine⟨h,key.2,fun g3 => ?_,fun g3 => ?_⟩
     · unfold za7
       rw[← hz,if_neg (by simp[g]),if_neg (by simp[g2]),if_neg (by simpa using g3)]
     · unfold za7
       rw[← hz,if_neg (by simp[g]),if_neg (by simp[g2]),if_pos (by simpa using g3)]
theorem ygk:Sound Tryz.prog 140 (zai [u64,i64,zg4] [bl] (fun t=>some (U64 t.1)) (fun t=>za5 t.1 t.2.1 t.2.2.1 t.2.2.2.1 t.2.2.2.2.1)):=by
 refine zlr mixed Tryz.func140 (by kernel_rfl) (by kernel_rfl) yl6 (fun t h => ?_)
 obtain⟨p,k,m,s,x,t⟩:Int × Int × Int × Bool × Bool × Int:=t
 have h:U64 p:=h
 have hk:∀k:Int,0≤k→k≤62→zi3 (p,k):=fun k h0 h1=>⟨h,h0,h1⟩
 refine⟨ygj p k m s x t,zab (zu0 p k m s x t) ?_⟩
 conv=>zeta
 refine⟨fun z=>z=yq7 p k x,⟨fun g=>⟨hk _ (by decide) (by decide),_,⟨rfl,rfl,rfl,rfl,rfl,rfl,rfl⟩, ?_⟩,fun g=>⟨fun g2=>⟨hk _ (by decide) (by decide),fun _=>hk _ (by decide) (by decide),_,⟨rfl,rfl,rfl,rfl,rfl,rfl,rfl⟩, ?_⟩,fun g2=>⟨fun g3=>⟨hk _ (by decide) (by decide),fun _=>hk _ (by decide) (by decide),_,⟨rfl,rfl,rfl,rfl,rfl,rfl,rfl⟩, ?_⟩,fun g3=>⟨_,⟨rfl,rfl,rfl,rfl,rfl,rfl,rfl⟩, ?_⟩⟩⟩⟩,fun z hz => ?_⟩
 · simp only[beq_iff_eq] at g
   simp[yq7,g]
 · simp only[beq_iff_eq] at g2
   simp[yq7,g2]
 · simp only[beq_iff_eq] at g3
   simp[yq7,g3]
 · simp only[beq_eq_false_iff_ne] at g g2 g3
   simp[yq7,g,g2,g3]
 · refine⟨fun y=>y=(z&&ywy p k m s),⟨fun g=>⟨fun _=>hk _ (by decide) (by decide),_,⟨rfl,rfl⟩, ?_⟩,fun g=>⟨fun g2=>⟨fun _=>hk _ (by decide) (by decide),_,⟨rfl,rfl⟩, ?_⟩,fun g2=>⟨_,⟨rfl,rfl⟩, ?_⟩⟩⟩,fun y hy=>⟨fun _=>hk _ (by decide) (by decide), ?_⟩⟩
   · simp only[beq_iff_eq] at g
     simp[ywy,g]
   · simp only[beq_iff_eq] at g2
     simp[ywy,g2]
   · simp only[beq_eq_false_iff_ne] at g g2
     simp[ywy,g,g2]
   · simp only at hy hz
     rw[hy,hz]
     simp[za5]
theorem zxt(n:Nat)(h6:6≤n)(hn:n≤12){p va:Int}(hp:U64 p)(hv:U64 va):bits .or .u64 (bits .andNot .u64 (IntKind.u64.wrap (zcl p*64)) (2 ^ n-1)) (bits .and .u64 va (2 ^ n-1))=zcl p*64/2 ^ n*2 ^ n+va % 2 ^ n:=by
 obtain⟨a,b⟩:=zk7 hp
 have hq:=pow_pos n
 have hm:=ztu va n
 have hm2:=ztu (zcl p*64) n
 have hle:=zpr (m:=n) (n:=12) hn
 have hd:=Int.emod_add_mul_ediv (zcl p*64) (2 ^ n)
 rw[zah (by omega) (by omega),zl7 n (by omega) (by omega) (by omega),zzx n (by omega) hv.1 hv.2]
 have e:zcl p*64-zcl p*64 % 2 ^ n=zcl p*64/2 ^ n*2 ^ n:=by rw[Int.mul_comm (zcl p*64/2 ^ n)];omega
 rw[zrg n (by rw[e];exact Int.mul_nonneg (zs4 n (by omega)).1 (Int.le_of_lt hq)) (by rw[e];exact Int.mul_emod_left _ _) (by omega) hm.1 hm.2 (by omega),e]
theorem zxv:Sound Tryz.prog 141 (zai [u64,i64,u64] [u64] (fun t=>some (U64 t.1∧LvR t.2.1∧U64 t.2.2)) (fun t=>zck t.1 t.2.1 t.2.2)):=by
 refine zad mixed Tryz.func141 (by kernel_rfl) (by kernel_rfl) yl6 (fun t h => ?_)
 obtain⟨p,l,va⟩:Int × Int × Int:=t
 obtain⟨h1,h2,h3⟩:U64 p∧LvR l∧U64 va:=h
 refine zab (zo1 p l va) ?_
 have e:(2:Int) ^ min (Int.toNat 6) 64=64:=by decide
 rw[e]
 rcases zcn h2 with rfl|rfl|rfl
 · have w:IntKind.u64.wrap (IntKind.u64.wrap (1*2 ^ min (IntKind.i64.wrap (6+IntKind.i64.wrap (3*0))).toNat 64)-1)=2 ^ 6-1:=by decide
   rw[w,zxt 6 (by decide) (by decide) h1 h3]
   exact⟨by decide,h1,by decide,rfl⟩
 · have w:IntKind.u64.wrap (IntKind.u64.wrap (1*2 ^ min (IntKind.i64.wrap (6+IntKind.i64.wrap (3*1))).toNat 64)-1)=2 ^ 9-1:=by decide
   rw[w,zxt 9 (by decide) (by decide) h1 h3]
   exact⟨by decide,h1,by decide,rfl⟩
 · have w:IntKind.u64.wrap (IntKind.u64.wrap (1*2 ^ min (IntKind.i64.wrap (6+IntKind.i64.wrap (3*2))).toNat 64)-1)=2 ^ 12-1:=by decide
   rw[w,zxt 12 (by decide) (by decide) h1 h3]
   exact⟨by decide,h1,by decide,rfl⟩
theorem yqs:zar Tryz.prog kA2 :=
 .cons (by kernel_rfl) ys6 <| .cons (by kernel_rfl) yug <| .cons (by kernel_rfl) ygk <| .cons (by kernel_rfl) zxv yqr
theorem zwe:DictOk Tryz.prog F2:=zay yqs .nil .nil
theorem yxz:Sound Tryz.prog 134 (zai [u64,i64] [bl] (fun t=>some (zi3 t)) (fun t=>za0 t.1 t.2)):=by
 refine zad mixed Tryz.func134 (by kernel_rfl) (by kernel_rfl) zwe (fun t h => ?_)
 obtain⟨x,i⟩:Int × Int:=t
 obtain⟨h1,h2,h3⟩:zi3 (x,i):=h
 simp only at h1 h2 h3
 refine zab (yjw x i) ⟨⟨h1,h2,by simp,by simp only;omega,by simp only;omega⟩, ?_⟩
 unfold za0 zes
 rw[show (i-i+1).toNat=1 by omega]
 rfl
theorem yzo:Sound Tryz.prog 126 (zai [u64] [u64] (fun x=>some (U64 x)) zcl):=by
 refine zad mixed Tryz.func126 (by kernel_rfl) (by kernel_rfl) zwe (fun  (x:Int) h => ?_)
 exact zab (yk3 x) ⟨⟨h,by simp only;omega⟩,rfl⟩
theorem yiy:Sound Tryz.prog 28 (zai [u64] [bl] (fun x=>some (U64 x)) zen):=by
 refine zad mixed Tryz.func28 (by kernel_rfl) (by kernel_rfl) zwe (fun  (x:Int) h => ?_)
 have h:U64 x:=h
 have e:zes x 14 63=x/16384:=by
  have:=h.1;have:=h.2
  show x/2 ^ 14 % 2 ^ 50=x/16384
  rw[show (2:Int) ^ 14=16384 by decide]
  exact Int.emod_eq_of_lt (by omega) (by omega)
 have e2:IntKind.u64.wrap (pw 50-1)=1125899906842623:=by decide
 refine zab (zvr x) ⟨⟨h,by simp only;omega⟩,fun _=>by decide, ?_⟩
 rw[e,e2]
 unfold zen
 cases x/16384==0<;>rfl
theorem ym8:Sound Tryz.prog 191 (zai [u64,i64] [u64] (fun t=>some (U64 t.1∧LvR t.2)) (fun t=>zeq t.1 t.2)):=by
 refine zad mixed Tryz.func191 (by kernel_rfl) (by kernel_rfl) zwe (fun t h => ?_)
 obtain⟨x,l⟩:Int × Int:=t
 obtain⟨h1,h2⟩:U64 x∧LvR l:=h
 refine zab (zyj x l) ?_
 rcases zcn h2 with rfl|rfl|rfl
 · exact⟨⟨h1,by simp only;decide⟩,rfl⟩
 · exact⟨⟨h1,by simp only;decide⟩,rfl⟩
 · exact⟨⟨h1,by simp only;decide⟩,rfl⟩
theorem yba{t:Int}(h:U64 t):zes t 60 63=t/1152921504606846976:=by
 have:=h.1;have:=h.2
 show t/2 ^ 60 % 2 ^ 4=_
 rw[show (2:Int) ^ 60=1152921504606846976 by decide]
 exact Int.emod_eq_of_lt (by omega) (by omega)
theorem yz4:Sound Tryz.prog 112 (zai [zg4] [bl] (fun c=>some (U64 c.2.2.2)) onM):=by
 refine zad mixed Tryz.func112 (by kernel_rfl) (by kernel_rfl) zwe (fun c h => ?_)
 obtain⟨m,s,x,t⟩:Int × Bool × Bool × Int:=c
 have h:U64 t:=h
 refine zab (yle m s x t) ⟨⟨h,by simp only;omega⟩, ?_⟩
 rw[yba h]
 unfold onM
 cases t/1152921504606846976==8<;>cases m==0<;>rfl
theorem yn8:Sound Tryz.prog 122 (zai [u64] [u64] (fun x=>some (U64 x)) zba):=by
 refine zad mixed Tryz.func122 (by kernel_rfl) (by kernel_rfl) zwe (fun  (x:Int) h => ?_)
 exact zab (zy5 x) ⟨⟨h,by simp only;omega⟩,rfl⟩
theorem yvj:Sound Tryz.prog 164 (zai [u64,i64] [u64] (fun t=>some (U64 t.1∧LvR t.2)) (fun t=>zj4 t.1 t.2)):=by
 refine zad mixed Tryz.func164 (by kernel_rfl) (by kernel_rfl) zwe (fun t h => ?_)
 obtain⟨x,l⟩:Int × Int:=t
 obtain⟨h1,h2⟩:U64 x∧LvR l:=h
 refine zab (yd1 x l) ?_
 have:=h1.1
 rcases zcn h2 with rfl|rfl|rfl
 · refine⟨⟨h1,by simp only;decide⟩, ?_⟩
   show x % 32768/64=x/64 % 512
   omega
 · refine⟨⟨h1,by simp only;decide⟩, ?_⟩
   show x % 32768/512=x/512 % 64
   omega
 · refine⟨⟨h1,by simp only;decide⟩, ?_⟩
   show x % 32768/4096=x/4096 % 8
   omega
theorem zgq{l:Int}:lvM l=true↔LvR l:=by simp[lvM,LvR]
theorem yqt:zar Tryz.prog kA3 :=
 .cons (by kernel_rfl) yxz <| .cons (by kernel_rfl) yzo <| .cons (by kernel_rfl) yiy <| .cons (by kernel_rfl) ym8 <| .cons (by kernel_rfl) yz4 <| .cons (by kernel_rfl) yn8 <| .cons (by kernel_rfl) yvj <|
 yqs
theorem yse:DictOk Tryz.prog F3:=zay yqt .nil .nil
theorem yq6(l:Int):(bif decide (l<0) then true else decide (l>2)) = !lvM l:=by
 by_cases a:l<0<;>by_cases b:l>2<;>simp[lvM,a,b]<;>omega
theorem yoe:Sound Tryz.prog 127 (zai [u64,i64] [i64] (fun t=>some (U64 t.1)) (fun t=>za7 t.1 t.2)):=by
 refine yci mixed Tryz.func127 (by kernel_rfl) (by kernel_rfl) yse (fun t h => ?_)
 obtain⟨p,l⟩:Int × Int:=t
 have h:U64 p:=h
 have hk:∀k:Int,0≤k→k≤62→zi3 (p,k):=fun k h0 h1=>⟨h,h0,h1⟩
 have e:decide (zes p 54 63>0)=(p/18014398509481984 != 0):=by
  have:=h.1;have:=h.2
  have e:zes p 54 63=p/18014398509481984:=by
   show p/2 ^ 54 % 2 ^ 10=_
   rw[show (2:Int) ^ 54=18014398509481984 by decide]
   exact Int.emod_eq_of_lt (by omega) (by omega)
  rw[e]
  by_cases g:p/18014398509481984=0
  · simp[g]
  · have:p/18014398509481984>0:=by omega
    simp[g,this]
 refine zab (zza p l) ?_
 conv=>zeta
 rw[e,yq6]
 simp only[Bool.cond_true_left,Bool.cond_false_right]
 have hp:=zk7 h
 refine⟨hk _ (by decide) (by decide),hk _ (by decide) (by decide),hk _ (by decide) (by decide),hk _ (by decide) (by decide),hk _ (by decide) (by decide),hk _ (by decide) (by decide),fun _=>hk _ (by decide) (by decide),fun _=>⟨h,by simp only;omega⟩,fun g => ?_,fun g => ?_⟩
 · unfold za7
   rw[if_pos g]
 · have hl:LvR l:=by
    simp only[Bool.or_eq_false_iff,Bool.not_eq_false'] at g
    exact zgq.1 g.1.1.1
   have hn:(!za0 p 1 && !za0 p 2 && !za0 p 3)=(!za0 p 1 && !za0 p 3):=by
    simp only[Bool.or_eq_false_iff] at g
    have:=g.2
    revert this
    cases za0 p 1<;>cases za0 p 2<;>simp
   rw[hn]
   refine⟨fun g2=>⟨fun g3 => ?_,fun g3 => ?_⟩,fun g2 => ?_⟩
   · unfold za7
     rw[if_neg (by simp[g]),if_pos g2,if_pos g3]
   · unfold za7
     rw[if_neg (by simp[g]),if_pos g2,if_neg (by simp[g3])]
   · have key:pw (IntKind.i64.wrap (3*l))=2 ^ (3*l).toNat∧IntKind.i64.wrap (3*l)≤(64:Int):=by
      rcases zcn hl with rfl|rfl|rfl<;>exact⟨by decide,by decide⟩
     have hq:=pow_pos (3*l).toNat
     have hm:=(ztu (zcl p) (3*l).toNat).1
     rw[key.1,zb1 hp.1]
     refine⟨h,key.2,by omega,fun g3 => ?_,fun g3 => ?_⟩
     · have:zcl p % 2 ^ (3*l).toNat≠0:=by
        have:=of_decide_eq_true g3
        omega
       unfold za7
       rw[if_neg (by simp[g]),if_neg (by simp[g2]),if_neg this]
     · have:zcl p % 2 ^ (3*l).toNat=0:=by
        have:=of_decide_eq_false g3
        omega
       unfold za7
       rw[if_neg (by simp[g]),if_neg (by simp[g2]),if_pos this]
theorem zx8:Sound Tryz.prog 43 (zai [u64,i64,i64,bl,bl] [bl] (fun t=>some (U64 t.1)) (fun t=>za5 t.1 t.2.1 t.2.2.1 t.2.2.2.1 t.2.2.2.2)):=by
 refine zlr mixed Tryz.func43 (by kernel_rfl) (by kernel_rfl) yse (fun t h => ?_)
 obtain⟨p,k,m,s,x⟩:Int × Int × Int × Bool × Bool:=t
 have h:U64 p:=h
 have hk:∀k:Int,0≤k→k≤62→zi3 (p,k):=fun k h0 h1=>⟨h,h0,h1⟩
 refine⟨zug p k m s x,zab (zo4 p k m s x) ⟨hk _ (by decide) (by decide),hk _ (by decide) (by decide),hk _ (by decide) (by decide),hk _ (by decide) (by decide),hk _ (by decide) (by decide),hk _ (by decide) (by decide), ?_⟩⟩
 refine⟨fun z=>z=if k=0 then za0 p 3 else false,⟨fun g=>⟨_,⟨rfl,rfl,rfl,rfl,rfl,rfl,rfl,rfl,rfl,rfl,rfl,rfl⟩, ?_⟩,fun g=>⟨_,⟨rfl,rfl,rfl,rfl,rfl,rfl,rfl,rfl,rfl,rfl,rfl,rfl⟩, ?_⟩⟩,fun z1 h1 => ?_⟩
 · simp_all
 · simp_all
 refine⟨fun z=>z=if k=1 then za0 p 1||(x&&za0 p 3) else z1,⟨fun g=>⟨_,⟨rfl,rfl,rfl,rfl,rfl,rfl,rfl,rfl,rfl,rfl,rfl,rfl⟩, ?_⟩,fun g=>⟨_,⟨rfl,rfl,rfl,rfl,rfl,rfl,rfl,rfl,rfl,rfl,rfl,rfl⟩, ?_⟩⟩,fun z2 h2 => ?_⟩
 · simp only[beq_iff_eq] at g;simp[g]
 · simp only[beq_eq_false_iff_ne] at g;simp[g]
 refine⟨fun z=>z=if k=2 then za0 p 2&&za0 p 7 else z2,⟨fun g=>⟨_,⟨rfl,rfl,rfl,rfl,rfl,rfl,rfl,rfl,rfl,rfl,rfl,rfl⟩, ?_⟩,fun g=>⟨_,⟨rfl,rfl,rfl,rfl,rfl,rfl,rfl,rfl,rfl,rfl,rfl,rfl⟩, ?_⟩⟩,fun z3 h3 => ?_⟩
 · simp only[beq_iff_eq] at g;simp[g]
 · simp only[beq_eq_false_iff_ne] at g;simp[g]
 refine⟨fun z=>z=(z3,if m=0 then za0 p 4 else false),⟨fun g=>⟨(z3,za0 p 4),⟨rfl,rfl,rfl,rfl,rfl,rfl,rfl⟩, ?_⟩,fun g=>⟨(z3,false),⟨rfl,rfl,rfl,rfl,rfl,rfl,rfl⟩, ?_⟩⟩,fun z4 h4 => ?_⟩
 · simp only[beq_iff_eq] at g;simp[g]
 · simp only[beq_eq_false_iff_ne] at g;simp[g]
 refine⟨fun z=>z=(z3,if m=1 then !za0 p 4||(k != 0&&s) else z4.2),⟨fun g=>⟨(z4.1,bif !za0 p 4 then true else bif k != 0 then s else false),⟨rfl,rfl,rfl,rfl,rfl,rfl,rfl⟩, ?_⟩,fun g=>⟨z4,⟨rfl,rfl,rfl,rfl,rfl,rfl,rfl⟩, ?_⟩⟩,fun z5 h5 => ?_⟩
 · simp only[beq_iff_eq] at g;simp only at h4;simp[g,h4]
 · simp only[beq_eq_false_iff_ne] at g;simp only at h4;simp[g,h4]
 simp only at h1 h2 h3 h4 h5
 subst h1 h2 h3 h4 h5
 have e1:(if k=2 then za0 p 2&&za0 p 7 else if k=1 then za0 p 1||(x&&za0 p 3) else if k=0 then za0 p 3 else false)=yq7 p k x:=by
  unfold yq7
  by_cases a:k=0
  · subst a;rfl
  · by_cases b:k=1
    · subst b;simp[Bool.and_comm]
    · simp[a,b]
 have e2:(if m=1 then !za0 p 4||(k != 0&&s) else if m=0 then za0 p 4 else false)=ywy p k m s:=by
  unfold ywy
  by_cases a:m=0
  · subst a;rfl
  · simp[a]
 simp only[e1,e2]
 simp[za5]
theorem yoj:Sound Tryz.prog 44 (zai [u64,i64,u64] [u64] (fun t=>some (U64 t.1∧U64 t.2.2)) (fun t=>zck t.1 t.2.1 t.2.2)):=by
 refine zad mixed Tryz.func44 (by kernel_rfl) (by kernel_rfl) yse (fun t h => ?_)
 obtain⟨p,l,va⟩:Int × Int × Int:=t
 obtain⟨h1,h2⟩:U64 p∧U64 va:=h
 refine zab (zzg p l va) ?_
 conv=>zeta
 rw[yq6]
 refine⟨fun g => ?_,fun g => ?_⟩
 · unfold zck
   rw[if_neg (by simpa using g)]
 · have hl:lvM l=true:=by simpa using g
   have hr:=zgq.1 hl
   obtain⟨a,b⟩:=zk7 h1
   have c:=h2.1
   have d:=h2.2
   have key:IntKind.i64.wrap (6+IntKind.i64.wrap (3*l))≤(64:Int)∧pw (IntKind.i64.wrap (6+IntKind.i64.wrap (3*l)))=2 ^ (6+3*l).toNat∧(6+3*l).toNat≤12:=by
    rcases zcn hr with rfl|rfl|rfl<;>exact⟨by decide,by decide,by decide⟩
   have hq:=pow_pos (6+3*l).toNat
   have hle:=zpr (m:=(6+3*l).toNat) (n:=12) key.2.2
   have hd:=Int.emod_add_mul_ediv (zcl p*64) (2 ^ (6+3*l).toNat)
   have hm:=ztu (zcl p*64) (6+3*l).toNat
   have hv:=ztu va (6+3*l).toNat
   have hdv:=zs4 (x:=zcl p*64) (6+3*l).toNat (by omega)
   rw[key.2.1,zah (n:=zcl p*64) (by omega) (by omega),zev (by omega),zb1 c,zah hdv.1 (by omega)]
   rw[Int.mul_comm (2 ^ (6+3*l).toNat) (zcl p*64/2 ^ (6+3*l).toNat)] at hd
   have hnn:=Int.mul_nonneg hdv.1 (Int.le_of_lt hq)
   rw[zah (n:=zcl p*64/2 ^ (6+3*l).toNat*2 ^ (6+3*l).toNat) hnn (by omega),zah (by omega) (by omega)]
   refine⟨key.1,h1,by omega,by omega, ?_⟩
   unfold zck
   rw[if_pos hl]
theorem zc4:zar Tryz.prog kA4 :=
 .cons (by kernel_rfl) yoe <| .cons (by kernel_rfl) zx8 <| .cons (by kernel_rfl) yoj yqt
end Go.Proofs.YtfiddfbagbaofaaGreat.V
