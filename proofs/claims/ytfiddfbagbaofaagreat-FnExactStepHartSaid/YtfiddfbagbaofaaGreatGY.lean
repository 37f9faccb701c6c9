/- Translating through caches, and the laws' helpers on caches, answer as their models. Conditions: those in each statement. -/
import Derived.Test.YtfiddfbagbaofaaGreatGX
import Derived.KernelRfl
namespace Go.Proofs.YtfiddfbagbaofaaGreat.V
open Go
def zbr(k:Cch):Bool:=zaj false k.1&&zaj false k.2.1&&zaj true k.2.2
def ChR(k:Cch):Prop:=TlR k.1∧TlR k.2.1∧TlR k.2.2
def yez(m:By)(c:Ct)(k:Cch)(kind va pick:Int):Prop:=zaz m∧U64 c.2.2.2∧U64 va∧zbr k=true∧ChR k∧0≤pick∧pick≤255∧0≤kind∧kind≤2
def ybp(k:Nat)(r:TrR):Prop:=match k with|0=>r.1=0|1=>r.1=1|_=>r.1=2
def trS(k:Nat):Sum:=fun args H=>match args,H with
 | [.ptr 0 0,.sl 4 1 0 n,.agg [.v (.int .i64 c0),.v (.bool c1),.v (.bool c2),.v (.int .u64 c3)],.v (.int .i64 kind),.v (.int .u64 va),.v (.int .i64 pick)],[b0,b1,b2,b3,.arr sh m false] =>
  if h:sh=[.i .u8] then (match getH 0 [b0,b1,b2,b3] with
   | some (n3,I,D,P)=>some (some (n=(h ▸ m:List (El [.i .u8])).length∧n3=zqn I D P∧yez (h ▸ m:List (El [.i .u8])) (c0,c1,c2,c3) (I,D,P) kind va pick∧ybp k (trM (h ▸ m:List (El [.i .u8])) (c0,c1,c2,c3) (I,D,P) kind va pick)),
    .tup [.v (.int .u64 (trM (h ▸ m:List (El [.i .u8])) (c0,c1,c2,c3) (I,D,P) kind va pick).2.1),ym5 k (trM (h ▸ m:List (El [.i .u8])) (c0,c1,c2,c3) (I,D,P) kind va pick).2.2.1],trH (h ▸ m:List (El [.i .u8])) (trM (h ▸ m:List (El [.i .u8])) (c0,c1,c2,c3) (I,D,P) kind va pick).2.2.2)
   | none=>none) else none
 | _,_=>none
abbrev chP:Pm := .st [.i .i64,.i .i64,.sl shE,.i .i64,.i .i64,.sl shE,.i .i64,.i .i64,.sl shE]
abbrev ttP:Pm := .st [.i .i64,.i .u64,.i .i64,.i .i64,.sl shE,.i .i64,.i .i64,.sl shE,.i .i64,.i .i64,.sl shE]
abbrev Cf:=Int × Int × Es × Int × Int × Es × Int × Int × Es
def toC(x:Cf):Cch:=((x.1,x.2.1,x.2.2.1),(x.2.2.2.1,x.2.2.2.2.1,x.2.2.2.2.2.1),(x.2.2.2.2.2.2.1,x.2.2.2.2.2.2.2.1,x.2.2.2.2.2.2.2.2))
def ofC(k:Cch):Cf:=(k.1.1,k.1.2.1,k.1.2.2,k.2.1.1,k.2.1.2.1,k.2.1.2.2,k.2.2.1,k.2.2.2.1,k.2.2.2.2)
def SzC(k:Cch):Prop:=SzR k.1.2.2.length∧SzR k.2.1.2.2.length∧SzR k.2.2.2.2.length
def zbi(e:Nat)(kind:Int):Int:=if e=0 then 0 else if e=1 then afM kind else pfM kind
def okT(c:Ct)(k:Cch)(kind pick:Int):Bool:=zbr k&&zlt c kind&&decide (0≤pick)&&decide (pick≤255)
def zC:Cch:=((0,0,[]),(0,0,[]),(0,0,[]))
def yek(m:By)(c:Ct)(k:Cch)(kind va pick:Int):Int × Int × Cch:=if okT c k kind pick=true then (zbi (trM m c k kind va pick).1 kind,(trM m c k kind va pick).2.1,(trM m c k kind va pick).2.2.2) else (63,0,zC)
def zn6(m:By)(c:Ct)(x:Cf)(kind va pick:Int):Int × Int × Cf:=((yek m c (toC x) kind va pick).1,(yek m c (toC x) kind va pick).2.1,ofC (yek m c (toC x) kind va pick).2.2)
def zs6(k:Cch)(n:Int):Cch:=((k.1.1,k.1.2.1,zan n k.1.2.2.length),(k.2.1.1,k.2.1.2.1,zan (n+6*k.1.2.2.length) k.2.1.2.2.length),(k.2.2.1,k.2.2.2.1,zan (n+6*k.1.2.2.length+6*k.2.1.2.2.length) k.2.2.2.2.length))
def zr2(k:Cch)(n:Int):Prop:=SzC k∧0≤n∧n≤1099511627776-60000000
def szC(k:Cch)(n:Int):Int:=if szM k.1.2.2.length n<0 then -1 else if szM k.2.1.2.2.length (szM k.1.2.2.length n)<0 then -1 else szM k.2.2.2.2.length (szM k.2.1.2.2.length (szM k.1.2.2.length n))
def kY0:Known:=kJ1++kX2++kN2
def FY0:Dict:=mkD kY0 [(132,(3,fun k=>znt 9 (trS k)))] []
def yjv(s1 w1:Int)(m1:Es)(s2 w2:Int)(m2:Es)(s3 w3:Int)(m3:Es):Prop:=zag Tryz.prog FY0 .none Tryz.f129 [chP] [bl] (s1,w1,m1,s2,w2,m2,s3,w3,m3) (zbr ((s1,w1,m1),(s2,w2,m2),(s3,w3,m3)))
def yjt(s1 w1:Int)(m1:Es)(s2 w2:Int)(m2:Es)(s3 w3:Int)(m3:Es):Prop:=zag Tryz.prog FY0 .none Tryz.f131 [chP] [chP] (s1,w1,m1,s2,w2,m2,s3,w3,m3) (s1,w1,m1,s2,w2,m2,s3,w3,m3)
def yld(s1 w1:Int)(m1:Es)(s2 w2:Int)(m2:Es)(s3 w3:Int)(m3:Es):Prop:=zag Tryz.prog FY0 .none Tryz.f119 [chP] [bl] (s1,w1,m1,s2,w2,m2,s3,w3,m3) (zbr ((s1,w1,m1),(s2,w2,m2),(s3,w3,m3)))
def ydu(s1 w1:Int)(m1:Es)(s2 w2:Int)(m2:Es)(s3 w3:Int)(m3:Es):Prop:=zag Tryz.prog FY0 .none Tryz.f120 [chP] [chP] (s1,w1,m1,s2,w2,m2,s3,w3,m3) (s1,w1,m1,s2,w2,m2,s3,w3,m3)
def ylb(l va s p:Int):Prop:=zag Tryz.prog FY0 .none Tryz.f87 [i64,u64,u64,u64] [enP] (l,va,s,p) (zbk l va s p)
def ybb1(s1 w1:Int)(m1:Es)(s2 w2:Int)(m2:Es)(s3 w3:Int)(m3:Es)(n:Int):Prop:=zag Tryz.prog FY0 .none Tryz.f145 [chP,i64] [i64] ((s1,w1,m1,s2,w2,m2,s3,w3,m3),n) (szC ((s1,w1,m1),(s2,w2,m2),(s3,w3,m3)) n)
def ybe1(s1 w1:Int)(m1:Es)(s2 w2:Int)(m2:Es)(s3 w3:Int)(m3:Es):Prop:=zag Tryz.prog FY0 .none Tryz.f148 [chP] [chP] (s1,w1,m1,s2,w2,m2,s3,w3,m3) (s1,w1,m1,s2,w2,m2,s3,w3,m3)
def yaz1(s1 w1:Int)(m1:Es)(s2 w2:Int)(m2:Es)(s3 w3:Int)(m3:Es):Prop:=zag Tryz.prog FY0 .none Tryz.f150 [chP,chP] [bl] ((s1,w1,m1,s2,w2,m2,s3,w3,m3),(s1,w1,m1,s2,w2,m2,s3,w3,m3)) true
def ypx(s1 w1:Int)(m1:Es)(s2 w2:Int)(m2:Es)(s3 w3:Int)(m3:Es)(n:Int):Prop:=zkc Tryz.prog FY0 .none Tryz.f151 [chP,i64] [i64] ((s1,w1,m1,s2,w2,m2,s3,w3,m3),n) ((ofC (zs6 ((s1,w1,m1),(s2,w2,m2),(s3,w3,m3)) n),n),n+6*m1.length+6*m2.length+6*m3.length)
def ypl(s1 w1:Int)(m1:Es)(s2 w2:Int)(m2:Es)(s3 w3:Int)(m3:Es)(n:Int):Prop:=zag Tryz.prog FY0 .none Tryz.f205 [chP,i64] [i64] ((s1,w1,m1,s2,w2,m2,s3,w3,m3),n) (n+6*m1.length+6*m2.length+6*m3.length)
def kY1:Known:=[
 (129,zad [chP] [bl] (fun x=>some (ChR (toC x))) (fun x=>zbr (toC x))),
 (131,zad [chP] [chP] (fun x=>some (SzC (toC x))) (fun x=>x)),
 (119,zad [chP] [bl] (fun x=>some (ChR (toC x))) (fun x=>zbr (toC x))),
 (120,zad [chP] [chP] (fun x=>some (SzC (toC x))) (fun x=>x)),
 (87,zad [i64,u64,u64,u64] [enP] (fun t=>some (LvR t.1∧U64 t.2.1∧U64 t.2.2.1∧U64 t.2.2.2)) (fun t=>zbk t.1 t.2.1 t.2.2.1 t.2.2.2)),
 (145,zad [chP,i64] [i64] (fun t=>some ((t.1.2.2.1.length≤maxLen∧t.1.2.2.2.2.2.1.length≤maxLen∧t.1.2.2.2.2.2.2.2.2.length≤maxLen)∧0≤t.2∧t.2≤1048576)) (fun t=>szC (toC t.1) t.2)),
 (148,zad [chP] [chP] (fun x=>some (SzC (toC x))) (fun x=>x)),
 (150,zad [chP,chP] [bl] (fun t=>some (t.1=t.2∧SzC (toC t.1))) (fun _=>true)),
 (151,zo8 [chP,i64] [i64] (fun t=>some (zr2 (toC t.1) t.2)) (fun t=>((ofC (zs6 (toC t.1) t.2),t.2),t.2+6*t.1.2.2.1.length+6*t.1.2.2.2.2.2.1.length+6*t.1.2.2.2.2.2.2.2.2.length))),
 (205,zad [chP,i64] [i64] (fun t=>some (zr2 (toC t.1) t.2∧toC t.1=zs6 (toC t.1) t.2)) (fun t=>t.2+6*t.1.2.2.1.length+6*t.1.2.2.2.2.2.1.length+6*t.1.2.2.2.2.2.2.2.2.length))]
set_option linter.unusedVariables false
theorem zt6(s1 w1:Int)(m1:Es)(s2 w2:Int)(m2:Es)(s3 w3:Int)(m3:Es):yjv s1 w1 m1 s2 w2 m2 s3 w3 m3=(
 (List.length m1=List.length m1∧TlR (s1,w1,m1))∧(zaj false (s1,w1,m1)=true→List.length m2=List.length m2∧TlR (s2,w2,m2))∧((bif zaj false (s1,w1,m1) then zaj false (s2,w2,m2) else false)=true→List.length
 m3=List.length m3∧TlR (s3,w3,m3))∧(zbr ((s1,w1,m1),(s2,w2,m2),s3,w3,m3)=bif bif zaj false (s1,w1,m1) then zaj false (s2,w2,m2) else false then zaj true (s3,w3,m3) else false)∧m1=m1∧m2=m2∧m3=m3):=by kernel_rfl
theorem zt4(s1 w1:Int)(m1:Es)(s2 w2:Int)(m2:Es)(s3 w3:Int)(m3:Es):yjt s1 w1 m1 s2 w2 m2 s3 w3 m3=(
 (List.length m1=List.length m1∧SzR (List.length m1))∧(List.length m2=List.length m2∧SzR (List.length m2))∧(List.length m3=List.length m3∧SzR (List.length m3))∧s1=s1∧w1=w1∧(0:Nat)=0∧List.length m1 =
 List.length m1∧s2=s2∧w2=w2∧(0:Nat)=0∧List.length m2=List.length m2∧s3=s3∧w3=w3∧(0:Nat)=0∧List.length m3=List.length m3∧m1=m1∧m2=m2∧m3=m3∧m1=m1∧m2=m2∧m3=m3):=by kernel_rfl
theorem zu9(s1 w1:Int)(m1:Es)(s2 w2:Int)(m2:Es)(s3 w3:Int)(m3:Es):yld s1 w1 m1 s2 w2 m2 s3 w3 m3=(
 (List.length m1=List.length m1∧TlR (s1,w1,m1))∧(zaj false (s1,w1,m1)=true→List.length m2=List.length m2∧TlR (s2,w2,m2))∧((bif zaj false (s1,w1,m1) then zaj false (s2,w2,m2) else false)=true→List.length
 m3=List.length m3∧TlR (s3,w3,m3))∧(zbr ((s1,w1,m1),(s2,w2,m2),s3,w3,m3)=bif bif zaj false (s1,w1,m1) then zaj false (s2,w2,m2) else false then zaj true (s3,w3,m3) else false)∧m1=m1∧m2=m2∧m3=m3):=by kernel_rfl
theorem zrq(s1 w1:Int)(m1:Es)(s2 w2:Int)(m2:Es)(s3 w3:Int)(m3:Es):ydu s1 w1 m1 s2 w2 m2 s3 w3 m3=(
 (List.length m1=List.length m1∧SzR (List.length m1))∧(List.length m2=List.length m2∧SzR (List.length m2))∧(List.length m3=List.length m3∧SzR (List.length m3))∧s1=s1∧w1=w1∧(0:Nat)=0∧List.length m1 =
 List.length m1∧s2=s2∧w2=w2∧(0:Nat)=0∧List.length m2=List.length m2∧s3=s3∧w3=w3∧(0:Nat)=0∧List.length m3=List.length m3∧m1=m1∧m2=m2∧m3=m3∧m1=m1∧m2=m2∧m3=m3):=by kernel_rfl
theorem zu8(l va s p:Int):ylb l va s p=(
 (U64 va∧LvR l)∧U64 s∧zhu (p,5)∧(zbk l va s p).fst=true∧(zbk l va s p).snd.fst=l∧(zbk l va s p).snd.snd.fst=zjo va l∧(zbk l va s p).snd.snd.snd.fst=za7 s∧(zbk l va s p).snd.snd.snd.snd.fst=zax p
 5∧(zbk l va s p).snd.snd.snd.snd.snd=p):=by kernel_rfl
theorem ylh(s1 w1:Int)(m1:Es)(s2 w2:Int)(m2:Es)(s3 w3:Int)(m3:Es)(n:Int):ybb1 s1 w1 m1 s2 w2 m2 s3 w3 m3 n=(
 let A0(a:Es)(b:Int):=szM (List.length a) b;
 let A1(a b:Int)(c:Es):=(a,b,c);
 let A2(a:Int):=a≤(1048576:PmT [i64]);
 let A3(a:Es):=List.length a≤9223372036854775807;
 let A4(a:Int)(b:Bool)(c d e:Prop):=decide (a<0)=b→c∧d∧e;
 let A5:=A0 m2 (A0 m1 n);
 let A6(a:Es)(b:Int):=List.length a=List.length a∧A3 a∧(0:PmT [i64])≤b∧A2 b;
 let A7(a:Es)(b:Int)(c:Bool)(d:Int):=A4 (A0 a b) c (szC (A1 s1 w1 m1,A1 s2 w2 m2,A1 s3 w3 m3) n=d) (m1=m1) (m2=m2∧m3=m3);
 let A8(a:Int)(b:Prop)(c:Int)(d:Prop):=A4 a false b (A4 c true (szC (A1 s1 w1 m1,A1 s2 w2 m2,A1 s3 w3 m3) n=(-1)) (m1=m1) (m2=m2∧m3=m3)) d;
 A6 m1 n∧A7 m1 n true (-1)∧A8 (A0 m1 n) (A6 m2 (A0 m1 n)) A5 (A8 A5 (List.length m3=List.length m3∧A3 m3∧(0:PmT [i64])≤A5∧A2 A5) (A0 m3 A5) (A7 m3 A5 false (A0 m3 A5)))):=by kernel_rfl
theorem ylq(s1 w1:Int)(m1:Es)(s2 w2:Int)(m2:Es)(s3 w3:Int)(m3:Es):ybe1 s1 w1 m1 s2 w2 m2 s3 w3 m3=(
 (List.length m1=List.length m1∧SzR (List.length m1))∧(List.length m2=List.length m2∧SzR (List.length m2))∧(List.length m3=List.length m3∧SzR (List.length m3))∧s1=s1∧w1=w1∧(0:Nat)=0∧List.length m1 =
 List.length m1∧s2=s2∧w2=w2∧(0:Nat)=0∧List.length m2=List.length m2∧s3=s3∧w3=w3∧(0:Nat)=0∧List.length m3=List.length m3∧m1=m1∧m2=m2∧m3=m3∧m1=m1∧m2=m2∧m3=m3):=by kernel_rfl
theorem yjy(s1 w1:Int)(m1:Es)(s2 w2:Int)(m2:Es)(s3 w3:Int)(m3:Es):yaz1 s1 w1 m1 s2 w2 m2 s3 w3 m3=(
 (List.length m1=List.length m1∧List.length m1=List.length m1∧(s1,w1,m1)=(s1,w1,m1)∧SzR (List.length m1))∧((!true)=true→true=false∧m1=m1∧m2=m2∧m3=m3∧m1=m1∧m2=m2∧m3=m3)∧((!true)=false →
 (List.length m2=List.length m2∧List.length m2=List.length m2∧(s2,w2,m2)=(s2,w2,m2)∧SzR (List.length m2))∧((!true)=true→true=false∧m1=m1∧m2=m2∧m3=m3∧m1=m1∧m2=m2∧m3=m3)∧((!true)=false →
 (List.length m3=List.length m3∧List.length m3=List.length m3∧(s3,w3,m3)=(s3,w3,m3)∧SzR (List.length m3))∧((!true)=true→true=false∧m1=m1∧m2=m2∧m3=m3∧m1=m1∧m2=m2∧m3=m3)∧((!true)=false→true
 = true∧m1=m1∧m2=m2∧m3=m3∧m1=m1∧m2=m2∧m3=m3)))):=by kernel_rfl
theorem zyq(s1 w1:Int)(m1:Es)(s2 w2:Int)(m2:Es)(s3 w3:Int)(m3:Es)(n:Int):ypx s1 w1 m1 s2 w2 m2 s3 w3 m3 n=(
 (List.length m1=List.length m1∧zb8 (List.length m1) n)∧(List.length m2=List.length m2∧zb8 (List.length m2) (n+(6:PmT [i64])*(↑(List.length m1):PmT [i64])))∧(List.length m3=List.length m3∧zb8 (List.length m3) (n
 + (6:PmT [i64])*(↑(List.length m1):PmT [i64])+(6:PmT [i64])*(↑(List.length m2):PmT [i64])))∧n+(6:PmT [i64])*(↑(List.length m1):PmT [i64])+(6:PmT [i64])*(↑(List.length m2):PmT [i64])+(6:PmT [i64]) *
 (↑(List.length m3):PmT [i64])=n+(6:PmT [i64])*(↑(List.length m1):PmT [i64])+(6:PmT [i64])*(↑(List.length m2):PmT [i64])+(6:PmT [i64])*(↑(List.length m3):PmT [i64])∧zan n (List.length m1)=zan n
 (List.length m1)∧zan (n+6*(↑(List.length m1):Int)) (List.length m2)=zan (n+(6:PmT [i64])*(↑(List.length m1):PmT [i64])) (List.length m2)∧zan (n+6*(↑(List.length m1):Int)+6 *
 (↑(List.length m2):Int)) (List.length m3)=zan (n+(6:PmT [i64])*(↑(List.length m1):PmT [i64])+(6:PmT [i64])*(↑(List.length m2):PmT [i64])) (List.length m3)):=by kernel_rfl
theorem zx9(s1 w1:Int)(m1:Es)(s2 w2:Int)(m2:Es)(s3 w3:Int)(m3:Es)(n:Int):ypl s1 w1 m1 s2 w2 m2 s3 w3 m3 n=(
 let A0(a:Es):=(6:PmT [i64])*(↑(List.length a):PmT [i64]);
 let A1:=List.length m1;
 let A2:=n+A0 m1+A0 m2;
 let A3(a:PmT [i64])(b:Bool)(c:Prop):=decide (a<0)=b→c;
 let A4(a b:Prop)(c d:Es):=a∧b∧c=d;
 let A5(a:Es)(b:PmT [i64]):=A4 (List.length a=List.length a) (zb8 (List.length a) b) a (zan b (List.length a));
 let A6:=n+A0 m1+A0 m2+A0 m3;
 let A7(a:Prop):=a∧A4 (m1=m1) (m2=m2) m3 m3;
 let A8(a:Prop)(b:PmT [i64])(c:Prop):=a∧A3 b true (A6=(-1)∧A4 (m1=m1) (m2=m2) m3 m3)∧A3 b false c;
 A8 (A4 (A1=A1) (zb8 A1 n) m1 (zan n A1)) (n+A0 m1) (A5 m2 (n+A0 m1)∧A3 A2 true (A7 (A6=(-1)))∧A3 A2 false (A8 (A5 m3 A2) (A2+A0 m3) (A7 (A6=A2+A0 m3))))):=by kernel_rfl
set_option linter.unusedSimpArgs false
theorem zoz{va asid:Int}{m:Es}:∀n:Nat,n≤m.length→(zd5 va asid m n=(false,0,0,0))∨∃i,i<n∧zdm (m.getD i zE) va asid=true∧zd5 va asid m n=(true,(i:Int),(m.getD i zE).2.1,(m.getD i zE).2.2.2.2.2)
 | 0,_ => .inl rfl
 | n+1,h=>by
  unfold zd5 zc3
  split
  · rename_i q
    simp only[Bool.and_eq_true] at q
    exact .inr ⟨n,by omega,q.1,rfl⟩
  · rcases zoz (va:=va) (asid:=asid) (m:=m) n (by omega) with e|⟨i,h1,h2,h3⟩
    · exact .inl e
    · exact .inr ⟨i,by omega,h2,h3⟩
theorem yf6{va asid:Int}{m:Es}(h:(za0 va asid m).1=true):∃i,i<m.length∧zdm (m.getD i zE) va asid=true∧za0 va asid m=(true,(i:Int),(m.getD i zE).2.1,(m.getD i zE).2.2.2.2.2):=by
 rcases zoz (va:=va) (asid:=asid) (m:=m) m.length (Nat.le_refl _) with e|e
 · unfold za0 at h
   rw[e] at h
   cases h
 · exact e
theorem ycu{p:Bool}{t:Tl}(h:zaj p t=true){i:Nat}(hi:i<t.2.2.length)(hv:(t.2.2.getD i zE).1=true):zb2 p (t.2.2.getD i zE)=true:=by
 simp only[zaj,Bool.and_eq_true] at h
 have:=zcf.1 h.2 i hi
 simp only[zlb,Bool.or_eq_true,Bool.and_eq_true] at this
 rcases this with e|e
 · have e:t.2.2.getD i zE=zE:=by simpa using e
   rw[e] at hv
   cases hv
 · exact e.1
theorem ygh{p:Bool}{e:En}(h:zb2 p e=true):LvR e.2.1∧za2 e.2.2.2.2.2 e.2.1=zvt p:=by
 simp only[zb2,Bool.and_eq_true,decide_eq_true_eq,beq_iff_eq] at h
 exact⟨zed.1 h.1.1.1.1.2,h.2⟩
theorem zdv{p:Bool}{t:Tl}{va asid:Int}(h:zaj p t=true)(ht:TlR t)(hf:(za0 va asid t.2.2).1=true):LvR (za0 va asid t.2.2).2.2.1∧U64 (za0 va asid t.2.2).2.2.2∧za2 (za0 va asid t.2.2).2.2.2 (za0 va asid t.2.2).2.2.1=zvt p:=by
 obtain⟨i,hi,hfit,e⟩:=yf6 hf
 rw[e]
 have hv:(t.2.2.getD i zE).1=true:=by
  simp only[zdm,Bool.and_eq_true] at hfit
  exact hfit.1.1
 obtain⟨h1,h2⟩:=ygh (ycu h hi hv)
 exact⟨h1,(ht.2.2.2 _ (zma hi zE)).2.2.2,h2⟩
theorem zql{p l:Int}(h:za2 p l=1):l≠0:=yai (by rw[h];decide) (by rw[h];decide)
theorem zek{m:By}{satp va:Int}{P:Tl}(hm:zaz m)(hv:U64 va)(hP:zaj true P=true)(hR:TlR P):zfi m (zal satp va P).1 (zal satp va P).2 va:=by
 unfold zal
 split
 · rename_i hf
   obtain⟨h1,h2,h3⟩:=zdv hP hR hf
   have h4:=zql (show za2 _ _=1 from h3)
   obtain⟨g0,g1⟩:=zkp h2
   exact⟨hm,g0,g1,⟨by have:=h1.1;show 0≤_-1;omega,by have:=h1.2;show _-1≤(2:Int);omega⟩,hv⟩
 · exact⟨hm,Int.emod_nonneg _ (by decide),Int.emod_lt_of_pos _ (by decide),⟨show (0:Int)≤2 by decide,show (2:Int)≤2 by decide⟩,hv⟩
theorem zbs{p:Bool}{t:Tl}(h:zaj p t=true):za8 t=true:=by cases p<;>simp[za8,h]
theorem yau1(m:By)(s1 w1:Int)(m1:Es)(s2 w2:Int)(m2:Es)(s3 w3:Int)(m3:Es)(c0:Int)(c1 c2:Bool)(c3 kind va pick:Int)(h:yez m (c0,c1,c2,c3) ((s1,w1,m1),(s2,w2,m2),(s3,w3,m3)) kind va pick)(hk:kind=0){e:Nat}{pa l:Int}{t1 t2 t3:Es}(hr:trM m (c0,c1,c2,c3) ((s1,w1,m1),(s2,w2,m2),(s3,w3,m3)) kind va pick=(e,pa,l,(s1,w1,t1),(s2,w2,t2),(s3,w3,t3))):ys6 m s1 w1 m1 s2 w2 m2 s3 w3 m3 c0 c1 c2 c3 kind va pick e pa l t1 t2 t3:=by
 obtain⟨hm,hc3,hv,hgc,⟨r1,r2,r3⟩,p0,p1, -, -⟩:=h
 have hc3:U64 c3:=hc3
 simp only[zbr,Bool.and_eq_true] at hgc
 obtain⟨⟨g1,g2⟩,g3⟩:=hgc
 have hd1:=zbv g1
 have hd2:=zbv g2
 have hd3:=zbv g3
 have hpick:∀k:Cch,ze0 kind k=k.1:=fun k=>by unfold ze0;rw[if_pos hk]
 have hput:∀(k:Cch)(t:Tl),zn5 kind k t=(t,k.2.1,k.2.2):=fun k t=>by unfold zn5;rw[if_pos hk]
 refine zae (ylv m s1 w1 m1 s2 w2 m2 s3 w3 m3 c0 c1 c2 c3 kind va pick e pa l t1 t2 t3) ?_
 conv=>zeta
 refine⟨hc3,fun q => ?_,fun q=>⟨hv,fun q2 => ?_,fun q2=>⟨by simp[hk],hc3,⟨rfl,zbs g1,r1,hv⟩,za0 va (za7 c3) m1,by simp,fun q3 => ?_,fun q3=>⟨hc3,hc3,⟨rfl,zbs g3,r3,hv⟩,za0 va (za7 c3) m3,by simp,fun q4 => ?_,fun q4 => ?_⟩⟩⟩⟩
 · have q:onM (c0,c1,c2,c3)=false:=by simpa using q
   unfold trM at hr
   rw[if_pos q] at hr
   cases hr
   simp
 · have q:¬ onM (c0,c1,c2,c3)=false:=by simpa using q
   have q2:zee va=false:=by simpa using q2
   unfold trM at hr
   rw[if_neg q,if_pos q2] at hr
   cases hr
   simp
 · have q:¬ onM (c0,c1,c2,c3)=false:=by simpa using q
   have q2:¬ zee va=false:=by simpa using q2
   unfold trM at hr
   rw[if_neg q,if_neg q2,hpick,if_pos q3] at hr
   obtain⟨u1,u2,u3⟩:=zdv g1 r1 q3
   simp only at u1 u2 hr
   generalize za0 va (za7 c3) m1=H at *
   refine⟨u2,fun g => ?_,fun g=>⟨⟨u2,u1,hv⟩, ?_⟩⟩
   · have g:za3 H.2.2.2 kind c0 c1 c2=false:=by simpa using g
     have hr2:((2,0,H.2.2.1,((s1,w1,m1),(s2,w2,m2),(s3,w3,m3))):TrR)=(e,pa,l,(s1,w1,t1),(s2,w2,t2),(s3,w3,t3)):=by rw[← hr];unfold ygv;rw[if_neg (by rw[g];simp)]
     cases hr2
     simp
   · have g:za3 H.2.2.2 kind c0 c1 c2=true:=by simpa using g
     have hr2:((0,zce H.2.2.2 H.2.2.1 va,0,((s1,w1,m1),(s2,w2,m2),(s3,w3,m3))):TrR)=(e,pa,l,(s1,w1,t1),(s2,w2,t2),(s3,w3,t3)):=by rw[← hr];unfold ygv;rw[if_pos g]
     cases hr2
     simp
 · have q:¬ onM (c0,c1,c2,c3)=false:=by simpa using q
   have q2:¬ zee va=false:=by simpa using q2
   unfold trM at hr
   rw[if_neg q,if_neg q2,hpick,if_neg (by rw[q3];simp)] at hr
   unfold zkv at hr
   simp only at hr
   have hst:=zek (satp:=c3) hm hv g3 r3
   have es:zal c3 va (s3,w3,m3)=(zch (za0 va (za7 c3) m3).2.2.2,(za0 va (za7 c3) m3).2.2.1-1):=by unfold zal;rw[if_pos q4]
   obtain⟨u1,u2,u3⟩:=zdv g3 r3 q4
   simp only at u1 u2
   have ew:IntKind.i64.wrap ((za0 va (za7 c3) m3).2.2.1-1)=(za0 va (za7 c3) m3).2.2.1-1:=zac (by have:=u1.1;omega) (by have:=u1.2;omega)
   refine⟨u2,zal c3 va (s3,w3,m3),by simp[es,ew], ?_⟩
   clear es
   generalize zal c3 va (s3,w3,m3)=st at *
   have hc:=zbw m va (st.2+1).toNat st.1
   have hleaf:=zbq (va:=va) hm (st.2+1).toNat st.1
   have hR:zfi m st.1 st.2 va∧zcb s3 w3 m3=true∧U64 c3∧0≤pick∧pick≤255:=⟨hst,hd3,hc3,p0,p1⟩
   generalize za4 m va (st.2+1).toNat st.1=W at *
   refine⟨?_,fun a0 => ?_,fun a0 => ?_,fun a0 => ?_⟩
   · rcases hc with a0|a0|a0
     · exact .inl ⟨rfl,rfl,rfl,hR,a0⟩
     · exact .inr (.inl ⟨rfl,rfl,rfl,hR,a0⟩)
     · exact .inr (.inr ⟨rfl,rfl,rfl,hR,a0⟩)
   · have a0:W.1=1:=a0.2.2.2.2
     obtain⟨u1,u2,u3⟩:=hleaf a0
     have ul:LvR W.2.1:=⟨u2,by have:=hst.2.2.2.1.2;omega⟩
     refine⟨fun _=>u1,fun g => ?_,fun g=>⟨fun g2=>absurd g2 (by decide),fun _=>⟨⟨rfl,hd1,ul,hv,hc3,u1,p0,p1⟩,⟨u1,ul,hv⟩, ?_⟩⟩⟩
     · have g:za3 W.2.2.1 kind c0 c1 c2=false:=by simpa using g
       have hr2:((2,0,W.2.1,(s1,w1,m1),(s2,w2,m2),(s3,w3,(zaf va c3 pick (s3,w3,m3) W.2.2.2).2.2)):TrR)=(e,pa,l,(s1,w1,t1),(s2,w2,t2),(s3,w3,t3)):=by
        rw[← hr];unfold zgj;rw[if_pos a0,if_neg (by rw[g];simp)]
       cases hr2
       simp
     · have g:za3 W.2.2.1 kind c0 c1 c2=true:=by simpa using g
       have hr2:((0,zce W.2.2.1 W.2.1 va,0,zn5 kind ((s1,w1,m1),(s2,w2,m2),(s3,w3,(zaf va c3 pick (s3,w3,m3) W.2.2.2).2.2)) (zec (ze0 kind ((s1,w1,m1),(s2,w2,m2),(s3,w3,(zaf va c3 pick (s3,w3,m3) W.2.2.2).2.2))) (zbk W.2.1 va c3 W.2.2.1) pick)):TrR)=(e,pa,l,(s1,w1,t1),(s2,w2,t2),(s3,w3,t3)):=by
        rw[← hr];unfold zgj;rw[if_pos a0,if_pos g]
       rw[hput,hpick] at hr2
       simp only[Prod.mk.injEq] at hr2
       obtain⟨rfl,rfl, -,h1,h2,h3⟩:=hr2
       obtain⟨-, -,rfl⟩:=h2
       obtain⟨-, -,rfl⟩:=h3
       have h1:(zec (s1,w1,m1) (zbk W.2.1 va c3 W.2.2.1) pick)=(s1,w1,t1):=h1
       have h1':t1=(zec (s1,w1,m1) (zbk W.2.1 va c3 W.2.2.1) pick).2.2:=by rw[h1]
       subst h1'
       simp[zec]
   · have a0:W.1=3:=a0.2.2.2.2
     have hr2:((1,0,W.2.1,(s1,w1,m1),(s2,w2,m2),(s3,w3,(zaf va c3 pick (s3,w3,m3) W.2.2.2).2.2)):TrR)=(e,pa,l,(s1,w1,t1),(s2,w2,t2),(s3,w3,t3)):=by
      rw[← hr];unfold zgj;rw[if_neg (by rw[a0];decide),if_pos a0]
     cases hr2
     simp
   · have a0:W.1=2:=a0.2.2.2.2
     have hr2:((2,0,W.2.1,(s1,w1,m1),(s2,w2,m2),(s3,w3,(zaf va c3 pick (s3,w3,m3) W.2.2.2).2.2)):TrR)=(e,pa,l,(s1,w1,t1),(s2,w2,t2),(s3,w3,t3)):=by
      rw[← hr];unfold zgj;rw[if_neg (by rw[a0];decide),if_neg (by rw[a0];decide)]
     cases hr2
     simp
 · have q:¬ onM (c0,c1,c2,c3)=false:=by simpa using q
   have q2:¬ zee va=false:=by simpa using q2
   unfold trM at hr
   rw[if_neg q,if_neg q2,hpick,if_neg (by rw[q3];simp)] at hr
   unfold zkv at hr
   simp only at hr
   have hst:=zek (satp:=c3) hm hv g3 r3
   have es:zal c3 va (s3,w3,m3)=(ze1 c3,2):=by unfold zal;rw[if_neg (by rw[q4];simp)]
   refine⟨zal c3 va (s3,w3,m3),by simp[es], ?_⟩
   clear es
   generalize zal c3 va (s3,w3,m3)=st at *
   have hc:=zbw m va (st.2+1).toNat st.1
   have hleaf:=zbq (va:=va) hm (st.2+1).toNat st.1
   have hR:zfi m st.1 st.2 va∧zcb s3 w3 m3=true∧U64 c3∧0≤pick∧pick≤255:=⟨hst,hd3,hc3,p0,p1⟩
   generalize za4 m va (st.2+1).toNat st.1=W at *
   refine⟨?_,fun a0 => ?_,fun a0 => ?_,fun a0 => ?_⟩
   · rcases hc with a0|a0|a0
     · exact .inl ⟨rfl,rfl,rfl,hR,a0⟩
     · exact .inr (.inl ⟨rfl,rfl,rfl,hR,a0⟩)
     · exact .inr (.inr ⟨rfl,rfl,rfl,hR,a0⟩)
   · have a0:W.1=1:=a0.2.2.2.2
     obtain⟨u1,u2,u3⟩:=hleaf a0
     have ul:LvR W.2.1:=⟨u2,by have:=hst.2.2.2.1.2;omega⟩
     refine⟨fun _=>u1,fun g => ?_,fun g=>⟨fun g2=>absurd g2 (by decide),fun _=>⟨⟨rfl,hd1,ul,hv,hc3,u1,p0,p1⟩,⟨u1,ul,hv⟩, ?_⟩⟩⟩
     · have g:za3 W.2.2.1 kind c0 c1 c2=false:=by simpa using g
       have hr2:((2,0,W.2.1,(s1,w1,m1),(s2,w2,m2),(s3,w3,(zaf va c3 pick (s3,w3,m3) W.2.2.2).2.2)):TrR)=(e,pa,l,(s1,w1,t1),(s2,w2,t2),(s3,w3,t3)):=by
        rw[← hr];unfold zgj;rw[if_pos a0,if_neg (by rw[g];simp)]
       cases hr2
       simp
     · have g:za3 W.2.2.1 kind c0 c1 c2=true:=by simpa using g
       have hr2:((0,zce W.2.2.1 W.2.1 va,0,zn5 kind ((s1,w1,m1),(s2,w2,m2),(s3,w3,(zaf va c3 pick (s3,w3,m3) W.2.2.2).2.2)) (zec (ze0 kind ((s1,w1,m1),(s2,w2,m2),(s3,w3,(zaf va c3 pick (s3,w3,m3) W.2.2.2).2.2))) (zbk W.2.1 va c3 W.2.2.1) pick)):TrR)=(e,pa,l,(s1,w1,t1),(s2,w2,t2),(s3,w3,t3)):=by
        rw[← hr];unfold zgj;rw[if_pos a0,if_pos g]
       rw[hput,hpick] at hr2
       simp only[Prod.mk.injEq] at hr2
       obtain⟨rfl,rfl, -,h1,h2,h3⟩:=hr2
       obtain⟨-, -,rfl⟩:=h2
       obtain⟨-, -,rfl⟩:=h3
       have h1:(zec (s1,w1,m1) (zbk W.2.1 va c3 W.2.2.1) pick)=(s1,w1,t1):=h1
       have h1':t1=(zec (s1,w1,m1) (zbk W.2.1 va c3 W.2.2.1) pick).2.2:=by rw[h1]
       subst h1'
       simp[zec]
   · have a0:W.1=3:=a0.2.2.2.2
     have hr2:((1,0,W.2.1,(s1,w1,m1),(s2,w2,m2),(s3,w3,(zaf va c3 pick (s3,w3,m3) W.2.2.2).2.2)):TrR)=(e,pa,l,(s1,w1,t1),(s2,w2,t2),(s3,w3,t3)):=by
      rw[← hr];unfold zgj;rw[if_neg (by rw[a0];decide),if_pos a0]
     cases hr2
     simp
   · have a0:W.1=2:=a0.2.2.2.2
     have hr2:((2,0,W.2.1,(s1,w1,m1),(s2,w2,m2),(s3,w3,(zaf va c3 pick (s3,w3,m3) W.2.2.2).2.2)):TrR)=(e,pa,l,(s1,w1,t1),(s2,w2,t2),(s3,w3,t3)):=by
      rw[← hr];unfold zgj;rw[if_neg (by rw[a0];decide),if_neg (by rw[a0];decide)]
     cases hr2
     simp
theorem yat1(m:By)(s1 w1:Int)(m1:Es)(s2 w2:Int)(m2:Es)(s3 w3:Int)(m3:Es)(c0:Int)(c1 c2:Bool)(c3 kind va pick:Int)(h:yez m (c0,c1,c2,c3) ((s1,w1,m1),(s2,w2,m2),(s3,w3,m3)) kind va pick)(hk:kind≠0){e:Nat}{pa l:Int}{t1 t2 t3:Es}(hr:trM m (c0,c1,c2,c3) ((s1,w1,m1),(s2,w2,m2),(s3,w3,m3)) kind va pick=(e,pa,l,(s1,w1,t1),(s2,w2,t2),(s3,w3,t3))):ys5 m s1 w1 m1 s2 w2 m2 s3 w3 m3 c0 c1 c2 c3 kind va pick e pa l t1 t2 t3:=by
 obtain⟨hm,hc3,hv,hgc,⟨r1,r2,r3⟩,p0,p1, -, -⟩:=h
 have hc3:U64 c3:=hc3
 simp only[zbr,Bool.and_eq_true] at hgc
 obtain⟨⟨g1,g2⟩,g3⟩:=hgc
 have hd1:=zbv g1
 have hd2:=zbv g2
 have hd3:=zbv g3
 have hpick:∀k:Cch,ze0 kind k=k.2.1:=fun k=>by unfold ze0;rw[if_neg hk]
 have hput:∀(k:Cch)(t:Tl),zn5 kind k t=(k.1,t,k.2.2):=fun k t=>by unfold zn5;rw[if_neg hk]
 refine zae (ylu m s1 w1 m1 s2 w2 m2 s3 w3 m3 c0 c1 c2 c3 kind va pick e pa l t1 t2 t3) ?_
 conv=>zeta
 refine⟨hc3,fun q => ?_,fun q=>⟨hv,fun q2 => ?_,fun q2=>⟨by simp[hk],hc3,⟨rfl,zbs g2,r2,hv⟩,za0 va (za7 c3) m2,by simp,fun q3 => ?_,fun q3=>⟨hc3,hc3,⟨rfl,zbs g3,r3,hv⟩,za0 va (za7 c3) m3,by simp,fun q4 => ?_,fun q4 => ?_⟩⟩⟩⟩
 · have q:onM (c0,c1,c2,c3)=false:=by simpa using q
   unfold trM at hr
   rw[if_pos q] at hr
   cases hr
   simp
 · have q:¬ onM (c0,c1,c2,c3)=false:=by simpa using q
   have q2:zee va=false:=by simpa using q2
   unfold trM at hr
   rw[if_neg q,if_pos q2] at hr
   cases hr
   simp
 · have q:¬ onM (c0,c1,c2,c3)=false:=by simpa using q
   have q2:¬ zee va=false:=by simpa using q2
   unfold trM at hr
   rw[if_neg q,if_neg q2,hpick,if_pos q3] at hr
   obtain⟨u1,u2,u3⟩:=zdv g2 r2 q3
   simp only at u1 u2 hr
   generalize za0 va (za7 c3) m2=H at *
   refine⟨u2,fun g => ?_,fun g=>⟨⟨u2,u1,hv⟩, ?_⟩⟩
   · have g:za3 H.2.2.2 kind c0 c1 c2=false:=by simpa using g
     have hr2:((2,0,H.2.2.1,((s1,w1,m1),(s2,w2,m2),(s3,w3,m3))):TrR)=(e,pa,l,(s1,w1,t1),(s2,w2,t2),(s3,w3,t3)):=by rw[← hr];unfold ygv;rw[if_neg (by rw[g];simp)]
     cases hr2
     simp
   · have g:za3 H.2.2.2 kind c0 c1 c2=true:=by simpa using g
     have hr2:((0,zce H.2.2.2 H.2.2.1 va,0,((s1,w1,m1),(s2,w2,m2),(s3,w3,m3))):TrR)=(e,pa,l,(s1,w1,t1),(s2,w2,t2),(s3,w3,t3)):=by rw[← hr];unfold ygv;rw[if_pos g]
     cases hr2
     simp
 · have q:¬ onM (c0,c1,c2,c3)=false:=by simpa using q
   have q2:¬ zee va=false:=by simpa using q2
   unfold trM at hr
   rw[if_neg q,if_neg q2,hpick,if_neg (by rw[q3];simp)] at hr
   unfold zkv at hr
   simp only at hr
   have hst:=zek (satp:=c3) hm hv g3 r3
   have es:zal c3 va (s3,w3,m3)=(zch (za0 va (za7 c3) m3).2.2.2,(za0 va (za7 c3) m3).2.2.1-1):=by unfold zal;rw[if_pos q4]
   obtain⟨u1,u2,u3⟩:=zdv g3 r3 q4
   simp only at u1 u2
   have ew:IntKind.i64.wrap ((za0 va (za7 c3) m3).2.2.1-1)=(za0 va (za7 c3) m3).2.2.1-1:=zac (by have:=u1.1;omega) (by have:=u1.2;omega)
   refine⟨u2,zal c3 va (s3,w3,m3),by simp[es,ew], ?_⟩
   clear es
   generalize zal c3 va (s3,w3,m3)=st at *
   have hc:=zbw m va (st.2+1).toNat st.1
   have hleaf:=zbq (va:=va) hm (st.2+1).toNat st.1
   have hR:zfi m st.1 st.2 va∧zcb s3 w3 m3=true∧U64 c3∧0≤pick∧pick≤255:=⟨hst,hd3,hc3,p0,p1⟩
   generalize za4 m va (st.2+1).toNat st.1=W at *
   refine⟨?_,fun a0 => ?_,fun a0 => ?_,fun a0 => ?_⟩
   · rcases hc with a0|a0|a0
     · exact .inl ⟨rfl,rfl,rfl,hR,a0⟩
     · exact .inr (.inl ⟨rfl,rfl,rfl,hR,a0⟩)
     · exact .inr (.inr ⟨rfl,rfl,rfl,hR,a0⟩)
   · have a0:W.1=1:=a0.2.2.2.2
     obtain⟨u1,u2,u3⟩:=hleaf a0
     have ul:LvR W.2.1:=⟨u2,by have:=hst.2.2.2.1.2;omega⟩
     refine⟨fun _=>u1,fun g => ?_,fun g=>⟨fun g2=>absurd g2 (by decide),fun _=>⟨⟨rfl,hd2,ul,hv,hc3,u1,p0,p1⟩,⟨u1,ul,hv⟩, ?_⟩⟩⟩
     · have g:za3 W.2.2.1 kind c0 c1 c2=false:=by simpa using g
       have hr2:((2,0,W.2.1,(s1,w1,m1),(s2,w2,m2),(s3,w3,(zaf va c3 pick (s3,w3,m3) W.2.2.2).2.2)):TrR)=(e,pa,l,(s1,w1,t1),(s2,w2,t2),(s3,w3,t3)):=by
        rw[← hr];unfold zgj;rw[if_pos a0,if_neg (by rw[g];simp)]
       cases hr2
       simp
     · have g:za3 W.2.2.1 kind c0 c1 c2=true:=by simpa using g
       have hr2:((0,zce W.2.2.1 W.2.1 va,0,zn5 kind ((s1,w1,m1),(s2,w2,m2),(s3,w3,(zaf va c3 pick (s3,w3,m3) W.2.2.2).2.2)) (zec (ze0 kind ((s1,w1,m1),(s2,w2,m2),(s3,w3,(zaf va c3 pick (s3,w3,m3) W.2.2.2).2.2))) (zbk W.2.1 va c3 W.2.2.1) pick)):TrR)=(e,pa,l,(s1,w1,t1),(s2,w2,t2),(s3,w3,t3)):=by
        rw[← hr];unfold zgj;rw[if_pos a0,if_pos g]
       rw[hput,hpick] at hr2
       simp only[Prod.mk.injEq] at hr2
       obtain⟨rfl,rfl, -,h1,h2,h3⟩:=hr2
       obtain⟨-, -,rfl⟩:=h1
       obtain⟨-, -,rfl⟩:=h3
       have h1:(zec (s2,w2,m2) (zbk W.2.1 va c3 W.2.2.1) pick)=(s2,w2,t2):=h2
       have h1':t2=(zec (s2,w2,m2) (zbk W.2.1 va c3 W.2.2.1) pick).2.2:=by rw[h1]
       subst h1'
       simp[zec]
   · have a0:W.1=3:=a0.2.2.2.2
     have hr2:((1,0,W.2.1,(s1,w1,m1),(s2,w2,m2),(s3,w3,(zaf va c3 pick (s3,w3,m3) W.2.2.2).2.2)):TrR)=(e,pa,l,(s1,w1,t1),(s2,w2,t2),(s3,w3,t3)):=by
      rw[← hr];unfold zgj;rw[if_neg (by rw[a0];decide),if_pos a0]
     cases hr2
     simp
   · have a0:W.1=2:=a0.2.2.2.2
     have hr2:((2,0,W.2.1,(s1,w1,m1),(s2,w2,m2),(s3,w3,(zaf va c3 pick (s3,w3,m3) W.2.2.2).2.2)):TrR)=(e,pa,l,(s1,w1,t1),(s2,w2,t2),(s3,w3,t3)):=by
      rw[← hr];unfold zgj;rw[if_neg (by rw[a0];decide),if_neg (by rw[a0];decide)]
     cases hr2
     simp
 · have q:¬ onM (c0,c1,c2,c3)=false:=by simpa using q
   have q2:¬ zee va=false:=by simpa using q2
   unfold trM at hr
   rw[if_neg q,if_neg q2,hpick,if_neg (by rw[q3];simp)] at hr
   unfold zkv at hr
   simp only at hr
   have hst:=zek (satp:=c3) hm hv g3 r3
   have es:zal c3 va (s3,w3,m3)=(ze1 c3,2):=by unfold zal;rw[if_neg (by rw[q4];simp)]
   refine⟨zal c3 va (s3,w3,m3),by simp[es], ?_⟩
   clear es
   generalize zal c3 va (s3,w3,m3)=st at *
   have hc:=zbw m va (st.2+1).toNat st.1
   have hleaf:=zbq (va:=va) hm (st.2+1).toNat st.1
   have hR:zfi m st.1 st.2 va∧zcb s3 w3 m3=true∧U64 c3∧0≤pick∧pick≤255:=⟨hst,hd3,hc3,p0,p1⟩
   generalize za4 m va (st.2+1).toNat st.1=W at *
   refine⟨?_,fun a0 => ?_,fun a0 => ?_,fun a0 => ?_⟩
   · rcases hc with a0|a0|a0
     · exact .inl ⟨rfl,rfl,rfl,hR,a0⟩
     · exact .inr (.inl ⟨rfl,rfl,rfl,hR,a0⟩)
     · exact .inr (.inr ⟨rfl,rfl,rfl,hR,a0⟩)
   · have a0:W.1=1:=a0.2.2.2.2
     obtain⟨u1,u2,u3⟩:=hleaf a0
     have ul:LvR W.2.1:=⟨u2,by have:=hst.2.2.2.1.2;omega⟩
     refine⟨fun _=>u1,fun g => ?_,fun g=>⟨fun g2=>absurd g2 (by decide),fun _=>⟨⟨rfl,hd2,ul,hv,hc3,u1,p0,p1⟩,⟨u1,ul,hv⟩, ?_⟩⟩⟩
     · have g:za3 W.2.2.1 kind c0 c1 c2=false:=by simpa using g
       have hr2:((2,0,W.2.1,(s1,w1,m1),(s2,w2,m2),(s3,w3,(zaf va c3 pick (s3,w3,m3) W.2.2.2).2.2)):TrR)=(e,pa,l,(s1,w1,t1),(s2,w2,t2),(s3,w3,t3)):=by
        rw[← hr];unfold zgj;rw[if_pos a0,if_neg (by rw[g];simp)]
       cases hr2
       simp
     · have g:za3 W.2.2.1 kind c0 c1 c2=true:=by simpa using g
       have hr2:((0,zce W.2.2.1 W.2.1 va,0,zn5 kind ((s1,w1,m1),(s2,w2,m2),(s3,w3,(zaf va c3 pick (s3,w3,m3) W.2.2.2).2.2)) (zec (ze0 kind ((s1,w1,m1),(s2,w2,m2),(s3,w3,(zaf va c3 pick (s3,w3,m3) W.2.2.2).2.2))) (zbk W.2.1 va c3 W.2.2.1) pick)):TrR)=(e,pa,l,(s1,w1,t1),(s2,w2,t2),(s3,w3,t3)):=by
        rw[← hr];unfold zgj;rw[if_pos a0,if_pos g]
       rw[hput,hpick] at hr2
       simp only[Prod.mk.injEq] at hr2
       obtain⟨rfl,rfl, -,h1,h2,h3⟩:=hr2
       obtain⟨-, -,rfl⟩:=h1
       obtain⟨-, -,rfl⟩:=h3
       have h1:(zec (s2,w2,m2) (zbk W.2.1 va c3 W.2.2.1) pick)=(s2,w2,t2):=h2
       have h1':t2=(zec (s2,w2,m2) (zbk W.2.1 va c3 W.2.2.1) pick).2.2:=by rw[h1]
       subst h1'
       simp[zec]
   · have a0:W.1=3:=a0.2.2.2.2
     have hr2:((1,0,W.2.1,(s1,w1,m1),(s2,w2,m2),(s3,w3,(zaf va c3 pick (s3,w3,m3) W.2.2.2).2.2)):TrR)=(e,pa,l,(s1,w1,t1),(s2,w2,t2),(s3,w3,t3)):=by
      rw[← hr];unfold zgj;rw[if_neg (by rw[a0];decide),if_pos a0]
     cases hr2
     simp
   · have a0:W.1=2:=a0.2.2.2.2
     have hr2:((2,0,W.2.1,(s1,w1,m1),(s2,w2,m2),(s3,w3,(zaf va c3 pick (s3,w3,m3) W.2.2.2).2.2)):TrR)=(e,pa,l,(s1,w1,t1),(s2,w2,t2),(s3,w3,t3)):=by
      rw[← hr];unfold zgj;rw[if_neg (by rw[a0];decide),if_neg (by rw[a0];decide)]
     cases hr2
     simp
theorem znf(m:By)(c:Ct)(I D P:Tl)(kind va pick:Int):∃e pa l t1 t2 t3,trM m c (I,D,P) kind va pick=(e,pa,l,(I.1,I.2.1,t1),(D.1,D.2.1,t2),(P.1,P.2.1,t3))∧t1.length=I.2.2.length∧t2.length=D.2.2.length∧t3.length=P.2.2.length∧(e=0∨e≠0∧pa=0)∧(e=0∨e=1∨e=2):=by
 have miss:∃e pa l t1 t2 t3,zkv m c (I,D,P) kind va pick=(e,pa,l,(I.1,I.2.1,t1),(D.1,D.2.1,t2),(P.1,P.2.1,t3))∧t1.length=I.2.2.length∧t2.length=D.2.2.length∧t3.length=P.2.2.length∧(e=0∨e≠0∧pa=0)∧(e=0∨e=1∨e=2):=by
  unfold zkv
  generalize za4 m va _ _=W
  obtain⟨-, -,kl⟩:=zbp va c.2.2.2 pick W.2.2.2 P
  unfold zgj
  split
  · split
    · unfold zn5 ze0
      split
      · exact⟨_,_,_,_,_,_,rfl,by simp[zec,zbx],rfl,kl,.inl rfl,.inl rfl⟩
      · exact⟨_,_,_,_,_,_,rfl,rfl,by simp[zec,zbx],kl,.inl rfl,.inl rfl⟩
    · exact⟨_,_,_,_,_,_,rfl,rfl,rfl,kl,.inr ⟨by decide,rfl⟩,.inr (.inr rfl)⟩
  · split
    · exact⟨_,_,_,_,_,_,rfl,rfl,rfl,kl,.inr ⟨by decide,rfl⟩,.inr (.inl rfl)⟩
    · exact⟨_,_,_,_,_,_,rfl,rfl,rfl,kl,.inr ⟨by decide,rfl⟩,.inr (.inr rfl)⟩
 unfold trM
 split
 · exact⟨_,_,_,_,_,_,rfl,rfl,rfl,rfl,.inl rfl,.inl rfl⟩
 · split
   · exact⟨_,_,_,_,_,_,rfl,rfl,rfl,rfl,.inr ⟨by decide,rfl⟩,.inr (.inr rfl)⟩
   · split
     · unfold ygv
       split
       · exact⟨_,_,_,_,_,_,rfl,rfl,rfl,rfl,.inl rfl,.inl rfl⟩
       · exact⟨_,_,_,_,_,_,rfl,rfl,rfl,rfl,.inr ⟨by decide,rfl⟩,.inr (.inr rfl)⟩
     · exact miss
theorem yyb:DictOk Tryz.prog FX4:=zaw (yag.append zmj) (.cons (by kernel_rfl) yqm .nil) .nil
theorem yas1(k:Nat):Sound Tryz.prog 132 (trS k):=by
 refine zd8 mixed Tryz.func132 (by kernel_rfl) false yyb (fun args H p v H' h hp => ?_)
 unfold trS at h
 split at h
 case h_2=>cases h
 rename_i n c0 c1 c2 c3 kind va pick b0 b1 b2 b3 sh m
 split at h
 case isFalse=>cases h
 rename_i hsh
 subst hsh
 split at h
 case h_2=>cases h
 rename_i n3 I D P hg
 simp only[Option.some.injEq,Prod.mk.injEq] at h
 obtain⟨rfl,rfl,rfl⟩:=h
 obtain⟨rfl,rfl,ht,hk⟩:n=m.length∧n3=zqn I D P∧yez m (c0,c1,c2,c3) (I,D,P) kind va pick∧ybp k (trM m (c0,c1,c2,c3) (I,D,P) kind va pick):=hp
 have e:=yge hg
 have e2:[b0,b1,b2,b3,Blk.arr [.i .u8] m false]=trH m (I,D,P):=by
  have:[b0,b1,b2,b3,Blk.arr [.i .u8] m false]=[b0,b1,b2,b3]++[Blk.arr [.i .u8] m false]:=rfl
  rw[this,e];rfl
 rw[e2]
 clear e e2 hg
 obtain⟨s1,w1,m1⟩:=I
 obtain⟨s2,w2,m2⟩:=D
 obtain⟨s3,w3,m3⟩:=P
 obtain⟨e,pa,l,t1,t2,t3,hr, -⟩:=znf m (c0,c1,c2,c3) (s1,w1,m1) (s2,w2,m2) (s3,w3,m3) kind va pick
 rw[hr] at hk ⊢
 have outs:∀o ∈ trO m (e,pa,l,(s1,w1,t1),(s2,w2,t2),(s3,w3,t3)),o.out→o.pan=false∧o.v = .tup [.v (.int .u64 pa),ym5 k l]∧o.H=trH m ((s1,w1,t1),(s2,w2,t2),(s3,w3,t3)):=by
  intro o ho hout
  simp only[trO,List.mem_cons,List.not_mem_nil,or_false] at ho
  match k,hk with
  | 0,hk =>
   have hk:e=0:=hk
   subst hk
   rcases ho with rfl|rfl|rfl
   · exact⟨rfl,rfl,rfl⟩
   · exact absurd (show (0:Nat)=1 from hout) (by decide)
   · exact absurd (show (0:Nat)=2 from hout) (by decide)
  | 1,hk =>
   have hk:e=1:=hk
   subst hk
   rcases ho with rfl|rfl|rfl
   · exact absurd (show (1:Nat)=0 from hout) (by decide)
   · exact⟨rfl,rfl,rfl⟩
   · exact absurd (show (1:Nat)=2 from hout) (by decide)
  | k+2,hk =>
   have hk:e=2:=hk
   subst hk
   rcases ho with rfl|rfl|rfl
   · exact absurd (show (2:Nat)=0 from hout) (by decide)
   · exact absurd (show (2:Nat)=1 from hout) (by decide)
   · exact⟨rfl,rfl,rfl⟩
 by_cases hkd:kind=0
 · exact⟨_,_,zdr (by kernel_rfl),yau1 m s1 w1 m1 s2 w2 m2 s3 w3 m3 c0 c1 c2 c3 kind va pick ht hkd hr,outs⟩
 · exact⟨_,_,zdr (by kernel_rfl),yat1 m s1 w1 m1 s2 w2 m2 s3 w3 m3 c0 c1 c2 c3 kind va pick ht hkd hr,outs⟩
theorem yrx:zar Tryz.prog kY0:=(yaf.append yag).append zmj
theorem zfp:DictOk Tryz.prog FY0:=zaw yrx (.cons (by kernel_rfl) (fun k=>zel (yas1 k)) .nil) .nil
theorem zst(I D P:Tl):zbr (I,D,P)=bif bif zaj false I then zaj false D else false then zaj true P else false:=by simp[zbr]
theorem yfs:Sound Tryz.prog 129 (zad [chP] [bl] (fun x=>some (ChR (toC x))) (fun x=>zbr (toC x))):=by
 refine zab mixed Tryz.func129 (by kernel_rfl) (by kernel_rfl) zfp (fun t h => ?_)
 obtain⟨s1,w1,m1,s2,w2,m2,s3,w3,m3⟩:Cf:=t
 obtain⟨h1,h2,h3⟩:TlR (s1,w1,m1)∧TlR (s2,w2,m2)∧TlR (s3,w3,m3):=h
 exact zae (zt6 s1 w1 m1 s2 w2 m2 s3 w3 m3) (by rw[zst];simp[h1,h2,h3])
theorem yiy:Sound Tryz.prog 119 (zad [chP] [bl] (fun x=>some (ChR (toC x))) (fun x=>zbr (toC x))):=by
 refine zab mixed Tryz.func119 (by kernel_rfl) (by kernel_rfl) zfp (fun t h => ?_)
 obtain⟨s1,w1,m1,s2,w2,m2,s3,w3,m3⟩:Cf:=t
 obtain⟨h1,h2,h3⟩:TlR (s1,w1,m1)∧TlR (s2,w2,m2)∧TlR (s3,w3,m3):=h
 exact zae (zu9 s1 w1 m1 s2 w2 m2 s3 w3 m3) (by rw[zst];simp[h1,h2,h3])
theorem zse:Sound Tryz.prog 131 (zad [chP] [chP] (fun x=>some (SzC (toC x))) (fun x=>x)):=by
 refine zab mixed Tryz.func131 (by kernel_rfl) (by kernel_rfl) zfp (fun t h => ?_)
 obtain⟨s1,w1,m1,s2,w2,m2,s3,w3,m3⟩:Cf:=t
 obtain⟨h1,h2,h3⟩:SzR m1.length∧SzR m2.length∧SzR m3.length:=h
 exact zae (zt4 s1 w1 m1 s2 w2 m2 s3 w3 m3) (by simp[h1,h2,h3])
theorem ycn:Sound Tryz.prog 120 (zad [chP] [chP] (fun x=>some (SzC (toC x))) (fun x=>x)):=by
 refine zab mixed Tryz.func120 (by kernel_rfl) (by kernel_rfl) zfp (fun t h => ?_)
 obtain⟨s1,w1,m1,s2,w2,m2,s3,w3,m3⟩:Cf:=t
 obtain⟨h1,h2,h3⟩:SzR m1.length∧SzR m2.length∧SzR m3.length:=h
 exact zae (zrq s1 w1 m1 s2 w2 m2 s3 w3 m3) (by simp[h1,h2,h3])
theorem yaq1:Sound Tryz.prog 148 (zad [chP] [chP] (fun x=>some (SzC (toC x))) (fun x=>x)):=by
 refine zab mixed Tryz.func148 (by kernel_rfl) (by kernel_rfl) zfp (fun t h => ?_)
 obtain⟨s1,w1,m1,s2,w2,m2,s3,w3,m3⟩:Cf:=t
 obtain⟨h1,h2,h3⟩:SzR m1.length∧SzR m2.length∧SzR m3.length:=h
 exact zae (ylq s1 w1 m1 s2 w2 m2 s3 w3 m3) (by simp[h1,h2,h3])
theorem yiw:Sound Tryz.prog 87 (zad [i64,u64,u64,u64] [enP] (fun t=>some (LvR t.1∧U64 t.2.1∧U64 t.2.2.1∧U64 t.2.2.2)) (fun t=>zbk t.1 t.2.1 t.2.2.1 t.2.2.2)):=by
 refine zab mixed Tryz.func87 (by kernel_rfl) (by kernel_rfl) zfp (fun t h => ?_)
 obtain⟨l,va,s,p⟩:Int × Int × Int × Int:=t
 obtain⟨h1,h2,h3,h4⟩:LvR l∧U64 va∧U64 s∧U64 p:=h
 exact zae (zu8 l va s p) ⟨⟨h2,h1⟩,h3,zp0 h4 (by decide) (by decide),rfl,rfl,rfl,rfl,rfl,rfl⟩
theorem yyy:Sound Tryz.prog 150 (zad [chP,chP] [bl] (fun t=>some (t.1=t.2∧SzC (toC t.1))) (fun _=>true)):=by
 refine zab mixed Tryz.func150 (by kernel_rfl) (by kernel_rfl) zfp (fun t h => ?_)
 obtain⟨a,b⟩:Cf × Cf:=t
 obtain⟨rfl,h⟩:a=b∧SzC (toC a):=h
 obtain⟨s1,w1,m1,s2,w2,m2,s3,w3,m3⟩:=a
 obtain⟨h1,h2,h3⟩:SzR m1.length∧SzR m2.length∧SzR m3.length:=h
 exact zae (yjy s1 w1 m1 s2 w2 m2 s3 w3 m3) (by simp[h1,h2,h3])
theorem zh1{n:Nat}{k:Int}(h:k≤1048576):szM n k≤1048576:=by
 unfold szM
 split<;>omega
theorem yal1:Sound Tryz.prog 145 (zad [chP,i64] [i64] (fun t=>some ((t.1.2.2.1.length≤maxLen∧t.1.2.2.2.2.2.1.length≤maxLen∧t.1.2.2.2.2.2.2.2.2.length≤maxLen)∧0≤t.2∧t.2≤1048576)) (fun t=>szC (toC t.1) t.2)):=by
 refine zab mixed Tryz.func145 (by kernel_rfl) (by kernel_rfl) zfp (fun t h => ?_)
 obtain⟨⟨s1,w1,m1,s2,w2,m2,s3,w3,m3⟩,n⟩:Cf × Int:=t
 obtain⟨⟨h1,h2,h3⟩,h4,h5⟩:(m1.length≤maxLen∧m2.length≤maxLen∧m3.length≤maxLen)∧0≤n∧n≤1048576:=h
 have g1:=zh1 (n:=m1.length) h5
 refine zae (ylh s1 w1 m1 s2 w2 m2 s3 w3 m3 n) ?_
 conv=>zeta
 refine⟨⟨rfl,h1,h4,h5⟩,fun q => ?_,fun q => ?_⟩
 · have q:=of_decide_eq_true q
   simp[szC,q]
 · have q:¬ szM m1.length n<0:=of_decide_eq_false q
   have g2:=zh1 (n:=m2.length) g1
   refine⟨⟨rfl,h2,by show (0:Int)≤_;omega,g1⟩,fun q2 => ?_,fun q2 => ?_⟩
   · have q2:=of_decide_eq_true q2
     simp[szC,q,q2]
   · have q2:¬ szM m2.length (szM m1.length n)<0:=of_decide_eq_false q2
     refine⟨⟨rfl,h3,by show (0:Int)≤_;omega,g2⟩,fun q3 => ?_,fun q3 => ?_⟩
     · have q3:=of_decide_eq_true q3
       have e:=zxx q3
       simp[szC,q,q2,e]
     · simp[szC,q,q2]
theorem ynz:Sound Tryz.prog 151 (zo8 [chP,i64] [i64] (fun t=>some (zr2 (toC t.1) t.2)) (fun t=>((ofC (zs6 (toC t.1) t.2),t.2),t.2+6*t.1.2.2.1.length+6*t.1.2.2.2.2.2.1.length+6*t.1.2.2.2.2.2.2.2.2.length))):=by
 refine zi4 mixed Tryz.func151 (by kernel_rfl) (by kernel_rfl) zfp (fun t h => ?_)
 obtain⟨⟨s1,w1,m1,s2,w2,m2,s3,w3,m3⟩,n⟩:Cf × Int:=t
 obtain⟨⟨h1,h2,h3⟩,h4,h5⟩:(SzR m1.length∧SzR m2.length∧SzR m3.length)∧0≤n∧n≤1099511627776-60000000:=h
 have g1:m1.length≤2097152:=h1
 have g2:m2.length≤2097152:=h2
 have g3:m3.length≤2097152:=h3
 refine⟨.none,zae (zyq s1 w1 m1 s2 w2 m2 s3 w3 m3 n) ⟨⟨rfl,h1,h4,by omega⟩,⟨rfl,h2,by show (0:Int)≤_;omega,by show _≤(1099511627776:Int);omega⟩,⟨rfl,h3,by show (0:Int)≤_;omega,by show _≤(1099511627776:Int);omega⟩,rfl, ?_⟩⟩
 simp
theorem ynh:Sound Tryz.prog 205 (zad [chP,i64] [i64] (fun t=>some (zr2 (toC t.1) t.2∧toC t.1=zs6 (toC t.1) t.2)) (fun t=>t.2+6*t.1.2.2.1.length+6*t.1.2.2.2.2.2.1.length+6*t.1.2.2.2.2.2.2.2.2.length)):=by
 refine zab mixed Tryz.func205 (by kernel_rfl) (by kernel_rfl) zfp (fun t h => ?_)
 obtain⟨⟨s1,w1,m1,s2,w2,m2,s3,w3,m3⟩,n⟩:Cf × Int:=t
 obtain⟨⟨⟨h1,h2,h3⟩,h4,h5⟩,he⟩:((SzR m1.length∧SzR m2.length∧SzR m3.length)∧0≤n∧n≤1099511627776-60000000)∧((s1,w1,m1),(s2,w2,m2),(s3,w3,m3))=zs6 ((s1,w1,m1),(s2,w2,m2),(s3,w3,m3)) n:=h
 have g1:m1.length≤2097152:=h1
 have g2:m2.length≤2097152:=h2
 have g3:m3.length≤2097152:=h3
 simp only[zs6,Prod.mk.injEq,true_and] at he
 obtain⟨e1,e2,e3⟩:=he
 refine zae (zx9 s1 w1 m1 s2 w2 m2 s3 w3 m3 n) ?_
 conv=>zeta
 refine⟨⟨rfl,⟨h1,h4,by omega⟩,e1⟩,fun q => ?_,fun q=>⟨⟨rfl,⟨h2,by show (0:Int)≤_;omega,by show _≤(1099511627776:Int);omega⟩,e2⟩,fun q => ?_,fun q=>⟨⟨rfl,⟨h3,by show (0:Int)≤_;omega,by show _≤(1099511627776:Int);omega⟩,e3⟩,fun q => ?_,fun q=>⟨rfl,rfl,rfl,rfl⟩⟩⟩⟩
 · exact absurd (show n+6*(m1.length:Int)<0 from of_decide_eq_true q) (by omega)
 · exact absurd (show n+6*(m1.length:Int)+6*(m2.length:Int)<0 from of_decide_eq_true q) (by omega)
 · exact absurd (show n+6*(m1.length:Int)+6*(m2.length:Int)+6*(m3.length:Int)<0 from of_decide_eq_true q) (by omega)
theorem yah:zar Tryz.prog kY1 := .cons (by kernel_rfl) yfs <| .cons (by kernel_rfl) zse <| .cons (by kernel_rfl) yiy <| .cons (by kernel_rfl) ycn <| .cons (by kernel_rfl) yiw <| .cons (by kernel_rfl) yal1 <| .cons (by kernel_rfl) yaq1 <| .cons (by kernel_rfl) yyy <| .cons (by kernel_rfl) ynz <| .cons (by kernel_rfl) ynh .nil
theorem zqu{c:Ct}{k:Cch}{kind pick:Int}(h:okT c k kind pick=true):zbr k=true∧zlt c kind=true∧0≤pick∧pick≤255:=by
 simp only[okT,Bool.and_eq_true,decide_eq_true_eq] at h
 exact⟨h.1.1.1,h.1.1.2,h.1.2,h.2⟩
theorem yv7{k:Cch}{n:Int}(hn:n≤1048576)(h:¬ szC k n<0):SzC k:=by
 unfold szC at h
 split at h
 · exact absurd (by decide) h
 · rename_i h1
   split at h
   · exact absurd (by decide) h
   · rename_i h2
     exact⟨yi8 hn h1,yi8 (zh1 hn) h2,yi8 (zh1 (zh1 hn)) h⟩
end Go.Proofs.YtfiddfbagbaofaaGreat.V
