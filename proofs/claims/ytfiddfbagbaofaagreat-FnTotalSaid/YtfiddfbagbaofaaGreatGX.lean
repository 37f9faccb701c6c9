/- The translation with caches answers as its model. Conditions: those in each statement. -/
import Derived.Test.YtfiddfbagbaofaaGreatGO
import Derived.Test.YtfiddfbagbaofaaGreatV3
import Derived.KernelRfl
namespace Go.Proofs.YtfiddfbagbaofaaGreat.V
open Go
def chA(b:Nat)(I D P:Tl):List Av:=tlA I.1 I.2.1 (b+1) I.2.2.length++(tlA D.1 D.2.1 (b+2) D.2.2.length++tlA P.1 P.2.1 (b+3) P.2.2.length)
def chH(b:Nat)(I D P:Tl):Heap:=[.fix (chA b I D P) true none,.arr shE I.2.2 true,.arr shE D.2.2 true,.arr shE P.2.2 true]
def getH(b:Nat):Heap→Option ((Nat × Nat × Nat) × Tl × Tl × Tl)
 | [.fix [.v (.int .i64 s1),.v (.int .i64 w1),.sl i1 6 0 n1,.v (.int .i64 s2),.v (.int .i64 w2),.sl i2 6 0 n2,.v (.int .i64 s3),.v (.int .i64 w3),.sl i3 6 0 n3] true none,.arr h1 m1 true,.arr h2 m2 true,.arr h3 m3 true] =>
  if i1=b+1∧i2=b+2∧i3=b+3 then (if e1:h1=shE then (if e2:h2=shE then (if e3:h3=shE then some ((n1,n2,n3),(s1,w1,(e1 ▸ m1:List (El shE))),(s2,w2,(e2 ▸ m2:List (El shE))),(s3,w3,(e3 ▸ m3:List (El shE)))) else none) else none) else none) else none
 | _=>none
def zq8(I D P:Tl):Nat × Nat × Nat:=(I.2.2.length,D.2.2.length,P.2.2.length)
abbrev Cch:=Tl × Tl × Tl
def zem(t:Tl)(e:En)(pick:Int):Tl:=(t.1,t.2.1,zh9 t.2.2 t.1 t.2.1 e pick)
def zbs(l va satp p:Int):En:=(true,l,zj4 va l,zba satp,za0 p 5,p)
def tvH(t:Tl):Heap:=[.fix (tlA t.1 t.2.1 1 t.2.2.length) true none,.arr shE t.2.2 true]
def getT:List Blk→Option (Nat × Tl)
 | [.fix [.v (.int .i64 s),.v (.int .i64 w),.sl 1 6 0 n] true none,.arr h m true]=>if e:h=shE then some (n,s,w,(e ▸ m:List (El shE))) else none
 | _=>none
def kX1:Known:=(96,zn9 3 putS)::(kK2++kF4++kE3++kB3++kA4)
def FX1:Dict:=mkD kX1 [] []
def cvA(va:Int)(c:Ct)(pick:Int):Heap:=[.fix [.v (.int .u64 va)] true (some 29),.fix [.v (.int .i64 c.1),.v (.bool c.2.1),.v (.bool c.2.2.1),.v (.int .u64 c.2.2.2)] true (some 65),.fix [.v (.int .i64 pick)] true (some 2)]
def getV:Heap→Option (Int × Ct × Int)
 | [.fix [.v (.int .u64 va)] true (some 29),.fix [.v (.int .i64 c0),.v (.bool c1),.v (.bool c2),.v (.int .u64 c3)] true (some 65),.fix [.v (.int .i64 pick)] true (some 2)]=>some (va,(c0,c1,c2,c3),pick)
 | _=>none
def yeo(t:Tl)(l va satp p pick:Int):Prop:=zcw t.1 t.2.1 t.2.2=true∧LvR l∧U64 va∧U64 satp∧U64 p∧0≤pick∧pick≤255
def yo2(s w:Int)(m:Es)(va:Int)(c0:Int)(c1 c2:Bool)(c3:Int)(pick l p:Int):Prop:=zi1 Tryz.prog FX1 .none Tryz.f197 [.ptr 0 0,.v (.int .i64 l),.v (.int .u64 p),.ptr 2 0,.ptr 3 0,.ptr 4 0] (tvH (s,w,m)++cvA va (c0,c1,c2,c3) pick) (.tup []) (tvH (zem (s,w,m) (zbs l va c3 p) pick)++cvA va (c0,c1,c2,c3) pick)
def yhc:Sum:=fun args H=>match args with
 | [.ptr 0 0,.v (.int .i64 l),.v (.int .u64 p),.ptr 2 0,.ptr 3 0,.ptr 4 0]=>match getT (H.take 2),getV (H.drop 2) with
  | some (n,t),some (va,c,pick)=>some (some (n=t.2.2.length∧yeo t l va c.2.2.2 p pick),.tup [],tvH (zem t (zbs l va c.2.2.2 p) pick)++cvA va c pick)
  | _,_=>none
 | _=>none
def kX2:Known:=(197,zn9 3 yhc)::kX1
def FX2:Dict:=mkD kX2 [] []
def zdf(va satp pick:Int)(t:Tl)(r:Rc):Tl:=if za7 r.2.2 r.1=1 then zem t (zbs r.1 va satp r.2.2) pick else t
def zae(va satp pick:Int)(t:Tl)(rs:Rs):Tl:=rs.foldl (zdf va satp pick) t
def fnH(b:Nat)(va:Int)(c:Ct)(pick:Int)(I D P:Tl):Heap := .fix [.fn 197 [.ptr (b+1) 0,.ptr (b+2) 0,.ptr (b+3) 0]] true (some 255)::(cvA va c pick++(.fix [.ptr (b+5) 0] true (some 254)::chH (b+5) I D P))
def getF(b:Nat)(H:Heap):Option ((Nat × Nat × Nat) × (Int × Ct × Int) × Tl × Tl × Tl):=match H with
 | .fix [.fn 197 [.ptr i 0,.ptr j 0,.ptr k 0]] true (some 255)::v1::v2::v3 :: .fix [.ptr l 0] true (some 254)::H2 =>
  if i=b+1∧j=b+2∧k=b+3∧l=b+5 then (match getH (b+5) H2,getV [v1,v2,v3] with
   | some (n,I,D,P),some v=>some (n,v,I,D,P)
   | _,_=>none) else none
 | _=>none
def ywn(s1 w1:Int)(m1:Es)(s2 w2:Int)(m2:Es)(s3 w3:Int)(m3:Es)(va:Int)(c0:Int)(c1 c2:Bool)(c3:Int)(pick r0 r1 r2:Int):Prop:=zi1 Tryz.prog FX2 .none Tryz.f198 [.agg (rcA (r0,r1,r2)),.ptr 0 0,.ptr 4 0] (fnH 0 va (c0,c1,c2,c3) pick (s1,w1,m1) (s2,w2,m2) (s3,w3,m3)) (.tup []) (fnH 0 va (c0,c1,c2,c3) pick (s1,w1,m1) (s2,w2,m2) (zdf va c3 pick (s3,w3,m3) (r0,r1,r2)))
def yva:Sum:=fun args H=>match args with
 | [.agg [.v (.int .i64 r0),.v (.int .u64 r1),.v (.int .u64 r2)],.ptr 0 0,.ptr 4 0]=>match getF 0 H with
  | some (n,(va,c,pick),I,D,P)=>some (some (n=zq8 I D P∧yeo P r0 va c.2.2.2 r2 pick),.tup [],fnH 0 va c pick I D (zdf va c.2.2.2 pick P (r0,r1,r2)))
  | none=>none
 | _=>none
def kX3:Known:=(198,yva)::kX2
def FX3:Dict:=mkD kX3 [] []
def StC(m:By)(va:Int)(W:Wr)(l p:Int)(xs:Rs):Prop := -1≤l∧l≤2∧0≤p∧p<17592186044416∧W.1=(za6 m va (l+1).toNat p).1∧W.2.1=(za6 m va (l+1).toNat p).2.1∧W.2.2.1=(za6 m va (l+1).toNat p).2.2.1∧W.2.2.2=xs++(za6 m va (l+1).toNat p).2.2.2
def wkH(m:By)(va:Int)(c:Ct)(pick:Int)(I D P:Tl):Heap := .arr [.i .u8] m false::fnH 1 va c pick I D P
def zp8(m:By)(va:Int)(c:Ct)(pick:Int)(I D P:Tl)(W:Wr):LoopS where
 α:=Int × Int × Rs
 I z:=StC m va W z.1 z.2.1 z.2.2
 sl z:=slots 66 [(0,.ifc 196 (.sl 0 1 0 m.length)),(1,.v (.int .u64 z.2.1)),(2,.v (.int .i64 z.1)),(3,.v (.int .u64 va)),(4,.fn 198 [.ptr 1 0,.ptr 5 0])]
 H z:=wkH m va c pick I D (P.1,P.2.1,(zae va c.2.2.2 pick P z.2.2).2.2)
 fams:=[{ β:=Unit,out:=fun _ _=>W.1=2∧W.2.1=0∧W.2.2.1=0,ex := .ext 0,sl:=fun _=>slots 66 [],H:=fun _=>wkH m va c pick I D (P.1,P.2.1,(zae va c.2.2.2 pick P W.2.2.2).2.2) },
  { β:=Unit,out:=fun _ _=>W.1=3∧W.2.2.1=0,ex := .ret,sl:=fun _=>slots 66 [(10,.v (.int .u64 0)),(11,.v (.int .i64 W.2.1)),(12,.ifc 256 (.agg [.v (.int .i64 W.2.1)]))],H:=fun _=>wkH m va c pick I D (P.1,P.2.1,(zae va c.2.2.2 pick P W.2.2.2).2.2) },
  { β:=Unit,out:=fun _ _=>W.1=2∧W.2.2.1=0,ex := .ret,sl:=fun _=>slots 66 [(10,.v (.int .u64 0)),(11,.v (.int .i64 W.2.1)),(12,.ifc 200 (.agg [.v (.int .i64 W.2.1)]))],H:=fun _=>wkH m va c pick I D (P.1,P.2.1,(zae va c.2.2.2 pick P W.2.2.2).2.2) },
  { β:=Unit,out:=fun _ _=>W.1=1,ex := .ret,sl:=fun _=>slots 66 [(10,.v (.int .u64 W.2.2.1)),(11,.v (.int .i64 W.2.1)),(12,.v .nilIface)],H:=fun _=>wkH m va c pick I D (P.1,P.2.1,(zae va c.2.2.2 pick P W.2.2.2).2.2) }]
def ysa(m:By)(va:Int)(c:Ct)(pick:Int)(I D P:Tl)(W:Wr)(l p:Int)(xs:Rs):Specs:={ Specs.one 1 (zp8 m va c pick I D P W) with cut:=fun r=>if r=5 then some (CutS.mk (Int × Int × Bool) (fun z=>slots 66 [(0,.ifc 196 (.sl 0 1 0 m.length)),(1,.v (.int .u64 p)),(2,.v (.int .i64 l)),(3,.v (.int .u64 va)),(4,.fn 198 [.ptr 1 0,.ptr 5 0]),(13,.v (.int .u64 z.1)),(14,.v (.int .u64 z.2.1)),(15,.v (.bool z.2.2))]) (fun _=>wkH m va c pick I D (P.1,P.2.1,(zae va c.2.2.2 pick P xs).2.2))) else none }
def yd5(m:By)(s1 w1:Int)(m1:Es)(s2 w2:Int)(m2:Es)(s3 w3:Int)(m3:Es)(va:Int)(c0:Int)(c1 c2:Bool)(c3:Int)(pick:Int)(q0 q1 q2:Int)(rs:Rs)(l p:Int)(xs:Rs):Prop:=zam Tryz.prog FX3 (ysa m va (c0,c1,c2,c3) pick (s1,w1,m1) (s2,w2,m2) (s3,w3,m3) (q0,q1,q2,rs) l p xs) 10 (zag Tryz.f137 0) (zp8 m va (c0,c1,c2,c3) pick (s1,w1,m1) (s2,w2,m2) (s3,w3,m3) (q0,q1,q2,rs)) (fun z:Int × Int × Rs=>(z.1+1).toNat) (l,p,xs)
def ylt(n:Nat)(p l va:Int):List Av:=[.ifc 196 (.sl 0 1 0 n),.v (.int .u64 p),.v (.int .i64 l),.v (.int .u64 va),.fn 198 [.ptr 1 0,.ptr 5 0]]
def ylu(m:By)(va:Int)(c:Ct)(pick:Int)(I D P:Tl)(W:Wr):List Out:=[⟨false,yrm 0 W,wkH m va c pick I D (P.1,P.2.1,(zae va c.2.2.2 pick P W.2.2.2).2.2),W.1=1⟩,⟨false,yrm 1 W,wkH m va c pick I D (P.1,P.2.1,(zae va c.2.2.2 pick P W.2.2.2).2.2),W.1=3⟩,⟨false,yrm 2 W,wkH m va c pick I D (P.1,P.2.1,(zae va c.2.2.2 pick P W.2.2.2).2.2),W.1=2⟩]
def ypr(m:By)(s1 w1:Int)(m1:Es)(s2 w2:Int)(m2:Es)(s3 w3:Int)(m3:Es)(va:Int)(c0:Int)(c1 c2:Bool)(c3:Int)(pick:Int)(q0 q1 q2:Int)(rs:Rs)(l p:Int):Prop:=zku Tryz.prog FX3 (.one 1 (zp8 m va (c0,c1,c2,c3) pick (s1,w1,m1) (s2,w2,m2) (s3,w3,m3) (q0,q1,q2,rs))) Tryz.f137 (ylt m.length p l va) (wkH m va (c0,c1,c2,c3) pick (s1,w1,m1) (s2,w2,m2) (s3,w3,m3)) (ylu m va (c0,c1,c2,c3) pick (s1,w1,m1) (s2,w2,m2) (s3,w3,m3) (q0,q1,q2,rs))
def yxw(m:By)(va:Int)(c:Ct)(pick l p:Int)(P:Tl):Prop:=zfy m p l va∧zcw P.1 P.2.1 P.2.2=true∧U64 c.2.2.2∧0≤pick∧pick≤255
def ylv(k:Nat):Sum:=fun args H=>match args,H with
 | [.ifc 196 (.sl 0 1 0 n),.v (.int .u64 p),.v (.int .i64 l),.v (.int .u64 va0),.fn 198 [.ptr 1 0,.ptr 5 0]],.arr sh m false::H2 =>
  if h:sh=[.i .u8] then (match getF 1 H2 with
   | some (n3,(va,c,pick),I,D,P)=>some (some (n=(h ▸ m:List (El [.i .u8])).length∧va0=va∧n3=zq8 I D P∧yxw (h ▸ m:List (El [.i .u8])) va c pick l p P∧zwz k (za6 (h ▸ m:List (El [.i .u8])) va (l+1).toNat p)),yrm k (za6 (h ▸ m:List (El [.i .u8])) va (l+1).toNat p),wkH (h ▸ m:List (El [.i .u8])) va c pick I D (P.1,P.2.1,(zae va c.2.2.2 pick P (za6 (h ▸ m:List (El [.i .u8])) va (l+1).toNat p).2.2.2).2.2))
   | none=>none) else none
 | _,_=>none
def FX4:Dict:=mkD (kX2++kN2) [(137,(3,ylv))] []
abbrev TrR:=Nat × Int × Int × Cch
def zfd(kind:Int)(k:Cch):Tl:=if kind=0 then k.1 else k.2.1
def zol(kind:Int)(k:Cch)(t:Tl):Cch:=if kind=0 then (t,k.2.1,k.2.2) else (k.1,t,k.2.2)
def zan(satp va:Int)(P:Tl):Int × Int:=if (za2 va (zba satp) P.2.2).1=true then (zcl (za2 va (zba satp) P.2.2).2.2.2,(za2 va (zba satp) P.2.2).2.2.1-1) else (zfe satp,2)
def zgz(W:Wr)(c:Ct)(k:Cch)(kind va pick:Int):TrR :=
 if W.1=1 then (if za5 W.2.2.1 kind c.1 c.2.1 c.2.2.1=true then (0,zck W.2.2.1 W.2.1 va,0,zol kind k (zem (zfd kind k) (zbs W.2.1 va c.2.2.2 W.2.2.1) pick)) else (2,0,W.2.1,k))
 else if W.1=3 then (1,0,W.2.1,k) else (2,0,W.2.1,k)
def ygw(h:Hi)(c:Ct)(k:Cch)(kind va:Int):TrR:=if za5 h.2.2.2 kind c.1 c.2.1 c.2.2.1=true then (0,zck h.2.2.2 h.2.2.1 va,0,k) else (2,0,h.2.2.1,k)
def zla(m:By)(c:Ct)(k:Cch)(kind va pick:Int):TrR :=
 zgz (za6 m va ((zan c.2.2.2 va k.2.2).2+1).toNat (zan c.2.2.2 va k.2.2).1) c (k.1,k.2.1,(k.2.2.1,k.2.2.2.1,(zae va c.2.2.2 pick k.2.2 (za6 m va ((zan c.2.2.2 va k.2.2).2+1).toNat (zan c.2.2.2 va k.2.2).1).2.2.2).2.2)) kind va pick
def trM(m:By)(c:Ct)(k:Cch)(kind va pick:Int):TrR :=
 if onM c=false then (0,va,0,k) else if zen va=false then (2,0,2,k)
 else if (za2 va (zba c.2.2.2) (zfd kind k).2.2).1=true then ygw (za2 va (zba c.2.2.2) (zfd kind k).2.2) c k kind va
 else zla m c k kind va pick
def ymv(k:Nat)(l:Int):Av:=match k with|0 => .v .nilIface|1 => .ifc 256 (.agg [.v (.int .i64 l)])|_ => .ifc 200 (.agg [.v (.int .i64 l)])
def trH(m:By)(k:Cch):Heap:=chH 0 k.1 k.2.1 k.2.2++[.arr [.i .u8] m false]
def trO(m:By)(r:TrR):List Out:=[⟨false,.tup [.v (.int .u64 r.2.1),ymv 0 r.2.2.1],trH m r.2.2.2,r.1=0⟩,⟨false,.tup [.v (.int .u64 r.2.1),ymv 1 r.2.2.1],trH m r.2.2.2,r.1=1⟩,⟨false,.tup [.v (.int .u64 r.2.1),ymv 2 r.2.2.1],trH m r.2.2.2,r.1=2⟩]
def trB(m:By)(k:Cch)(c:Ct)(va pick:Int):Heap:=trH m k++[.fix [.ptr 0 0] true (some 254),.fix [.v (.int .i64 c.1),.v (.bool c.2.1),.v (.bool c.2.2.1),.v (.int .u64 c.2.2.2)] true (some 65),.fix [.v (.int .u64 va)] true (some 29),.fix [.v (.int .i64 pick)] true (some 2)]
def trSl(n:Nat)(sub:Nat)(kind:Int)(l:List (Nat × Av)):List Av:=slots 120 ([(1,.sl 4 1 0 n),(3,.v (.int .i64 kind)),(6,.ptr 5 0),(8,.ptr 6 0),(10,.ptr 7 0),(11,.ptr 8 0),(14,.ptr 0 sub)]++l)
def trX(isI:Bool)(m:By)(k:Cch)(c:Ct)(kind va pick:Int):Specs:={ Specs.none with pick:=fun r=>if r=7 then some isI else none,cut:=fun r=>if r=9 then some (CutS.mk Hi (fun _=>trSl m.length (cond isI 0 3) kind [(15,.ptr 9 0)]) (fun z=>trB m k c va pick++[.fix (yae z) true (some 52)])) else if r=15 then some (CutS.mk Hi (fun _=>trSl m.length (cond isI 0 3) kind [(16,.v (.int .u64 (zfe c.2.2.2))),(17,.v (.int .i64 2)),(18,.ptr 9 0)]) (fun z=>trB m k c va pick++[.fix (yae z) true (some 52)])) else if r=17 then some (CutS.mk (Int × Int) (fun z=>trSl m.length (cond isI 0 3) kind [(16,.v (.int .u64 z.1)),(17,.v (.int .i64 z.2))]) (fun _=>trB m k c va pick)) else none }
def yr9(m:By)(s1 w1:Int)(m1:Es)(s2 w2:Int)(m2:Es)(s3 w3:Int)(m3:Es)(c0:Int)(c1 c2:Bool)(c3:Int)(kind va pick:Int)(e:Nat)(pa l:Int)(t1 t2 t3:Es):Prop:=zku Tryz.prog FX4 (trX true m ((s1,w1,m1),(s2,w2,m2),(s3,w3,m3)) (c0,c1,c2,c3) kind va pick) Tryz.f132 [.ptr 0 0,.sl 4 1 0 m.length,.agg [.v (.int .i64 c0),.v (.bool c1),.v (.bool c2),.v (.int .u64 c3)],.v (.int .i64 kind),.v (.int .u64 va),.v (.int .i64 pick)] (trH m ((s1,w1,m1),(s2,w2,m2),(s3,w3,m3))) (trO m (e,pa,l,(s1,w1,t1),(s2,w2,t2),(s3,w3,t3)))
def yr8(m:By)(s1 w1:Int)(m1:Es)(s2 w2:Int)(m2:Es)(s3 w3:Int)(m3:Es)(c0:Int)(c1 c2:Bool)(c3:Int)(kind va pick:Int)(e:Nat)(pa l:Int)(t1 t2 t3:Es):Prop:=zku Tryz.prog FX4 (trX false m ((s1,w1,m1),(s2,w2,m2),(s3,w3,m3)) (c0,c1,c2,c3) kind va pick) Tryz.f132 [.ptr 0 0,.sl 4 1 0 m.length,.agg [.v (.int .i64 c0),.v (.bool c1),.v (.bool c2),.v (.int .u64 c3)],.v (.int .i64 kind),.v (.int .u64 va),.v (.int .i64 pick)] (trH m ((s1,w1,m1),(s2,w2,m2),(s3,w3,m3))) (trO m (e,pa,l,(s1,w1,t1),(s2,w2,t2),(s3,w3,t3)))
set_option linter.unusedVariables false
set_option maxRecDepth 10000
theorem zyk(s w:Int)(m:Es)(va:Int)(c0:Int)(c1 c2:Bool)(c3:Int)(pick l p:Int):yo2 s w m va c0 c1 c2 c3 pick l p=(
 (U64 va∧LvR l)∧U64 c3∧zi3 (p,5)∧(List.length m=List.length m∧yep s w m (true,l,zj4 va l,zba c3,za0 p 5,p) pick)∧(zem (s,w,m) (zbs l va c3 p) pick).1=s∧(zem (s,w,m) (zbs l va c3 p)
 pick).2.1=w∧(0:Nat)=0∧List.length (zem (s,w,m) (zbs l va c3 p) pick).2.2=List.length m∧(zem (s,w,m) (zbs l va c3 p) pick).2.2=zh9 m s w (true,l,zj4 va l,zba c3,za0 p 5,p) pick ∧
 va=va∧c0=c0∧c1=c1∧c2=c2∧c3=c3∧pick=pick):=by kernel_rfl
theorem ydx(s1 w1:Int)(m1:Es)(s2 w2:Int)(m2:Es)(s3 w3:Int)(m3:Es)(va:Int)(c0:Int)(c1 c2:Bool)(c3:Int)(pick r0 r1 r2:Int):ywn s1 w1 m1 s2 w2 m2 s3 w3 m3 va c0 c1 c2 c3 pick r0 r1 r2=(
 U64 r2∧((za7 r2 r0==1)=true→(List.length m3=List.length m3∧zcw s3 w3 m3=true∧LvR r0∧U64 va∧U64 c3∧U64 r2∧0≤pick∧pick≤255)∧va=va∧c0=c0∧c1=c1∧c2=c2∧c3=c3∧pick =
 pick∧s1=s1∧w1=w1∧(0:Nat)=0∧List.length m1=List.length m1∧s2=s2∧w2=w2∧(0:Nat)=0∧List.length m2=List.length m2∧(zdf va c3 pick (s3,w3,m3) (r0,r1,r2)).1=(zem (s3,w3,m3) (zbs
 r0 va c3 r2) pick).1∧(zdf va c3 pick (s3,w3,m3) (r0,r1,r2)).2.1=(zem (s3,w3,m3) (zbs r0 va c3 r2) pick).2.1∧(0:Nat)=0∧List.length (zdf va c3 pick (s3,w3,m3) (r0,r1,r2)).2.2=List.length
 (zem (s3,w3,m3) (zbs r0 va c3 r2) pick).2.2∧m1=m1∧m2=m2∧(zdf va c3 pick (s3,w3,m3) (r0,r1,r2)).2.2=(zem (s3,w3,m3) (zbs r0 va c3 r2) pick).2.2)∧((za7 r2 r0==1)=false→va=va∧c0=c0
 ∧ c1=c1∧c2=c2∧c3=c3∧pick=pick∧s1=s1∧w1=w1∧(0:Nat)=0∧List.length m1=List.length m1∧s2=s2∧w2=w2∧(0:Nat)=0∧List.length m2=List.length m2∧(zdf va c3 pick (s3,w3,m3) (r0,
 r1,r2)).1=s3∧(zdf va c3 pick (s3,w3,m3) (r0,r1,r2)).2.1=w3∧(0:Nat)=0∧List.length (zdf va c3 pick (s3,w3,m3) (r0,r1,r2)).2.2=List.length m3∧m1=m1∧m2=m2∧(zdf va c3 pick (s3,w3,m3)
 (r0,r1,r2)).2.2=m3)):=by kernel_rfl
theorem zsk(m:By)(s1 w1:Int)(m1:Es)(s2 w2:Int)(m2:Es)(s3 w3:Int)(m3:Es)(va:Int)(c0:Int)(c1 c2:Bool)(c3:Int)(pick:Int)(q0 q1 q2:Int)(rs:Rs)(l p:Int)(xs:Rs):yd5 m s1 w1 m1 s2 w2 m2 s3 w3 m3 va c0 c1 c2 c3 pick q0 q1 q2 rs l p xs=(
 let A0(a b c:Prop):=a∧b∧c;
 let A1(a b c d e:Prop):=A0 a b (A0 c d e);
 let A2:=(0:Nat)=0;
 let A3(a:Int):=IntKind.u64.wrap a;
 let A4(a:Int):=a=0;
 let A5(a:Int):=IntKind.i64.wrap a;
 let A6(a:Int × Int × Bool):=a.2.1;
 let A7(a b:Es)(c d e:Prop):=A1 A2 (List.length a=List.length b) c d e;
 let A8(a:Prop)(b c:Int)(d e f:Prop):=A1 a (b=c) d e f;
 let A9(a:Int):=(2:Int) ^ (min a.toNat 64);
 let Aa(a:Rs):=(zae va c3 pick (s3,w3,m3) a).2.2;
 let Ab:=Aa xs;
 let Ac:=List.length m;
 let Ad(a b c d:Int)(e f g:Prop):=A8 (a=b) c d e f g;
 let Ae(a b:Int)(c d:Es):=Ad va va c0 c0 (c1=c1) (c2=c2) (Ad c3 c3 pick pick (s1=s1) (w1=w1) (A7 m1 m1 (s2=s2) (w2=w2) (A7 m2 m2 (s3=a) (w3=b) (A7 c d (m1=m1) (m2=m2) (c=d)))));
 let Af(a b:Int)(c:Rs)(d:Es):=Ae a b (Aa c) d;
 let Ah:=q0=3;
 let Ai(a:Int × Int × Bool):=zdf va c3 pick (s3,w3,Ab) (l,a.1,A6 a);
 let Aj(a:Int):=(0:Int)≤a;
 let Ak:=A5 ((6:Int)+A5 ((3:Int)*l));
 let Al:=q0=2;
 let Am(a:Int):=(a+1).toNat;
 let An(a:Prop):=A0 False a (A4 q2);
 let Ao:=q0=1;
 let Ap:=A3 (bits BinOp.and IntKind.u64 (va/A9 Ak) 7*A9 3);
 let Aq:=A3 (p*A9 6);
 let Ar(a:Bool)(b:Prop):=a=false→b;
 let Au(a b c d:Int)(e:Prop)(f:Int × Int × Bool)(g:Rs):=Ad a b c d e (m=m) (Af (Ai f).1 (Ai f).2.1 g (Ai f).2.2);
 let Aw(a:Bool)(b:Prop):=a=true→b;
 let Ax:=(List.length m1,List.length m2,List.length Ab);
 let Ay(a:Int × Int × Bool):=za7 (A6 a) l==2;
 let Az:=zbc m (A3 (Aq+Ap)) 8;
 let AB(a:Int × Int × Bool):=za7 (A6 a) l==0;
 let AC:=decide (l≥0);
 let AD:=A0 Al (A4 q1) (A4 q2);
 let AE(a:Prop):=A0 (A8 (A4 0) q1 l (q1=l) (m=m) (Af s3 w3 rs Ab)) a (A4 q2);
 Aw AC (A1 (Aj 6) (Aj Ak) (Aj 3) (A0 (Ac=Ac) (zaj m) (U64 (A3 (Aq+Ap)))) (∃(x0:Int × Int × Bool),A0 (A2∧A8 (Ac=Ac) p p (l=l) (va=va) (Ad x0.1 (A3 (Aq+Ap)) (A6 x0) Az.2 (x0.2.2=Az.1) (m=m)
  (Ae s3 w3 Ab Ab))) (Aw (!x0.2.2) ((∃(x1:Unit),AE Ah)∨(∃(x2:Unit),An Al)∨(∃(x3:Unit),False∧Ao))) (Ar (!x0.2.2) (A0 (U64 (A6 x0)) (Aw (AB x0) ((∃(x4:Unit),An Ah)∨(∃(x5:Unit),AE Al)∨(∃(x3 :
  Unit),False∧Ao))) (Ar (AB x0) (A0 (Ax=Ax∧A0 (zcw s3 w3 Ab=true) (LvR l) (A1 (U64 va) (U64 c3) (U64 (A6 x0)) (Aj pick) (pick≤255))) (Aw (Ay x0) ((∃(x4:Unit),An Ah)∨(∃(x2:Unit),An Al)∨(∃(x6:Unit),Au
  q2 (A6 x0) q1 l (Value.nilIface=Value.nilIface) x0 rs∧Ao))) (Ar (Ay x0) (U64 (A6 x0)∧∃(x7:Int × Int × Rs),A0 (A0 A2 (Ac=Ac) (Au x7.2.1 (zcl (A6 x0)) x7.1 (A5 (l-1)) (va=va) x0 x7.2.2)) (StC m va
  (q0,q1,q2,rs) x7.1 x7.2.1 x7.2.2) (A1 (Am x7.1<Am l) (∀(x8:Unit),AD→AD) (∀(x9:Unit),Ah∧A4 q2→Ah∧A4 q2) (∀(x10:Unit),Al∧A4 q2→Al∧A4 q2) (∀(x11:Unit),Ao→Ao))))))))))∧Ar AC (∃(x12 :
  Unit),(m=m∧Af s3 w3 rs Ab)∧AD)):=by kernel_rfl
theorem zzm(m:By)(s1 w1:Int)(m1:Es)(s2 w2:Int)(m2:Es)(s3 w3:Int)(m3:Es)(va:Int)(c0:Int)(c1 c2:Bool)(c3:Int)(pick:Int)(q0 q1 q2:Int)(rs:Rs)(l p:Int):ypr m s1 w1 m1 s2 w2 m2 s3 w3 m3 va c0 c1 c2 c3 pick q0 q1 q2 rs l p=(
 let A0(a b:Int)(c:Prop):=a=b∧c;
 let A1(a b c d:Int)(e:Prop):=A0 a b (A0 c d e);
 let A2:=(0:Nat)=0;
 let A3(a b:Int)(c d e:Prop):=A1 a a b b (c∧d∧e);
 let A4(a b:Int)(c d:Es)(e:Prop):=A3 a b A2 (List.length c=List.length d) e;
 let A5(a:Rs):=(zae va c3 pick (s3,w3,m3) a).2.2;
 let A6:=A5 rs;
 let A7(a b:Es):=A3 va c0 (c1=c1) (c2=c2) (A1 c3 c3 pick pick (A4 s1 w1 m1 m1 (A4 s2 w2 m2 m2 (A4 s3 w3 a b (m1=m1∧m2=m2∧a=b)))));
 let A8(a b:Prop):=False∧a∨b;
 let A9:=q0=1;
 let Aa(a:Prop):=A8 A9 (A8 (q0=3) a);
 let Ab(a:Int)(b:Prop):=A0 q0 a (q2=0)→b;
 let Ac:=False∧q0=2;
 let Ad(a:Prop):=A0 q2 0 (A1 q1 q1 q1 q1 (m=m∧A7 A6 A6))∧a;
 ∃(x0:Int × Int × Rs),(A2∧List.length m=List.length m∧A0 x0.2.1 p (A1 x0.1 l va va (m=m∧A7 (A5 x0.2.2) m3)))∧StC m va (q0,q1,q2,rs) x0.1 x0.2.1 x0.2.2∧(∀(x1:Unit),A1 q0 2 q1 (0 :
  Int) (q2=0)→Aa (A0 q2 0 (A1 q1 0 q1 0 (m=m∧A7 A6 A6))∧q0=2))∧(∀(x2:Unit),Ab 3 (A8 A9 (Ad (q0=3)∨Ac)))∧(∀(x3:Unit),Ab 2 (Aa (Ad (q0=2))))
  ∧ ∀(x4:Unit),A9→A3 q2 q1 (Value.nilIface=Value.nilIface) (m=m) (A7 A6 A6)∧A9∨A8 (q0=3) Ac):=by kernel_rfl
theorem ylp(m:By)(s1 w1:Int)(m1:Es)(s2 w2:Int)(m2:Es)(s3 w3:Int)(m3:Es)(c0:Int)(c1 c2:Bool)(c3:Int)(kind va pick:Int)(e:Nat)(pa l:Int)(t1 t2 t3:Es):yr9 m s1 w1 m1 s2 w2 m2 s3 w3 m3 c0 c1 c2 c3 kind va pick e pa l t1 t2 t3=(
 let A0(a b c:Prop):=a∧b∧c;
 let A1(a b:Es):=List.length a=List.length b;
 let A2(a b c d e:Prop):=A0 a b (A0 c d e);
 let A3(a:Nat):=a=0;
 let A4:=A3 0;
 let A5(a:Int × Int):=za6 m va (a.2+1).toNat a.1;
 let A6:=List.length m;
 let A7(a:Prop)(b c:Int)(d e f:Prop):=A2 a (b=c) d e f;
 let A8:=e=2;
 let A9(a:Bool):=a=true;
 let Aa:=(0:Nat)+1;
 let Ab(a:Prop):=False∧e=1∨a;
 let Ac(a b:Prop)(c d:Int)(e f:Es)(g:Prop):=(a∧A7 b s1 c (w1=d) A4 (A2 (A1 t1 e) (s2=s2) (w2=w2) A4 (A2 (A1 t2 m2) (s3=s3) (w3=w3) A4 (A2 (A1 t3 f) (t1=e) (t2=m2) (t3=f) (m=m)))))∧g;
 let Ad:=Value.nilIface=Value.nilIface;
 let Ae:=(List.length m1,List.length m2,List.length m3);
 let Af(a b:Prop)(c d:Int)(e:Es)(f:Int × Int)(g:Prop):=Ac a b c d e (zae va c3 pick (s3,w3,m3) (A5 f).2.2.2).2.2 g;
 let Ah(a b:Prop)(c:Int):=A2 a b (U64 c) ((0:Int)≤pick) (pick≤255);
 let Ai(a:Bool × Int × Int × Int):=a.2.2.2;
 let Aj:=False∧A8;
 let Ak(a:Prop):=False∧A3 e∨a;
 let Al(a:Int)(b c:Prop):=A0 (U64 a) b c;
 let Am(a:Int)(b:Es)(c d:Prop):=A2 (a=a) A4 (A1 b b) c d;
 let An(a:Bool)(b:Prop):=A9 a→b;
 let Ao(a:Int × Int):=(A5 a).2.1;
 let Ap(a:Int):=za5 a kind c0 c1 c2;
 let Aq(a:Int × Int):=(A5 a).2.2.1;
 let Ar(a:Int)(b:Int × Int):=zem (s1,w1,m1) (zbs a va c3 (Aq b)) pick;
 let Au(a:Prop)(b:Int × Int)(c:Prop):=Af (pa=0) a s1 w1 m1 b c;
 let Aw(a:Bool × Int × Int × Int):=a.2.2.1;
 let Ax(a b c:Prop)(d:Int × Int)(f g:Prop)(h:Tl)(i j k:Prop):=A2 a b (c→A0 (An true (U64 (Aq d))) (An (!Ap (Aq d)) (Ak (Ab f))) ((!Ap (Aq d))=false→An (!true) (g∨Ab Aj)∧((!true)=false→A0 (A1 m1 m1∧A0 (A9
  (zcw s1 w1 m1)) (LvR (Ao d)) (Ah (U64 va) (U64 c3) (Aq d))) (Al (Aq d) (LvR (Ao d)) (U64 va)) (Af (pa=zck (Aq d) (Ao d) va) Ad h.1 h.2.1 (Ar (Ao d) d).2.2 d (A3 e)∨Ab Aj)))) i (j→k);
 let Ay(a:Es):=(za2 va (zba c3) a).2;
 let Az(a:Int × Int)(b:Prop):=Au (l=Ao a) a b;
 let AB(a b c:Prop)(d:Int)(e:Prop):=A2 a b c (d=d) e;
 let AC(a:Int)(b:Es)(c:Int)(d:Prop):=Am a b (c=c) d;
 let AD(a:Int × Int)(b:Nat):=A7 (A6=A6) va va (Ae=Ae) (Ah (zfy m a.1 a.2 va) (A9 (zcw s3 w3 m3)) c3) (zwz b (A5 a));
 let AE(a:Prop)(b:Bool × Int × Int × Int)(c d:Prop):=A0 a (An b.1 c) (b.1=false→d);
 let AF(a:Int × Int):=AD a 0∨AD a Aa∨AD a (Aa+1);
 let AG(a:Es)(b c:Int)(d:Prop):=Al c3 (A1 a a∧A0 (A9 (zbb (b,c,a))) (TlR (b,c,a)) (U64 va)) d;
 let AH(a:Bool × Int × Int × Int)(b:Es):=A2 (pick=pick) (a.1=(za2 va (zba c3) b).1) (a.2.1=(Ay b).1) (Aw a=(Ay b).2.1) (Ai a=(Ay b).2.2);
 let AI(a:Int)(b:Bool)(c:Int)(d e:Prop):=Al a (An (!b) (Ak (Ab (Ac (pa=0) (l=c) s1 w1 m1 m3 A8)))) ((!b)=false→d∧e);
 let AJ(a:Int):=Ac (pa=a) Ad s1 w1 m1 m3 (A3 e)∨Ab Aj;
 let AK(a:Prop):=AC w1 m1 s2 (AC w2 m2 s3 (Am w3 m3 (m1=m1) (AB (m2=m2) (m3=m3) (m=m) c0 (AB (c1=c1) (c2=c2) (c3=c3) va a))));
 let AL(a b:Int)(c:Prop):=A0 A4 (A6=A6) (A7 (kind=kind) a (zfe c3) (b=2) (s1=s1) (AC w1 m1 s2 (AC w2 m2 s3 (Am w3 m3 (m1=m1) (AB (m2=m2) (m3=m3) (m=m) c0 (AB (c1=c1) (c2=c2) (c3=c3) va c))))));
 let AM(a:Int × Int):=AD a Aa→Ak (Az a (e=1)∨Aj);
 let AN(a:Int × Int):=AD a (Aa+1);
 let AO := !onM (c0,c1,c2,c3);
 Al c3 (An AO (AJ va)) (AO=false→AI va (zen va) 2 (A9 (kind==0)) (AG m1 s1 w1 (∃(x0:Bool × Int × Int × Int),AE (AB A4 (A6=A6) (kind=kind) s1 (AK (AH x0 m1))) x0 (AI (Ai x0) (Ap (Ai x0)) (Aw x0) (Al (Ai
  x0) (LvR (Aw x0)) (U64 va)) (AJ (zck (Ai x0) (Aw x0) va))) (U64 c3∧AG m3 s3 w3 (∃(x1:Bool × Int × Int × Int),AE (AL (zfe c3) 2 (AH x1 m3)) x1 (U64 (Ai x1)∧∃(x2:Int × Int),Ax (A0 A4 (A6=A6) (A7 (kind =
  kind) x2.1 (zcl (Ai x1)) (x2.2=IntKind.i64.wrap (Aw x1-1)) (s1=s1) (AK (pick=pick)))) (AF x2) (AD x2 0) x2 (Az x2 A8) (Au Ad x2 (A3 e)) (Ar (Ao x2) x2) (AM x2) (AN x2) (Ak (Ab (Az x2 A8)))) (∃(x3
  : Int × Int),Ax (AL x3.1 x3.2 (pick=pick)) (AF x3) (AD x3 0) x3 (Az x3 A8) (Au Ad x3 (A3 e)) (Ar (Ao x3) x3) (AM x3) (AN x3) (Ak (Ab (Az x3 A8)))))))))):=by kernel_rfl
theorem ylo(m:By)(s1 w1:Int)(m1:Es)(s2 w2:Int)(m2:Es)(s3 w3:Int)(m3:Es)(c0:Int)(c1 c2:Bool)(c3:Int)(kind va pick:Int)(e:Nat)(pa l:Int)(t1 t2 t3:Es):yr8 m s1 w1 m1 s2 w2 m2 s3 w3 m3 c0 c1 c2 c3 kind va pick e pa l t1 t2 t3=(
 let A0(a b c:Prop):=a∧b∧c;
 let A1(a b:Es):=List.length a=List.length b;
 let A2(a b c d e:Prop):=A0 a b (A0 c d e);
 let A3(a:Nat):=a=0;
 let A4:=A3 0;
 let A5(a:Int × Int):=za6 m va (a.2+1).toNat a.1;
 let A6:=List.length m;
 let A7(a:Prop)(b c:Int)(d e f:Prop):=A2 a (b=c) d e f;
 let A8:=e=2;
 let A9:=(0:Nat)+1;
 let Aa(a:Prop):=False∧e=1∨a;
 let Ab(a b:Prop)(c d:Int)(e f:Es)(g:Prop):=(a∧A7 b s1 s1 (w1=w1) A4 (A2 (A1 t1 m1) (s2=c) (w2=d) A4 (A2 (A1 t2 e) (s3=s3) (w3=w3) A4 (A2 (A1 t3 f) (t1=m1) (t2=e) (t3=f) (m=m)))))∧g;
 let Ac:=Value.nilIface=Value.nilIface;
 let Ad:=(List.length m1,List.length m2,List.length m3);
 let Ae(a b:Prop)(c d:Int)(e:Es)(f:Int × Int)(g:Prop):=Ab a b c d e (zae va c3 pick (s3,w3,m3) (A5 f).2.2.2).2.2 g;
 let Af(a b:Prop)(c:Int):=A2 a b (U64 c) ((0:Int)≤pick) (pick≤255);
 let Ah(a:Bool × Int × Int × Int):=a.2.2.2;
 let Ai:=False∧A8;
 let Aj(a:Prop):=False∧A3 e∨a;
 let Ak(a:Int)(b c:Prop):=A0 (U64 a) b c;
 let Al(a:Int)(b:Es)(c d:Prop):=A2 (a=a) A4 (A1 b b) c d;
 let Am(a:Bool)(b:Prop):=a=true→b;
 let An(a:Int × Int):=(A5 a).2.1;
 let Ao(a:Int):=za5 a kind c0 c1 c2;
 let Ap(a:Int × Int):=(A5 a).2.2.1;
 let Aq(a:Int)(b:Int × Int):=zem (s2,w2,m2) (zbs a va c3 (Ap b)) pick;
 let Ar(a:Prop)(b:Int × Int)(c:Prop):=Ae (pa=0) a s2 w2 m2 b c;
 let Au(a:Bool × Int × Int × Int):=a.2.2.1;
 let Aw(a b c:Prop)(d:Int × Int)(f g:Prop)(h:Tl)(i j k:Prop):=A2 a b (c→A0 (Am true (U64 (Ap d))) (Am (!Ao (Ap d)) (Aj (Aa f))) ((!Ao (Ap d))=false→Am (!true) (g∨Aa Ai)∧((!true)=false→A0 (A1 m2 m2∧A0 (zcw
  s2 w2 m2=true) (LvR (An d)) (Af (U64 va) (U64 c3) (Ap d))) (Ak (Ap d) (LvR (An d)) (U64 va)) (Ae (pa=zck (Ap d) (An d) va) Ac h.1 h.2.1 (Aq (An d) d).2.2 d (A3 e)∨Aa Ai)))) i (j→k);
 let Ax(a:Es):=(za2 va (zba c3) a).2;
 let Ay(a:Int × Int)(b:Prop):=Ar (l=An a) a b;
 let Az(a b c:Prop)(d:Int)(e:Prop):=A2 a b c (d=d) e;
 let AB(a:Int)(b:Es)(c:Int)(d:Prop):=Al a b (c=c) d;
 let AC(a:Int × Int)(b:Nat):=A7 (A6=A6) va va (Ad=Ad) (Af (zfy m a.1 a.2 va) (zcw s3 w3 m3=true) c3) (zwz b (A5 a));
 let AD(a:Prop)(b:Bool × Int × Int × Int)(c d:Prop):=A0 a (Am b.1 c) (b.1=false→d);
 let AE(a:Int × Int):=AC a 0∨AC a A9∨AC a (A9+1);
 let AF(a:Es)(b c:Int)(d:Prop):=Ak c3 (A1 a a∧A0 (zbb (b,c,a)=true) (TlR (b,c,a)) (U64 va)) d;
 let AG(a:Bool × Int × Int × Int)(b:Es):=A2 (pick=pick) (a.1=(za2 va (zba c3) b).1) (a.2.1=(Ax b).1) (Au a=(Ax b).2.1) (Ah a=(Ax b).2.2);
 let AH(a:Int)(b:Bool)(c:Int)(d e:Prop):=Ak a (Am (!b) (Aj (Aa (Ab (pa=0) (l=c) s2 w2 m2 m3 A8)))) ((!b)=false→d∧e);
 let AI(a:Int):=Ab (pa=a) Ac s2 w2 m2 m3 (A3 e)∨Aa Ai;
 let AJ(a:Prop):=AB w1 m1 s2 (AB w2 m2 s3 (Al w3 m3 (m1=m1) (Az (m2=m2) (m3=m3) (m=m) c0 (Az (c1=c1) (c2=c2) (c3=c3) va a))));
 let AK(a b:Int)(c:Prop):=A0 A4 (A6=A6) (A7 (kind=kind) a (zfe c3) (b=2) (s1=s1) (AB w1 m1 s2 (AB w2 m2 s3 (Al w3 m3 (m1=m1) (Az (m2=m2) (m3=m3) (m=m) c0 (Az (c1=c1) (c2=c2) (c3=c3) va c))))));
 let AL(a:Int × Int):=AC a A9→Aj (Ay a (e=1)∨Ai);
 let AM(a:Int × Int):=AC a (A9+1);
 let AN := !onM (c0,c1,c2,c3);
 Ak c3 (Am AN (AI va)) (AN=false→AH va (zen va) 2 ((kind==0)=false) (AF m2 s2 w2 (∃(x0:Bool × Int × Int × Int),AD (Az A4 (A6=A6) (kind=kind) s1 (AJ (AG x0 m2))) x0 (AH (Ah x0) (Ao (Ah x0)) (Au x0) (Ak
  (Ah x0) (LvR (Au x0)) (U64 va)) (AI (zck (Ah x0) (Au x0) va))) (U64 c3∧AF m3 s3 w3 (∃(x1:Bool × Int × Int × Int),AD (AK (zfe c3) 2 (AG x1 m3)) x1 (U64 (Ah x1)∧∃(x2:Int × Int),Aw (A0 A4 (A6=A6) (A7 (kind =
  kind) x2.1 (zcl (Ah x1)) (x2.2=IntKind.i64.wrap (Au x1-1)) (s1=s1) (AJ (pick=pick)))) (AE x2) (AC x2 0) x2 (Ay x2 A8) (Ar Ac x2 (A3 e)) (Aq (An x2) x2) (AL x2) (AM x2) (Aj (Aa (Ay x2 A8)))) (∃(x3
  : Int × Int),Aw (AK x3.1 x3.2 (pick=pick)) (AE x3) (AC x3 0) x3 (Ay x3 A8) (Ar Ac x3 (A3 e)) (Aq (An x3) x3) (AL x3) (AM x3) (Aj (Aa (Ay x3 A8)))))))))):=by kernel_rfl
set_option linter.unusedSimpArgs false
theorem ygd{b:Nat}{H:Heap}{I D P:Tl}(h:getH b H=some (zq8 I D P,I,D,P)):H=chH b I D P:=by
 unfold getH at h
 split at h
 case h_2=>cases h
 split at h
 case isFalse=>cases h
 rename_i hi
 split at h
 case isFalse=>cases h
 rename_i e1
 split at h
 case isFalse=>cases h
 rename_i e2
 split at h
 case isFalse=>cases h
 rename_i e3
 subst e1 e2 e3
 obtain⟨rfl,rfl,rfl⟩:=hi
 simp only[Option.some.injEq,Prod.mk.injEq,zq8] at h
 obtain⟨⟨rfl,rfl,rfl⟩,rfl,rfl,rfl⟩:=h
 rfl
theorem yxm:zar Tryz.prog (kK2++kF4++kE3++kB3++kA4):=(((zto.append ztn).append zmy).append zei).append zc4
theorem ytu{H:Heap}{n:Nat}{t:Tl}(h:getT H=some (n,t))(hn:n=t.2.2.length):H=tvH t:=by
 unfold getT at h
 split at h
 case h_2=>cases h
 split at h
 case isFalse=>cases h
 rename_i e
 subst e
 simp only[Option.some.injEq,Prod.mk.injEq] at h
 obtain⟨rfl,rfl⟩:=h
 subst hn
 rfl
theorem yqz:zar Tryz.prog kX1 := .cons (by kernel_rfl) (zew yrj) yxm
theorem yxn:DictOk Tryz.prog FX1:=zay yqz .nil .nil
theorem ygf{H:Heap}{va:Int}{c:Ct}{pick:Int}(h:getV H=some (va,c,pick)):H=cvA va c pick:=by
 unfold getV at h
 split at h
 case h_2=>cases h
 simp only[Option.some.injEq,Prod.mk.injEq] at h
 obtain⟨rfl,rfl,rfl⟩:=h
 rfl
theorem yjh{va l:Int}(hl:LvR l):0≤zj4 va l∧zj4 va l<512:=by
 unfold zj4
 have h0:0≤va % 32768:=Int.emod_nonneg _ (by decide)
 have h1:va % 32768<32768:=Int.emod_lt_of_pos _ (by decide)
 rcases zcn hl with rfl|rfl|rfl
 · rw[show ((2:Int) ^ (6+3*0:Int).toNat)=64 by decide];omega
 · rw[show ((2:Int) ^ (6+3*1:Int).toNat)=512 by decide];omega
 · rw[show ((2:Int) ^ (6+3*2:Int).toNat)=4096 by decide];omega
theorem yff(s:Int):0≤zba s∧zba s<65536:=⟨Int.emod_nonneg _ (by decide),Int.emod_lt_of_pos _ (by decide)⟩
theorem zjc{l va satp p:Int}(hl:LvR l)(hp:U64 p):EnR (zbs l va satp p):=by
 obtain⟨t0,t1⟩:=yjh (va:=va) hl
 obtain⟨a0,a1⟩:=yff satp
 exact⟨⟨by have:=hl.1;show -9223372036854775808≤l;omega,by have:=hl.2;show l<9223372036854775808;omega⟩,⟨t0,by show zj4 va l<18446744073709551616;omega⟩,⟨a0,by show zba satp<18446744073709551616;omega⟩,hp⟩
theorem ync{t:Tl}{l va satp p pick:Int}(h:yeo t l va satp p pick):yep t.1 t.2.1 t.2.2 (zbs l va satp p) pick :=
 ⟨h.1,zjc h.2.1 h.2.2.2.2.1,(yjh h.2.1).2,h.2.2.2.2.2.1,h.2.2.2.2.2.2⟩
theorem ynb:Sound Tryz.prog 197 yhc:=by
 refine zbi mixed Tryz.func197 (by kernel_rfl) (by kernel_rfl) yxn (fun args H p v H' h hp => ?_)
 unfold yhc at h
 split at h
 case h_2=>cases h
 rename_i l p0
 split at h
 case h_2=>cases h
 rename_i n t va c pick hg hv
 simp only[Option.some.injEq,Prod.mk.injEq] at h
 obtain⟨rfl,rfl,rfl⟩:=h
 obtain⟨hn,hk⟩:n=t.2.2.length∧yeo t l va c.2.2.2 p0 pick:=hp
 have e:H=tvH t++cvA va c pick:=by rw[← ytu hg hn, ← ygf hv,List.take_append_drop]
 subst e
 clear hg hv hn
 have hp:=ync hk
 obtain⟨-,h2,h3,h4,h5, -⟩:=hk
 obtain⟨s1,w1,m1⟩:=t
 obtain⟨c0,c1,c2,c3⟩:=c
 refine⟨.none,zab (zyk s1 w1 m1 va c0 c1 c2 c3 pick l p0) ?_⟩
 refine⟨⟨h3,h2⟩,h4,⟨h5,show (0:Int)≤5 by decide,show (5:Int)≤62 by decide⟩,⟨rfl,hp⟩, ?_⟩
 simp[zbs,zem,zb6]
theorem yag:zar Tryz.prog kX2 := .cons (by kernel_rfl) (zew ynb) yqz
theorem yxo:DictOk Tryz.prog FX2:=zay yag .nil .nil
theorem ygc{b:Nat}{H:Heap}{va:Int}{c:Ct}{pick:Int}{I D P:Tl}(h:getF b H=some (zq8 I D P,(va,c,pick),I,D,P)):H=fnH b va c pick I D P:=by
 unfold getF at h
 split at h
 case h_2=>cases h
 split at h
 case isFalse=>cases h
 rename_i hi
 obtain⟨rfl,rfl,rfl,rfl⟩:=hi
 split at h
 case h_2=>cases h
 rename_i hg hv
 simp only[Option.some.injEq,Prod.mk.injEq] at h
 obtain⟨⟨rfl,rfl,rfl⟩,rfl,rfl,rfl,rfl⟩:=h
 have e1:=ygd hg
 have e2:=ygf hv
 rw[e1]
 unfold cvA at e2
 simp only[List.cons.injEq,and_true] at e2
 obtain⟨rfl,rfl,rfl⟩:=e2
 rfl
theorem yvb:Sound Tryz.prog 198 yva:=by
 refine zbi mixed Tryz.func198 (by kernel_rfl) (by kernel_rfl) yxo (fun args H p v H' h hp => ?_)
 unfold yva at h
 split at h
 case h_2=>cases h
 rename_i r0 r1 r2
 split at h
 case h_2=>cases h
 rename_i n va c pick I D P hg
 simp only[Option.some.injEq,Prod.mk.injEq] at h
 obtain⟨rfl,rfl,rfl⟩:=h
 obtain⟨rfl,hk⟩:n=zq8 I D P∧yeo P r0 va c.2.2.2 r2 pick:=hp
 obtain rfl:=ygc hg
 clear hg
 obtain⟨s1,w1,m1⟩:=I
 obtain⟨s2,w2,m2⟩:=D
 obtain⟨s3,w3,m3⟩:=P
 obtain⟨c0,c1,c2,c3⟩:=c
 obtain⟨k1,k2,k3,k4,k5,k6,k7⟩:=hk
 refine⟨.none,zab (ydx s1 w1 m1 s2 w2 m2 s3 w3 m3 va c0 c1 c2 c3 pick r0 r1 r2) ⟨k5,fun q=>⟨⟨rfl,k1,k2,k3,k4,k5,k6,k7⟩, ?_⟩,fun q => ?_⟩⟩
 · have e:za7 r2 r0=1:=by simpa using q
   simp[zdf,e]
 · have e:¬ za7 r2 r0=1:=by simpa using q
   simp[zdf,e]
theorem yy9:zar Tryz.prog kX3 := .cons (by kernel_rfl) yvb yag
theorem yp6:DictOk Tryz.prog FX3:=zay yy9 .nil .nil
theorem yb5(va satp pick:Int)(t:Tl)(r:Rc):(zdf va satp pick t r).1=t.1∧(zdf va satp pick t r).2.1=t.2.1∧(zdf va satp pick t r).2.2.length=t.2.2.length:=by
 unfold zdf zem
 split
 · exact⟨rfl,rfl,by simp[zb6]⟩
 · exact⟨rfl,rfl,rfl⟩
theorem zby(va satp pick:Int):∀(rs:Rs)(t:Tl),(zae va satp pick t rs).1=t.1∧(zae va satp pick t rs).2.1=t.2.1∧(zae va satp pick t rs).2.2.length=t.2.2.length
 | [],_=>⟨rfl,rfl,rfl⟩
 | r::rs,t=>by
  obtain⟨a,b,c⟩:=yb5 va satp pick t r
  obtain⟨a',b',c'⟩:=zby va satp pick rs (zdf va satp pick t r)
  exact⟨a'.trans a,b'.trans b,c'.trans c⟩
theorem zfs(va satp pick:Int)(t:Tl)(rs:Rs)(r:Rc):zae va satp pick t (rs++[r])=zdf va satp pick (zae va satp pick t rs) r:=by simp[zae]
theorem zgn(va satp pick:Int)(t:Tl)(rs:Rs):(t.1,t.2.1,(zae va satp pick t rs).2.2)=zae va satp pick t rs:=by
 obtain⟨a,b, -⟩:=zby va satp pick rs t
 rw[← a, ← b]
theorem zjf{s w:Int}{m m':Es}(h:m'.length=m.length):zcw s w m'=zcw s w m:=by unfold zcw;rw[h]
theorem zzn{m:By}{s1 w1:Int}{m1:Es}{s2 w2:Int}{m2:Es}{s3 w3:Int}{m3:Es}{va c0:Int}{c1 c2:Bool}{c3 pick q0 q1 q2:Int}{rs:Rs}(hm:zaj m)(hv:U64 va)(hh:zcw s3 w3 m3=true)(hs:U64 c3)(p0':0≤pick)(p1':pick≤255){l p:Int}{xs:Rs}(h:StC m va (q0,q1,q2,rs) l p xs):zam Tryz.prog FX3 (ysa m va (c0,c1,c2,c3) pick (s1,w1,m1) (s2,w2,m2) (s3,w3,m3) (q0,q1,q2,rs) l p xs) 10 (zag Tryz.f137 0) (zp8 m va (c0,c1,c2,c3) pick (s1,w1,m1) (s2,w2,m2) (s3,w3,m3) (q0,q1,q2,rs)) (fun z:Int × Int × Rs=>(z.1+1).toNat) (l,p,xs):=by
 obtain⟨l0,l1,p0,p1,ha,hb,hc,hr⟩:=h
 simp only at ha hb hc hr
 refine zab (zsk m s1 w1 m1 s2 w2 m2 s3 w3 m3 va c0 c1 c2 c3 pick q0 q1 q2 rs l p xs) ?_
 conv=>zeta
 refine⟨fun g => ?_,fun g => ?_⟩
 · have g:l≥0:=of_decide_eq_true g
   have hl:LvR l:=⟨g,l1⟩
   obtain⟨hA,hS⟩:=zsx hl hv p0 p1
   have hrd:=zt8 (a:=64*p+8*zeq va l) hm
   obtain⟨i0,i1⟩:=ztl va l
   have hAu:U64 (64*p+8*zeq va l):=⟨by omega,by omega⟩
   rw[show (l+1).toNat=l.toNat+1 by omega,zob g] at ha hb hc hr
   rw[hA]
   generalize 64*p+8*zeq va l=A at *
   generalize hrr:zbc m A 8=r at *
   obtain⟨k1,k2,k3⟩:=zby va c3 pick xs (s3,w3,m3)
   have ks:=zgn va c3 pick (s3,w3,m3) xs
   simp only at k1 k2 k3 ks
   have hh2:zcw s3 w3 (zae va c3 pick (s3,w3,m3) xs).2.2=true:=by rw[zjf k3];exact hh
   refine⟨by decide,hS,by decide,⟨rfl,hm,hAu⟩,(A,r.2,r.1),by simp,fun q => ?_,fun q=>⟨hrd,fun q2 => ?_,fun q2=>⟨⟨rfl,hh2,hl,hv,hs,hrd,p0',p1'⟩,fun q3 => ?_,fun q3=>⟨hrd, ?_⟩⟩⟩⟩
   · have q:r.1=false:=by simpa using q
     rw[if_pos q] at ha hb hc hr
     simp only[List.append_nil] at hr
     subst hr
     exact .inl ⟨(),by simp[hb],ha,hc⟩
   · have q:r.1≠false:=by simpa using q
     have q2:za7 r.2 l=0:=by simpa using q2
     rw[if_neg q,if_pos q2] at ha hb hc hr
     simp only[List.append_nil] at hr
     subst hr
     exact .inr (.inl ⟨(),by simp[hb],ha,hc⟩)
   · have q:r.1≠false:=by simpa using q
     have q2:za7 r.2 l≠0:=by simpa using q2
     have q3:za7 r.2 l=2:=by simpa using q3
     rw[if_neg q,if_neg q2,if_pos q3] at ha hb hc hr
     have e:zdf va c3 pick (s3,w3,(zae va c3 pick (s3,w3,m3) xs).2.2) (l,A,r.2)=zae va c3 pick (s3,w3,m3) rs:=by rw[hr,ks];exact (zfs ..).symm
     obtain⟨j1,j2, -⟩:=zby va c3 pick rs (s3,w3,m3)
     simp only at j1 j2
     exact .inr (.inr ⟨(),by simp only[e];simp[hb,hc,j1,j2],ha⟩)
   · have q:r.1≠false:=by simpa using q
     have q2:za7 r.2 l≠0:=by simpa using q2
     have q3:za7 r.2 l≠2:=by simpa using q3
     obtain⟨g0,g1⟩:=zk7 hrd
     rw[if_neg q,if_neg q2,if_neg q3] at ha hb hc hr
     have e1:IntKind.i64.wrap (l-1)=l-1:=zaa (by omega) (by omega)
     have e2:(l-1+1).toNat=l.toNat:=by omega
     have e:zdf va c3 pick (s3,w3,(zae va c3 pick (s3,w3,m3) xs).2.2) (l,A,r.2)=zae va c3 pick (s3,w3,m3) (xs++[(l,A,r.2)]):=by rw[ks];exact (zfs ..).symm
     obtain⟨j1,j2, -⟩:=zby va c3 pick (xs++[(l,A,r.2)]) (s3,w3,m3)
     simp only at j1 j2
     refine⟨(l-1,zcl r.2,xs++[(l,A,r.2)]),by simp only[e];simp[e1,j1,j2],⟨by simp only;omega,by simp only;omega,g0,g1, ?_, ?_, ?_, ?_⟩,by simp only;omega,fun _ z=>z,fun _ z=>z,fun _ z=>z,fun _ z=>z⟩
     · simp only[e2];exact ha
     · simp only[e2];exact hb
     · simp only[e2];exact hc
     · simp only[e2,List.append_assoc];exact hr
 · have g:¬ l≥0:=of_decide_eq_false g
   have e:(l+1).toNat=0:=by omega
   rw[e] at ha hb hc hr
   have ha:q0=2:=ha
   have hb:q1=0:=hb
   have hc:q2=0:=hc
   have hr:rs=xs++[]:=hr
   rw[List.append_nil] at hr
   subst hr
   exact⟨(),by simp,ha,hb,hc⟩
theorem zts{m:By}{s1 w1:Int}{m1:Es}{s2 w2:Int}{m2:Es}{s3 w3:Int}{m3:Es}{va c0:Int}{c1 c2:Bool}{c3 pick q0 q1 q2:Int}{rs:Rs}(hm:zaj m)(hv:U64 va)(hh:zcw s3 w3 m3=true)(hs:U64 c3)(p0':0≤pick)(p1':pick≤255):zbr Tryz.prog 10 (zag Tryz.f137 0) (zp8 m va (c0,c1,c2,c3) pick (s1,w1,m1) (s2,w2,m2) (s3,w3,m3) (q0,q1,q2,rs)):=by
 refine zda mixed yp6 (by kernel_rfl) (fun z:Int × Int × Rs=>(z.1+1).toNat) (fun z hz => ?_)
 obtain⟨l,p,xs⟩:Int × Int × Rs:=z
 exact⟨_,zzn hm hv hh hs p0' p1' hz⟩
theorem ypt(k:Nat):Sound Tryz.prog 137 (ylv k):=by
 refine zek mixed Tryz.func137 (by kernel_rfl) false yp6 (fun args H p v H' h hp => ?_)
 unfold ylv at h
 split at h
 case h_2=>cases h
 rename_i n p l va0 sh m H2
 split at h
 case isFalse=>cases h
 rename_i hsh
 subst hsh
 split at h
 case h_2=>cases h
 rename_i n3 va c pick I D P hg
 simp only[Option.some.injEq,Prod.mk.injEq] at h
 obtain⟨rfl,rfl,rfl⟩:=h
 obtain⟨rfl,rfl,rfl,⟨⟨hm,p0,p1,hl,hv⟩,hh,hs,k0,k1⟩,hk⟩:n=m.length∧va0=va∧n3=zq8 I D P∧yxw m va c pick l p P∧zwz k (za6 m va (l+1).toNat p):=hp
 obtain rfl:=ygc hg
 clear hg
 obtain⟨s1,w1,m1⟩:=I
 obtain⟨s2,w2,m2⟩:=D
 obtain⟨s3,w3,m3⟩:=P
 obtain⟨c0,c1,c2,c3⟩:=c
 have hh:zcw s3 w3 m3=true:=hh
 have hs:U64 c3:=hs
 generalize hW:za6 m va0 (l+1).toNat p=W at *
 obtain⟨q0,q1,q2,rs⟩:=W
 have h0:StC m va0 (q0,q1,q2,rs) l p []:=by
  refine⟨by have:=hl.1;omega,hl.2,p0,p1, ?_, ?_, ?_, ?_⟩<;>(rw[hW];try rfl)
 refine⟨.one 1 (zp8 m va0 (c0,c1,c2,c3) pick (s1,w1,m1) (s2,w2,m2) (s3,w3,m3) (q0,q1,q2,rs)),ylu m va0 (c0,c1,c2,c3) pick (s1,w1,m1) (s2,w2,m2) (s3,w3,m3) (q0,q1,q2,rs), ?_, ?_, ?_⟩
 · intro b hb k' M hk' hM
   have hb':b=zag Tryz.f137 0:=by
    have e:zap (zau Tryz.f137)=[zag Tryz.f137 0]:=by kernel_rfl
    rw[e] at hb
    exact List.mem_singleton.1 hb
   subst hb'
   have e:zbj (zag Tryz.f137 0)=some 1:=by kernel_rfl
   rw[e] at hk'
   cases hk'
   rw[za3] at hM
   cases hM
   exact zts hm hv hh hs k0 k1
 · refine zab (zzm m s1 w1 m1 s2 w2 m2 s3 w3 m3 va0 c0 c1 c2 c3 pick q0 q1 q2 rs l p) ?_
   conv=>zeta
   refine⟨(l,p,[]),by simp[zae],h0,fun _ z => .inr (.inr ?_),fun _ z => .inr (.inl ?_),fun _ z => .inr (.inr ?_),fun _ z => .inl ?_⟩
   · obtain⟨z1,z2,z3⟩:=z
     simp[z1,z2,z3]
   · obtain⟨z1,z2⟩:=z
     simp[z1,z2]
   · obtain⟨z1,z2⟩:=z
     simp[z1,z2]
   · simp[z]
 · intro o ho hout
   simp only[ylu,List.mem_cons,List.not_mem_nil,or_false] at ho
   match k,hk with
   | 0,hk =>
    have hk:q0=1:=hk
    subst hk
    rcases ho with rfl|rfl|rfl
    · exact⟨rfl,rfl,rfl⟩
    · exact absurd (show ((1:Int)=3:Prop) from hout) (by decide)
    · exact absurd (show ((1:Int)=2:Prop) from hout) (by decide)
   | 1,hk =>
    have hk:q0=3:=hk
    subst hk
    rcases ho with rfl|rfl|rfl
    · exact absurd (show ((3:Int)=1:Prop) from hout) (by decide)
    · exact⟨rfl,rfl,rfl⟩
    · exact absurd (show ((3:Int)=2:Prop) from hout) (by decide)
   | k+2,hk =>
    have hk:q0=2:=hk
    subst hk
    rcases ho with rfl|rfl|rfl
    · exact absurd (show ((2:Int)=1:Prop) from hout) (by decide)
    · exact absurd (show ((2:Int)=3:Prop) from hout) (by decide)
    · exact⟨rfl,rfl,rfl⟩
end Go.Proofs.YtfiddfbagbaofaaGreat.V
