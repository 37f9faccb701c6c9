/- Drawing scripts: the parts that only build bytes. Conditions: those in each statement. -/
import Derived.Test.YtfiddfbagbaofaaGreatEA
import Derived.KernelRfl
namespace Go.Proofs.YtfiddfbagbaofaaGreat.V
open Go
def zu0(op a b c s:Int):By:=[IntKind.u8.wrap op,IntKind.u8.wrap (IntKind.i64.wrap (a+IntKind.i64.wrap (8*b))),IntKind.u8.wrap c,IntKind.u8.wrap (bits .and .i64 s 255)]
def zjx(at_:Int)(m:By):By:=[IntKind.u8.wrap (at_.tmod 256),IntKind.u8.wrap (IntKind.i64.wrap (at_.tdiv 256)),IntKind.u8.wrap (m.length:Int)]++m
def yts:Dict:=mkD (kB3++kA4) [] []
def ymz(op a b c s:Int):Prop:=zal Tryz.prog yts .none Tryz.f210 [i64,i64,i64,i64,i64] [byP] (op,a,b,c,s) (zu0 op a b c s)
def yio(p:Int)(m:By):Prop:=zal Tryz.prog yts .none Tryz.f211 [i64,byP] [byP] (p,m) (zjx p m)
def kEB1:Known:=[
 (210,zag [i64,i64,i64,i64,i64] [byP] (fun _=>none) (fun t=>zu0 t.1 t.2.1 t.2.2.1 t.2.2.2.1 t.2.2.2.2)),
 (211,zag [i64,byP] [byP] (fun t=>some (SzR t.2.length)) (fun t=>zjx t.1 t.2))]
def FEB1:Dict:=mkD (kEB1++kB3++kA4) [] []
def ym0(i j x:Int):Prop:=zal Tryz.prog FEB1 .none Tryz.f212 [i64,i64,u64] [byP] (i,j,x) (zjx (IntKind.i64.wrap (IntKind.i64.wrap (64*i)+IntKind.i64.wrap (8*j))) (zc6 x 8))
def kEB2:Known:=(212,zag [i64,i64,u64] [byP] (fun t=>some (U64 t.2.2)) (fun t=>zjx (IntKind.i64.wrap (IntKind.i64.wrap (64*t.1)+IntKind.i64.wrap (8*t.2.1))) (zc6 t.2.2 8)))::kEB1
set_option linter.unusedVariables false
theorem zxd(op a b c s:Int):ymz op a b c s=(
 (0:Nat)=0∧[IntKind.u8.wrap op,IntKind.u8.wrap (IntKind.i64.wrap (a+IntKind.i64.wrap ((8:Int)*b))),IntKind.u8.wrap c,IntKind.u8.wrap (bits BinOp.and IntKind.i64 s 255)].length=4∧[IntKind.u8.wrap op,
 IntKind.u8.wrap (IntKind.i64.wrap (a+IntKind.i64.wrap ((8:Int)*b))),IntKind.u8.wrap c,IntKind.u8.wrap (bits BinOp.and IntKind.i64 s 255)]=[IntKind.u8.wrap op,IntKind.u8.wrap (IntKind.i64.wrap (a+IntKind.i64.wrap ((8 :
 Int)*b))),IntKind.u8.wrap c,IntKind.u8.wrap (bits BinOp.and IntKind.i64 s 255)]):=by kernel_rfl
theorem zkf(p:Int)(m:By):yio p m=(
 let A0(a:Int):=IntKind.u8.wrap a;
 let A1:=List.length m;
 let A2:=A0 (p.tmod 256);
 let A3:=A0 (IntKind.i64.wrap (p.tdiv 256));
 let A4:=A0 (↑A1:Int);
 let A5:=(3:Nat)+(List.take A1 (List.drop 0 m)).length;
 let A6(a:Prop):=(256:Int)≠0∧a;
 let A7:=A2::A3::A4::[];
 let A8:=A2::A3::A4::[]++m;
 A6 (A6 (((0:Nat)+A1≤A1∧3≤A7.length∧A5≤1073741824)∧(0:Nat)=0∧A8.length=A5∧m=m∧A8=List.take 3 A7++List.take A1 (List.drop 0 m)))):=by kernel_rfl
theorem zxf(i j x:Int):ym0 i j x=(
 let A0(a:Int):=IntKind.i64.wrap a;
 let A1(a:Int)(b:List Int):=IntKind.u8.wrap a::b;
 let A2:=A0 (A0 ((64:Int)*i)+A0 ((8:Int)*j));
 let A3(a:List Int):=A1 (A2.tmod 256) (A1 (A0 (A2.tdiv 256)) a);
 let A4:=List.length (zc6 x (8:Int).toNat);
 let A5:=zc6 x (8:Int).toNat;
 let A6:=zc6 x 8;
 let A7:=A3 (A1 (↑(List.length (zc6 x 8)):Int) []);
 let A8:=A3 (A1 (↑A4:Int) []);
 (U64 x∧(0:PmT [i64])≤8∧8≤(8:PmT [i64]))∧(A4=A4∧SzR A4)∧(0:Nat)=0∧(A7++A6).length=(A8++A5).length∧A7++A6=A8++A5):=by kernel_rfl
set_option linter.unusedSimpArgs false
set_option linter.unusedVariables false
theorem zu5:DictOk Tryz.prog yts:=za1 (zdn.append zce) .nil .nil
theorem yhm(x:Int):0≤IntKind.u8.wrap x∧IntKind.u8.wrap x<256:=by rw[wrap_u8];omega
theorem yqq(op a b c s:Int):∀x ∈ zu0 op a b c s,0≤x∧x<256:=by
 intro x hx
 simp only[zu0,List.mem_cons,List.not_mem_nil,or_false] at hx
 rcases hx with rfl|rfl|rfl|rfl<;>exact yhm _
theorem yrv(p:Int){m:By}(h:∀x ∈ m,0≤x∧x<256):∀x ∈ zjx p m,0≤x∧x<256:=by
 intro x hx
 simp only[zjx,List.mem_cons,List.mem_append,List.not_mem_nil,or_false] at hx
 rcases hx with (rfl|rfl|rfl)|hx
 · exact yhm _
 · exact yhm _
 · exact yhm _
 · exact h x hx
theorem zab(p:Int)(m:By):(zjx p m).length=3+m.length:=by simp[zjx];omega
theorem yk7:Sound Tryz.prog 210 (zag [i64,i64,i64,i64,i64] [byP] (fun _=>none) (fun t=>zu0 t.1 t.2.1 t.2.2.1 t.2.2.2.1 t.2.2.2.2)):=by
 refine zad mixed Tryz.func210 (by kernel_rfl) (by kernel_rfl) zu5 (fun t _ => ?_)
 obtain⟨op,a,b,c,s⟩:Int × Int × Int × Int × Int:=t
 exact zah (zxd op a b c s) (by simp)
theorem yfq:Sound Tryz.prog 211 (zag [i64,byP] [byP] (fun t=>some (SzR t.2.length)) (fun t=>zjx t.1 t.2)):=by
 refine zad mixed Tryz.func211 (by kernel_rfl) (by kernel_rfl) zu5 (fun t h => ?_)
 obtain⟨p,m⟩:Int × By:=t
 have h:m.length≤2097152:=h
 have k:3+m.length≤1073741824:=by omega
 refine zah (zkf p m) ?_
 conv=>zeta
 exact (by simp[k];omega)
theorem ye5:zay Tryz.prog kEB1 := .cons (by kernel_rfl) yk7 <| .cons (by kernel_rfl) yfq .nil
theorem ypo:DictOk Tryz.prog FEB1:=za1 ((ye5.append zdn).append zce) .nil .nil
theorem yk8:Sound Tryz.prog 212 (zag [i64,i64,u64] [byP] (fun t=>some (U64 t.2.2)) (fun t=>zjx (IntKind.i64.wrap (IntKind.i64.wrap (64*t.1)+IntKind.i64.wrap (8*t.2.1))) (zc6 t.2.2 8))):=by
 refine zad mixed Tryz.func212 (by kernel_rfl) (by kernel_rfl) ypo (fun t h => ?_)
 obtain⟨i,j,x⟩:Int × Int × Int:=t
 have h:U64 x:=h
 refine zah (zxf i j x) ?_
 conv=>zeta
 refine⟨⟨h,by decide,by decide⟩,⟨rfl,by rw[zac];show 8≤2097152;omega⟩, ?_⟩
 repeat' apply And.intro
 all_goals rfl
theorem zv6:zay Tryz.prog kEB2 := .cons (by kernel_rfl) yk8 ye5
end Go.Proofs.YtfiddfbagbaofaaGreat.V
