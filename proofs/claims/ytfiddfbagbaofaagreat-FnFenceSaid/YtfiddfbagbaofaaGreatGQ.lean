/- Draws of memories answer as their models. Conditions: those in each statement. -/
import Derived.Test.YtfiddfbagbaofaaGreatGC
import Derived.KernelRfl
namespace Go.Proofs.YtfiddfbagbaofaaGreat.V
open Go
def hN(h:Int):Int:=IntKind.i64.wrap (IntKind.i64.wrap (h*6364136223846793005)+1442695040888963407)
def iN(n:Nat)(i:Int):Int:=if i<n then i+1 else i
def rawM(h:Int):Int:=bits .and .i64 (bits .xor .i64 (hN h/2 ^ 33) (hN h/2 ^ 45)) 255
def byM(m:By)(i h:Int):Int:=if i<m.length then bits .and .i64 (IntKind.i64.wrap (rawM h+m.getD i.toNat 0)) 255 else rawM h
def zbe(m:By)(i:Int):Prop:=zan m∧0≤i∧i≤m.length
def zll(n:Nat)(i h:Int):List Av:=[.sl 1 1 0 n,.v (.int .i64 i),.v (.int .i64 h)]
def ymm(m:By)(i h:Int):Prop:=znh Tryz.prog F0 .none Tryz.f168 [.ptr 0 0] [.fix (zll m.length i h) true (some 244),.arr [.i .u8] m true] (.v (.int .i64 (byM m i h))) [.fix (zll m.length (iN m.length i) (hN h)) true (some 244),.arr [.i .u8] m true]
def yml(m:By)(i h:Int):Prop:=znh Tryz.prog F0 .none Tryz.f168 [.ptr 0 0] [.fix (zll m.length i h) true (some 244),.arr [.i .u8] m false] (.v (.int .i64 (byM m i h))) [.fix (zll m.length (iN m.length i) (hN h)) true (some 244),.arr [.i .u8] m false]
def yj9:Sum:=fun args H=>match args,H with
 | [.ptr 0 0],[.fix [.sl 1 1 0 n,.v (.int .i64 i),.v (.int .i64 h)] true (some 244),.arr sh m o] =>
  if e:sh=[.i .u8] then some (some (n=(e ▸ m:List (El [.i .u8])).length∧zbe (e ▸ m:List (El [.i .u8])) i),.v (.int .i64 (byM (e ▸ m:List (El [.i .u8])) i h)),[.fix (zll n (iN n i) (hN h)) true (some 244),.arr [.i .u8] (e ▸ m:List (El [.i .u8])) o]) else none
 | _,_=>none
set_option linter.unusedVariables false
theorem zwz(m:By)(i h:Int):ymm m i h=(
 (0:Int)≤(33:Int) ∧
   (0:Int)≤(45:Int) ∧
     (decide (i<(↑(List.length m):Int))=true →
         ((0:Int)≤i∧i<(↑(List.length m):Int)) ∧
           (0:Nat)+i.toNat<List.length m ∧
             byM m i h =
                 bits BinOp.and IntKind.i64
                   (IntKind.i64.wrap
                     (bits BinOp.and IntKind.i64
                         (bits BinOp.xor IntKind.i64
                           (IntKind.i64.wrap (IntKind.i64.wrap (h*(6364136223846793005:Int))+(1442695040888963407:Int))/(2:Int) ^ min (Int.toNat (33:Int)) (64:Nat))
                           (IntKind.i64.wrap (IntKind.i64.wrap (h*(6364136223846793005:Int))+(1442695040888963407:Int))/(2:Int) ^ min (Int.toNat (45:Int)) (64:Nat)))
                         (255:Int) +
                       IntKind.i64.wrap (List.getD m ((0:Nat)+i.toNat) (El.zero [Ty.i IntKind.u8]))))
                   (255:Int) ∧
               (0:Nat)=(0:Nat) ∧
                 List.length m=List.length m ∧
                   iN (List.length m) i=IntKind.i64.wrap (i+(1:Int))∧hN h=IntKind.i64.wrap (IntKind.i64.wrap (h*(6364136223846793005:Int))+(1442695040888963407:Int))∧m=m) ∧
       (decide (i<(↑(List.length m):Int))=false →
         byM m i h =
             bits BinOp.and IntKind.i64
               (bits BinOp.xor IntKind.i64 (IntKind.i64.wrap (IntKind.i64.wrap (h*(6364136223846793005:Int))+(1442695040888963407:Int))/(2:Int) ^ min (Int.toNat (33:Int)) (64:Nat))
                 (IntKind.i64.wrap (IntKind.i64.wrap (h*(6364136223846793005:Int))+(1442695040888963407:Int))/(2:Int) ^ min (Int.toNat (45:Int)) (64:Nat)))
               (255:Int) ∧
           (0:Nat)=(0:Nat) ∧
             List.length m=List.length m∧iN (List.length m) i=i∧hN h=IntKind.i64.wrap (IntKind.i64.wrap (h*(6364136223846793005:Int))+(1442695040888963407:Int))∧m=m)):=by kernel_rfl
theorem zwy(m:By)(i h:Int):yml m i h=(
 (0:Int)≤(33:Int) ∧
   (0:Int)≤(45:Int) ∧
     (decide (i<(↑(List.length m):Int))=true →
         ((0:Int)≤i∧i<(↑(List.length m):Int)) ∧
           (0:Nat)+i.toNat<List.length m ∧
             byM m i h =
                 bits BinOp.and IntKind.i64
                   (IntKind.i64.wrap
                     (bits BinOp.and IntKind.i64
                         (bits BinOp.xor IntKind.i64
                           (IntKind.i64.wrap (IntKind.i64.wrap (h*(6364136223846793005:Int))+(1442695040888963407:Int))/(2:Int) ^ min (Int.toNat (33:Int)) (64:Nat))
                           (IntKind.i64.wrap (IntKind.i64.wrap (h*(6364136223846793005:Int))+(1442695040888963407:Int))/(2:Int) ^ min (Int.toNat (45:Int)) (64:Nat)))
                         (255:Int) +
                       IntKind.i64.wrap (List.getD m ((0:Nat)+i.toNat) (El.zero [Ty.i IntKind.u8]))))
                   (255:Int) ∧
               (0:Nat)=(0:Nat) ∧
                 List.length m=List.length m ∧
                   iN (List.length m) i=IntKind.i64.wrap (i+(1:Int))∧hN h=IntKind.i64.wrap (IntKind.i64.wrap (h*(6364136223846793005:Int))+(1442695040888963407:Int))∧m=m) ∧
       (decide (i<(↑(List.length m):Int))=false →
         byM m i h =
             bits BinOp.and IntKind.i64
               (bits BinOp.xor IntKind.i64 (IntKind.i64.wrap (IntKind.i64.wrap (h*(6364136223846793005:Int))+(1442695040888963407:Int))/(2:Int) ^ min (Int.toNat (33:Int)) (64:Nat))
                 (IntKind.i64.wrap (IntKind.i64.wrap (h*(6364136223846793005:Int))+(1442695040888963407:Int))/(2:Int) ^ min (Int.toNat (45:Int)) (64:Nat)))
               (255:Int) ∧
           (0:Nat)=(0:Nat) ∧
             List.length m=List.length m∧iN (List.length m) i=i∧hN h=IntKind.i64.wrap (IntKind.i64.wrap (h*(6364136223846793005:Int))+(1442695040888963407:Int))∧m=m)):=by kernel_rfl
set_option linter.unusedSimpArgs false
theorem and255(x:Int):0≤bits .and .i64 x 255∧bits .and .i64 x 255<256:=by
 have key:∀a:BitVec 64,(a &&& BitVec.ofInt 64 255).toNat<256:=by
  intro a
  rw[BitVec.toNat_and,show (BitVec.ofInt 64 255).toNat=255 by decide]
  exact Nat.lt_of_le_of_lt Nat.and_le_right (by decide)
 have h:=key (BitVec.ofInt 64 x)
 have e:bits .and .i64 x 255=IntKind.i64.wrap ((BitVec.ofInt 64 x &&& BitVec.ofInt 64 255).toNat:Int):=rfl
 rw[e,zaa (by omega) (by omega)]
 omega
theorem zlh(m:By)(i h:Int):0≤byM m i h∧byM m i h<256:=by
 unfold byM rawM
 split<;>exact and255 _
theorem yab{m:By}{i h:Int}(hm:zan m)(h0:0≤i):(decide (i<(m.length:Int))=true→(0≤i∧i<(m.length:Int))∧0+i.toNat<m.length∧byM m i h=bits .and .i64 (IntKind.i64.wrap (bits .and .i64 (bits .xor .i64 (IntKind.i64.wrap (IntKind.i64.wrap (h*6364136223846793005)+1442695040888963407)/2 ^ min (Int.toNat 33) 64) (IntKind.i64.wrap (IntKind.i64.wrap (h*6364136223846793005)+1442695040888963407)/2 ^ min (Int.toNat 45) 64)) 255+IntKind.i64.wrap (m.getD (0+i.toNat) (El.zero [Ty.i .u8])))) 255∧iN m.length i=IntKind.i64.wrap (i+1)) ∧
 (decide (i<(m.length:Int))=false→byM m i h=bits .and .i64 (bits .xor .i64 (IntKind.i64.wrap (IntKind.i64.wrap (h*6364136223846793005)+1442695040888963407)/2 ^ min (Int.toNat 33) 64) (IntKind.i64.wrap (IntKind.i64.wrap (h*6364136223846793005)+1442695040888963407)/2 ^ min (Int.toNat 45) 64)) 255∧iN m.length i=i):=by
 have hs:=hm.1
 unfold SzR at hs
 refine⟨fun q => ?_,fun q => ?_⟩
 · have q:i<(m.length:Int):=of_decide_eq_true q
   have hlt:i.toNat<m.length:=by omega
   have hb:=hm.2 _ (by rw[List.getD_eq_getElem?_getD,List.getElem?_eq_getElem hlt];exact List.getElem_mem hlt:m.getD i.toNat (0:Int) ∈ m)
   refine⟨⟨h0,q⟩,by omega, ?_, ?_⟩
   · rw[Nat.zero_add,show El.zero [Ty.i .u8]=(0:Int) from rfl,zaa (n:=m.getD i.toNat (0:Int)) (by omega) (by omega)]
     unfold byM
     rw[if_pos q]
     rfl
   · unfold iN
     rw[if_pos q,zaa (by omega) (by omega)]
 · have q:¬ i<(m.length:Int):=of_decide_eq_false q
   refine⟨?_, ?_⟩
   · unfold byM
     rw[if_neg q]
     rfl
   · unfold iN
     rw[if_neg q]
theorem ydw:Sound Tryz.prog 168 yj9:=by
 refine zde mixed Tryz.func168 (by kernel_rfl) (by kernel_rfl) zee (fun args H p v H' h hp => ?_)
 unfold yj9 at h
 split at h
 case h_2=>cases h
 rename_i n i hh sh m o
 split at h
 case isFalse=>cases h
 rename_i hsh
 subst hsh
 simp only[Option.some.injEq,Prod.mk.injEq] at h
 obtain⟨rfl,rfl,rfl⟩:=h
 obtain⟨rfl,hm,h0,h1⟩:n=m.length∧zbe m i:=hp
 obtain⟨a,b⟩:=yab (h:=hh) hm h0
 cases o with
 | true=>exact⟨.none,zah (zwz m i hh) ⟨by decide,by decide,fun q=>⟨(a q).1,(a q).2.1,(a q).2.2.1,rfl,rfl,(a q).2.2.2,rfl,rfl⟩,fun q=>⟨(b q).1,rfl,rfl,(b q).2,rfl,rfl⟩⟩⟩
 | false=>exact⟨.none,zah (zwy m i hh) ⟨by decide,by decide,fun q=>⟨(a q).1,(a q).2.1,(a q).2.2.1,rfl,rfl,(a q).2.2.2,rfl,rfl⟩,fun q=>⟨(b q).1,rfl,rfl,(b q).2,rfl,rfl⟩⟩⟩
end Go.Proofs.YtfiddfbagbaofaaGreat.V
