/- The program's reading of a script answers as its model. Conditions: those in each statement. -/
import Derived.Test.YtfiddfbagbaofaaGreatDA
import Derived.KernelRfl
namespace Go.Proofs.YtfiddfbagbaofaaGreat.V
open Go
def dPc(b:By):Int:=zda (zbs b 7 8)
def zcb(b:By):Int:=if atB b 4 % 4=3 then 1 else atB b 4 % 4
def znb(b:By):Bool:=atB b 4/4 % 2==1
def zna(b:By):Bool:=atB b 4/8 % 2==1
def zdt(b:By):Int:=if ze6 (zda (zbs b 23 8))=true then zda (zbs b 23 8) else 0
def zdw(b:By):Int:=zda (zbs b 15 8)/4*4
def zbf(b:By):Nat:=(64*(1+atB b 3 % 64)).toNat
def dN(b:By):Int:=min (zda (zbs b 5 2)) 20000
def zen(b:By)(i:Nat):Us:=(List.range 8).map fun j=>if 1≤j∧j<i then zda (zbs b (23+8*j) 8) else 0
def wrS(b:By)(p a:Nat):Nat→By→By
 | 0,m=>m
 | j+1,m=>if a+j<(wrS b p a j m).length then (wrS b p a j m).set (a+j) (atB b (p+j)) else wrS b p a j m
def zjy(b:By):Nat→Nat × By→Nat × By
 | 0,s=>s
 | r+1,s=>zjy b r (s.1+3+(atB b (s.1+2)).toNat,wrS b (s.1+3) (atB b s.1+256*atB b (s.1+1)).toNat (atB b (s.1+2)).toNat s.2)
def zrp(b:By):Nat × By:=zjy b (atB b 87).toNat (88,List.replicate (zbf b) 0)
abbrev scP:Pm := .st [.sl [.i .u8],.sl [.i .u64],.i .u64,.i .i64,.b,.b,.i .u64,.i .u64,.i .u64,.i .i64,.i .i64,.i .u64,.i .i64,.i .i64,.sl shE,.i .i64,.i .i64,.sl shE,.i .i64,.i .i64,.sl shE,.sl [.i .i64]]
abbrev Sc:=By × Us × Int × Int × Bool × Bool × Int × Int × Int × Int × Int × Int × Int × Int × Es × Int × Int × Es × Int × Int × Es × List Int
def yjr(b:By):Sc:=((zrp b).2,zen b 8,dPc b,zcb b,znb b,zna b,zdt b,zdw b,0,zcb b,0,0,(zaz (atB b 0)).1,(zaz (atB b 0)).2.1,List.replicate (zaw (atB b 0)) zE,(zaz (atB b 1)).1,(zaz (atB b 1)).2.1,List.replicate (zaw (atB b 1)) zE,(zaz (atB b 2)).1,(zaz (atB b 2)).2.1,List.replicate (zaw (atB b 2)) zE,zbs b (zrp b).1 (dN b).toNat)
def zSc:Blk := .fix [.v (.slice none 0 0),.v (.slice none 0 0),.v (.int .u64 0),.v (.int .i64 0),.v (.bool false),.v (.bool false),.v (.int .u64 0),.v (.int .u64 0),.v (.int .u64 0),.v (.int .i64 0),.v (.int .i64 0),.v (.int .u64 0),.v (.int .i64 0),.v (.int .i64 0),.v (.slice none 0 0),.v (.int .i64 0),.v (.int .i64 0),.v (.slice none 0 0),.v (.int .i64 0),.v (.int .i64 0),.v (.slice none 0 0),.v (.slice none 0 0)] true (some 44)
def ytn:Av := .v (.slice none 0 0)
def RunR(b:By)(t p:Nat)(m:By):Prop:=t≤255∧p≤88+258*(255-t)∧m.length=zbf b∧zan m∧zjy b t (p,m)=zrp b
set_option linter.unusedVariables false
set_option linter.unusedSimpArgs false
set_option linter.unusedVariables false
theorem zm8(b:By)(p a:Nat):∀(j:Nat)(m:By),(wrS b p a j m).length=m.length
 | 0,m=>rfl
 | j+1,m=>by
  have e:=zm8 b p a j m
  unfold wrS
  split
  · rw[List.length_set,e]
  · exact e
theorem yjo{b:By}(hb:zan b)(p a:Nat):∀(j:Nat){m:By},zan m→zan (wrS b p a j m)
 | 0,m,h=>h
 | j+1,m,h=>by
  have e:=yjo hb p a j h
  have hl:=zm8 b p a (j+1) m
  refine⟨by rw[hl];exact h.1, ?_⟩
  unfold wrS
  split
  · intro x hx
    rcases List.mem_or_eq_of_mem_set hx with q|q
    · exact e.2 x q
    · rw[q];exact zdg hb _
  · exact e.2
theorem zfl(b:By)(i:Nat):(zen b i).length=8:=by simp[zen]
theorem num2{b:By}(hb:zan b)(p:Nat):zda (zbs b p 2)=atB b p+256*atB b (p+1):=by
 show atB b (p+0)+256*(atB b (p+1)+256*0)=_
 rw[Nat.add_zero]
 omega
theorem zku{b:By}(hb:zan b):64*(1+atB b 3 % 64)=(zbf b:Int)∧zbf b≤4096:=by
 have:=zdg hb 3
 unfold zbf
 omega
theorem yut{b:By}(hb:zan b):0≤dN b∧dN b≤20000:=by
 have:=ydx hb 5 2
 unfold dN
 omega
theorem ygv{n:Nat}(h:n≤4096):zan (List.replicate n (0:Int)):=by
 refine⟨by rw[List.length_replicate];unfold SzR;omega,fun x hx => ?_⟩
 rw[(List.mem_replicate.1 hx).2]
 exact⟨by decide,by decide⟩
theorem zzo{b:By}(hb:zan b):∀(t p:Nat)(m:By),t≤255→p≤88+258*(255-t)→zan m→(zjy b t (p,m)).1≤65878∧(zjy b t (p,m)).2.length=m.length∧zan (zjy b t (p,m)).2
 | 0,p,m,h0,h1,h2=>by
  refine⟨?_,rfl,h2⟩
  show p≤_
  omega
 | t+1,p,m,h0,h1,h2=>by
  have c:=zdg hb (p+2)
  have:=zzo hb t (p+3+(atB b (p+2)).toNat) (wrS b (p+3) (atB b p+256*atB b (p+1)).toNat (atB b (p+2)).toNat m) (by omega) (by omega) (yjo hb _ _ _ h2)
  rw[zm8] at this
  exact this
theorem yd6{b:By}(hb:zan b):(zrp b).1≤65878∧(zrp b).2.length=zbf b∧zan (zrp b).2:=by
 have c:=zdg hb 87
 have:=zzo hb (atB b 87).toNat 88 (List.replicate (zbf b) 0) (by omega) (by omega) (ygv (zku hb).2)
 rw[List.length_replicate] at this
 exact this
end Go.Proofs.YtfiddfbagbaofaaGreat.V
