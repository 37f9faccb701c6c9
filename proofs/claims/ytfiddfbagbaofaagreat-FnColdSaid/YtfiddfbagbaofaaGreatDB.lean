/- The program's reading of a script answers as its model. Conditions: those in each statement. -/
import Derived.Test.YtfiddfbagbaofaaGreatDA
import Derived.KernelRfl
namespace Go.Proofs.YtfiddfbagbaofaaGreat.V
open Go
def dPc(b:By):Int:=zc6 (zbs b 7 8)
def zb9(b:By):Int:=if atB b 4 % 4=3 then 1 else atB b 4 % 4
def zm9(b:By):Bool:=atB b 4/4 % 2==1
def zm8(b:By):Bool:=atB b 4/8 % 2==1
def zdn(b:By):Int:=if ze3 (zc6 (zbs b 23 8))=true then zc6 (zbs b 23 8) else 0
def zds(b:By):Int:=zc6 (zbs b 15 8)/4*4
def zbe(b:By):Nat:=(64*(1+atB b 3 % 64)).toNat
def dN(b:By):Int:=min (zc6 (zbs b 5 2)) 20000
def zek(b:By)(i:Nat):Us:=(List.range 8).map fun j=>if 1≤j∧j<i then zc6 (zbs b (23+8*j) 8) else 0
def wrS(b:By)(p a:Nat):Nat→By→By
 | 0,m=>m
 | j+1,m=>if a+j<(wrS b p a j m).length then (wrS b p a j m).set (a+j) (atB b (p+j)) else wrS b p a j m
def zjy(b:By):Nat→Nat × By→Nat × By
 | 0,s=>s
 | r+1,s=>zjy b r (s.1+3+(atB b (s.1+2)).toNat,wrS b (s.1+3) (atB b s.1+256*atB b (s.1+1)).toNat (atB b (s.1+2)).toNat s.2)
def zrn(b:By):Nat × By:=zjy b (atB b 87).toNat (88,List.replicate (zbe b) 0)
abbrev scP:Pm := .st [.sl [.i .u8],.sl [.i .u64],.i .u64,.i .i64,.b,.b,.i .u64,.i .u64,.i .u64,.i .i64,.i .i64,.i .u64,.i .i64,.i .i64,.sl shE,.i .i64,.i .i64,.sl shE,.i .i64,.i .i64,.sl shE,.sl [.i .i64]]
abbrev Sc:=By × Us × Int × Int × Bool × Bool × Int × Int × Int × Int × Int × Int × Int × Int × Es × Int × Int × Es × Int × Int × Es × List Int
def zz9(b:By):Sc:=((zrn b).2,zek b 8,dPc b,zb9 b,zm9 b,zm8 b,zdn b,zds b,0,zb9 b,0,0,(zax (atB b 0)).1,(zax (atB b 0)).2.1,List.replicate (zau (atB b 0)) zE,(zax (atB b 1)).1,(zax (atB b 1)).2.1,List.replicate (zau (atB b 1)) zE,(zax (atB b 2)).1,(zax (atB b 2)).2.1,List.replicate (zau (atB b 2)) zE,zbs b (zrn b).1 (dN b).toNat)
def zSc:Blk := .fix [.v (.slice none 0 0),.v (.slice none 0 0),.v (.int .u64 0),.v (.int .i64 0),.v (.bool false),.v (.bool false),.v (.int .u64 0),.v (.int .u64 0),.v (.int .u64 0),.v (.int .i64 0),.v (.int .i64 0),.v (.int .u64 0),.v (.int .i64 0),.v (.int .i64 0),.v (.slice none 0 0),.v (.int .i64 0),.v (.int .i64 0),.v (.slice none 0 0),.v (.int .i64 0),.v (.int .i64 0),.v (.slice none 0 0),.v (.slice none 0 0)] true (some 44)
def ys3:Av := .v (.slice none 0 0)
def RunR(b:By)(t p:Nat)(m:By):Prop:=t≤255∧p≤88+258*(255-t)∧m.length=zbe b∧zal m∧zjy b t (p,m)=zrn b
set_option linter.unusedVariables false
set_option linter.unusedSimpArgs false
set_option linter.unusedVariables false
theorem zm6(b:By)(p a:Nat):∀(j:Nat)(m:By),(wrS b p a j m).length=m.length
 | 0,m=>rfl
 | j+1,m=>by
  have e:=zm6 b p a j m
  unfold wrS
  split
  · rw[List.length_set,e]
  · exact e
theorem yjj{b:By}(hb:zal b)(p a:Nat):∀(j:Nat){m:By},zal m→zal (wrS b p a j m)
 | 0,m,h=>h
 | j+1,m,h=>by
  have e:=yjj hb p a j h
  have hl:=zm6 b p a (j+1) m
  refine⟨by rw[hl];exact h.1, ?_⟩
  unfold wrS
  split
  · intro x hx
    rcases List.mem_or_eq_of_mem_set hx with q|q
    · exact e.2 x q
    · rw[q];exact zdc hb _
  · exact e.2
theorem zfj(b:By)(i:Nat):(zek b i).length=8:=by simp[zek]
theorem num2{b:By}(hb:zal b)(p:Nat):zc6 (zbs b p 2)=atB b p+256*atB b (p+1):=by
 show atB b (p+0)+256*(atB b (p+1)+256*0)=_
 rw[Nat.add_zero]
 omega
theorem zkt{b:By}(hb:zal b):64*(1+atB b 3 % 64)=(zbe b:Int)∧zbe b≤4096:=by
 have:=zdc hb 3
 unfold zbe
 omega
theorem yt7{b:By}(hb:zal b):0≤dN b∧dN b≤20000:=by
 have:=ydr hb 5 2
 unfold dN
 omega
theorem ygr{n:Nat}(h:n≤4096):zal (List.replicate n (0:Int)):=by
 refine⟨by rw[List.length_replicate];unfold SzR;omega,fun x hx => ?_⟩
 rw[(List.mem_replicate.1 hx).2]
 exact⟨by decide,by decide⟩
theorem zzi{b:By}(hb:zal b):∀(t p:Nat)(m:By),t≤255→p≤88+258*(255-t)→zal m→(zjy b t (p,m)).1≤65878∧(zjy b t (p,m)).2.length=m.length∧zal (zjy b t (p,m)).2
 | 0,p,m,h0,h1,h2=>by
  refine⟨?_,rfl,h2⟩
  show p≤_
  omega
 | t+1,p,m,h0,h1,h2=>by
  have c:=zdc hb (p+2)
  have:=zzi hb t (p+3+(atB b (p+2)).toNat) (wrS b (p+3) (atB b p+256*atB b (p+1)).toNat (atB b (p+2)).toNat m) (by omega) (by omega) (yjj hb _ _ _ h2)
  rw[zm6] at this
  exact this
theorem ydz{b:By}(hb:zal b):(zrn b).1≤65878∧(zrn b).2.length=zbe b∧zal (zrn b).2:=by
 have c:=zdc hb 87
 have:=zzi hb (atB b 87).toNat 88 (List.replicate (zbe b) 0) (by omega) (by omega) (ygr (zkt hb).2)
 rw[List.length_replicate] at this
 exact this
end Go.Proofs.YtfiddfbagbaofaaGreat.V
