/- Drawn caches, drawn insertions, and the law on a cache's life (seat G). Conditions: those in each statement. -/
import Derived.Test.YtfiddfbagbaofaaGreatER
import Derived.Test.YtfiddfbagbaofaaGreatV4
import Derived.KernelRfl
namespace Go.Proofs.YtfiddfbagbaofaaGreat.V
open Go
def kES : Known := yqx ++ kY1 ++ kB3 ++ kA4
def FES : Dict := mkD ((81, newS) :: kES) [] []
def TlK (t : Tl) : Prop := TlR t ∧ 1 ≤ t.2.2.length ∧ t.2.2.length ≤ 1000
abbrev zo9 : RelS := ztb [] [tlP, bl] (((0, 0, []) : Tl), false) (fun _ => True) (fun _ (z : Tl × Bool) => TlK z.1)
def rES1 : List (FuncId × RelS) := [(111, ctx1), (114, warm1), (115, spoil1), (110, reach1)] ++ yae
def smX (m : By) : SpecW := { plan := fun _ => some (fun _ => .std), cond := fun r => if r = 3 then some { β := Cf × Int × Int, sl := fun _ => slots 45 [(0, .ptr 0 0), (2, .ptr 2 0), (4, .ptr 3 0)], H := fun z => zff m z.2.1 z.2.2 ++ [.fix ypi true (some 37), .fix (List.replicate 12 .any ++ cfA z.1 4) true (some 41)] ++ cfH z.1 } else none }
def zz3 (m : By) (i h : Int) : Prop := vcR Tryz.prog FES (Rels.of rES1) (smX m) Tryz.f82 zo9 [.ptr 0 0] (zff m i h)
def rES2 : List (FuncId × RelS) := (82, zo9) :: rES1
def yqc : RelS := ydp [byP] [tlP, enP, i64] (((0, 0, []) : Tl), zE, (0 : Int)) (fun m : By => zaq m) (fun _ (z : Tl × En × Int) => TlK z.1 ∧ EnR z.2.1)
def diSl (l : List (Nat × Av)) : List Av := slots 74 ([(2, .ptr 1 0), (3, .ptr 2 0), (5, .ptr 3 0), (6, .ptr 4 0)] ++ l)
def diH (m : By) (t : Tl) (ci ch : Int) : Heap := [.arr [.i .u8] m false, .fix ypi true (some 37), .fix (ygm zE) true (some 47), .fix [.sl 0 1 0 m.length, .v (.int .i64 ci), .v (.int .i64 ch)] true (some 244), .fix (tlA t.1 t.2.1 5 t.2.2.length) true (some 37), .arr shE t.2.2 true]
def yqb (m : By) (r : Nat) : Option CutW :=
 if r = 8 then some { β := Tl × Int × Int × Int × Int × Int, sl := fun z => diSl [(8, .v (.int .u64 z.2.1)), (9, .v (.int .i64 z.2.2.1)), (11, .v (.int .u64 z.2.2.2.1))], H := fun z => diH m z.1 z.2.2.2.2.1 z.2.2.2.2.2 }
 else if r = 13 then some { β := Tl × En × Int × Int, sl := fun _ => diSl [(13, .ptr 6 0)], H := fun z => diH m z.1 z.2.2.1 z.2.2.2 ++ [.fix (ygm z.2.1) true (some 47)] }
 else if r = 17 then some { β := Tl × En × Int × Int × Int, sl := fun z => diSl [(13, .ptr 6 0), (14, .v (.int .i64 z.2.2.1))], H := fun z => diH m z.1 z.2.2.2.1 z.2.2.2.2 ++ [.fix (ygm z.2.1) true (some 47)] }
 else none
def diX (m : By) : SpecW := { plan := fun k => if k = 18 then none else some (fun _ => .std), cond := yqb m }
def zza (m : By) : Prop := vcP Tryz.prog FES (Rels.of rES2) (diX m) Tryz.f23 [byP] [tlP, enP, i64] m (fun (z : Tl × En × Int) => TlK z.1 ∧ EnR z.2.1)
def FES2 : Dict := mkD (kJ3 ++ kI2 ++ kH ++ kB3 ++ kA4) [] []
def yng (m : By) (e : En) (l : Heap) : Heap := [.arr [.i .u8] m false, .fix (ygm e) true (some 47)] ++ l
def ynf (m : By) (r : Nat) : Option CutW :=
 if r = 9 then some { β := Tl × En × Int × Int, sl := fun z => slots 95 [(3, .ptr 2 0), (4, .ptr 1 0), (5, .v (.int .i64 z.2.2.1)), (6, .v (.int .u64 z.2.2.2))], H := fun z => yng m z.2.1 [.fix (tlA z.1.1 z.1.2.1 3 z.1.2.2.length) true (some 37), .arr shE z.1.2.2 true] }
 else if r = 11 then some { β := Tl × En × Hi × Int, sl := fun z => slots 95 [(4, .ptr 1 0), (6, .v (.int .u64 z.2.2.2)), (7, .ptr 4 0), (8, .ptr 2 0)], H := fun z => yng m z.2.1 [.fix (tlA z.1.1 z.1.2.1 3 z.1.2.2.length) true (some 37), .arr shE z.1.2.2 true, .fix (zyb z.2.2.1) true (some 52)] }
 else if r = 16 then some { β := Tl × En × Tl × Int, sl := fun z => slots 95 [(4, .ptr 1 0), (6, .v (.int .u64 z.2.2.2)), (9, .ptr 4 0), (8, .ptr 2 0)], H := fun z => yng m z.2.1 [.fix (tlA z.1.1 z.1.2.1 3 z.1.2.2.length) true (some 37), .arr shE z.1.2.2 true, .fix (tlA z.2.2.1.1 z.2.2.1.2.1 5 z.2.2.1.2.2.length) true (some 37), .arr shE z.2.2.1.2.2 true] }
 else none
def yq6 (m : By) : SpecW := { plan := fun k => if k = 3 then some (fun _ => .std) else none, cut := ynf m }
def zzp (m : By) : Prop := vcP Tryz.prog FES2 (Rels.of [(23, yqc)]) (yq6 m) Tryz.f5 [byP] [bl] m (fun z : Bool => z = true)
set_option linter.unusedVariables false
set_option maxRecDepth 10000
theorem ygb :
 let A0 (a : PmT [haP] × Int × Int) := a.fst.snd;
 let A1 (a : PmT [haP] × Int × Int) := (A0 a).snd.snd;
 let A2 (a : PmT [haP] × Int × Int) := (A1 a).snd.snd.snd.snd;
 let A3 (a : PmT [haP] × Int × Int) := (A2 a).snd.snd.snd.snd.snd.snd;
 let A4 (a : CsT [Cs.i IntKind.i64, Cs.sl shE]) := List.length a.snd;
 let A5 (a : PmT [haP] × Int × Int) := (A3 a).snd.snd.snd.snd;
 let A6 (a : Cf × Int × Int) := a.fst.snd;
 let A7 (a : Int × Es) := List.length a.snd;
 let A8 (a : Tl × En × Int × Int) := a.snd.fst.snd.snd.snd;
 let A9 (a b c : Prop) := a ∧ b ∧ c;
 let Aa (a : PmT [chP] × Int × Int) := a.fst.snd;
 let Ab (a : Tl × En × Int × Int) := a.fst.snd;
 let Ac (a b c d e : Prop) := A9 a b (A9 c d e);
 let Ad (a : By) := List.length a = List.length a;
 let Ae (a : Cf × Int × Int) := (A6 a).snd.snd;
 let Af (a : By) (b : Int × Int) := zbj a b.fst;
 let Ah := (0 : Nat) = (0 : Nat);
 let Ai (a : PmT [haP] × Int × Int) := (A5 a).snd.snd;
 let Aj (a : Tl × En × Hi × Int) := a.fst.snd;
 let Ak (a : Cf × Int × Int) := (Ae a).snd.snd.snd;
 let Al (a : PmT [chP] × Int × Int) := (Aa a).snd.snd.snd.snd;
 let Am (a b c d e f g h i : Prop) := Ac a b c d (Ac e f g h i);
 let An := Int.ofNat (0 : Nat);
 let Ao (a : Tl) (b : Int × Es) := (a.fst, b.fst, b.snd);
 let Ap (a : En) := a.snd.fst;
 let Aq (a : Tl × En × Int × Int) := a.snd.snd;
 let Ar (a : Tl × En × Int × Int) := (A8 a).fst;
 let Au (a : Int) := a = (0 : Int);
 let Aw (a : Cf × Int × Int) := (Ak a).snd;
 let Ax (a : Int) := IntKind.u64.wrap a;
 let Ay (a : Es) (b : Nat) := List.length a = b;
 let Az (a : Tl × En × Int × Int) := (A8 a).snd.fst;
 let AB (a : Tl × En × Int × Int) := a.snd.fst.snd.snd.fst;
 let AC (a : Tl × En × Int × Int) := a.snd.fst.fst;
 let AD := Au (0 : Int);
 let AE (a : Tl × En × Int × Int) := Ap a.snd.fst;
 let AF (a : Tl × En × Int × Int) := (A8 a).snd.snd;
 let AG (a : PmT [haP] × Int × Int) := List.length (A3 a).snd.fst;
 let AH (a : PmT [haP] × Int × Int) := List.length (A5 a).fst;
 let AI (a : PmT [haP] × Int × Int) := List.length a.fst.fst;
 let AJ (a : Tl × En × Hi × Int) := a.snd.fst;
 let AK (a : Tl × En × Hi × Int) := a.snd.snd.snd;
 let AL (a : PmT [haP] × Int × Int) := (A2 a).snd.snd.snd.snd;
 let AM (a : Cf × Int × Int) := (Ae a).snd.snd.fst;
 let AN := Value.slice none (0 : Nat) (0 : Nat);
 let AO (a : En) := a.snd.snd.snd.fst;
 let AP (a : Tl × En × Int × Int) := Ao a.fst (Ab a);
 let AQ (a : Cf × Int × Int) := (A6 a).snd.fst;
 let AR := zmi Fz.none Fz.none;
 let AS (a : Int × Es) (b : Nat) := A7 a = b;
 let AT (a : Tl × En × Tl × Int) := a.snd.snd.fst;
 let AU (a : PmT [tlP, bl] × Int × Int) := a.fst.fst.snd;
 let AV (a : Tl × En × Int × Int) := (AB a, Ar a, Az a, AF a);
 let AW (a : Int) := IntKind.i64.wrap a;
 let AX (a : Tl × En × Int × Int) := (za2 (AP a) (AC a, AE a, AV a) (Aq a).fst).snd;
 let AY (a : Tl × En × Hi × Int) := Ao a.fst (Aj a);
 let AZ (a : PmT [tlP, enP, i64] × Unit) := a.fst.snd.fst.snd;
 let A157 (a : PmT [haP] × Int × Int) := (A3 a).snd.snd.snd.fst;
 let A158 (a b : Bool) := bif a then true else b;
 let A159 (a : PmT [haP] × Int × Int) := List.length (A0 a).fst;
 let A160 (a : By) (b c : Prop) (d : Cf × Int × Int) (e f : (Cs.i IntKind.i64).T) (g : Nat) (h j : (Cs.i IntKind.i64).T) (k : Nat) (l : (Cs.i IntKind.i64).T) (m : CsT [Cs.i IntKind.i64, Cs.sl shE]) (n : Nat) (o p : (Cs.sl shE).T) (q : Prop)
  := A9 (A9 Ah (Ad a) (Ac b c (a = a) AD (Am AD (AN = AN) (d.fst.fst = e) ((A6 d).fst = f) Ah (Ay (AQ d) g) ((Ae d).fst = h) ((Ae d).snd.fst = j) (Am Ah (Ay (AM d) k) ((Ak d).fst = l) ((Aw d).fst = m.fst) Ah (AS (Aw d) n) (AQ d = o) (AM d =
  p) ((Aw d).snd = m.snd))))) AR q;
 let A161 (a : Tl × En × Tl × Int) := (AT a).snd;
 let A162 (a b : Int × Es) := AS a (A7 b);
 let A163 (a : By) (b : Cf × Int × Int) (c : PmT [chP] × Int × Int) (d : Cf × Int × Int → Prop) := A160 a (b.snd.fst = c.snd.fst) (b.snd.snd = c.snd.snd) b c.fst.fst (Aa c).fst (List.length (Aa c).snd.fst) (Aa c).snd.snd.fst (Aa
  c).snd.snd.snd.fst (List.length (Al c).fst) (Al c).snd.fst (Al c).snd.snd (A4 (Al c).snd.snd) (Aa c).snd.fst (Al c).fst (d b);
 let A164 (a : Tl × Int × Int × Int × Int × Int) := a.snd.snd.snd;
 let A165 (a : Tl × En × Tl × Int) := a.snd.fst;
 let A166 (a : Tl × En × Hi × Int) := a.snd.snd.fst.snd;
 let A167 (a : Tl × En × Int × Int × Int) := a.snd.fst;
 let A168 (a : Tl × En × Tl × Int) := a.fst.snd;
 let A169 (a : Tl × En × Int × Int) := (Aq a).snd;
 let A170 (a : PmT [haP] × Int × Int) := AI a = AI a;
 let A171 (a : By) (b : Int × Int) (c d : Prop) := Af a b ∧ c → d;
 let A172 (a : By) (b : Int × Int) (c : Int) := A9 (Af a b) ((1 : Int) ≤ c) (c ≤ (100000 : Int));
 let A173 (a : Tl × En × Int × Int) := (AC a, AE a, AV a);
 let A174 (a : PmT [haP] × Int × Int) := A4 (Ai a) = A4 (Ai a);
 let A175 (a : Tl × En × Hi × Int) := zbw (AY a) (AK a) (AO (AJ a));
 let A176 (a : By) (b : Int × Int) (c d e : Prop) := A9 (Af a b) c d → e;
 let A177 (a : PmT [haP] × Int × Int) := ((AL a).snd.fst, (A3 a).fst, (A3 a).snd.fst, (A3 a).snd.snd.fst, A157 a, (A5 a).fst, (A5 a).snd.fst, (Ai a).fst, (Ai a).snd);
 let A178 (a b c d e : Prop) := A9 (A9 a b c) d e;
 let A179 (a : CsT [Cs.i IntKind.i64, Cs.i IntKind.u64, Cs.i IntKind.u64, Cs.b, Cs.i IntKind.u64]) := a.snd.snd;
 let A180 (a : Tl × Int × Int × Int × Int × Int) := a.snd.snd.fst;
 let A181 (a b c : Prop) := (a ∧ b) ∧ c;
 let A182 := false = false;
 let A183 (a : Tl × En × Tl × Int) := a.snd.snd.snd;
 let A184 (a : Tl × Int × Int × Int × Int × Int) := a.fst.snd;
 let A185 (a : Tl × En × Hi × Int) := (A166 a).snd;
 let A186 (a : PmT [i64] × Int × Int) := a.fst == (1 : Int);
 let A187 (a : PmT [ze6] × Int × Int) := a.fst.fst ≤ (4 : Int);
 let A188 (a : PmT [tlP, enP, i64] × Unit) := (AZ a).fst;
 let A189 (a : By) (b : Int × Int) (c : Int) (d : Prop) := A181 (Ad a) (A172 a b c) d;
 let A190 (a : By) (b : PmT [chP] × Int × Int) (c : Prop) := A171 a b.snd (ChV b.fst) c;
 let A191 (a : Tl × En × Int × Int) (c : Cs.b.T × CsT [Cs.i IntKind.i64, Cs.i IntKind.u64, Cs.i IntKind.u64, Cs.b, Cs.i IntKind.u64]) := (za2 (AP a) c (Aq a).fst).fst;
 let A192 (a : PmT [haP] × Int × Int) (b : By) (c : PmT [ze6] × Int × Int) := Am (A170 a) (AG a = AG a) (AH a = AH a) (A174 a) (Ad b) (Af b c.snd) (zaq a.fst.fst) (U64 c.fst.snd.snd.snd) (ChV (A177 a));
 let A193 (a : Tl × En × Int × Int) := zbw (A191 a (A173 a), (AX a).fst, (AX a).snd) (A169 a) (Ar a);
 let A194 (a : By) (b : PmT [ze6] × Int × Int) (c : PmT [haP] × Int × Int) (d : Prop) := A176 a b.snd ((-(1 : Int)) ≤ b.fst.fst ∧ A187 b) (U64 b.fst.snd.snd.snd) (A192 c a b ∧ d);
 let A195 (a : Cf × Int × Int) := List.length (AQ a);
 let A196 (a : Tl × En × Hi × Int) := a.snd.snd.fst.fst;
 let A197 (a : PmT [tlP, bl] × Int × Int) := a.fst.fst.fst;
 let A198 (a : Cf × Int × Int) := List.length (AM a);
 let A199 (a : PmT [tlP, bl] × Int × Int) := (AU a).fst;
 let A200 (a : CsT [Cs.i IntKind.i64, Cs.i IntKind.u64, Cs.i IntKind.u64, Cs.b, Cs.i IntKind.u64]) := (A179 a).snd;
 let A201 (a : PmT [tlP, bl] × Int × Int) := (AU a).snd;
 let A202 (a : En) := a.snd.snd.snd.snd.fst;
 let A203 (a : En) := a.snd.snd.fst;
 let A204 (a : Tl × En × Int × Int × Int) := a.fst.snd;
 let A205 (a : PmT [i64] × Int × Int) (b : Int) := IntKind.u64.wrap a.fst * b;
 let A206 (a b : Int × Int) := a.snd = b.snd;
 let A207 (a : Tl × Int × Int × Int × Int × Int) (b : PmT [i64] × Int × Int) := zb9 (A180 a) a.snd.fst (Ax (A205 b (pw (44 : Int)))) (A164 a).fst;
 let A208 (a : En) := a.snd.snd.snd.snd.snd;
 let A209 (a : PmT [haP] × Int × Int) (b : By) (c : PmT [i64] × Int × Int) := A9 (A159 a = A159 a) (AG a = AG a) (Ac (AH a = AH a) (A174 a) (Ad b) (Af b c.snd) (HaV (a.fst.fst, (A0 a).fst, (A0 a).snd.fst, (A1 a).fst, (A1 a).snd.fst, (A1
  a).snd.snd.fst, (A1 a).snd.snd.snd.fst, (A2 a).fst, (A2 a).snd.fst, (A2 a).snd.snd.fst, (A2 a).snd.snd.snd.fst, (AL a).fst, A177 a)));
 let A210 (a : PmT [haP] × Int × Int) (b : By) (c : PmT [i64] × Int × Int) (d : Prop) := A181 (A170 a) (A209 a b c) d;
 let A211 (a : PmT [haP] × Int × Int) (b : By) (c : PmT [i64] × Int × Int) := A170 a ∧ A209 a b c;
 let A212 (a : Tl × Int × Int × Int × Int × Int) (b : PmT [i64] × Int × Int) := (A207 a b).snd;
 let A213 (a b : Prop) := A9 a AR b;
 let A214 (a : PmT [tlP, enP, i64] × Unit) := (AZ a).snd.fst;
 let A215 (a : Bool) (b : Prop) := a = false → b;
 let A216 (a : Tl × En × Hi × Int) := (A175 a).snd.snd;
 let A217 (a : Bool) (b : Prop) := a = true → b;
 let A218 (a b : Prop) (c : PmT [tlP, bl] × Int × Int) (d : Nat) (e : PmT [i64] × Int × Int) (f : By) (g : Int × Int) (h : Prop) := A178 a b (Am Ah (A4 (AU c) = d) (c.fst.snd = A186 e) Ah (Ad f) (c.snd.fst = g.fst) (A206 c.snd g) (f = f) h)
  (Af f c.snd) (TlK c.fst.fst);
 let A219 (a : CsT [Cs.i IntKind.i64, Cs.sl shE]) (c : Tl × En × Int × Int) (d : Cs.b.T × CsT [Cs.i IntKind.i64, Cs.i IntKind.u64, Cs.i IntKind.u64, Cs.b, Cs.i IntKind.u64]) (e : Prop) := A178 (A4 a = A4 a) (TlR (A191 c (A173 c), (AX c).fst,
  (AX c).snd)) (U64 (A169 c)) (A9 (A162 (Ab c) (Ab c)) (TlR (AP c)) (EnR d)) e;
 let A220 (a : By) (b : PmT [bl] × Int × Int) (c : Prop) := A171 a b.snd True c;
 let A221 (a : Tl × En × Hi × Int) := zbt (AY a) (true, AK a, false, (0 : Int));
 let A222 (a : By) (b : Tl × En × Int × Int) (c : PmT [bl] × Int × Int) (d : Tl × Int × Int × Int × Int × Int) (e : PmT [i64] × Int × Int) (f g : Prop) (h : Tl × En × Int × Int → Prop) := A213 (Am (a = a) AD AD (AN = AN) A182 (An = An) (An =
  An) (An = An) (Am A182 (An = An) Ah (Ad a) ((Aq b).fst = c.snd.fst) (A169 b = c.snd.snd) (b.fst.fst = d.fst.fst) ((Ab b).fst = (A184 d).fst) (Am Ah (A162 (Ab b) (A184 d)) ((Ab b).snd = (A184 d).snd) (AC b = (A207 d e).fst) (AE b = (A212 d
  e).fst) f (Ar b = (A179 (A212 d e)).fst) g (AF b = (A200 (A212 d e)).snd)))) (h b);
 let A223 (a : Prop) (b : By) (c : Tl × En × Int × Int × Int) (d : Int × Int) (e : Tl × En × Int × Int) (f : Tl × En × Int × Int × Int → Prop) := A213 (a ∧ Am (b = b) AD AD (AN = AN) A182 (An = An) (An = An) (An = An) (Am A182 (An = An) Ah
  (Ad b) (c.snd.snd.snd.fst = d.fst) (A206 c.snd.snd.snd d) (c.fst.fst = e.fst.fst) ((A204 c).fst = (Ab e).fst) (Am Ah (A162 (A204 c) (Ab e)) ((A204 c).snd = (Ab e).snd) ((A167 c).fst = AC e) (Ap (A167 c) = AE e) (A203 (A167 c) = AB e) (AO
  (A167 c) = Ar e) (A202 (A167 c) = Az e) (A208 (A167 c) = AF e)))) (f c);
 let A224 (a b c d : Prop) (e : Tl × En × Hi × Int) (f : Tl × En × Int × Int) (g h j : Prop) (k : CsT [Cs.i IntKind.i64, Cs.sl shE]) (l m n o p : Prop) := A213 (Am a b c d (A203 (AJ e) = AB f) g h (A208 (AJ e) = AF f) (Am j ((Aj e).fst =
  k.fst) Ah (AS (Aj e) (A4 (AX f))) ((Aj e).snd = (AX f).snd) l m n o)) p;
 let A225 (a : Prop) (b : By) (c : Tl × En × Tl × Int) (d : Tl × En × Hi × Int) (e : Tl) := a ∧ Am (b = b) ((A165 c).fst = (AJ d).fst) (Ap (A165 c) = Ap (AJ d)) (A203 (A165 c) = A203 (AJ d)) (AO (A165 c) = AO (AJ d)) (A202 (A165 c) = A202
  (AJ d)) (A208 (A165 c) = A208 (AJ d)) (c.fst.fst = d.fst.fst) (Am ((A168 c).fst = (Aj d).fst) Ah (A162 (A168 c) (Aj d)) ((A168 c).snd = (Aj d).snd) ((AT c).fst = e.fst) ((A161 c).fst = (A221 d).snd.fst) Ah (AS (A161 c) (A4 (A221 d).snd))
  ((A161 c).snd = (A221 d).snd.snd));
 let A226 (a : By) (b : PmT [i64] × Int × Int) (c : Int) (d : Prop) := A189 a b.snd c d;
 let A227 (a : PmT [tlP, enP, i64] × Unit) := a.fst.fst.snd;
 let A228 (a : PmT [bl] × Int × Int) (b : Prop) := a.fst = false → b;
 let A229 (a : Int × Es) (b : (Cs.i IntKind.i64).T × CsT [Cs.i IntKind.i64, Cs.sl shE]) (c : Prop) := A9 (A162 a a) (TlR b) c;
 let A230 (a b c : Bool) := a && (b && c);
 let A231 (a : Prop) (c : By) (d : PmT [Pm.one Cs.b]) := A181 a (c = c) (d = true);
 let A232 (a : By) (b : PmT [i64] × Int × Int) (c : Int) (d : Prop) := A176 a b.snd ((0 : Int) ≤ b.fst) (b.fst < c) d;
 let A233 (a : PmT [bl] × Int × Int) (b : Prop) := a.fst = true → b;
 let A234 (a : PmT [Pm.st [Cs.i IntKind.i64, Cs.i IntKind.i64, Cs.sl shE], Pm.st [Cs.b, Cs.i IntKind.i64, Cs.i IntKind.u64, Cs.i IntKind.u64, Cs.b, Cs.i IntKind.u64], Pm.one (Cs.i IntKind.i64)]) := a.snd.fst.snd;
 let A235 (a : Tl × En × Tl × Int) := Ao (AT a) (A161 a);
 let A236 (a : (Cs.i IntKind.i64).T × CsT [Cs.i IntKind.i64, Cs.sl shE]) (b : Tl × En × Tl × Int) := (zbw a (A183 b) (AO (A165 b))).fst;
 let A237 (a : By) (b : PmT [i64] × Int × Int) (c : Prop) := A226 a b (7 : Int) c;
 let A238 (a : PmT [tlP, enP, i64] × Unit) := Ax (AW ((6 : Int) + AW ((3 : Int) * A188 a)));
 let A239 (a : Tl × Int × Int × Int × Int × Int) (b : PmT [u64] × Int × Int) (c : Prop) (d : Int) (e : By) (f : Int × Int) (g : PmT [tlP, bl] × Int × Int) (h : Tl × Int × Int × Int × Int × Int → Prop) := A213 (a.snd.fst = b.fst ∧ Ac c ((A164
  a).fst = Ax d) (e = e) AD (Am AD (AN = AN) A182 (Au An) (Au An) (Au An) A182 (Au An) (Am Ah (Ad e) ((A164 a).snd.fst = f.fst) (A206 (A164 a).snd f) (a.fst.fst = A197 g) ((A184 a).fst = A199 g) Ah (AS (A184 a) (A4 (AU g))) ((A184 a).snd =
  A201 g)))) (h a);
 let A240 (a : By) (b : PmT [bl] × Int × Int) := Af a b.snd;
 let A241 (a : PmT [tlP, bl] × Int × Int) (b : Cf × Int × Int) (c : PmT [i64] × Int × Int) (d : By) (e : PmT [bl] × Int × Int) := A218 (A197 a = (Ak b).fst) (A199 a = (Aw b).fst) a (A7 (Aw b)) c d e.snd (A201 a = (Aw b).snd);
 let A242 (a : PmT [tlP, bl] × Int × Int) (b : PmT [tlP] × Int × Int) (c : PmT [i64] × Int × Int) (d : By) := A218 (A197 a = b.fst.fst) (A199 a = b.fst.snd.fst) a (A4 b.fst.snd) c d b.snd (A201 a = b.fst.snd.snd);
 let A243 (a : PmT [tlP, enP, i64] × Unit) := (2 : Int) ^ (min (A238 a).toNat (64 : Nat));
 let A244 (a : PmT [i64] × Int × Int) := decide (a.fst > (0 : Int));
 let A245 (a : By) := decide ((↑(List.length a) : Int) > (1048576 : Int));
 let A246 (a : PmT [bl] × Int × Int) (b : By) (c d e : Prop) := A181 (A233 a (A189 b a.snd (2 : Int) c)) (A228 a d) e;
 let A247 (a : By) (b : PmT [tlP] × Int × Int) (c : Cf × Int × Int) (d : Prop) := A176 a b.snd (TlR b.fst) (A162 b.fst.snd (Aw c)) d;
 let A248 (a : By) (b : PmT [tlP] × Int × Int) (c : Nat) (d : Prop) := A176 a b.snd (TlR b.fst) (AS b.fst.snd c) d;
 let A249 (a : PmT [Pm.one Cs.b]) (c : By) := A231 (a = true) c a;
 let A250 (a : Tl × En × Tl × Int → Prop) (b : Tl × En × Tl × Int) (c : Prop) := a b → A178 (A162 (A161 b) (A161 b)) (TlR (A235 b)) (U64 (A183 b)) (A217 (!A236 (A235 b) b) (A229 (A168 b) (Ao b.fst (A168 b)) (U64 (A183 b)))) c;
 let A251 (a : Prop) (b : Tl × En × Hi × Int) (c d e : Bool) (f : Prop) (g : Hi) (h i : Prop) := a → A178 (A162 (Aj b) (Aj b)) (TlR (AY b)) (U64 (AK b)) (A217 (!A230 c d e) f) (A215 (!A230 (g.fst == A196 b) (g.snd.fst == (A166 b).fst) (A230
  ((A216 b).fst == (A185 b).fst) ((A216 b).snd == (A185 b).snd) true)) (A9 (U64 (AK b)) (A217 (A158 (!ze5 (AK b)) (!A196 b)) h) (A215 (A158 (!ze5 (AK b)) (!A196 b)) (A229 (Aj b) (AY b) (U64 (AK b)) ∧ i))));
 let A252 (a : Tl × En × Int × Int) (b : PmT [tlP, enP, i64] × Unit) (c : Int) (d : By) (e : Tl × En × Int × Int → Prop) := A213 ((Aq a).fst = b.fst.snd.snd ∧ Ac (A169 a = c) (d = d) (AC a = b.fst.snd.fst.fst) (AE a = A188 b) (Am (AB a =
  A214 b) (Ar a = (A179 (AZ b)).fst) (Az a = (A200 (AZ b)).fst) (AF a = (A200 (AZ b)).snd) (a.fst.fst = b.fst.fst.fst) ((Ab a).fst = (A227 b).fst) Ah (AS (Ab a) (A4 (A227 b))) ((Ab a).snd = (A227 b).snd))) (e a);
 let A253 (a : By) (b : PmT [bl] × Int × Int) (c : Es) (d : Nat) (e f : Int) (g h : Prop) := A220 a b (A233 b (A181 (Ay c d) (Ac (Ad a) (A240 a b) (TlR (e, f, c)) ((1 : Nat) ≤ d) (d ≤ (1000 : Nat))) g) ∧ A228 b h);
 let A254 (a : By) (b : PmT [bl] × Int × Int) (c : Cf × Int × Int) (d e : Prop) := A220 a b (A233 b (A181 (A162 (Aw c) (Aw c)) (Ac (Ad a) (A240 a b) (TlR ((Ak c).fst, (Aw c).fst, (Aw c).snd)) ((1 : Nat) ≤ A7 (Aw c)) (A7 (Aw c) ≤ (1000 :
  Nat))) d) ∧ A228 b e);
 let A255 (a : Tl × En × Int × Int → Prop) (b : Tl × En × Int × Int) (c : Prop) := a b → A229 (Ab b) (AP b) (EnR (A173 b)) ∧ c;
 let A256 (a : Tl × En × Int × Int × Int) := a.snd.snd.fst;
 let A257 (a : Tl × En × Hi × Int) := (A175 a).snd.fst == (A166 a).fst;
 let A258 (a : Tl × En × Hi × Int) := A230 ((A216 a).fst == (A185 a).fst) ((A216 a).snd == (A185 a).snd) true;
 let A259 (a : PmT [tlP, enP, i64] × Unit) := decide ((Ax (A214 a * A243 a)) ≥ (16384 : Int));
 let A260 (a : PmT [Pm.one Cs.b]) (c : Tl × En × Tl × Int) (d : By) := A231 (a = (bif !A236 (A235 c) c then A236 (Ao c.fst (A168 c)) c else false)) d a;
 let A261 (a : PmT [tlP, enP, i64] × Unit) := A158 (A158 (A158 (!a.fst.snd.fst.fst) (decide ((A188 a) < (0 : Int)))) (decide ((A188 a) > (2 : Int)))) (decide ((A214 a) > (511 : Int)));
 (∀ (m : By) (i h : Int), zz3 m i h = (A9 (Ad m) (zbj m i) True ∧ ∀ (x0' : PmT [haP] × Int × Int), A171 m x0'.snd (HaV x0'.fst) (A189 m x0'.snd (5 : Int) (∀ (x1' : PmT [i64] × Int × Int), A232 m x1' (5 : Int) (∃ (x2' : Cf × Int × Int
  → Prop), A181 (A217 (A244 x1') (A178 (A210 x0' m x1' (∀ (x3' : PmT [ze6] × Int × Int), A194 m x3' x0' (∀ (x4' : PmT [chP] × Int × Int), A190 m x4' (∃ (x5' : Cf × Int × Int), A163 m x5' x4' x2')))) (A211 x0' m x1') (∀ (x3' : PmT [ze6] ×
  Int × Int), A194 m x3' x0' (∀ (x4' : PmT [chP] × Int × Int), A190 m x4' (∃ (x5' : Cf × Int × Int), A163 m x5' x4' x2'))) (A211 x0' m x1') (∀ (x3' : PmT [ze6] × Int × Int), A194 m x3' x0' (∀ (x4' : PmT [chP] × Int × Int), A190 m x4' (∃ (x5'
  : Cf × Int × Int), A163 m x5' x4' x2'))) ∧ Ac (Ac (A9 (A210 x0' m x1' (∀ (x3' : PmT [ze6] × Int × Int), A194 m x3' x0' (∀ (x4' : PmT [chP] × Int × Int), A190 m x4' (∃ (x5' : Cf × Int × Int), A163 m x5' x4' x2')))) (A211 x0' m x1') (∀ (x3'
  : PmT [ze6] × Int × Int), A194 m x3' x0' (∀ (x4' : PmT [chP] × Int × Int), A190 m x4' (∃ (x5' : Cf × Int × Int), A163 m x5' x4' x2')))) (A210 x0' m x1' (∀ (x6' : PmT [ze6] × Int × Int), A176 m x6'.snd ((-(1 : Int)) ≤ x6'.fst.fst ∧ A187
  x6') (U64 x6'.fst.snd.snd.snd) (A9 (A192 x0' m x6' ∧ ∀ (x4' : PmT [chP] × Int × Int), A190 m x4' (∃ (x5' : Cf × Int × Int), A163 m x5' x4' x2')) (A192 x0' m x6') (∀ (x4' : PmT [chP] × Int × Int), A190 m x4' (∃ (x5' : Cf × Int × Int), A163 m
  x5' x4' x2'))))) (A210 x0' m x1' (∀ (x3' : PmT [ze6] × Int × Int), A194 m x3' x0' (∀ (x4' : PmT [chP] × Int × Int), A190 m x4' (∃ (x5' : Cf × Int × Int), A163 m x5' x4' x2')))) (A211 x0' m x1') (∀ (x3' : PmT [ze6] × Int × Int), A194 m x3'
  x0' (∀ (x4' : PmT [chP] × Int × Int), A190 m x4' (∃ (x5' : Cf × Int × Int), A163 m x5' x4' x2')))) (A210 x0' m x1' (∀ (x3' : PmT [ze6] × Int × Int), A194 m x3' x0' (∀ (x4' : PmT [chP] × Int × Int), A190 m x4' (∃ (x5' : Cf × Int × Int),
  A163 m x5' x4' x2')))) (A210 x0' m x1' (∀ (x3' : PmT [ze6] × Int × Int), A194 m x3' x0' (∀ (x4' : PmT [chP] × Int × Int), A190 m x4' (∃ (x5' : Cf × Int × Int), A163 m x5' x4' x2')))) (A211 x0' m x1') (∀ (x3' : PmT [ze6] × Int × Int), A194
  m x3' x0' (∀ (x4' : PmT [chP] × Int × Int), A190 m x4' (∃ (x5' : Cf × Int × Int), A163 m x5' x4' x2'))))) (A215 (A244 x1') (∃ (x7' : Cf × Int × Int), A160 m (x7'.snd.fst = x1'.snd.fst) (A206 x7'.snd x1'.snd) x7' (AL x0').snd.fst (A3
  x0').fst (AG x0') (A3 x0').snd.snd.fst (A157 x0') (AH x0') (A5 x0').snd.fst (Ai x0') (A4 (Ai x0')) (A3 x0').snd.fst (A5 x0').fst (x2' x7'))) (∀ (x8' : Cf × Int × Int), x2' x8' → A189 m x8'.snd (4 : Int) (∀ (x9' : PmT [i64] × Int × Int),
  A232 m x9' (4 : Int) (A217 (x9'.fst == (0 : Int)) (A217 (A186 x9') (A237 m x9' (∀ (x10' : PmT [bl] × Int × Int), A254 m x10' x8' (∀ (x11' : PmT [tlP] × Int × Int), A247 m x11' x8' (∃ (x12' : PmT [tlP, bl] × Int × Int), A242 x12' x11' x9'
  m)) (∃ (x13' : PmT [tlP, bl] × Int × Int), A241 x13' x8' x9' m x10'))) ∧ A215 (A186 x9') (A237 m x9' (∀ (x14' : PmT [bl] × Int × Int), A253 m x14' (AQ x8') (A195 x8') x8'.fst.fst (A6 x8').fst (∀ (x15' : PmT [tlP] × Int × Int), A248 m x15'
  (A195 x8') (∃ (x16' : PmT [tlP, bl] × Int × Int), A242 x16' x15' x9' m)) (∃ (x17' : PmT [tlP, bl] × Int × Int), A218 (A197 x17' = x8'.fst.fst) (A199 x17' = (A6 x8').fst) x17' (A195 x8') x9' m x14'.snd (A201 x17' = AQ x8'))))) ∧ A215
  (x9'.fst == (0 : Int)) (A217 (A186 x9') (A237 m x9' (∀ (x10' : PmT [bl] × Int × Int), A254 m x10' x8' (∀ (x11' : PmT [tlP] × Int × Int), A247 m x11' x8' (∃ (x12' : PmT [tlP, bl] × Int × Int), A242 x12' x11' x9' m)) (∃ (x13' : PmT [tlP, bl]
  × Int × Int), A241 x13' x8' x9' m x10'))) ∧ A215 (A186 x9') (A237 m x9' (∀ (x18' : PmT [bl] × Int × Int), A253 m x18' (AM x8') (A198 x8') (Ae x8').fst (Ae x8').snd.fst (∀ (x19' : PmT [tlP] × Int × Int), A248 m x19' (A198 x8') (∃ (x20' : PmT
  [tlP, bl] × Int × Int), A242 x20' x19' x9' m)) (∃ (x21' : PmT [tlP, bl] × Int × Int), A218 (A197 x21' = (Ae x8').fst) (A199 x21' = (Ae x8').snd.fst) x21' (A198 x8') x9' m x18'.snd (A201 x21' = AM x8'))))))))))))) ∧ (∀ (m : By), zza m
  = (A9 (Ad m ∧ zaq m) (A9 (Ad m) (zbj m (0 : Int)) True) (∀ (x0' : PmT [tlP, bl] × Int × Int), A171 m x0'.snd (TlK x0'.fst.fst) (A9 (Ad m) (Af m x0'.snd) True ∧ ∀ (x1' : PmT [u64] × Int × Int), A171 m x1'.snd (U64 x1'.fst) (A189 m x1'.snd
  (3 : Int) (∀ (x2' : PmT [i64] × Int × Int), A232 m x2' (3 : Int) (A226 m x2' (8 : Int) (∀ (x3' : PmT [i64] × Int × Int), A232 m x3' (8 : Int) (A226 m x3' (2 : Int) (∀ (x4' : PmT [bl] × Int × Int), A220 m x4' (A9 (Ad m) (A240 m x4') True ∧ ∀
  (x5' : PmT [u64] × Int × Int), A171 m x5'.snd (U64 x5'.fst) (∃ (x6' : Tl × Int × Int × Int × Int × Int → Prop), A181 (x0'.fst.snd = true → A189 m x5'.snd (2 : Int) (∀ (x7' : PmT [i64] × Int × Int), A232 m x7' (2 : Int) (∃ (x8' : Tl × Int ×
  Int × Int × Int × Int), A239 x8' x1' (A180 x8' = AW ((1 : Int) + x7'.fst)) (Ax (A205 x3' (1024 : Int)) + (1 : Int)) m x7'.snd x0' x6'))) (x0'.fst.snd = false → ∃ (x9' : Tl × Int × Int × Int × Int × Int), A239 x9' x1' (A180 x9' = x2'.fst)
  (Ax (Ax (AW ((64 : Int) * x3'.fst)) * (1024 : Int)) + x5'.fst) m x5'.snd x0' x6') (∀ (x10' : Tl × Int × Int × Int × Int × Int), x6' x10' → A189 m (A164 x10').snd (3 : Int) (∀ (x11' : PmT [i64] × Int × Int), A232 m x11' (3 : Int) ((44 : Int)
  ≤ (64 : PmT [i64]) ∧ A9 (LvR (A180 x10') ∧ A9 (U64 x10'.snd.fst) (U64 (Ax (A205 x11' (pw (44 : Int))))) (U64 (A164 x10').fst)) (Ad m ∧ A172 m x11'.snd (8 : Int)) (∀ (x12' : PmT [bl] × Int × Int), A220 m x12' (∃ (x13' : Tl × En × Int × Int →
  Prop), A246 x12' m (∀ (x14' : PmT [bl] × Int × Int), A220 m x14' (∃ (x15' : Tl × En × Int × Int), A222 m x15' x14' x10' x11' (AB x15' = Ax ((A212 x10' x11').snd.fst + (1 : Int))) (Az x15' = x14'.fst) x13')) (∃ (x16' : Tl × En × Int × Int),
  A222 m x16' x12' x10' x11' (AB x16' = (A212 x10' x11').snd.fst) (Az x16' = (A200 (A212 x10' x11')).fst) x13') (∀ (x17' : Tl × En × Int × Int), x13' x17' → A189 m (Aq x17') (256 : Int) (∀ (x18' : PmT [i64] × Int × Int), A232 m x18' (256 :
  Int) (A226 m x18' (20 : Int) (∀ (x19' : PmT [bl] × Int × Int), A220 m x19' (∃ (x20' : Tl × En × Int × Int × Int → Prop), A246 x19' m (∀ (x21' : PmT [i64] × Int × Int), A232 m x21' (2 : Int) (∃ (x22' : Tl × En × Int × Int × Int), A223 (A256
  x22' = AW ((255 : Int) + x21'.fst)) m x22' x21'.snd x17' x20')) (∃ (x23' : Tl × En × Int × Int × Int), A223 (A256 x23' = x18'.fst) m x23' x19'.snd x17' x20') (∀ (x24' : Tl × En × Int × Int × Int), x20' x24' → ∃ (x25' : PmT [Pm.st [Cs.i
  IntKind.i64, Cs.i IntKind.i64, Cs.sl shE], Pm.st [Cs.b, Cs.i IntKind.i64, Cs.i IntKind.u64, Cs.i IntKind.u64, Cs.b, Cs.i IntKind.u64], Pm.one (Cs.i IntKind.i64)]), A9 (Ac (x25'.fst.fst = x24'.fst.fst) (x25'.fst.snd.fst = (A204 x24').fst) Ah
  (A4 x25'.fst.snd = A7 (A204 x24')) (Am (x25'.snd.fst.fst = (A167 x24').fst) ((A234 x25').fst = Ap (A167 x24')) ((A234 x25').snd.fst = A203 (A167 x24')) ((A179 (A234 x25')).fst = AO (A167 x24')) ((A200 (A234 x25')).fst = A202 (A167 x24'))
  ((A200 (A234 x25')).snd = A208 (A167 x24')) (x25'.snd.snd = A256 x24') (m = m) (x25'.fst.snd.snd = (A204 x24').snd))) (TlK x25'.fst) (EnR x25'.snd.fst)))))))))))))))))))))))) ∧ (∀ (m : By), zzp m = (A217 (A245 m) (∃ (x0' : PmT
  [Pm.one Cs.b]), A249 x0' m) ∧ A215 (A245 m) (A181 (Ad m) (zaq m) (∀ (x1' : PmT [tlP, enP, i64] × Unit), TlK x1'.fst.fst ∧ EnR x1'.fst.snd.fst → A217 (A261 x1') (∃ (x0' : PmT [Pm.one Cs.b]), A249 x0' m) ∧ A215 (A261 x1') (A9 ((0 : Int) ≤
  A238 x1') (A217 (A259 x1') (∃ (x2' : Tl × En × Int × Int → Prop), (∃ (x3' : Tl × En × Int × Int), A252 x3' x1' (bits BinOp.or IntKind.u64 (Ax (A214 x1' * A243 x1')) (18446744073709518848 : Int)) m x2') ∧ ∀ (x4' : Tl × En × Int × Int), A255
  x2' x4' (A219 (AX x4') x4' (A173 x4') (∃ (x5' : Tl × En × Hi × Int → Prop), (∃ (x6' : Tl × En × Hi × Int), A224 (AK x6' = A169 x4') (m = m) ((AJ x6').fst = AC x4') (Ap (AJ x6') = AE x4') x6' x4' (AO (AJ x6') = Ar x4') (A202 (AJ x6') = Az
  x4') (x6'.fst.fst = A191 x4' (A173 x4')) (AX x4') (A196 x6' = (A193 x4').fst) ((A166 x6').fst = (A193 x4').snd.fst) ((A185 x6').fst = (A193 x4').snd.snd.fst) ((A185 x6').snd = (A193 x4').snd.snd.snd) (x5' x6')) ∧ ∀ (x7' : Tl × En × Hi ×
  Int), A251 (x5' x7') x7' ((A175 x7').fst == A196 x7') (A257 x7') (A258 x7') (∃ (x8' : PmT [Pm.one Cs.b]), A231 (x8' = false) m x8') (A175 x7') (∃ (x0' : PmT [Pm.one Cs.b]), A249 x0' m) (∃ (x9' : Tl × En × Tl × Int → Prop), (∃ (x10' : Tl ×
  En × Tl × Int), A213 (A225 (A183 x10' = AK x7') m x10' x7' (A221 x7')) (x9' x10')) ∧ ∀ (x11' : Tl × En × Tl × Int), A250 x9' x11' (∃ (x12' : PmT [Pm.one Cs.b]), A260 x12' x11' m)))))) (A215 (A259 x1') (∃ (x13' : Tl × En × Int × Int → Prop),
  (∃ (x14' : Tl × En × Int × Int), A252 x14' x1' (Ax (A214 x1' * A243 x1')) m x13') ∧ ∀ (x15' : Tl × En × Int × Int), A255 x13' x15' (A219 (AX x15') x15' (A173 x15') (∃ (x16' : Tl × En × Hi × Int → Prop), (∃ (x17' : Tl × En × Hi × Int), A224
  (AK x17' = A169 x15') (m = m) ((AJ x17').fst = AC x15') (Ap (AJ x17') = AE x15') x17' x15' (AO (AJ x17') = Ar x15') (A202 (AJ x17') = Az x15') (x17'.fst.fst = A191 x15' (A173 x15')) (AX x15') (A196 x17' = (A193 x15').fst) ((A166 x17').fst =
  (A193 x15').snd.fst) ((A185 x17').fst = (A193 x15').snd.snd.fst) ((A185 x17').snd = (A193 x15').snd.snd.snd) (x16' x17')) ∧ ∀ (x18' : Tl × En × Hi × Int), A251 (x16' x18') x18' ((A175 x18').fst == A196 x18') (A257 x18') (A258 x18') (∃ (x8'
  : PmT [Pm.one Cs.b]), A231 (x8' = false) m x8') (A175 x18') (∃ (x0' : PmT [Pm.one Cs.b]), A249 x0' m) (∃ (x19' : Tl × En × Tl × Int → Prop), (∃ (x20' : Tl × En × Tl × Int), A213 (A225 (A183 x20' = AK x18') m x20' x18' (A221 x18')) (x19'
  x20')) ∧ ∀ (x21' : Tl × En × Tl × Int), A250 x19' x21' (∃ (x22' : PmT [Pm.one Cs.b]), A260 x22' x21' m))))))))))) := by
  intros
  refine ⟨?_, ?_, ?_⟩ <;> (intros; kernel_rfl)
set_option linter.unusedSimpArgs false
set_option linter.unusedVariables false
set_option maxRecDepth 10000
set_option maxHeartbeats 2000000
theorem yqy : zaz Tryz.prog kES := ((zol.append ycm).append zdn).append zcb
theorem ykg : DictOk Tryz.prog FES := za1 (.cons (by kernel_rfl) yk9 yqy) .nil .nil
theorem ydu : zb6 Tryz.prog (Rels.of rES1) := zfl (by kernel_rfl) ymp <| zfl (by kernel_rfl) yj9 <| zfl (by kernel_rfl) yek <| zfl (by kernel_rfl) ydw zhn
theorem ha_by {h : Ha} (v : HaV h) : zaq h.1 := v.1.1
theorem ha_ch {h : Ha} (v : HaV h) : ChV h.2.2.2.2.2.2.2.2.2.2.2.2 := ⟨v.2.2.1, v.1.2.2.2.2.2.2.2.2.2.2.2⟩
theorem yom {p : Bool} {t : Tl} (h : zak p t = true) (g : TlR t) : TlK t := ⟨g, (zfs h).1, Nat.le_trans (zfs h).2 (by decide)⟩
theorem ch_I {x : Cf} (h : ChV x) : TlK (x.1, x.2.1, x.2.2.1) := yom (zd0.1 h.1).1 h.2.1
theorem ch_D {x : Cf} (h : ChV x) : TlK (x.2.2.2.1, x.2.2.2.2.1, x.2.2.2.2.2.1) := yom (zd0.1 h.1).2.1 h.2.2.1
theorem ch_P {x : Cf} (h : ChV x) : TlK (x.2.2.2.2.2.2.1, x.2.2.2.2.2.2.2.1, x.2.2.2.2.2.2.2.2) := yom (zd0.1 h.1).2.2 h.2.2.2
theorem yoa {z t : Tl} (h : TlR z) (e : z.2.2.length = t.2.2.length) (k : TlK t) : TlK z := ⟨h, by rw [e]; exact k.2.1, by rw [e]; exact k.2.2⟩
theorem exT1 {p : PmT [tlP, bl] × Int × Int → Prop} {s w : Int} {es : Es} {b : Bool} {c d : Int} (h : p (((s, w, es), b), c, d)) : ∃ z, p z := ⟨_, h⟩
theorem zu2 : zch Tryz.prog 82 zo9 := by
 refine ze0 Tryz.func82 (by kernel_rfl) ykg ydu (fun m i hh (x : Unit) hc _ => ⟨smX m, zbu (by kernel_rfl), ?_⟩)
 have e0 := ygb
 conv at e0 => zeta
 dsimp -proj -iota -eta only at e0
 replace e0 := e0.1
 refine zah (e0 m i hh) ?_
 simp (maxSteps := 5000000) only [and_imp, true_and, and_true]
 repeat' first
  | exact rfl
  | assumption
  | exact zbb
  | exact ha_by (by assumption)
  | exact ha_ch (by assumption)
  | (show (_ : Int) ≤ _; decide)
  | (with_reducible refine yo8 ?_ ?_; dsimp only)
  | (apply exW3; dsimp only)
  | (apply exT1; dsimp only)
  | (intro q hq; obtain ⟨q1, q2⟩ : ymc m q := hq; have t1 := ch_I q1; have t2 := ch_D q1; have t3 := ch_P q1)
  | intro _
  | exact t1.1
  | exact t2.1
  | exact t3.1
  | exact t1.2.1
  | exact t2.2.1
  | exact t3.2.1
  | exact t1.2.2
  | exact t2.2.2
  | exact t3.2.2
  | exact t1
  | exact t2
  | exact t3
  | exact yoa (by assumption) (by assumption) t1
  | exact yoa (by assumption) (by assumption) t2
  | exact yoa (by assumption) (by assumption) t3
  | refine ⟨ymc m, ?_, ?_⟩
  | apply And.intro
theorem yny : zb6 Tryz.prog (Rels.of rES2) := zfl (by kernel_rfl) zu2 ydu
def DiJ1 (m : By) (q : Tl × Int × Int × Int × Int × Int) : Prop := TlK q.1 ∧ U64 q.2.1 ∧ LvR q.2.2.1 ∧ U64 q.2.2.2.1 ∧ zbj m q.2.2.2.2.1
def DiJ2 (m : By) (q : Tl × En × Int × Int) : Prop := TlK q.1 ∧ EnR q.2.1 ∧ zbj m q.2.2.1
def DiJ3 (m : By) (q : Tl × En × Int × Int × Int) : Prop := TlK q.1 ∧ EnR q.2.1 ∧ zbj m q.2.2.2.1
theorem di_1 {m : By} {q : Tl × Int × Int × Int × Int × Int} (h1 : TlK q.1) (h2 : U64 q.2.1) (h3 : LvR q.2.2.1) (h4 : U64 q.2.2.2.1) (h5 : zbj m q.2.2.2.2.1) : DiJ1 m q := ⟨h1, h2, h3, h4, h5⟩
theorem di_2 {m : By} {q : Tl × En × Int × Int} (h1 : TlK q.1) (h2 : EnR q.2.1) (h3 : zbj m q.2.2.1) : DiJ2 m q := ⟨h1, h2, h3⟩
theorem di_3 {m : By} {q : Tl × En × Int × Int × Int} (h1 : TlK q.1) (h2 : EnR q.2.1) (h3 : zbj m q.2.2.2.1) : DiJ3 m q := ⟨h1, h2, h3⟩
theorem exD1 {p : Tl × Int × Int × Int × Int × Int → Prop} {s w : Int} {es : Es} {a b c d e : Int} (h : p ((s, w, es), a, b, c, d, e)) : ∃ z, p z := ⟨_, h⟩
theorem exD2 {p : Tl × En × Int × Int → Prop} {s w : Int} {es : Es} {b1 : Bool} {b2 b3 b4 : Int} {b5 : Bool} {b6 c d : Int} (h : p ((s, w, es), (b1, b2, b3, b4, b5, b6), c, d)) : ∃ z, p z := ⟨_, h⟩
theorem exD3 {p : Tl × En × Int × Int × Int → Prop} {s w : Int} {es : Es} {b1 : Bool} {b2 b3 b4 : Int} {b5 : Bool} {b6 c d e : Int} (h : p ((s, w, es), (b1, b2, b3, b4, b5, b6), c, d, e)) : ∃ z, p z := ⟨_, h⟩
theorem exD4 {p : PmT [tlP, enP, i64] → Prop} {s w : Int} {es : Es} {b1 : Bool} {b2 b3 b4 : Int} {b5 : Bool} {b6 c : Int} (h : p ((s, w, es), (b1, b2, b3, b4, b5, b6), c)) : ∃ z, p z := ⟨_, h⟩
theorem lv_2 {x : Int} (h : 0 ≤ x) (g : x < 2) : LvR (IntKind.i64.wrap (1 + x)) := by unfold LvR; rw [zac (by omega) (by omega)]; omega
theorem lv_3 {x : Int} (h : 0 ≤ x) (g : x < 3) : LvR x := ⟨h, by omega⟩
theorem en_sp {e : En} (h : EnR e) (b : Bool) (x : Int) : EnR (e.1, e.2.1, IntKind.u64.wrap x, e.2.2.2.1, b, e.2.2.2.2.2) := ⟨h.1, zb4 _, h.2.2.1, h.2.2.2⟩
theorem ymr : zch Tryz.prog 23 yqc := by
 refine yig mixed Tryz.func23 (by kernel_rfl) ykg yny (fun (m : By) hm => ⟨diX m, zbu (by kernel_rfl), ?_⟩)
 have h0 : zbj m 0 := ⟨hm, Int.le_refl 0, by omega⟩
 have e0 := ygb
 conv at e0 => zeta
 dsimp -proj -iota -eta only at e0
 replace e0 := e0.2.1
 refine zah (e0 m) ?_
 simp (maxSteps := 5000000) only [and_imp, true_and, and_true]
 repeat' first
  | exact rfl
  | assumption
  | exact zbb
  | exact zb4 _
  | exact lv_2 (by assumption) (by assumption)
  | exact lv_3 (by assumption) (by assumption)
  | (show (_ : Int) ≤ _; decide)
  | ((with_reducible refine di_1 ?_ ?_ ?_ ?_ ?_) <;> dsimp only)
  | ((with_reducible refine di_2 ?_ ?_ ?_) <;> dsimp only)
  | ((with_reducible refine di_3 ?_ ?_ ?_) <;> dsimp only)
  | (apply exD1; dsimp only)
  | (apply exD2; dsimp only)
  | (apply exD3; dsimp only)
  | (apply exD4; dsimp only)
  | (intro q hq; obtain ⟨q1, q2, q3, q4, q5⟩ : DiJ1 m q := hq)
  | (intro q hq; obtain ⟨q1, q2, q3⟩ : DiJ2 m q := hq)
  | (intro q hq; obtain ⟨q1, q2, q3⟩ : DiJ3 m q := hq)
  | intro _
  | exact en_sp (zg9 q3 q4) _ _
  | exact zg9 q3 q4
  | refine ⟨DiJ1 m, ?_, ?_⟩
  | refine ⟨DiJ2 m, ?_, ?_⟩
  | refine ⟨DiJ3 m, ?_, ?_⟩
  | apply And.intro
theorem yl8 : DictOk Tryz.prog FES2 := za1 ((((yq1.append yk3).append yqz).append zdn).append zcb) .nil .nil
theorem yqt {t : Tl} {e : En} {pick : Int} (h : TlR t) (he : EnR e) : TlR (za2 t e pick) := by
 unfold za2
 split
 · exact ztp h he
 · exact h
theorem yh2 {es : Es} {f : En → En} (hf : f zE = zE) (i : Nat) : (es.map f).getD i zE = f (es.getD i zE) := by
 simp only [List.getD_eq_getElem?_getD, List.getElem?_map]
 cases es[i]? with
 | none => exact hf.symm
 | some e => rfl
theorem yc8 {t : Tl} {va asid : Int} (hc : ze5 va = true) (hf : (zbw t va asid).1 = true) : (zbw (zbt t (true, va, false, 0)) va asid).1 = false := by
 have he : zax t = true := by
  unfold zbw at hf
  split at hf
  · assumption
  · cases hf
 have hg : (zax t && zju (true, va, false, 0)) = true := by rw [he]; show (!true || ze5 va) = true; rw [hc]; rfl
 cases hl : (zbw (zbt t (true, va, false, 0)) va asid).1 with
 | false => rfl
 | true =>
  exfalso
  unfold zbw at hl
  split at hl
  case isFalse => cases hl
  obtain ⟨i, _, h2, _⟩ := zqt hl
  unfold zbt at h2
  simp only [hg, if_true] at h2
  rw [yh2 (by rfl)] at h2
  generalize t.2.2.getD i zE = e at h2
  unfold znf at h2
  split at h2
  · cases h2
  · rename_i hn
    apply hn
    unfold zc7 at h2
    simp only [Bool.and_eq_true] at h2
    obtain ⟨⟨g1, g2⟩, _⟩ := h2
    unfold zee
    simp only [Bool.and_eq_true]
    exact ⟨g1, by simpa using g2, rfl⟩
def LfJ9 (q : Tl × En × Int × Int) : Prop := TlR q.1 ∧ EnR q.2.1 ∧ U64 q.2.2.2
def yl9 (q : Tl × En × Hi × Int) : Prop := TlR q.1 ∧ U64 q.2.2.2 ∧ q.2.2.1 = zbw q.1 q.2.2.2 q.2.1.2.2.2.1
def yma (q : Tl × En × Tl × Int) : Prop := TlR q.1 ∧ TlR q.2.2.1 ∧ U64 q.2.2.2 ∧ (zbw q.1 q.2.2.2 q.2.1.2.2.2.1).1 = true ∧ (zbw q.2.2.1 q.2.2.2 q.2.1.2.2.2.1).1 = false
theorem bif_2 {a b : Bool} (h : (bif !a then true else !b) = false) : a = true ∧ b = true := by cases a <;> cases b <;> simp_all
theorem yqm {h g : Hi} (e : h = g) (q : (!(g.1 == h.1 && (g.2.1 == h.2.1 && (g.2.2.1 == h.2.2.1 && (g.2.2.2 == h.2.2.2 && true))))) = true) : False := by
 subst e
 simp at q
theorem wrapN (x : Int) : 0 ≤ IntKind.u64.wrap x := (zb4 x).1
theorem yp4 (op : BinOp) (a b : Int) : U64 (bits op .u64 a b) := zb4 _
theorem lf_9 {q : Tl × En × Int × Int} (h1 : TlR q.1) (h2 : EnR q.2.1) (h3 : U64 q.2.2.2) : LfJ9 q := ⟨h1, h2, h3⟩
theorem lf_11 {q : Tl × En × Hi × Int} (h1 : TlR q.1) (h2 : U64 q.2.2.2) (h3 : q.2.2.1 = zbw q.1 q.2.2.2 q.2.1.2.2.2.1) : yl9 q := ⟨h1, h2, h3⟩
theorem lf_16 {q : Tl × En × Tl × Int} (h1 : TlR q.1) (h2 : TlR q.2.2.1) (h3 : U64 q.2.2.2) (h4 : (zbw q.1 q.2.2.2 q.2.1.2.2.2.1).1 = true) (h5 : (zbw q.2.2.1 q.2.2.2 q.2.1.2.2.2.1).1 = false) : yma q := ⟨h1, h2, h3, h4, h5⟩
theorem exL9 {p : Tl × En × Int × Int → Prop} {s w : Int} {es : Es} {b1 : Bool} {b2 b3 b4 : Int} {b5 : Bool} {b6 c d : Int} (h : p ((s, w, es), (b1, b2, b3, b4, b5, b6), c, d)) : ∃ z, p z := ⟨_, h⟩
theorem exL11 {p : Tl × En × Hi × Int → Prop} {s w : Int} {es : Es} {b1 : Bool} {b2 b3 b4 : Int} {b5 : Bool} {b6 : Int} {c1 : Bool} {c2 c3 c4 d : Int} (h : p ((s, w, es), (b1, b2, b3, b4, b5, b6), (c1, c2, c3, c4), d)) : ∃ z, p z := ⟨_, h⟩
theorem exL16 {p : Tl × En × Tl × Int → Prop} {s w : Int} {es : Es} {b1 : Bool} {b2 b3 b4 : Int} {b5 : Bool} {b6 : Int} {s' w' : Int} {fs : Es} {d : Int} (h : p ((s, w, es), (b1, b2, b3, b4, b5, b6), (s', w', fs), d)) : ∃ z, p z := ⟨_, h⟩
theorem yq5 {a b : Bool} {m : By} (ha : a = false) (hb : b = true) : ∃ z : PmT [bl], ((z = bif !a then b else false) ∧ m = m) ∧ z = true := ⟨true, ⟨by rw [ha, hb]; rfl, rfl⟩, rfl⟩
theorem yc3 {m : By} : ∃ z : PmT [bl], (z = true ∧ m = m) ∧ z = true := ⟨true, ⟨rfl, rfl⟩, rfl⟩
theorem lawLife_ok : Canon Tryz.prog 5 [byP] [bl] (WfPs [byP]) (fun _ => true) := by
 refine ybf mixed Tryz.func5 (by kernel_rfl) yl8 (zfl (by kernel_rfl) ymr Rels.nil) (fun (m : By) hm => ⟨yq6 m, zbu (by kernel_rfl), ?_⟩)
 have e0 := ygb
 conv at e0 => zeta
 dsimp -proj -iota -eta only at e0
 replace e0 := e0.2.2
 refine zah (e0 m) ⟨fun _ => yc3, fun hl => ⟨⟨rfl, ?_⟩, fun z ⟨z1, z2⟩ => ⟨fun _ => yc3, fun hb => ⟨wrapN _, ?_⟩⟩⟩⟩
 · have hl : ¬ (m.length : Int) > 1048576 := of_decide_eq_false hl
   exact ⟨by show m.length ≤ 2097152; omega, yka hm⟩
 · refine ⟨fun _ => ⟨LfJ9, ?_, ?_⟩, fun _ => ⟨LfJ9, ?_, ?_⟩⟩
   all_goals
    repeat' first
     | exact rfl
     | exact zbb
     | exact zb4 _
     | exact yp4 _ _ _
     | exact z1.1
     | exact z2
     | exact yc3
     | ((with_reducible refine lf_9 ?_ ?_ ?_) <;> dsimp only)
     | ((with_reducible refine lf_11 ?_ ?_ ?_) <;> dsimp only)
     | ((with_reducible refine lf_16 ?_ ?_ ?_ ?_ ?_) <;> dsimp only)
     | (apply exL9; dsimp only)
     | (apply exL11; dsimp only)
     | (apply exL16; dsimp only)
     | (intro q hq; obtain ⟨q1, q2, q3⟩ : LfJ9 q := hq)
     | (intro q hq; obtain ⟨r1, r2, r3⟩ : yl9 q := hq)
     | (intro q hq; obtain ⟨s1, s2, s3, s4, s5⟩ : yma q := hq)
     | exact q1
     | exact q2
     | exact q3
     | exact yqt q1 q2
     | exact r1
     | exact r2
     | exact zkc r1 _
     | exact s1
     | exact s2
     | exact s3
     | exact yq5 s5 s4
     | (intro h; exact (yqm r3 h).elim)
     | (intro h; have h' := bif_2 h; have c1 := h'.1; have c2 := h'.2; have c3 := (congrArg Prod.fst r3).symm.trans c2)
     | exact c3
     | exact yc8 c1 c3
     | intro _
     | refine ⟨yl9, ?_, ?_⟩
     | refine ⟨yma, ?_, ?_⟩
     | apply And.intro
end Go.Proofs.YtfiddfbagbaofaaGreat.V
