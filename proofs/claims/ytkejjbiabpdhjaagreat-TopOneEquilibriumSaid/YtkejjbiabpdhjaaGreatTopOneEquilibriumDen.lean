/- The functions of the program as Lean functions, each in the Option monad; N bounds the rounds of loops. No conditions. -/
import Derived.Test.YtkejjbiabpdhjaaGreatCe
set_option linter.unusedVariables false
set_option linter.unusedSimpArgs false
set_option linter.unusedVariables false
namespace Go.Den
open Go.Ab
abbrev zA (s:ByteArray) (x:Int):Int:=HF s x.toNat
structure cj where
 fG:Bool
 fL:List Int
def cj.d:cj:=⟨false,[]⟩
def cj.wf (x:cj):Prop:=wB x.fG/\(wL (wK .u16)) x.fL
def TIc (x:cj):List AV:=[(aB x.fG),(cA (cU .u16) 0 x.fL)]
structure ab where
 fN:cj
 fD:cj
def ab.d:ab:=⟨cj.d,cj.d⟩
def ab.wf (x:ab):Prop:=cj.wf x.fN/\cj.wf x.fD
def bH (x:ab):List AV:=[(aB x.fN.fG),(cA (cU .u16) 0 x.fN.fL),(aB x.fD.fG),(cA (cU .u16) 0 x.fD.fL)]
structure bw where
 fx:List ab
 mW:ab
def bw.d:bw:=⟨[],ab.d⟩
def Uw (x:bw):List AV:=[(cA bH ab.d x.fx),(aB x.mW.fN.fG),(cA (cU .u16) 0 x.mW.fN.fL),(aB x.mW.fD.fG),(cA (cU .u16) 0 x.mW.fD.fL)]
structure re where
 HR:Int
 HS:Int
 Qr:List Int
 abI:List Int
 f_a:List (List ab)
 f_b:List ab
 xg:List ab
 bC:ab
 eY:Int
def re.d:re:=⟨0,0,[],[],[],[],[],ab.d,0⟩
structure cO where
 ah:List Int
 aA:List ab
def cO.d:cO:=⟨[],[]⟩
def cO.wf (x:cO):Prop:=(wL wI) x.ah/\(wL ab.wf) x.aA
def zx (x:cO):List AV:=[(cA cI 0 x.ah),(cA bH ab.d x.aA)]
structure af where
 z9:Int
 Rp:ab
 aY:cO
def af.d:af:=⟨0,ab.d,cO.d⟩
def af.wf (x:af):Prop:=wI x.z9/\ab.wf x.Rp/\cO.wf x.aY
def af.cells (x:af):List AV:=[(aI x.z9),(aB x.Rp.fN.fG),(cA (cU .u16) 0 x.Rp.fN.fL),(aB x.Rp.fD.fG),(cA (cU .u16) 0 x.Rp.fD.fL),(cA cI 0 x.aY.ah),(cA bH ab.d x.aY.aA)]
structure cW where
 dW:Int
 BH:ab
 ag:List af
def cW.d:cW:=⟨0,ab.d,[]⟩
def cW.wf (x:cW):Prop:=wI x.dW/\ab.wf x.BH/\(wL af.wf) x.ag
def cW.cells (x:cW):List AV:=[(aI x.dW),(aB x.BH.fN.fG),(cA (cU .u16) 0 x.BH.fN.fL),(aB x.BH.fD.fG),(cA (cU .u16) 0 x.BH.fD.fL),(cA af.cells af.d x.ag)]
structure aw where
 BI:ab
 xi:ab
def aw.d:aw:=⟨ab.d,ab.d⟩
def aw.cells (x:aw):List AV:=[(aB x.BI.fN.fG),(cA (cU .u16) 0 x.BI.fN.fL),(aB x.BI.fD.fG),(cA (cU .u16) 0 x.BI.fD.fL),(aB x.xi.fN.fG),(cA (cU .u16) 0 x.xi.fN.fL),(aB x.xi.fD.fG),(cA (cU .u16) 0 x.xi.fD.fL)]
structure qP where
 tF:aw
 Zy:List ab
def qP.d:qP:=⟨aw.d,[]⟩
def qP.cells (x:qP):List AV:=[(aB x.tF.BI.fN.fG),(cA (cU .u16) 0 x.tF.BI.fN.fL),(aB x.tF.BI.fD.fG),(cA (cU .u16) 0 x.tF.BI.fD.fL),(aB x.tF.xi.fN.fG),(cA (cU .u16) 0 x.tF.xi.fN.fL),(aB x.tF.xi.fD.fG),(cA (cU .u16) 0 x.tF.xi.fD.fL),(cA bH ab.d x.Zy)]
structure az where
 f_A:ab
 f_B:ab
def az.d:az:=⟨ab.d,ab.d⟩
def az.cells (x:az):List AV:=[(aB x.f_A.fN.fG),(cA (cU .u16) 0 x.f_A.fN.fL),(aB x.f_A.fD.fG),(cA (cU .u16) 0 x.f_A.fD.fL),(aB x.f_B.fN.fG),(cA (cU .u16) 0 x.f_B.fN.fL),(aB x.f_B.fD.fG),(cA (cU .u16) 0 x.f_B.fD.fL)]
structure aa where
 np:ab
 cZ:ab
def aa.d:aa:=⟨ab.d,ab.d⟩
def aa.cells (x:aa):List AV:=[(aB x.np.fN.fG),(cA (cU .u16) 0 x.np.fN.fL),(aB x.np.fD.fG),(cA (cU .u16) 0 x.np.fD.fL),(aB x.cZ.fN.fG),(cA (cU .u16) 0 x.cZ.fN.fL),(aB x.cZ.fD.fG),(cA (cU .u16) 0 x.cZ.fD.fL)]
structure gX where
 FE:ab
 BJ:ab
def gX.d:gX:=⟨ab.d,ab.d⟩
def gX.cells (x:gX):List AV:=[(aB x.FE.fN.fG),(cA (cU .u16) 0 x.FE.fN.fL),(aB x.FE.fD.fG),(cA (cU .u16) 0 x.FE.fD.fL),(aB x.BJ.fN.fG),(cA (cU .u16) 0 x.BJ.fN.fL),(aB x.BJ.fD.fG),(cA (cU .u16) 0 x.BJ.fD.fL)]
structure dD where
 A6:ab
 xj:ab
 A7:ab
def dD.d:dD:=⟨ab.d,ab.d,ab.d⟩
def dD.cells (x:dD):List AV:=[(aB x.A6.fN.fG),(cA (cU .u16) 0 x.A6.fN.fL),(aB x.A6.fD.fG),(cA (cU .u16) 0 x.A6.fD.fL),(aB x.xj.fN.fG),(cA (cU .u16) 0 x.xj.fN.fL),(aB x.xj.fD.fG),(cA (cU .u16) 0 x.xj.fD.fL),(aB x.A7.fN.fG),(cA (cU .u16) 0 x.A7.fN.fL),(aB x.A7.fD.fG),(cA (cU .u16) 0 x.A7.fD.fL)]
def vB (N:Nat) (a:bw) (b:Int):Option Bool :=
 some (decide ((a.fx.length:Int) > b))
def dZ (N:Nat) (s:List bw) (a:Int):Nat->Int->Option Int
 | 0,_=>none
 | fuel+1,x =>
  (cond (decide (x < (s.length:Int)))
  ((if 0<=x/\x < (s.length:Int) then
  ((vB N (s.getD x.toNat bw.d) a).bind fun b =>
  (cond b
  (some x)
  (dZ N s a fuel (av (x+1)))))
  else none))
  (some (-1)))
def rL (N:Nat) (s:List bw) (a:Int):Option Int :=
 dZ N s a N 0
def pA (N:Nat) (s:List bw) (a:Int):Option Bool :=
 ((rL N s a).bind fun b =>
 some (decide (b>=0)))
def qo (N:Nat) (n:Int) (l:List bw):Option Int :=
 (cond (cond (decide (n < 0)) true (decide (n > 12)))
 (some 2)
 ((cond (decide ((l.length:Int) > 40))
 (some 8)
 (((pA N l n).bind fun a =>
 (cond a
 (some 11)
 (some 0)))))))
def oM (N:Nat):Nat->Int->(List Int)->Option (List Int)
 | 0,_,_=>none
 | fuel+1,a,out =>
  (cond (decide (a > 0))
  ((if (out.length+1) * 2<=140737488355328 then
  oM N fuel (iU .u64 a 16) (out ++ ([(IntKind.u16.wrap a)]:List Int))
  else none))
  (some out))
def tG (N:Nat) (n:Int):Option (List Int) :=
 oM N N n ([]:List Int)
def tH (N:Nat):Nat->(List Int)->Option (List Int)
 | 0,_=>none
 | fuel+1,a =>
  (if ((decide ((a.length:Int) > 0))=true->0<=(av ((a.length:Int) - 1))/\(av ((a.length:Int) - 1)) < (a.length:Int)) then
  (cond (cond (decide ((a.length:Int) > 0)) ((a.getD ((av ((a.length:Int) - 1)).toNat) 0) == 0) false)
  ((if 0<=(av ((a.length:Int) - 1)).toNat/\(av ((a.length:Int) - 1)).toNat<=a.length then
  (if 0<=(av ((a.length:Int) - 1)) then
  tH N fuel ((a.take ((av ((a.length:Int) - 1)).toNat)).drop 0)
  else none)
  else none))
  (some a))
  else none)
def k9 (N:Nat) (n:List Int):Option (List Int) :=
 tH N N n
def gL (N:Nat) (s:List Int):Option (List Int) :=
 (if (0+s.length) * 2<=140737488355328 then
 some (([]:List Int) ++ s)
 else none)
def nu (N:Nat) (neg:Bool) (n:List Int):Option cj :=
 ((k9 N n).bind fun a =>
 (cond ((a.length:Int) == 0)
 (some (⟨false,([]:List Int)⟩:cj))
 (((gL N a).bind fun b =>
 some (⟨neg,b⟩:cj)))))
def Kz (N:Nat) (n:Int):Option cj :=
 (cond (decide (n < 0))
 (((tG N (IntKind.u64.wrap (0 - (IntKind.u64.wrap n)))).bind fun b =>
 ((nu N true b).bind fun a =>
 some a)))
 (((tG N (IntKind.u64.wrap n)).bind fun c =>
 ((nu N false c).bind fun d =>
 some d))))
def rj (N:Nat) (n:List Int):Nat->Int->Int->Option (Int×Bool)
 | 0,_,_=>none
 | fuel+1,out,i =>
  (cond (decide (i>=0))
  ((if 0<=i/\i < (n.length:Int) then
  rj N n fuel (Us .u64 (Dl .u64 out 16) (IntKind.u64.wrap ((n.getD i.toNat 0)))) (av (i - 1))
  else none))
  (some (out,true)))
def Ej (N:Nat) (n:List Int):Option (Int×Bool) :=
 (cond (decide ((n.length:Int) > 4))
 (some (0,false))
 (rj N n N 0 (av ((n.length:Int) - 1))))
def mw (N:Nat) (a b:List Int):Nat->Int->Option Int
 | 0,_=>none
 | fuel+1,i =>
  (cond (decide (i>=0))
  ((if 0<=i/\i < (a.length:Int) then
  (if 0<=i/\i < (b.length:Int) then
  (cond ((a.getD i.toNat 0) != (b.getD i.toNat 0))
  (some (av ((av ((a.getD i.toNat 0))) - (av ((b.getD i.toNat 0))))))
  (mw N a b fuel (av (i - 1))))
  else none)
  else none))
  (some 0))
def tI (N:Nat) (a b:List Int):Option Int :=
 (cond ((a.length:Int) != (b.length:Int))
 (some (av ((a.length:Int) - (b.length:Int))))
 (mw N a b N (av ((a.length:Int) - 1))))
def pO (N:Nat) (a:List Int) (b:Int):Nat->(List Int)->Int->Int->Option ((List Int)×Int)
 | 0,_,_,_=>none
 | fuel+1,q,rest,i =>
  (cond (decide (i>=0))
  ((if 0<=i/\i < (a.length:Int) then
  (if ((IntKind.u32.wrap b):Int)≠0 then
  (if 0<=i/\i < (q.length:Int) then
  pO N a b fuel (q.set i.toNat (IntKind.u16.wrap ((IntKind.u32.wrap ((Us .u32 (Dl .u32 rest 16) (IntKind.u32.wrap ((a.getD i.toNat 0)))).tdiv (IntKind.u32.wrap b)))))) ((Us .u32 (Dl .u32 rest 16) (IntKind.u32.wrap ((a.getD i.toNat 0)))).tmod (IntKind.u32.wrap b)) (av (i - 1))
  else none)
  else none)
  else none))
  (((k9 N q).bind fun c =>
  some (c,(IntKind.u16.wrap rest)))))
def Ek (N:Nat) (a:List Int) (b:Int):Option ((List Int)×Int) :=
 (if 0<=(a.length:Int)/\(2:Int) * (a.length:Int)<=281474976710656/\(a.length:Int)<=9223372036854775807 then
 pO N a b N (List.replicate a.length 0:List Int) 0 (av ((a.length:Int) - 1))
 else none)
def fa (N:Nat) (a n:Int):Option Int :=
 (if 0<=(IntKind.u8.wrap a)/\(IntKind.u8.wrap a) < (((⟨#[0,1,2,2,3,3,3,3,4,4,4,4,4,4,4,4,5,5,5,5,5,5,5,5,5,5,5,5,5,5,5,5,6,6,6,6,6,6,6,6,6,6,6,6,6,6,6,6,6,6,6,6,6,6,6,6,6,6,6,6,6,6,6,6,7,7,7,7,7,7,7,7,7,7,7,7,7,7,7,7,7,7,7,7,7,7,7,7,7,7,7,7,7,7,7,7,7,7,7,7,7,7,7,7,7,7,7,7,7,7,7,7,7,7,7,7,7,7,7,7,7,7,7,7,7,7,7,7,8,8,8,8,8,8,8,8,8,8,8,8,8,8,8,8,8,8,8,8,8,8,8,8,8,8,8,8,8,8,8,8,8,8,8,8,8,8,8,8,8,8,8,8,8,8,8,8,8,8,8,8,8,8,8,8,8,8,8,8,8,8,8,8,8,8,8,8,8,8,8,8,8,8,8,8,8,8,8,8,8,8,8,8,8,8,8,8,8,8,8,8,8,8,8,8,8,8,8,8,8,8,8,8,8,8,8,8,8,8,8,8,8,8,8,8,8,8,8,8,8,8,8,8,8,8,8,8]⟩:ByteArray).size:Nat):Int) then
 some (av (n+(av ((HF (⟨#[0,1,2,2,3,3,3,3,4,4,4,4,4,4,4,4,5,5,5,5,5,5,5,5,5,5,5,5,5,5,5,5,6,6,6,6,6,6,6,6,6,6,6,6,6,6,6,6,6,6,6,6,6,6,6,6,6,6,6,6,6,6,6,6,7,7,7,7,7,7,7,7,7,7,7,7,7,7,7,7,7,7,7,7,7,7,7,7,7,7,7,7,7,7,7,7,7,7,7,7,7,7,7,7,7,7,7,7,7,7,7,7,7,7,7,7,7,7,7,7,7,7,7,7,7,7,7,7,8,8,8,8,8,8,8,8,8,8,8,8,8,8,8,8,8,8,8,8,8,8,8,8,8,8,8,8,8,8,8,8,8,8,8,8,8,8,8,8,8,8,8,8,8,8,8,8,8,8,8,8,8,8,8,8,8,8,8,8,8,8,8,8,8,8,8,8,8,8,8,8,8,8,8,8,8,8,8,8,8,8,8,8,8,8,8,8,8,8,8,8,8,8,8,8,8,8,8,8,8,8,8,8,8,8,8,8,8,8,8,8,8,8,8,8,8,8,8,8,8,8,8,8,8,8,8,8]⟩:ByteArray) ((IntKind.u8.wrap a).toNat))))))
 else none)
def pP (N:Nat) (x:Int):Option Int :=
 (cond (decide (x>=256))
 (fa N (iU .u16 x 8) 8)
 (fa N x 0))
def ju (N:Nat) (x:Int):Option Int :=
 ((pP N x).bind fun a =>
 some (av (16 - a)))
def my (N:Nat) (a:List Int) (b:Int):Nat->(List Int)->Int->Option (List Int)
 | 0,_,_=>none
 | fuel+1,out,x =>
  (cond (decide (x < (a.length:Int)))
  ((if 0<=x/\x < (a.length:Int) then
  (if (0:Int)<=b then
  (if 0<=x/\x < (out.length:Int) then
  (if 0<=(av (x+1))/\(av (x+1)) < (((out.set x.toNat (Us .u16 (out.getD x.toNat 0) (IntKind.u16.wrap ((Dl .u32 (IntKind.u32.wrap ((a.getD x.toNat 0))) b))))).length:Nat):Int) then
  my N a b fuel ((out.set x.toNat (Us .u16 (out.getD x.toNat 0) (IntKind.u16.wrap ((Dl .u32 (IntKind.u32.wrap ((a.getD x.toNat 0))) b))))).set ((av (x+1)).toNat) (IntKind.u16.wrap ((iU .u32 (Dl .u32 (IntKind.u32.wrap ((a.getD x.toNat 0))) b) 16)))) (av (x+1))
  else none)
  else none)
  else none)
  else none))
  (some out))
def wo (N:Nat) (a:List Int) (b:Int):Option (List Int) :=
 (if 0<=(av ((a.length:Int)+1))/\(2:Int) * (av ((a.length:Int)+1))<=281474976710656/\(av ((a.length:Int)+1))<=9223372036854775807 then
 my N a b N (List.replicate ((av ((a.length:Int)+1)).toNat) 0:List Int) 0
 else none)
def ug (N b un:Nat) (v:List Int) (q:Int) (c:List Int) (a x:Int)(e:(List Int)->Int->Int->Int->Option (Int×(List Int))) (d:Int):Option (Int×(List Int)) :=
 (if 0<=x/\x < ((un:Nat):Int) then
 (if b+un<=c.length then
 e (c.set (eu b x.toNat) (IntKind.u16.wrap ((av ((av ((av ((c.getD (eu b x.toNat) 0))) - (av ((Zw .u64 d 65535)))))+a))))) (iU .u64 d 16) (iU .i64 (av ((av ((av ((c.getD (eu b x.toNat) 0))) - (av ((Zw .u64 d 65535)))))+a)) 16) (av (x+1))
 else none)
 else none)
def pQ (N:Nat) (a:List Int) (b:Int):Option (Int×(List Int)) :=
 some ((IntKind.u16.wrap b),a)
def mi (N b un:Nat) (v:List Int) (q:Int):Nat->(List Int)->Int->Int->Option (Int×(List Int))
 | 0,_,_,_=>none
 | fuel+1,c,d,a =>
  (cond (decide (a < (v.length:Int)))
  ((if 0<=a/\a < ((un:Nat):Int) then
  (if b+un<=c.length then
  (if 0<=a/\a < (v.length:Int) then
  mi N b un v q fuel (c.set (eu b a.toNat) (IntKind.u16.wrap ((IntKind.u32.wrap (d+(IntKind.u32.wrap ((IntKind.u32.wrap ((c.getD (eu b a.toNat) 0)))+(IntKind.u32.wrap ((v.getD a.toNat 0)))))))))) (iU .u32 (IntKind.u32.wrap (d+(IntKind.u32.wrap ((IntKind.u32.wrap ((c.getD (eu b a.toNat) 0)))+(IntKind.u32.wrap ((v.getD a.toNat 0))))))) 16) (av (a+1))
  else none)
  else none)
  else none))
  ((if 0<=(v.length:Int)/\(v.length:Int) < ((un:Nat):Int) then
  (if b+un<=c.length then
  pQ N (c.set (eu b v.length) (IntKind.u16.wrap ((c.getD (eu b v.length) 0)+(IntKind.u16.wrap d)))) (IntKind.u64.wrap (q - 1))
  else none)
  else none)))
def kc (N b un:Nat) (v:List Int) (q:Int):Nat->(List Int)->Int->Int->Int->Option (Int×(List Int))
 | 0,_,_,_,_=>none
 | fuel+1,c,carry,a,x =>
  (cond (decide (x < (av ((v.length:Int)+1))))
  ((cond (decide (x < (v.length:Int)))
  ((if 0<=x/\x < (v.length:Int) then
  ug N b un v q c a x (kc N b un v q fuel) (IntKind.u64.wrap (carry+(IntKind.u64.wrap (q * (IntKind.u64.wrap ((v.getD x.toNat 0)))))))
  else none))
  (ug N b un v q c a x (kc N b un v q fuel) carry)))
  ((cond (decide (a < 0))
  (mi N b un v q N c 0 0)
  (pQ N c q))))
def pR (N a un:Nat) (v b:List Int):Nat->Int->Int->Option (Int×(List Int))
 | 0,_,_=>none
 | fuel+1,q,rest =>
  (if (((decide (rest < 65536)) && ((decide (rest < 65536)) && (!(decide (q > 65535)))))=true->0<=(av ((v.length:Int) - 2))/\(av ((v.length:Int) - 2)) < (v.length:Int)) then
  (if (((decide (rest < 65536)) && ((decide (rest < 65536)) && (!(decide (q > 65535)))))=true->0<=(av ((v.length:Int) - 2))/\(av ((v.length:Int) - 2)) < ((un:Nat):Int)) then
  (if (((decide (rest < 65536)) && ((decide (rest < 65536)) && (!(decide (q > 65535)))))=true->a+un<=b.length) then
  (cond (cond (decide (rest < 65536)) (cond (decide (q > 65535)) true (decide ((IntKind.u64.wrap (q * (IntKind.u64.wrap ((v.getD ((av ((v.length:Int) - 2)).toNat) 0))))) > (Us .u64 (Dl .u64 rest 16) (IntKind.u64.wrap ((b.getD (eu a (av ((v.length:Int) - 2)).toNat) 0))))))) false)
  ((if 0<=(av ((v.length:Int) - 1))/\(av ((v.length:Int) - 1)) < (v.length:Int) then
  pR N a un v b fuel (IntKind.u64.wrap (q - 1)) (IntKind.u64.wrap (rest+(IntKind.u64.wrap ((v.getD ((av ((v.length:Int) - 1)).toNat) 0)))))
  else none))
  (kc N a un v q N b 0 0 0))
  else none)
  else none)
  else none)
def El (N a un:Nat) (v b:List Int):Option (Int×(List Int)) :=
 (if 0<=(v.length:Int)/\(v.length:Int) < ((un:Nat):Int) then
 (if a+un<=b.length then
 (if 0<=(av ((v.length:Int) - 1))/\(av ((v.length:Int) - 1)) < ((un:Nat):Int) then
 (if 0<=(av ((v.length:Int) - 1))/\(av ((v.length:Int) - 1)) < (v.length:Int) then
 (if ((IntKind.u64.wrap ((v.getD ((av ((v.length:Int) - 1)).toNat) 0))):Int)≠0 then
 pR N a un v b N (IntKind.u64.wrap ((Us .u64 (Dl .u64 (IntKind.u64.wrap ((b.getD (eu a v.length) 0))) 16) (IntKind.u64.wrap ((b.getD (eu a (av ((v.length:Int) - 1)).toNat) 0)))).tdiv (IntKind.u64.wrap ((v.getD ((av ((v.length:Int) - 1)).toNat) 0))))) ((Us .u64 (Dl .u64 (IntKind.u64.wrap ((b.getD (eu a v.length) 0))) 16) (IntKind.u64.wrap ((b.getD (eu a (av ((v.length:Int) - 1)).toNat) 0)))).tmod (IntKind.u64.wrap ((v.getD ((av ((v.length:Int) - 1)).toNat) 0))))
 else none)
 else none)
 else none)
 else none)
 else none)
def n6 (N:Nat) (b:List Int) (a:Int) (q u:List Int):Nat->(List Int)->Int->Option ((List Int)×(List Int))
 | 0,_,_=>none
 | fuel+1,c,x =>
  (cond (decide (x < (((b.length - 0):Nat):Int)))
  ((if 0<=x/\x < (u.length:Int) then
  (if 0<=(av (x+1))/\(av (x+1)) < (u.length:Int) then
  (if (0:Int)<=a then
  (if 0<=x/\x < (c.length:Int) then
  n6 N b a q u fuel (c.set x.toNat (IntKind.u16.wrap ((iU .u32 (Us .u32 (IntKind.u32.wrap ((u.getD x.toNat 0))) (Dl .u32 (IntKind.u32.wrap ((u.getD ((av (x+1)).toNat) 0))) 16)) a)))) (av (x+1))
  else none)
  else none)
  else none)
  else none))
  (((k9 N q).bind fun e =>
  ((k9 N c).bind fun d =>
  some (e,d)))))
def n7 (N:Nat) (b:List Int) (d:Int)(a:(List Int)):Nat->(List Int)->(List Int)->Int->Option ((List Int)×(List Int))
 | 0,_,_,_=>none
 | fuel+1,q,u,j =>
  (cond (decide (j>=0))
  ((if j.toNat<=(av ((av (j+(((b.length - 0):Nat):Int)))+1)).toNat/\(av ((av (j+(((b.length - 0):Nat):Int)))+1)).toNat<=u.length then
  (if 0<=j then
  (if 0<=(av ((av (j+(((b.length - 0):Nat):Int)))+1)) then
  (if 0<=b.length/\b.length<=a.length then
  ((El N j.toNat ((av ((av (j+(((b.length - 0):Nat):Int)))+1)).toNat - j.toNat) ((a.take b.length).drop 0) u).bind fun c =>
  (if c.2.length=u.length then
  (if 0<=j/\j < (q.length:Int) then
  n7 N b d a fuel (q.set j.toNat c.1) c.2 (av (j - 1))
  else none)
  else none))
  else none)
  else none)
  else none)
  else none))
  ((if 0<=(((b.length - 0):Nat):Int)/\(2:Int) * (((b.length - 0):Nat):Int)<=281474976710656/\(((b.length - 0):Nat):Int)<=9223372036854775807 then
  n6 N b d q u N (List.replicate (b.length - 0) 0:List Int) 0
  else none)))
def vP (N:Nat) (a b:List Int):Option ((List Int)×(List Int)) :=
 ((tI N a b).bind fun g =>
 (cond (decide (g < 0))
 (((gL N a).bind fun h =>
 some (([]:List Int),h)))
 ((cond ((b.length:Int) == 1)
 ((if 0<=(0:Int)/\0 < (b.length:Int) then
 ((Ek N a (b.getD 0 0)).bind fun e =>
 ((k9 N ([e.2]:List Int)).bind fun i =>
 some (e.1,i)))
 else none))
 ((if 0<=(av ((b.length:Int) - 1))/\(av ((b.length:Int) - 1)) < (b.length:Int) then
 ((ju N (b.getD ((av ((b.length:Int) - 1)).toNat) 0)).bind fun d =>
 ((wo N a d).bind fun c =>
 ((wo N b d).bind fun f =>
 (if 0<=b.length/\b.length<=f.length then
 (if 0<=(av ((c.length:Int) - (((b.length - 0):Nat):Int)))/\(2:Int) * (av ((c.length:Int) - (((b.length - 0):Nat):Int)))<=281474976710656/\(av ((c.length:Int) - (((b.length - 0):Nat):Int)))<=9223372036854775807 then
 n7 N b d f N (List.replicate ((av ((c.length:Int) - (((b.length - 0):Nat):Int))).toNat) 0:List Int) c (av ((av ((c.length:Int) - (((b.length - 0):Nat):Int))) - 1))
 else none)
 else none))))
 else none))))))
def qp (N:Nat)(a:(List Int)->(List Int)->Option (List Int)):Nat->Int->Int->Option (List Int)
 | 0,_,_=>none
 | fuel+1,x,y =>
  (cond (decide (y > 0))
  ((if (y:Int)≠0 then
  qp N a fuel y (x.tmod y)
  else none))
  (((tG N x).bind fun b =>
  some b)))
def n8 (N:Nat):Nat->(List Int)->(List Int)->Option (List Int)
 | 0,_,_=>none
 | fuel+1,b,a =>
  (cond (decide ((a.length:Int) > 0))
  (((Ej N b).bind fun c =>
  ((Ej N a).bind fun d =>
  (cond (cond c.2 d.2 false)
  (qp N (n8 N fuel) N c.1 d.1)
  (((vP N b a).bind fun e =>
  n8 N fuel a e.2))))))
  (some b))
def FG (N:Nat) (a b:List Int):Option (List Int) :=
 n8 N N a b
def sj (N:Nat) (a b:cj) (x y:List Int):Option ab :=
 ((nu N (!(a.fG == b.fG)) x).bind fun c =>
 ((nu N false y).bind fun d =>
 some (⟨c,d⟩:ab)))
def nL (N:Nat) (a b:cj):Option ab :=
 ((k9 N a.fL).bind fun d =>
 ((k9 N b.fL).bind fun e =>
 ((FG N d e).bind fun c =>
 (if ((!((c.length:Int) != 1))=true->0<=(0:Int)/\0 < (c.length:Int)) then
 (cond (cond ((c.length:Int) != 1) true ((c.getD 0 0) != 1))
 (((vP N d c).bind fun f =>
 ((vP N e c).bind fun g =>
 sj N a b f.1 g.1)))
 (sj N a b d e))
 else none))))
def yD (N:Nat) (a:cj):Option ab :=
 ((nL N a (⟨false,([1]:List Int)⟩:cj)).bind fun b =>
 some b)
def fc (N:Nat) (n:Int):Option ab :=
 ((Kz N n).bind fun rOf =>
 ((yD N rOf).bind fun a =>
 some a))
def BL (N:Nat) (a:cj):Option Int :=
 ((k9 N a.fL).bind fun b =>
 (cond ((b.length:Int) == 0)
 (some 0)
 ((cond a.fG
 (some (-1))
 (some 1)))))
def pH (N:Nat) (x:ab):Option cj :=
 ((BL N x.fD).bind fun dL =>
 (cond (dL == 0)
 (some (⟨false,([1]:List Int)⟩:cj))
 (some x.fD)))
def qq (N:Nat) (x:ab):Option ab :=
 ((pH N x).bind fun a =>
 ((nL N x.fN a).bind fun b =>
 some b))
def A8 (N:Nat) (a:cj):Option cj :=
 some (⟨(!a.fG),a.fL⟩:cj)
def ke (N:Nat) (x:ab):Option ab :=
 ((A8 N x.fN).bind fun a =>
 ((pH N x).bind fun b =>
 ((nL N a b).bind fun c =>
 some c)))
def uh (N:Nat) (n:Int) (l:List bw) (e:ab) (t t2:List Int)(f:List (List ab)) (g:List ab) (h:Int) (row:List ab) (a:Int) (c:(List ab)->Int->Option re) (i:(List Int)->(List (List ab))->(List ab)->Int->Option re) (b:ab):Option re :=
 ((ke N b).bind fun d =>
 (if 0<=a/\a < (row.length:Int) then
 (if 0<=(av (n+a))/\(av (n+a)) < (row.length:Int) then
 c ((row.set a.toNat d).set ((av (n+a)).toNat) b) (av (a+1))
 else none)
 else none))
def kf (N:Nat) (n:Int) (l:List bw) (f:ab) (t t2:List Int)(c:List (List ab)) (d:List ab) (a:Int) (e:(List Int)->(List (List ab))->(List ab)->Int->Option re):Nat->(List ab)->Int->Option re
 | 0,_,_=>none
 | fuel+1,row,b =>
  (cond (decide (b < n))
  (((fc N 0).bind fun g =>
  (cond (decide (b < ((((l.getD a.toNat bw.d).fx).length:Nat):Int)))
  ((if 0<=b/\b < ((((l.getD a.toNat bw.d).fx).length:Nat):Int) then
  ((qq N (⟨((((l.getD a.toNat bw.d).fx).getD b.toNat ab.d).fN),((((l.getD a.toNat bw.d).fx).getD b.toNat ab.d).fD)⟩:ab)).bind fun h =>
  uh N n l f t t2 c d a row b (kf N n l f t t2 c d a e fuel) e h)
  else none))
  (uh N n l f t t2 c d a row b (kf N n l f t t2 c d a e fuel) e g))))
  (((fc N 1).bind fun i =>
  (if 0<=(av (2 * n))/\(av (2 * n)) < (row.length:Int) then
  (if (c.length+1) * 24<=140737488355328 then
  ((qq N (⟨(((l.getD a.toNat bw.d).mW).fN),(((l.getD a.toNat bw.d).mW).fD)⟩:ab)).bind fun j =>
  (if (d.length+1) * 64<=140737488355328 then
  e (t2 ++ ([(av ((av (2 * n))+a))]:List Int)) (c ++ [(row.set ((av (2 * n)).toNat) i)]) (d ++ ([j]:List ab)) (av (a+1))
  else none))
  else none)
  else none))))
def pS (N:Nat) (n:Int) (l:List bw) (c:ab) (t t2:List Int)(d:List (List ab)) (e:List ab):Nat->(List ab)->Int->Option re
 | 0,_,_=>none
 | fuel+1,b,a =>
  (cond (decide (a < (((List.replicate ((av ((av (2 * n))+1)).toNat) ab.d:List ab).length:Nat):Int)))
  (((fc N 0).bind fun f =>
  (if 0<=a/\a < (b.length:Int) then
  pS N n l c t t2 d e fuel (b.set a.toNat f) (av (a+1))
  else none)))
  (some (⟨n,(l.length:Int),t2,(t ++ ([(av ((av (2 * n))+(l.length:Int)))]:List Int)),d,e,b,c,(av ((av (2 * n))+(l.length:Int)))⟩:re)))
def nN (N:Nat) (n:Int) (l:List bw) (b:ab) (t:List Int):Nat->(List Int)->(List (List ab))->(List ab)->Int->Option re
 | 0,_,_,_,_=>none
 | fuel+1,t2,c,d,a =>
  (cond (decide (a < (l.length:Int)))
  ((if 0<=a/\a < (l.length:Int) then
  (if (t2.length+1) * 8<=140737488355328 then
  (if 0<=(av ((av (2 * n))+1))/\(64:Int) * (av ((av (2 * n))+1))<=281474976710656/\(av ((av (2 * n))+1))<=9223372036854775807 then
  kf N n l b t t2 c d a (nN N n l b t fuel) N (List.replicate ((av ((av (2 * n))+1)).toNat) ab.d:List ab) 0
  else none)
  else none)
  else none))
  ((if 0<=(av ((av (2 * n))+1))/\(64:Int) * (av ((av (2 * n))+1))<=281474976710656/\(av ((av (2 * n))+1))<=9223372036854775807 then
  pS N n l b t t2 c d N (List.replicate ((av ((av (2 * n))+1)).toNat) ab.d:List ab) 0
  else none)))
def pT (N:Nat) (n:Int) (l:List bw) (a:ab):Nat->(List Int)->Int->Option re
 | 0,_,_=>none
 | fuel+1,t,x =>
  (cond (decide (x < (av (2 * n))))
  ((if (t.length+1) * 8<=140737488355328 then
  pT N n l a fuel (t ++ ([x]:List Int)) (av (x+1))
  else none))
  ((if (t.length+1) * 8<=140737488355328 then
  nN N n l a t N ([]:List Int) ([]:List (List ab)) ([]:List ab) 0
  else none)))
def Jt (N:Nat) (n:Int) (l:List bw):Option re :=
 ((fc N 0).bind fun a =>
 pT N n l a N ([]:List Int) 0)
def l8 (N:Nat) (x:ab):Option Int :=
 ((BL N x.fN).bind fun dL =>
 ((pH N x).bind fun a =>
 ((BL N a).bind fun b =>
 some (av (dL * b)))))
def jv (N:Nat) (x:ab):Option Bool :=
 ((BL N x.fN).bind fun dL =>
 some (dL == 0))
def pU (N:Nat) (a b:List Int) (x:Int)(e:(List Int)->Int->Option (List Int)):Nat->(List Int)->Int->Int->Option (List Int)
 | 0,_,_,_=>none
 | fuel+1,d,carry,c =>
  (cond (decide (c < (b.length:Int)))
  ((if 0<=c/\c < (b.length:Int) then
  (if 0<=(av (x+c))/\(av (x+c)) < (d.length:Int) then
  pU N a b x e fuel (d.set ((av (x+c)).toNat) (IntKind.u16.wrap ((IntKind.u32.wrap (carry+(IntKind.u32.wrap ((IntKind.u32.wrap ((IntKind.u32.wrap ((a.getD x.toNat 0))) * (IntKind.u32.wrap ((b.getD c.toNat 0)))))+(IntKind.u32.wrap ((d.getD ((av (x+c)).toNat) 0)))))))))) (iU .u32 (IntKind.u32.wrap (carry+(IntKind.u32.wrap ((IntKind.u32.wrap ((IntKind.u32.wrap ((a.getD x.toNat 0))) * (IntKind.u32.wrap ((b.getD c.toNat 0)))))+(IntKind.u32.wrap ((d.getD ((av (x+c)).toNat) 0))))))) 16) (av (c+1))
  else none)
  else none))
  ((if 0<=(av (x+(b.length:Int)))/\(av (x+(b.length:Int))) < (d.length:Int) then
  e (d.set ((av (x+(b.length:Int))).toNat) (IntKind.u16.wrap carry)) (av (x+1))
  else none)))
def pV (N:Nat) (a b:List Int):Nat->(List Int)->Int->Option (List Int)
 | 0,_,_=>none
 | fuel+1,out,x =>
  (cond (decide (x < (a.length:Int)))
  ((if 0<=x/\x < (a.length:Int) then
  pU N a b x (pV N a b fuel) N out 0 0
  else none))
  (((k9 N out).bind fun c =>
  some c)))
def Bu (N:Nat) (a b:List Int):Option (List Int) :=
 (if 0<=(av ((a.length:Int)+(b.length:Int)))/\(2:Int) * (av ((a.length:Int)+(b.length:Int)))<=281474976710656/\(av ((a.length:Int)+(b.length:Int)))<=9223372036854775807 then
 pV N a b N (List.replicate ((av ((a.length:Int)+(b.length:Int))).toNat) 0:List Int) 0
 else none)
def xq (N:Nat) (a b:cj):Option cj :=
 ((k9 N a.fL).bind fun d =>
 ((k9 N b.fL).bind fun e =>
 ((Bu N d e).bind fun f =>
 ((nu N (!(a.fG == b.fG)) f).bind fun c =>
 some c))))
def wq (N:Nat) (c d out:List Int) (x:Int)(b:(List Int)->Int->Int->Option (List Int)) (a:Int):Option (List Int) :=
 (if (out.length+1) * 2<=140737488355328 then
 b (out ++ ([(IntKind.u16.wrap a)]:List Int)) (iU .u32 a 16) (av (x+1))
 else none)
def n9 (N:Nat) (a b:List Int):Nat->(List Int)->Int->Int->Option (List Int)
 | 0,_,_,_=>none
 | fuel+1,out,carry,x =>
  (cond (decide (x < (a.length:Int)))
  ((if 0<=x/\x < (a.length:Int) then
  (cond (decide (x < (b.length:Int)))
  ((if 0<=x/\x < (b.length:Int) then
  wq N a b out x (n9 N a b fuel) (IntKind.u32.wrap ((IntKind.u32.wrap (carry+(IntKind.u32.wrap ((a.getD x.toNat 0)))))+(IntKind.u32.wrap ((b.getD x.toNat 0)))))
  else none))
  (wq N a b out x (n9 N a b fuel) (IntKind.u32.wrap (carry+(IntKind.u32.wrap ((a.getD x.toNat 0)))))))
  else none))
  ((if (out.length+1) * 2<=140737488355328 then
  ((k9 N (out ++ ([(IntKind.u16.wrap carry)]:List Int))).bind fun c =>
  some c)
  else none)))
def wu (N:Nat) (a b:List Int):Option (List Int) :=
 (if 0<=(0:Int)/\(2:Int) * (av ((a.length:Int)+1))<=281474976710656/\(av ((a.length:Int)+1))<=9223372036854775807/\(0:Int)<=(av ((a.length:Int)+1)) then
 n9 N a b N (List.replicate 0 0:List Int) 0 0
 else none)
def Em (N:Nat) (a b:List Int):Option (List Int) :=
 (cond (decide ((a.length:Int) < (b.length:Int)))
 (wu N b a)
 (wu N a b))
def ui (N:Nat) (a b out:List Int) (x y:Int)(d:(List Int)->Int->Int->Option (List Int)) (c:Int):Option (List Int) :=
 (if 0<=x/\x < (out.length:Int) then
 d (out.set x.toNat (IntKind.u16.wrap ((IntKind.u32.wrap ((IntKind.u32.wrap ((IntKind.u32.wrap ((a.getD x.toNat 0)))+(Dl .u32 c 16))) - y))))) c (av (x+1))
 else none)
def uj (N:Nat) (a b out:List Int) (x:Int)(c:(List Int)->Int->Int->Option (List Int)) (y:Int):Option (List Int) :=
 (cond (decide ((IntKind.u32.wrap ((a.getD x.toNat 0))) < y))
 (ui N a b out x y c 1)
 (ui N a b out x y c 0))
def la (N:Nat) (a b:List Int):Nat->(List Int)->Int->Int->Option (List Int)
 | 0,_,_,_=>none
 | fuel+1,out,c,x =>
  (cond (decide (x < (a.length:Int)))
  ((if 0<=x/\x < (a.length:Int) then
  (cond (decide (x < (b.length:Int)))
  ((if 0<=x/\x < (b.length:Int) then
  uj N a b out x (la N a b fuel) (IntKind.u32.wrap (c+(IntKind.u32.wrap ((b.getD x.toNat 0)))))
  else none))
  (uj N a b out x (la N a b fuel) c))
  else none))
  (((k9 N out).bind fun d =>
  some d)))
def yE (N:Nat) (a b:List Int):Option (List Int) :=
 (if 0<=(a.length:Int)/\(2:Int) * (a.length:Int)<=281474976710656/\(a.length:Int)<=9223372036854775807 then
 la N a b N (List.replicate a.length 0:List Int) 0 0
 else none)
def Mf (N:Nat) (a b:cj):Option cj :=
 ((k9 N a.fL).bind fun c =>
 ((k9 N b.fL).bind fun d =>
 (cond (a.fG == b.fG)
 (((Em N c d).bind fun g =>
 ((nu N a.fG g).bind fun e =>
 some e)))
 (((tI N c d).bind fun h =>
 (cond (decide (h>=0))
 (((yE N c d).bind fun i =>
 ((nu N a.fG i).bind fun j =>
 some j)))
 (((yE N d c).bind fun k =>
 ((nu N b.fG k).bind fun f =>
 some f)))))))))
def bG (N:Nat) (x y:ab):Option ab :=
 ((jv N x).bind fun d =>
 (cond d
 (((qq N y).bind fun e =>
 some e))
 (((jv N y).bind fun f =>
 (cond f
 (((qq N x).bind fun g =>
 some g))
 (((pH N x).bind fun b =>
 ((pH N y).bind fun c =>
 ((xq N x.fN c).bind fun h =>
 ((xq N y.fN b).bind fun i =>
 ((Mf N h i).bind fun a =>
 ((xq N b c).bind fun j =>
 ((nL N a j).bind fun k =>
 some k)))))))))))))
def gr (N:Nat) (x y:ab):Option ab :=
 ((ke N y).bind fun a =>
 ((bG N x a).bind fun b =>
 some b))
def iQ (N:Nat) (x y:ab):Option Int :=
 ((gr N x y).bind fun a =>
 ((l8 N a).bind fun b =>
 some b))
def xt (N:Nat) (x y:ab):Option ab :=
 ((pH N y).bind fun a =>
 ((xq N x.fN a).bind fun b =>
 ((pH N x).bind fun c =>
 ((xq N c y.fN).bind fun d =>
 ((nL N b d).bind fun e =>
 some e)))))
def bR (N:Nat) (x y:ab):Option ab :=
 ((xq N x.fN y.fN).bind fun a =>
 ((pH N x).bind fun b =>
 ((pH N y).bind fun c =>
 ((xq N b c).bind fun d =>
 ((nL N a d).bind fun e =>
 some e)))))
def oQ (N:Nat) (j:Int) (f:ab) (c:List ab) (x:Int)(a:(List ab)->Int->Option (List ab)) (b:List ab):Option (List ab) :=
 a b (av (x+1))
def kz (N:Nat) (j:Int) (f:ab) (b:List ab):Nat->(List ab)->Int->Option (List ab)
 | 0,_,_=>none
 | fuel+1,a,x =>
  (cond (decide (x < (b.length:Int)))
  ((cond (x == j)
  ((if 0<=x/\x < (a.length:Int) then
  ((bR N f (⟨((a.getD x.toNat ab.d).fN),((a.getD x.toNat ab.d).fD)⟩:ab)).bind fun c =>
  oQ N j f b x (kz N j f b fuel) (a.set x.toNat c))
  else none))
  ((if 0<=x/\x < (a.length:Int) then
  ((jv N (⟨((a.getD x.toNat ab.d).fN),((a.getD x.toNat ab.d).fD)⟩:ab)).bind fun d =>
  (cond (!d)
  (((bR N f (⟨((a.getD x.toNat ab.d).fN),((a.getD x.toNat ab.d).fD)⟩:ab)).bind fun e =>
  ((bG N (⟨((a.getD x.toNat ab.d).fN),((a.getD x.toNat ab.d).fD)⟩:ab) e).bind fun g =>
  oQ N j f b x (kz N j f b fuel) (a.set x.toNat g))))
  (oQ N j f b x (kz N j f b fuel) a)))
  else none))))
  (some a))
def Ai (N:Nat) (j:Int) (f:ab) (a:List ab):Option (List ab) :=
 kz N j f a N a 0
def jW (N:Nat) (j:Int) (f:ab) (c d:List ab) (x:Int)(a:(List ab)->Int->Option (List ab)) (b:List ab):Option (List ab) :=
 a b (av (x+1))
def fB (N:Nat) (j:Int) (f:ab) (c a:List ab):Nat->(List ab)->Int->Option (List ab)
 | 0,_,_=>none
 | fuel+1,b,x =>
  (cond (decide (x < (c.length:Int)))
  ((cond (x == j)
  ((if 0<=x/\x < (a.length:Int) then
  ((bR N f (⟨((a.getD x.toNat ab.d).fN),((a.getD x.toNat ab.d).fD)⟩:ab)).bind fun d =>
  (if 0<=x/\x < (b.length:Int) then
  jW N j f c a x (fB N j f c a fuel) (b.set x.toNat d)
  else none))
  else none))
  ((if 0<=x/\x < (a.length:Int) then
  ((jv N (⟨((a.getD x.toNat ab.d).fN),((a.getD x.toNat ab.d).fD)⟩:ab)).bind fun e =>
  (cond (!e)
  ((if 0<=x/\x < (b.length:Int) then
  ((bR N f (⟨((a.getD x.toNat ab.d).fN),((a.getD x.toNat ab.d).fD)⟩:ab)).bind fun g =>
  ((bG N (⟨((b.getD x.toNat ab.d).fN),((b.getD x.toNat ab.d).fD)⟩:ab) g).bind fun h =>
  jW N j f c a x (fB N j f c a fuel) (b.set x.toNat h)))
  else none))
  (jW N j f c a x (fB N j f c a fuel) b)))
  else none))))
  (some b))
def l9 (N:Nat) (j:Int) (f:ab) (a b:List ab):Option (List ab) :=
 fB N j f a b N a 0
def mA (N:Nat) (i j c d:Int) (e:Bool) (f:List Int) (g:Bool) (h:List Int) (k:Int) (l m:List Int)(n:List (List ab)) (o:List ab) (p:List ab) (x:Int) (a:(List ab)->Int->Option (re×(List Int)×(List Int)×(List (List ab))×(List ab)×(List ab))) (b:List ab):Option (re×(List Int)×(List Int)×(List (List ab))×(List ab)×(List ab)) :=
 a b (av (x+1))
def gM (N:Nat) (i j f g:Int) (h:Bool) (k:List Int) (l:Bool) (m:List Int) (n:Int) (o p:List Int)(q:List (List ab)) (r:List ab) (a:Int) (b:(List (List ab))->(List ab)->(List ab)->Int->Option (re×(List Int)×(List Int)×(List (List ab))×(List ab)×(List ab))) (c:List (List ab)) (d:List ab) (e:List ab):Option (re×(List Int)×(List Int)×(List (List ab))×(List ab)×(List ab)) :=
 b c d e (av (a+1))
def kF (N:Nat) (i j g h k:Int) (a b:List Int)(c:List (List ab)) (d:List ab) (e:List ab) (f:List ab) (l:Bool) (m:List Int) (n:Bool) (o:List Int):Option (re×(List Int)×(List Int)×(List (List ab))×(List ab)×(List ab)) :=
 (if 0<=j/\j < (b.length:Int) then
 (if 0<=i/\i < (a.length:Int) then
 some ((⟨g,h,(a.set i.toNat (b.getD j.toNat 0)),(b.set j.toNat (a.getD i.toNat 0)),(c.set i.toNat d),e,f,(⟨(⟨l,m⟩:cj),(⟨n,o⟩:cj)⟩:ab),k⟩:re),(a.set i.toNat (b.getD j.toNat 0)),(b.set j.toNat (a.getD i.toNat 0)),(c.set i.toNat d),e,f)
 else none)
 else none)
def dX (N:Nat) (i j f g:Int) (h:Bool) (k:List Int) (l:Bool) (m:List Int) (n:Int) (o p:List Int)(q:List (List ab)) (d:List ab):Nat->(List (List ab))->(List ab)->(List ab)->Int->Option (re×(List Int)×(List Int)×(List (List ab))×(List ab)×(List ab))
 | 0,_,_,_,_=>none
 | fuel+1,b,e,c,a =>
  (cond (decide (a < (q.length:Int)))
  ((cond (decide (a.toNat=(i).toNat))
  ((if 0<=a/\a < (b.length:Int) then
  (if 0<=j/\j < (e.length:Int) then
  ((cond (a != i) (jv N (⟨((e.getD j.toNat ab.d).fN),((e.getD j.toNat ab.d).fD)⟩:ab)) (some false)).bind fun x =>
  (cond (cond (a != i) (!x) false)
  ((if 0<=a/\a < (c.length:Int) then
  (if 0<=i/\i < (c.length:Int) then
  ((bR N (⟨((e.getD j.toNat ab.d).fN),((e.getD j.toNat ab.d).fD)⟩:ab) (⟨((c.getD i.toNat ab.d).fN),((c.getD i.toNat ab.d).fD)⟩:ab)).bind fun y =>
  ((bG N (⟨((c.getD a.toNat ab.d).fN),((c.getD a.toNat ab.d).fD)⟩:ab) y).bind fun s =>
  (cond (decide (a.toNat=(i).toNat))
  (((Ai N j (⟨((e.getD j.toNat ab.d).fN),((e.getD j.toNat ab.d).fD)⟩:ab) e).bind fun t =>
  (if t.length=e.length then
  gM N i j f g h k l m n o p q d a (dX N i j f g h k l m n o p q d fuel) b t (c.set a.toNat s)
  else none)))
  ((if a.toNat < b.length then
  ((l9 N j (⟨((e.getD j.toNat ab.d).fN),((e.getD j.toNat ab.d).fD)⟩:ab) (b.getD a.toNat []) e).bind fun u =>
  (if u.length=(b.getD a.toNat []).length then
  gM N i j f g h k l m n o p q d a (dX N i j f g h k l m n o p q d fuel) (b.set a.toNat u) e (c.set a.toNat s)
  else none))
  else none)))))
  else none)
  else none))
  (gM N i j f g h k l m n o p q d a (dX N i j f g h k l m n o p q d fuel) b e c)))
  else none)
  else none))
  ((if a.toNat < b.length then
  (if 0<=a/\a < (b.length:Int) then
  (if 0<=j/\j < (((b.getD a.toNat []).length:Nat):Int) then
  ((cond (a != i) (jv N (⟨(((b.getD a.toNat []).getD j.toNat ab.d).fN),(((b.getD a.toNat []).getD j.toNat ab.d).fD)⟩:ab)) (some false)).bind fun z =>
  (cond (cond (a != i) (!z) false)
  ((if 0<=a/\a < (c.length:Int) then
  (if 0<=i/\i < (c.length:Int) then
  ((bR N (⟨(((b.getD a.toNat []).getD j.toNat ab.d).fN),(((b.getD a.toNat []).getD j.toNat ab.d).fD)⟩:ab) (⟨((c.getD i.toNat ab.d).fN),((c.getD i.toNat ab.d).fD)⟩:ab)).bind fun A =>
  ((bG N (⟨((c.getD a.toNat ab.d).fN),((c.getD a.toNat ab.d).fD)⟩:ab) A).bind fun B =>
  ((l9 N j (⟨(((b.getD a.toNat []).getD j.toNat ab.d).fN),(((b.getD a.toNat []).getD j.toNat ab.d).fD)⟩:ab) (b.getD a.toNat []) e).bind fun v =>
  (if v.length=(b.getD a.toNat []).length then
  gM N i j f g h k l m n o p q d a (dX N i j f g h k l m n o p q d fuel) (b.set a.toNat v) e (c.set a.toNat B)
  else none))))
  else none)
  else none))
  (gM N i j f g h k l m n o p q d a (dX N i j f g h k l m n o p q d fuel) b e c)))
  else none)
  else none)
  else none))))
  ((if 0<=j/\j < (d.length:Int) then
  ((jv N (⟨((d.getD j.toNat ab.d).fN),((d.getD j.toNat ab.d).fD)⟩:ab)).bind fun C =>
  (cond (!C)
  ((if 0<=i/\i < (c.length:Int) then
  ((bR N (⟨((d.getD j.toNat ab.d).fN),((d.getD j.toNat ab.d).fD)⟩:ab) (⟨((c.getD i.toNat ab.d).fN),((c.getD i.toNat ab.d).fD)⟩:ab)).bind fun D =>
  ((bG N (⟨(⟨h,k⟩:cj),(⟨l,m⟩:cj)⟩:ab) D).bind fun r =>
  ((l9 N j (⟨((d.getD j.toNat ab.d).fN),((d.getD j.toNat ab.d).fD)⟩:ab) d e).bind fun w =>
  (if w.length=d.length then
  (if i.toNat < b.length then
  kF N i j f g n o p b e c w r.fN.fG r.fN.fL r.fD.fG r.fD.fL
  else none)
  else none))))
  else none))
  ((if i.toNat < b.length then
  kF N i j f g n o p b e c d h k l m
  else none))))
  else none)))
def gN (N:Nat) (i j d e:Int) (f:Bool) (g:List Int) (h:Bool) (k:List Int) (l:Int) (m n:List Int)(a:List (List ab)) (b:List ab) (o:List ab):Nat->(List ab)->Int->Option (re×(List Int)×(List Int)×(List (List ab))×(List ab)×(List ab))
 | 0,_,_=>none
 | fuel+1,c,x =>
  (cond (decide (x < (((a.getD i.toNat []).length:Nat):Int)))
  ((cond (x != j)
  ((if 0<=x/\x < (c.length:Int) then
  ((xt N (⟨((c.getD x.toNat ab.d).fN),((c.getD x.toNat ab.d).fD)⟩:ab) (⟨(((a.getD i.toNat []).getD j.toNat ab.d).fN),(((a.getD i.toNat []).getD j.toNat ab.d).fD)⟩:ab)).bind fun jC =>
  ((ke N jC).bind fun q =>
  mA N i j d e f g h k l m n a b o x (gN N i j d e f g h k l m n a b o fuel) (c.set x.toNat q)))
  else none))
  (mA N i j d e f g h k l m n a b o x (gN N i j d e f g h k l m n a b o fuel) c)))
  (((fc N 1).bind fun r =>
  ((xt N r (⟨(((a.getD i.toNat []).getD j.toNat ab.d).fN),(((a.getD i.toNat []).getD j.toNat ab.d).fD)⟩:ab)).bind fun s =>
  (if 0<=j/\j < (c.length:Int) then
  (if 0<=i/\i < (b.length:Int) then
  ((xt N (⟨((b.getD i.toNat ab.d).fN),((b.getD i.toNat ab.d).fD)⟩:ab) (⟨(((a.getD i.toNat []).getD j.toNat ab.d).fN),(((a.getD i.toNat []).getD j.toNat ab.d).fD)⟩:ab)).bind fun p =>
  ((ke N p).bind fun t =>
  dX N i j d e f g h k l m n a o N a (c.set j.toNat s) (b.set i.toNat t) 0))
  else none)
  else none)))))
def mY (N:Nat) (i j b c:Int) (d:Bool) (e:List Int) (f:Bool) (g:List Int) (h:Int) (k l:List Int)(a:List (List ab)) (m:List ab) (n:List ab):Option (re×(List Int)×(List Int)×(List (List ab))×(List ab)×(List ab)) :=
 (if i.toNat < a.length then
 (if 0<=i/\i < (a.length:Int) then
 (if 0<=j/\j < (((a.getD i.toNat []).length:Nat):Int) then
 gN N i j b c d e f g h k l a m n N (a.getD i.toNat []) 0
 else none)
 else none)
 else none)
def kG (N:Nat) (c d:Int) (e:Bool) (f:List Int) (g:Bool) (h:List Int) (i:Int) (j k:List Int)(l:List (List ab)) (m:List ab) (n:List ab) (x:Int) (a:Int->Int->Option Int) (b:Int):Option Int :=
 a b (av (x+1))
def dj (N:Nat) (e f:Int) (g:Bool) (h:List Int) (i:Bool) (j:List Int) (k:Int) (l a:List Int)(m:List (List ab)) (n:List ab) (c:List ab):Nat->Int->Int->Option Int
 | 0,_,_=>none
 | fuel+1,b,x =>
  (cond (decide (x < (a.length:Int)))
  ((if 0<=x/\x < (c.length:Int) then
  ((l8 N (⟨((c.getD x.toNat ab.d).fN),((c.getD x.toNat ab.d).fD)⟩:ab)).bind fun d =>
  (if (((decide (d > 0)) && ((decide (d > 0)) && (!(decide (b < 0)))))=true->0<=x/\x < (a.length:Int)) then
  (if (((decide (d > 0)) && ((decide (d > 0)) && (!(decide (b < 0)))))=true->0<=b/\b < (a.length:Int)) then
  (cond (cond (decide (d > 0)) (cond (decide (b < 0)) true (decide ((a.getD x.toNat 0) < (a.getD b.toNat 0)))) false)
  (kG N e f g h i j k l a m n c x (dj N e f g h i j k l a m n c fuel) x)
  (kG N e f g h i j k l a m n c x (dj N e f g h i j k l a m n c fuel) b))
  else none)
  else none))
  else none))
  (some b))
def pY (N:Nat) (a b:Int) (c:Bool) (d:List Int) (e:Bool) (f:List Int) (g:Int) (h i:List Int)(j:List (List ab)) (k:List ab) (l:List ab):Option Int :=
 dj N a b c d e f g h i j k l N (-1) 0
def iR (N:Nat) (j d e:Int) (f:Bool) (g:List Int) (h:Bool) (i:List Int) (k:Int) (l m:List Int)(n:List (List ab)) (o:List ab) (p:List ab) (x:Int) (a:Int->ab->Int->Option Int) (b:Int) (c:ab):Option Int :=
 a b c (av (x+1))
def jE (N:Nat) (j e f:Int) (g:Bool) (h:List Int) (i:Bool) (k:List Int) (l:Int) (c m:List Int)(n:List (List ab)) (o:List ab) (p:List ab) (d:Int) (b:ab) (x:Int) (jC:ab) (q:Int->ab->Int->Option Int) (a:Int):Option Int :=
 (if (((!(decide (a < 0))) && ((!(decide (a < 0))) && (a == 0)))=true->0<=x/\x < (c.length:Int)) then
 (if (((!(decide (a < 0))) && ((!(decide (a < 0))) && (a == 0)))=true->0<=d/\d < (c.length:Int)) then
 (cond (cond (decide (a < 0)) true (cond (a == 0) (decide ((c.getD x.toNat 0) < (c.getD d.toNat 0))) false))
 (iR N j e f g h i k l c m n o p x q x jC)
 (iR N j e f g h i k l c m n o p x q d b))
 else none)
 else none)
def dw (N:Nat) (j e f:Int) (g:Bool) (h:List Int) (i:Bool) (k:List Int) (l:Int) (d m:List Int)(b:List (List ab)) (c:List ab) (n:List ab):Nat->Int->ab->Int->Option Int
 | 0,_,_,_=>none
 | fuel+1,o,a,x =>
  (cond (decide (x < (d.length:Int)))
  ((if x.toNat < b.length then
  (if 0<=x/\x < (b.length:Int) then
  (if 0<=j/\j < (((b.getD x.toNat []).length:Nat):Int) then
  ((l8 N (⟨(((b.getD x.toNat []).getD j.toNat ab.d).fN),(((b.getD x.toNat []).getD j.toNat ab.d).fD)⟩:ab)).bind fun p =>
  (cond (decide (p>=0))
  (iR N j e f g h i k l d m b c n x (dw N j e f g h i k l d m b c n fuel) o a)
  ((if 0<=x/\x < (c.length:Int) then
  ((ke N (⟨(((b.getD x.toNat []).getD j.toNat ab.d).fN),(((b.getD x.toNat []).getD j.toNat ab.d).fD)⟩:ab)).bind fun q =>
  ((xt N (⟨((c.getD x.toNat ab.d).fN),((c.getD x.toNat ab.d).fD)⟩:ab) q).bind fun jC =>
  (cond (decide (o>=0))
  (((iQ N jC a).bind fun r =>
  jE N j e f g h i k l d m b c n o a x jC (dw N j e f g h i k l d m b c n fuel) r))
  (jE N j e f g h i k l d m b c n o a x jC (dw N j e f g h i k l d m b c n fuel) (-1)))))
  else none))))
  else none)
  else none)
  else none))
  (some o))
def qG (N:Nat) (j a b:Int) (c:Bool) (d:List Int) (e:Bool) (f:List Int) (g:Int) (h i:List Int)(k:List (List ab)) (l:List ab) (m:List ab):Option Int :=
 dw N j a b c d e f g h i k l m N (-1) (⟨(⟨false,([]:List Int)⟩:cj),(⟨false,([]:List Int)⟩:cj)⟩:ab) 0
def gP (N:Nat):Nat->Int->Int->(List Int)->(List Int)->(List (List ab))->(List ab)->(List ab)->Bool->(List Int)->Bool->(List Int)->Int->Option (Int×re×(List Int)×(List Int)×(List (List ab))×(List ab)×(List ab))
 | 0,_,_,_,_,_,_,_,_,_,_,_,_=>none
 | fuel+1,g,h,b,c,d,e,f,i,j,k,l,m =>
  ((pY N g h i j k l m b c d e f).bind fun n =>
  (cond (decide (n < 0))
  (some ((-1),(⟨g,h,b,c,d,e,f,(⟨(⟨i,j⟩:cj),(⟨k,l⟩:cj)⟩:ab),m⟩:re),b,c,d,e,f))
  (((qG N n g h i j k l m b c d e f).bind fun o =>
  (cond (decide (o < 0))
  (some (n,(⟨g,h,b,c,d,e,f,(⟨(⟨i,j⟩:cj),(⟨k,l⟩:cj)⟩:ab),m⟩:re),b,c,d,e,f))
  (((mY N o n g h i j k l m b c d e f).bind fun a =>
  (if a.2.1.length=b.length then
  (if a.2.2.1.length=c.length then
  (if a.2.2.2.1.length=d.length then
  (if a.2.2.2.2.1.length=e.length then
  (if a.2.2.2.2.2.length=f.length then
  gP N fuel a.1.HR a.1.HS a.2.1 a.2.2.1 a.2.2.2.1 a.2.2.2.2.1 a.2.2.2.2.2 a.1.bC.fN.fG a.1.bC.fN.fL a.1.bC.fD.fG a.1.bC.fD.fL a.1.eY
  else none)
  else none)
  else none)
  else none)
  else none))))))))
def xw (N:Nat) (a b:Int) (c:Bool) (d:List Int) (e:Bool) (f:List Int) (g:Int) (h i:List Int)(j:List (List ab)) (k:List ab) (l:List ab):Option (Int×re×(List Int)×(List Int)×(List (List ab))×(List ab)×(List ab)) :=
 gP N N a b h i j k l c d e f g
def ee (N:Nat) (s:List Int) (v:Int):Nat->Int->Option Int
 | 0,_=>none
 | fuel+1,x =>
  (cond (decide (x < (s.length:Int)))
  ((if 0<=x/\x < (s.length:Int) then
  (cond (v == (s.getD x.toNat 0))
  (some x)
  (ee N s v fuel (av (x+1))))
  else none))
  (some (-1)))
def iS (N:Nat) (s:List Int) (v:Int):Option Int :=
 ee N s v N 0
def pZ (N:Nat) (x:ab):Option Bool :=
 ((jv N x).bind fun a =>
 some (!a))
def eh (N:Nat) (s:List ab):Nat->Int->Option Int
 | 0,_=>none
 | fuel+1,x =>
  (cond (decide (x < (s.length:Int)))
  ((if 0<=x/\x < (s.length:Int) then
  ((pZ N (⟨((s.getD x.toNat ab.d).fN),((s.getD x.toNat ab.d).fD)⟩:ab)).bind fun a =>
  (cond a
  (some x)
  (eh N s fuel (av (x+1)))))
  else none))
  (some (-1)))
def nQ (N:Nat) (s:List ab):Option Int :=
 eh N s N 0
def mZ (N:Nat) (i j:Int) (a:List Int):Option ((List Int)×(List Int)) :=
 (if 0<=i/\i<=j/\j<=(a.length:Int)/\(a.length:Int)<=(a.length:Int) then
 (cond (i == j)
 (some (a,a))
 ((if 0<=(i).toNat/\(i).toNat<=a.length then
 (if 0<=i then
 (if j.toNat<=a.length/\a.length<=a.length then
 (if 0<=j then
 (if i.toNat<=(j).toNat/\(j).toNat<=a.length then
 (if 0 < a.length then
 (if ((i.toNat - 0)+(a.length - j.toNat))<=a.length/\0+a.length<=(wV a i.toNat j.toNat).length then
 (if 0 < (a.length - ((i.toNat - 0)+(a.length - j.toNat)))/\((i.toNat - 0)+(a.length - j.toNat))+(a.length - ((i.toNat - 0)+(a.length - j.toNat)))<=(wV a i.toNat j.toNat).length then
 some (((wV a i.toNat j.toNat).take ((i.toNat - 0)+(a.length - j.toNat))),((wV a i.toNat j.toNat).take ((i.toNat - 0)+(a.length - j.toNat))))
 else none)
 else none)
 else none)
 else none)
 else none)
 else none)
 else none)
 else none)))
 else none)
def qH (N:Nat) (i j:Int) (a:List ab):Option ((List ab)×(List ab)) :=
 (if 0<=i/\i<=j/\j<=(a.length:Int)/\(a.length:Int)<=(a.length:Int) then
 (cond (i == j)
 (some (a,a))
 ((if 0<=(i).toNat/\(i).toNat<=a.length then
 (if 0<=i then
 (if j.toNat<=a.length/\a.length<=a.length then
 (if 0<=j then
 (if i.toNat<=(j).toNat/\(j).toNat<=a.length then
 (if 0 < a.length then
 (if ((i.toNat - 0)+(a.length - j.toNat))<=a.length/\0+a.length<=(wV a i.toNat j.toNat).length then
 (if 0 < (a.length - ((i.toNat - 0)+(a.length - j.toNat)))/\((i.toNat - 0)+(a.length - j.toNat))+(a.length - ((i.toNat - 0)+(a.length - j.toNat)))<=(wV a i.toNat j.toNat).length then
 some (((wV a i.toNat j.toNat).take ((i.toNat - 0)+(a.length - j.toNat))),((wV a i.toNat j.toNat).take ((i.toNat - 0)+(a.length - j.toNat))))
 else none)
 else none)
 else none)
 else none)
 else none)
 else none)
 else none)
 else none)))
 else none)
def lW (N:Nat) (c d:Int) (e:Bool) (f:List Int) (g:Bool) (h:List Int) (i:Int) (j k:List Int)(l:List (List ab)) (m:List ab) (n:List ab) (x:Int) (a:Int->Int->Option (Bool×re×(List Int)×(List Int)×(List (List ab))×(List ab))) (b:Int):Option (Bool×re×(List Int)×(List Int)×(List (List ab))×(List ab)) :=
 a b (av (x+1))
def ig (N:Nat) (g h:Int) (c:List Int) (d:List ab) (j:Bool) (k:List Int) (l:Bool) (m:List Int) (i:Int)(b:(List Int)×(List Int)) (e:List (List ab)):Nat->(List ab)->Int->Option (Bool×re×(List Int)×(List Int)×(List (List ab))×(List ab))
 | 0,_,_=>none
 | fuel+1,f,a =>
  (cond (decide (a < (((List.replicate b.2.length ab.d:List ab).length:Nat):Int)))
  (((fc N 0).bind fun n =>
  (if 0<=a/\a < (f.length:Int) then
  ig N g h c d j k l m i b e fuel (f.set a.toNat n) (av (a+1))
  else none)))
  (((fc N 0).bind fun o =>
  some (true,(⟨g,h,c,b.2,e,d,f,o,i⟩:re),c,b.2,e,d))))
def ij (N:Nat) (e f:Int) (g:List Int)(h:List (List ab)) (i:List ab) (o:List ab) (j:Bool) (k:List Int) (l:Bool) (m:List Int) (n:Int) (d:Int) (b:(List Int)×(List Int)):Nat->(List (List ab))->Int->Option (Bool×re×(List Int)×(List Int)×(List (List ab))×(List ab))
 | 0,_,_=>none
 | fuel+1,c,a =>
  (cond (decide (a < (h.length:Int)))
  ((if a.toNat < c.length then
  (if 0<=a/\a < (c.length:Int) then
  ((qH N d (av (d+1)) (c.getD a.toNat [])).bind fun p =>
  ij N e f g h i o j k l m n d b fuel (c.set a.toNat p.2) (av (a+1)))
  else none)
  else none))
  ((if 0<=((b.2.length:Nat):Int)/\(64:Int) * ((b.2.length:Nat):Int)<=281474976710656/\((b.2.length:Nat):Int)<=9223372036854775807 then
  ig N e f g i j k l m n b c N (List.replicate b.2.length ab.d:List ab) 0
  else none)))
def lX (N:Nat) (e f:Int) (g b:List Int)(c:List (List ab)) (h:List ab) (i:List ab) (j:Bool) (k:List Int) (l:Bool) (m:List Int) (d:Int):Option (Bool×re×(List Int)×(List Int)×(List (List ab))×(List ab)) :=
 ((iS N b d).bind fun a =>
 ((mZ N a (av (a+1)) b).bind fun n =>
 ij N e f g c h i j k l m d a n N c 0))
def jX (N:Nat) (i j:Int) (d e:List Int)(b:List (List ab)) (f:List ab) (g:List ab) (k:Bool) (l:List Int) (m:Bool) (n:List Int) (h:Int):Option (Bool×re×(List Int)×(List Int)×(List (List ab))×(List ab)) :=
 ((iS N d h).bind fun c =>
 (cond (decide (c>=0))
 ((if c.toNat < b.length then
 (if 0<=c/\c < (b.length:Int) then
 ((nQ N (b.getD c.toNat [])).bind fun o =>
 ((mY N c o i j k l m n h d e b f g).bind fun a =>
 (if a.2.1.length=d.length then
 (if a.2.2.1.length=e.length then
 (if a.2.2.2.1.length=b.length then
 (if a.2.2.2.2.1.length=f.length then
 (if a.2.2.2.2.2.length=g.length then
 lX N a.1.HR a.1.HS a.2.1 a.2.2.1 a.2.2.2.1 a.2.2.2.2.1 a.2.2.2.2.2 a.1.bC.fN.fG a.1.bC.fN.fL a.1.bC.fD.fG a.1.bC.fD.fL a.1.eY
 else none)
 else none)
 else none)
 else none)
 else none)))
 else none)
 else none))
 (lX N i j d e b f g k l m n h)))
def cQ (N:Nat) (i j:Int) (k:Bool) (l:List Int) (m:Bool) (n:List Int) (o:Int) (f d:List Int)(g:List (List ab)) (c:List ab) (e:List ab):Nat->Int->Int->Option (Bool×re×(List Int)×(List Int)×(List (List ab))×(List ab))
 | 0,_,_=>none
 | fuel+1,low,x =>
  (cond (decide (x < (c.length:Int)))
  ((if 0<=x/\x < (c.length:Int) then
  ((l8 N (⟨((c.getD x.toNat ab.d).fN),((c.getD x.toNat ab.d).fD)⟩:ab)).bind fun h =>
  (if (((decide (h < 0)) && ((decide (h < 0)) && (!(decide (low < 0)))))=true->0<=x/\x < (c.length:Int)) then
  (if (((decide (h < 0)) && ((decide (h < 0)) && (!(decide (low < 0)))))=true->0<=low/\low < (c.length:Int)) then
  ((cond ((decide (h < 0)) && ((decide (h < 0)) && (!(decide (low < 0))))) (iQ N (⟨((c.getD x.toNat ab.d).fN),((c.getD x.toNat ab.d).fD)⟩:ab) (⟨((c.getD low.toNat ab.d).fN),((c.getD low.toNat ab.d).fD)⟩:ab)) (some 0)).bind fun q =>
  (cond (cond (decide (h < 0)) (cond (decide (low < 0)) true (decide (q < 0))) false)
  (lW N i j k l m n o f d g c e x (cQ N i j k l m n o f d g c e fuel) x)
  (lW N i j k l m n o f d g c e x (cQ N i j k l m n o f d g c e fuel) low)))
  else none)
  else none))
  else none))
  ((cond (decide (low>=0))
  (((fc N (-1)).bind fun p =>
  (if 0<=(av ((d.length:Int) - 1))/\(av ((d.length:Int) - 1)) < (e.length:Int) then
  ((mY N low (av ((d.length:Int) - 1)) i j k l m n o f d g c (e.set ((av ((d.length:Int) - 1)).toNat) p)).bind fun b =>
  (if b.2.1.length=f.length then
  (if b.2.2.1.length=d.length then
  (if b.2.2.2.1.length=g.length then
  (if b.2.2.2.2.1.length=c.length then
  (if b.2.2.2.2.2.length=(e.set ((av ((d.length:Int) - 1)).toNat) p).length then
  ((xw N b.1.HR b.1.HS b.1.bC.fN.fG b.1.bC.fN.fL b.1.bC.fD.fG b.1.bC.fD.fL b.1.eY b.2.1 b.2.2.1 b.2.2.2.1 b.2.2.2.2.1 b.2.2.2.2.2).bind fun a =>
  (if a.2.2.1.length=b.2.1.length then
  (if a.2.2.2.1.length=b.2.2.1.length then
  (if a.2.2.2.2.1.length=b.2.2.2.1.length then
  (if a.2.2.2.2.2.1.length=b.2.2.2.2.1.length then
  (if a.2.2.2.2.2.2.length=b.2.2.2.2.2.length then
  ((jv N a.2.1.bC).bind fun r =>
  (cond (!r)
  (some (false,(⟨a.2.1.HR,a.2.1.HS,a.2.2.1,a.2.2.2.1,a.2.2.2.2.1,a.2.2.2.2.2.1,a.2.2.2.2.2.2,a.2.1.bC,a.2.1.eY⟩:re),a.2.2.1,a.2.2.2.1,a.2.2.2.2.1,a.2.2.2.2.2.1))
  (jX N a.2.1.HR a.2.1.HS a.2.2.1 a.2.2.2.1 a.2.2.2.2.1 a.2.2.2.2.2.1 a.2.2.2.2.2.2 a.2.1.bC.fN.fG a.2.1.bC.fN.fL a.2.1.bC.fD.fG a.2.1.bC.fD.fL a.2.1.eY)))
  else none)
  else none)
  else none)
  else none)
  else none))
  else none)
  else none)
  else none)
  else none)
  else none))
  else none)))
  (jX N i j f d g c e k l m n o))))
def rN (N:Nat) (a b:Int) (c:Bool) (d:List Int) (e:Bool) (f:List Int) (g:Int) (h i:List Int)(j:List (List ab)) (k:List ab) (l:List ab):Option (Bool×re×(List Int)×(List Int)×(List (List ab))×(List ab)) :=
 cQ N a b c d e f g h i j k l N (-1) 0
def jw (N:Nat) (c d:Int) (e:Bool) (f:List Int) (g:Bool) (h:List Int) (i:Int) (j k:List Int)(l:List (List ab)) (m:List ab) (n:List ab) (x:Int) (a:(List ab)->Int->Option (List ab)) (b:List ab):Option (List ab) :=
 a b (av (x+1))
def du (N:Nat) (b c:Int) (f:Bool) (g:List Int) (h:Bool) (i:List Int) (j:Int) (k d:List Int)(l:List (List ab)) (m:List ab) (a:List ab):Nat->(List ab)->Int->Option (List ab)
 | 0,_,_=>none
 | fuel+1,out,x =>
  (cond (decide (x < (((List.replicate c.toNat ab.d:List ab).length:Nat):Int)))
  (((fc N 0).bind fun n =>
  (if 0<=x/\x < (out.length:Int) then
  ((iS N d (av ((av (2 * b))+x))).bind fun e =>
  (cond (decide (e>=0))
  ((if 0<=e/\e < (a.length:Int) then
  ((ke N (⟨((a.getD e.toNat ab.d).fN),((a.getD e.toNat ab.d).fD)⟩:ab)).bind fun o =>
  (if 0<=x/\x < (((out.set x.toNat n).length:Nat):Int) then
  jw N b c f g h i j k d l m a x (du N b c f g h i j k d l m a fuel) ((out.set x.toNat n).set x.toNat o)
  else none))
  else none))
  (jw N b c f g h i j k d l m a x (du N b c f g h i j k d l m a fuel) (out.set x.toNat n))))
  else none)))
  (some out))
def m6 (N:Nat) (b a:Int) (c:Bool) (d:List Int) (e:Bool) (f:List Int) (g:Int) (h i:List Int)(j:List (List ab)) (k:List ab) (l:List ab):Option (List ab) :=
 (if 0<=a/\(64:Int) * a<=281474976710656/\a<=9223372036854775807 then
 du N b a c d e f g h i j k l N (List.replicate a.toNat ab.d:List ab) 0
 else none)
def tL (N:Nat) (c f g:Int) (h:Bool) (i:List Int) (j:Bool) (k:List Int) (l:Int) (d m:List Int)(n:List (List ab)) (b:List ab) (o:List ab):Option ab :=
 ((iS N d c).bind fun a =>
 (cond (decide (a>=0))
 ((if 0<=a/\a < (b.length:Int) then
 some (⟨((b.getD a.toNat ab.d).fN),((b.getD a.toNat ab.d).fD)⟩:ab)
 else none))
 (((fc N 0).bind fun e =>
 some e))))
def iK (N:Nat) (a b:Int) (c:Bool) (d:List Int) (e:Bool) (f:List Int) (g:Int) (h i:List Int)(j:List (List ab)) (k:List ab) (l:List ab):Nat->(List ab)->Int->Option (List ab)
 | 0,_,_=>none
 | fuel+1,out,x =>
  (cond (decide (x < (((List.replicate a.toNat ab.d:List ab).length:Nat):Int)))
  (((tL N x a b c d e f g h i j k l).bind fun rat =>
  ((tL N (av (a+x)) a b c d e f g h i j k l).bind fun m =>
  ((gr N rat m).bind fun n =>
  (if 0<=x/\x < (out.length:Int) then
  iK N a b c d e f g h i j k l fuel (out.set x.toNat n) (av (x+1))
  else none)))))
  (some out))
def s9 (N:Nat) (a b:Int) (c:Bool) (d:List Int) (e:Bool) (f:List Int) (g:Int) (h i:List Int)(j:List (List ab)) (k:List ab) (l:List ab):Option (List ab) :=
 (if 0<=a/\(64:Int) * a<=281474976710656/\a<=9223372036854775807 then
 iK N a b c d e f g h i j k l N (List.replicate a.toNat ab.d:List ab) 0
 else none)
def xy (N:Nat) (n:Int) (l:List bw):Option ((List ab)×(List ab)×Int) :=
 ((qo N n l).bind fun c =>
 (cond (c != 0)
 (some (([]:List ab),([]:List ab),c))
 (((Jt N n l).bind fun b =>
 ((rN N b.HR b.HS b.bC.fN.fG b.bC.fN.fL b.bC.fD.fG b.bC.fD.fL b.eY b.Qr b.abI b.f_a b.f_b b.xg).bind fun a =>
 (if a.2.2.1.length=b.Qr.length then
 (if a.2.2.2.2.1.length=b.f_a.length then
 (if a.2.2.2.2.2.length=b.f_b.length then
 (cond (!a.1)
 (((m6 N a.2.1.HR a.2.1.HS a.2.1.bC.fN.fG a.2.1.bC.fN.fL a.2.1.bC.fD.fG a.2.1.bC.fD.fL a.2.1.eY a.2.2.1 a.2.2.2.1 a.2.2.2.2.1 a.2.2.2.2.2 a.2.1.xg).bind fun d =>
 some (([]:List ab),d,29)))
 (((s9 N a.2.1.HR a.2.1.HS a.2.1.bC.fN.fG a.2.1.bC.fN.fL a.2.1.bC.fD.fG a.2.1.bC.fD.fL a.2.1.eY a.2.2.1 a.2.2.2.1 a.2.2.2.2.1 a.2.2.2.2.2 a.2.1.xg).bind fun e =>
 some (e,([]:List ab),0))))
 else none)
 else none)
 else none))))))
def rO (N:Nat):Nat->Int->(List Int)->Option (List Int)
 | 0,_,_=>none
 | fuel+1,a,out =>
  (cond (decide (a > 0))
  ((if (out.length+1) * 2<=140737488355328 then
  rO N fuel (iU .u64 a 16) (out ++ ([(IntKind.u16.wrap ((Zw .u64 a 65535)))]:List Int))
  else none))
  (some out))
def Bw (N:Nat) (n:Int):Option (List Int) :=
 rO N N n ([]:List Int)
def VC (N:Nat) (n:Int):Option cj :=
 (cond (decide (n < 0))
 (((Bw N (IntKind.u64.wrap ((IntKind.u64.wrap ((av (0 - (av (n+1))))))+1))).bind fun a =>
 some (⟨true,a⟩:cj)))
 (((Bw N (IntKind.u64.wrap n)).bind fun b =>
 some (⟨false,b⟩:cj))))
def sm (N:Nat) (n:Int):Option ab :=
 ((VC N n).bind fun b =>
 ((VC N 1).bind fun a =>
 some (⟨b,a⟩:ab)))
def wv (N:Nat) (l:List Int):Nat->(List ab)->Int->Option (List ab)
 | 0,_,_=>none
 | fuel+1,out,i =>
  (cond (decide (i < (l.length:Int)))
  ((if 0<=i/\i < (l.length:Int) then
  ((sm N (l.getD i.toNat 0)).bind fun a =>
  (if (out.length+1) * 64<=140737488355328 then
  wv N l fuel (out ++ ([a]:List ab)) (av (i+1))
  else none))
  else none))
  (some out))
def KD (N:Nat) (l:List Int):Option (List ab) :=
 wv N l N ([]:List ab) 0
def ao (N:Nat) (n:Int):Option ab :=
 ((Kz N n).bind fun rOf =>
 ((yD N rOf).bind fun a =>
 some a))
def m7 (N:Nat) (x:ab) (n:Int):Option Bool :=
 ((ao N (av (0 - n))).bind fun b =>
 ((iQ N x b).bind fun a =>
 ((cond (!(decide (a < 0))) (ao N n) (some ab.d)).bind fun c =>
 ((cond (!(decide (a < 0))) (iQ N x c) (some 0)).bind fun d =>
 some (cond (decide (a < 0)) true (decide (d > 0)))))))
def BP (N:Nat) (x:Int):Option Bool :=
 some (cond (decide (x < (-1000000))) true (decide (x > 1000000)))
def jQ (N:Nat) (c:cO):Nat->Int->Option Int
 | 0,_=>none
 | fuel+1,x =>
  (cond (decide (x < (c.ah.length:Int)))
  ((if 0<=x/\x < (c.ah.length:Int) then
  (if ((!(cond (decide ((c.ah.getD x.toNat 0) < (-10000000))) true (decide ((c.ah.getD x.toNat 0) > 10000000))))=true->0<=x/\x < (c.aA.length:Int)) then
  ((cond (!(cond (decide ((c.ah.getD x.toNat 0) < (-10000000))) true (decide ((c.ah.getD x.toNat 0) > 10000000)))) (l8 N (⟨((c.aA.getD x.toNat ab.d).fN),((c.aA.getD x.toNat ab.d).fD)⟩:ab)) (some 0)).bind fun a =>
  (cond (cond (cond (decide ((c.ah.getD x.toNat 0) < (-10000000))) true (decide ((c.ah.getD x.toNat 0) > 10000000))) true (decide (a < 0)))
  (some 2)
  ((if ((decide (x > 0))=true->0<=(av (x - 1))/\(av (x - 1)) < (c.ah.length:Int)) then
  (cond (cond (decide (x > 0)) (decide ((c.ah.getD x.toNat 0)<=(c.ah.getD ((av (x - 1)).toNat) 0))) false)
  (some 10)
  (jQ N c fuel (av (x+1))))
  else none))))
  else none)
  else none))
  (some 0))
def mD (N:Nat) (c:cO):Option Int :=
 (cond (decide ((c.ah.length:Int) > 40))
 (some 8)
 ((cond ((c.aA.length:Int) != (c.ah.length:Int))
 (some 11)
 (jQ N c N 0))))
def iv (N:Nat) (l:List af):Nat->Int->Option Int
 | 0,_=>none
 | fuel+1,x =>
  (cond (decide (x < (l.length:Int)))
  ((if 0<=x/\x < (l.length:Int) then
  ((BP N ((l.getD x.toNat af.d).z9)).bind fun a =>
  ((cond (!a) (m7 N (⟨(((l.getD x.toNat af.d).Rp).fN),(((l.getD x.toNat af.d).Rp).fD)⟩:ab) 10000000) (some false)).bind fun c =>
  (cond (cond a true c)
  (some 2)
  (((mD N ((l.getD x.toNat af.d).aY)).bind fun b =>
  (cond (b != 0)
  (some b)
  (iv N l fuel (av (x+1)))))))))
  else none))
  (some 0))
def ow (N:Nat) (l:List af):Option Int :=
 (cond (decide ((l.length:Int) > 100))
 (some 8)
 (iv N l N 0))
def gR (N:Nat) (b:cW):Option Int :=
 ((cond (!(cond (decide (b.dW < 1)) true (decide (b.dW > 1000000000)))) (m7 N b.BH 1000000) (some false)).bind fun a =>
 (cond (cond (cond (decide (b.dW < 1)) true (decide (b.dW > 1000000000))) true a)
 (some 2)
 (((ow N b.ag).bind fun c =>
 some c))))
def dY (N:Nat) (x:ab):Option Int :=
 ((iQ N x (⟨(⟨false,([]:List Int)⟩:cj),(⟨false,([]:List Int)⟩:cj)⟩:ab)).bind fun a =>
 some a)
def pJ (N:Nat) (c:cO) (x:Int)(a:ab->Int->Option (ab×Bool×Int)) (b:ab):Option (ab×Bool×Int) :=
 a b (av (x+1))
def iw (N:Nat) (c:cO):Nat->ab->Int->Option (ab×Bool×Int)
 | 0,_,_=>none
 | fuel+1,sum,x =>
  (cond (decide (x < (c.ah.length:Int)))
  ((if 0<=x/\x < (c.ah.length:Int) then
  (cond (decide ((av (x+1)) < (c.ah.length:Int)))
  ((if 0<=x/\x < (c.aA.length:Int) then
  (if 0<=(av (x+1))/\(av (x+1)) < (c.ah.length:Int) then
  ((fc N (av ((c.ah.getD ((av (x+1)).toNat) 0) - (c.ah.getD x.toNat 0)))).bind fun a =>
  ((bR N (⟨((c.aA.getD x.toNat ab.d).fN),((c.aA.getD x.toNat ab.d).fD)⟩:ab) a).bind fun b =>
  ((bG N sum b).bind fun d =>
  pJ N c x (iw N c fuel) d)))
  else none)
  else none))
  ((if 0<=x/\x < (c.aA.length:Int) then
  ((jv N (⟨((c.aA.getD x.toNat ab.d).fN),((c.aA.getD x.toNat ab.d).fD)⟩:ab)).bind fun e =>
  (cond (!e)
  (some ((⟨(⟨false,([]:List Int)⟩:cj),(⟨false,([]:List Int)⟩:cj)⟩:ab),false,0))
  (pJ N c x (iw N c fuel) sum)))
  else none)))
  else none))
  (some (sum,true,0)))
def xz (N:Nat) (c:cO):Option (ab×Bool×Int) :=
 ((mD N c).bind fun a =>
 (cond (a != 0)
 (some ((⟨(⟨false,([]:List Int)⟩:cj),(⟨false,([]:List Int)⟩:cj)⟩:ab),false,a))
 (((fc N 0).bind fun b =>
 iw N c N b 0))))
def jh (N:Nat) (l:List af) (c:az) (x:Int)(a:ab->Int->Option (ab×Bool)) (b:ab):Option (ab×Bool) :=
 a b (av (x+1))
def dE (N:Nat) (l:List af) (a:az):Nat->ab->Int->Option (ab×Bool)
 | 0,_,_=>none
 | fuel+1,sum,x =>
  (cond (decide (x < (l.length:Int)))
  ((if 0<=x/\x < (l.length:Int) then
  ((ao N ((l.getD x.toNat af.d).z9)).bind fun d =>
  ((bR N a.f_B d).bind fun e =>
  ((bG N a.f_A e).bind fun b =>
  ((dY N b).bind fun dL =>
  (cond (decide (dL<=0))
  (jh N l a x (dE N l a fuel) sum)
  (((xz N ((l.getD x.toNat af.d).aY)).bind fun c =>
  (cond (!c.2.1)
  (some ((⟨(⟨false,([]:List Int)⟩:cj),(⟨false,([]:List Int)⟩:cj)⟩:ab),false))
  (((bR N c.1 b).bind fun f =>
  ((bG N sum f).bind fun g =>
  jh N l a x (dE N l a fuel) g)))))))))))
  else none))
  (some (sum,true)))
def uk (N:Nat) (l:List af) (a:az):Option (ab×Bool) :=
 ((ao N 0).bind fun b =>
 dE N l a N b 0)
def tc (N:Nat) (weight:Int) (b:ab) (a:az):Option ab :=
 ((ao N weight).bind fun c =>
 ((bR N a.f_B b).bind fun d =>
 ((bG N a.f_A d).bind fun e =>
 ((bR N c e).bind fun f =>
 some f))))
def kA (N:Nat) (b:cW) (c:az):Option Bool :=
 ((uk N b.ag c).bind fun a =>
 ((cond a.2 (tc N b.dW b.BH c) (some ab.d)).bind fun d =>
 ((cond a.2 (iQ N a.1 d) (some 0)).bind fun e =>
 some (cond a.2 (decide (e < 0)) false))))
def p8 (N:Nat) (a b:Int):Option Int :=
 (if 0<=(IntKind.u8.wrap a)/\(IntKind.u8.wrap a) < (((⟨#[0,1,2,2,3,3,3,3,4,4,4,4,4,4,4,4,5,5,5,5,5,5,5,5,5,5,5,5,5,5,5,5,6,6,6,6,6,6,6,6,6,6,6,6,6,6,6,6,6,6,6,6,6,6,6,6,6,6,6,6,6,6,6,6,7,7,7,7,7,7,7,7,7,7,7,7,7,7,7,7,7,7,7,7,7,7,7,7,7,7,7,7,7,7,7,7,7,7,7,7,7,7,7,7,7,7,7,7,7,7,7,7,7,7,7,7,7,7,7,7,7,7,7,7,7,7,7,7,8,8,8,8,8,8,8,8,8,8,8,8,8,8,8,8,8,8,8,8,8,8,8,8,8,8,8,8,8,8,8,8,8,8,8,8,8,8,8,8,8,8,8,8,8,8,8,8,8,8,8,8,8,8,8,8,8,8,8,8,8,8,8,8,8,8,8,8,8,8,8,8,8,8,8,8,8,8,8,8,8,8,8,8,8,8,8,8,8,8,8,8,8,8,8,8,8,8,8,8,8,8,8,8,8,8,8,8,8,8,8,8,8,8,8,8,8,8,8,8,8,8,8,8,8,8,8,8]⟩:ByteArray).size:Nat):Int) then
 some (av (b+(av ((HF (⟨#[0,1,2,2,3,3,3,3,4,4,4,4,4,4,4,4,5,5,5,5,5,5,5,5,5,5,5,5,5,5,5,5,6,6,6,6,6,6,6,6,6,6,6,6,6,6,6,6,6,6,6,6,6,6,6,6,6,6,6,6,6,6,6,6,7,7,7,7,7,7,7,7,7,7,7,7,7,7,7,7,7,7,7,7,7,7,7,7,7,7,7,7,7,7,7,7,7,7,7,7,7,7,7,7,7,7,7,7,7,7,7,7,7,7,7,7,7,7,7,7,7,7,7,7,7,7,7,7,8,8,8,8,8,8,8,8,8,8,8,8,8,8,8,8,8,8,8,8,8,8,8,8,8,8,8,8,8,8,8,8,8,8,8,8,8,8,8,8,8,8,8,8,8,8,8,8,8,8,8,8,8,8,8,8,8,8,8,8,8,8,8,8,8,8,8,8,8,8,8,8,8,8,8,8,8,8,8,8,8,8,8,8,8,8,8,8,8,8,8,8,8,8,8,8,8,8,8,8,8,8,8,8,8,8,8,8,8,8,8,8,8,8,8,8,8,8,8,8,8,8,8,8,8,8,8,8]⟩:ByteArray) ((IntKind.u8.wrap a).toNat))))))
 else none)
def p9 (N:Nat) (a b:Int):Option Int :=
 (cond (decide (a>=256))
 (p8 N (iU .u64 a 8) (av (b+8)))
 (p8 N a b))
def qa (N:Nat) (a n:Int):Option Int :=
 (cond (decide (a>=65536))
 (p9 N (iU .u64 a 16) (av (n+16)))
 (p9 N a n))
def xB (N:Nat) (x:Int):Option Int :=
 (cond (decide (x>=4294967296))
 (qa N (iU .u64 x 32) 32)
 (qa N x 0))
def vF (N:Nat) (x:Int):Option Int :=
 ((xB N x).bind fun a =>
 some a)
def sn (N:Nat) (x:Int):Option Bool :=
 some (x != x)
def tN (N:Nat) (x y:Int):Option Bool :=
 ((sn N x).bind fun a =>
 ((cond a (sn N y) (some false)).bind fun b =>
 some (cond (cond a (!b) false) true (decide (x < y)))))
def ca (N:Nat) (a b i:Int)(e:(List Int)->Int->Option (List Int)):Nat->(List Int)->Int->Option (List Int)
 | 0,_,_=>none
 | fuel+1,c,j =>
  (if ((decide (j > a))=true->0<=j/\j < (c.length:Int)) then
  (if ((decide (j > a))=true->0<=(av (j - 1))/\(av (j - 1)) < (c.length:Int)) then
  ((cond (decide (j > a)) (tN N (c.getD j.toNat 0) (c.getD ((av (j - 1)).toNat) 0)) (some false)).bind fun d =>
  (cond (cond (decide (j > a)) d false)
  ((if 0<=(av (j - 1))/\(av (j - 1)) < (c.length:Int) then
  (if 0<=j/\j < (c.length:Int) then
  ca N a b i e fuel ((c.set j.toNat (c.getD ((av (j - 1)).toNat) 0)).set ((av (j - 1)).toNat) (c.getD j.toNat 0)) (av (j - 1))
  else none)
  else none))
  (e c (av (i+1)))))
  else none)
  else none)
def cN (N:Nat) (a b:Int):Nat->(List Int)->Int->Option (List Int)
 | 0,_,_=>none
 | fuel+1,c,i =>
  (cond (decide (i < b))
  (ca N a b i (cN N a b fuel) N c i)
  (some c))
def gA (N:Nat) (a b:Int) (c:List Int):Option (List Int) :=
 cN N a b N c (av (a+1))
def iA (N:Nat) (a b e:Int) (c:List Int):Nat->Option (List Int)
 | 0=>none
 | fuel+1 =>
  (cond (decide ((av (b - a))<=12))
  (((gA N a b c).bind fun d =>
  (if d.length=c.length then
  some d
  else none)))
  ((cond (e == 0)
  (none)
  ((cond (!true)
  (none)
  (none))))))
def kN (N:Nat) (a b c:Int) (d:List Int):Option (List Int) :=
 iA N a b c d N
def lZ (N:Nat) (a:List Int):Option (List Int) :=
 ((vF N (IntKind.u64.wrap ((a.length:Int)))).bind fun b =>
 ((kN N 0 (a.length:Int) b a).bind fun c =>
 (if c.length=a.length then
 some c
 else none)))
def hO (N:Nat) (e:List Int) (k a:Int)(b:(List Int)->Int->Int->Option ((List Int)×(List Int))) (f:Int->Option ((List Int)×(List Int))) (c:List Int) (d:Int):Option ((List Int)×(List Int)) :=
 b c d (av (a+1))
def b6 (N:Nat) (d:List Int) (k:Int)(e:Int->Option ((List Int)×(List Int))):Nat->(List Int)->Int->Int->Option ((List Int)×(List Int))
 | 0,_,_,_=>none
 | fuel+1,a,b,c =>
  (cond (decide (c < (((d.length - k.toNat):Nat):Int)))
  ((if 0<=c/\c < (((d.length - k.toNat):Nat):Int) then
  (if k.toNat<=d.length/\d.length<=a.length then
  (if 0<=(av (c - 1))/\(av (c - 1)) < (((d.length - k.toNat):Nat):Int) then
  (cond ((a.getD (eu k.toNat c.toNat) 0) != (a.getD (eu k.toNat (av (c - 1)).toNat) 0))
  ((if 0<=b/\b < (a.length:Int) then
  hO N d k c (b6 N d k e fuel) e (a.set b.toNat (a.getD (eu k.toNat c.toNat) 0)) (av (b+1))
  else none))
  (hO N d k c (b6 N d k e fuel) e a b))
  else none)
  else none)
  else none))
  ((if b.toNat<=a.length/\a.length<=a.length then
  (if 0<=b then
  (if 0 < (a.length - b.toNat)/\(b).toNat+(a.length - b.toNat)<=a.length then
  (if 0<=(b).toNat/\(b).toNat<=a.length then
  some ((a.take b.toNat),(a.take b.toNat))
  else none)
  else none)
  else none)
  else none)))
def cz (N:Nat) (a:List Int):Nat->Int->Option ((List Int)×(List Int))
 | 0,_=>none
 | fuel+1,k =>
  (cond (decide (k < (a.length:Int)))
  ((if 0<=k/\k < (a.length:Int) then
  (if 0<=(av (k - 1))/\(av (k - 1)) < (a.length:Int) then
  (cond ((a.getD k.toNat 0) == (a.getD ((av (k - 1)).toNat) 0))
  ((if k.toNat<=a.length/\a.length<=a.length then
  (if 0<=k then
  b6 N a k (cz N a fuel) N a k 1
  else none)
  else none))
  (cz N a fuel (av (k+1))))
  else none)
  else none))
  (some (a,a)))
def j9 (N:Nat) (a:List Int):Option ((List Int)×(List Int)) :=
 (cond (decide ((a.length:Int) < 2))
 (some (a,a))
 (cz N a N 1))
def iL (N:Nat) (l:List af):Nat->(List Int)->Int->Option (List Int)
 | 0,_,_=>none
 | fuel+1,out,x =>
  (cond (decide (x < (l.length:Int)))
  ((if 0<=x/\x < (l.length:Int) then
  (if (out.length+1) * 8<=140737488355328 then
  iL N l fuel (out ++ ([(l.getD x.toNat af.d).z9]:List Int)) (av (x+1))
  else none)
  else none))
  (((lZ N out).bind fun a =>
  (if a.length=out.length then
  ((j9 N a).bind fun b =>
  some b.2)
  else none))))
def qc (N:Nat) (l:List af):Option (List Int) :=
 iL N l N ([]:List Int) 0
def ik (N:Nat)(b:(List Int)):Nat->(List az)->Int->Option (List az)
 | 0,_,_=>none
 | fuel+1,c,a =>
  (cond (decide (a < (b.length:Int)))
  ((if 0<=a/\a < (b.length:Int) then
  ((ao N (b.getD a.toNat 0)).bind fun d =>
  ((ao N (-1)).bind fun e =>
  (if (c.length+1) * 128<=140737488355328 then
  ik N b fuel (c ++ ([(⟨d,e⟩:az)]:List az)) (av (a+1))
  else none)))
  else none))
  (some c))
def il (N:Nat) (l:List af)(a:(List Int)):Nat->(List az)->Int->Option (List az)
 | 0,_,_=>none
 | fuel+1,out,x =>
  (cond (decide (x < (a.length:Int)))
  ((if 0<=x/\x < (a.length:Int) then
  ((ao N (av (0 - (a.getD x.toNat 0)))).bind fun b =>
  ((ao N 1).bind fun c =>
  (if (out.length+1) * 128<=140737488355328 then
  il N l a fuel (out ++ ([(⟨b,c⟩:az)]:List az)) (av (x+1))
  else none)))
  else none))
  (((qc N l).bind fun d =>
  ik N d N out 0)))
def oS (N:Nat) (l:List af):Option (List az) :=
 ((qc N l).bind fun a =>
 il N l a N ([]:List az) 0)
def fC (N:Nat) (b:cW)(a:(List az)):Nat->Int->Option (az×Int)
 | 0,_=>none
 | fuel+1,x =>
  (cond (decide (x < (a.length:Int)))
  ((if 0<=x/\x < (a.length:Int) then
  ((kA N b (⟨(⟨(((a.getD x.toNat az.d).f_A).fN),(((a.getD x.toNat az.d).f_A).fD)⟩:ab),(⟨(((a.getD x.toNat az.d).f_B).fN),(((a.getD x.toNat az.d).f_B).fD)⟩:ab)⟩:az)).bind fun c =>
  (cond c
  (some ((⟨(⟨(((a.getD x.toNat az.d).f_A).fN),(((a.getD x.toNat az.d).f_A).fD)⟩:ab),(⟨(((a.getD x.toNat az.d).f_B).fN),(((a.getD x.toNat az.d).f_B).fD)⟩:ab)⟩:az),13))
  (fC N b a fuel (av (x+1)))))
  else none))
  (some ((⟨(⟨(⟨false,([]:List Int)⟩:cj),(⟨false,([]:List Int)⟩:cj)⟩:ab),(⟨(⟨false,([]:List Int)⟩:cj),(⟨false,([]:List Int)⟩:cj)⟩:ab)⟩:az),0)))
def oU (N:Nat) (b:cW):Option (az×Int) :=
 ((ao N 1).bind fun a =>
 ((ao N 0).bind fun c =>
 ((kA N b (⟨a,c⟩:az)).bind fun d =>
 (cond d
 (some ((⟨a,c⟩:az),12))
 (((oS N b.ag).bind fun e =>
 fC N b e N 0))))))
def eF (N:Nat) (a b:aa):Option Int :=
 ((iQ N a.np b.np).bind fun c =>
 some c)
def bJ (N:Nat) (a b i:Int)(d:(List aa)->Int->Option (List aa)):Nat->(List aa)->Int->Option (List aa)
 | 0,_,_=>none
 | fuel+1,c,j =>
  (if ((decide (j > a))=true->0<=j/\j < (c.length:Int)) then
  (if ((decide (j > a))=true->0<=(av (j - 1))/\(av (j - 1)) < (c.length:Int)) then
  ((cond (decide (j > a)) (eF N (⟨(⟨(((c.getD j.toNat aa.d).np).fN),(((c.getD j.toNat aa.d).np).fD)⟩:ab),(⟨(((c.getD j.toNat aa.d).cZ).fN),(((c.getD j.toNat aa.d).cZ).fD)⟩:ab)⟩:aa) (⟨(⟨(((c.getD ((av (j - 1)).toNat) aa.d).np).fN),(((c.getD ((av (j - 1)).toNat) aa.d).np).fD)⟩:ab),(⟨(((c.getD ((av (j - 1)).toNat) aa.d).cZ).fN),(((c.getD ((av (j - 1)).toNat) aa.d).cZ).fD)⟩:ab)⟩:aa)) (some 0)).bind fun e =>
  (cond (cond (decide (j > a)) (decide (e < 0)) false)
  ((if 0<=(av (j - 1))/\(av (j - 1)) < (c.length:Int) then
  (if 0<=j/\j < (c.length:Int) then
  bJ N a b i d fuel ((c.set j.toNat (⟨(⟨(((c.getD ((av (j - 1)).toNat) aa.d).np).fN),(((c.getD ((av (j - 1)).toNat) aa.d).np).fD)⟩:ab),(⟨(((c.getD ((av (j - 1)).toNat) aa.d).cZ).fN),(((c.getD ((av (j - 1)).toNat) aa.d).cZ).fD)⟩:ab)⟩:aa)).set ((av (j - 1)).toNat) (⟨(⟨(((c.getD j.toNat aa.d).np).fN),(((c.getD j.toNat aa.d).np).fD)⟩:ab),(⟨(((c.getD j.toNat aa.d).cZ).fN),(((c.getD j.toNat aa.d).cZ).fD)⟩:ab)⟩:aa)) (av (j - 1))
  else none)
  else none))
  (d c (av (i+1)))))
  else none)
  else none)
def b7 (N:Nat) (a b:Int):Nat->(List aa)->Int->Option (List aa)
 | 0,_,_=>none
 | fuel+1,c,i =>
  (cond (decide (i < b))
  (bJ N a b i (b7 N a b fuel) N c i)
  (some c))
def eI (N:Nat) (a b:Int) (c:List aa):Option (List aa) :=
 b7 N a b N c (av (a+1))
def df (N:Nat) (a b n:Int):Nat->(List aa)->Int->Option (List aa)
 | 0,_,_=>none
 | fuel+1,c,i =>
  (cond (decide (i < n))
  ((if 0<=(av (b+i))/\(av (b+i)) < (c.length:Int) then
  (if 0<=(av (a+i))/\(av (a+i)) < (c.length:Int) then
  df N a b n fuel ((c.set ((av (a+i)).toNat) (⟨(⟨(((c.getD ((av (b+i)).toNat) aa.d).np).fN),(((c.getD ((av (b+i)).toNat) aa.d).np).fD)⟩:ab),(⟨(((c.getD ((av (b+i)).toNat) aa.d).cZ).fN),(((c.getD ((av (b+i)).toNat) aa.d).cZ).fD)⟩:ab)⟩:aa)).set ((av (b+i)).toNat) (⟨(⟨(((c.getD ((av (a+i)).toNat) aa.d).np).fN),(((c.getD ((av (a+i)).toNat) aa.d).np).fD)⟩:ab),(⟨(((c.getD ((av (a+i)).toNat) aa.d).cZ).fN),(((c.getD ((av (a+i)).toNat) aa.d).cZ).fD)⟩:ab)⟩:aa)) (av (i+1))
  else none)
  else none))
  (some c))
def fW (N:Nat) (a b n:Int) (c:List aa):Option (List aa) :=
 df N a b n N c 0
def cJ (N:Nat) (m:Int):Nat->(List aa)->Int->Int->Option (List aa)
 | 0,_,_,_=>none
 | fuel+1,a,i,j =>
  (cond (i != j)
  ((cond (decide (i > j))
  (((fW N (av (m - i)) m j a).bind fun b =>
  (if b.length=a.length then
  cJ N m fuel b (av (i - j)) j
  else none)))
  (((fW N (av (m - i)) (av ((av (m+j)) - i)) i a).bind fun c =>
  (if c.length=a.length then
  cJ N m fuel c i (av (j - i))
  else none)))))
  (((fW N (av (m - i)) m i a).bind fun d =>
  (if d.length=a.length then
  some d
  else none))))
def eE (N:Nat) (a m b:Int) (c:List aa):Option (List aa) :=
 cJ N m N c (av (m - a)) (av (b - m))
def cm (N:Nat) (i:Int)(b:Int->Int->Int->(List aa)->Option (List aa)):Nat->(List aa)->Int->Option (List aa)
 | 0,_,_=>none
 | fuel+1,a,k =>
  (cond (decide (k < (av (i - 1))))
  ((if 0<=(av (k+1))/\(av (k+1)) < (a.length:Int) then
  (if 0<=k/\k < (a.length:Int) then
  cm N i b fuel ((a.set k.toNat (⟨(⟨(((a.getD ((av (k+1)).toNat) aa.d).np).fN),(((a.getD ((av (k+1)).toNat) aa.d).np).fD)⟩:ab),(⟨(((a.getD ((av (k+1)).toNat) aa.d).cZ).fN),(((a.getD ((av (k+1)).toNat) aa.d).cZ).fD)⟩:ab)⟩:aa)).set ((av (k+1)).toNat) (⟨(⟨(((a.getD k.toNat aa.d).np).fN),(((a.getD k.toNat aa.d).np).fD)⟩:ab),(⟨(((a.getD k.toNat aa.d).cZ).fN),(((a.getD k.toNat aa.d).cZ).fD)⟩:ab)⟩:aa)) (av (k+1))
  else none)
  else none))
  (some a))
def cu (N:Nat) (a:Int) (b:List aa)(c:Int->Int->Int->(List aa)->Option (List aa)):Nat->Int->Int->Option (List aa)
 | 0,_,_=>none
 | fuel+1,i,j =>
  (cond (decide (i < j))
  ((if 0<=(av ((iU .u64 (IntKind.u64.wrap ((av (i+j)))) 1)))/\(av ((iU .u64 (IntKind.u64.wrap ((av (i+j)))) 1))) < (b.length:Int) then
  (if 0<=a/\a < (b.length:Int) then
  ((eF N (⟨(⟨(((b.getD ((av ((iU .u64 (IntKind.u64.wrap ((av (i+j)))) 1))).toNat) aa.d).np).fN),(((b.getD ((av ((iU .u64 (IntKind.u64.wrap ((av (i+j)))) 1))).toNat) aa.d).np).fD)⟩:ab),(⟨(((b.getD ((av ((iU .u64 (IntKind.u64.wrap ((av (i+j)))) 1))).toNat) aa.d).cZ).fN),(((b.getD ((av ((iU .u64 (IntKind.u64.wrap ((av (i+j)))) 1))).toNat) aa.d).cZ).fD)⟩:ab)⟩:aa) (⟨(⟨(((b.getD a.toNat aa.d).np).fN),(((b.getD a.toNat aa.d).np).fD)⟩:ab),(⟨(((b.getD a.toNat aa.d).cZ).fN),(((b.getD a.toNat aa.d).cZ).fD)⟩:ab)⟩:aa)).bind fun d =>
  (cond (decide (d < 0))
  (cu N a b c fuel (av ((av ((iU .u64 (IntKind.u64.wrap ((av (i+j)))) 1)))+1)) j)
  (cu N a b c fuel i (av ((iU .u64 (IntKind.u64.wrap ((av (i+j)))) 1))))))
  else none)
  else none))
  (cm N i c N b a))
def cw (N:Nat) (c:Int)(d:Int->Int->Int->(List aa)->Option (List aa)):Nat->(List aa)->Int->Option (List aa)
 | 0,_,_=>none
 | fuel+1,b,a =>
  (cond (decide (a > c))
  ((if 0<=(av (a - 1))/\(av (a - 1)) < (b.length:Int) then
  (if 0<=a/\a < (b.length:Int) then
  cw N c d fuel ((b.set a.toNat (⟨(⟨(((b.getD ((av (a - 1)).toNat) aa.d).np).fN),(((b.getD ((av (a - 1)).toNat) aa.d).np).fD)⟩:ab),(⟨(((b.getD ((av (a - 1)).toNat) aa.d).cZ).fN),(((b.getD ((av (a - 1)).toNat) aa.d).cZ).fD)⟩:ab)⟩:aa)).set ((av (a - 1)).toNat) (⟨(⟨(((b.getD a.toNat aa.d).np).fN),(((b.getD a.toNat aa.d).np).fD)⟩:ab),(⟨(((b.getD a.toNat aa.d).cZ).fN),(((b.getD a.toNat aa.d).cZ).fD)⟩:ab)⟩:aa)) (av (a - 1))
  else none)
  else none))
  (some b))
def cx (N:Nat) (m:Int) (a:List aa)(d:Int->Int->Int->(List aa)->Option (List aa)):Nat->Int->Int->Option (List aa)
 | 0,_,_=>none
 | fuel+1,b,c =>
  (cond (decide (b < c))
  ((if 0<=m/\m < (a.length:Int) then
  (if 0<=(av ((iU .u64 (IntKind.u64.wrap ((av (b+c)))) 1)))/\(av ((iU .u64 (IntKind.u64.wrap ((av (b+c)))) 1))) < (a.length:Int) then
  ((eF N (⟨(⟨(((a.getD m.toNat aa.d).np).fN),(((a.getD m.toNat aa.d).np).fD)⟩:ab),(⟨(((a.getD m.toNat aa.d).cZ).fN),(((a.getD m.toNat aa.d).cZ).fD)⟩:ab)⟩:aa) (⟨(⟨(((a.getD ((av ((iU .u64 (IntKind.u64.wrap ((av (b+c)))) 1))).toNat) aa.d).np).fN),(((a.getD ((av ((iU .u64 (IntKind.u64.wrap ((av (b+c)))) 1))).toNat) aa.d).np).fD)⟩:ab),(⟨(((a.getD ((av ((iU .u64 (IntKind.u64.wrap ((av (b+c)))) 1))).toNat) aa.d).cZ).fN),(((a.getD ((av ((iU .u64 (IntKind.u64.wrap ((av (b+c)))) 1))).toNat) aa.d).cZ).fD)⟩:ab)⟩:aa)).bind fun e =>
  (cond (!(decide (e < 0)))
  (cx N m a d fuel (av ((av ((iU .u64 (IntKind.u64.wrap ((av (b+c)))) 1)))+1)) c)
  (cx N m a d fuel b (av ((iU .u64 (IntKind.u64.wrap ((av (b+c)))) 1))))))
  else none)
  else none))
  (cw N b d N a m))
def dT (N:Nat) (a m b c:Int)(f:Int->Int->Int->(List aa)->Option (List aa)) (d:List aa):Option (List aa) :=
 (cond (cond (decide ((av ((iU .u64 (IntKind.u64.wrap ((av (a+b)))) 1))) < (av ((av ((av ((iU .u64 (IntKind.u64.wrap ((av (a+b)))) 1)))+m)) - c)))) (decide ((av ((av ((av ((iU .u64 (IntKind.u64.wrap ((av (a+b)))) 1)))+m)) - c)) < b)) false)
 (((f (av ((iU .u64 (IntKind.u64.wrap ((av (a+b)))) 1))) (av ((av ((av ((iU .u64 (IntKind.u64.wrap ((av (a+b)))) 1)))+m)) - c)) b d).bind fun e =>
 (if e.length=d.length then
 some e
 else none)))
 (some d))
def bU (N:Nat) (a m b c:Int)(d:Int->Int->Int->(List aa)->Option (List aa)) (e:List aa):Option (List aa) :=
 (cond (cond (decide (a < c)) (decide (c < (av ((iU .u64 (IntKind.u64.wrap ((av (a+b)))) 1))))) false)
 (((d a c (av ((iU .u64 (IntKind.u64.wrap ((av (a+b)))) 1))) e).bind fun f =>
 (if f.length=e.length then
 dT N a m b c d f
 else none)))
 (dT N a m b c d e))
def bV (N:Nat) (a m b:Int) (e:List aa)(f:Int->Int->Int->(List aa)->Option (List aa)):Nat->Int->Int->Option (List aa)
 | 0,_,_=>none
 | fuel+1,c,d =>
  (cond (decide (c < d))
  ((if 0<=(av ((av ((av ((av ((iU .u64 (IntKind.u64.wrap ((av (a+b)))) 1)))+m)) - 1)) - (av ((iU .u64 (IntKind.u64.wrap ((av (c+d)))) 1)))))/\(av ((av ((av ((av ((iU .u64 (IntKind.u64.wrap ((av (a+b)))) 1)))+m)) - 1)) - (av ((iU .u64 (IntKind.u64.wrap ((av (c+d)))) 1))))) < (e.length:Int) then
  (if 0<=(av ((iU .u64 (IntKind.u64.wrap ((av (c+d)))) 1)))/\(av ((iU .u64 (IntKind.u64.wrap ((av (c+d)))) 1))) < (e.length:Int) then
  ((eF N (⟨(⟨(((e.getD ((av ((av ((av ((av ((iU .u64 (IntKind.u64.wrap ((av (a+b)))) 1)))+m)) - 1)) - (av ((iU .u64 (IntKind.u64.wrap ((av (c+d)))) 1))))).toNat) aa.d).np).fN),(((e.getD ((av ((av ((av ((av ((iU .u64 (IntKind.u64.wrap ((av (a+b)))) 1)))+m)) - 1)) - (av ((iU .u64 (IntKind.u64.wrap ((av (c+d)))) 1))))).toNat) aa.d).np).fD)⟩:ab),(⟨(((e.getD ((av ((av ((av ((av ((iU .u64 (IntKind.u64.wrap ((av (a+b)))) 1)))+m)) - 1)) - (av ((iU .u64 (IntKind.u64.wrap ((av (c+d)))) 1))))).toNat) aa.d).cZ).fN),(((e.getD ((av ((av ((av ((av ((iU .u64 (IntKind.u64.wrap ((av (a+b)))) 1)))+m)) - 1)) - (av ((iU .u64 (IntKind.u64.wrap ((av (c+d)))) 1))))).toNat) aa.d).cZ).fD)⟩:ab)⟩:aa) (⟨(⟨(((e.getD ((av ((iU .u64 (IntKind.u64.wrap ((av (c+d)))) 1))).toNat) aa.d).np).fN),(((e.getD ((av ((iU .u64 (IntKind.u64.wrap ((av (c+d)))) 1))).toNat) aa.d).np).fD)⟩:ab),(⟨(((e.getD ((av ((iU .u64 (IntKind.u64.wrap ((av (c+d)))) 1))).toNat) aa.d).cZ).fN),(((e.getD ((av ((iU .u64 (IntKind.u64.wrap ((av (c+d)))) 1))).toNat) aa.d).cZ).fD)⟩:ab)⟩:aa)).bind fun h =>
  (cond (!(decide (h < 0)))
  (bV N a m b e f fuel (av ((av ((iU .u64 (IntKind.u64.wrap ((av (c+d)))) 1)))+1)) d)
  (bV N a m b e f fuel c (av ((iU .u64 (IntKind.u64.wrap ((av (c+d)))) 1))))))
  else none)
  else none))
  ((cond (cond (decide (c < m)) (decide (m < (av ((av ((av ((iU .u64 (IntKind.u64.wrap ((av (a+b)))) 1)))+m)) - c)))) false)
  (((eE N c m (av ((av ((av ((iU .u64 (IntKind.u64.wrap ((av (a+b)))) 1)))+m)) - c)) e).bind fun g =>
  (if g.length=e.length then
  bU N a m b c f g
  else none)))
  (bU N a m b c f e))))
def fy (N:Nat) (a m b:Int) (c:List aa)(d:Int->Int->Int->(List aa)->Option (List aa)) (start:Int) (e:Int):Option (List aa) :=
 bV N a m b c d N start e
def aG (N:Nat):Nat->Int->Int->Int->(List aa)->Option (List aa)
 | 0,_,_,_,_=>none
 | fuel+1,a,m,b,c =>
  (cond ((av (m - a)) == 1)
  (cu N a c (aG N fuel) N m b)
  ((cond ((av (b - m)) == 1)
  (cx N m c (aG N fuel) N a m)
  ((cond (decide (m > (av ((iU .u64 (IntKind.u64.wrap ((av (a+b)))) 1)))))
  (fy N a m b c (aG N fuel) (av ((av ((av ((iU .u64 (IntKind.u64.wrap ((av (a+b)))) 1)))+m)) - b)) (av ((iU .u64 (IntKind.u64.wrap ((av (a+b)))) 1))))
  (fy N a m b c (aG N fuel) a m))))))
def iB (N:Nat) (n a:Int)(b:(List aa)->Int->Option (List aa)) (c:List aa):Option (List aa) :=
 b c (av (a * 2))
def fY (N:Nat) (n a:Int)(e:(List aa)->Int->Option (List aa)):Nat->(List aa)->Int->Int->Option (List aa)
 | 0,_,_,_=>none
 | fuel+1,b,c,d =>
  (cond (decide (d<=n))
  (((aG N N c (av (c+a)) d b).bind fun f =>
  (if f.length=b.length then
  fY N n a e fuel f d (av (d+(av (2 * a))))
  else none)))
  ((cond (decide ((av (c+a)) < n))
  (((aG N N c (av (c+a)) n b).bind fun g =>
  (if g.length=b.length then
  iB N n a e g
  else none)))
  (iB N n a e b))))
def cg (N:Nat) (n:Int):Nat->(List aa)->Int->Option (List aa)
 | 0,_,_=>none
 | fuel+1,b,a =>
  (cond (decide (a < n))
  (fY N n a (cg N n fuel) N b 0 (av (2 * a)))
  (some b))
def cL (N:Nat) (n:Int):Nat->(List aa)->Int->Int->Option (List aa)
 | 0,_,_,_=>none
 | fuel+1,c,a,b =>
  (cond (decide (b<=n))
  (((eI N a b c).bind fun d =>
  (if d.length=c.length then
  cL N n fuel d b (av (b+20))
  else none)))
  (((eI N a n c).bind fun e =>
  (if e.length=c.length then
  cg N n N e 20
  else none))))
def kO (N:Nat) (n:Int) (a:List aa):Option (List aa) :=
 cL N n N a 0 20
def b9 (N:Nat) (a:List aa):Option (List aa) :=
 ((kO N (a.length:Int) a).bind fun b =>
 (if b.length=a.length then
 some b
 else none))
def ji (N:Nat) (l:List af) (e:ab) (x:Int) (c:ab)(d:(List aa)->Int->Option (List aa)):Nat->(List aa)->ab->Int->Option (List aa)
 | 0,_,_,_=>none
 | fuel+1,b,before,a =>
  (cond (decide (a < (((((l.getD x.toNat af.d).aY).aA).length:Nat):Int)))
  ((if 0<=a/\a < (((((l.getD x.toNat af.d).aY).aA).length:Nat):Int) then
  (if 0<=a/\a < (((((l.getD x.toNat af.d).aY).ah).length:Nat):Int) then
  ((ao N ((((l.getD x.toNat af.d).aY).ah).getD a.toNat 0)).bind fun f =>
  ((gr N f c).bind fun g =>
  ((gr N (⟨(((((l.getD x.toNat af.d).aY).aA).getD a.toNat ab.d).fN),(((((l.getD x.toNat af.d).aY).aA).getD a.toNat ab.d).fD)⟩:ab) before).bind fun h =>
  (if (b.length+1) * 128<=140737488355328 then
  ji N l e x c d fuel (b ++ ([(⟨g,h⟩:aa)]:List aa)) (⟨(((((l.getD x.toNat af.d).aY).aA).getD a.toNat ab.d).fN),(((((l.getD x.toNat af.d).aY).aA).getD a.toNat ab.d).fD)⟩:ab) (av (a+1))
  else none))))
  else none)
  else none))
  (d b (av (x+1))))
def jj (N:Nat) (l:List af) (a:ab):Nat->(List aa)->Int->Option (List aa)
 | 0,_,_=>none
 | fuel+1,out,x =>
  (cond (decide (x < (l.length:Int)))
  ((if 0<=x/\x < (l.length:Int) then
  ((ao N ((l.getD x.toNat af.d).z9)).bind fun c =>
  ((bR N a c).bind fun d =>
  ((bG N (⟨(((l.getD x.toNat af.d).Rp).fN),(((l.getD x.toNat af.d).Rp).fD)⟩:ab) d).bind fun e =>
  ((ao N 0).bind fun f =>
  ji N l a x e (jj N l a fuel) N out f 0))))
  else none))
  (((b9 N out).bind fun b =>
  (if b.length=out.length then
  some b
  else none))))
def um (N:Nat) (l:List af) (a:ab):Option (List aa) :=
 jj N l a N ([]:List aa) 0
def BS (N:Nat) (x y:ab):Option (ab×Int) :=
 ((jv N y).bind fun a =>
 (cond a
 (some ((⟨(⟨false,([]:List Int)⟩:cj),(⟨false,([]:List Int)⟩:cj)⟩:ab),9))
 (((xt N x y).bind fun jC =>
 some (jC,0)))))
def nv (N:Nat) (x y:ab):Option ab :=
 ((BS N x y).bind fun a =>
 some a.1)
def tf (N:Nat) (x:ab):Option ab :=
 ((bG N x (⟨(⟨false,([]:List Int)⟩:cj),(⟨false,([]:List Int)⟩:cj)⟩:ab)).bind fun a =>
 some a)
def pe (N:Nat) (b a:ab):Option aw :=
 ((tf N b).bind fun c =>
 some (⟨a,c⟩:aw))
def jY (N:Nat) (a c carried k b:ab):Option aw :=
 ((dY N k).bind fun d =>
 (cond (decide (d > 0))
 (((gr N c carried).bind fun e =>
 ((nv N e k).bind fun jC =>
 ((bG N b jC).bind fun f =>
 pe N a f))))
 (pe N a b)))
def im (N:Nat) (e f:ab)(a:(List aa)) (k:ab) (g:ab) (x:Int) (b:ab->ab->ab->Int->Option aw) (c:ab):Option aw :=
 ((bG N k (⟨(((a.getD x.toNat aa.d).cZ).fN),(((a.getD x.toNat aa.d).cZ).fD)⟩:ab)).bind fun d =>
 b c d (⟨(((a.getD x.toNat aa.d).np).fN),(((a.getD x.toNat aa.d).np).fD)⟩:ab) (av (x+1)))
def dq (N:Nat) (c b:ab)(a:(List aa)):Nat->ab->ab->ab->Int->Option aw
 | 0,_,_,_,_=>none
 | fuel+1,carried,k,d,x =>
  (cond (decide (x < (a.length:Int)))
  ((if 0<=x/\x < (a.length:Int) then
  ((dY N k).bind fun dL =>
  (cond (decide (dL > 0))
  (((gr N (⟨(((a.getD x.toNat aa.d).np).fN),(((a.getD x.toNat aa.d).np).fD)⟩:ab) d).bind fun f =>
  ((bR N k f).bind fun g =>
  ((bG N carried g).bind fun e =>
  ((iQ N e b).bind fun h =>
  (cond (decide (h>=0))
  (jY N c b carried k d)
  (im N c b a k d x (dq N c b a fuel) e)))))))
  (im N c b a k d x (dq N c b a fuel) carried)))
  else none))
  (jY N c b carried k d))
def fH (N:Nat) (b:cW) (a:ab):Option aw :=
 ((ao N 0).bind fun c =>
 ((ao N 0).bind fun d =>
 ((ao N b.dW).bind fun e =>
 ((ao N 0).bind fun f =>
 ((um N b.ag a).bind fun g =>
 dq N a e g N c d f 0)))))
def jF (N:Nat) (s:af) (a:aw):Option ab :=
 ((ao N s.z9).bind fun b =>
 ((bR N a.xi b).bind fun c =>
 ((bG N a.BI c).bind fun d =>
 ((bG N s.Rp d).bind fun e =>
 some e))))
def Jw (N:Nat) (c:cO) (y:ab):Option (cO×ab) :=
 some (c,y)
def lg (N:Nat) (RD:ab->ab->ab->Option ab) (a:cO) (d:ab):Nat->ab->ab->Int->Option ab
 | 0,_,_,_=>none
 | fuel+1,c,before,x =>
  (cond (decide (x < (a.ah.length:Int)))
  ((if 0<=x/\x < (a.ah.length:Int) then
  ((fc N (a.ah.getD x.toNat 0)).bind fun g =>
  ((gr N d g).bind fun e =>
  ((l8 N e).bind fun b =>
  (if ((!(decide (b < 0)))=true->0<=x/\x < (a.aA.length:Int)) then
  ((cond (!(decide (b < 0))) (gr N (⟨((a.aA.getD x.toNat ab.d).fN),((a.aA.getD x.toNat ab.d).fD)⟩:ab) before) (some ab.d)).bind fun h =>
  (cond (!(decide (b < 0)))
  (((RD h e c).bind fun f =>
  (cond (cond (decide (b < 0)) true (!true))
  (some f)
  ((if 0<=x/\x < (a.aA.length:Int) then
  lg N RD a d fuel f (⟨((a.aA.getD x.toNat ab.d).fN),((a.aA.getD x.toNat ab.d).fD)⟩:ab) (av (x+1))
  else none)))))
  ((cond (cond (decide (b < 0)) true false)
  (some c)
  ((if 0<=x/\x < (a.aA.length:Int) then
  lg N RD a d fuel c (⟨((a.aA.getD x.toNat ab.d).fN),((a.aA.getD x.toNat ab.d).fD)⟩:ab) (av (x+1))
  else none))))))
  else none))))
  else none))
  (some c))
def zC (N:Nat) (RD:ab->ab->ab->Option ab) (a:ab) (b:cO) (c:ab):Option ab :=
 ((fc N 0).bind fun d =>
 lg N RD b c N a d 0)
def zD (N:Nat) (change VF sum:ab):Option ab :=
 ((bR N change VF).bind fun a =>
 ((bG N sum a).bind fun b =>
 some b))
def Es (N:Nat) (c:cO) (y:ab):Option (ab×Int) :=
 ((mD N c).bind fun a =>
 (cond (a != 0)
 (some ((⟨(⟨false,([]:List Int)⟩:cj),(⟨false,([]:List Int)⟩:cj)⟩:ab),a))
 (((fc N 0).bind fun d =>
 ((Jw N c y).bind fun b =>
 ((zC N (zD N) d b.1 b.2).bind fun rr =>
 some (rr,0)))))))
def uq (N:Nat) (s:af) (a:aw):Option ab :=
 ((jF N s a).bind fun c =>
 ((Es N s.aY c).bind fun b =>
 some b.1))
def uM (N:Nat) (s:af) (b:aw):Option ab :=
 ((uq N s b).bind fun a =>
 some a)
def gz (N:Nat) (l:List af) (a:aw):Nat->(List ab)->Int->Option ((List ab)×Int)
 | 0,_,_=>none
 | fuel+1,out,x =>
  (cond (decide (x < (l.length:Int)))
  ((if 0<=x/\x < (l.length:Int) then
  ((uM N (l.getD x.toNat af.d) a).bind fun b =>
  (if (out.length+1) * 64<=140737488355328 then
  gz N l a fuel (out ++ ([b]:List ab)) (av (x+1))
  else none))
  else none))
  (some (out,0)))
def tO (N:Nat) (l:List af) (b:aw):Option ((List ab)×Int) :=
 ((ow N l).bind fun a =>
 (cond (a != 0)
 (some (([]:List ab),a))
 (gz N l b N ([]:List ab) 0)))
def na (N:Nat) (l:List af) (a:aw):Option ((List ab)×Int) :=
 ((tO N l a).bind fun b =>
 some (b.1,b.2))
def jk (N:Nat) (l:List af) (f:List ab):Nat->gX->Int->Option gX
 | 0,_,_=>none
 | fuel+1,a,x =>
  (cond (decide (x < (l.length:Int)))
  ((if 0<=x/\x < (l.length:Int) then
  (if 0<=x/\x < (f.length:Int) then
  ((bG N a.FE (⟨((f.getD x.toNat ab.d).fN),((f.getD x.toNat ab.d).fD)⟩:ab)).bind fun b =>
  ((ao N ((l.getD x.toNat af.d).z9)).bind fun c =>
  ((bR N (⟨((f.getD x.toNat ab.d).fN),((f.getD x.toNat ab.d).fD)⟩:ab) c).bind fun d =>
  ((bG N a.BJ d).bind fun e =>
  jk N l f fuel (⟨b,e⟩:gX) (av (x+1))))))
  else none)
  else none))
  (some a))
def yF (N:Nat) (l:List af) (f:List ab):Option gX :=
 ((ao N 0).bind fun a =>
 ((ao N 0).bind fun b =>
 jk N l f N (⟨a,b⟩:gX) 0))
def ox (N:Nat) (l:List af) (a:aw):Option (gX×Int) :=
 ((na N l a).bind fun b =>
 (cond (b.2 != 0)
 (some ((⟨(⟨(⟨false,([]:List Int)⟩:cj),(⟨false,([]:List Int)⟩:cj)⟩:ab),(⟨(⟨false,([]:List Int)⟩:cj),(⟨false,([]:List Int)⟩:cj)⟩:ab)⟩:gX),b.2))
 (((yF N l b.1).bind fun c =>
 some (c,0)))))
def iC (N:Nat) (b:cW) (a:aw):Option ab :=
 ((ox N b.ag a).bind fun c =>
 ((ao N b.dW).bind fun d =>
 ((bR N d b.BH).bind fun e =>
 ((gr N c.1.BJ e).bind fun f =>
 some f))))
def nC (N:Nat) (x:ab):Option ab :=
 ((gr N (⟨(⟨false,([]:List Int)⟩:cj),(⟨false,([]:List Int)⟩:cj)⟩:ab) x).bind fun a =>
 some a)
def ur (N:Nat) (a:aw):Option aw :=
 some a
def ss (N:Nat) (a:aw):Option aw :=
 some a
def zE (N:Nat) (change VF sum:ab):Option ab :=
 ((bG N sum change).bind fun a =>
 some a)
def Et (N:Nat) (c:cO) (y:ab):Option (ab×Int) :=
 ((mD N c).bind fun a =>
 (cond (a != 0)
 (some ((⟨(⟨false,([]:List Int)⟩:cj),(⟨false,([]:List Int)⟩:cj)⟩:ab),a))
 (((fc N 0).bind fun d =>
 ((Jw N c y).bind fun b =>
 ((zC N (zE N) d b.1 b.2).bind fun rr =>
 some (rr,0)))))))
def ma (N:Nat) (s:af) (b:aw):Option ab :=
 ((jF N s b).bind fun c =>
 ((Et N s.aY c).bind fun a =>
 some a.1))
def lv (N:Nat) (l:List af) (a:aw):Nat->dD->Int->Option dD
 | 0,_,_=>none
 | fuel+1,k,x =>
  (cond (decide (x < (l.length:Int)))
  ((if 0<=x/\x < (l.length:Int) then
  ((ma N (l.getD x.toNat af.d) a).bind fun b =>
  ((bG N k.A6 b).bind fun d =>
  ((ao N ((l.getD x.toNat af.d).z9)).bind fun e =>
  ((bR N b e).bind fun c =>
  ((bG N k.xj c).bind fun f =>
  ((ao N ((l.getD x.toNat af.d).z9)).bind fun g =>
  ((bR N c g).bind fun h =>
  ((bG N k.A7 h).bind fun i =>
  lv N l a fuel (⟨d,f,i⟩:dD) (av (x+1))))))))))
  else none))
  (some k))
def uu (N:Nat) (l:List af) (a:aw):Option dD :=
 ((ao N 0).bind fun b =>
 ((ao N 0).bind fun c =>
 ((ao N 0).bind fun d =>
 lv N l a N (⟨b,c,d⟩:dD) 0)))
def oy (N:Nat) (k:dD) (force b:ab):Option (aw×Bool) :=
 ((bR N k.A6 k.A7).bind fun c =>
 ((bR N k.xj k.xj).bind fun d =>
 ((gr N c d).bind fun a =>
 ((dY N a).bind fun dL =>
 (cond (dL == 0)
 (some ((⟨(⟨(⟨false,([]:List Int)⟩:cj),(⟨false,([]:List Int)⟩:cj)⟩:ab),(⟨(⟨false,([]:List Int)⟩:cj),(⟨false,([]:List Int)⟩:cj)⟩:ab)⟩:aw),false))
 (((bR N k.A7 force).bind fun e =>
 ((bR N k.xj b).bind fun f =>
 ((gr N e f).bind fun g =>
 ((bR N k.A6 b).bind fun h =>
 ((bR N k.xj force).bind fun i =>
 ((gr N h i).bind fun j =>
 ((nv N g a).bind fun jC =>
 ((nv N j a).bind fun l =>
 some ((⟨jC,l⟩:aw),true)))))))))))))))
def jd (N:Nat) (a d:aw):Option aw :=
 ((bG N a.BI d.BI).bind fun b =>
 ((bG N a.xi d.xi).bind fun c =>
 some (⟨b,c⟩:aw)))
def lx (N:Nat) (b:cW) (a:aw):Option Bool :=
 ((ox N b.ag a).bind fun d =>
 ((ao N b.dW).bind fun e =>
 ((iQ N d.1.FE e).bind fun c =>
 ((cond (c == 0) (ao N b.dW) (some ab.d)).bind fun f =>
 ((cond (c == 0) (bR N f b.BH) (some ab.d)).bind fun g =>
 ((cond (c == 0) (iQ N d.1.BJ g) (some 0)).bind fun h =>
 some (cond (c == 0) (h == 0) false)))))))
def mE (N:Nat) (s:af) (d:aw) (e:ab) (a:Int) (b:ab->Int->Option ab) (c:ab):Option ab :=
 b c (av (a+1))
def gS (N:Nat) (s:af) (c:aw) (b:ab):Nat->ab->Int->Option ab
 | 0,_,_=>none
 | fuel+1,x,a =>
  (cond (decide (a < (s.aY.ah.length:Int)))
  ((if 0<=a/\a < (s.aY.ah.length:Int) then
  ((ao N (s.aY.ah.getD a.toNat 0)).bind fun d =>
  ((iQ N d b).bind fun e =>
  (cond (decide (e < 0))
  ((if 0<=a/\a < (s.aY.aA.length:Int) then
  mE N s c b a (gS N s c b fuel) (⟨((s.aY.aA.getD a.toNat ab.d).fN),((s.aY.aA.getD a.toNat ab.d).fD)⟩:ab)
  else none))
  (mE N s c b a (gS N s c b fuel) x))))
  else none))
  (some x))
def lh (N:Nat) (s:af) (a:aw):Option ab :=
 ((jF N s a).bind fun b =>
 ((ao N 0).bind fun c =>
 gS N s a b N c 0))
def jG (N:Nat) (l:List af) (a:aw):Nat->dD->Int->Option dD
 | 0,_,_=>none
 | fuel+1,k,x =>
  (cond (decide (x < (l.length:Int)))
  ((if 0<=x/\x < (l.length:Int) then
  ((lh N (l.getD x.toNat af.d) a).bind fun b =>
  ((bG N k.A6 b).bind fun d =>
  ((ao N ((l.getD x.toNat af.d).z9)).bind fun e =>
  ((bR N b e).bind fun c =>
  ((bG N k.xj c).bind fun f =>
  ((ao N ((l.getD x.toNat af.d).z9)).bind fun g =>
  ((bR N c g).bind fun h =>
  ((bG N k.A7 h).bind fun i =>
  jG N l a fuel (⟨d,f,i⟩:dD) (av (x+1))))))))))
  else none))
  (some k))
def qI (N:Nat) (l:List af) (a:aw):Option dD :=
 ((ao N 0).bind fun b =>
 ((ao N 0).bind fun c =>
 ((ao N 0).bind fun d =>
 jG N l a N (⟨b,c,d⟩:dD) 0)))
def oz (N:Nat) (b:cW) (a:aw):Option (aw×Bool) :=
 ((ox N b.ag a).bind fun k =>
 ((ao N b.dW).bind fun l =>
 ((gr N l k.1.FE).bind fun i =>
 ((iC N b a).bind fun m =>
 ((nC N m).bind fun j =>
 ((ur N a).bind fun e =>
 ((ss N a).bind fun f =>
 ((uu N b.ag e).bind fun g =>
 ((oy N g i j).bind fun c =>
 ((cond c.2 (jd N a c.1) (some aw.d)).bind fun h =>
 ((cond c.2 (lx N b h) (some false)).bind fun n =>
 (cond (cond c.2 n false)
 (((jd N a c.1).bind fun o =>
 some (o,true)))
 (((qI N b.ag f).bind fun p =>
 ((oy N p i j).bind fun d =>
 ((cond d.2 (jd N a d.1) (some aw.d)).bind fun q =>
 ((cond d.2 (lx N b q) (some false)).bind fun r =>
 (cond (cond d.2 r false)
 (((jd N a d.1).bind fun s =>
 some (s,true)))
 (some ((⟨(⟨(⟨false,([]:List Int)⟩:cj),(⟨false,([]:List Int)⟩:cj)⟩:ab),(⟨(⟨false,([]:List Int)⟩:cj),(⟨false,([]:List Int)⟩:cj)⟩:ab)⟩:aw),false))))))))))))))))))))
def cT (N:Nat) (b:cW):Nat->ab->ab->Option aw
 | 0,_,_=>none
 | fuel+1,c,d =>
  ((bG N c d).bind fun g =>
  ((ao N 2).bind fun h =>
  ((nv N g h).bind fun jC =>
  ((fH N b jC).bind fun a =>
  ((iC N b a).bind fun i =>
  ((dY N i).bind fun e =>
  (cond (e == 0)
  (some a)
  (((oz N b a).bind fun f =>
  (cond f.2
  (some f.1)
  ((cond (decide (e < 0))
  (cT N b fuel jC d)
  (cT N b fuel c jC)))))))))))))
def dG (N:Nat) (b:cW) (low high a:ab):Nat->Int->Option aw
 | 0,_=>none
 | fuel+1,x =>
  (cond (decide (x < ((3:Nat):Int)))
  ((if 0<=x/\x < ((([a,low,high]:List ab).length:Nat):Int) then
  ((fH N b (⟨((([a,low,high]:List ab).getD x.toNat ab.d).fN),((([a,low,high]:List ab).getD x.toNat ab.d).fD)⟩:ab)).bind fun c =>
  ((iC N b c).bind fun e =>
  ((dY N e).bind fun f =>
  (cond (f == 0)
  (some c)
  (((oz N b c).bind fun d =>
  (cond d.2
  (some d.1)
  (dG N b low high a fuel (av (x+1))))))))))
  else none))
  (cT N b N low high))
def dH (N:Nat) (b:cW) (low:ab):Nat->ab->ab->Option aw
 | 0,_,_=>none
 | fuel+1,a,high =>
  ((fH N b high).bind fun d =>
  ((iC N b d).bind fun e =>
  ((dY N e).bind fun f =>
  (cond (decide (f < 0))
  (((bG N a a).bind fun c =>
  dH N b low fuel c c))
  (((ao N 0).bind fun g =>
  dG N b low high g N 0))))))
def ej (N:Nat) (b:cW) (a:ab):Nat->ab->ab->Option aw
 | 0,_,_=>none
 | fuel+1,width,low =>
  ((fH N b low).bind fun d =>
  ((iC N b d).bind fun e =>
  ((dY N e).bind fun dL =>
  (cond (decide (dL > 0))
  (((bG N width width).bind fun c =>
  ((nC N c).bind fun f =>
  ej N b a fuel c f)))
  (((ao N 1).bind fun g =>
  dH N b low N g a))))))
def lj (N:Nat) (b:cW):Option aw :=
 ((ao N 1).bind fun a =>
 ((ao N (-1)).bind fun c =>
 ((ao N 1).bind fun d =>
 ej N b d N a c)))
def g7 (N:Nat) (b:cW) (a:aw) (d:az):Nat->Int->Option Bool
 | 0,_=>none
 | fuel+1,x =>
  (cond (decide (x < (b.ag.length:Int)))
  ((if 0<=x/\x < (b.ag.length:Int) then
  ((ao N ((b.ag.getD x.toNat af.d).z9)).bind fun g =>
  ((bR N d.f_B g).bind fun h =>
  ((bG N d.f_A h).bind fun i =>
  ((dY N i).bind fun dL =>
  (cond (decide (dL > 0))
  (((ur N a).bind fun j =>
  ((ma N (b.ag.getD x.toNat af.d) j).bind fun k =>
  ((dY N k).bind fun c =>
  (cond ((!(cond (decide (dL > 0)) (c != 0) false)) && ((!(cond (decide (dL > 0)) (c != 0) false)) && (decide (dL < 0))))
  (((ss N a).bind fun e =>
  ((lh N (b.ag.getD x.toNat af.d) e).bind fun l =>
  ((dY N l).bind fun m =>
  (cond (cond (cond (decide (dL > 0)) (c != 0) false) true (cond (decide (dL < 0)) (m != 0) false))
  (some false)
  (g7 N b a d fuel (av (x+1))))))))
  ((cond (cond (cond (decide (dL > 0)) (c != 0) false) true (cond (decide (dL < 0)) false false))
  (some false)
  (g7 N b a d fuel (av (x+1))))))))))
  ((cond ((!(cond (decide (dL > 0)) false false)) && ((!(cond (decide (dL > 0)) false false)) && (decide (dL < 0))))
  (((ss N a).bind fun f =>
  ((lh N (b.ag.getD x.toNat af.d) f).bind fun n =>
  ((dY N n).bind fun o =>
  (cond (cond (cond (decide (dL > 0)) false false) true (cond (decide (dL < 0)) (o != 0) false))
  (some false)
  (g7 N b a d fuel (av (x+1))))))))
  ((cond (cond (cond (decide (dL > 0)) false false) true (cond (decide (dL < 0)) false false))
  (some false)
  (g7 N b a d fuel (av (x+1))))))))))))
  else none))
  (some true))
def sy (N:Nat) (b:cW) (a:aw) (d:az):Option Bool :=
 g7 N b a d N 0
def vR (N:Nat) (d:az) (b:cW) (c:aw):Option Bool :=
 ((sy N b c d).bind fun a =>
 some a)
def bB (N:Nat) (s:List az) (a:cW) (b:aw):Nat->Int->Option Int
 | 0,_=>none
 | fuel+1,x =>
  (cond (decide (x < (s.length:Int)))
  ((if 0<=x/\x < (s.length:Int) then
  ((vR N (⟨(⟨(((s.getD x.toNat az.d).f_A).fN),(((s.getD x.toNat az.d).f_A).fD)⟩:ab),(⟨(((s.getD x.toNat az.d).f_B).fN),(((s.getD x.toNat az.d).f_B).fD)⟩:ab)⟩:az) a b).bind fun c =>
  (cond c
  (some x)
  (bB N s a b fuel (av (x+1)))))
  else none))
  (some (-1)))
def fS (N:Nat) (s:List az) (a:cW) (b:aw):Option Int :=
 bB N s a b N 0
def fq (N:Nat) (s:List az) (a:cW) (b:aw):Option Bool :=
 ((fS N s a b).bind fun c =>
 some (decide (c>=0)))
def uw (N:Nat) (b:cW) (a:aw):Option Bool :=
 ((oS N b.ag).bind fun c =>
 ((ao N 1).bind fun d =>
 ((ao N 0).bind fun e =>
 ((ao N (-1)).bind fun f =>
 ((ao N 0).bind fun g =>
 (if (c.length+2) * 128<=140737488355328 then
 ((fq N (c ++ ([(⟨d,e⟩:az),(⟨f,g⟩:az)]:List az)) b a).bind fun h =>
 some h)
 else none))))))
def ux (N:Nat) (b:cW):Option (qP×az×Int) :=
 ((gR N b).bind fun e =>
 (cond (e != 0)
 (some ((⟨(⟨(⟨(⟨false,([]:List Int)⟩:cj),(⟨false,([]:List Int)⟩:cj)⟩:ab),(⟨(⟨false,([]:List Int)⟩:cj),(⟨false,([]:List Int)⟩:cj)⟩:ab)⟩:aw),([]:List ab)⟩:qP),(⟨(⟨(⟨false,([]:List Int)⟩:cj),(⟨false,([]:List Int)⟩:cj)⟩:ab),(⟨(⟨false,([]:List Int)⟩:cj),(⟨false,([]:List Int)⟩:cj)⟩:ab)⟩:az),e))
 (((oU N b).bind fun a =>
 (cond (a.2 != 0)
 (some ((⟨(⟨(⟨(⟨false,([]:List Int)⟩:cj),(⟨false,([]:List Int)⟩:cj)⟩:ab),(⟨(⟨false,([]:List Int)⟩:cj),(⟨false,([]:List Int)⟩:cj)⟩:ab)⟩:aw),([]:List ab)⟩:qP),a.1,a.2))
 (((lj N b).bind fun c =>
 ((uw N b c).bind fun d =>
 (cond d
 (some ((⟨(⟨(⟨(⟨false,([]:List Int)⟩:cj),(⟨false,([]:List Int)⟩:cj)⟩:ab),(⟨(⟨false,([]:List Int)⟩:cj),(⟨false,([]:List Int)⟩:cj)⟩:ab)⟩:aw),([]:List ab)⟩:qP),(⟨(⟨(⟨false,([]:List Int)⟩:cj),(⟨false,([]:List Int)⟩:cj)⟩:ab),(⟨(⟨false,([]:List Int)⟩:cj),(⟨false,([]:List Int)⟩:cj)⟩:ab)⟩:az),14))
 (((na N b.ag c).bind fun f =>
 some ((⟨c,f.1⟩:qP),(⟨(⟨(⟨false,([]:List Int)⟩:cj),(⟨false,([]:List Int)⟩:cj)⟩:ab),(⟨(⟨false,([]:List Int)⟩:cj),(⟨false,([]:List Int)⟩:cj)⟩:ab)⟩:az),0))))))))))))
def mF (N:Nat) (a b:cj):Nat->Int->Option Bool
 | 0,_=>none
 | fuel+1,i =>
  (cond (decide (i < (a.fL.length:Int)))
  ((if 0<=i/\i < (a.fL.length:Int) then
  (if 0<=i/\i < (b.fL.length:Int) then
  (cond ((a.fL.getD i.toNat 0) != (b.fL.getD i.toNat 0))
  (some false)
  (mF N a b fuel (av (i+1))))
  else none)
  else none))
  (some true))
def wz (N:Nat) (a b:cj):Option Bool :=
 (cond (cond (!(a.fG == b.fG)) true ((a.fL.length:Int) != (b.fL.length:Int)))
 (some false)
 (mF N a b N 0))
def zF (N:Nat) (a b:ab):Option Bool :=
 ((wz N a.fN b.fN).bind fun c =>
 ((cond c (wz N a.fD b.fD) (some false)).bind fun d =>
 some (cond c d false)))
def kj (N:Nat) (a b:List ab):Nat->Int->Option Bool
 | 0,_=>none
 | fuel+1,i =>
  (cond (decide (i < (a.length:Int)))
  ((if 0<=i/\i < (a.length:Int) then
  (if 0<=i/\i < (b.length:Int) then
  ((zF N (⟨((a.getD i.toNat ab.d).fN),((a.getD i.toNat ab.d).fD)⟩:ab) (⟨((b.getD i.toNat ab.d).fN),((b.getD i.toNat ab.d).fD)⟩:ab)).bind fun c =>
  (cond (!c)
  (some false)
  (kj N a b fuel (av (i+1)))))
  else none)
  else none))
  (some true))
def Ba (N:Nat) (a b:List ab):Option Bool :=
 (cond ((a.length:Int) != (b.length:Int))
 (some false)
 (kj N a b N 0))
def lO (N:Nat):Option Bool :=
 ((KD N ([2]:List Int)).bind fun a =>
 ((sm N 25).bind fun d =>
 ((ux N (⟨40,d,([(⟨0,(⟨(⟨false,([]:List Int)⟩:cj),(⟨false,([]:List Int)⟩:cj)⟩:ab),(⟨([0]:List Int),a⟩:cO)⟩:af),(⟨100,(⟨(⟨false,([]:List Int)⟩:cj),(⟨false,([]:List Int)⟩:cj)⟩:ab),(⟨([0]:List Int),a⟩:cO)⟩:af)]:List af)⟩:cW)).bind fun b =>
 (cond (b.2.2 == 0)
 (((KD N ([30,10]:List Int)).bind fun c =>
 ((Ba N b.1.Zy c).bind fun e =>
 some (cond (b.2.2 == 0) e false))))
 (some (cond (b.2.2 == 0) false false))))))
def Ex (N:Nat) (x:ab) (n:Int):Option Bool :=
 some (cond (decide ((x.fN.fL.length:Int)<=n)) (decide ((x.fD.fL.length:Int)<=n)) false)
def kn (N:Nat) (l:List ab) (n:Int):Nat->Int->Option Bool
 | 0,_=>none
 | fuel+1,i =>
  (cond (decide (i < (l.length:Int)))
  ((if 0<=i/\i < (l.length:Int) then
  ((Ex N (⟨((l.getD i.toNat ab.d).fN),((l.getD i.toNat ab.d).fD)⟩:ab) n).bind fun a =>
  (cond (!a)
  (some false)
  (kn N l n fuel (av (i+1)))))
  else none))
  (some true))
def Bb (N:Nat) (l:List ab) (n:Int):Option Bool :=
 kn N l n N 0
def lk (N:Nat) (l:List af) (a:Int):Nat->Int->Option Bool
 | 0,_=>none
 | fuel+1,i =>
  (cond (decide (i < (l.length:Int)))
  ((if 0<=i/\i < (l.length:Int) then
  (if ((!(cond (decide ((((((l.getD i.toNat af.d).aY).ah).length:Nat):Int) > a)) true (decide ((((((l.getD i.toNat af.d).aY).aA).length:Nat):Int) > (av (a+1))))))=true->0<=i/\i < (l.length:Int)) then
  ((cond (!(cond (decide ((((((l.getD i.toNat af.d).aY).ah).length:Nat):Int) > a)) true (decide ((((((l.getD i.toNat af.d).aY).aA).length:Nat):Int) > (av (a+1)))))) (Ex N (⟨(((l.getD i.toNat af.d).Rp).fN),(((l.getD i.toNat af.d).Rp).fD)⟩:ab) 3) (some false)).bind fun b =>
  ((cond (!(cond (cond (decide ((((((l.getD i.toNat af.d).aY).ah).length:Nat):Int) > a)) true (decide ((((((l.getD i.toNat af.d).aY).aA).length:Nat):Int) > (av (a+1))))) true (!b))) (Bb N (((l.getD i.toNat af.d).aY).aA) 3) (some false)).bind fun c =>
  (cond (cond (cond (cond (decide ((((((l.getD i.toNat af.d).aY).ah).length:Nat):Int) > a)) true (decide ((((((l.getD i.toNat af.d).aY).aA).length:Nat):Int) > (av (a+1))))) true (!b)) true (!c))
  (some false)
  (lk N l a fuel (av (i+1))))))
  else none)
  else none))
  (some true))
def zH (N:Nat) (l:List af) (a b:Int):Option Bool :=
 (cond (decide ((l.length:Int) > a))
 (some false)
 (lk N l b N 0))
def FN (N:Nat) (b:cW):Option Bool :=
 ((zH N b.ag 10 4).bind fun a =>
 ((cond a (Ex N b.BH 3) (some false)).bind fun c =>
 some (cond a c false)))
def oa (N:Nat) (a:List Int):Nat->Int->Option (List Int)
 | 0,_=>none
 | fuel+1,n =>
  (if ((decide (n > 0))=true->0<=(av (n - 1))/\(av (n - 1)) < (a.length:Int)) then
  (cond (cond (decide (n > 0)) ((a.getD ((av (n - 1)).toNat) 0) == 0) false)
  (oa N a fuel (av (n - 1)))
  ((if 0<=(n).toNat/\(n).toNat<=a.length then
  (if 0<=n then
  (if (0+(n.toNat - 0)) * 8<=140737488355328 then
  some (([]:List Int) ++ ((a.take n.toNat).drop 0))
  else none)
  else none)
  else none)))
  else none)
def rP (N:Nat) (a:List Int):Option (List Int) :=
 oa N a N (a.length:Int)
def oc (N:Nat) (l:List Int):Nat->(List Int)->Int->Option (List Int)
 | 0,_,_=>none
 | fuel+1,a,i =>
  (cond (decide (i < (l.length:Int)))
  ((if 0<=i/\i < (l.length:Int) then
  (if (a.length+1) * 8<=140737488355328 then
  oc N l fuel (a ++ ([(av ((l.getD i.toNat 0)))]:List Int)) (av (i+1))
  else none)
  else none))
  (((rP N a).bind fun b =>
  some b)))
def mb (N:Nat) (l:List Int):Option (List Int) :=
 oc N l N ([]:List Int) 0
def oe (N:Nat) (neg:Bool) (a:List Int):Nat->(List Int)->Int->Option cj
 | 0,_,_=>none
 | fuel+1,x,i =>
  (cond (decide (i < (a.length:Int)))
  ((if 0<=i/\i < (a.length:Int) then
  (if (x.length+1) * 2<=140737488355328 then
  oe N neg a fuel (x ++ ([(IntKind.u16.wrap ((a.getD i.toNat 0)))]:List Int)) (av (i+1))
  else none)
  else none))
  (some (⟨(cond neg (decide ((a.length:Int) > 0)) false),x⟩:cj)))
def jP (N:Nat) (neg:Bool) (a:List Int):Option cj :=
 oe N neg a N ([]:List Int) 0
def qe (N:Nat) (n:Int):Nat->(List Int)->Int->Option cj
 | 0,_,_=>none
 | fuel+1,a,u =>
  (cond (decide (u > 0))
  ((if (a.length+1) * 8<=140737488355328 then
  qe N n fuel (a ++ ([(av ((u.tmod 65536)))]:List Int)) (IntKind.u64.wrap (u.tdiv 65536))
  else none))
  (((jP N (decide (n < 0)) a).bind fun b =>
  some b)))
def Ey (N:Nat) (n:Int):Option cj :=
 (cond (decide (n < 0))
 (qe N n N ([]:List Int) (IntKind.u64.wrap (0 - (IntKind.u64.wrap n))))
 (qe N n N ([]:List Int) (IntKind.u64.wrap n)))
def rD (N:Nat) (a:List Int) (i:Int):Option Int :=
 (cond (decide (i < (a.length:Int)))
 ((if 0<=i/\i < (a.length:Int) then
 some (a.getD i.toNat 0)
 else none))
 (some 0))
def mH (N:Nat) (a b:List Int) (i:Int)(d:(List Int)->Int->Option (List Int)):Nat->(List Int)->Int->Int->Option (List Int)
 | 0,_,_,_=>none
 | fuel+1,c,carry,k =>
  (cond (cond (decide (k < (b.length:Int))) true (decide (carry > 0)))
  ((if 0<=(av (i+k))/\(av (i+k)) < (c.length:Int) then
  (if 0<=i/\i < (a.length:Int) then
  ((rD N b k).bind fun e =>
  mH N a b i d fuel (c.set ((av (i+k)).toNat) ((av ((av ((c.getD ((av (i+k)).toNat) 0)+(av ((a.getD i.toNat 0) * e))))+carry)).tmod 65536)) (av ((av ((av ((c.getD ((av (i+k)).toNat) 0)+(av ((a.getD i.toNat 0) * e))))+carry)).tdiv 65536)) (av (k+1)))
  else none)
  else none))
  (d c (av (i+1))))
def mI (N:Nat) (a b:List Int):Nat->(List Int)->Int->Option (List Int)
 | 0,_,_=>none
 | fuel+1,out,i =>
  (cond (decide (i < (a.length:Int)))
  (mH N a b i (mI N a b fuel) N out 0 0)
  (((rP N out).bind fun c =>
  some c)))
def qf (N:Nat) (a b:List Int):Option (List Int) :=
 (if 0<=(av ((av ((a.length:Int)+(b.length:Int)))+1))/\(8:Int) * (av ((av ((a.length:Int)+(b.length:Int)))+1))<=281474976710656/\(av ((av ((a.length:Int)+(b.length:Int)))+1))<=9223372036854775807 then
 mI N a b N (List.replicate ((av ((av ((a.length:Int)+(b.length:Int)))+1)).toNat) 0:List Int) 0
 else none)
def kI (N:Nat) (a b:List Int):Nat->Int->Option Int
 | 0,_=>none
 | fuel+1,i =>
  (cond (decide (i>=0))
  ((if 0<=i/\i < (a.length:Int) then
  (if 0<=i/\i < (b.length:Int) then
  (cond ((a.getD i.toNat 0) != (b.getD i.toNat 0))
  (some (av ((a.getD i.toNat 0) - (b.getD i.toNat 0))))
  (kI N a b fuel (av (i - 1))))
  else none)
  else none))
  (some 0))
def sH (N:Nat) (a b:List Int):Option Int :=
 (cond ((a.length:Int) != (b.length:Int))
 (some (av ((a.length:Int) - (b.length:Int))))
 (kI N a b N (av ((a.length:Int) - 1))))
def qS (N:Nat) (a b out:List Int) (i:Int)(c:(List Int)->Int->Int->Option (List Int)) (d:Int) (s:Int):Option (List Int) :=
 (if (out.length+1) * 8<=140737488355328 then
 c (out ++ ([s]:List Int)) d (av (i+1))
 else none)
def kb (N:Nat) (a b:List Int):Nat->(List Int)->Int->Int->Option (List Int)
 | 0,_,_,_=>none
 | fuel+1,out,c,i =>
  (cond (decide (i < (a.length:Int)))
  ((if 0<=i/\i < (a.length:Int) then
  ((rD N b i).bind fun d =>
  (cond (decide ((av ((av ((a.getD i.toNat 0) - d)) - c)) < 0))
  (qS N a b out i (kb N a b fuel) 1 (av ((av ((av ((a.getD i.toNat 0) - d)) - c))+65536)))
  (qS N a b out i (kb N a b fuel) 0 (av ((av ((a.getD i.toNat 0) - d)) - c)))))
  else none))
  (((rP N out).bind fun e =>
  some e)))
def wA (N:Nat) (a b:List Int):Option (List Int) :=
 kb N a b N ([]:List Int) 0 0
def sI (N:Nat) (a b q:List Int) (i lo:Int)(c:(List Int)->(List Int)->Int->Option ((List Int)×(List Int))) (d:List Int):Option ((List Int)×(List Int)) :=
 c d (q.set i.toNat lo) (av (i - 1))
def mj (N:Nat) (a b q:List Int) (i:Int)(c:(List Int)) (d:(List Int)->(List Int)->Int->Option ((List Int)×(List Int))):Nat->Int->Int->Option ((List Int)×(List Int))
 | 0,_,_=>none
 | fuel+1,lo,hi =>
  (cond (decide (lo < hi))
  (((qf N b ([(av ((av ((av (lo+hi))+1)).tdiv 2))]:List Int)).bind fun e =>
  ((sH N e c).bind fun f =>
  (cond (decide (f<=0))
  (mj N a b q i c d fuel (av ((av ((av (lo+hi))+1)).tdiv 2)) hi)
  (mj N a b q i c d fuel lo (av ((av ((av ((av (lo+hi))+1)).tdiv 2)) - 1)))))))
  ((if 0<=i/\i < (q.length:Int) then
  (cond (decide (lo > 0))
  (((qf N b ([lo]:List Int)).bind fun g =>
  ((wA N c g).bind fun h =>
  sI N a b q i lo d h)))
  (sI N a b q i lo d c))
  else none)))
def ml (N:Nat) (a b:List Int):Nat->(List Int)->(List Int)->Int->Option ((List Int)×(List Int))
 | 0,_,_,_=>none
 | fuel+1,rest,q,i =>
  (cond (decide (i>=0))
  ((if 0<=i/\i < (a.length:Int) then
  (if (1+rest.length) * 8<=140737488355328 then
  ((rP N (([(a.getD i.toNat 0)]:List Int) ++ rest)).bind fun c =>
  mj N a b q i c (ml N a b fuel) N 0 65535)
  else none)
  else none))
  (((rP N q).bind fun d =>
  some (d,rest))))
def tP (N:Nat) (a b:List Int):Option ((List Int)×(List Int)) :=
 (if 0<=(a.length:Int)/\(8:Int) * (a.length:Int)<=281474976710656/\(a.length:Int)<=9223372036854775807 then
 ml N a b N ([]:List Int) (List.replicate a.length 0:List Int) (av ((a.length:Int) - 1))
 else none)
def rQ (N:Nat):Nat->(List Int)->(List Int)->Option (List Int)
 | 0,_,_=>none
 | fuel+1,b,a =>
  (cond (decide ((a.length:Int) > 0))
  (((tP N b a).bind fun jC =>
  rQ N fuel a jC.2))
  (some b))
def Jx (N:Nat) (a b:List Int):Option (List Int) :=
 rQ N N a b
def vS (N:Nat) (a b:cj):Option ab :=
 ((mb N a.fL).bind fun d =>
 ((mb N b.fL).bind fun e =>
 (cond ((e.length:Int) == 0)
 (((jP N a.fG d).bind fun f =>
 ((Ey N 1).bind fun rOf =>
 some (⟨f,rOf⟩:ab))))
 (((Jx N d e).bind fun c =>
 ((tP N d c).bind fun jC =>
 ((tP N e c).bind fun g =>
 ((jP N (!(a.fG == b.fG)) jC.1).bind fun h =>
 ((jP N false g.1).bind fun i =>
 some (⟨h,i⟩:ab))))))))))
def mm (N:Nat) (x:ab):Option ab :=
 ((vS N x.fN x.fD).bind fun a =>
 some a)
def Jy (N:Nat) (a:cj):Option cj :=
 ((mb N a.fL).bind fun b =>
 ((jP N (!a.fG) b).bind fun c =>
 some c))
def uz (N:Nat) (x:ab):Option ab :=
 ((mm N x).bind fun b =>
 ((Jy N b.fN).bind fun a =>
 some (⟨a,b.fD⟩:ab)))
def wC (N:Nat) (a b:cj):Option cj :=
 ((mb N a.fL).bind fun c =>
 ((mb N b.fL).bind fun d =>
 ((qf N c d).bind fun e =>
 ((jP N (!(a.fG == b.fG)) e).bind fun f =>
 some f))))
def og (N:Nat) (a b:List Int):Nat->(List Int)->Int->Int->Option (List Int)
 | 0,_,_,_=>none
 | fuel+1,out,carry,i =>
  (cond (cond (cond (decide (i < (a.length:Int))) true (decide (i < (b.length:Int)))) true (decide (carry > 0)))
  (((rD N a i).bind fun c =>
  ((rD N b i).bind fun d =>
  (if (out.length+1) * 8<=140737488355328 then
  og N a b fuel (out ++ ([((av ((av (c+d))+carry)).tmod 65536)]:List Int)) (av ((av ((av (c+d))+carry)).tdiv 65536)) (av (i+1))
  else none))))
  (((rP N out).bind fun e =>
  some e)))
def FO (N:Nat) (a b:List Int):Option (List Int) :=
 og N a b N ([]:List Int) 0 0
def Jz (N:Nat) (a b:cj):Option cj :=
 ((mb N a.fL).bind fun c =>
 ((mb N b.fL).bind fun d =>
 (cond (a.fG == b.fG)
 (((FO N c d).bind fun e =>
 ((jP N a.fG e).bind fun f =>
 some f)))
 (((sH N c d).bind fun g =>
 (cond (decide (g>=0))
 (((wA N c d).bind fun h =>
 ((jP N a.fG h).bind fun i =>
 some i)))
 (((wA N d c).bind fun j =>
 ((jP N b.fG j).bind fun k =>
 some k)))))))))
def xD (N:Nat) (x y:ab):Option ab :=
 ((mm N x).bind fun a =>
 ((mm N y).bind fun b =>
 ((wC N a.fN b.fD).bind fun d =>
 ((wC N b.fN a.fD).bind fun e =>
 ((Jz N d e).bind fun c =>
 ((wC N a.fD b.fD).bind fun f =>
 ((vS N c f).bind fun g =>
 some g)))))))
def rR (N:Nat) (x y:ab):Option ab :=
 ((uz N y).bind fun a =>
 ((xD N x a).bind fun b =>
 some b))
def FP (N:Nat) (a:cj):Option Int :=
 ((mb N a.fL).bind fun b =>
 (cond ((b.length:Int) == 0)
 (some 0)
 ((cond a.fG
 (some (-1))
 (some 1)))))
def sK (N:Nat) (x:ab):Option Int :=
 ((mm N x).bind fun b =>
 ((FP N b.fN).bind fun a =>
 some a))
def rS (N:Nat) (x y:ab):Option Int :=
 ((rR N x y).bind fun a =>
 ((sK N a).bind fun b =>
 some b))
def xE (N:Nat) (x:ab) (low high:Int):Option Bool :=
 ((sm N low).bind fun b =>
 ((rS N x b).bind fun a =>
 ((cond (decide (a>=0)) (sm N high) (some ab.d)).bind fun c =>
 ((cond (decide (a>=0)) (rS N x c) (some 0)).bind fun d =>
 some (cond (decide (a>=0)) (decide (d<=0)) false)))))
def jl (N:Nat) (c:cO):Nat->Int->Option Int
 | 0,_=>none
 | fuel+1,i =>
  (cond (decide (i < (c.ah.length:Int)))
  ((if 0<=i/\i < (c.ah.length:Int) then
  (if ((!(decide ((c.ah.getD i.toNat 0) < (-10000000))))=true->0<=i/\i < (c.ah.length:Int)) then
  (if ((!(cond (decide ((c.ah.getD i.toNat 0) < (-10000000))) true (decide ((c.ah.getD i.toNat 0) > 10000000))))=true->0<=i/\i < (c.aA.length:Int)) then
  ((cond (!(cond (decide ((c.ah.getD i.toNat 0) < (-10000000))) true (decide ((c.ah.getD i.toNat 0) > 10000000)))) (sK N (⟨((c.aA.getD i.toNat ab.d).fN),((c.aA.getD i.toNat ab.d).fD)⟩:ab)) (some 0)).bind fun a =>
  (cond (cond (cond (decide ((c.ah.getD i.toNat 0) < (-10000000))) true (decide ((c.ah.getD i.toNat 0) > 10000000))) true (decide (a < 0)))
  (some 2)
  ((if ((decide (i > 0))=true->0<=i/\i < (c.ah.length:Int)) then
  (if ((decide (i > 0))=true->0<=(av (i - 1))/\(av (i - 1)) < (c.ah.length:Int)) then
  (cond (cond (decide (i > 0)) (decide ((c.ah.getD i.toNat 0)<=(c.ah.getD ((av (i - 1)).toNat) 0))) false)
  (some 10)
  (jl N c fuel (av (i+1))))
  else none)
  else none))))
  else none)
  else none)
  else none))
  (some 0))
def qT (N:Nat) (c:cO):Option Int :=
 (cond (decide ((c.ah.length:Int) > 40))
 (some 8)
 ((cond ((c.aA.length:Int) != (c.ah.length:Int))
 (some 11)
 (jl N c N 0))))
def ln (N:Nat) (l:List af):Nat->Int->Option Int
 | 0,_=>none
 | fuel+1,i =>
  (cond (decide (i < (l.length:Int)))
  ((if 0<=i/\i < (l.length:Int) then
  (if ((!(decide ((l.getD i.toNat af.d).z9 < (-1000000))))=true->0<=i/\i < (l.length:Int)) then
  (if ((!(cond (decide ((l.getD i.toNat af.d).z9 < (-1000000))) true (decide ((l.getD i.toNat af.d).z9 > 1000000))))=true->0<=i/\i < (l.length:Int)) then
  ((cond (!(cond (decide ((l.getD i.toNat af.d).z9 < (-1000000))) true (decide ((l.getD i.toNat af.d).z9 > 1000000)))) (xE N (⟨(((l.getD i.toNat af.d).Rp).fN),(((l.getD i.toNat af.d).Rp).fD)⟩:ab) (-10000000) 10000000) (some false)).bind fun b =>
  (cond (cond (cond (decide ((l.getD i.toNat af.d).z9 < (-1000000))) true (decide ((l.getD i.toNat af.d).z9 > 1000000))) true (!b))
  (some 2)
  (((qT N ((l.getD i.toNat af.d).aY)).bind fun a =>
  (cond (a != 0)
  (some a)
  (ln N l fuel (av (i+1))))))))
  else none)
  else none)
  else none))
  (some 0))
def H5 (N:Nat) (l:List af):Option Int :=
 (cond (decide ((l.length:Int) > 100))
 (some 8)
 (ln N l N 0))
def nw (N:Nat) (b:cW):Option Int :=
 ((cond (!(cond (decide (b.dW < 1)) true (decide (b.dW > 1000000000)))) (xE N b.BH (-1000000) 1000000) (some false)).bind fun a =>
 (cond (cond (cond (decide (b.dW < 1)) true (decide (b.dW > 1000000000))) true (!a))
 (some 2)
 (((H5 N b.ag).bind fun c =>
 some c))))
def jJ (N:Nat) (n i:Int) (x:ab) (k:Int)(a:(List ab)->Int->Option (List ab)) (b:List ab):Option (List ab) :=
 a b (av (k+1))
def fT (N:Nat) (n i:Int) (x:ab):Nat->(List ab)->Int->Option (List ab)
 | 0,_,_=>none
 | fuel+1,out,k =>
  (cond (decide (k < n))
  ((cond (k == i)
  ((if (out.length+1) * 64<=140737488355328 then
  jJ N n i x k (fT N n i x fuel) (out ++ ([x]:List ab))
  else none))
  (((sm N 0).bind fun a =>
  (if (out.length+1) * 64<=140737488355328 then
  jJ N n i x k (fT N n i x fuel) (out ++ ([a]:List ab))
  else none)))))
  (some out))
def ly (N:Nat) (n i:Int) (x:ab):Option (List ab) :=
 fT N n i x N ([]:List ab) 0
def KI (N:Nat) (x y:ab):Option ab :=
 ((rR N x y).bind fun a =>
 some a)
def BV (N:Nat) (x:ab):Option Int :=
 ((sm N 0).bind fun a =>
 ((rS N x a).bind fun b =>
 some b))
def xF (N:Nat) (x y:ab):Option ab :=
 ((mm N x).bind fun a =>
 ((mm N y).bind fun b =>
 ((wC N a.fN b.fN).bind fun c =>
 ((wC N a.fD b.fD).bind fun d =>
 ((vS N c d).bind fun e =>
 some e)))))
def H6 (N:Nat) (x y:ab):Option ab :=
 ((xF N x y).bind fun a =>
 some a)
def KJ (N:Nat) (x y:ab):Option ab :=
 ((xD N x y).bind fun a =>
 some a)
def qU (N:Nat) (c:cO) (y:ab) (i:Int) (a:ab->Int->Option ab) (b:ab):Option ab :=
 a b (av (i+1))
def tQ (N:Nat) (c:cO) (y sum:ab) (i:Int) (b:ab->Int->Option ab) (top:ab):Option ab :=
 (if 0<=i/\i < (c.ah.length:Int) then
 ((sm N (c.ah.getD i.toNat 0)).bind fun d =>
 ((KI N top d).bind fun a =>
 ((BV N a).bind fun dL =>
 (cond (decide (dL > 0))
 ((if 0<=i/\i < (c.aA.length:Int) then
 ((H6 N (⟨((c.aA.getD i.toNat ab.d).fN),((c.aA.getD i.toNat ab.d).fD)⟩:ab) a).bind fun e =>
 ((KJ N sum e).bind fun f =>
 qU N c y i b f))
 else none))
 (qU N c y i b sum)))))
 else none)
def iY (N:Nat) (c:cO) (y:ab):Nat->ab->Int->Option ab
 | 0,_,_=>none
 | fuel+1,sum,i =>
  (cond (decide (i < (c.ah.length:Int)))
  ((if ((decide ((av (i+1)) < (c.ah.length:Int)))=true->0<=(av (i+1))/\(av (i+1)) < (c.ah.length:Int)) then
  ((cond (decide ((av (i+1)) < (c.ah.length:Int))) (sm N (c.ah.getD ((av (i+1)).toNat) 0)) (some ab.d)).bind fun b =>
  ((cond (decide ((av (i+1)) < (c.ah.length:Int))) (rS N y b) (some 0)).bind fun d =>
  (cond (cond (decide ((av (i+1)) < (c.ah.length:Int))) (decide (d > 0)) false)
  ((if 0<=(av (i+1))/\(av (i+1)) < (c.ah.length:Int) then
  ((sm N (c.ah.getD ((av (i+1)).toNat) 0)).bind fun a =>
  tQ N c y sum i (iY N c y fuel) a)
  else none))
  (tQ N c y sum i (iY N c y fuel) y))))
  else none))
  (some sum))
def CQ (N:Nat) (c:cO) (y:ab):Option ab :=
 ((sm N 0).bind fun a =>
 iY N c y N a 0)
def BW (N:Nat) (c:cO):Option (ab×Bool) :=
 (cond ((c.ah.length:Int) == 0)
 (((sm N 0).bind fun b =>
 some (b,true)))
 ((if 0<=(av ((c.ah.length:Int) - 1))/\(av ((c.ah.length:Int) - 1)) < (c.ah.length:Int) then
 ((sm N (c.ah.getD ((av ((c.ah.length:Int) - 1)).toNat) 0)).bind fun d =>
 ((CQ N c d).bind fun a =>
 (if 0<=(av ((c.ah.length:Int) - 1))/\(av ((c.ah.length:Int) - 1)) < (c.aA.length:Int) then
 ((BV N (⟨((c.aA.getD ((av ((c.ah.length:Int) - 1)).toNat) ab.d).fN),((c.aA.getD ((av ((c.ah.length:Int) - 1)).toNat) ab.d).fD)⟩:ab)).bind fun dL =>
 some (a,(dL == 0)))
 else none)))
 else none)))
def fk (N:Nat) (b:cW) (i:Int)(a:(List bw)->Int->Option (List bw)) (c:List bw):Option (List bw) :=
 a c (av (i+1))
def fm (N:Nat) (b:cW) (out:List bw) (c e:ab):Nat->(List ab)->(List ab)->(List ab)->(List ab)->Int->Option (List bw)
 | 0,_,_,_,_,_=>none
 | fuel+1,d,f,less,back,a =>
  (cond (decide (a < (b.ag.length:Int)))
  ((if 0<=a/\a < (b.ag.length:Int) then
  ((sm N 1).bind fun g =>
  (if (d.length+1) * 64<=140737488355328 then
  ((sm N ((b.ag.getD a.toNat af.d).z9)).bind fun h =>
  (if (f.length+1) * 64<=140737488355328 then
  ((sm N (-1)).bind fun i =>
  (if (less.length+1) * 64<=140737488355328 then
  ((sm N (av (0 - (b.ag.getD a.toNat af.d).z9))).bind fun j =>
  (if (back.length+1) * 64<=140737488355328 then
  fm N b out c e fuel (d ++ ([g]:List ab)) (f ++ ([h]:List ab)) (less ++ ([i]:List ab)) (back ++ ([j]:List ab)) (av (a+1))
  else none))
  else none))
  else none))
  else none))
  else none))
  (((uz N c).bind fun k =>
  (if (out.length+2) * 88<=140737488355328 then
  ((uz N e).bind fun l =>
  (if ((out ++ ([(⟨d,c⟩:bw),(⟨less,k⟩:bw)]:List bw)).length+2) * 88<=140737488355328 then
  some ((out ++ ([(⟨d,c⟩:bw),(⟨less,k⟩:bw)]:List bw)) ++ ([(⟨f,e⟩:bw),(⟨back,l⟩:bw)]:List bw))
  else none))
  else none))))
def cD (N:Nat) (b:cW):Nat->(List bw)->Int->Option (List bw)
 | 0,_,_=>none
 | fuel+1,out,i =>
  (cond (decide (i < (b.ag.length:Int)))
  (((sm N (-1)).bind fun g =>
  ((ly N (b.ag.length:Int) i g).bind fun a =>
  ((sm N 0).bind fun c =>
  (if (out.length+1) * 88<=140737488355328 then
  (if 0<=i/\i < (b.ag.length:Int) then
  ((BW N ((b.ag.getD i.toNat af.d).aY)).bind fun e =>
  (cond e.2
  (((sm N 1).bind fun d =>
  ((ly N (b.ag.length:Int) i d).bind fun h =>
  (if ((out ++ ([(⟨a,c⟩:bw)]:List bw)).length+1) * 88<=140737488355328 then
  fk N b i (cD N b fuel) ((out ++ ([(⟨a,c⟩:bw)]:List bw)) ++ ([(⟨h,e.1⟩:bw)]:List bw))
  else none))))
  (fk N b i (cD N b fuel) (out ++ ([(⟨a,c⟩:bw)]:List bw)))))
  else none)
  else none)))))
  (((sm N b.dW).bind fun f =>
  ((xF N f b.BH).bind fun j =>
  fm N b out f j N ([]:List ab) ([]:List ab) ([]:List ab) ([]:List ab) 0))))
def nb (N:Nat) (b:cW):Option (List bw) :=
 cD N b N ([]:List bw) 0
def mJ (N:Nat) (b:cW):Option ((List ab)×Int) :=
 ((gR N b).bind fun a =>
 (cond (a != 0)
 (some (([]:List ab),a))
 (((oU N b).bind fun c =>
 (cond (c.2 != 0)
 (some (([]:List ab),c.2))
 (((lj N b).bind fun e =>
 ((na N b.ag e).bind fun d =>
 some (d.1,d.2)))))))))
def tR (N:Nat) (c x:List ab):Nat->ab->Int->Option ab
 | 0,_,_=>none
 | fuel+1,sum,a =>
  (cond (decide (a < (c.length:Int)))
  ((if 0<=a/\a < (c.length:Int) then
  (if 0<=a/\a < (x.length:Int) then
  ((bR N (⟨((c.getD a.toNat ab.d).fN),((c.getD a.toNat ab.d).fD)⟩:ab) (⟨((x.getD a.toNat ab.d).fN),((x.getD a.toNat ab.d).fD)⟩:ab)).bind fun b =>
  ((bG N sum b).bind fun d =>
  tR N c x fuel d (av (a+1))))
  else none)
  else none))
  (some sum))
def Qw (N:Nat) (c x:List ab):Option ab :=
 ((fc N 0).bind fun a =>
 tR N c x N a 0)
def vG (N:Nat) (b:bw) (c:List ab):Option Bool :=
 ((Qw N b.fx c).bind fun a =>
 ((iQ N a b.mW).bind fun d =>
 some (decide (d > 0))))
def dz (N:Nat) (s:List bw) (a:List ab):Nat->Int->Option Int
 | 0,_=>none
 | fuel+1,x =>
  (cond (decide (x < (s.length:Int)))
  ((if 0<=x/\x < (s.length:Int) then
  ((vG N (s.getD x.toNat bw.d) a).bind fun b =>
  (cond b
  (some x)
  (dz N s a fuel (av (x+1)))))
  else none))
  (some (-1)))
def pB (N:Nat) (s:List bw) (a:List ab):Option Int :=
 dz N s a N 0
def nz (N:Nat) (s:List bw) (a:List ab):Option Bool :=
 ((pB N s a).bind fun b =>
 some (decide (b>=0)))
def za (N:Nat) (l:List bw) (a:List ab):Option Bool :=
 ((nz N l a).bind fun b =>
 some (!b))
def xG (N:Nat) (l:List bw) (a:List ab):Option Int :=
 ((qo N (a.length:Int) l).bind fun b =>
 (cond (b != 0)
 (some b)
 (((za N l a).bind fun c =>
 (cond (!c)
 (some 24)
 (some 0))))))
def nc (N:Nat) (b:cW) (c:az):Option Int :=
 ((gR N b).bind fun a =>
 (cond (a != 0)
 (some a)
 (((kA N b c).bind fun d =>
 (cond (!d)
 (some 24)
 (some 0))))))
def lB (N:Nat) (l:List bw) (y:List ab) (bound:ab) (a:Int)(d:(List ab)->ab->Int->Option ((List ab)×ab×Bool)):Nat->(List ab)->Int->Option ((List ab)×ab×Bool)
 | 0,_,_=>none
 | fuel+1,c,b =>
  (cond (decide (b < ((((l.getD a.toNat bw.d).fx).length:Nat):Int)))
  ((if 0<=b/\b < ((((l.getD a.toNat bw.d).fx).length:Nat):Int) then
  (if 0<=b/\b < (c.length:Int) then
  (if 0<=a/\a < (y.length:Int) then
  ((bR N (⟨((y.getD a.toNat ab.d).fN),((y.getD a.toNat ab.d).fD)⟩:ab) (⟨((((l.getD a.toNat bw.d).fx).getD b.toNat ab.d).fN),((((l.getD a.toNat bw.d).fx).getD b.toNat ab.d).fD)⟩:ab)).bind fun e =>
  ((bG N (⟨((c.getD b.toNat ab.d).fN),((c.getD b.toNat ab.d).fD)⟩:ab) e).bind fun f =>
  lB N l y bound a d fuel (c.set b.toNat f) (av (b+1))))
  else none)
  else none)
  else none))
  ((if 0<=a/\a < (y.length:Int) then
  ((bR N (⟨((y.getD a.toNat ab.d).fN),((y.getD a.toNat ab.d).fD)⟩:ab) (⟨(((l.getD a.toNat bw.d).mW).fN),(((l.getD a.toNat bw.d).mW).fD)⟩:ab)).bind fun g =>
  ((bG N bound g).bind fun h =>
  d c h (av (a+1))))
  else none)))
def iZ (N:Nat) (l:List bw) (y:List ab):Nat->(List ab)->ab->Int->Option ((List ab)×ab×Bool)
 | 0,_,_,_=>none
 | fuel+1,b,bound,a =>
  (cond (decide (a < (l.length:Int)))
  ((if 0<=a/\a < (l.length:Int) then
  (if 0<=a/\a < (y.length:Int) then
  ((l8 N (⟨((y.getD a.toNat ab.d).fN),((y.getD a.toNat ab.d).fD)⟩:ab)).bind fun c =>
  (cond (decide (c < 0))
  (some (([]:List ab),bound,false))
  (lB N l y bound a (iZ N l y fuel) N b 0)))
  else none)
  else none))
  (some (b,bound,true)))
def lC (N:Nat) (n:Int) (l:List bw) (y:List ab):Nat->(List ab)->Int->Option ((List ab)×ab×Bool)
 | 0,_,_=>none
 | fuel+1,a,x =>
  (cond (decide (x < (((List.replicate n.toNat ab.d:List ab).length:Nat):Int)))
  (((fc N 0).bind fun b =>
  (if 0<=x/\x < (a.length:Int) then
  lC N n l y fuel (a.set x.toNat b) (av (x+1))
  else none)))
  (((fc N 0).bind fun c =>
  iZ N l y N a c 0)))
def Bc (N:Nat) (n:Int) (l:List bw) (y:List ab):Option ((List ab)×ab×Bool) :=
 (if 0<=n/\(64:Int) * n<=281474976710656/\n<=9223372036854775807 then
 lC N n l y N (List.replicate n.toNat ab.d:List ab) 0
 else none)
def mo (N:Nat) (x:ab):Option Bool :=
 ((jv N x).bind fun a =>
 some (!a))
def dA (N:Nat) (s:List ab):Nat->Int->Option Int
 | 0,_=>none
 | fuel+1,x =>
  (cond (decide (x < (s.length:Int)))
  ((if 0<=x/\x < (s.length:Int) then
  ((mo N (⟨((s.getD x.toNat ab.d).fN),((s.getD x.toNat ab.d).fD)⟩:ab)).bind fun a =>
  (cond a
  (some x)
  (dA N s fuel (av (x+1)))))
  else none))
  (some (-1)))
def pC (N:Nat) (s:List ab):Option Int :=
 dA N s N 0
def lP (N:Nat) (s:List ab):Option Bool :=
 ((pC N s).bind fun a =>
 some (decide (a>=0)))
def nU (N:Nat) (n:Int) (l:List bw) (b:List ab):Option Int :=
 ((qo N n l).bind fun c =>
 (cond (c != 0)
 (some c)
 ((cond ((b.length:Int) != (l.length:Int))
 (some 11)
 (((Bc N n l b).bind fun a =>
 ((cond (!(!a.2.2)) (l8 N a.2.1) (some 0)).bind fun d =>
 ((cond (!(cond (!a.2.2) true (decide (d>=0)))) (lP N a.1) (some false)).bind fun e =>
 (cond (cond (cond (!a.2.2) true (decide (d>=0))) true e)
 (some 24)
 (some 0))))))))))
def fz (N:Nat) (b:cW):Option Bool :=
 ((lO N).bind fun g =>
 (cond (!g)
 (some false)
 (((FN N b).bind fun e =>
 ((cond (!(cond (!e) true (decide ((b.ag.length:Int) > 8)))) (nw N b) (some 0)).bind fun h =>
 (cond (cond (cond (!e) true (decide ((b.ag.length:Int) > 8))) true (h != 0))
 (some true)
 (((nb N b).bind fun a =>
 ((mJ N b).bind fun d =>
 ((xy N (b.ag.length:Int) a).bind fun c =>
 (cond (d.2 == 0)
 (((cond (cond (c.2.2 == 0) (((d.1.length:Nat):Int) == (b.ag.length:Int)) false) (xG N a d.1) (some 0)).bind fun i =>
 some (cond (cond (c.2.2 == 0) (((d.1.length:Nat):Int) == (b.ag.length:Int)) false) (i == 0) false)))
 ((cond (cond (cond (cond (d.2 != 12) (d.2 != 13) false) true (c.2.2 != 29)) true (((c.2.1.length:Nat):Int) != (a.length:Int)))
 (some false)
 ((if 0<=(av ((av ((a.length:Int) - 4))+1))/\(av ((av ((a.length:Int) - 4))+1)) < ((c.2.1.length:Nat):Int) then
 (if 0<=(av ((a.length:Int) - 4))/\(av ((a.length:Int) - 4)) < ((c.2.1.length:Nat):Int) then
 ((rR N (⟨((c.2.1.getD ((av ((av ((a.length:Int) - 4))+1)).toNat) ab.d).fN),((c.2.1.getD ((av ((av ((a.length:Int) - 4))+1)).toNat) ab.d).fD)⟩:ab) (⟨((c.2.1.getD ((av ((a.length:Int) - 4)).toNat) ab.d).fN),((c.2.1.getD ((av ((a.length:Int) - 4)).toNat) ab.d).fD)⟩:ab)).bind fun j =>
 (if 0<=(av ((av ((a.length:Int) - 4))+3))/\(av ((av ((a.length:Int) - 4))+3)) < ((c.2.1.length:Nat):Int) then
 (if 0<=(av ((av ((a.length:Int) - 4))+2))/\(av ((av ((a.length:Int) - 4))+2)) < ((c.2.1.length:Nat):Int) then
 ((rR N (⟨((c.2.1.getD ((av ((av ((a.length:Int) - 4))+3)).toNat) ab.d).fN),((c.2.1.getD ((av ((av ((a.length:Int) - 4))+3)).toNat) ab.d).fD)⟩:ab) (⟨((c.2.1.getD ((av ((av ((a.length:Int) - 4))+2)).toNat) ab.d).fN),((c.2.1.getD ((av ((av ((a.length:Int) - 4))+2)).toNat) ab.d).fD)⟩:ab)).bind fun k =>
 ((nc N b (⟨j,k⟩:az)).bind fun f =>
 ((cond (f == 0) (nU N (b.ag.length:Int) a c.2.1) (some 0)).bind fun l =>
 some (cond (f == 0) (l == 0) false))))
 else none)
 else none))
 else none)
 else none)))))))))))))))
end Go.Den
