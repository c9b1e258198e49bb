/- The functions of the program as Lean functions, each in the Option monad; N bounds the rounds of loops. No conditions. -/
import Derived.Test.YtlgddcmiekcdiaaGreatCd
set_option linter.unusedVariables false
set_option linter.unusedSimpArgs false
set_option linter.unusedVariables false
namespace Go.Den
open Go.Ab
abbrev zA (s:ByteArray) (x:Int):Int:=xi s x.toNat
structure bd where
 fG:Bool
 fL:List Int
def bd.d:bd:=⟨false,[]⟩
def bd.wf (x:bd):Prop:=wB x.fG∧(wL (wK .u16)) x.fL
def jr (x:bd):List AV:=[(aB x.fG),(aD (cU .u16) 0 x.fL)]
structure aa where
 fN:bd
 fD:bd
def aa.d:aa:=⟨bd.d,bd.d⟩
def aa.wf (x:aa):Prop:=bd.wf x.fN∧bd.wf x.fD
def ai (x:aa):List AV:=[(aB x.fN.fG),(aD (cU .u16) 0 x.fN.fL),(aB x.fD.fG),(aD (cU .u16) 0 x.fD.fL)]
structure ag where
 iz:List aa
 mm:aa
def ag.d:ag:=⟨[],aa.d⟩
def ag.wf (x:ag):Prop:=(wL aa.wf) x.iz∧aa.wf x.mm
def uf (x:ag):List AV:=[(aD ai aa.d x.iz),(aB x.mm.fN.fG),(aD (cU .u16) 0 x.mm.fN.fL),(aB x.mm.fD.fG),(aD (cU .u16) 0 x.mm.fD.fL)]
structure jX where
 uD:Int
 uE:Int
 iA:List Int
 lf:List Int
 FO:List (List aa)
 FP:List aa
 dr:List aa
 aj:aa
 bH:Int
def jX.d:jX:=⟨0,0,[],[],[],[],[],aa.d,0⟩
def jX.wf (x:jX):Prop:=wI x.uD∧wI x.uE∧(wL wI) x.iA∧(wL wI) x.lf∧(wL (wL aa.wf)) x.FO∧(wL aa.wf) x.FP∧(wL aa.wf) x.dr∧aa.wf x.aj∧wI x.bH
def jX.cells (x:jX):List AV:=[(aI x.uD),(aI x.uE),(aD cI 0 x.iA),(aD cI 0 x.lf),(aD (fun x=>[aD ai aa.d x]) [] x.FO),(aD ai aa.d x.FP),(aD ai aa.d x.dr),(aB x.aj.fN.fG),(aD (cU .u16) 0 x.aj.fN.fL),(aB x.aj.fD.fG),(aD (cU .u16) 0 x.aj.fD.fL),(aI x.bH)]
structure ao where
 p9:ByteArray
 q7:Int
 uR:Int
 iJ:Int
 lY:Int
 tv:Int
def ao.d:ao:=⟨ByteArray.empty,0,0,0,0,0⟩
def ao.wf (x:ao):Prop:=wS x.p9∧wI x.q7∧wI x.uR∧wI x.iJ∧wI x.lY∧wI x.tv
def ao.cells (x:ao):List AV:=[(aS x.p9),(aI x.q7),(aI x.uR),(aI x.iJ),(aI x.lY),(aI x.tv)]
structure dE where
 q7:Int
 uR:Int
 rC:Int
def dE.d:dE:=⟨0,0,0⟩
def dE.wf (x:dE):Prop:=wI x.q7∧wI x.uR∧wI x.rC
def dE.cells (x:dE):List AV:=[(aI x.q7),(aI x.uR),(aI x.rC)]
structure aN where
 aH:Bool
 bG:List aa
 dI:List aa
def aN.d:aN:=⟨false,[],[]⟩
def aN.wf (x:aN):Prop:=wB x.aH∧(wL aa.wf) x.bG∧(wL aa.wf) x.dI
def aN.cells (x:aN):List AV:=[(aB x.aH),(aD ai aa.d x.bG),(aD ai aa.d x.dI)]
structure aq where
 e0:aa
 e1:aa
 e2:aa
def aq.d:aq:=⟨aa.d,aa.d,aa.d⟩
def aq.wf (x:aq):Prop:=aa.wf x.e0∧aa.wf x.e1∧aa.wf x.e2
def aq.cells (x:aq):List AV:=[(aB x.e0.fN.fG),(aD (cU .u16) 0 x.e0.fN.fL),(aB x.e0.fD.fG),(aD (cU .u16) 0 x.e0.fD.fL),(aB x.e1.fN.fG),(aD (cU .u16) 0 x.e1.fN.fL),(aB x.e1.fD.fG),(aD (cU .u16) 0 x.e1.fD.fL),(aB x.e2.fN.fG),(aD (cU .u16) 0 x.e2.fN.fL),(aB x.e2.fD.fG),(aD (cU .u16) 0 x.e2.fD.fL)]
structure w7 where
 Lq:Int
 Lr:Int
def w7.d:w7:=⟨0,0⟩
def w7.wf (x:w7):Prop:=wI x.Lq∧wI x.Lr
def w7.cells (x:w7):List AV:=[(aI x.Lq),(aI x.Lr)]
structure zF where
 p9:ByteArray
 IT:List w7
 Ox:Int
def zF.d:zF:=⟨ByteArray.empty,[],0⟩
def zF.wf (x:zF):Prop:=wS x.p9∧(wL w7.wf) x.IT∧wI x.Ox
def zF.cells (x:zF):List AV:=[(aS x.p9),(aD w7.cells w7.d x.IT),(aI x.Ox)]
def oG (N:Nat) (vr:ag) (C0:Int):Option (Bool) :=
 some (decide (((vr.iz.length:Nat):Int) > C0))
def dM (N:Nat) (s:List ag) (C0:Int):Nat→Int→Option (Int)
 | 0,_=>none
 | fuel+1,x =>
  (cond (decide (x < ((s.length:Nat):Int)))
  ((if 0≤x∧x < ((s.length:Nat):Int) then
  ((oG N (s.getD ((x).toNat) ag.d) C0).bind fun vp =>
  (cond vp
  (some x)
  (dM N s C0 fuel (ah (x+1)))))
  else none))
  (some (-1)))
def jY (N:Nat) (s:List ag) (C0:Int):Option (Int) :=
 dM N s C0 N 0
def iK (N:Nat) (s:List ag) (C0:Int):Option (Bool) :=
 ((jY N s C0).bind fun HJ =>
 some (decide (HJ≥0)))
def rD (N:Nat) (n:Int) (l:List ag):Option (Int) :=
 (cond (cond (decide (n < 0)) true (decide (n > 12)))
 (some 2)
 ((cond (decide (((l.length:Nat):Int) > 40))
 (some 8)
 (((iK N l n).bind fun HJ =>
 (cond HJ
 (some 11)
 (some 0)))))))
def ic (N:Nat):Nat→Int→(List Int)→Option ((List Int))
 | 0,_,_=>none
 | fuel+1,n2,out =>
  (cond (decide (n2 > 0))
  ((if (out.length+1) * 2≤140737488355328 then
  ic N fuel (mH .u64 n2 16) (out ++ ([(IntKind.u16.wrap (n2))]:List Int))
  else none))
  (some out))
def lg (N:Nat) (n:Int):Option ((List Int)) :=
 ic N N n ([]:List Int)
def lh (N:Nat):Nat→(List Int)→Option ((List Int))
 | 0,_=>none
 | fuel+1,n2 =>
  (if ((decide (((n2.length:Nat):Int) > 0))=true→0≤(ah (((n2.length:Nat):Int) - 1))∧(ah (((n2.length:Nat):Int) - 1)) < ((n2.length:Nat):Int)) then
  (cond (cond (decide (((n2.length:Nat):Int) > 0)) ((n2.getD ((ah (((n2.length:Nat):Int) - 1)).toNat) 0) == 0) false)
  ((if 0≤(ah (((n2.length:Nat):Int) - 1)).toNat∧(ah (((n2.length:Nat):Int) - 1)).toNat≤n2.length then
  (if 0≤(ah (((n2.length:Nat):Int) - 1)) then
  lh N fuel ((n2.take ((ah (((n2.length:Nat):Int) - 1)).toNat)).drop 0)
  else none)
  else none))
  (some n2))
  else none)
def eR (N:Nat) (n:List Int):Option ((List Int)) :=
 lh N N n
def cx (N:Nat) (s:List Int):Option ((List Int)) :=
 (if (0+s.length) * 2≤140737488355328 then
 some (([]:List Int) ++ s)
 else none)
def gz (N:Nat) (neg:Bool) (n:List Int):Option (bd) :=
 ((eR N n).bind fun bA =>
 (cond (((bA.length:Nat):Int) == 0)
 (some (⟨false,([]:List Int)⟩:bd))
 (((cx N bA).bind fun xx =>
 some (⟨neg,xx⟩:bd)))))
def zG (N:Nat) (n:Int):Option (bd) :=
 (cond (decide (n < 0))
 (((lg N (IntKind.u64.wrap (0 - (IntKind.u64.wrap (n))))).bind fun qa =>
 ((gz N true qa).bind fun HK =>
 some HK)))
 (((lg N (IntKind.u64.wrap (n))).bind fun zH =>
 ((gz N false zH).bind fun Cr =>
 some Cr))))
def jS (N:Nat) (n:List Int):Nat→Int→Int→Option (Int×Bool)
 | 0,_,_=>none
 | fuel+1,out,i =>
  (cond (decide (i≥0))
  ((if 0≤i∧i < ((n.length:Nat):Int) then
  jS N n fuel (q0 .u64 (fh .u64 out 16) (IntKind.u64.wrap ((n.getD ((i).toNat) 0)))) (ah (i - 1))
  else none))
  (some (out,true)))
def sn (N:Nat) (n:List Int):Option (Int×Bool) :=
 (cond (decide (((n.length:Nat):Int) > 4))
 (some (0,false))
 (jS N n N 0 (ah (((n.length:Nat):Int) - 1))))
def fZ (N:Nat) (a:List Int) (b:List Int):Nat→Int→Option (Int)
 | 0,_=>none
 | fuel+1,i =>
  (cond (decide (i≥0))
  ((if 0≤i∧i < ((a.length:Nat):Int) then
  (if 0≤i∧i < ((b.length:Nat):Int) then
  (cond ((a.getD ((i).toNat) 0) != (b.getD ((i).toNat) 0))
  (some (ah ((ah ((a.getD ((i).toNat) 0))) - (ah ((b.getD ((i).toNat) 0))))))
  (fZ N a b fuel (ah (i - 1))))
  else none)
  else none))
  (some 0))
def lj (N:Nat) (a:List Int) (b:List Int):Option (Int) :=
 (cond (((a.length:Nat):Int) != ((b.length:Nat):Int))
 (some (ah (((a.length:Nat):Int) - ((b.length:Nat):Int))))
 (fZ N a b N (ah (((a.length:Nat):Int) - 1))))
def jb (N:Nat) (a:List Int) (b:Int):Nat→(List Int)→Int→Int→Option ((List Int)×Int)
 | 0,_,_,_=>none
 | fuel+1,q,rest,i =>
  (cond (decide (i≥0))
  ((if 0≤i∧i < ((a.length:Nat):Int) then
  (if ((IntKind.u32.wrap (b)):Int)≠0 then
  (if 0≤i∧i < ((q.length:Nat):Int) then
  jb N a b fuel (q.set ((i).toNat) (IntKind.u16.wrap ((IntKind.u32.wrap ((q0 .u32 (fh .u32 rest 16) (IntKind.u32.wrap ((a.getD ((i).toNat) 0)))).tdiv (IntKind.u32.wrap (b))))))) ((q0 .u32 (fh .u32 rest 16) (IntKind.u32.wrap ((a.getD ((i).toNat) 0)))).tmod (IntKind.u32.wrap (b))) (ah (i - 1))
  else none)
  else none)
  else none))
  (((eR N q).bind fun bA =>
  some (bA,(IntKind.u16.wrap (rest))))))
def sq (N:Nat) (a:List Int) (b:Int):Option ((List Int)×Int) :=
 (if 0≤((a.length:Nat):Int)∧(2:Int) * ((a.length:Nat):Int)≤281474976710656∧((a.length:Nat):Int)≤9223372036854775807 then
 jb N a b N (List.replicate a.length 0:List Int) 0 (ah (((a.length:Nat):Int) - 1))
 else none)
def bM (N:Nat) (x2:Int) (n:Int):Option (Int) :=
 (if 0≤(IntKind.u8.wrap (x2))∧(IntKind.u8.wrap (x2)) < (((⟨#[0,1,2,2,3,3,3,3,4,4,4,4,4,4,4,4,5,5,5,5,5,5,5,5,5,5,5,5,5,5,5,5,6,6,6,6,6,6,6,6,6,6,6,6,6,6,6,6,6,6,6,6,6,6,6,6,6,6,6,6,6,6,6,6,7,7,7,7,7,7,7,7,7,7,7,7,7,7,7,7,7,7,7,7,7,7,7,7,7,7,7,7,7,7,7,7,7,7,7,7,7,7,7,7,7,7,7,7,7,7,7,7,7,7,7,7,7,7,7,7,7,7,7,7,7,7,7,7,8,8,8,8,8,8,8,8,8,8,8,8,8,8,8,8,8,8,8,8,8,8,8,8,8,8,8,8,8,8,8,8,8,8,8,8,8,8,8,8,8,8,8,8,8,8,8,8,8,8,8,8,8,8,8,8,8,8,8,8,8,8,8,8,8,8,8,8,8,8,8,8,8,8,8,8,8,8,8,8,8,8,8,8,8,8,8,8,8,8,8,8,8,8,8,8,8,8,8,8,8,8,8,8,8,8,8,8,8,8,8,8,8,8,8,8,8,8,8,8,8,8,8,8,8,8,8,8]⟩:ByteArray).size:Nat):Int) then
 some (ah (n+(ah ((xi (⟨#[0,1,2,2,3,3,3,3,4,4,4,4,4,4,4,4,5,5,5,5,5,5,5,5,5,5,5,5,5,5,5,5,6,6,6,6,6,6,6,6,6,6,6,6,6,6,6,6,6,6,6,6,6,6,6,6,6,6,6,6,6,6,6,6,7,7,7,7,7,7,7,7,7,7,7,7,7,7,7,7,7,7,7,7,7,7,7,7,7,7,7,7,7,7,7,7,7,7,7,7,7,7,7,7,7,7,7,7,7,7,7,7,7,7,7,7,7,7,7,7,7,7,7,7,7,7,7,7,8,8,8,8,8,8,8,8,8,8,8,8,8,8,8,8,8,8,8,8,8,8,8,8,8,8,8,8,8,8,8,8,8,8,8,8,8,8,8,8,8,8,8,8,8,8,8,8,8,8,8,8,8,8,8,8,8,8,8,8,8,8,8,8,8,8,8,8,8,8,8,8,8,8,8,8,8,8,8,8,8,8,8,8,8,8,8,8,8,8,8,8,8,8,8,8,8,8,8,8,8,8,8,8,8,8,8,8,8,8,8,8,8,8,8,8,8,8,8,8,8,8,8,8,8,8,8,8]⟩:ByteArray) ((IntKind.u8.wrap (x2)).toNat))))))
 else none)
def jc (N:Nat) (x:Int):Option (Int) :=
 (cond (decide (x≥256))
 (bM N (mH .u16 x 8) 8)
 (bM N x 0))
def du (N:Nat) (x:Int):Option (Int) :=
 ((jc N x).bind fun HL =>
 some (ah (16 - HL)))
def gf (N:Nat) (a:List Int) (wG:Int):Nat→(List Int)→Int→Option ((List Int))
 | 0,_,_=>none
 | fuel+1,out,x =>
  (cond (decide (x < ((a.length:Nat):Int)))
  ((if 0≤x∧x < ((a.length:Nat):Int) then
  (if (0:Int)≤wG then
  (if 0≤x∧x < ((out.length:Nat):Int) then
  (if 0≤(ah (x+1))∧(ah (x+1)) < (((out.set ((x).toNat) (q0 .u16 (out.getD ((x).toNat) 0) (IntKind.u16.wrap ((fh .u32 (IntKind.u32.wrap ((a.getD ((x).toNat) 0))) wG))))).length:Nat):Int) then
  gf N a wG fuel ((out.set ((x).toNat) (q0 .u16 (out.getD ((x).toNat) 0) (IntKind.u16.wrap ((fh .u32 (IntKind.u32.wrap ((a.getD ((x).toNat) 0))) wG))))).set ((ah (x+1)).toNat) (IntKind.u16.wrap ((mH .u32 (fh .u32 (IntKind.u32.wrap ((a.getD ((x).toNat) 0))) wG) 16)))) (ah (x+1))
  else none)
  else none)
  else none)
  else none))
  (some out))
def mV (N:Nat) (a:List Int) (wG:Int):Option ((List Int)) :=
 (if 0≤(ah (((a.length:Nat):Int)+1))∧(2:Int) * (ah (((a.length:Nat):Int)+1))≤281474976710656∧(ah (((a.length:Nat):Int)+1))≤9223372036854775807 then
 gf N a wG N (List.replicate ((ah (((a.length:Nat):Int)+1)).toNat) 0:List Int) 0
 else none)
def lG (N:Nat) (uo:Nat) (un:Nat) (v:List Int) (q:Int) (a6:List Int) (borrow:Int) (x:Int) (nm:(List Int)→Int→Int→Int→Option (Int×(List Int))) (x2:Int):Option (Int×(List Int)) :=
 (if 0≤x∧x < ((un:Nat):Int) then
 (if uo+un≤a6.length then
 nm (a6.set (a8 uo (x).toNat) (IntKind.u16.wrap ((ah ((ah ((ah ((a6.getD (a8 uo (x).toNat) 0))) - (ah ((Gz .u64 x2 65535)))))+borrow))))) (mH .u64 x2 16) (mH .i64 (ah ((ah ((ah ((a6.getD (a8 uo (x).toNat) 0))) - (ah ((Gz .u64 x2 65535)))))+borrow)) 16) (ah (x+1))
 else none)
 else none)
def jd (N:Nat) (cj:List Int) (q2:Int):Option (Int×(List Int)) :=
 some ((IntKind.u16.wrap (q2)),cj)
def fK (N:Nat) (uo:Nat) (un:Nat) (v:List Int) (q:Int):Nat→(List Int)→Int→Int→Option (Int×(List Int))
 | 0,_,_,_=>none
 | fuel+1,bD,dT,x3 =>
  (cond (decide (x3 < ((v.length:Nat):Int)))
  ((if 0≤x3∧x3 < ((un:Nat):Int) then
  (if uo+un≤bD.length then
  (if 0≤x3∧x3 < ((v.length:Nat):Int) then
  fK N uo un v q fuel (bD.set (a8 uo (x3).toNat) (IntKind.u16.wrap ((IntKind.u32.wrap (dT+(IntKind.u32.wrap ((IntKind.u32.wrap ((bD.getD (a8 uo (x3).toNat) 0)))+(IntKind.u32.wrap ((v.getD ((x3).toNat) 0)))))))))) (mH .u32 (IntKind.u32.wrap (dT+(IntKind.u32.wrap ((IntKind.u32.wrap ((bD.getD (a8 uo (x3).toNat) 0)))+(IntKind.u32.wrap ((v.getD ((x3).toNat) 0))))))) 16) (ah (x3+1))
  else none)
  else none)
  else none))
  ((if 0≤((v.length:Nat):Int)∧((v.length:Nat):Int) < ((un:Nat):Int) then
  (if uo+un≤bD.length then
  jd N (bD.set (a8 uo v.length) (IntKind.u16.wrap ((bD.getD (a8 uo v.length) 0)+(IntKind.u16.wrap (dT))))) (IntKind.u64.wrap (q - 1))
  else none)
  else none)))
def ek (N:Nat) (uo:Nat) (un:Nat) (v:List Int) (q:Int):Nat→(List Int)→Int→Int→Int→Option (Int×(List Int))
 | 0,_,_,_,_=>none
 | fuel+1,a6,carry,borrow,x =>
  (cond (decide (x < (ah (((v.length:Nat):Int)+1))))
  ((cond (decide (x < ((v.length:Nat):Int)))
  ((if 0≤x∧x < ((v.length:Nat):Int) then
  lG N uo un v q a6 borrow x (ek N uo un v q fuel) (IntKind.u64.wrap (carry+(IntKind.u64.wrap (q * (IntKind.u64.wrap ((v.getD ((x).toNat) 0)))))))
  else none))
  (lG N uo un v q a6 borrow x (ek N uo un v q fuel) carry)))
  ((cond (decide (borrow < 0))
  (fK N uo un v q N a6 0 0)
  (jd N a6 q))))
def je (N:Nat) (uo:Nat) (un:Nat) (v:List Int) (C0:List Int):Nat→Int→Int→Option (Int×(List Int))
 | 0,_,_=>none
 | fuel+1,q,rest =>
  (if (((decide (rest < 65536)) && ((decide (rest < 65536)) && (!(decide (q > 65535)))))=true→0≤(ah (((v.length:Nat):Int) - 2))∧(ah (((v.length:Nat):Int) - 2)) < ((v.length:Nat):Int)) then
  (if (((decide (rest < 65536)) && ((decide (rest < 65536)) && (!(decide (q > 65535)))))=true→0≤(ah (((v.length:Nat):Int) - 2))∧(ah (((v.length:Nat):Int) - 2)) < ((un:Nat):Int)) then
  (if (((decide (rest < 65536)) && ((decide (rest < 65536)) && (!(decide (q > 65535)))))=true→uo+un≤C0.length) then
  (cond (cond (decide (rest < 65536)) (cond (decide (q > 65535)) true (decide ((IntKind.u64.wrap (q * (IntKind.u64.wrap ((v.getD ((ah (((v.length:Nat):Int) - 2)).toNat) 0))))) > (q0 .u64 (fh .u64 rest 16) (IntKind.u64.wrap ((C0.getD (a8 uo (ah (((v.length:Nat):Int) - 2)).toNat) 0))))))) false)
  ((if 0≤(ah (((v.length:Nat):Int) - 1))∧(ah (((v.length:Nat):Int) - 1)) < ((v.length:Nat):Int) then
  je N uo un v C0 fuel (IntKind.u64.wrap (q - 1)) (IntKind.u64.wrap (rest+(IntKind.u64.wrap ((v.getD ((ah (((v.length:Nat):Int) - 1)).toNat) 0)))))
  else none))
  (ek N uo un v q N C0 0 0 0))
  else none)
  else none)
  else none)
def ss (N:Nat) (uo:Nat) (un:Nat) (v:List Int) (C0:List Int):Option (Int×(List Int)) :=
 (if 0≤((v.length:Nat):Int)∧((v.length:Nat):Int) < ((un:Nat):Int) then
 (if uo+un≤C0.length then
 (if 0≤(ah (((v.length:Nat):Int) - 1))∧(ah (((v.length:Nat):Int) - 1)) < ((un:Nat):Int) then
 (if 0≤(ah (((v.length:Nat):Int) - 1))∧(ah (((v.length:Nat):Int) - 1)) < ((v.length:Nat):Int) then
 (if ((IntKind.u64.wrap ((v.getD ((ah (((v.length:Nat):Int) - 1)).toNat) 0))):Int)≠0 then
 je N uo un v C0 N (IntKind.u64.wrap ((q0 .u64 (fh .u64 (IntKind.u64.wrap ((C0.getD (a8 uo v.length) 0))) 16) (IntKind.u64.wrap ((C0.getD (a8 uo (ah (((v.length:Nat):Int) - 1)).toNat) 0)))).tdiv (IntKind.u64.wrap ((v.getD ((ah (((v.length:Nat):Int) - 1)).toNat) 0))))) ((q0 .u64 (fh .u64 (IntKind.u64.wrap ((C0.getD (a8 uo v.length) 0))) 16) (IntKind.u64.wrap ((C0.getD (a8 uo (ah (((v.length:Nat):Int) - 1)).toNat) 0)))).tmod (IntKind.u64.wrap ((v.getD ((ah (((v.length:Nat):Int) - 1)).toNat) 0))))
 else none)
 else none)
 else none)
 else none)
 else none)
def gW (N:Nat) (b:List Int) (a4:Int) (q:List Int) (u:List Int):Nat→(List Int)→Int→Option ((List Int)×(List Int))
 | 0,_,_=>none
 | fuel+1,vr,x =>
  (cond (decide (x < (((b.length - 0):Nat):Int)))
  ((if 0≤x∧x < ((u.length:Nat):Int) then
  (if 0≤(ah (x+1))∧(ah (x+1)) < ((u.length:Nat):Int) then
  (if (0:Int)≤a4 then
  (if 0≤x∧x < ((vr.length:Nat):Int) then
  gW N b a4 q u fuel (vr.set ((x).toNat) (IntKind.u16.wrap ((mH .u32 (q0 .u32 (IntKind.u32.wrap ((u.getD ((x).toNat) 0))) (fh .u32 (IntKind.u32.wrap ((u.getD ((ah (x+1)).toNat) 0))) 16)) a4)))) (ah (x+1))
  else none)
  else none)
  else none)
  else none))
  (((eR N q).bind fun gK =>
  ((eR N vr).bind fun HM =>
  some (gK,HM)))))
def gX (N:Nat) (b:List Int) (a4:Int) (dZ:(List Int)):Nat→(List Int)→(List Int)→Int→Option ((List Int)×(List Int))
 | 0,_,_,_=>none
 | fuel+1,q,u,j =>
  (cond (decide (j≥0))
  ((if (j).toNat≤(ah ((ah (j+(((b.length - 0):Nat):Int)))+1)).toNat∧(ah ((ah (j+(((b.length - 0):Nat):Int)))+1)).toNat≤u.length then
  (if 0≤j then
  (if 0≤(ah ((ah (j+(((b.length - 0):Nat):Int)))+1)) then
  (if 0≤b.length∧b.length≤dZ.length then
  ((ss N ((j).toNat) ((ah ((ah (j+(((b.length - 0):Nat):Int)))+1)).toNat - (j).toNat) ((dZ.take b.length).drop 0) u).bind fun bP =>
  (if bP.2.length=u.length then
  (if 0≤j∧j < ((q.length:Nat):Int) then
  gX N b a4 dZ fuel (q.set ((j).toNat) bP.1) bP.2 (ah (j - 1))
  else none)
  else none))
  else none)
  else none)
  else none)
  else none))
  ((if 0≤(((b.length - 0):Nat):Int)∧(2:Int) * (((b.length - 0):Nat):Int)≤281474976710656∧(((b.length - 0):Nat):Int)≤9223372036854775807 then
  gW N b a4 q u N (List.replicate (b.length - 0) 0:List Int) 0
  else none)))
def mJ (N:Nat) (a:List Int) (b:List Int):Option ((List Int)×(List Int)) :=
 ((lj N a b).bind fun ig =>
 (cond (decide (ig < 0))
 (((cx N a).bind fun xx =>
 some (([]:List Int),xx)))
 ((cond (((b.length:Nat):Int) == 1)
 ((if 0≤(0:Int)∧0 < ((b.length:Nat):Int) then
 ((sq N a (b.getD 0 0)).bind fun xy =>
 ((eR N ([xy.2]:List Int)).bind fun bA =>
 some (xy.1,bA)))
 else none))
 ((if 0≤(ah (((b.length:Nat):Int) - 1))∧(ah (((b.length:Nat):Int) - 1)) < ((b.length:Nat):Int) then
 ((du N (b.getD ((ah (((b.length:Nat):Int) - 1)).toNat) 0)).bind fun a4 =>
 ((mV N a a4).bind fun di =>
 ((mV N b a4).bind fun dZ =>
 (if 0≤b.length∧b.length≤dZ.length then
 (if 0≤(ah (((di.length:Nat):Int) - (((b.length - 0):Nat):Int)))∧(2:Int) * (ah (((di.length:Nat):Int) - (((b.length - 0):Nat):Int)))≤281474976710656∧(ah (((di.length:Nat):Int) - (((b.length - 0):Nat):Int)))≤9223372036854775807 then
 gX N b a4 dZ N (List.replicate ((ah (((di.length:Nat):Int) - (((b.length - 0):Nat):Int))).toNat) 0:List Int) di (ah ((ah (((di.length:Nat):Int) - (((b.length - 0):Nat):Int))) - 1))
 else none)
 else none))))
 else none))))))
def js (N:Nat) (mn:(List Int)→(List Int)→Option ((List Int))):Nat→Int→Int→Option ((List Int))
 | 0,_,_=>none
 | fuel+1,x,y =>
  (cond (decide (y > 0))
  ((if (y:Int)≠0 then
  js N mn fuel y (x.tmod y)
  else none))
  (((lg N x).bind fun qa =>
  some qa)))
def gY (N:Nat):Nat→(List Int)→(List Int)→Option ((List Int))
 | 0,_,_=>none
 | fuel+1,a2,b2 =>
  (cond (decide (((b2.length:Nat):Int) > 0))
  (((sn N a2).bind fun Eu =>
  ((sn N b2).bind fun Cs =>
  (cond (cond Eu.2 Cs.2 false)
  (js N (gY N fuel) N Eu.1 Cs.1)
  (((mJ N a2 b2).bind fun pA =>
  gY N fuel b2 pA.2))))))
  (some a2))
def tw (N:Nat) (a:List Int) (b:List Int):Option ((List Int)) :=
 gY N N a b
def ky (N:Nat) (a:bd) (b:bd) (x:List Int) (y:List Int):Option (aa) :=
 ((gz N (!(a.fG == b.fG)) x).bind fun HK =>
 ((gz N false y).bind fun Cr =>
 some (⟨HK,Cr⟩:aa)))
def fM (N:Nat) (a:bd) (b:bd):Option (aa) :=
 ((eR N a.fL).bind fun bA =>
 ((eR N b.fL).bind fun gK =>
 ((tw N bA gK).bind fun mo =>
 (if ((!(((mo.length:Nat):Int) != 1))=true→0≤(0:Int)∧0 < ((mo.length:Nat):Int)) then
 (cond (cond (((mo.length:Nat):Int) != 1) true ((mo.getD 0 0) != 1))
 (((mJ N bA mo).bind fun pA =>
 ((mJ N gK mo).bind fun yu =>
 ky N a b pA.1 yu.1)))
 (ky N a b bA gK))
 else none))))
def wo (N:Nat) (a:bd):Option (aa) :=
 ((fM N a (⟨false,([1]:List Int)⟩:bd)).bind fun zd =>
 some zd)
def gA (N:Nat) (n:Int):Option (aa) :=
 ((zG N n).bind fun Ew =>
 ((wo N Ew).bind fun xz =>
 some xz))
def qc (N:Nat) (a:bd):Option (Int) :=
 ((eR N a.fL).bind fun bA =>
 (cond (((bA.length:Nat):Int) == 0)
 (some 0)
 ((cond a.fG
 (some (-1))
 (some 1)))))
def iT (N:Nat) (x:aa):Option (bd) :=
 ((qc N x.fD).bind fun ug =>
 (cond (ug == 0)
 (some (⟨false,([1]:List Int)⟩:bd))
 (some x.fD)))
def lk (N:Nat) (x:aa):Option (aa) :=
 ((iT N x).bind fun gL =>
 ((fM N x.fN gL).bind fun zd =>
 some zd))
def pB (N:Nat) (a:bd):Option (bd) :=
 some (⟨(!a.fG),a.fL⟩:bd)
def gM (N:Nat) (x:aa):Option (aa) :=
 ((pB N x.fN).bind fun zI =>
 ((iT N x).bind fun gL =>
 ((fM N zI gL).bind fun zd =>
 some zd)))
def pC (N:Nat) (n:Int) (l:List ag) (av:aa) (t:List Int) (t2:List Int) (t3:List (List aa)) (t4:List aa) (x2:Int) (row:List aa) (x3:Int) (np:(List aa)→Int→Option (jX)) (cZ:(List Int)→(List (List aa))→(List aa)→Int→Option (jX)) (c7:aa):Option (jX) :=
 ((gM N c7).bind fun aL =>
 (if 0≤x3∧x3 < ((row.length:Nat):Int) then
 (if 0≤(ah (n+x3))∧(ah (n+x3)) < ((row.length:Nat):Int) then
 np ((row.set ((x3).toNat) aL).set ((ah (n+x3)).toNat) c7) (ah (x3+1))
 else none)
 else none))
def lH (N:Nat) (n:Int) (l:List ag) (av:aa) (t:List Int) (t2:List Int) (t3:List (List aa)) (t4:List aa) (x2:Int) (cZ:(List Int)→(List (List aa))→(List aa)→Int→Option (jX)):Nat→(List aa)→Int→Option (jX)
 | 0,_,_=>none
 | fuel+1,row,x3 =>
  (cond (decide (x3 < n))
  (((gA N 0).bind fun jE =>
  (cond (decide (x3 < ((((l.getD ((x2).toNat) ag.d).iz).length:Nat):Int)))
  ((if 0≤x3∧x3 < ((((l.getD ((x2).toNat) ag.d).iz).length:Nat):Int) then
  ((lk N (⟨((((l.getD ((x2).toNat) ag.d).iz).getD ((x3).toNat) aa.d).fN),((((l.getD ((x2).toNat) ag.d).iz).getD ((x3).toNat) aa.d).fD)⟩:aa)).bind fun tx =>
  pC N n l av t t2 t3 t4 x2 row x3 (lH N n l av t t2 t3 t4 x2 cZ fuel) cZ tx)
  else none))
  (pC N n l av t t2 t3 t4 x2 row x3 (lH N n l av t t2 t3 t4 x2 cZ fuel) cZ jE))))
  (((gA N 1).bind fun bm =>
  (if 0≤(ah (2 * n))∧(ah (2 * n)) < ((row.length:Nat):Int) then
  (if (t3.length+1) * 24≤140737488355328 then
  ((lk N (⟨(((l.getD ((x2).toNat) ag.d).mm).fN),(((l.getD ((x2).toNat) ag.d).mm).fD)⟩:aa)).bind fun dj =>
  (if (t4.length+1) * 64≤140737488355328 then
  cZ (t2 ++ ([(ah ((ah (2 * n))+x2))]:List Int)) (t3 ++ [(row.set ((ah (2 * n)).toNat) bm)]) (t4 ++ ([dj]:List aa)) (ah (x2+1))
  else none))
  else none)
  else none))))
def nr (N:Nat) (n:Int) (l:List ag) (av:aa) (t:List Int) (t2:List Int) (t3:List (List aa)) (t4:List aa):Nat→(List aa)→Int→Option (jX)
 | 0,_,_=>none
 | fuel+1,t5,x4 =>
  (cond (decide (x4 < (((List.replicate ((ah ((ah (2 * n))+1)).toNat) aa.d:List aa).length:Nat):Int)))
  (((gA N 0).bind fun nu =>
  (if 0≤x4∧x4 < ((t5.length:Nat):Int) then
  nr N n l av t t2 t3 t4 fuel (t5.set ((x4).toNat) nu) (ah (x4+1))
  else none)))
  (some (⟨n,((l.length:Nat):Int),t2,(t ++ ([(ah ((ah (2 * n))+((l.length:Nat):Int)))]:List Int)),t3,t4,t5,av,(ah ((ah (2 * n))+((l.length:Nat):Int)))⟩:jX)))
def nv (N:Nat) (n:Int) (l:List ag) (av:aa) (t:List Int):Nat→(List Int)→(List (List aa))→(List aa)→Int→Option (jX)
 | 0,_,_,_,_=>none
 | fuel+1,t2,t3,t4,x2 =>
  (cond (decide (x2 < ((l.length:Nat):Int)))
  ((if 0≤x2∧x2 < ((l.length:Nat):Int) then
  (if (t2.length+1) * 8≤140737488355328 then
  (if 0≤(ah ((ah (2 * n))+1))∧(64:Int) * (ah ((ah (2 * n))+1))≤281474976710656∧(ah ((ah (2 * n))+1))≤9223372036854775807 then
  lH N n l av t t2 t3 t4 x2 (nv N n l av t fuel) N (List.replicate ((ah ((ah (2 * n))+1)).toNat) aa.d:List aa) 0
  else none)
  else none)
  else none))
  ((if 0≤(ah ((ah (2 * n))+1))∧(64:Int) * (ah ((ah (2 * n))+1))≤281474976710656∧(ah ((ah (2 * n))+1))≤9223372036854775807 then
  nr N n l av t t2 t3 t4 N (List.replicate ((ah ((ah (2 * n))+1)).toNat) aa.d:List aa) 0
  else none)))
def nw (N:Nat) (n:Int) (l:List ag) (av:aa):Nat→(List Int)→Int→Option (jX)
 | 0,_,_=>none
 | fuel+1,t,x =>
  (cond (decide (x < (ah (2 * n))))
  ((if (t.length+1) * 8≤140737488355328 then
  nw N n l av fuel (t ++ ([x]:List Int)) (ah (x+1))
  else none))
  ((if (t.length+1) * 8≤140737488355328 then
  nv N n l av t N ([]:List Int) ([]:List (List aa)) ([]:List aa) 0
  else none)))
def zJ (N:Nat) (n:Int) (l:List ag):Option (jX) :=
 ((gA N 0).bind fun av =>
 nw N n l av N ([]:List Int) 0)
def ll (N:Nat) (x:aa):Option (Int) :=
 ((qc N x.fN).bind fun ug =>
 ((iT N x).bind fun gL =>
 ((qc N gL).bind fun HN =>
 some (ah (ug * HN)))))
def fz (N:Nat) (x:aa):Option (Bool) :=
 ((qc N x.fN).bind fun ug =>
 some (ug == 0))
def jf (N:Nat) (a:List Int) (b:List Int) (x:Int) (ln:(List Int)→Int→Option ((List Int))):Nat→(List Int)→Int→Int→Option ((List Int))
 | 0,_,_,_=>none
 | fuel+1,ew,carry,x2 =>
  (cond (decide (x2 < ((b.length:Nat):Int)))
  ((if 0≤x2∧x2 < ((b.length:Nat):Int) then
  (if 0≤(ah (x+x2))∧(ah (x+x2)) < ((ew.length:Nat):Int) then
  jf N a b x ln fuel (ew.set ((ah (x+x2)).toNat) (IntKind.u16.wrap ((IntKind.u32.wrap (carry+(IntKind.u32.wrap ((IntKind.u32.wrap ((IntKind.u32.wrap ((a.getD ((x).toNat) 0))) * (IntKind.u32.wrap ((b.getD ((x2).toNat) 0)))))+(IntKind.u32.wrap ((ew.getD ((ah (x+x2)).toNat) 0)))))))))) (mH .u32 (IntKind.u32.wrap (carry+(IntKind.u32.wrap ((IntKind.u32.wrap ((IntKind.u32.wrap ((a.getD ((x).toNat) 0))) * (IntKind.u32.wrap ((b.getD ((x2).toNat) 0)))))+(IntKind.u32.wrap ((ew.getD ((ah (x+x2)).toNat) 0))))))) 16) (ah (x2+1))
  else none)
  else none))
  ((if 0≤(ah (x+((b.length:Nat):Int)))∧(ah (x+((b.length:Nat):Int))) < ((ew.length:Nat):Int) then
  ln (ew.set ((ah (x+((b.length:Nat):Int))).toNat) (IntKind.u16.wrap (carry))) (ah (x+1))
  else none)))
def jg (N:Nat) (a:List Int) (b:List Int):Nat→(List Int)→Int→Option ((List Int))
 | 0,_,_=>none
 | fuel+1,out,x =>
  (cond (decide (x < ((a.length:Nat):Int)))
  ((if 0≤x∧x < ((a.length:Nat):Int) then
  jf N a b x (jg N a b fuel) N out 0 0
  else none))
  (((eR N out).bind fun bA =>
  some bA)))
def pR (N:Nat) (a:List Int) (b:List Int):Option ((List Int)) :=
 (if 0≤(ah (((a.length:Nat):Int)+((b.length:Nat):Int)))∧(2:Int) * (ah (((a.length:Nat):Int)+((b.length:Nat):Int)))≤281474976710656∧(ah (((a.length:Nat):Int)+((b.length:Nat):Int)))≤9223372036854775807 then
 jg N a b N (List.replicate ((ah (((a.length:Nat):Int)+((b.length:Nat):Int))).toNat) 0:List Int) 0
 else none)
def nx (N:Nat) (a:bd) (b:bd):Option (bd) :=
 ((eR N a.fL).bind fun bA =>
 ((eR N b.fL).bind fun gK =>
 ((pR N bA gK).bind fun oH =>
 ((gz N (!(a.fG == b.fG)) oH).bind fun HK =>
 some HK))))
def mW (N:Nat) (a2:List Int) (b2:List Int) (out:List Int) (x:Int) (oa:(List Int)→Int→Int→Option ((List Int))) (dT:Int):Option ((List Int)) :=
 (if (out.length+1) * 2≤140737488355328 then
 oa (out ++ ([(IntKind.u16.wrap (dT))]:List Int)) (mH .u32 dT 16) (ah (x+1))
 else none)
def gZ (N:Nat) (a2:List Int) (b2:List Int):Nat→(List Int)→Int→Int→Option ((List Int))
 | 0,_,_,_=>none
 | fuel+1,out,carry,x =>
  (cond (decide (x < ((a2.length:Nat):Int)))
  ((if 0≤x∧x < ((a2.length:Nat):Int) then
  (cond (decide (x < ((b2.length:Nat):Int)))
  ((if 0≤x∧x < ((b2.length:Nat):Int) then
  mW N a2 b2 out x (gZ N a2 b2 fuel) (IntKind.u32.wrap ((IntKind.u32.wrap (carry+(IntKind.u32.wrap ((a2.getD ((x).toNat) 0)))))+(IntKind.u32.wrap ((b2.getD ((x).toNat) 0)))))
  else none))
  (mW N a2 b2 out x (gZ N a2 b2 fuel) (IntKind.u32.wrap (carry+(IntKind.u32.wrap ((a2.getD ((x).toNat) 0)))))))
  else none))
  ((if (out.length+1) * 2≤140737488355328 then
  ((eR N (out ++ ([(IntKind.u16.wrap (carry))]:List Int))).bind fun bA =>
  some bA)
  else none)))
def mX (N:Nat) (a2:List Int) (b2:List Int):Option ((List Int)) :=
 (if 0≤(0:Int)∧(2:Int) * (ah (((a2.length:Nat):Int)+1))≤281474976710656∧(ah (((a2.length:Nat):Int)+1))≤9223372036854775807∧(0:Int)≤(ah (((a2.length:Nat):Int)+1)) then
 gZ N a2 b2 N (List.replicate 0 0:List Int) 0 0
 else none)
def su (N:Nat) (a:List Int) (b:List Int):Option ((List Int)) :=
 (cond (decide (((a.length:Nat):Int) < ((b.length:Nat):Int)))
 (mX N b a)
 (mX N a b))
def lI (N:Nat) (a:List Int) (b:List Int) (out:List Int) (x:Int) (y:Int) (ee:(List Int)→Int→Int→Option ((List Int))) (iB:Int):Option ((List Int)) :=
 (if 0≤x∧x < ((out.length:Nat):Int) then
 ee (out.set ((x).toNat) (IntKind.u16.wrap ((IntKind.u32.wrap ((IntKind.u32.wrap ((IntKind.u32.wrap ((a.getD ((x).toNat) 0)))+(fh .u32 iB 16))) - y))))) iB (ah (x+1))
 else none)
def lJ (N:Nat) (a:List Int) (b:List Int) (out:List Int) (x:Int) (ee:(List Int)→Int→Int→Option ((List Int))) (y:Int):Option ((List Int)) :=
 (cond (decide ((IntKind.u32.wrap ((a.getD ((x).toNat) 0))) < y))
 (lI N a b out x y ee 1)
 (lI N a b out x y ee 0))
def eS (N:Nat) (a:List Int) (b:List Int):Nat→(List Int)→Int→Int→Option ((List Int))
 | 0,_,_,_=>none
 | fuel+1,out,borrow,x =>
  (cond (decide (x < ((a.length:Nat):Int)))
  ((if 0≤x∧x < ((a.length:Nat):Int) then
  (cond (decide (x < ((b.length:Nat):Int)))
  ((if 0≤x∧x < ((b.length:Nat):Int) then
  lJ N a b out x (eS N a b fuel) (IntKind.u32.wrap (borrow+(IntKind.u32.wrap ((b.getD ((x).toNat) 0)))))
  else none))
  (lJ N a b out x (eS N a b fuel) borrow))
  else none))
  (((eR N out).bind fun bA =>
  some bA)))
def nZ (N:Nat) (a:List Int) (b:List Int):Option ((List Int)) :=
 (if 0≤((a.length:Nat):Int)∧(2:Int) * ((a.length:Nat):Int)≤281474976710656∧((a.length:Nat):Int)≤9223372036854775807 then
 eS N a b N (List.replicate a.length 0:List Int) 0 0
 else none)
def yw (N:Nat) (a:bd) (b:bd):Option (bd) :=
 ((eR N a.fL).bind fun bA =>
 ((eR N b.fL).bind fun gK =>
 (cond (a.fG == b.fG)
 (((su N bA gK).bind fun Ct =>
 ((gz N a.fG Ct).bind fun HK =>
 some HK)))
 (((lj N bA gK).bind fun ig =>
 (cond (decide (ig≥0))
 (((nZ N bA gK).bind fun qd =>
 ((gz N a.fG qd).bind fun Cr =>
 some Cr)))
 (((nZ N gK bA).bind fun tz =>
 ((gz N b.fG tz).bind fun Pr =>
 some Pr)))))))))
def dw (N:Nat) (x:aa) (y:aa):Option (aa) :=
 ((fz N x).bind fun eT =>
 (cond eT
 (((lk N y).bind fun tx =>
 some tx))
 (((fz N y).bind fun qe =>
 (cond qe
 (((lk N x).bind fun dj =>
 some dj))
 (((iT N x).bind fun gL =>
 ((iT N y).bind fun mq =>
 ((nx N x.fN mq).bind fun qf =>
 ((nx N y.fN gL).bind fun lp =>
 ((yw N qf lp).bind fun HO =>
 ((nx N gL mq).bind fun Cu =>
 ((fM N HO Cu).bind fun zd =>
 some zd)))))))))))))
def dU (N:Nat) (x:aa) (y:aa):Option (aa) :=
 ((gM N y).bind fun aL =>
 ((dw N x aL).bind fun aW =>
 some aW))
def ij (N:Nat) (x:aa) (y:aa):Option (Int) :=
 ((dU N x y).bind fun au =>
 ((ll N au).bind fun aF =>
 some aF))
def sw (N:Nat) (x:aa) (y:aa):Option (aa) :=
 ((iT N y).bind fun gL =>
 ((nx N x.fN gL).bind fun qf =>
 ((iT N x).bind fun mq =>
 ((nx N mq y.fN).bind fun lp =>
 ((fM N qf lp).bind fun zd =>
 some zd)))))
def cF (N:Nat) (x:aa) (y:aa):Option (aa) :=
 ((nx N x.fN y.fN).bind fun qf =>
 ((iT N x).bind fun gL =>
 ((iT N y).bind fun mq =>
 ((nx N gL mq).bind fun lp =>
 ((fM N qf lp).bind fun zd =>
 some zd)))))
def ik (N:Nat) (j:Int) (f:aa) (C0:List aa) (x:Int) (jh:(List aa)→Int→Option ((List aa))) (bD:List aa):Option ((List aa)) :=
 jh bD (ah (x+1))
def ey (N:Nat) (j:Int) (f:aa) (C0:List aa):Nat→(List aa)→Int→Option ((List aa))
 | 0,_,_=>none
 | fuel+1,a6,x =>
  (cond (decide (x < ((C0.length:Nat):Int)))
  ((cond (x == j)
  ((if 0≤x∧x < ((a6.length:Nat):Int) then
  ((cF N f (⟨((a6.getD ((x).toNat) aa.d).fN),((a6.getD ((x).toNat) aa.d).fD)⟩:aa)).bind fun bh =>
  ik N j f C0 x (ey N j f C0 fuel) (a6.set ((x).toNat) bh))
  else none))
  ((if 0≤x∧x < ((a6.length:Nat):Int) then
  ((fz N (⟨((a6.getD ((x).toNat) aa.d).fN),((a6.getD ((x).toNat) aa.d).fD)⟩:aa)).bind fun eT =>
  (cond (!eT)
  (((cF N f (⟨((a6.getD ((x).toNat) aa.d).fN),((a6.getD ((x).toNat) aa.d).fD)⟩:aa)).bind fun bI =>
  ((dw N (⟨((a6.getD ((x).toNat) aa.d).fN),((a6.getD ((x).toNat) aa.d).fD)⟩:aa) bI).bind fun aW =>
  ik N j f C0 x (ey N j f C0 fuel) (a6.set ((x).toNat) aW))))
  (ik N j f C0 x (ey N j f C0 fuel) a6)))
  else none))))
  (some a6))
def oI (N:Nat) (j:Int) (f:aa) (C0:List aa):Option ((List aa)) :=
 ey N j f C0 N C0 0
def fj (N:Nat) (j:Int) (f:aa) (C0:List aa) (C1:List aa) (x:Int) (gq:(List aa)→Int→Option ((List aa))) (bD:List aa):Option ((List aa)) :=
 gq bD (ah (x+1))
def dh (N:Nat) (j:Int) (f:aa) (C0:List aa) (C1:List aa):Nat→(List aa)→Int→Option ((List aa))
 | 0,_,_=>none
 | fuel+1,a6,x =>
  (cond (decide (x < ((C0.length:Nat):Int)))
  ((cond (x == j)
  ((if 0≤x∧x < ((C1.length:Nat):Int) then
  ((cF N f (⟨((C1.getD ((x).toNat) aa.d).fN),((C1.getD ((x).toNat) aa.d).fD)⟩:aa)).bind fun bh =>
  (if 0≤x∧x < ((a6.length:Nat):Int) then
  fj N j f C0 C1 x (dh N j f C0 C1 fuel) (a6.set ((x).toNat) bh)
  else none))
  else none))
  ((if 0≤x∧x < ((C1.length:Nat):Int) then
  ((fz N (⟨((C1.getD ((x).toNat) aa.d).fN),((C1.getD ((x).toNat) aa.d).fD)⟩:aa)).bind fun eT =>
  (cond (!eT)
  ((if 0≤x∧x < ((a6.length:Nat):Int) then
  ((cF N f (⟨((C1.getD ((x).toNat) aa.d).fN),((C1.getD ((x).toNat) aa.d).fD)⟩:aa)).bind fun bI =>
  ((dw N (⟨((a6.getD ((x).toNat) aa.d).fN),((a6.getD ((x).toNat) aa.d).fD)⟩:aa) bI).bind fun aW =>
  fj N j f C0 C1 x (dh N j f C0 C1 fuel) (a6.set ((x).toNat) aW)))
  else none))
  (fj N j f C0 C1 x (dh N j f C0 C1 fuel) a6)))
  else none))))
  (some a6))
def il (N:Nat) (j:Int) (f:aa) (C0:List aa) (C1:List aa):Option ((List aa)) :=
 dh N j f C0 C1 N C0 0
def ji (N:Nat) (i:Int) (j:Int) (C0:Int) (a6:Int) (bD:Bool) (cj:List Int) (cn:Bool) (cr:List Int) (cd:Int) (C1:List Int) (C2:List Int) (C3:List (List aa)) (C4:List aa) (C5:List aa) (x:Int) (gN:(List aa)→Int→Option (jX×(List Int)×(List Int)×(List (List aa))×(List aa)×(List aa))) (Cv:List aa):Option (jX×(List Int)×(List Int)×(List (List aa))×(List aa)×(List aa)) :=
 gN Cv (ah (x+1))
def dx (N:Nat) (i:Int) (j:Int) (C0:Int) (a6:Int) (bD:Bool) (cj:List Int) (cn:Bool) (cr:List Int) (cd:Int) (C1:List Int) (C2:List Int) (C3:List (List aa)) (C5:List aa) (x2:Int) (gP:(List (List aa))→(List aa)→(List aa)→Int→Option (jX×(List Int)×(List Int)×(List (List aa))×(List aa)×(List aa))) (jx:List (List aa)) (Cw:List aa) (ny:List aa):Option (jX×(List Int)×(List Int)×(List (List aa))×(List aa)×(List aa)) :=
 gP jx Cw ny (ah (x2+1))
def jj (N:Nat) (i:Int) (j:Int) (C0:Int) (a6:Int) (cd:Int) (C1:List Int) (C2:List Int) (bB:List (List aa)) (bp:List aa) (md:List aa) (eC:List aa) (nM:Bool) (nN:List Int) (qN:Bool) (qO:List Int):Option (jX×(List Int)×(List Int)×(List (List aa))×(List aa)×(List aa)) :=
 (if 0≤j∧j < ((C2.length:Nat):Int) then
 (if 0≤i∧i < ((C1.length:Nat):Int) then
 some ((⟨C0,a6,(C1.set ((i).toNat) (C2.getD ((j).toNat) 0)),(C2.set ((j).toNat) (C1.getD ((i).toNat) 0)),(bB.set ((i).toNat) bp),md,eC,(⟨(⟨nM,nN⟩:bd),(⟨qN,qO⟩:bd)⟩:aa),cd⟩:jX),(C1.set ((i).toNat) (C2.getD ((j).toNat) 0)),(C2.set ((j).toNat) (C1.getD ((i).toNat) 0)),(bB.set ((i).toNat) bp),md,eC)
 else none)
 else none)
def cA (N:Nat) (i:Int) (j:Int) (C0:Int) (a6:Int) (bD:Bool) (cj:List Int) (cn:Bool) (cr:List Int) (cd:Int) (C1:List Int) (C2:List Int) (C3:List (List aa)) (C5:List aa):Nat→(List (List aa))→(List aa)→(List aa)→Int→Option (jX×(List Int)×(List Int)×(List (List aa))×(List aa)×(List aa))
 | 0,_,_,_,_=>none
 | fuel+1,bB,bp,md,x2 =>
  (cond (decide (x2 < ((C3.length:Nat):Int)))
  ((cond (decide ((x2).toNat=(i).toNat))
  ((if 0≤x2∧x2 < ((bB.length:Nat):Int) then
  (if 0≤j∧j < ((bp.length:Nat):Int) then
  ((cond (x2 != i) (fz N (⟨((bp.getD ((j).toNat) aa.d).fN),((bp.getD ((j).toNat) aa.d).fD)⟩:aa)) (some false)).bind fun eT =>
  (cond (cond (x2 != i) (!eT) false)
  ((if 0≤x2∧x2 < ((md.length:Nat):Int) then
  (if 0≤i∧i < ((md.length:Nat):Int) then
  ((cF N (⟨((bp.getD ((j).toNat) aa.d).fN),((bp.getD ((j).toNat) aa.d).fD)⟩:aa) (⟨((md.getD ((i).toNat) aa.d).fN),((md.getD ((i).toNat) aa.d).fD)⟩:aa)).bind fun bh =>
  ((dw N (⟨((md.getD ((x2).toNat) aa.d).fN),((md.getD ((x2).toNat) aa.d).fD)⟩:aa) bh).bind fun aW =>
  (cond (decide ((x2).toNat=(i).toNat))
  (((oI N j (⟨((bp.getD ((j).toNat) aa.d).fN),((bp.getD ((j).toNat) aa.d).fD)⟩:aa) bp).bind fun Dz =>
  (if Dz.length=bp.length then
  dx N i j C0 a6 bD cj cn cr cd C1 C2 C3 C5 x2 (cA N i j C0 a6 bD cj cn cr cd C1 C2 C3 C5 fuel) bB Dz (md.set ((x2).toNat) aW)
  else none)))
  ((if (x2).toNat < bB.length then
  ((il N j (⟨((bp.getD ((j).toNat) aa.d).fN),((bp.getD ((j).toNat) aa.d).fD)⟩:aa) (bB.getD ((x2).toNat) []) bp).bind fun lq =>
  (if lq.length=(bB.getD ((x2).toNat) []).length then
  dx N i j C0 a6 bD cj cn cr cd C1 C2 C3 C5 x2 (cA N i j C0 a6 bD cj cn cr cd C1 C2 C3 C5 fuel) (bB.set ((x2).toNat) lq) bp (md.set ((x2).toNat) aW)
  else none))
  else none)))))
  else none)
  else none))
  (dx N i j C0 a6 bD cj cn cr cd C1 C2 C3 C5 x2 (cA N i j C0 a6 bD cj cn cr cd C1 C2 C3 C5 fuel) bB bp md)))
  else none)
  else none))
  ((if (x2).toNat < bB.length then
  (if 0≤x2∧x2 < ((bB.length:Nat):Int) then
  (if 0≤j∧j < (((bB.getD ((x2).toNat) []).length:Nat):Int) then
  ((cond (x2 != i) (fz N (⟨(((bB.getD ((x2).toNat) []).getD ((j).toNat) aa.d).fN),(((bB.getD ((x2).toNat) []).getD ((j).toNat) aa.d).fD)⟩:aa)) (some false)).bind fun qe =>
  (cond (cond (x2 != i) (!qe) false)
  ((if 0≤x2∧x2 < ((md.length:Nat):Int) then
  (if 0≤i∧i < ((md.length:Nat):Int) then
  ((cF N (⟨(((bB.getD ((x2).toNat) []).getD ((j).toNat) aa.d).fN),(((bB.getD ((x2).toNat) []).getD ((j).toNat) aa.d).fD)⟩:aa) (⟨((md.getD ((i).toNat) aa.d).fN),((md.getD ((i).toNat) aa.d).fD)⟩:aa)).bind fun bI =>
  ((dw N (⟨((md.getD ((x2).toNat) aa.d).fN),((md.getD ((x2).toNat) aa.d).fD)⟩:aa) bI).bind fun c0 =>
  ((il N j (⟨(((bB.getD ((x2).toNat) []).getD ((j).toNat) aa.d).fN),(((bB.getD ((x2).toNat) []).getD ((j).toNat) aa.d).fD)⟩:aa) (bB.getD ((x2).toNat) []) bp).bind fun lr =>
  (if lr.length=(bB.getD ((x2).toNat) []).length then
  dx N i j C0 a6 bD cj cn cr cd C1 C2 C3 C5 x2 (cA N i j C0 a6 bD cj cn cr cd C1 C2 C3 C5 fuel) (bB.set ((x2).toNat) lr) bp (md.set ((x2).toNat) c0)
  else none))))
  else none)
  else none))
  (dx N i j C0 a6 bD cj cn cr cd C1 C2 C3 C5 x2 (cA N i j C0 a6 bD cj cn cr cd C1 C2 C3 C5 fuel) bB bp md)))
  else none)
  else none)
  else none))))
  ((if 0≤j∧j < ((C5.length:Nat):Int) then
  ((fz N (⟨((C5.getD ((j).toNat) aa.d).fN),((C5.getD ((j).toNat) aa.d).fD)⟩:aa)).bind fun Cx =>
  (cond (!Cx)
  ((if 0≤i∧i < ((md.length:Nat):Int) then
  ((cF N (⟨((C5.getD ((j).toNat) aa.d).fN),((C5.getD ((j).toNat) aa.d).fD)⟩:aa) (⟨((md.getD ((i).toNat) aa.d).fN),((md.getD ((i).toNat) aa.d).fD)⟩:aa)).bind fun cN =>
  ((dw N (⟨(⟨bD,cj⟩:bd),(⟨cn,cr⟩:bd)⟩:aa) cN).bind fun dN =>
  ((il N j (⟨((C5.getD ((j).toNat) aa.d).fN),((C5.getD ((j).toNat) aa.d).fD)⟩:aa) C5 bp).bind fun Ex =>
  (if Ex.length=C5.length then
  (if (i).toNat < bB.length then
  jj N i j C0 a6 cd C1 C2 bB bp md Ex dN.fN.fG dN.fN.fL dN.fD.fG dN.fD.fL
  else none)
  else none))))
  else none))
  ((if (i).toNat < bB.length then
  jj N i j C0 a6 cd C1 C2 bB bp md C5 bD cj cn cr
  else none))))
  else none)))
def eD (N:Nat) (i:Int) (j:Int) (C0:Int) (a6:Int) (bD:Bool) (cj:List Int) (cn:Bool) (cr:List Int) (cd:Int) (C1:List Int) (C2:List Int) (C3:List (List aa)) (C4:List aa) (C5:List aa):Nat→(List aa)→Int→Option (jX×(List Int)×(List Int)×(List (List aa))×(List aa)×(List aa))
 | 0,_,_=>none
 | fuel+1,qg,x =>
  (cond (decide (x < (((C3.getD ((i).toNat) []).length:Nat):Int)))
  ((cond (x != j)
  ((if 0≤x∧x < ((qg.length:Nat):Int) then
  ((sw N (⟨((qg.getD ((x).toNat) aa.d).fN),((qg.getD ((x).toNat) aa.d).fD)⟩:aa) (⟨(((C3.getD ((i).toNat) []).getD ((j).toNat) aa.d).fN),(((C3.getD ((i).toNat) []).getD ((j).toNat) aa.d).fD)⟩:aa)).bind fun jF =>
  ((gM N jF).bind fun aL =>
  ji N i j C0 a6 bD cj cn cr cd C1 C2 C3 C4 C5 x (eD N i j C0 a6 bD cj cn cr cd C1 C2 C3 C4 C5 fuel) (qg.set ((x).toNat) aL)))
  else none))
  (ji N i j C0 a6 bD cj cn cr cd C1 C2 C3 C4 C5 x (eD N i j C0 a6 bD cj cn cr cd C1 C2 C3 C4 C5 fuel) qg)))
  (((gA N 1).bind fun av =>
  ((sw N av (⟨(((C3.getD ((i).toNat) []).getD ((j).toNat) aa.d).fN),(((C3.getD ((i).toNat) []).getD ((j).toNat) aa.d).fD)⟩:aa)).bind fun iL =>
  (if 0≤j∧j < ((qg.length:Nat):Int) then
  (if 0≤i∧i < ((C4.length:Nat):Int) then
  ((sw N (⟨((C4.getD ((i).toNat) aa.d).fN),((C4.getD ((i).toNat) aa.d).fD)⟩:aa) (⟨(((C3.getD ((i).toNat) []).getD ((j).toNat) aa.d).fN),(((C3.getD ((i).toNat) []).getD ((j).toNat) aa.d).fD)⟩:aa)).bind fun HP =>
  ((gM N HP).bind fun jZ =>
  cA N i j C0 a6 bD cj cn cr cd C1 C2 C3 C5 N C3 (qg.set ((j).toNat) iL) (C4.set ((i).toNat) jZ) 0))
  else none)
  else none)))))
def jk (N:Nat) (i:Int) (j:Int) (C0:Int) (a6:Int) (bD:Bool) (cj:List Int) (cn:Bool) (cr:List Int) (cd:Int) (C1:List Int) (C2:List Int) (C3:List (List aa)) (C4:List aa) (C5:List aa):Option (jX×(List Int)×(List Int)×(List (List aa))×(List aa)×(List aa)) :=
 (if (i).toNat < C3.length then
 (if 0≤i∧i < ((C3.length:Nat):Int) then
 (if 0≤j∧j < (((C3.getD ((i).toNat) []).length:Nat):Int) then
 eD N i j C0 a6 bD cj cn cr cd C1 C2 C3 C4 C5 N (C3.getD ((i).toNat) []) 0
 else none)
 else none)
 else none)
def gr (N:Nat) (C0:Int) (a6:Int) (bD:Bool) (cj:List Int) (cn:Bool) (cr:List Int) (cd:Int) (C1:List Int) (C2:List Int) (C3:List (List aa)) (C4:List aa) (C5:List aa) (x:Int) (fc:Int→Int→Option (Int)) (vq:Int):Option (Int) :=
 fc vq (ah (x+1))
def dq (N:Nat) (C0:Int) (a6:Int) (bD:Bool) (cj:List Int) (cn:Bool) (cr:List Int) (cd:Int) (C1:List Int) (C2:List Int) (C3:List (List aa)) (C4:List aa) (C5:List aa):Nat→Int→Int→Option (Int)
 | 0,_,_=>none
 | fuel+1,iP,x =>
  (cond (decide (x < ((C2.length:Nat):Int)))
  ((if 0≤x∧x < ((C5.length:Nat):Int) then
  ((ll N (⟨((C5.getD ((x).toNat) aa.d).fN),((C5.getD ((x).toNat) aa.d).fD)⟩:aa)).bind fun aF =>
  (if (((decide (aF > 0)) && ((decide (aF > 0)) && (!(decide (iP < 0)))))=true→0≤x∧x < ((C2.length:Nat):Int)) then
  (if (((decide (aF > 0)) && ((decide (aF > 0)) && (!(decide (iP < 0)))))=true→0≤iP∧iP < ((C2.length:Nat):Int)) then
  (cond (cond (decide (aF > 0)) (cond (decide (iP < 0)) true (decide ((C2.getD ((x).toNat) 0) < (C2.getD ((iP).toNat) 0)))) false)
  (gr N C0 a6 bD cj cn cr cd C1 C2 C3 C4 C5 x (dq N C0 a6 bD cj cn cr cd C1 C2 C3 C4 C5 fuel) x)
  (gr N C0 a6 bD cj cn cr cd C1 C2 C3 C4 C5 x (dq N C0 a6 bD cj cn cr cd C1 C2 C3 C4 C5 fuel) iP))
  else none)
  else none))
  else none))
  (some iP))
def lu (N:Nat) (C0:Int) (a6:Int) (bD:Bool) (cj:List Int) (cn:Bool) (cr:List Int) (cd:Int) (C1:List Int) (C2:List Int) (C3:List (List aa)) (C4:List aa) (C5:List aa):Option (Int) :=
 dq N C0 a6 bD cj cn cr cd C1 C2 C3 C4 C5 N (-1) 0
def eV (N:Nat) (j:Int) (C0:Int) (a6:Int) (bD:Bool) (cj:List Int) (cn:Bool) (cr:List Int) (cd:Int) (C1:List Int) (C2:List Int) (C3:List (List aa)) (C4:List aa) (C5:List aa) (x:Int) (bx:Int→aa→Int→Option (Int)) (vq:Int) (a9:aa):Option (Int) :=
 bx vq a9 (ah (x+1))
def gQ (N:Nat) (j:Int) (C0:Int) (a6:Int) (bD:Bool) (cj:List Int) (cn:Bool) (cr:List Int) (cd:Int) (C1:List Int) (C2:List Int) (C3:List (List aa)) (C4:List aa) (C5:List aa) (iP:Int) (least:aa) (x:Int) (jF:aa) (bx:Int→aa→Int→Option (Int)) (c7:Int):Option (Int) :=
 (if (((!(decide (c7 < 0))) && ((!(decide (c7 < 0))) && (c7 == 0)))=true→0≤x∧x < ((C1.length:Nat):Int)) then
 (if (((!(decide (c7 < 0))) && ((!(decide (c7 < 0))) && (c7 == 0)))=true→0≤iP∧iP < ((C1.length:Nat):Int)) then
 (cond (cond (decide (c7 < 0)) true (cond (c7 == 0) (decide ((C1.getD ((x).toNat) 0) < (C1.getD ((iP).toNat) 0))) false))
 (eV N j C0 a6 bD cj cn cr cd C1 C2 C3 C4 C5 x bx x jF)
 (eV N j C0 a6 bD cj cn cr cd C1 C2 C3 C4 C5 x bx iP least))
 else none)
 else none)
def cY (N:Nat) (j:Int) (C0:Int) (a6:Int) (bD:Bool) (cj:List Int) (cn:Bool) (cr:List Int) (cd:Int) (C1:List Int) (C2:List Int) (C3:List (List aa)) (C4:List aa) (C5:List aa):Nat→Int→aa→Int→Option (Int)
 | 0,_,_,_=>none
 | fuel+1,iP,least,x =>
  (cond (decide (x < ((C1.length:Nat):Int)))
  ((if (x).toNat < C3.length then
  (if 0≤x∧x < ((C3.length:Nat):Int) then
  (if 0≤j∧j < (((C3.getD ((x).toNat) []).length:Nat):Int) then
  ((ll N (⟨(((C3.getD ((x).toNat) []).getD ((j).toNat) aa.d).fN),(((C3.getD ((x).toNat) []).getD ((j).toNat) aa.d).fD)⟩:aa)).bind fun aF =>
  (cond (decide (aF≥0))
  (eV N j C0 a6 bD cj cn cr cd C1 C2 C3 C4 C5 x (cY N j C0 a6 bD cj cn cr cd C1 C2 C3 C4 C5 fuel) iP least)
  ((if 0≤x∧x < ((C4.length:Nat):Int) then
  ((gM N (⟨(((C3.getD ((x).toNat) []).getD ((j).toNat) aa.d).fN),(((C3.getD ((x).toNat) []).getD ((j).toNat) aa.d).fD)⟩:aa)).bind fun aL =>
  ((sw N (⟨((C4.getD ((x).toNat) aa.d).fN),((C4.getD ((x).toNat) aa.d).fD)⟩:aa) aL).bind fun jF =>
  (cond (decide (iP≥0))
  (((ij N jF least).bind fun dc =>
  gQ N j C0 a6 bD cj cn cr cd C1 C2 C3 C4 C5 iP least x jF (cY N j C0 a6 bD cj cn cr cd C1 C2 C3 C4 C5 fuel) dc))
  (gQ N j C0 a6 bD cj cn cr cd C1 C2 C3 C4 C5 iP least x jF (cY N j C0 a6 bD cj cn cr cd C1 C2 C3 C4 C5 fuel) (-1)))))
  else none))))
  else none)
  else none)
  else none))
  (some iP))
def l5 (N:Nat) (j:Int) (C0:Int) (a6:Int) (bD:Bool) (cj:List Int) (cn:Bool) (cr:List Int) (cd:Int) (C1:List Int) (C2:List Int) (C3:List (List aa)) (C4:List aa) (C5:List aa):Option (Int) :=
 cY N j C0 a6 bD cj cn cr cd C1 C2 C3 C4 C5 N (-1) (⟨(⟨false,([]:List Int)⟩:bd),(⟨false,([]:List Int)⟩:bd)⟩:aa) 0
def gh (N:Nat):Nat→Int→Int→(List Int)→(List Int)→(List (List aa))→(List aa)→(List aa)→Bool→(List Int)→Bool→(List Int)→Int→Option (Int×jX×(List Int)×(List Int)×(List (List aa))×(List aa)×(List aa))
 | 0,_,_,_,_,_,_,_,_,_,_,_,_=>none
 | fuel+1,bB,md,jx,ny,eC,nM,nN,qN,qO,wH,wJ,vt =>
  ((lu N bB md qN qO wH wJ vt jx ny eC nM nN).bind fun pS =>
  (cond (decide (pS < 0))
  (some ((-1),(⟨bB,md,jx,ny,eC,nM,nN,(⟨(⟨qN,qO⟩:bd),(⟨wH,wJ⟩:bd)⟩:aa),vt⟩:jX),jx,ny,eC,nM,nN))
  (((l5 N pS bB md qN qO wH wJ vt jx ny eC nM nN).bind fun yx =>
  (cond (decide (yx < 0))
  (some (pS,(⟨bB,md,jx,ny,eC,nM,nN,(⟨(⟨qN,qO⟩:bd),(⟨wH,wJ⟩:bd)⟩:aa),vt⟩:jX),jx,ny,eC,nM,nN))
  (((jk N yx pS bB md qN qO wH wJ vt jx ny eC nM nN).bind fun a5 =>
  (if a5.2.1.length=jx.length then
  (if a5.2.2.1.length=ny.length then
  (if a5.2.2.2.1.length=eC.length then
  (if a5.2.2.2.2.1.length=nM.length then
  (if a5.2.2.2.2.2.length=nN.length then
  gh N fuel a5.1.uD a5.1.uE a5.2.1 a5.2.2.1 a5.2.2.2.1 a5.2.2.2.2.1 a5.2.2.2.2.2 a5.1.aj.fN.fG a5.1.aj.fN.fL a5.1.aj.fD.fG a5.1.aj.fD.fL a5.1.bH
  else none)
  else none)
  else none)
  else none)
  else none))))))))
def nz (N:Nat) (C0:Int) (a6:Int) (bD:Bool) (cj:List Int) (cn:Bool) (cr:List Int) (cd:Int) (C1:List Int) (C2:List Int) (C3:List (List aa)) (C4:List aa) (C5:List aa):Option (Int×jX×(List Int)×(List Int)×(List (List aa))×(List aa)×(List aa)) :=
 gh N N C0 a6 C1 C2 C3 C4 C5 bD cj cn cr cd
def dP (N:Nat) (s:List Int) (v:Int):Nat→Int→Option (Int)
 | 0,_=>none
 | fuel+1,x =>
  (cond (decide (x < ((s.length:Nat):Int)))
  ((if 0≤x∧x < ((s.length:Nat):Int) then
  (cond (v == (s.getD ((x).toNat) 0))
  (some x)
  (dP N s v fuel (ah (x+1))))
  else none))
  (some (-1)))
def dJ (N:Nat) (s:List Int) (v:Int):Option (Int) :=
 dP N s v N 0
def lv (N:Nat) (x:aa):Option (Bool) :=
 ((fz N x).bind fun eT =>
 some (!eT))
def dQ (N:Nat) (s:List aa):Nat→Int→Option (Int)
 | 0,_=>none
 | fuel+1,x =>
  (cond (decide (x < ((s.length:Nat):Int)))
  ((if 0≤x∧x < ((s.length:Nat):Int) then
  ((lv N (⟨((s.getD ((x).toNat) aa.d).fN),((s.getD ((x).toNat) aa.d).fD)⟩:aa)).bind fun Cy =>
  (cond Cy
  (some x)
  (dQ N s fuel (ah (x+1)))))
  else none))
  (some (-1)))
def j0 (N:Nat) (s:List aa):Option (Int) :=
 dQ N s N 0
def jG (N:Nat) (i:Int) (j:Int) (C0:List Int):Option ((List Int)×(List Int)) :=
 (if 0≤i∧i≤j∧j≤((C0.length:Nat):Int)∧((C0.length:Nat):Int)≤((C0.length:Nat):Int) then
 (cond (i == j)
 (some (C0,C0))
 ((if 0≤(i).toNat∧(i).toNat≤C0.length then
 (if 0≤i then
 (if (j).toNat≤C0.length∧C0.length≤C0.length then
 (if 0≤j then
 (if (i).toNat≤(j).toNat∧(j).toNat≤C0.length then
 (if 0 < C0.length then
 (if (((i).toNat - 0)+(C0.length - (j).toNat))≤C0.length∧0+C0.length≤(jD C0 ((i).toNat) ((j).toNat)).length then
 (if 0 < (C0.length - (((i).toNat - 0)+(C0.length - (j).toNat)))∧(((i).toNat - 0)+(C0.length - (j).toNat))+(C0.length - (((i).toNat - 0)+(C0.length - (j).toNat)))≤(jD C0 ((i).toNat) ((j).toNat)).length then
 some (((jD C0 ((i).toNat) ((j).toNat)).take (((i).toNat - 0)+(C0.length - (j).toNat))),((jD C0 ((i).toNat) ((j).toNat)).take (((i).toNat - 0)+(C0.length - (j).toNat))))
 else none)
 else none)
 else none)
 else none)
 else none)
 else none)
 else none)
 else none)))
 else none)
def l6 (N:Nat) (i:Int) (j:Int) (C0:List aa):Option ((List aa)×(List aa)) :=
 (if 0≤i∧i≤j∧j≤((C0.length:Nat):Int)∧((C0.length:Nat):Int)≤((C0.length:Nat):Int) then
 (cond (i == j)
 (some (C0,C0))
 ((if 0≤(i).toNat∧(i).toNat≤C0.length then
 (if 0≤i then
 (if (j).toNat≤C0.length∧C0.length≤C0.length then
 (if 0≤j then
 (if (i).toNat≤(j).toNat∧(j).toNat≤C0.length then
 (if 0 < C0.length then
 (if (((i).toNat - 0)+(C0.length - (j).toNat))≤C0.length∧0+C0.length≤(jD C0 ((i).toNat) ((j).toNat)).length then
 (if 0 < (C0.length - (((i).toNat - 0)+(C0.length - (j).toNat)))∧(((i).toNat - 0)+(C0.length - (j).toNat))+(C0.length - (((i).toNat - 0)+(C0.length - (j).toNat)))≤(jD C0 ((i).toNat) ((j).toNat)).length then
 some (((jD C0 ((i).toNat) ((j).toNat)).take (((i).toNat - 0)+(C0.length - (j).toNat))),((jD C0 ((i).toNat) ((j).toNat)).take (((i).toNat - 0)+(C0.length - (j).toNat))))
 else none)
 else none)
 else none)
 else none)
 else none)
 else none)
 else none)
 else none)))
 else none)
def iC (N:Nat) (C0:Int) (a6:Int) (bD:Bool) (cj:List Int) (cn:Bool) (cr:List Int) (cd:Int) (C1:List Int) (C2:List Int) (C3:List (List aa)) (C4:List aa) (C5:List aa) (x:Int) (gu:Int→Int→Option (Bool×jX×(List Int)×(List Int)×(List (List aa))×(List aa))) (Ls:Int):Option (Bool×jX×(List Int)×(List Int)×(List (List aa))×(List aa)) :=
 gu Ls (ah (x+1))
def fk (N:Nat) (rE:Int) (rF:Int) (oJ:List Int) (oK:List aa) (sx:Bool) (sy:List Int) (sB:Bool) (sD:List Int) (qP:Int) (bJ:(List Int)×(List Int)) (jl:List (List aa)):Nat→(List aa)→Int→Option (Bool×jX×(List Int)×(List Int)×(List (List aa))×(List aa))
 | 0,_,_=>none
 | fuel+1,yy,x3 =>
  (cond (decide (x3 < (((List.replicate bJ.2.length aa.d:List aa).length:Nat):Int)))
  (((gA N 0).bind fun jE =>
  (if 0≤x3∧x3 < ((yy.length:Nat):Int) then
  fk N rE rF oJ oK sx sy sB sD qP bJ jl fuel (yy.set ((x3).toNat) jE) (ah (x3+1))
  else none)))
  (((gA N 0).bind fun bm =>
  some (true,(⟨rE,rF,oJ,bJ.2,jl,oK,yy,bm,qP⟩:jX),oJ,bJ.2,jl,oK))))
def fm (N:Nat) (rE:Int) (rF:Int) (oJ:List Int) (xA:List (List aa)) (oK:List aa) (yz:List aa) (sx:Bool) (sy:List Int) (sB:Bool) (sD:List Int) (qP:Int) (kV:Int) (bJ:(List Int)×(List Int)):Nat→(List (List aa))→Int→Option (Bool×jX×(List Int)×(List Int)×(List (List aa))×(List aa))
 | 0,_,_=>none
 | fuel+1,jl,x2 =>
  (cond (decide (x2 < ((xA.length:Nat):Int)))
  ((if (x2).toNat < jl.length then
  (if 0≤x2∧x2 < ((jl.length:Nat):Int) then
  ((l6 N kV (ah (kV+1)) (jl.getD ((x2).toNat) [])).bind fun nA =>
  fm N rE rF oJ xA oK yz sx sy sB sD qP kV bJ fuel (jl.set ((x2).toNat) nA.2) (ah (x2+1)))
  else none)
  else none))
  ((if 0≤((bJ.2.length:Nat):Int)∧(64:Int) * ((bJ.2.length:Nat):Int)≤281474976710656∧((bJ.2.length:Nat):Int)≤9223372036854775807 then
  fk N rE rF oJ oK sx sy sB sD qP bJ jl N (List.replicate bJ.2.length aa.d:List aa) 0
  else none)))
def iE (N:Nat) (rE:Int) (rF:Int) (oJ:List Int) (GC:List Int) (xA:List (List aa)) (oK:List aa) (yz:List aa) (sx:Bool) (sy:List Int) (sB:Bool) (sD:List Int) (qP:Int):Option (Bool×jX×(List Int)×(List Int)×(List (List aa))×(List aa)) :=
 ((dJ N GC qP).bind fun kV =>
 ((jG N kV (ah (kV+1)) GC).bind fun bJ =>
 fm N rE rF oJ xA oK yz sx sy sB sD qP kV bJ N xA 0))
def iG (N:Nat) (bB:Int) (md:Int) (jx:List Int) (ny:List Int) (eC:List (List aa)) (nM:List aa) (nN:List aa) (qN:Bool) (qO:List Int) (wH:Bool) (wJ:List Int) (vt:Int):Option (Bool×jX×(List Int)×(List Int)×(List (List aa))×(List aa)) :=
 ((dJ N jx vt).bind fun b6 =>
 (cond (decide (b6≥0))
 ((if (b6).toNat < eC.length then
 (if 0≤b6∧b6 < ((eC.length:Nat):Int) then
 ((j0 N (eC.getD ((b6).toNat) [])).bind fun Ps =>
 ((jk N b6 Ps bB md qN qO wH wJ vt jx ny eC nM nN).bind fun cC =>
 (if cC.2.1.length=jx.length then
 (if cC.2.2.1.length=ny.length then
 (if cC.2.2.2.1.length=eC.length then
 (if cC.2.2.2.2.1.length=nM.length then
 (if cC.2.2.2.2.2.length=nN.length then
 iE N cC.1.uD cC.1.uE cC.2.1 cC.2.2.1 cC.2.2.2.1 cC.2.2.2.2.1 cC.2.2.2.2.2 cC.1.aj.fN.fG cC.1.aj.fN.fL cC.1.aj.fD.fG cC.1.aj.fD.fL cC.1.bH
 else none)
 else none)
 else none)
 else none)
 else none)))
 else none)
 else none))
 (iE N bB md jx ny eC nM nN qN qO wH wJ vt)))
def ea (N:Nat) (C0:Int) (a6:Int) (bD:Bool) (cj:List Int) (cn:Bool) (cr:List Int) (cd:Int) (C1:List Int) (C2:List Int) (C3:List (List aa)) (C4:List aa) (C5:List aa):Nat→Int→Int→Option (Bool×jX×(List Int)×(List Int)×(List (List aa))×(List aa))
 | 0,_,_=>none
 | fuel+1,low,x =>
  (cond (decide (x < ((C4.length:Nat):Int)))
  ((if 0≤x∧x < ((C4.length:Nat):Int) then
  ((ll N (⟨((C4.getD ((x).toNat) aa.d).fN),((C4.getD ((x).toNat) aa.d).fD)⟩:aa)).bind fun aF =>
  (if (((decide (aF < 0)) && ((decide (aF < 0)) && (!(decide (low < 0)))))=true→0≤x∧x < ((C4.length:Nat):Int)) then
  (if (((decide (aF < 0)) && ((decide (aF < 0)) && (!(decide (low < 0)))))=true→0≤low∧low < ((C4.length:Nat):Int)) then
  ((cond ((decide (aF < 0)) && ((decide (aF < 0)) && (!(decide (low < 0))))) (ij N (⟨((C4.getD ((x).toNat) aa.d).fN),((C4.getD ((x).toNat) aa.d).fD)⟩:aa) (⟨((C4.getD ((low).toNat) aa.d).fN),((C4.getD ((low).toNat) aa.d).fD)⟩:aa)) (some 0)).bind fun dc =>
  (cond (cond (decide (aF < 0)) (cond (decide (low < 0)) true (decide (dc < 0))) false)
  (iC N C0 a6 bD cj cn cr cd C1 C2 C3 C4 C5 x (ea N C0 a6 bD cj cn cr cd C1 C2 C3 C4 C5 fuel) x)
  (iC N C0 a6 bD cj cn cr cd C1 C2 C3 C4 C5 x (ea N C0 a6 bD cj cn cr cd C1 C2 C3 C4 C5 fuel) low)))
  else none)
  else none))
  else none))
  ((cond (decide (low≥0))
  (((gA N (-1)).bind fun av =>
  (if 0≤(ah (((C2.length:Nat):Int) - 1))∧(ah (((C2.length:Nat):Int) - 1)) < ((C5.length:Nat):Int) then
  ((jk N low (ah (((C2.length:Nat):Int) - 1)) C0 a6 bD cj cn cr cd C1 C2 C3 C4 (C5.set ((ah (((C2.length:Nat):Int) - 1)).toNat) av)).bind fun a5 =>
  (if a5.2.1.length=C1.length then
  (if a5.2.2.1.length=C2.length then
  (if a5.2.2.2.1.length=C3.length then
  (if a5.2.2.2.2.1.length=C4.length then
  (if a5.2.2.2.2.2.length=(C5.set ((ah (((C2.length:Nat):Int) - 1)).toNat) av).length then
  ((nz N a5.1.uD a5.1.uE a5.1.aj.fN.fG a5.1.aj.fN.fL a5.1.aj.fD.fG a5.1.aj.fD.fL a5.1.bH a5.2.1 a5.2.2.1 a5.2.2.2.1 a5.2.2.2.2.1 a5.2.2.2.2.2).bind fun bT =>
  (if bT.2.2.1.length=a5.2.1.length then
  (if bT.2.2.2.1.length=a5.2.2.1.length then
  (if bT.2.2.2.2.1.length=a5.2.2.2.1.length then
  (if bT.2.2.2.2.2.1.length=a5.2.2.2.2.1.length then
  (if bT.2.2.2.2.2.2.length=a5.2.2.2.2.2.length then
  ((fz N bT.2.1.aj).bind fun eT =>
  (cond (!eT)
  (some (false,(⟨bT.2.1.uD,bT.2.1.uE,bT.2.2.1,bT.2.2.2.1,bT.2.2.2.2.1,bT.2.2.2.2.2.1,bT.2.2.2.2.2.2,bT.2.1.aj,bT.2.1.bH⟩:jX),bT.2.2.1,bT.2.2.2.1,bT.2.2.2.2.1,bT.2.2.2.2.2.1))
  (iG N bT.2.1.uD bT.2.1.uE bT.2.2.1 bT.2.2.2.1 bT.2.2.2.2.1 bT.2.2.2.2.2.1 bT.2.2.2.2.2.2 bT.2.1.aj.fN.fG bT.2.1.aj.fN.fL bT.2.1.aj.fD.fG bT.2.1.aj.fD.fL bT.2.1.bH)))
  else none)
  else none)
  else none)
  else none)
  else none))
  else none)
  else none)
  else none)
  else none)
  else none))
  else none)))
  (iG N C0 a6 C1 C2 C3 C4 C5 bD cj cn cr cd))))
def mK (N:Nat) (C0:Int) (a6:Int) (bD:Bool) (cj:List Int) (cn:Bool) (cr:List Int) (cd:Int) (C1:List Int) (C2:List Int) (C3:List (List aa)) (C4:List aa) (C5:List aa):Option (Bool×jX×(List Int)×(List Int)×(List (List aa))×(List aa)) :=
 ea N C0 a6 bD cj cn cr cd C1 C2 C3 C4 C5 N (-1) 0
def eW (N:Nat) (C0:Int) (a6:Int) (bD:Bool) (cj:List Int) (cn:Bool) (cr:List Int) (cd:Int) (C1:List Int) (C2:List Int) (C3:List (List aa)) (C4:List aa) (C5:List aa) (x:Int) (en:(List aa)→Int→Option ((List aa))) (ew:List aa):Option ((List aa)) :=
 en ew (ah (x+1))
def cO (N:Nat) (C0:Int) (a6:Int) (bD:Bool) (cj:List Int) (cn:Bool) (cr:List Int) (cd:Int) (C1:List Int) (C2:List Int) (C3:List (List aa)) (C4:List aa) (C5:List aa):Nat→(List aa)→Int→Option ((List aa))
 | 0,_,_=>none
 | fuel+1,out,x =>
  (cond (decide (x < (((List.replicate ((a6).toNat) aa.d:List aa).length:Nat):Int)))
  (((gA N 0).bind fun av =>
  (if 0≤x∧x < ((out.length:Nat):Int) then
  ((dJ N C2 (ah ((ah (2 * C0))+x))).bind fun b6 =>
  (cond (decide (b6≥0))
  ((if 0≤b6∧b6 < ((C5.length:Nat):Int) then
  ((gM N (⟨((C5.getD ((b6).toNat) aa.d).fN),((C5.getD ((b6).toNat) aa.d).fD)⟩:aa)).bind fun aL =>
  (if 0≤x∧x < (((out.set ((x).toNat) av).length:Nat):Int) then
  eW N C0 a6 bD cj cn cr cd C1 C2 C3 C4 C5 x (cO N C0 a6 bD cj cn cr cd C1 C2 C3 C4 C5 fuel) ((out.set ((x).toNat) av).set ((x).toNat) aL)
  else none))
  else none))
  (eW N C0 a6 bD cj cn cr cd C1 C2 C3 C4 C5 x (cO N C0 a6 bD cj cn cr cd C1 C2 C3 C4 C5 fuel) (out.set ((x).toNat) av))))
  else none)))
  (some out))
def jH (N:Nat) (C0:Int) (a6:Int) (bD:Bool) (cj:List Int) (cn:Bool) (cr:List Int) (cd:Int) (C1:List Int) (C2:List Int) (C3:List (List aa)) (C4:List aa) (C5:List aa):Option ((List aa)) :=
 (if 0≤a6∧(64:Int) * a6≤281474976710656∧a6≤9223372036854775807 then
 cO N C0 a6 bD cj cn cr cd C1 C2 C3 C4 C5 N (List.replicate ((a6).toNat) aa.d:List aa) 0
 else none)
def nB (N:Nat) (wq:Int) (C0:Int) (a6:Int) (bD:Bool) (cj:List Int) (cn:Bool) (cr:List Int) (cd:Int) (C1:List Int) (C2:List Int) (C3:List (List aa)) (C4:List aa) (C5:List aa):Option (aa) :=
 ((dJ N C1 wq).bind fun b6 =>
 (cond (decide (b6≥0))
 ((if 0≤b6∧b6 < ((C4.length:Nat):Int) then
 some (⟨((C4.getD ((b6).toNat) aa.d).fN),((C4.getD ((b6).toNat) aa.d).fD)⟩:aa)
 else none))
 (((gA N 0).bind fun av =>
 some av))))
def gi (N:Nat) (C0:Int) (a6:Int) (bD:Bool) (cj:List Int) (cn:Bool) (cr:List Int) (cd:Int) (C1:List Int) (C2:List Int) (C3:List (List aa)) (C4:List aa) (C5:List aa):Nat→(List aa)→Int→Option ((List aa))
 | 0,_,_=>none
 | fuel+1,out,x =>
  (cond (decide (x < (((List.replicate ((C0).toNat) aa.d:List aa).length:Nat):Int)))
  (((nB N x C0 a6 bD cj cn cr cd C1 C2 C3 C4 C5).bind fun rat =>
  ((nB N (ah (C0+x)) C0 a6 bD cj cn cr cd C1 C2 C3 C4 C5).bind fun Pt =>
  ((dU N rat Pt).bind fun au =>
  (if 0≤x∧x < ((out.length:Nat):Int) then
  gi N C0 a6 bD cj cn cr cd C1 C2 C3 C4 C5 fuel (out.set ((x).toNat) au) (ah (x+1))
  else none)))))
  (some out))
def nC (N:Nat) (C0:Int) (a6:Int) (bD:Bool) (cj:List Int) (cn:Bool) (cr:List Int) (cd:Int) (C1:List Int) (C2:List Int) (C3:List (List aa)) (C4:List aa) (C5:List aa):Option ((List aa)) :=
 (if 0≤C0∧(64:Int) * C0≤281474976710656∧C0≤9223372036854775807 then
 gi N C0 a6 bD cj cn cr cd C1 C2 C3 C4 C5 N (List.replicate ((C0).toNat) aa.d:List aa) 0
 else none)
def tA (N:Nat) (n:Int) (l:List ag):Option ((List aa)×(List aa)×Int) :=
 ((rD N n l).bind fun tB =>
 (cond (tB != 0)
 (some (([]:List aa),([]:List aa),tB))
 (((zJ N n l).bind fun dV =>
 ((mK N dV.uD dV.uE dV.aj.fN.fG dV.aj.fN.fL dV.aj.fD.fG dV.aj.fD.fL dV.bH dV.iA dV.lf dV.FO dV.FP dV.dr).bind fun bt =>
 (if bt.2.2.1.length=dV.iA.length then
 (if bt.2.2.2.2.1.length=dV.FO.length then
 (if bt.2.2.2.2.2.length=dV.FP.length then
 (cond (!bt.1)
 (((jH N bt.2.1.uD bt.2.1.uE bt.2.1.aj.fN.fG bt.2.1.aj.fN.fL bt.2.1.aj.fD.fG bt.2.1.aj.fD.fL bt.2.1.bH bt.2.2.1 bt.2.2.2.1 bt.2.2.2.2.1 bt.2.2.2.2.2 bt.2.1.dr).bind fun fO =>
 some (([]:List aa),fO,29)))
 (((nC N bt.2.1.uD bt.2.1.uE bt.2.1.aj.fN.fG bt.2.1.aj.fN.fL bt.2.1.aj.fD.fG bt.2.1.aj.fD.fL bt.2.1.bH bt.2.2.1 bt.2.2.2.1 bt.2.2.2.2.1 bt.2.2.2.2.2 bt.2.1.dr).bind fun rG =>
 some (rG,([]:List aa),0))))
 else none)
 else none)
 else none))))))
def gj (N:Nat) (x:ao):Option (ByteArray) :=
 some x.p9
def jI (N:Nat) (s:ByteArray):Nat→Int→Option (Bool)
 | 0,_=>none
 | fuel+1,x =>
  (cond (decide (x < ((s.size:Nat):Int)))
  ((if 0≤x∧x < ((s.size:Nat):Int) then
  (cond (cond (!(cond (cond (decide ((zA s x)≥97)) (decide ((zA s x)≤122)) false) true (cond (decide ((zA s x)≥65)) (decide ((zA s x)≤90)) false))) (cond (x == 0) true (!(cond (cond (decide ((zA s x)≥48)) (decide ((zA s x)≤57)) false) true ((zA s x) == 45)))) false)
  (some false)
  (jI N s fuel (ah (x+1))))
  else none))
  (some true))
def rH (N:Nat) (s:ByteArray):Option (Bool) :=
 (cond (cond (pY s ByteArray.empty) true (decide (((s.size:Nat):Int) > 12)))
 (some false)
 (jI N s N 0))
def lx (N:Nat) (y:ao) (C1:ao):Option (Bool) :=
 ((gj N y).bind fun j3 =>
 ((gj N C1).bind fun rI =>
 some (pY j3 rI)))
def bK (N:Nat) (s:List ao) (C1:ao):Nat→Int→Option (Int)
 | 0,_=>none
 | fuel+1,x =>
  (cond (decide (x < ((s.length:Nat):Int)))
  ((if 0≤x∧x < ((s.length:Nat):Int) then
  ((lx N (s.getD ((x).toNat) ao.d) C1).bind fun HQ =>
  (cond HQ
  (some x)
  (bK N s C1 fuel (ah (x+1)))))
  else none))
  (some (-1)))
def dW (N:Nat) (s:List ao) (C1:ao):Option (Int) :=
 bK N s C1 N 0
def dn (N:Nat) (s:List ao) (C1:ao):Option (Bool) :=
 ((dW N s C1).bind fun uh =>
 some (decide (uh≥0)))
def dA (N:Nat) (n:Int) (lo:Int) (hi:Int):Option (Bool) :=
 some (cond (decide (n < lo)) true (decide (n > hi)))
def nD (N:Nat) (x:ao):Option (Int) :=
 ((dA N x.q7 (-1000000) 1000000).bind fun cg =>
 ((cond (!cg) (dA N x.uR (-1000000) 1000000) (some false)).bind fun cP =>
 ((cond (!(cond cg true cP)) (dA N x.iJ (-1000000) 1000000) (some false)).bind fun fA =>
 ((cond (!(cond (cond cg true cP) true fA)) (dA N x.lY (-1000000) 1000000) (some false)).bind fun n3 =>
 ((cond (!(cond (cond (cond cg true cP) true fA) true n3)) (dA N x.tv 1 1000000000) (some false)).bind fun zK =>
 (cond (cond (cond (cond (cond cg true cP) true fA) true n3) true zK)
 (some 2)
 ((cond (cond (x.q7 == x.iJ) (x.uR == x.lY) false)
 (some 9)
 (some 0)))))))))
def fo (N:Nat) (l:List ao):Nat→Int→Option (Int)
 | 0,_=>none
 | fuel+1,x =>
  (cond (decide (x < ((l.length:Nat):Int)))
  ((if 0≤x∧x < ((l.length:Nat):Int) then
  ((gj N (l.getD ((x).toNat) ao.d)).bind fun j3 =>
  ((rH N j3).bind fun HR =>
  (cond (!HR)
  (some 4)
  ((if 0≤(x).toNat∧(x).toNat≤l.length then
  (if 0≤x then
  ((dn N ((l.take ((x).toNat)).drop 0) (l.getD ((x).toNat) ao.d)).bind fun uh =>
  (cond uh
  (some 5)
  (((nD N (l.getD ((x).toNat) ao.d)).bind fun j4 =>
  (cond (j4 != 0)
  (some j4)
  (fo N l fuel (ah (x+1))))))))
  else none)
  else none)))))
  else none))
  (some 0))
def mL (N:Nat) (l:List ao) (cm:Int):Option (Int) :=
 (cond (decide (((l.length:Nat):Int) > cm))
 (some 8)
 (fo N l N 0))
def im (N:Nat) (l:List ao):Option (Int) :=
 ((mL N l 12).bind fun uh =>
 some uh)
def mv (N:Nat) (l:ao) (x:Int) (kW:Int→Int→Option (Int)) (GD:Int):Option (Int) :=
 kW GD (ah (x+1))
def iU (N:Nat) (l:ao):Nat→Int→Int→Option (Int)
 | 0,_,_=>none
 | fuel+1,root,x =>
  (cond (decide (x < 23))
  ((if (0:Int)≤(ah (22 - x)) then
  (cond (decide ((ah ((q0 .i64 root (fh .i64 1 (ah (22 - x)))) * (q0 .i64 root (fh .i64 1 (ah (22 - x)))))) < (ah ((ah ((ah (l.iJ - l.q7)) * (ah (l.iJ - l.q7))))+(ah ((ah (l.lY - l.uR)) * (ah (l.lY - l.uR))))))))
  (mv N l x (iU N l fuel) (q0 .i64 root (fh .i64 1 (ah (22 - x)))))
  (mv N l x (iU N l fuel) root))
  else none))
  (some (ah (root+1))))
def pD (N:Nat) (l:ao):Option (Int) :=
 iU N l N 0 0
def tC (N:Nat) (l:ao):Option (Int×Int) :=
 ((im N ([l]:List ao)).bind fun bC =>
 (cond (bC != 0)
 (some (0,bC))
 (((pD N l).bind fun Cz =>
 some (Cz,0)))))
def vu (N:Nat):Option (Bool) :=
 ((tC N (⟨(⟨#[108]⟩:ByteArray),0,0,3000,4000,1000⟩:ao)).bind fun vv =>
 some (cond (vv.2 == 0) (vv.1 == 5000) false))
def ly (N:Nat) (l:List ao):Nat→Int→Option (Bool)
 | 0,_=>none
 | fuel+1,i =>
  (cond (decide (i < ((l.length:Nat):Int)))
  ((if 0≤i∧i < ((l.length:Nat):Int) then
  (cond (decide (((((l.getD ((i).toNat) ao.d).p9).size:Nat):Int) > 40))
  (some false)
  (ly N l fuel (ah (i+1))))
  else none))
  (some (decide (((l.length:Nat):Int)≤14))))
def vw (N:Nat) (l:List ao):Option (Bool) :=
 ly N l N 0
def qh (N:Nat) (IU:Bool):Option (Int) :=
 (cond IU
 (some 2)
 (some 0))
def kX (N:Nat) (w:dE):Option (Int) :=
 ((dA N w.q7 (-1000000000) 1000000000).bind fun cg =>
 ((cond (!cg) (dA N w.uR (-1000000000) 1000000000) (some false)).bind fun cP =>
 ((cond (!(cond cg true cP)) (dA N w.rC (-1000000000000000) 1000000000000000) (some false)).bind fun fA =>
 ((qh N (cond (cond cg true cP) true fA)).bind fun Fe =>
 some Fe))))
def cT (N:Nat) (n:Int):Option (aa) :=
 ((zG N n).bind fun Ew =>
 ((wo N Ew).bind fun xz =>
 some xz))
def me (N:Nat) (w:dE):Option (aq) :=
 ((cT N w.q7).bind fun dp =>
 ((cT N w.uR).bind fun cD =>
 ((cT N w.rC).bind fun cE =>
 some (⟨dp,cD,cE⟩:aq))))
def zL (N:Nat) (a:Int) (b:Int):Option (aa×Int) :=
 (cond (b == 0)
 (some ((⟨(⟨false,([]:List Int)⟩:bd),(⟨false,([]:List Int)⟩:bd)⟩:aa),9))
 (((zG N a).bind fun Ew =>
 ((zG N b).bind fun HS =>
 ((fM N Ew HS).bind fun zd =>
 some (zd,0))))))
def jm (N:Nat) (l:ao):Option (aq) :=
 ((pD N l).bind fun Cz =>
 ((zL N l.tv Cz).bind fun CA =>
 ((cT N (ah (l.iJ - l.q7))).bind fun dp =>
 ((cF N CA.1 dp).bind fun bh =>
 ((cT N (ah (l.lY - l.uR))).bind fun cD =>
 ((cF N CA.1 cD).bind fun bI =>
 ((cT N l.q7).bind fun cE =>
 ((cF N cE bI).bind fun cN =>
 ((cT N l.uR).bind fun Ff =>
 ((cF N Ff bh).bind fun qi =>
 ((dU N cN qi).bind fun au =>
 some (⟨bh,bI,au⟩:aq))))))))))))
def kz (N:Nat) (l:List ao) (ak:aq) (rows:List ag) (au:aa) (cm:List aa) (least:List aa) (aK:aa) (bX:List aa) (a9:List aa) (bU:aa):Nat→(List aa)→(List aa)→Int→Option (aN)
 | 0,_,_,_=>none
 | fuel+1,eE,cQ,x4 =>
  (cond (decide (x4 < ((l.length:Nat):Int)))
  ((if 0≤x4∧x4 < ((l.length:Nat):Int) then
  ((jm N (l.getD ((x4).toNat) ao.d)).bind fun iQ =>
  (if (eE.length+1) * 64≤140737488355328 then
  ((dU N (⟨(⟨false,([]:List Int)⟩:bd),(⟨false,([]:List Int)⟩:bd)⟩:aa) iQ.e2).bind fun ef =>
  (if (cQ.length+1) * 64≤140737488355328 then
  kz N l ak rows au cm least aK bX a9 bU fuel (eE ++ ([iQ.e2]:List aa)) (cQ ++ ([ef]:List aa)) (ah (x4+1))
  else none))
  else none))
  else none))
  ((if (((rows ++ ([(⟨cm,au⟩:ag),(⟨least,ak.e0⟩:ag)]:List ag)) ++ ([(⟨bX,aK⟩:ag),(⟨a9,ak.e1⟩:ag)]:List ag)).length+2) * 88≤140737488355328 then
  ((tA N ((l.length:Nat):Int) (((rows ++ ([(⟨cm,au⟩:ag),(⟨least,ak.e0⟩:ag)]:List ag)) ++ ([(⟨bX,aK⟩:ag),(⟨a9,ak.e1⟩:ag)]:List ag)) ++ ([(⟨eE,bU⟩:ag),(⟨cQ,ak.e2⟩:ag)]:List ag))).bind fun cH =>
  (cond (cH.2.2 == 0)
  (some (⟨true,cH.1,([]:List aa)⟩:aN))
  ((if 0≤(ah ((ah ((ah (2 * ((l.length:Nat):Int)))+0))+1))∧(ah ((ah ((ah (2 * ((l.length:Nat):Int)))+0))+1)) < ((cH.2.1.length:Nat):Int) then
  (if 0≤(ah ((ah (2 * ((l.length:Nat):Int)))+0))∧(ah ((ah (2 * ((l.length:Nat):Int)))+0)) < ((cH.2.1.length:Nat):Int) then
  ((dU N (⟨((cH.2.1.getD ((ah ((ah ((ah (2 * ((l.length:Nat):Int)))+0))+1)).toNat) aa.d).fN),((cH.2.1.getD ((ah ((ah ((ah (2 * ((l.length:Nat):Int)))+0))+1)).toNat) aa.d).fD)⟩:aa) (⟨((cH.2.1.getD ((ah ((ah (2 * ((l.length:Nat):Int)))+0)).toNat) aa.d).fN),((cH.2.1.getD ((ah ((ah (2 * ((l.length:Nat):Int)))+0)).toNat) aa.d).fD)⟩:aa)).bind fun aX =>
  (if 0≤(ah ((ah ((ah (2 * ((l.length:Nat):Int)))+2))+1))∧(ah ((ah ((ah (2 * ((l.length:Nat):Int)))+2))+1)) < ((cH.2.1.length:Nat):Int) then
  (if 0≤(ah ((ah (2 * ((l.length:Nat):Int)))+2))∧(ah ((ah (2 * ((l.length:Nat):Int)))+2)) < ((cH.2.1.length:Nat):Int) then
  ((dU N (⟨((cH.2.1.getD ((ah ((ah ((ah (2 * ((l.length:Nat):Int)))+2))+1)).toNat) aa.d).fN),((cH.2.1.getD ((ah ((ah ((ah (2 * ((l.length:Nat):Int)))+2))+1)).toNat) aa.d).fD)⟩:aa) (⟨((cH.2.1.getD ((ah ((ah (2 * ((l.length:Nat):Int)))+2)).toNat) aa.d).fN),((cH.2.1.getD ((ah ((ah (2 * ((l.length:Nat):Int)))+2)).toNat) aa.d).fD)⟩:aa)).bind fun bq =>
  (if (([aX]:List aa).length+1) * 64≤140737488355328 then
  (if 0≤(ah ((ah ((ah (2 * ((l.length:Nat):Int)))+4))+1))∧(ah ((ah ((ah (2 * ((l.length:Nat):Int)))+4))+1)) < ((cH.2.1.length:Nat):Int) then
  (if 0≤(ah ((ah (2 * ((l.length:Nat):Int)))+4))∧(ah ((ah (2 * ((l.length:Nat):Int)))+4)) < ((cH.2.1.length:Nat):Int) then
  ((dU N (⟨((cH.2.1.getD ((ah ((ah ((ah (2 * ((l.length:Nat):Int)))+4))+1)).toNat) aa.d).fN),((cH.2.1.getD ((ah ((ah ((ah (2 * ((l.length:Nat):Int)))+4))+1)).toNat) aa.d).fD)⟩:aa) (⟨((cH.2.1.getD ((ah ((ah (2 * ((l.length:Nat):Int)))+4)).toNat) aa.d).fN),((cH.2.1.getD ((ah ((ah (2 * ((l.length:Nat):Int)))+4)).toNat) aa.d).fD)⟩:aa)).bind fun cX =>
  (if ((([aX]:List aa) ++ ([bq]:List aa)).length+1) * 64≤140737488355328 then
  some (⟨false,([]:List aa),((([aX]:List aa) ++ ([bq]:List aa)) ++ ([cX]:List aa))⟩:aN)
  else none))
  else none)
  else none)
  else none))
  else none)
  else none))
  else none)
  else none))))
  else none)))
def kA (N:Nat) (l:List ao) (ak:aq) (rows:List ag) (au:aa) (cm:List aa) (least:List aa) (aK:aa):Nat→(List aa)→(List aa)→Int→Option (aN)
 | 0,_,_,_=>none
 | fuel+1,bX,a9,x3 =>
  (cond (decide (x3 < ((l.length:Nat):Int)))
  ((if 0≤x3∧x3 < ((l.length:Nat):Int) then
  ((jm N (l.getD ((x3).toNat) ao.d)).bind fun iR =>
  (if (bX.length+1) * 64≤140737488355328 then
  ((dU N (⟨(⟨false,([]:List Int)⟩:bd),(⟨false,([]:List Int)⟩:bd)⟩:aa) iR.e1).bind fun eg =>
  (if (a9.length+1) * 64≤140737488355328 then
  kA N l ak rows au cm least aK fuel (bX ++ ([iR.e1]:List aa)) (a9 ++ ([eg]:List aa)) (ah (x3+1))
  else none))
  else none))
  else none))
  ((if ((rows ++ ([(⟨cm,au⟩:ag),(⟨least,ak.e0⟩:ag)]:List ag)).length+2) * 88≤140737488355328 then
  ((dU N (⟨(⟨false,([]:List Int)⟩:bd),(⟨false,([]:List Int)⟩:bd)⟩:aa) ak.e2).bind fun bU =>
  kz N l ak rows au cm least aK bX a9 bU N ([]:List aa) ([]:List aa) 0)
  else none)))
def kB (N:Nat) (l:List ao) (ak:aq) (rows:List ag) (au:aa):Nat→(List aa)→(List aa)→Int→Option (aN)
 | 0,_,_,_=>none
 | fuel+1,cm,least,x2 =>
  (cond (decide (x2 < ((l.length:Nat):Int)))
  ((if 0≤x2∧x2 < ((l.length:Nat):Int) then
  ((jm N (l.getD ((x2).toNat) ao.d)).bind fun g4 =>
  (if (cm.length+1) * 64≤140737488355328 then
  ((dU N (⟨(⟨false,([]:List Int)⟩:bd),(⟨false,([]:List Int)⟩:bd)⟩:aa) g4.e0).bind fun eh =>
  (if (least.length+1) * 64≤140737488355328 then
  kB N l ak rows au fuel (cm ++ ([g4.e0]:List aa)) (least ++ ([eh]:List aa)) (ah (x2+1))
  else none))
  else none))
  else none))
  ((if (rows.length+2) * 88≤140737488355328 then
  ((dU N (⟨(⟨false,([]:List Int)⟩:bd),(⟨false,([]:List Int)⟩:bd)⟩:aa) ak.e1).bind fun aK =>
  kA N l ak rows au cm least aK N ([]:List aa) ([]:List aa) 0)
  else none)))
def kC (N:Nat) (l:List ao) (ak:aq):Nat→(List ag)→Int→Option (aN)
 | 0,_,_=>none
 | fuel+1,rows,x =>
  (cond (decide (x < ((l.length:Nat):Int)))
  ((if 0≤((l.length:Nat):Int)∧(64:Int) * ((l.length:Nat):Int)≤281474976710656∧((l.length:Nat):Int)≤9223372036854775807 then
  ((cT N 1).bind fun dp =>
  ((cT N 1).bind fun cD =>
  ((cT N (-1)).bind fun cE =>
  (if 0≤x∧x < (((List.replicate l.length aa.d:List aa).length:Nat):Int) then
  (if (rows.length+2) * 88≤140737488355328 then
  kC N l ak fuel (rows ++ ([(⟨((List.replicate l.length aa.d:List aa).set ((x).toNat) cD),dp⟩:ag),(⟨((List.replicate l.length aa.d:List aa).set ((x).toNat) cE),(⟨(⟨false,([]:List Int)⟩:bd),(⟨false,([]:List Int)⟩:bd)⟩:aa)⟩:ag)]:List ag)) (ah (x+1))
  else none)
  else none))))
  else none))
  (((dU N (⟨(⟨false,([]:List Int)⟩:bd),(⟨false,([]:List Int)⟩:bd)⟩:aa) ak.e0).bind fun au =>
  kB N l ak rows au N ([]:List aa) ([]:List aa) 0)))
def tD (N:Nat) (l:List ao) (w:dE):Option (aN) :=
 ((me N w).bind fun ak =>
 kC N l ak N ([]:List ag) 0)
def mf (N:Nat) (s:ByteArray):Nat→Int→Option (Bool)
 | 0,_=>none
 | fuel+1,i =>
  (cond (decide (i < ((s.size:Nat):Int)))
  ((if 0≤i∧i < ((s.size:Nat):Int) then
  (cond (cond (!(cond (cond (decide ((zA s i)≥97)) (decide ((zA s i)≤122)) false) true (cond (decide ((zA s i)≥65)) (decide ((zA s i)≤90)) false))) (cond (i == 0) true (cond ((zA s i) != 45) (cond (decide ((zA s i) < 48)) true (decide ((zA s i) > 57))) false)) false)
  (some false)
  (mf N s fuel (ah (i+1))))
  else none))
  (some true))
def xB (N:Nat) (s:ByteArray):Option (Bool) :=
 (cond (cond (decide (((s.size:Nat):Int) < 1)) true (decide (((s.size:Nat):Int) > 12)))
 (some false)
 (mf N s N 0))
def fP (N:Nat) (n:Int) (low:Int) (high:Int):Option (Bool) :=
 some (cond (decide (n≥low)) (decide (n≤high)) false)
def oL (N:Nat) (l:ao):Option (Int) :=
 ((fP N l.q7 (-1000000) 1000000).bind fun uF =>
 ((cond (!(!uF)) (fP N l.uR (-1000000) 1000000) (some false)).bind fun n4 =>
 ((cond (!(cond (!uF) true (!n4))) (fP N l.iJ (-1000000) 1000000) (some false)).bind fun vz =>
 ((cond (!(cond (cond (!uF) true (!n4)) true (!vz))) (fP N l.lY (-1000000) 1000000) (some false)).bind fun GF =>
 ((cond (!(cond (cond (cond (!uF) true (!n4)) true (!vz)) true (!GF))) (fP N l.tv 1 1000000000) (some false)).bind fun Pu =>
 (cond (cond (cond (cond (cond (!uF) true (!n4)) true (!vz)) true (!GF)) true (!Pu))
 (some 2)
 ((cond (cond (l.q7 == l.iJ) (l.uR == l.lY) false)
 (some 9)
 (some 0)))))))))
def gD (N:Nat) (l:List ao) (i:Int) (fq:Int→Option (Int)):Nat→Int→Option (Int)
 | 0,_=>none
 | fuel+1,k =>
  (cond (decide (k < i))
  ((if 0≤k∧k < ((l.length:Nat):Int) then
  (if 0≤i∧i < ((l.length:Nat):Int) then
  (cond (pY ((l.getD ((k).toNat) ao.d).p9) ((l.getD ((i).toNat) ao.d).p9))
  (some 5)
  (gD N l i fq fuel (ah (k+1))))
  else none)
  else none))
  ((if 0≤i∧i < ((l.length:Nat):Int) then
  ((oL N (l.getD ((i).toNat) ao.d)).bind fun j4 =>
  (cond (j4 != 0)
  (some j4)
  (fq (ah (i+1)))))
  else none)))
def gF (N:Nat) (l:List ao):Nat→Int→Option (Int)
 | 0,_=>none
 | fuel+1,i =>
  (cond (decide (i < ((l.length:Nat):Int)))
  ((if 0≤i∧i < ((l.length:Nat):Int) then
  ((xB N ((l.getD ((i).toNat) ao.d).p9)).bind fun Fg =>
  (cond (!Fg)
  (some 4)
  (gD N l i (gF N l fuel) N 0)))
  else none))
  (some 0))
def lK (N:Nat) (l:List ao):Option (Int) :=
 (cond (decide (((l.length:Nat):Int) > 12))
 (some 8)
 (gF N l N 0))
def mw (N:Nat) (w:dE):Option (Int) :=
 ((fP N w.q7 (-1000000000) 1000000000).bind fun uF =>
 ((cond (!(!uF)) (fP N w.uR (-1000000000) 1000000000) (some false)).bind fun n4 =>
 ((cond (!(cond (!uF) true (!n4))) (fP N w.rC (-1000000000000000) 1000000000000000) (some false)).bind fun vz =>
 (cond (cond (cond (!uF) true (!n4)) true (!vz))
 (some 2)
 (some 0)))))
def tE (N:Nat) (l:List ao) (w:dE):Option (aN×Int) :=
 ((im N l).bind fun bC =>
 (cond (bC != 0)
 (some ((⟨false,([]:List aa),([]:List aa)⟩:aN),bC))
 (((kX N w).bind fun j5 =>
 (cond (j5 != 0)
 (some ((⟨false,([]:List aa),([]:List aa)⟩:aN),j5))
 (((tD N l w).bind fun Lv =>
 some (Lv,0))))))))
def g5 (N:Nat) (neg:Bool) (a:List Int):Nat→(List Int)→Int→Option (bd)
 | 0,_,_=>none
 | fuel+1,x,i =>
  (cond (decide (i < ((a.length:Nat):Int)))
  ((if 0≤i∧i < ((a.length:Nat):Int) then
  (if (x.length+1) * 2≤140737488355328 then
  g5 N neg a fuel (x ++ ([(IntKind.u16.wrap ((a.getD ((i).toNat) 0)))]:List Int)) (ah (i+1))
  else none)
  else none))
  (some (⟨(cond neg (decide (((a.length:Nat):Int) > 0)) false),x⟩:bd)))
def dX (N:Nat) (neg:Bool) (a:List Int):Option (bd) :=
 g5 N neg a N ([]:List Int) 0
def jn (N:Nat) (n:Int):Nat→(List Int)→Int→Option (bd)
 | 0,_,_=>none
 | fuel+1,a,u =>
  (cond (decide (u > 0))
  ((if (a.length+1) * 8≤140737488355328 then
  jn N n fuel (a ++ ([(ah ((u.tmod 65536)))]:List Int)) (IntKind.u64.wrap (u.tdiv 65536))
  else none))
  (((dX N (decide (n < 0)) a).bind fun nF =>
  some nF)))
def qj (N:Nat) (n:Int):Option (bd) :=
 (cond (decide (n < 0))
 (jn N n N ([]:List Int) (IntKind.u64.wrap (0 - (IntKind.u64.wrap (n)))))
 (jn N n N ([]:List Int) (IntKind.u64.wrap (n))))
def lL (N:Nat) (n:Int):Option (aa) :=
 ((qj N n).bind fun Ew =>
 ((qj N 1).bind fun HS =>
 some (⟨Ew,HS⟩:aa)))
def q8 (N:Nat) (w:dE):Option (aq) :=
 ((lL N w.q7).bind fun rQ =>
 ((lL N w.uR).bind fun Pv =>
 ((lL N w.rC).bind fun Pw =>
 some (⟨rQ,Pv,Pw⟩:aq))))
def g6 (N:Nat) (a:List Int):Nat→Int→Option ((List Int))
 | 0,_=>none
 | fuel+1,n =>
  (if ((decide (n > 0))=true→0≤(ah (n - 1))∧(ah (n - 1)) < ((a.length:Nat):Int)) then
  (cond (cond (decide (n > 0)) ((a.getD ((ah (n - 1)).toNat) 0) == 0) false)
  (g6 N a fuel (ah (n - 1)))
  ((if 0≤(n).toNat∧(n).toNat≤a.length then
  (if 0≤n then
  (if (0+((n).toNat - 0)) * 8≤140737488355328 then
  some (([]:List Int) ++ ((a.take ((n).toNat)).drop 0))
  else none)
  else none)
  else none)))
  else none)
def j6 (N:Nat) (a:List Int):Option ((List Int)) :=
 g6 N a N ((a.length:Nat):Int)
def g7 (N:Nat) (l:List Int):Nat→(List Int)→Int→Option ((List Int))
 | 0,_,_=>none
 | fuel+1,a,i =>
  (cond (decide (i < ((l.length:Nat):Int)))
  ((if 0≤i∧i < ((l.length:Nat):Int) then
  (if (a.length+1) * 8≤140737488355328 then
  g7 N l fuel (a ++ ([(ah ((l.getD ((i).toNat) 0)))]:List Int)) (ah (i+1))
  else none)
  else none))
  (((j6 N a).bind fun bA =>
  some bA)))
def fB (N:Nat) (l:List Int):Option ((List Int)) :=
 g7 N l N ([]:List Int) 0
def jT (N:Nat) (a:List Int) (i:Int):Option (Int) :=
 (cond (decide (i < ((a.length:Nat):Int)))
 ((if 0≤i∧i < ((a.length:Nat):Int) then
 some (a.getD ((i).toNat) 0)
 else none))
 (some 0))
def gk (N:Nat) (a:List Int) (b:List Int) (i:Int) (jJ:(List Int)→Int→Option ((List Int))):Nat→(List Int)→Int→Int→Option ((List Int))
 | 0,_,_,_=>none
 | fuel+1,ew,carry,k =>
  (cond (cond (decide (k < ((b.length:Nat):Int))) true (decide (carry > 0)))
  ((if 0≤(ah (i+k))∧(ah (i+k)) < ((ew.length:Nat):Int) then
  (if 0≤i∧i < ((a.length:Nat):Int) then
  ((jT N b k).bind fun bP =>
  gk N a b i jJ fuel (ew.set ((ah (i+k)).toNat) ((ah ((ah ((ew.getD ((ah (i+k)).toNat) 0)+(ah ((a.getD ((i).toNat) 0) * bP))))+carry)).tmod 65536)) (ah ((ah ((ah ((ew.getD ((ah (i+k)).toNat) 0)+(ah ((a.getD ((i).toNat) 0) * bP))))+carry)).tdiv 65536)) (ah (k+1)))
  else none)
  else none))
  (jJ ew (ah (i+1))))
def gl (N:Nat) (a:List Int) (b:List Int):Nat→(List Int)→Int→Option ((List Int))
 | 0,_,_=>none
 | fuel+1,out,i =>
  (cond (decide (i < ((a.length:Nat):Int)))
  (gk N a b i (gl N a b fuel) N out 0 0)
  (((j6 N out).bind fun bA =>
  some bA)))
def jU (N:Nat) (a:List Int) (b:List Int):Option ((List Int)) :=
 (if 0≤(ah ((ah (((a.length:Nat):Int)+((b.length:Nat):Int)))+1))∧(8:Int) * (ah ((ah (((a.length:Nat):Int)+((b.length:Nat):Int)))+1))≤281474976710656∧(ah ((ah (((a.length:Nat):Int)+((b.length:Nat):Int)))+1))≤9223372036854775807 then
 gl N a b N (List.replicate ((ah ((ah (((a.length:Nat):Int)+((b.length:Nat):Int)))+1)).toNat) 0:List Int) 0
 else none)
def eF (N:Nat) (a:List Int) (b:List Int):Nat→Int→Option (Int)
 | 0,_=>none
 | fuel+1,i =>
  (cond (decide (i≥0))
  ((if 0≤i∧i < ((a.length:Nat):Int) then
  (if 0≤i∧i < ((b.length:Nat):Int) then
  (cond ((a.getD ((i).toNat) 0) != (b.getD ((i).toNat) 0))
  (some (ah ((a.getD ((i).toNat) 0) - (b.getD ((i).toNat) 0))))
  (eF N a b fuel (ah (i - 1))))
  else none)
  else none))
  (some 0))
def kL (N:Nat) (a:List Int) (b:List Int):Option (Int) :=
 (cond (((a.length:Nat):Int) != ((b.length:Nat):Int))
 (some (ah (((a.length:Nat):Int) - ((b.length:Nat):Int))))
 (eF N a b N (ah (((a.length:Nat):Int) - 1))))
def jK (N:Nat) (a:List Int) (b:List Int) (out:List Int) (i:Int) (lM:(List Int)→Int→Int→Option ((List Int))) (iB:Int) (s:Int):Option ((List Int)) :=
 (if (out.length+1) * 8≤140737488355328 then
 lM (out ++ ([s]:List Int)) iB (ah (i+1))
 else none)
def ej (N:Nat) (a:List Int) (b:List Int):Nat→(List Int)→Int→Int→Option ((List Int))
 | 0,_,_,_=>none
 | fuel+1,out,borrow,i =>
  (cond (decide (i < ((a.length:Nat):Int)))
  ((if 0≤i∧i < ((a.length:Nat):Int) then
  ((jT N b i).bind fun bP =>
  (cond (decide ((ah ((ah ((a.getD ((i).toNat) 0) - bP)) - borrow)) < 0))
  (jK N a b out i (ej N a b fuel) 1 (ah ((ah ((ah ((a.getD ((i).toNat) 0) - bP)) - borrow))+65536)))
  (jK N a b out i (ej N a b fuel) 0 (ah ((ah ((a.getD ((i).toNat) 0) - bP)) - borrow)))))
  else none))
  (((j6 N out).bind fun bA =>
  some bA)))
def mY (N:Nat) (a:List Int) (b:List Int):Option ((List Int)) :=
 ej N a b N ([]:List Int) 0 0
def kM (N:Nat) (a:List Int) (b:List Int) (q:List Int) (i:Int) (lo:Int) (cL:(List Int)→(List Int)→Int→Option ((List Int)×(List Int))) (GG:List Int):Option ((List Int)×(List Int)) :=
 cL GG (q.set ((i).toNat) lo) (ah (i - 1))
def fQ (N:Nat) (a:List Int) (b:List Int) (q:List Int) (i:Int) (bA:(List Int)) (cL:(List Int)→(List Int)→Int→Option ((List Int)×(List Int))):Nat→Int→Int→Option ((List Int)×(List Int))
 | 0,_,_=>none
 | fuel+1,lo,hi =>
  (cond (decide (lo < hi))
  (((jU N b ([(ah ((ah ((ah (lo+hi))+1)).tdiv 2))]:List Int)).bind fun oH =>
  ((kL N oH bA).bind fun ig =>
  (cond (decide (ig≤0))
  (fQ N a b q i bA cL fuel (ah ((ah ((ah (lo+hi))+1)).tdiv 2)) hi)
  (fQ N a b q i bA cL fuel lo (ah ((ah ((ah ((ah (lo+hi))+1)).tdiv 2)) - 1)))))))
  ((if 0≤i∧i < ((q.length:Nat):Int) then
  (cond (decide (lo > 0))
  (((jU N b ([lo]:List Int)).bind fun BE =>
  ((mY N bA BE).bind fun qd =>
  kM N a b q i lo cL qd)))
  (kM N a b q i lo cL bA))
  else none)))
def fR (N:Nat) (a:List Int) (b:List Int):Nat→(List Int)→(List Int)→Int→Option ((List Int)×(List Int))
 | 0,_,_,_=>none
 | fuel+1,rest,q,i =>
  (cond (decide (i≥0))
  ((if 0≤i∧i < ((a.length:Nat):Int) then
  (if (1+rest.length) * 8≤140737488355328 then
  ((j6 N (([(a.getD ((i).toNat) 0)]:List Int) ++ rest)).bind fun bA =>
  fQ N a b q i bA (fR N a b fuel) N 0 65535)
  else none)
  else none))
  (((j6 N q).bind fun gK =>
  some (gK,rest))))
def lz (N:Nat) (a:List Int) (b:List Int):Option ((List Int)×(List Int)) :=
 (if 0≤((a.length:Nat):Int)∧(8:Int) * ((a.length:Nat):Int)≤281474976710656∧((a.length:Nat):Int)≤9223372036854775807 then
 fR N a b N ([]:List Int) (List.replicate a.length 0:List Int) (ah (((a.length:Nat):Int) - 1))
 else none)
def j7 (N:Nat):Nat→(List Int)→(List Int)→Option ((List Int))
 | 0,_,_=>none
 | fuel+1,a2,b2 =>
  (cond (decide (((b2.length:Nat):Int) > 0))
  (((lz N a2 b2).bind fun jF =>
  j7 N fuel b2 jF.2))
  (some a2))
def wu (N:Nat) (a:List Int) (b:List Int):Option ((List Int)) :=
 j7 N N a b
def mM (N:Nat) (a:bd) (b:bd):Option (aa) :=
 ((fB N a.fL).bind fun kY =>
 ((fB N b.fL).bind fun l7 =>
 (cond (((l7.length:Nat):Int) == 0)
 (((dX N a.fG kY).bind fun nF =>
 ((qj N 1).bind fun Ew =>
 some (⟨nF,Ew⟩:aa))))
 (((wu N kY l7).bind fun Nb =>
 ((lz N kY Nb).bind fun jF =>
 ((lz N l7 Nb).bind fun iL =>
 ((dX N (!(a.fG == b.fG)) jF.1).bind fun xC =>
 ((dX N false iL.1).bind fun xD =>
 some (⟨xC,xD⟩:aa))))))))))
def eN (N:Nat) (x:aa):Option (aa) :=
 ((mM N x.fN x.fD).bind fun qk =>
 some qk)
def tF (N:Nat) (a:bd):Option (Int) :=
 ((fB N a.fL).bind fun kY =>
 (cond (((kY.length:Nat):Int) == 0)
 (some 0)
 ((cond a.fG
 (some (-1))
 (some 1)))))
def fS (N:Nat) (x:aa):Option (Int) :=
 ((eN N x).bind fun dk =>
 ((tF N dk.fN).bind fun Lw =>
 some Lw))
def zM (N:Nat) (a:bd):Option (bd) :=
 ((fB N a.fL).bind fun kY =>
 ((dX N (!a.fG) kY).bind fun nF =>
 some nF))
def tG (N:Nat) (x:aa):Option (aa) :=
 ((eN N x).bind fun dk =>
 ((zM N dk.fN).bind fun Px =>
 some (⟨Px,dk.fD⟩:aa)))
def lN (N:Nat) (a:bd) (b:bd):Option (bd) :=
 ((fB N a.fL).bind fun kY =>
 ((fB N b.fL).bind fun l7 =>
 ((jU N kY l7).bind fun oH =>
 ((dX N (!(a.fG == b.fG)) oH).bind fun nF =>
 some nF))))
def mg (N:Nat) (a:List Int) (b:List Int):Nat→(List Int)→Int→Int→Option ((List Int))
 | 0,_,_,_=>none
 | fuel+1,out,carry,i =>
  (cond (cond (cond (decide (i < ((a.length:Nat):Int))) true (decide (i < ((b.length:Nat):Int)))) true (decide (carry > 0)))
  (((jT N a i).bind fun bP =>
  ((jT N b i).bind fun j8 =>
  (if (out.length+1) * 8≤140737488355328 then
  mg N a b fuel (out ++ ([((ah ((ah (bP+j8))+carry)).tmod 65536)]:List Int)) (ah ((ah ((ah (bP+j8))+carry)).tdiv 65536)) (ah (i+1))
  else none))))
  (((j6 N out).bind fun bA =>
  some bA)))
def xE (N:Nat) (a:List Int) (b:List Int):Option ((List Int)) :=
 mg N a b N ([]:List Int) 0 0
def zN (N:Nat) (a:bd) (b:bd):Option (bd) :=
 ((fB N a.fL).bind fun kY =>
 ((fB N b.fL).bind fun l7 =>
 (cond (a.fG == b.fG)
 (((xE N kY l7).bind fun Ct =>
 ((dX N a.fG Ct).bind fun nF =>
 some nF)))
 (((kL N kY l7).bind fun ig =>
 (cond (decide (ig≥0))
 (((mY N kY l7).bind fun qd =>
 ((dX N a.fG qd).bind fun xC =>
 some xC)))
 (((mY N l7 kY).bind fun tz =>
 ((dX N b.fG tz).bind fun xD =>
 some xD)))))))))
def fT (N:Nat) (x:aa) (y:aa):Option (aa) :=
 ((eN N x).bind fun dk =>
 ((eN N y).bind fun fC =>
 ((lN N dk.fN fC.fD).bind fun qf =>
 ((lN N fC.fN dk.fD).bind fun lp =>
 ((zN N qf lp).bind fun HO =>
 ((lN N dk.fD fC.fD).bind fun Cu =>
 ((mM N HO Cu).bind fun qk =>
 some qk)))))))
def pE (N:Nat) (x:aa) (y:aa):Option (aa) :=
 ((tG N y).bind fun Fh =>
 ((fT N x Fh).bind fun aW =>
 some aW))
def tH (N:Nat) (x:aa) (y:aa):Option (Int) :=
 ((pE N x y).bind fun au =>
 ((fS N au).bind fun eG =>
 some eG))
def oc (N:Nat) (l:ao) (step:Int) (my:Int→Int→Option (Int)) (s2:Int):Option (Int) :=
 my s2 (ah (step.tdiv 2))
def kN (N:Nat) (l:ao):Nat→Int→Int→Option (Int)
 | 0,_,_=>none
 | fuel+1,s,step =>
  (cond (decide (step > 0))
  ((cond (decide ((ah ((ah (s+step)) * (ah (s+step)))) < (ah ((ah ((ah (l.iJ - l.q7)) * (ah (l.iJ - l.q7))))+(ah ((ah (l.lY - l.uR)) * (ah (l.lY - l.uR))))))))
  (oc N l step (kN N l fuel) (ah (s+step)))
  (oc N l step (kN N l fuel) s)))
  (some (ah (s+1))))
def xF (N:Nat) (l:ao):Option (Int) :=
 kN N l N 0 4194304
def tI (N:Nat) (x:aa) (y:aa):Option (aa) :=
 ((eN N x).bind fun dk =>
 ((eN N y).bind fun fC =>
 ((lN N dk.fN fC.fD).bind fun qf =>
 ((lN N dk.fD fC.fN).bind fun lp =>
 ((mM N qf lp).bind fun qk =>
 some qk)))))
def ep (N:Nat) (x:aa) (y:aa):Option (aa) :=
 ((eN N x).bind fun dk =>
 ((eN N y).bind fun fC =>
 ((lN N dk.fN fC.fN).bind fun qf =>
 ((lN N dk.fD fC.fD).bind fun lp =>
 ((mM N qf lp).bind fun qk =>
 some qk)))))
def ql (N:Nat) (l:ao):Option (aq) :=
 ((lL N l.tv).bind fun rQ =>
 ((xF N l).bind fun vv =>
 ((lL N vv).bind fun Pv =>
 ((tI N rQ Pv).bind fun BF =>
 ((lL N (ah (l.iJ - l.q7))).bind fun Pw =>
 ((ep N BF Pw).bind fun bh =>
 ((lL N (ah (l.lY - l.uR))).bind fun Th =>
 ((ep N BF Th).bind fun bI =>
 ((lL N l.q7).bind fun Ti =>
 ((ep N Ti bI).bind fun cN =>
 ((lL N l.uR).bind fun Tj =>
 ((ep N Tj bh).bind fun qi =>
 ((pE N cN qi).bind fun au =>
 some (⟨bh,bI,au⟩:aq))))))))))))))
def jo (N:Nat) (l:List ao) (parts:List aa):Nat→aq→Int→Option (Bool)
 | 0,_,_=>none
 | fuel+1,sum,i =>
  (cond (decide (i < ((l.length:Nat):Int)))
  ((if 0≤i∧i < ((parts.length:Nat):Int) then
  ((fS N (⟨((parts.getD ((i).toNat) aa.d).fN),((parts.getD ((i).toNat) aa.d).fD)⟩:aa)).bind fun eG =>
  (if ((!(decide (eG < 0)))=true→0≤i∧i < ((parts.length:Nat):Int)) then
  ((cond (!(decide (eG < 0))) (lL N 1) (some aa.d)).bind fun rQ =>
  ((cond (!(decide (eG < 0))) (tH N (⟨((parts.getD ((i).toNat) aa.d).fN),((parts.getD ((i).toNat) aa.d).fD)⟩:aa) rQ) (some 0)).bind fun dc =>
  (cond (cond (decide (eG < 0)) true (decide (dc > 0)))
  (some false)
  ((if 0≤i∧i < ((l.length:Nat):Int) then
  ((ql N (l.getD ((i).toNat) ao.d)).bind fun yA =>
  ((ep N (⟨((parts.getD ((i).toNat) aa.d).fN),((parts.getD ((i).toNat) aa.d).fD)⟩:aa) yA.e0).bind fun bh =>
  ((fT N sum.e0 bh).bind fun aW =>
  ((ep N (⟨((parts.getD ((i).toNat) aa.d).fN),((parts.getD ((i).toNat) aa.d).fD)⟩:aa) yA.e1).bind fun bI =>
  ((fT N sum.e1 bI).bind fun c0 =>
  ((ep N (⟨((parts.getD ((i).toNat) aa.d).fN),((parts.getD ((i).toNat) aa.d).fD)⟩:aa) yA.e2).bind fun cN =>
  ((fT N sum.e2 cN).bind fun dN =>
  jo N l parts fuel (⟨aW,c0,dN⟩:aq) (ah (i+1)))))))))
  else none)))))
  else none))
  else none))
  (((fS N sum.e0).bind fun dK =>
  ((cond (dK == 0) (fS N sum.e1) (some 0)).bind fun lO =>
  ((cond (cond (dK == 0) (lO == 0) false) (fS N sum.e2) (some 0)).bind fun zO =>
  some (cond (cond (dK == 0) (lO == 0) false) (zO == 0) false))))))
def qm (N:Nat) (l:List ao) (w:dE) (parts:List aa):Option (Bool) :=
 ((q8 N w).bind fun xG =>
 jo N l parts N xG 0)
def q9 (N:Nat) (d:List aa) (p:aq):Option (aa) :=
 ((lL N 0).bind fun rQ =>
 (if 0≤(0:Int)∧0 < ((d.length:Nat):Int) then
 ((ep N (⟨((d.getD 0 aa.d).fN),((d.getD 0 aa.d).fD)⟩:aa) p.e0).bind fun bh =>
 ((fT N rQ bh).bind fun aW =>
 (if 0≤(1:Int)∧1 < ((d.length:Nat):Int) then
 ((ep N (⟨((d.getD 1 aa.d).fN),((d.getD 1 aa.d).fD)⟩:aa) p.e1).bind fun bI =>
 ((fT N aW bI).bind fun c0 =>
 (if 0≤(2:Int)∧2 < ((d.length:Nat):Int) then
 ((ep N (⟨((d.getD 2 aa.d).fN),((d.getD 2 aa.d).fD)⟩:aa) p.e2).bind fun cN =>
 ((fT N c0 cN).bind fun dN =>
 some dN))
 else none)))
 else none)))
 else none))
def lP (N:Nat) (l:List ao) (d:List aa) (i:Int) (j9:aa→Int→Option (Bool)) (zP:aa):Option (Bool) :=
 j9 zP (ah (i+1))
def hG (N:Nat) (l:List ao) (d:List aa):Nat→aa→Int→Option (Bool)
 | 0,_,_=>none
 | fuel+1,sum,i =>
  (cond (decide (i < ((l.length:Nat):Int)))
  ((if 0≤i∧i < ((l.length:Nat):Int) then
  ((ql N (l.getD ((i).toNat) ao.d)).bind fun yA =>
  ((q9 N d yA).bind fun BG =>
  ((fS N BG).bind fun eG =>
  (cond (decide (eG > 0))
  (((fT N sum BG).bind fun aW =>
  lP N l d i (hG N l d fuel) aW))
  (lP N l d i (hG N l d fuel) sum)))))
  else none))
  (((fS N sum).bind fun dK =>
  some (decide (dK < 0)))))
def rJ (N:Nat) (l:List ao) (w:dE) (d:List aa):Option (Bool) :=
 ((q8 N w).bind fun xG =>
 ((q9 N d xG).bind fun HT =>
 hG N l d N HT 0))
def mN (N:Nat) (l:List ao) (w:dE) (m:aN):Option (Int) :=
 ((lK N l).bind fun bC =>
 (cond (bC != 0)
 (some bC)
 (((mw N w).bind fun lA =>
 (cond (lA != 0)
 (some lA)
 ((cond m.aH
 ((cond (((m.bG.length:Nat):Int) != ((l.length:Nat):Int))
 (some 11)
 (((qm N l w m.bG).bind fun zQ =>
 (cond (!zQ)
 (some 24)
 (some 0))))))
 ((cond (((m.dI.length:Nat):Int) != 3)
 (some 11)
 (((rJ N l w m.dI).bind fun CB =>
 (cond (!CB)
 (some 24)
 (some 0)))))))))))))
def zR (N:Nat) (x:aa) (n:Int):Option (Bool) :=
 some (cond (decide (((x.fN.fL.length:Nat):Int)≤n)) (decide (((x.fD.fL.length:Nat):Int)≤n)) false)
def kD (N:Nat) (l:List aa) (n:Int):Nat→Int→Option (Bool)
 | 0,_=>none
 | fuel+1,i =>
  (cond (decide (i < ((l.length:Nat):Int)))
  ((if 0≤i∧i < ((l.length:Nat):Int) then
  ((zR N (⟨((l.getD ((i).toNat) aa.d).fN),((l.getD ((i).toNat) aa.d).fD)⟩:aa) n).bind fun HU =>
  (cond (!HU)
  (some false)
  (kD N l n fuel (ah (i+1)))))
  else none))
  (some true))
def lQ (N:Nat) (l:List aa) (n:Int):Option (Bool) :=
 kD N l n N 0
def xH (N:Nat) (m:aN):Option (Bool) :=
 ((cond (cond (decide (((m.bG.length:Nat):Int)≤20)) (decide (((m.dI.length:Nat):Int)≤6)) false) (lQ N m.bG 12) (some false)).bind fun dd =>
 ((cond (cond (cond (decide (((m.bG.length:Nat):Int)≤20)) (decide (((m.dI.length:Nat):Int)≤6)) false) dd false) (lQ N m.dI 12) (some false)).bind fun fE =>
 some (cond (cond (cond (decide (((m.bG.length:Nat):Int)≤20)) (decide (((m.dI.length:Nat):Int)≤6)) false) dd false) fE false)))
def jL (N:Nat) (l:List ao) (parts:List aa):Nat→aq→Int→Option (Bool)
 | 0,_,_=>none
 | fuel+1,sum,x =>
  (cond (decide (x < ((l.length:Nat):Int)))
  ((if 0≤x∧x < ((l.length:Nat):Int) then
  (if 0≤x∧x < ((parts.length:Nat):Int) then
  ((ij N (⟨((parts.getD ((x).toNat) aa.d).fN),((parts.getD ((x).toNat) aa.d).fD)⟩:aa) (⟨(⟨false,([]:List Int)⟩:bd),(⟨false,([]:List Int)⟩:bd)⟩:aa)).bind fun dc =>
  (if ((!(decide (dc < 0)))=true→0≤x∧x < ((parts.length:Nat):Int)) then
  ((cond (!(decide (dc < 0))) (cT N 1) (some aa.d)).bind fun dp =>
  ((cond (!(decide (dc < 0))) (ij N (⟨((parts.getD ((x).toNat) aa.d).fN),((parts.getD ((x).toNat) aa.d).fD)⟩:aa) dp) (some 0)).bind fun oy =>
  (cond (cond (decide (dc < 0)) true (decide (oy > 0)))
  (some false)
  (((jm N (l.getD ((x).toNat) ao.d)).bind fun g4 =>
  ((cF N (⟨((parts.getD ((x).toNat) aa.d).fN),((parts.getD ((x).toNat) aa.d).fD)⟩:aa) g4.e0).bind fun bh =>
  ((dw N sum.e0 bh).bind fun aW =>
  ((cF N (⟨((parts.getD ((x).toNat) aa.d).fN),((parts.getD ((x).toNat) aa.d).fD)⟩:aa) g4.e1).bind fun bI =>
  ((dw N sum.e1 bI).bind fun c0 =>
  ((cF N (⟨((parts.getD ((x).toNat) aa.d).fN),((parts.getD ((x).toNat) aa.d).fD)⟩:aa) g4.e2).bind fun cN =>
  ((dw N sum.e2 cN).bind fun dN =>
  jL N l parts fuel (⟨aW,c0,dN⟩:aq) (ah (x+1)))))))))))))
  else none))
  else none)
  else none))
  (((ij N sum.e0 (⟨(⟨false,([]:List Int)⟩:bd),(⟨false,([]:List Int)⟩:bd)⟩:aa)).bind fun yB =>
  (cond (yB != 0)
  (some false)
  (((ij N sum.e1 (⟨(⟨false,([]:List Int)⟩:bd),(⟨false,([]:List Int)⟩:bd)⟩:aa)).bind fun yC =>
  (cond (yC != 0)
  (some false)
  (((ij N sum.e2 (⟨(⟨false,([]:List Int)⟩:bd),(⟨false,([]:List Int)⟩:bd)⟩:aa)).bind fun yD =>
  (cond (yD != 0)
  (some false)
  (some true)))))))))))
def rK (N:Nat) (l:List ao) (w:dE) (parts:List aa):Option (Bool) :=
 ((me N w).bind fun ak =>
 jL N l parts N ak 0)
def lR (N:Nat) (f:aq) (C0:List aa):Option (aa) :=
 ((cT N 0).bind fun dp =>
 (if 0≤(0:Int)∧0 < ((C0.length:Nat):Int) then
 ((cF N (⟨((C0.getD 0 aa.d).fN),((C0.getD 0 aa.d).fD)⟩:aa) f.e0).bind fun bh =>
 ((dw N dp bh).bind fun aW =>
 (if 0≤(1:Int)∧1 < ((C0.length:Nat):Int) then
 ((cF N (⟨((C0.getD 1 aa.d).fN),((C0.getD 1 aa.d).fD)⟩:aa) f.e1).bind fun bI =>
 ((dw N aW bI).bind fun c0 =>
 (if 0≤(2:Int)∧2 < ((C0.length:Nat):Int) then
 ((cF N (⟨((C0.getD 2 aa.d).fN),((C0.getD 2 aa.d).fD)⟩:aa) f.e2).bind fun cN =>
 ((dw N c0 cN).bind fun dN =>
 some dN))
 else none)))
 else none)))
 else none))
def kZ (N:Nat) (l:List ao) (proof:List aa) (x:Int) (jA:aa→Int→Option (Bool)) (zP:aa):Option (Bool) :=
 jA zP (ah (x+1))
def gx (N:Nat) (l:List ao) (proof:List aa):Nat→aa→Int→Option (Bool)
 | 0,_,_=>none
 | fuel+1,sum,x =>
  (cond (decide (x < ((l.length:Nat):Int)))
  ((if 0≤x∧x < ((l.length:Nat):Int) then
  ((jm N (l.getD ((x).toNat) ao.d)).bind fun g4 =>
  ((lR N g4 proof).bind fun sE =>
  ((ij N sE (⟨(⟨false,([]:List Int)⟩:bd),(⟨false,([]:List Int)⟩:bd)⟩:aa)).bind fun dc =>
  (cond (decide (dc > 0))
  (((dw N sum sE).bind fun aW =>
  kZ N l proof x (gx N l proof fuel) aW))
  (kZ N l proof x (gx N l proof fuel) sum)))))
  else none))
  (((ij N sum (⟨(⟨false,([]:List Int)⟩:bd),(⟨false,([]:List Int)⟩:bd)⟩:aa)).bind fun oy =>
  some (decide (oy < 0)))))
def qn (N:Nat) (l:List ao) (w:dE) (proof:List aa):Option (Bool) :=
 ((me N w).bind fun ak =>
 ((lR N ak proof).bind fun CC =>
 gx N l proof N CC 0))
def jq (N:Nat) (l:List ao) (w:dE) (m:aN):Option (Int) :=
 ((im N l).bind fun bC =>
 (cond (bC != 0)
 (some bC)
 (((kX N w).bind fun j5 =>
 (cond (j5 != 0)
 (some j5)
 ((cond (cond (cond m.aH (((m.bG.length:Nat):Int) != ((l.length:Nat):Int)) false) true (cond (!m.aH) (((m.dI.length:Nat):Int) != 3) false))
 (some 11)
 (((cond m.aH (rK N l w m.bG) (some false)).bind fun kb =>
 ((cond ((!(cond m.aH (!kb) false)) && ((!(cond m.aH (!kb) false)) && (!m.aH))) (qn N l w m.dI) (some false)).bind fun Fi =>
 (cond (cond (cond m.aH (!kb) false) true (cond (!m.aH) (!Fi) false))
 (some 24)
 (some 0))))))))))))
def jB (N:Nat) (l:List ao) (w:dE) (m:aN) (da:aN×Int) (f:Int):Option (Bool) :=
 (cond (f != 0)
 (some (cond (cond (cond (da.2 == f) (!da.1.aH) false) (((da.1.bG.length:Nat):Int) == 0) false) (((da.1.dI.length:Nat):Int) == 0) false))
 (((cond (!(da.2 != 0)) (jq N l w da.1) (some 0)).bind fun rL =>
 (cond (cond (da.2 != 0) true (rL != 0))
 (some false)
 (((lQ N da.1.bG 400).bind fun dd =>
 ((cond dd (lQ N da.1.dI 400) (some false)).bind fun fE =>
 ((cond (cond dd fE false) (mN N l w da.1) (some 0)).bind fun qo =>
 (cond (cond (cond dd fE false) (qo != 0) false)
 (some false)
 (((jq N l w m).bind fun iq =>
 some (cond (iq != 0) true (m.aH == da.1.aH)))))))))))))
def lS (N:Nat) (l:List ao) (w:dE) (m:aN):Option (Bool) :=
 ((vu N).bind fun HV =>
 (cond (!HV)
 (some false)
 (((vw N l).bind fun kQ =>
 ((cond (!(!kQ)) (xH N m) (some false)).bind fun sG =>
 (cond (cond (cond (!kQ) true (!sG)) true (cond (decide (((l.length:Nat):Int) > 6)) (decide (((l.length:Nat):Int)≤12)) false))
 (some true)
 (((tE N l w).bind fun da =>
 ((lK N l).bind fun bC =>
 (cond (bC == 0)
 (((mw N w).bind fun lA =>
 jB N l w m da lA))
 (jB N l w m da bC)))))))))))
end Go.Den
