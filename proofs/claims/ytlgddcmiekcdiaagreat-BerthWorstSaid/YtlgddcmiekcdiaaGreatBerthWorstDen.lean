/- The functions of the program as Lean functions, each in the Option monad; N bounds the rounds of loops. No conditions. -/
import Derived.Test.YtlgddcmiekcdiaaGreatCd
set_option linter.unusedVariables false
set_option linter.unusedSimpArgs false
set_option linter.unusedVariables false
namespace Go.Den
open Go.Ab
abbrev zA (s:ByteArray) (x:Int):Int:=ke s x.toNat
structure bW where
 fG:Bool
 fL:List Int
def bW.d:bW:=⟨false,[]⟩
def bW.wf (x:bW):Prop:=wB x.fG∧(wL (wK .u16)) x.fL
def lg (x:bW):List AV:=[(aB x.fG),(aH (cU .u16) 0 x.fL)]
structure aa where
 fN:bW
 fD:bW
def aa.d:aa:=⟨bW.d,bW.d⟩
def aa.wf (x:aa):Prop:=bW.wf x.fN∧bW.wf x.fD
def ak (x:aa):List AV:=[(aB x.fN.fG),(aH (cU .u16) 0 x.fN.fL),(aB x.fD.fG),(aH (cU .u16) 0 x.fD.fL)]
structure af where
 eJ:List aa
 mq:aa
def af.d:af:=⟨[],aa.d⟩
def af.wf (x:af):Prop:=(wL aa.wf) x.eJ∧aa.wf x.mq
def wo (x:af):List AV:=[(aH ak aa.d x.eJ),(aB x.mq.fN.fG),(aH (cU .u16) 0 x.mq.fN.fL),(aB x.mq.fD.fG),(aH (cU .u16) 0 x.mq.fD.fL)]
structure ly where
 wN:Int
 wO:Int
 j8:List Int
 mN:List Int
 IS:List (List aa)
 IT:List aa
 eK:List aa
 aj:aa
 cg:Int
def ly.d:ly:=⟨0,0,[],[],[],[],[],aa.d,0⟩
def ly.wf (x:ly):Prop:=wI x.wN∧wI x.wO∧(wL wI) x.j8∧(wL wI) x.mN∧(wL (wL aa.wf)) x.IS∧(wL aa.wf) x.IT∧(wL aa.wf) x.eK∧aa.wf x.aj∧wI x.cg
def ly.cells (x:ly):List AV:=[(aI x.wN),(aI x.wO),(aH cI 0 x.j8),(aH cI 0 x.mN),(aH (fun x=>[aH ak aa.d x]) [] x.IS),(aH ak aa.d x.IT),(aH ak aa.d x.eK),(aB x.aj.fN.fG),(aH (cU .u16) 0 x.aj.fN.fL),(aB x.aj.fD.fG),(aH (cU .u16) 0 x.aj.fD.fL),(aI x.cg)]
structure ai where
 fY:ByteArray
 jf:Int
 jR:Int
 bX:Int
 cz:Int
 nH:Int
def ai.d:ai:=⟨ByteArray.empty,0,0,0,0,0⟩
def ai.wf (x:ai):Prop:=wS x.fY∧wI x.jf∧wI x.jR∧wI x.bX∧wI x.cz∧wI x.nH
def ai.cells (x:ai):List AV:=[(aS x.fY),(aI x.jf),(aI x.jR),(aI x.bX),(aI x.cz),(aI x.nH)]
structure bJ where
 jf:Int
 jR:Int
 kg:Int
def bJ.d:bJ:=⟨0,0,0⟩
def bJ.wf (x:bJ):Prop:=wI x.jf∧wI x.jR∧wI x.kg
def bJ.cells (x:bJ):List AV:=[(aI x.jf),(aI x.jR),(aI x.kg)]
structure bF where
 ig:Bool
 j9:List aa
 ij:List aa
def bF.d:bF:=⟨false,[],[]⟩
def bF.wf (x:bF):Prop:=wB x.ig∧(wL aa.wf) x.j9∧(wL aa.wf) x.ij
def bF.cells (x:bF):List AV:=[(aB x.ig),(aH ak aa.d x.j9),(aH ak aa.d x.ij)]
structure av where
 e0:aa
 e1:aa
 e2:aa
def av.d:av:=⟨aa.d,aa.d,aa.d⟩
def av.wf (x:av):Prop:=aa.wf x.e0∧aa.wf x.e1∧aa.wf x.e2
def av.cells (x:av):List AV:=[(aB x.e0.fN.fG),(aH (cU .u16) 0 x.e0.fN.fL),(aB x.e0.fD.fG),(aH (cU .u16) 0 x.e0.fD.fL),(aB x.e1.fN.fG),(aH (cU .u16) 0 x.e1.fN.fL),(aB x.e1.fD.fG),(aH (cU .u16) 0 x.e1.fD.fL),(aB x.e2.fN.fG),(aH (cU .u16) 0 x.e2.fN.fL),(aB x.e2.fD.fG),(aH (cU .u16) 0 x.e2.fD.fL)]
structure zt where
 PG:Int
 PH:Int
def zt.d:zt:=⟨0,0⟩
def zt.wf (x:zt):Prop:=wI x.PG∧wI x.PH
def zt.cells (x:zt):List AV:=[(aI x.PG),(aI x.PH)]
structure BW where
 fY:ByteArray
 Me:List zt
 Tw:Int
def BW.d:BW:=⟨ByteArray.empty,[],0⟩
def BW.wf (x:BW):Prop:=wS x.fY∧(wL zt.wf) x.Me∧wI x.Tw
def BW.cells (x:BW):List AV:=[(aS x.fY),(aH zt.cells zt.d x.Me),(aI x.Tw)]
def og (N:Nat) (vr:af) (C0:Int):Option (Bool) :=
 some (decide (((vr.eJ.length:Nat):Int) > C0))
def ca (N:Nat) (s:List af) (C0:Int):Nat→Int→Option (Int)
 | 0,_=>none
 | fuel+1,x =>
  (cond (decide (x < ((s.length:Nat):Int)))
  ((if 0≤x∧x < ((s.length:Nat):Int) then
  ((og N (s.getD ((x).toNat) af.d) C0).bind fun xB =>
  (cond xB
  (some x)
  (ca N s C0 fuel (ag (x+1)))))
  else none))
  (some (-1)))
def lF (N:Nat) (s:List af) (C0:Int):Option (Int) :=
 ca N s C0 N 0
def ki (N:Nat) (s:List af) (C0:Int):Option (Bool) :=
 ((lF N s C0).bind fun KU =>
 some (decide (KU≥0)))
def nP (N:Nat) (n:Int) (l:List af):Option (Int) :=
 (cond (cond (decide (n < 0)) true (decide (n > 12)))
 (some 2)
 ((cond (decide (((l.length:Nat):Int) > 40))
 (some 8)
 (((ki N l n).bind fun KU =>
 (cond KU
 (some 11)
 (some 0)))))))
def jX (N:Nat):Nat→Int→(List Int)→Option ((List Int))
 | 0,_,_=>none
 | fuel+1,n2,out =>
  (cond (decide (n2 > 0))
  ((if (out.length+1) * 2≤140737488355328 then
  jX N fuel (oy .u64 n2 16) (out ++ ([(IntKind.u16.wrap (n2))]:List Int))
  else none))
  (some out))
def mO (N:Nat) (n:Int):Option ((List Int)) :=
 jX N N n ([]:List Int)
def mP (N:Nat):Nat→(List Int)→Option ((List Int))
 | 0,_=>none
 | fuel+1,n2 =>
  (if ((decide (((n2.length:Nat):Int) > 0))=true→0≤(ag (((n2.length:Nat):Int) - 1))∧(ag (((n2.length:Nat):Int) - 1)) < ((n2.length:Nat):Int)) then
  (cond (cond (decide (((n2.length:Nat):Int) > 0)) ((n2.getD ((ag (((n2.length:Nat):Int) - 1)).toNat) 0) == 0) false)
  ((if 0≤(ag (((n2.length:Nat):Int) - 1)).toNat∧(ag (((n2.length:Nat):Int) - 1)).toNat≤n2.length then
  (if 0≤(ag (((n2.length:Nat):Int) - 1)) then
  mP N fuel ((n2.take ((ag (((n2.length:Nat):Int) - 1)).toNat)).drop 0)
  else none)
  else none))
  (some n2))
  else none)
def gK (N:Nat) (n:List Int):Option ((List Int)) :=
 mP N N n
def dp (N:Nat) (s:List Int):Option ((List Int)) :=
 (if (0+s.length) * 2≤140737488355328 then
 some (([]:List Int) ++ s)
 else none)
def jn (N:Nat) (neg:Bool) (n:List Int):Option (bW) :=
 ((gK N n).bind fun bU =>
 (cond (((bU.length:Nat):Int) == 0)
 (some (⟨false,([]:List Int)⟩:bW))
 (((dp N bU).bind fun zQ =>
 some (⟨neg,zQ⟩:bW)))))
def vF (N:Nat) (n:Int):Option (bW) :=
 (cond (decide (n < 0))
 (((mO N (IntKind.u64.wrap (0 - (IntKind.u64.wrap (n))))).bind fun su =>
 ((jn N true su).bind fun KV =>
 some KV)))
 (((mO N (IntKind.u64.wrap (n))).bind fun BX =>
 ((jn N false BX).bind fun ES =>
 some ES))))
def lA (N:Nat) (n:List Int):Nat→Int→Int→Option (Int×Bool)
 | 0,_,_=>none
 | fuel+1,out,i =>
  (cond (decide (i≥0))
  ((if 0≤i∧i < ((n.length:Nat):Int) then
  lA N n fuel (ss .u64 (gJ .u64 out 16) (IntKind.u64.wrap ((n.getD ((i).toNat) 0)))) (ag (i - 1))
  else none))
  (some (out,true)))
def uC (N:Nat) (n:List Int):Option (Int×Bool) :=
 (cond (decide (((n.length:Nat):Int) > 4))
 (some (0,false))
 (lA N n N 0 (ag (((n.length:Nat):Int) - 1))))
def iV (N:Nat) (a:List Int) (b:List Int):Nat→Int→Option (Int)
 | 0,_=>none
 | fuel+1,i =>
  (cond (decide (i≥0))
  ((if 0≤i∧i < ((a.length:Nat):Int) then
  (if 0≤i∧i < ((b.length:Nat):Int) then
  (cond ((a.getD ((i).toNat) 0) != (b.getD ((i).toNat) 0))
  (some (ag ((ag ((a.getD ((i).toNat) 0))) - (ag ((b.getD ((i).toNat) 0))))))
  (iV N a b fuel (ag (i - 1))))
  else none)
  else none))
  (some 0))
def mQ (N:Nat) (a:List Int) (b:List Int):Option (Int) :=
 (cond (((a.length:Nat):Int) != ((b.length:Nat):Int))
 (some (ag (((a.length:Nat):Int) - ((b.length:Nat):Int))))
 (iV N a b N (ag (((a.length:Nat):Int) - 1))))
def kF (N:Nat) (a:List Int) (b:Int):Nat→(List Int)→Int→Int→Option ((List Int)×Int)
 | 0,_,_,_=>none
 | fuel+1,q,rest,i =>
  (cond (decide (i≥0))
  ((if 0≤i∧i < ((a.length:Nat):Int) then
  (if ((IntKind.u32.wrap (b)):Int)≠0 then
  (if 0≤i∧i < ((q.length:Nat):Int) then
  kF N a b fuel (q.set ((i).toNat) (IntKind.u16.wrap ((IntKind.u32.wrap ((ss .u32 (gJ .u32 rest 16) (IntKind.u32.wrap ((a.getD ((i).toNat) 0)))).tdiv (IntKind.u32.wrap (b))))))) ((ss .u32 (gJ .u32 rest 16) (IntKind.u32.wrap ((a.getD ((i).toNat) 0)))).tmod (IntKind.u32.wrap (b))) (ag (i - 1))
  else none)
  else none)
  else none))
  (((gK N q).bind fun bU =>
  some (bU,(IntKind.u16.wrap (rest))))))
def uD (N:Nat) (a:List Int) (b:Int):Option ((List Int)×Int) :=
 (if 0≤((a.length:Nat):Int)∧(2:Int) * ((a.length:Nat):Int)≤281474976710656∧((a.length:Nat):Int)≤9223372036854775807 then
 kF N a b N (List.replicate a.length 0:List Int) 0 (ag (((a.length:Nat):Int) - 1))
 else none)
def cw (N:Nat) (x2:Int) (n:Int):Option (Int) :=
 (if 0≤(IntKind.u8.wrap (x2))∧(IntKind.u8.wrap (x2)) < (((⟨#[0,1,2,2,3,3,3,3,4,4,4,4,4,4,4,4,5,5,5,5,5,5,5,5,5,5,5,5,5,5,5,5,6,6,6,6,6,6,6,6,6,6,6,6,6,6,6,6,6,6,6,6,6,6,6,6,6,6,6,6,6,6,6,6,7,7,7,7,7,7,7,7,7,7,7,7,7,7,7,7,7,7,7,7,7,7,7,7,7,7,7,7,7,7,7,7,7,7,7,7,7,7,7,7,7,7,7,7,7,7,7,7,7,7,7,7,7,7,7,7,7,7,7,7,7,7,7,7,8,8,8,8,8,8,8,8,8,8,8,8,8,8,8,8,8,8,8,8,8,8,8,8,8,8,8,8,8,8,8,8,8,8,8,8,8,8,8,8,8,8,8,8,8,8,8,8,8,8,8,8,8,8,8,8,8,8,8,8,8,8,8,8,8,8,8,8,8,8,8,8,8,8,8,8,8,8,8,8,8,8,8,8,8,8,8,8,8,8,8,8,8,8,8,8,8,8,8,8,8,8,8,8,8,8,8,8,8,8,8,8,8,8,8,8,8,8,8,8,8,8,8,8,8,8,8,8]⟩:ByteArray).size:Nat):Int) then
 some (ag (n+(ag ((ke (⟨#[0,1,2,2,3,3,3,3,4,4,4,4,4,4,4,4,5,5,5,5,5,5,5,5,5,5,5,5,5,5,5,5,6,6,6,6,6,6,6,6,6,6,6,6,6,6,6,6,6,6,6,6,6,6,6,6,6,6,6,6,6,6,6,6,7,7,7,7,7,7,7,7,7,7,7,7,7,7,7,7,7,7,7,7,7,7,7,7,7,7,7,7,7,7,7,7,7,7,7,7,7,7,7,7,7,7,7,7,7,7,7,7,7,7,7,7,7,7,7,7,7,7,7,7,7,7,7,7,8,8,8,8,8,8,8,8,8,8,8,8,8,8,8,8,8,8,8,8,8,8,8,8,8,8,8,8,8,8,8,8,8,8,8,8,8,8,8,8,8,8,8,8,8,8,8,8,8,8,8,8,8,8,8,8,8,8,8,8,8,8,8,8,8,8,8,8,8,8,8,8,8,8,8,8,8,8,8,8,8,8,8,8,8,8,8,8,8,8,8,8,8,8,8,8,8,8,8,8,8,8,8,8,8,8,8,8,8,8,8,8,8,8,8,8,8,8,8,8,8,8,8,8,8,8,8,8]⟩:ByteArray) ((IntKind.u8.wrap (x2)).toNat))))))
 else none)
def kG (N:Nat) (x:Int):Option (Int) :=
 (cond (decide (x≥256))
 (cw N (oy .u16 x 8) 8)
 (cw N x 0))
def eM (N:Nat) (x:Int):Option (Int) :=
 ((kG N x).bind fun KW =>
 some (ag (16 - KW)))
def iW (N:Nat) (a:List Int) (yU:Int):Nat→(List Int)→Int→Option ((List Int))
 | 0,_,_=>none
 | fuel+1,out,x =>
  (cond (decide (x < ((a.length:Nat):Int)))
  ((if 0≤x∧x < ((a.length:Nat):Int) then
  (if (0:Int)≤yU then
  (if 0≤x∧x < ((out.length:Nat):Int) then
  (if 0≤(ag (x+1))∧(ag (x+1)) < (((out.set ((x).toNat) (ss .u16 (out.getD ((x).toNat) 0) (IntKind.u16.wrap ((gJ .u32 (IntKind.u32.wrap ((a.getD ((x).toNat) 0))) yU))))).length:Nat):Int) then
  iW N a yU fuel ((out.set ((x).toNat) (ss .u16 (out.getD ((x).toNat) 0) (IntKind.u16.wrap ((gJ .u32 (IntKind.u32.wrap ((a.getD ((x).toNat) 0))) yU))))).set ((ag (x+1)).toNat) (IntKind.u16.wrap ((oy .u32 (gJ .u32 (IntKind.u32.wrap ((a.getD ((x).toNat) 0))) yU) 16)))) (ag (x+1))
  else none)
  else none)
  else none)
  else none))
  (some out))
def oL (N:Nat) (a:List Int) (yU:Int):Option ((List Int)) :=
 (if 0≤(ag (((a.length:Nat):Int)+1))∧(2:Int) * (ag (((a.length:Nat):Int)+1))≤281474976710656∧(ag (((a.length:Nat):Int)+1))≤9223372036854775807 then
 iW N a yU N (List.replicate ((ag (((a.length:Nat):Int)+1)).toNat) 0:List Int) 0
 else none)
def nh (N:Nat) (uo:Nat) (un:Nat) (v:List Int) (q:Int) (bq:List Int) (borrow:Int) (x:Int) (pg:(List Int)→Int→Int→Int→Option (Int×(List Int))) (x2:Int):Option (Int×(List Int)) :=
 (if 0≤x∧x < ((un:Nat):Int) then
 (if uo+un≤bq.length then
 pg (bq.set (bu uo (x).toNat) (IntKind.u16.wrap ((ag ((ag ((ag ((bq.getD (bu uo (x).toNat) 0))) - (ag ((Jx .u64 x2 65535)))))+borrow))))) (oy .u64 x2 16) (oy .i64 (ag ((ag ((ag ((bq.getD (bu uo (x).toNat) 0))) - (ag ((Jx .u64 x2 65535)))))+borrow)) 16) (ag (x+1))
 else none)
 else none)
def kH (N:Nat) (df:List Int) (q2:Int):Option (Int×(List Int)) :=
 some ((IntKind.u16.wrap (q2)),df)
def iK (N:Nat) (uo:Nat) (un:Nat) (v:List Int) (q:Int):Nat→(List Int)→Int→Int→Option (Int×(List Int))
 | 0,_,_,_=>none
 | fuel+1,b7,fo,x3 =>
  (cond (decide (x3 < ((v.length:Nat):Int)))
  ((if 0≤x3∧x3 < ((un:Nat):Int) then
  (if uo+un≤b7.length then
  (if 0≤x3∧x3 < ((v.length:Nat):Int) then
  iK N uo un v q fuel (b7.set (bu uo (x3).toNat) (IntKind.u16.wrap ((IntKind.u32.wrap (fo+(IntKind.u32.wrap ((IntKind.u32.wrap ((b7.getD (bu uo (x3).toNat) 0)))+(IntKind.u32.wrap ((v.getD ((x3).toNat) 0)))))))))) (oy .u32 (IntKind.u32.wrap (fo+(IntKind.u32.wrap ((IntKind.u32.wrap ((b7.getD (bu uo (x3).toNat) 0)))+(IntKind.u32.wrap ((v.getD ((x3).toNat) 0))))))) 16) (ag (x3+1))
  else none)
  else none)
  else none))
  ((if 0≤((v.length:Nat):Int)∧((v.length:Nat):Int) < ((un:Nat):Int) then
  (if uo+un≤b7.length then
  kH N (b7.set (bu uo v.length) (IntKind.u16.wrap ((b7.getD (bu uo v.length) 0)+(IntKind.u16.wrap (fo))))) (IntKind.u64.wrap (q - 1))
  else none)
  else none)))
def fQ (N:Nat) (uo:Nat) (un:Nat) (v:List Int) (q:Int):Nat→(List Int)→Int→Int→Int→Option (Int×(List Int))
 | 0,_,_,_,_=>none
 | fuel+1,bq,carry,borrow,x =>
  (cond (decide (x < (ag (((v.length:Nat):Int)+1))))
  ((cond (decide (x < ((v.length:Nat):Int)))
  ((if 0≤x∧x < ((v.length:Nat):Int) then
  nh N uo un v q bq borrow x (fQ N uo un v q fuel) (IntKind.u64.wrap (carry+(IntKind.u64.wrap (q * (IntKind.u64.wrap ((v.getD ((x).toNat) 0)))))))
  else none))
  (nh N uo un v q bq borrow x (fQ N uo un v q fuel) carry)))
  ((cond (decide (borrow < 0))
  (iK N uo un v q N bq 0 0)
  (kH N bq q))))
def kI (N:Nat) (uo:Nat) (un:Nat) (v:List Int) (C0:List Int):Nat→Int→Int→Option (Int×(List Int))
 | 0,_,_=>none
 | fuel+1,q,rest =>
  (if (((decide (rest < 65536)) && ((decide (rest < 65536)) && (!(decide (q > 65535)))))=true→0≤(ag (((v.length:Nat):Int) - 2))∧(ag (((v.length:Nat):Int) - 2)) < ((v.length:Nat):Int)) then
  (if (((decide (rest < 65536)) && ((decide (rest < 65536)) && (!(decide (q > 65535)))))=true→0≤(ag (((v.length:Nat):Int) - 2))∧(ag (((v.length:Nat):Int) - 2)) < ((un:Nat):Int)) then
  (if (((decide (rest < 65536)) && ((decide (rest < 65536)) && (!(decide (q > 65535)))))=true→uo+un≤C0.length) then
  (cond (cond (decide (rest < 65536)) (cond (decide (q > 65535)) true (decide ((IntKind.u64.wrap (q * (IntKind.u64.wrap ((v.getD ((ag (((v.length:Nat):Int) - 2)).toNat) 0))))) > (ss .u64 (gJ .u64 rest 16) (IntKind.u64.wrap ((C0.getD (bu uo (ag (((v.length:Nat):Int) - 2)).toNat) 0))))))) false)
  ((if 0≤(ag (((v.length:Nat):Int) - 1))∧(ag (((v.length:Nat):Int) - 1)) < ((v.length:Nat):Int) then
  kI N uo un v C0 fuel (IntKind.u64.wrap (q - 1)) (IntKind.u64.wrap (rest+(IntKind.u64.wrap ((v.getD ((ag (((v.length:Nat):Int) - 1)).toNat) 0)))))
  else none))
  (fQ N uo un v q N C0 0 0 0))
  else none)
  else none)
  else none)
def uE (N:Nat) (uo:Nat) (un:Nat) (v:List Int) (C0:List Int):Option (Int×(List Int)) :=
 (if 0≤((v.length:Nat):Int)∧((v.length:Nat):Int) < ((un:Nat):Int) then
 (if uo+un≤C0.length then
 (if 0≤(ag (((v.length:Nat):Int) - 1))∧(ag (((v.length:Nat):Int) - 1)) < ((un:Nat):Int) then
 (if 0≤(ag (((v.length:Nat):Int) - 1))∧(ag (((v.length:Nat):Int) - 1)) < ((v.length:Nat):Int) then
 (if ((IntKind.u64.wrap ((v.getD ((ag (((v.length:Nat):Int) - 1)).toNat) 0))):Int)≠0 then
 kI N uo un v C0 N (IntKind.u64.wrap ((ss .u64 (gJ .u64 (IntKind.u64.wrap ((C0.getD (bu uo v.length) 0))) 16) (IntKind.u64.wrap ((C0.getD (bu uo (ag (((v.length:Nat):Int) - 1)).toNat) 0)))).tdiv (IntKind.u64.wrap ((v.getD ((ag (((v.length:Nat):Int) - 1)).toNat) 0))))) ((ss .u64 (gJ .u64 (IntKind.u64.wrap ((C0.getD (bu uo v.length) 0))) 16) (IntKind.u64.wrap ((C0.getD (bu uo (ag (((v.length:Nat):Int) - 1)).toNat) 0)))).tmod (IntKind.u64.wrap ((v.getD ((ag (((v.length:Nat):Int) - 1)).toNat) 0))))
 else none)
 else none)
 else none)
 else none)
 else none)
def jD (N:Nat) (b:List Int) (bk:Int) (q:List Int) (u:List Int):Nat→(List Int)→Int→Option ((List Int)×(List Int))
 | 0,_,_=>none
 | fuel+1,vr,x =>
  (cond (decide (x < (((b.length - 0):Nat):Int)))
  ((if 0≤x∧x < ((u.length:Nat):Int) then
  (if 0≤(ag (x+1))∧(ag (x+1)) < ((u.length:Nat):Int) then
  (if (0:Int)≤bk then
  (if 0≤x∧x < ((vr.length:Nat):Int) then
  jD N b bk q u fuel (vr.set ((x).toNat) (IntKind.u16.wrap ((oy .u32 (ss .u32 (IntKind.u32.wrap ((u.getD ((x).toNat) 0))) (gJ .u32 (IntKind.u32.wrap ((u.getD ((ag (x+1)).toNat) 0))) 16)) bk)))) (ag (x+1))
  else none)
  else none)
  else none)
  else none))
  (((gK N q).bind fun jv =>
  ((gK N vr).bind fun KX =>
  some (jv,KX)))))
def jE (N:Nat) (b:List Int) (bk:Int) (fA:(List Int)):Nat→(List Int)→(List Int)→Int→Option ((List Int)×(List Int))
 | 0,_,_,_=>none
 | fuel+1,q,u,j =>
  (cond (decide (j≥0))
  ((if (j).toNat≤(ag ((ag (j+(((b.length - 0):Nat):Int)))+1)).toNat∧(ag ((ag (j+(((b.length - 0):Nat):Int)))+1)).toNat≤u.length then
  (if 0≤j then
  (if 0≤(ag ((ag (j+(((b.length - 0):Nat):Int)))+1)) then
  (if 0≤b.length∧b.length≤fA.length then
  ((uE N ((j).toNat) ((ag ((ag (j+(((b.length - 0):Nat):Int)))+1)).toNat - (j).toNat) ((fA.take b.length).drop 0) u).bind fun cG =>
  (if cG.2.length=u.length then
  (if 0≤j∧j < ((q.length:Nat):Int) then
  jE N b bk fA fuel (q.set ((j).toNat) cG.1) cG.2 (ag (j - 1))
  else none)
  else none))
  else none)
  else none)
  else none)
  else none))
  ((if 0≤(((b.length - 0):Nat):Int)∧(2:Int) * (((b.length - 0):Nat):Int)≤281474976710656∧(((b.length - 0):Nat):Int)≤9223372036854775807 then
  jD N b bk q u N (List.replicate (b.length - 0) 0:List Int) 0
  else none)))
def oB (N:Nat) (a:List Int) (b:List Int):Option ((List Int)×(List Int)) :=
 ((mQ N a b).bind fun jY =>
 (cond (decide (jY < 0))
 (((dp N a).bind fun zQ =>
 some (([]:List Int),zQ)))
 ((cond (((b.length:Nat):Int) == 1)
 ((if 0≤(0:Int)∧0 < ((b.length:Nat):Int) then
 ((uD N a (b.getD 0 0)).bind fun zR =>
 ((gK N ([zR.2]:List Int)).bind fun bU =>
 some (zR.1,bU)))
 else none))
 ((if 0≤(ag (((b.length:Nat):Int) - 1))∧(ag (((b.length:Nat):Int) - 1)) < ((b.length:Nat):Int) then
 ((eM N (b.getD ((ag (((b.length:Nat):Int) - 1)).toNat) 0)).bind fun bk =>
 ((oL N a bk).bind fun eC =>
 ((oL N b bk).bind fun fA =>
 (if 0≤b.length∧b.length≤fA.length then
 (if 0≤(ag (((eC.length:Nat):Int) - (((b.length - 0):Nat):Int)))∧(2:Int) * (ag (((eC.length:Nat):Int) - (((b.length - 0):Nat):Int)))≤281474976710656∧(ag (((eC.length:Nat):Int) - (((b.length - 0):Nat):Int)))≤9223372036854775807 then
 jE N b bk fA N (List.replicate ((ag (((eC.length:Nat):Int) - (((b.length - 0):Nat):Int))).toNat) 0:List Int) eC (ag ((ag (((eC.length:Nat):Int) - (((b.length - 0):Nat):Int))) - 1))
 else none)
 else none))))
 else none))))))
def kX (N:Nat) (oh:(List Int)→(List Int)→Option ((List Int))):Nat→Int→Int→Option ((List Int))
 | 0,_,_=>none
 | fuel+1,x,y =>
  (cond (decide (y > 0))
  ((if (y:Int)≠0 then
  kX N oh fuel y (x.tmod y)
  else none))
  (((mO N x).bind fun su =>
  some su)))
def jF (N:Nat):Nat→(List Int)→(List Int)→Option ((List Int))
 | 0,_,_=>none
 | fuel+1,a2,b2 =>
  (cond (decide (((b2.length:Nat):Int) > 0))
  (((uC N a2).bind fun Hg =>
  ((uC N b2).bind fun ET =>
  (cond (cond Hg.2 ET.2 false)
  (kX N (jF N fuel) N Hg.1 ET.1)
  (((oB N a2 b2).bind fun rH =>
  jF N fuel b2 rH.2))))))
  (some a2))
def vG (N:Nat) (a:List Int) (b:List Int):Option ((List Int)) :=
 jF N N a b
def l4 (N:Nat) (a:bW) (b:bW) (x:List Int) (y:List Int):Option (aa) :=
 ((jn N (!(a.fG == b.fG)) x).bind fun KV =>
 ((jn N false y).bind fun ES =>
 some (⟨KV,ES⟩:aa)))
def iL (N:Nat) (a:bW) (b:bW):Option (aa) :=
 ((gK N a.fL).bind fun bU =>
 ((gK N b.fL).bind fun jv =>
 ((vG N bU jv).bind fun oi =>
 (if ((!(((oi.length:Nat):Int) != 1))=true→0≤(0:Int)∧0 < ((oi.length:Nat):Int)) then
 (cond (cond (((oi.length:Nat):Int) != 1) true ((oi.getD 0 0) != 1))
 (((oB N bU oi).bind fun rH =>
 ((oB N jv oi).bind fun AN =>
 l4 N a b rH.1 AN.1)))
 (l4 N a b bU jv))
 else none))))
def qa (N:Nat) (a:bW):Option (aa) :=
 ((iL N a (⟨false,([1]:List Int)⟩:bW)).bind fun Bx =>
 some Bx)
def fZ (N:Nat) (n:Int):Option (aa) :=
 ((vF N n).bind fun F2 =>
 ((qa N F2).bind fun zS =>
 some zS))
def sw (N:Nat) (a:bW):Option (Int) :=
 ((gK N a.fL).bind fun bU =>
 (cond (((bU.length:Nat):Int) == 0)
 (some 0)
 ((cond a.fG
 (some (-1))
 (some 1)))))
def ku (N:Nat) (x:aa):Option (bW) :=
 ((sw N x.fD).bind fun uF =>
 (cond (uF == 0)
 (some (⟨false,([1]:List Int)⟩:bW))
 (some x.fD)))
def kY (N:Nat) (x:aa):Option (aa) :=
 ((ku N x).bind fun jw =>
 ((iL N x.fN jw).bind fun Bx =>
 some Bx))
def rI (N:Nat) (a:bW):Option (bW) :=
 some (⟨(!a.fG),a.fL⟩:bW)
def fR (N:Nat) (x:aa):Option (aa) :=
 ((rI N x.fN).bind fun BZ =>
 ((ku N x).bind fun jw =>
 ((iL N BZ jw).bind fun Bx =>
 some Bx)))
def ni (N:Nat) (n:Int) (l:List af) (aw:aa) (t:List Int) (t2:List Int) (t3:List (List aa)) (t4:List aa) (x2:Int) (row:List aa) (x3:Int) (ph:(List aa)→Int→Option (ly)) (ej:(List Int)→(List (List aa))→(List aa)→Int→Option (ly)) (c7:aa):Option (ly) :=
 ((fR N c7).bind fun aV =>
 (if 0≤x3∧x3 < ((row.length:Nat):Int) then
 (if 0≤(ag (n+x3))∧(ag (n+x3)) < ((row.length:Nat):Int) then
 ph ((row.set ((x3).toNat) aV).set ((ag (n+x3)).toNat) c7) (ag (x3+1))
 else none)
 else none))
def fS (N:Nat) (n:Int) (l:List af) (aw:aa) (t:List Int) (t2:List Int) (t3:List (List aa)) (t4:List aa) (x2:Int) (ej:(List Int)→(List (List aa))→(List aa)→Int→Option (ly)):Nat→(List aa)→Int→Option (ly)
 | 0,_,_=>none
 | fuel+1,row,x3 =>
  (cond (decide (x3 < n))
  (((fZ N 0).bind fun ln =>
  (cond (decide (x3 < ((((l.getD ((x2).toNat) af.d).eJ).length:Nat):Int)))
  ((if 0≤x3∧x3 < ((((l.getD ((x2).toNat) af.d).eJ).length:Nat):Int) then
  ((kY N (⟨((((l.getD ((x2).toNat) af.d).eJ).getD ((x3).toNat) aa.d).fN),((((l.getD ((x2).toNat) af.d).eJ).getD ((x3).toNat) aa.d).fD)⟩:aa)).bind fun vH =>
  ni N n l aw t t2 t3 t4 x2 row x3 (fS N n l aw t t2 t3 t4 x2 ej fuel) ej vH)
  else none))
  (ni N n l aw t t2 t3 t4 x2 row x3 (fS N n l aw t t2 t3 t4 x2 ej fuel) ej ln))))
  (((fZ N 1).bind fun bM =>
  (if 0≤(ag (2 * n))∧(ag (2 * n)) < ((row.length:Nat):Int) then
  (if (t3.length+1) * 24≤140737488355328 then
  ((kY N (⟨(((l.getD ((x2).toNat) af.d).mq).fN),(((l.getD ((x2).toNat) af.d).mq).fD)⟩:aa)).bind fun eD =>
  (if (t4.length+1) * 64≤140737488355328 then
  ej (t2 ++ ([(ag ((ag (2 * n))+x2))]:List Int)) (t3 ++ [(row.set ((ag (2 * n)).toNat) bM)]) (t4 ++ ([eD]:List aa)) (ag (x2+1))
  else none))
  else none)
  else none))))
def kJ (N:Nat) (n:Int) (l:List af) (aw:aa) (t:List Int) (t2:List Int) (t3:List (List aa)) (t4:List aa):Nat→(List aa)→Int→Option (ly)
 | 0,_,_=>none
 | fuel+1,t5,x4 =>
  (cond (decide (x4 < (((List.replicate ((ag ((ag (2 * n))+1)).toNat) aa.d:List aa).length:Nat):Int)))
  (((fZ N 0).bind fun pj =>
  (if 0≤x4∧x4 < ((t5.length:Nat):Int) then
  kJ N n l aw t t2 t3 t4 fuel (t5.set ((x4).toNat) pj) (ag (x4+1))
  else none)))
  (some (⟨n,((l.length:Nat):Int),t2,(t ++ ([(ag ((ag (2 * n))+((l.length:Nat):Int)))]:List Int)),t3,t4,t5,aw,(ag ((ag (2 * n))+((l.length:Nat):Int)))⟩:ly)))
def jx (N:Nat) (n:Int) (l:List af) (aw:aa) (t:List Int):Nat→(List Int)→(List (List aa))→(List aa)→Int→Option (ly)
 | 0,_,_,_,_=>none
 | fuel+1,t2,t3,t4,x2 =>
  (cond (decide (x2 < ((l.length:Nat):Int)))
  ((if 0≤x2∧x2 < ((l.length:Nat):Int) then
  (if (t2.length+1) * 8≤140737488355328 then
  (if 0≤(ag ((ag (2 * n))+1))∧(64:Int) * (ag ((ag (2 * n))+1))≤281474976710656∧(ag ((ag (2 * n))+1))≤9223372036854775807 then
  fS N n l aw t t2 t3 t4 x2 (jx N n l aw t fuel) N (List.replicate ((ag ((ag (2 * n))+1)).toNat) aa.d:List aa) 0
  else none)
  else none)
  else none))
  ((if 0≤(ag ((ag (2 * n))+1))∧(64:Int) * (ag ((ag (2 * n))+1))≤281474976710656∧(ag ((ag (2 * n))+1))≤9223372036854775807 then
  kJ N n l aw t t2 t3 t4 N (List.replicate ((ag ((ag (2 * n))+1)).toNat) aa.d:List aa) 0
  else none)))
def kK (N:Nat) (n:Int) (l:List af) (aw:aa):Nat→(List Int)→Int→Option (ly)
 | 0,_,_=>none
 | fuel+1,t,x =>
  (cond (decide (x < (ag (2 * n))))
  ((if (t.length+1) * 8≤140737488355328 then
  kK N n l aw fuel (t ++ ([x]:List Int)) (ag (x+1))
  else none))
  ((if (t.length+1) * 8≤140737488355328 then
  jx N n l aw t N ([]:List Int) ([]:List (List aa)) ([]:List aa) 0
  else none)))
def yA (N:Nat) (n:Int) (l:List af):Option (ly) :=
 ((fZ N 0).bind fun aw =>
 kK N n l aw N ([]:List Int) 0)
def mS (N:Nat) (x:aa):Option (Int) :=
 ((sw N x.fN).bind fun uF =>
 ((ku N x).bind fun jw =>
 ((sw N jw).bind fun KY =>
 some (ag (uF * KY)))))
def gL (N:Nat) (x:aa):Option (Bool) :=
 ((sw N x.fN).bind fun uF =>
 some (uF == 0))
def kL (N:Nat) (a:List Int) (b:List Int) (x:Int) (mT:(List Int)→Int→Option ((List Int))):Nat→(List Int)→Int→Int→Option ((List Int))
 | 0,_,_,_=>none
 | fuel+1,gf,carry,x2 =>
  (cond (decide (x2 < ((b.length:Nat):Int)))
  ((if 0≤x2∧x2 < ((b.length:Nat):Int) then
  (if 0≤(ag (x+x2))∧(ag (x+x2)) < ((gf.length:Nat):Int) then
  kL N a b x mT fuel (gf.set ((ag (x+x2)).toNat) (IntKind.u16.wrap ((IntKind.u32.wrap (carry+(IntKind.u32.wrap ((IntKind.u32.wrap ((IntKind.u32.wrap ((a.getD ((x).toNat) 0))) * (IntKind.u32.wrap ((b.getD ((x2).toNat) 0)))))+(IntKind.u32.wrap ((gf.getD ((ag (x+x2)).toNat) 0)))))))))) (oy .u32 (IntKind.u32.wrap (carry+(IntKind.u32.wrap ((IntKind.u32.wrap ((IntKind.u32.wrap ((a.getD ((x).toNat) 0))) * (IntKind.u32.wrap ((b.getD ((x2).toNat) 0)))))+(IntKind.u32.wrap ((gf.getD ((ag (x+x2)).toNat) 0))))))) 16) (ag (x2+1))
  else none)
  else none))
  ((if 0≤(ag (x+((b.length:Nat):Int)))∧(ag (x+((b.length:Nat):Int))) < ((gf.length:Nat):Int) then
  mT (gf.set ((ag (x+((b.length:Nat):Int))).toNat) (IntKind.u16.wrap (carry))) (ag (x+1))
  else none)))
def kM (N:Nat) (a:List Int) (b:List Int):Nat→(List Int)→Int→Option ((List Int))
 | 0,_,_=>none
 | fuel+1,out,x =>
  (cond (decide (x < ((a.length:Nat):Int)))
  ((if 0≤x∧x < ((a.length:Nat):Int) then
  kL N a b x (kM N a b fuel) N out 0 0
  else none))
  (((gK N out).bind fun bU =>
  some bU)))
def r8 (N:Nat) (a:List Int) (b:List Int):Option ((List Int)) :=
 (if 0≤(ag (((a.length:Nat):Int)+((b.length:Nat):Int)))∧(2:Int) * (ag (((a.length:Nat):Int)+((b.length:Nat):Int)))≤281474976710656∧(ag (((a.length:Nat):Int)+((b.length:Nat):Int)))≤9223372036854775807 then
 kM N a b N (List.replicate ((ag (((a.length:Nat):Int)+((b.length:Nat):Int))).toNat) 0:List Int) 0
 else none)
def pk (N:Nat) (a:bW) (b:bW):Option (bW) :=
 ((gK N a.fL).bind fun bU =>
 ((gK N b.fL).bind fun jv =>
 ((r8 N bU jv).bind fun qV =>
 ((jn N (!(a.fG == b.fG)) qV).bind fun KV =>
 some KV))))
def oM (N:Nat) (a2:List Int) (b2:List Int) (out:List Int) (x:Int) (qi:(List Int)→Int→Int→Option ((List Int))) (fo:Int):Option ((List Int)) :=
 (if (out.length+1) * 2≤140737488355328 then
 qi (out ++ ([(IntKind.u16.wrap (fo))]:List Int)) (oy .u32 fo 16) (ag (x+1))
 else none)
def jG (N:Nat) (a2:List Int) (b2:List Int):Nat→(List Int)→Int→Int→Option ((List Int))
 | 0,_,_,_=>none
 | fuel+1,out,carry,x =>
  (cond (decide (x < ((a2.length:Nat):Int)))
  ((if 0≤x∧x < ((a2.length:Nat):Int) then
  (cond (decide (x < ((b2.length:Nat):Int)))
  ((if 0≤x∧x < ((b2.length:Nat):Int) then
  oM N a2 b2 out x (jG N a2 b2 fuel) (IntKind.u32.wrap ((IntKind.u32.wrap (carry+(IntKind.u32.wrap ((a2.getD ((x).toNat) 0)))))+(IntKind.u32.wrap ((b2.getD ((x).toNat) 0)))))
  else none))
  (oM N a2 b2 out x (jG N a2 b2 fuel) (IntKind.u32.wrap (carry+(IntKind.u32.wrap ((a2.getD ((x).toNat) 0)))))))
  else none))
  ((if (out.length+1) * 2≤140737488355328 then
  ((gK N (out ++ ([(IntKind.u16.wrap (carry))]:List Int))).bind fun bU =>
  some bU)
  else none)))
def oN (N:Nat) (a2:List Int) (b2:List Int):Option ((List Int)) :=
 (if 0≤(0:Int)∧(2:Int) * (ag (((a2.length:Nat):Int)+1))≤281474976710656∧(ag (((a2.length:Nat):Int)+1))≤9223372036854775807∧(0:Int)≤(ag (((a2.length:Nat):Int)+1)) then
 jG N a2 b2 N (List.replicate 0 0:List Int) 0 0
 else none)
def uG (N:Nat) (a:List Int) (b:List Int):Option ((List Int)) :=
 (cond (decide (((a.length:Nat):Int) < ((b.length:Nat):Int)))
 (oN N b a)
 (oN N a b))
def nj (N:Nat) (a:List Int) (b:List Int) (out:List Int) (x:Int) (y:Int) (fF:(List Int)→Int→Int→Option ((List Int))) (kb:Int):Option ((List Int)) :=
 (if 0≤x∧x < ((out.length:Nat):Int) then
 fF (out.set ((x).toNat) (IntKind.u16.wrap ((IntKind.u32.wrap ((IntKind.u32.wrap ((IntKind.u32.wrap ((a.getD ((x).toNat) 0)))+(gJ .u32 kb 16))) - y))))) kb (ag (x+1))
 else none)
def nm (N:Nat) (a:List Int) (b:List Int) (out:List Int) (x:Int) (fF:(List Int)→Int→Int→Option ((List Int))) (y:Int):Option ((List Int)) :=
 (cond (decide ((IntKind.u32.wrap ((a.getD ((x).toNat) 0))) < y))
 (nj N a b out x y fF 1)
 (nj N a b out x y fF 0))
def gM (N:Nat) (a:List Int) (b:List Int):Nat→(List Int)→Int→Int→Option ((List Int))
 | 0,_,_,_=>none
 | fuel+1,out,borrow,x =>
  (cond (decide (x < ((a.length:Nat):Int)))
  ((if 0≤x∧x < ((a.length:Nat):Int) then
  (cond (decide (x < ((b.length:Nat):Int)))
  ((if 0≤x∧x < ((b.length:Nat):Int) then
  nm N a b out x (gM N a b fuel) (IntKind.u32.wrap (borrow+(IntKind.u32.wrap ((b.getD ((x).toNat) 0)))))
  else none))
  (nm N a b out x (gM N a b fuel) borrow))
  else none))
  (((gK N out).bind fun bU =>
  some bU)))
def qc (N:Nat) (a:List Int) (b:List Int):Option ((List Int)) :=
 (if 0≤((a.length:Nat):Int)∧(2:Int) * ((a.length:Nat):Int)≤281474976710656∧((a.length:Nat):Int)≤9223372036854775807 then
 gM N a b N (List.replicate a.length 0:List Int) 0 0
 else none)
def AO (N:Nat) (a:bW) (b:bW):Option (bW) :=
 ((gK N a.fL).bind fun bU =>
 ((gK N b.fL).bind fun jv =>
 (cond (a.fG == b.fG)
 (((uG N bU jv).bind fun EU =>
 ((jn N a.fG EU).bind fun KV =>
 some KV)))
 (((mQ N bU jv).bind fun jY =>
 (cond (decide (jY≥0))
 (((qc N bU jv).bind fun sx =>
 ((jn N a.fG sx).bind fun ES =>
 some ES)))
 (((qc N jv bU).bind fun vI =>
 ((jn N b.fG vI).bind fun Uu =>
 some Uu)))))))))
def kZ (N:Nat) (x:aa) (y:aa):Option (aa) :=
 ((gL N x).bind fun fT =>
 (cond fT
 (((kY N y).bind fun vH =>
 some vH))
 (((gL N y).bind fun sy =>
 (cond sy
 (((kY N x).bind fun eD =>
 some eD))
 (((ku N x).bind fun jw =>
 ((ku N y).bind fun oj =>
 ((pk N x.fN oj).bind fun sB =>
 ((pk N y.fN jw).bind fun mU =>
 ((AO N sB mU).bind fun KZ =>
 ((pk N jw oj).bind fun EV =>
 ((iL N KZ EV).bind fun Bx =>
 some Bx)))))))))))))
def eN (N:Nat) (x:aa) (y:aa):Option (aa) :=
 ((fR N y).bind fun aV =>
 ((kZ N x aV).bind fun bE =>
 some bE))
def oC (N:Nat) (x:aa) (y:aa):Option (Int) :=
 ((eN N x y).bind fun au =>
 ((mS N au).bind fun aJ =>
 some aJ))
def qB (N:Nat) (x:aa) (y:aa):Option (aa) :=
 ((ku N y).bind fun jw =>
 ((pk N x.fN jw).bind fun sB =>
 ((ku N x).bind fun oj =>
 ((pk N oj y.fN).bind fun mU =>
 ((iL N sB mU).bind fun Bx =>
 some Bx)))))
def gh (N:Nat) (x:aa) (y:aa):Option (aa) :=
 ((pk N x.fN y.fN).bind fun sB =>
 ((ku N x).bind fun jw =>
 ((ku N y).bind fun oj =>
 ((pk N jw oj).bind fun mU =>
 ((iL N sB mU).bind fun Bx =>
 some Bx)))))
def jZ (N:Nat) (j:Int) (f:aa) (C0:List aa) (x:Int) (kN:(List aa)→Int→Option ((List aa))) (b7:List aa):Option ((List aa)) :=
 kN b7 (ag (x+1))
def gi (N:Nat) (j:Int) (f:aa) (C0:List aa):Nat→(List aa)→Int→Option ((List aa))
 | 0,_,_=>none
 | fuel+1,bq,x =>
  (cond (decide (x < ((C0.length:Nat):Int)))
  ((cond (x == j)
  ((if 0≤x∧x < ((bq.length:Nat):Int) then
  ((gh N f (⟨((bq.getD ((x).toNat) aa.d).fN),((bq.getD ((x).toNat) aa.d).fD)⟩:aa)).bind fun ct =>
  jZ N j f C0 x (gi N j f C0 fuel) (bq.set ((x).toNat) ct))
  else none))
  ((if 0≤x∧x < ((bq.length:Nat):Int) then
  ((gL N (⟨((bq.getD ((x).toNat) aa.d).fN),((bq.getD ((x).toNat) aa.d).fD)⟩:aa)).bind fun fT =>
  (cond (!fT)
  (((gh N f (⟨((bq.getD ((x).toNat) aa.d).fN),((bq.getD ((x).toNat) aa.d).fD)⟩:aa)).bind fun du =>
  ((kZ N (⟨((bq.getD ((x).toNat) aa.d).fN),((bq.getD ((x).toNat) aa.d).fD)⟩:aa) du).bind fun bE =>
  jZ N j f C0 x (gi N j f C0 fuel) (bq.set ((x).toNat) bE))))
  (jZ N j f C0 x (gi N j f C0 fuel) bq)))
  else none))))
  (some bq))
def qW (N:Nat) (j:Int) (f:aa) (C0:List aa):Option ((List aa)) :=
 gi N j f C0 N C0 0
def fB (N:Nat) (j:Int) (f:aa) (C0:List aa) (C1:List aa) (x:Int) (jg:(List aa)→Int→Option ((List aa))) (b7:List aa):Option ((List aa)) :=
 jg b7 (ag (x+1))
def cE (N:Nat) (j:Int) (f:aa) (C0:List aa) (C1:List aa):Nat→(List aa)→Int→Option ((List aa))
 | 0,_,_=>none
 | fuel+1,bq,x =>
  (cond (decide (x < ((C0.length:Nat):Int)))
  ((cond (x == j)
  ((if 0≤x∧x < ((C1.length:Nat):Int) then
  ((gh N f (⟨((C1.getD ((x).toNat) aa.d).fN),((C1.getD ((x).toNat) aa.d).fD)⟩:aa)).bind fun ct =>
  (if 0≤x∧x < ((bq.length:Nat):Int) then
  fB N j f C0 C1 x (cE N j f C0 C1 fuel) (bq.set ((x).toNat) ct)
  else none))
  else none))
  ((if 0≤x∧x < ((C1.length:Nat):Int) then
  ((gL N (⟨((C1.getD ((x).toNat) aa.d).fN),((C1.getD ((x).toNat) aa.d).fD)⟩:aa)).bind fun fT =>
  (cond (!fT)
  ((if 0≤x∧x < ((bq.length:Nat):Int) then
  ((gh N f (⟨((C1.getD ((x).toNat) aa.d).fN),((C1.getD ((x).toNat) aa.d).fD)⟩:aa)).bind fun du =>
  ((kZ N (⟨((bq.getD ((x).toNat) aa.d).fN),((bq.getD ((x).toNat) aa.d).fD)⟩:aa) du).bind fun bE =>
  fB N j f C0 C1 x (cE N j f C0 C1 fuel) (bq.set ((x).toNat) bE)))
  else none))
  (fB N j f C0 C1 x (cE N j f C0 C1 fuel) bq)))
  else none))))
  (some bq))
def iA (N:Nat) (j:Int) (f:aa) (C0:List aa) (C1:List aa):Option ((List aa)) :=
 cE N j f C0 C1 N C0 0
def iX (N:Nat) (i:Int) (j:Int) (C0:Int) (bq:Int) (b7:Bool) (df:List Int) (dk:Bool) (dm:List Int) (dd:Int) (C1:List Int) (C2:List Int) (C3:List (List aa)) (C4:List aa) (C5:List aa) (x:Int) (jy:(List aa)→Int→Option (ly×(List Int)×(List Int)×(List (List aa))×(List aa)×(List aa))) (EW:List aa):Option (ly×(List Int)×(List Int)×(List (List aa))×(List aa)×(List aa)) :=
 jy EW (ag (x+1))
def dw (N:Nat) (i:Int) (j:Int) (C0:Int) (bq:Int) (b7:Bool) (df:List Int) (dk:Bool) (dm:List Int) (dd:Int) (C1:List Int) (C2:List Int) (C3:List (List aa)) (C5:List aa) (x2:Int) (jz:(List (List aa))→(List aa)→(List aa)→Int→Option (ly×(List Int)×(List Int)×(List (List aa))×(List aa)×(List aa))) (lf:List (List aa)) (EX:List aa) (po:List aa):Option (ly×(List Int)×(List Int)×(List (List aa))×(List aa)×(List aa)) :=
 jz lf EX po (ag (x2+1))
def gn (N:Nat) (i:Int) (j:Int) (C0:Int) (bq:Int) (dd:Int) (C1:List Int) (C2:List Int) (bV:List (List aa)) (bN:List aa) (nQ:List aa) (gp:List aa) (pU:Bool) (pV:List Int) (td:Bool) (tf:List Int):Option (ly×(List Int)×(List Int)×(List (List aa))×(List aa)×(List aa)) :=
 (if 0≤j∧j < ((C2.length:Nat):Int) then
 (if 0≤i∧i < ((C1.length:Nat):Int) then
 some ((⟨C0,bq,(C1.set ((i).toNat) (C2.getD ((j).toNat) 0)),(C2.set ((j).toNat) (C1.getD ((i).toNat) 0)),(bV.set ((i).toNat) bN),nQ,gp,(⟨(⟨pU,pV⟩:bW),(⟨td,tf⟩:bW)⟩:aa),dd⟩:ly),(C1.set ((i).toNat) (C2.getD ((j).toNat) 0)),(C2.set ((j).toNat) (C1.getD ((i).toNat) 0)),(bV.set ((i).toNat) bN),nQ,gp)
 else none)
 else none)
def bZ (N:Nat) (i:Int) (j:Int) (C0:Int) (bq:Int) (b7:Bool) (df:List Int) (dk:Bool) (dm:List Int) (dd:Int) (C1:List Int) (C2:List Int) (C3:List (List aa)) (C5:List aa):Nat→(List (List aa))→(List aa)→(List aa)→Int→Option (ly×(List Int)×(List Int)×(List (List aa))×(List aa)×(List aa))
 | 0,_,_,_,_=>none
 | fuel+1,bV,bN,nQ,x2 =>
  (cond (decide (x2 < ((C3.length:Nat):Int)))
  ((cond (decide ((x2).toNat=(i).toNat))
  ((if 0≤x2∧x2 < ((bV.length:Nat):Int) then
  (if 0≤j∧j < ((bN.length:Nat):Int) then
  ((cond (x2 != i) (gL N (⟨((bN.getD ((j).toNat) aa.d).fN),((bN.getD ((j).toNat) aa.d).fD)⟩:aa)) (some false)).bind fun fT =>
  (cond (cond (x2 != i) (!fT) false)
  ((if 0≤x2∧x2 < ((nQ.length:Nat):Int) then
  (if 0≤i∧i < ((nQ.length:Nat):Int) then
  ((gh N (⟨((bN.getD ((j).toNat) aa.d).fN),((bN.getD ((j).toNat) aa.d).fD)⟩:aa) (⟨((nQ.getD ((i).toNat) aa.d).fN),((nQ.getD ((i).toNat) aa.d).fD)⟩:aa)).bind fun ct =>
  ((kZ N (⟨((nQ.getD ((x2).toNat) aa.d).fN),((nQ.getD ((x2).toNat) aa.d).fD)⟩:aa) ct).bind fun bE =>
  (cond (decide ((x2).toNat=(i).toNat))
  (((qW N j (⟨((bN.getD ((j).toNat) aa.d).fN),((bN.getD ((j).toNat) aa.d).fD)⟩:aa) bN).bind fun Gc =>
  (if Gc.length=bN.length then
  dw N i j C0 bq b7 df dk dm dd C1 C2 C3 C5 x2 (bZ N i j C0 bq b7 df dk dm dd C1 C2 C3 C5 fuel) bV Gc (nQ.set ((x2).toNat) bE)
  else none)))
  ((if (x2).toNat < bV.length then
  ((iA N j (⟨((bN.getD ((j).toNat) aa.d).fN),((bN.getD ((j).toNat) aa.d).fD)⟩:aa) (bV.getD ((x2).toNat) []) bN).bind fun mV =>
  (if mV.length=(bV.getD ((x2).toNat) []).length then
  dw N i j C0 bq b7 df dk dm dd C1 C2 C3 C5 x2 (bZ N i j C0 bq b7 df dk dm dd C1 C2 C3 C5 fuel) (bV.set ((x2).toNat) mV) bN (nQ.set ((x2).toNat) bE)
  else none))
  else none)))))
  else none)
  else none))
  (dw N i j C0 bq b7 df dk dm dd C1 C2 C3 C5 x2 (bZ N i j C0 bq b7 df dk dm dd C1 C2 C3 C5 fuel) bV bN nQ)))
  else none)
  else none))
  ((if (x2).toNat < bV.length then
  (if 0≤x2∧x2 < ((bV.length:Nat):Int) then
  (if 0≤j∧j < (((bV.getD ((x2).toNat) []).length:Nat):Int) then
  ((cond (x2 != i) (gL N (⟨(((bV.getD ((x2).toNat) []).getD ((j).toNat) aa.d).fN),(((bV.getD ((x2).toNat) []).getD ((j).toNat) aa.d).fD)⟩:aa)) (some false)).bind fun sy =>
  (cond (cond (x2 != i) (!sy) false)
  ((if 0≤x2∧x2 < ((nQ.length:Nat):Int) then
  (if 0≤i∧i < ((nQ.length:Nat):Int) then
  ((gh N (⟨(((bV.getD ((x2).toNat) []).getD ((j).toNat) aa.d).fN),(((bV.getD ((x2).toNat) []).getD ((j).toNat) aa.d).fD)⟩:aa) (⟨((nQ.getD ((i).toNat) aa.d).fN),((nQ.getD ((i).toNat) aa.d).fD)⟩:aa)).bind fun du =>
  ((kZ N (⟨((nQ.getD ((x2).toNat) aa.d).fN),((nQ.getD ((x2).toNat) aa.d).fD)⟩:aa) du).bind fun iY =>
  ((iA N j (⟨(((bV.getD ((x2).toNat) []).getD ((j).toNat) aa.d).fN),(((bV.getD ((x2).toNat) []).getD ((j).toNat) aa.d).fD)⟩:aa) (bV.getD ((x2).toNat) []) bN).bind fun mW =>
  (if mW.length=(bV.getD ((x2).toNat) []).length then
  dw N i j C0 bq b7 df dk dm dd C1 C2 C3 C5 x2 (bZ N i j C0 bq b7 df dk dm dd C1 C2 C3 C5 fuel) (bV.set ((x2).toNat) mW) bN (nQ.set ((x2).toNat) iY)
  else none))))
  else none)
  else none))
  (dw N i j C0 bq b7 df dk dm dd C1 C2 C3 C5 x2 (bZ N i j C0 bq b7 df dk dm dd C1 C2 C3 C5 fuel) bV bN nQ)))
  else none)
  else none)
  else none))))
  ((if 0≤j∧j < ((C5.length:Nat):Int) then
  ((gL N (⟨((C5.getD ((j).toNat) aa.d).fN),((C5.getD ((j).toNat) aa.d).fD)⟩:aa)).bind fun EY =>
  (cond (!EY)
  ((if 0≤i∧i < ((nQ.length:Nat):Int) then
  ((gh N (⟨((C5.getD ((j).toNat) aa.d).fN),((C5.getD ((j).toNat) aa.d).fD)⟩:aa) (⟨((nQ.getD ((i).toNat) aa.d).fN),((nQ.getD ((i).toNat) aa.d).fD)⟩:aa)).bind fun gN =>
  ((kZ N (⟨(⟨b7,df⟩:bW),(⟨dk,dm⟩:bW)⟩:aa) gN).bind fun kO =>
  ((iA N j (⟨((C5.getD ((j).toNat) aa.d).fN),((C5.getD ((j).toNat) aa.d).fD)⟩:aa) C5 bN).bind fun Hh =>
  (if Hh.length=C5.length then
  (if (i).toNat < bV.length then
  gn N i j C0 bq dd C1 C2 bV bN nQ Hh kO.fN.fG kO.fN.fL kO.fD.fG kO.fD.fL
  else none)
  else none))))
  else none))
  ((if (i).toNat < bV.length then
  gn N i j C0 bq dd C1 C2 bV bN nQ C5 b7 df dk dm
  else none))))
  else none)))
def dx (N:Nat) (i:Int) (j:Int) (C0:Int) (bq:Int) (b7:Bool) (df:List Int) (dk:Bool) (dm:List Int) (dd:Int) (C1:List Int) (C2:List Int) (C3:List (List aa)) (C4:List aa) (C5:List aa):Nat→(List aa)→Int→Option (ly×(List Int)×(List Int)×(List (List aa))×(List aa)×(List aa))
 | 0,_,_=>none
 | fuel+1,sD,x =>
  (cond (decide (x < (((C3.getD ((i).toNat) []).length:Nat):Int)))
  ((cond (x != j)
  ((if 0≤x∧x < ((sD.length:Nat):Int) then
  ((qB N (⟨((sD.getD ((x).toNat) aa.d).fN),((sD.getD ((x).toNat) aa.d).fD)⟩:aa) (⟨(((C3.getD ((i).toNat) []).getD ((j).toNat) aa.d).fN),(((C3.getD ((i).toNat) []).getD ((j).toNat) aa.d).fD)⟩:aa)).bind fun j3 =>
  ((fR N j3).bind fun aV =>
  iX N i j C0 bq b7 df dk dm dd C1 C2 C3 C4 C5 x (dx N i j C0 bq b7 df dk dm dd C1 C2 C3 C4 C5 fuel) (sD.set ((x).toNat) aV)))
  else none))
  (iX N i j C0 bq b7 df dk dm dd C1 C2 C3 C4 C5 x (dx N i j C0 bq b7 df dk dm dd C1 C2 C3 C4 C5 fuel) sD)))
  (((fZ N 1).bind fun aw =>
  ((qB N aw (⟨(((C3.getD ((i).toNat) []).getD ((j).toNat) aa.d).fN),(((C3.getD ((i).toNat) []).getD ((j).toNat) aa.d).fD)⟩:aa)).bind fun kj =>
  (if 0≤j∧j < ((sD.length:Nat):Int) then
  (if 0≤i∧i < ((C4.length:Nat):Int) then
  ((qB N (⟨((C4.getD ((i).toNat) aa.d).fN),((C4.getD ((i).toNat) aa.d).fD)⟩:aa) (⟨(((C3.getD ((i).toNat) []).getD ((j).toNat) aa.d).fN),(((C3.getD ((i).toNat) []).getD ((j).toNat) aa.d).fD)⟩:aa)).bind fun K0 =>
  ((fR N K0).bind fun lG =>
  bZ N i j C0 bq b7 df dk dm dd C1 C2 C3 C5 N C3 (sD.set ((j).toNat) kj) (C4.set ((i).toNat) lG) 0))
  else none)
  else none)))))
def jh (N:Nat) (i:Int) (j:Int) (C0:Int) (bq:Int) (b7:Bool) (df:List Int) (dk:Bool) (dm:List Int) (dd:Int) (C1:List Int) (C2:List Int) (C3:List (List aa)) (C4:List aa) (C5:List aa):Option (ly×(List Int)×(List Int)×(List (List aa))×(List aa)×(List aa)) :=
 (if (i).toNat < C3.length then
 (if 0≤i∧i < ((C3.length:Nat):Int) then
 (if 0≤j∧j < (((C3.getD ((i).toNat) []).length:Nat):Int) then
 dx N i j C0 bq b7 df dk dm dd C1 C2 C3 C4 C5 N (C3.getD ((i).toNat) []) 0
 else none)
 else none)
 else none)
def gq (N:Nat) (C0:Int) (bq:Int) (b7:Bool) (df:List Int) (dk:Bool) (dm:List Int) (dd:Int) (C1:List Int) (C2:List Int) (C3:List (List aa)) (C4:List aa) (C5:List aa) (x:Int) (ik:Int→Int→Option (Int)) (xC:Int):Option (Int) :=
 ik xC (ag (x+1))
def bC (N:Nat) (C0:Int) (bq:Int) (b7:Bool) (df:List Int) (dk:Bool) (dm:List Int) (dd:Int) (C1:List Int) (C2:List Int) (C3:List (List aa)) (C4:List aa) (C5:List aa):Nat→Int→Int→Option (Int)
 | 0,_,_=>none
 | fuel+1,dC,x =>
  (cond (decide (x < ((C2.length:Nat):Int)))
  ((if 0≤x∧x < ((C5.length:Nat):Int) then
  ((mS N (⟨((C5.getD ((x).toNat) aa.d).fN),((C5.getD ((x).toNat) aa.d).fD)⟩:aa)).bind fun aJ =>
  (if (((decide (aJ > 0)) && ((decide (aJ > 0)) && (!(decide (dC < 0)))))=true→0≤x∧x < ((C2.length:Nat):Int)) then
  (if (((decide (aJ > 0)) && ((decide (aJ > 0)) && (!(decide (dC < 0)))))=true→0≤dC∧dC < ((C2.length:Nat):Int)) then
  (cond (cond (decide (aJ > 0)) (cond (decide (dC < 0)) true (decide ((C2.getD ((x).toNat) 0) < (C2.getD ((dC).toNat) 0)))) false)
  (gq N C0 bq b7 df dk dm dd C1 C2 C3 C4 C5 x (bC N C0 bq b7 df dk dm dd C1 C2 C3 C4 C5 fuel) x)
  (gq N C0 bq b7 df dk dm dd C1 C2 C3 C4 C5 x (bC N C0 bq b7 df dk dm dd C1 C2 C3 C4 C5 fuel) dC))
  else none)
  else none))
  else none))
  (some dC))
def kP (N:Nat) (C0:Int) (bq:Int) (b7:Bool) (df:List Int) (dk:Bool) (dm:List Int) (dd:Int) (C1:List Int) (C2:List Int) (C3:List (List aa)) (C4:List aa) (C5:List aa):Option (Int) :=
 bC N C0 bq b7 df dk dm dd C1 C2 C3 C4 C5 N (-1) 0
def ef (N:Nat) (j:Int) (C0:Int) (bq:Int) (b7:Bool) (df:List Int) (dk:Bool) (dm:List Int) (dd:Int) (C1:List Int) (C2:List Int) (C3:List (List aa)) (C4:List aa) (C5:List aa) (x:Int) (bS:Int→aa→Int→Option (Int)) (xC:Int) (bw:aa):Option (Int) :=
 bS xC bw (ag (x+1))
def fb (N:Nat) (j:Int) (C0:Int) (bq:Int) (b7:Bool) (df:List Int) (dk:Bool) (dm:List Int) (dd:Int) (C1:List Int) (C2:List Int) (C3:List (List aa)) (C4:List aa) (C5:List aa) (dC:Int) (least:aa) (x:Int) (j3:aa) (bS:Int→aa→Int→Option (Int)) (c7:Int):Option (Int) :=
 (if (((!(decide (c7 < 0))) && ((!(decide (c7 < 0))) && (c7 == 0)))=true→0≤x∧x < ((C1.length:Nat):Int)) then
 (if (((!(decide (c7 < 0))) && ((!(decide (c7 < 0))) && (c7 == 0)))=true→0≤dC∧dC < ((C1.length:Nat):Int)) then
 (cond (cond (decide (c7 < 0)) true (cond (c7 == 0) (decide ((C1.getD ((x).toNat) 0) < (C1.getD ((dC).toNat) 0))) false))
 (ef N j C0 bq b7 df dk dm dd C1 C2 C3 C4 C5 x bS x j3)
 (ef N j C0 bq b7 df dk dm dd C1 C2 C3 C4 C5 x bS dC least))
 else none)
 else none)
def bI (N:Nat) (j:Int) (C0:Int) (bq:Int) (b7:Bool) (df:List Int) (dk:Bool) (dm:List Int) (dd:Int) (C1:List Int) (C2:List Int) (C3:List (List aa)) (C4:List aa) (C5:List aa):Nat→Int→aa→Int→Option (Int)
 | 0,_,_,_=>none
 | fuel+1,dC,least,x =>
  (cond (decide (x < ((C1.length:Nat):Int)))
  ((if (x).toNat < C3.length then
  (if 0≤x∧x < ((C3.length:Nat):Int) then
  (if 0≤j∧j < (((C3.getD ((x).toNat) []).length:Nat):Int) then
  ((mS N (⟨(((C3.getD ((x).toNat) []).getD ((j).toNat) aa.d).fN),(((C3.getD ((x).toNat) []).getD ((j).toNat) aa.d).fD)⟩:aa)).bind fun aJ =>
  (cond (decide (aJ≥0))
  (ef N j C0 bq b7 df dk dm dd C1 C2 C3 C4 C5 x (bI N j C0 bq b7 df dk dm dd C1 C2 C3 C4 C5 fuel) dC least)
  ((if 0≤x∧x < ((C4.length:Nat):Int) then
  ((fR N (⟨(((C3.getD ((x).toNat) []).getD ((j).toNat) aa.d).fN),(((C3.getD ((x).toNat) []).getD ((j).toNat) aa.d).fD)⟩:aa)).bind fun aV =>
  ((qB N (⟨((C4.getD ((x).toNat) aa.d).fN),((C4.getD ((x).toNat) aa.d).fD)⟩:aa) aV).bind fun j3 =>
  (cond (decide (dC≥0))
  (((oC N j3 least).bind fun pz =>
  fb N j C0 bq b7 df dk dm dd C1 C2 C3 C4 C5 dC least x j3 (bI N j C0 bq b7 df dk dm dd C1 C2 C3 C4 C5 fuel) pz))
  (fb N j C0 bq b7 df dk dm dd C1 C2 C3 C4 C5 dC least x j3 (bI N j C0 bq b7 df dk dm dd C1 C2 C3 C4 C5 fuel) (-1)))))
  else none))))
  else none)
  else none)
  else none))
  (some dC))
def lh (N:Nat) (j:Int) (C0:Int) (bq:Int) (b7:Bool) (df:List Int) (dk:Bool) (dm:List Int) (dd:Int) (C1:List Int) (C2:List Int) (C3:List (List aa)) (C4:List aa) (C5:List aa):Option (Int) :=
 bI N j C0 bq b7 df dk dm dd C1 C2 C3 C4 C5 N (-1) (⟨(⟨false,([]:List Int)⟩:bW),(⟨false,([]:List Int)⟩:bW)⟩:aa) 0
def dy (N:Nat):Nat→Int→Int→(List Int)→(List Int)→(List (List aa))→(List aa)→(List aa)→Bool→(List Int)→Bool→(List Int)→Int→Option (Int×ly×(List Int)×(List Int)×(List (List aa))×(List aa)×(List aa))
 | 0,_,_,_,_,_,_,_,_,_,_,_,_=>none
 | fuel+1,bV,nQ,lf,po,gp,pU,pV,td,tf,yV,yW,xD =>
  ((kP N bV nQ td tf yV yW xD lf po gp pU pV).bind fun sa =>
  (cond (decide (sa < 0))
  (some ((-1),(⟨bV,nQ,lf,po,gp,pU,pV,(⟨(⟨td,tf⟩:bW),(⟨yV,yW⟩:bW)⟩:aa),xD⟩:ly),lf,po,gp,pU,pV))
  (((lh N sa bV nQ td tf yV yW xD lf po gp pU pV).bind fun AP =>
  (cond (decide (AP < 0))
  (some (sa,(⟨bV,nQ,lf,po,gp,pU,pV,(⟨(⟨td,tf⟩:bW),(⟨yV,yW⟩:bW)⟩:aa),xD⟩:ly),lf,po,gp,pU,pV))
  (((jh N AP sa bV nQ td tf yV yW xD lf po gp pU pV).bind fun bp =>
  (if bp.2.1.length=lf.length then
  (if bp.2.2.1.length=po.length then
  (if bp.2.2.2.1.length=gp.length then
  (if bp.2.2.2.2.1.length=pU.length then
  (if bp.2.2.2.2.2.length=pV.length then
  dy N fuel bp.1.wN bp.1.wO bp.2.1 bp.2.2.1 bp.2.2.2.1 bp.2.2.2.2.1 bp.2.2.2.2.2 bp.1.aj.fN.fG bp.1.aj.fN.fL bp.1.aj.fD.fG bp.1.aj.fD.fL bp.1.cg
  else none)
  else none)
  else none)
  else none)
  else none))))))))
def pA (N:Nat) (C0:Int) (bq:Int) (b7:Bool) (df:List Int) (dk:Bool) (dm:List Int) (dd:Int) (C1:List Int) (C2:List Int) (C3:List (List aa)) (C4:List aa) (C5:List aa):Option (Int×ly×(List Int)×(List Int)×(List (List aa))×(List aa)×(List aa)) :=
 dy N N C0 bq C1 C2 C3 C4 C5 b7 df dk dm dd
def cb (N:Nat) (s:List Int) (v:Int):Nat→Int→Option (Int)
 | 0,_=>none
 | fuel+1,x =>
  (cond (decide (x < ((s.length:Nat):Int)))
  ((if 0≤x∧x < ((s.length:Nat):Int) then
  (cond (v == (s.getD ((x).toNat) 0))
  (some x)
  (cb N s v fuel (ag (x+1))))
  else none))
  (some (-1)))
def eh (N:Nat) (s:List Int) (v:Int):Option (Int) :=
 cb N s v N 0
def kQ (N:Nat) (x:aa):Option (Bool) :=
 ((gL N x).bind fun fT =>
 some (!fT))
def cd (N:Nat) (s:List aa):Nat→Int→Option (Int)
 | 0,_=>none
 | fuel+1,x =>
  (cond (decide (x < ((s.length:Nat):Int)))
  ((if 0≤x∧x < ((s.length:Nat):Int) then
  ((kQ N (⟨((s.getD ((x).toNat) aa.d).fN),((s.getD ((x).toNat) aa.d).fD)⟩:aa)).bind fun EZ =>
  (cond EZ
  (some x)
  (cd N s fuel (ag (x+1)))))
  else none))
  (some (-1)))
def jA (N:Nat) (s:List aa):Option (Int) :=
 cd N s N 0
def ji (N:Nat) (i:Int) (j:Int) (C0:List Int):Option ((List Int)×(List Int)) :=
 (if 0≤i∧i≤j∧j≤((C0.length:Nat):Int)∧((C0.length:Nat):Int)≤((C0.length:Nat):Int) then
 (cond (i == j)
 (some (C0,C0))
 ((if 0≤(i).toNat∧(i).toNat≤C0.length then
 (if 0≤i then
 (if (j).toNat≤C0.length∧C0.length≤C0.length then
 (if 0≤j then
 (if (i).toNat≤(j).toNat∧(j).toNat≤C0.length then
 (if 0 < C0.length then
 (if (((i).toNat - 0)+(C0.length - (j).toNat))≤C0.length∧0+C0.length≤(kE C0 ((i).toNat) ((j).toNat)).length then
 (if 0 < (C0.length - (((i).toNat - 0)+(C0.length - (j).toNat)))∧(((i).toNat - 0)+(C0.length - (j).toNat))+(C0.length - (((i).toNat - 0)+(C0.length - (j).toNat)))≤(kE C0 ((i).toNat) ((j).toNat)).length then
 some (((kE C0 ((i).toNat) ((j).toNat)).take (((i).toNat - 0)+(C0.length - (j).toNat))),((kE C0 ((i).toNat) ((j).toNat)).take (((i).toNat - 0)+(C0.length - (j).toNat))))
 else none)
 else none)
 else none)
 else none)
 else none)
 else none)
 else none)
 else none)))
 else none)
def lj (N:Nat) (i:Int) (j:Int) (C0:List aa):Option ((List aa)×(List aa)) :=
 (if 0≤i∧i≤j∧j≤((C0.length:Nat):Int)∧((C0.length:Nat):Int)≤((C0.length:Nat):Int) then
 (cond (i == j)
 (some (C0,C0))
 ((if 0≤(i).toNat∧(i).toNat≤C0.length then
 (if 0≤i then
 (if (j).toNat≤C0.length∧C0.length≤C0.length then
 (if 0≤j then
 (if (i).toNat≤(j).toNat∧(j).toNat≤C0.length then
 (if 0 < C0.length then
 (if (((i).toNat - 0)+(C0.length - (j).toNat))≤C0.length∧0+C0.length≤(kE C0 ((i).toNat) ((j).toNat)).length then
 (if 0 < (C0.length - (((i).toNat - 0)+(C0.length - (j).toNat)))∧(((i).toNat - 0)+(C0.length - (j).toNat))+(C0.length - (((i).toNat - 0)+(C0.length - (j).toNat)))≤(kE C0 ((i).toNat) ((j).toNat)).length then
 some (((kE C0 ((i).toNat) ((j).toNat)).take (((i).toNat - 0)+(C0.length - (j).toNat))),((kE C0 ((i).toNat) ((j).toNat)).take (((i).toNat - 0)+(C0.length - (j).toNat))))
 else none)
 else none)
 else none)
 else none)
 else none)
 else none)
 else none)
 else none)))
 else none)
def iu (N:Nat) (C0:Int) (bq:Int) (b7:Bool) (df:List Int) (dk:Bool) (dm:List Int) (dd:Int) (C1:List Int) (C2:List Int) (C3:List (List aa)) (C4:List aa) (C5:List aa) (x:Int) (jj:Int→Int→Option (Bool×ly×(List Int)×(List Int)×(List (List aa))×(List aa))) (PJ:Int):Option (Bool×ly×(List Int)×(List Int)×(List (List aa))×(List aa)) :=
 jj PJ (ag (x+1))
def dJ (N:Nat) (tS:Int) (tT:Int) (qX:List Int) (qY:List aa) (uH:Bool) (uI:List Int) (uJ:Bool) (uK:List Int) (tg:Int) (cj:(List Int)×(List Int)) (kR:List (List aa)):Nat→(List aa)→Int→Option (Bool×ly×(List Int)×(List Int)×(List (List aa))×(List aa))
 | 0,_,_=>none
 | fuel+1,AQ,x3 =>
  (cond (decide (x3 < (((List.replicate cj.2.length aa.d:List aa).length:Nat):Int)))
  (((fZ N 0).bind fun ln =>
  (if 0≤x3∧x3 < ((AQ.length:Nat):Int) then
  dJ N tS tT qX qY uH uI uJ uK tg cj kR fuel (AQ.set ((x3).toNat) ln) (ag (x3+1))
  else none)))
  (((fZ N 0).bind fun bM =>
  some (true,(⟨tS,tT,qX,cj.2,kR,qY,AQ,bM,tg⟩:ly),qX,cj.2,kR,qY))))
def dK (N:Nat) (tS:Int) (tT:Int) (qX:List Int) (zT:List (List aa)) (qY:List aa) (AR:List aa) (uH:Bool) (uI:List Int) (uJ:Bool) (uK:List Int) (tg:Int) (mv:Int) (cj:(List Int)×(List Int)):Nat→(List (List aa))→Int→Option (Bool×ly×(List Int)×(List Int)×(List (List aa))×(List aa))
 | 0,_,_=>none
 | fuel+1,kR,x2 =>
  (cond (decide (x2 < ((zT.length:Nat):Int)))
  ((if (x2).toNat < kR.length then
  (if 0≤x2∧x2 < ((kR.length:Nat):Int) then
  ((lj N mv (ag (mv+1)) (kR.getD ((x2).toNat) [])).bind fun pB =>
  dK N tS tT qX zT qY AR uH uI uJ uK tg mv cj fuel (kR.set ((x2).toNat) pB.2) (ag (x2+1)))
  else none)
  else none))
  ((if 0≤((cj.2.length:Nat):Int)∧(64:Int) * ((cj.2.length:Nat):Int)≤281474976710656∧((cj.2.length:Nat):Int)≤9223372036854775807 then
  dJ N tS tT qX qY uH uI uJ uK tg cj kR N (List.replicate cj.2.length aa.d:List aa) 0
  else none)))
def iv (N:Nat) (tS:Int) (tT:Int) (qX:List Int) (JB:List Int) (zT:List (List aa)) (qY:List aa) (AR:List aa) (uH:Bool) (uI:List Int) (uJ:Bool) (uK:List Int) (tg:Int):Option (Bool×ly×(List Int)×(List Int)×(List (List aa))×(List aa)) :=
 ((eh N JB tg).bind fun mv =>
 ((ji N mv (ag (mv+1)) JB).bind fun cj =>
 dK N tS tT qX zT qY AR uH uI uJ uK tg mv cj N zT 0))
def fC (N:Nat) (bV:Int) (nQ:Int) (lf:List Int) (po:List Int) (gp:List (List aa)) (pU:List aa) (pV:List aa) (td:Bool) (tf:List Int) (yV:Bool) (yW:List Int) (xD:Int):Option (Bool×ly×(List Int)×(List Int)×(List (List aa))×(List aa)) :=
 ((eh N lf xD).bind fun cQ =>
 (cond (decide (cQ≥0))
 ((if (cQ).toNat < gp.length then
 (if 0≤cQ∧cQ < ((gp.length:Nat):Int) then
 ((jA N (gp.getD ((cQ).toNat) [])).bind fun Uv =>
 ((jh N cQ Uv bV nQ td tf yV yW xD lf po gp pU pV).bind fun dz =>
 (if dz.2.1.length=lf.length then
 (if dz.2.2.1.length=po.length then
 (if dz.2.2.2.1.length=gp.length then
 (if dz.2.2.2.2.1.length=pU.length then
 (if dz.2.2.2.2.2.length=pV.length then
 iv N dz.1.wN dz.1.wO dz.2.1 dz.2.2.1 dz.2.2.2.1 dz.2.2.2.2.1 dz.2.2.2.2.2 dz.1.aj.fN.fG dz.1.aj.fN.fL dz.1.aj.fD.fG dz.1.aj.fD.fL dz.1.cg
 else none)
 else none)
 else none)
 else none)
 else none)))
 else none)
 else none))
 (iv N bV nQ lf po gp pU pV td tf yV yW xD)))
def bt (N:Nat) (C0:Int) (bq:Int) (b7:Bool) (df:List Int) (dk:Bool) (dm:List Int) (dd:Int) (C1:List Int) (C2:List Int) (C3:List (List aa)) (C4:List aa) (C5:List aa):Nat→Int→Int→Option (Bool×ly×(List Int)×(List Int)×(List (List aa))×(List aa))
 | 0,_,_=>none
 | fuel+1,low,x =>
  (cond (decide (x < ((C4.length:Nat):Int)))
  ((if 0≤x∧x < ((C4.length:Nat):Int) then
  ((mS N (⟨((C4.getD ((x).toNat) aa.d).fN),((C4.getD ((x).toNat) aa.d).fD)⟩:aa)).bind fun aJ =>
  (if (((decide (aJ < 0)) && ((decide (aJ < 0)) && (!(decide (low < 0)))))=true→0≤x∧x < ((C4.length:Nat):Int)) then
  (if (((decide (aJ < 0)) && ((decide (aJ < 0)) && (!(decide (low < 0)))))=true→0≤low∧low < ((C4.length:Nat):Int)) then
  ((cond ((decide (aJ < 0)) && ((decide (aJ < 0)) && (!(decide (low < 0))))) (oC N (⟨((C4.getD ((x).toNat) aa.d).fN),((C4.getD ((x).toNat) aa.d).fD)⟩:aa) (⟨((C4.getD ((low).toNat) aa.d).fN),((C4.getD ((low).toNat) aa.d).fD)⟩:aa)) (some 0)).bind fun pz =>
  (cond (cond (decide (aJ < 0)) (cond (decide (low < 0)) true (decide (pz < 0))) false)
  (iu N C0 bq b7 df dk dm dd C1 C2 C3 C4 C5 x (bt N C0 bq b7 df dk dm dd C1 C2 C3 C4 C5 fuel) x)
  (iu N C0 bq b7 df dk dm dd C1 C2 C3 C4 C5 x (bt N C0 bq b7 df dk dm dd C1 C2 C3 C4 C5 fuel) low)))
  else none)
  else none))
  else none))
  ((cond (decide (low≥0))
  (((fZ N (-1)).bind fun aw =>
  (if 0≤(ag (((C2.length:Nat):Int) - 1))∧(ag (((C2.length:Nat):Int) - 1)) < ((C5.length:Nat):Int) then
  ((jh N low (ag (((C2.length:Nat):Int) - 1)) C0 bq b7 df dk dm dd C1 C2 C3 C4 (C5.set ((ag (((C2.length:Nat):Int) - 1)).toNat) aw)).bind fun bp =>
  (if bp.2.1.length=C1.length then
  (if bp.2.2.1.length=C2.length then
  (if bp.2.2.2.1.length=C3.length then
  (if bp.2.2.2.2.1.length=C4.length then
  (if bp.2.2.2.2.2.length=(C5.set ((ag (((C2.length:Nat):Int) - 1)).toNat) aw).length then
  ((pA N bp.1.wN bp.1.wO bp.1.aj.fN.fG bp.1.aj.fN.fL bp.1.aj.fD.fG bp.1.aj.fD.fL bp.1.cg bp.2.1 bp.2.2.1 bp.2.2.2.1 bp.2.2.2.2.1 bp.2.2.2.2.2).bind fun cJ =>
  (if cJ.2.2.1.length=bp.2.1.length then
  (if cJ.2.2.2.1.length=bp.2.2.1.length then
  (if cJ.2.2.2.2.1.length=bp.2.2.2.1.length then
  (if cJ.2.2.2.2.2.1.length=bp.2.2.2.2.1.length then
  (if cJ.2.2.2.2.2.2.length=bp.2.2.2.2.2.length then
  ((gL N cJ.2.1.aj).bind fun fT =>
  (cond (!fT)
  (some (false,(⟨cJ.2.1.wN,cJ.2.1.wO,cJ.2.2.1,cJ.2.2.2.1,cJ.2.2.2.2.1,cJ.2.2.2.2.2.1,cJ.2.2.2.2.2.2,cJ.2.1.aj,cJ.2.1.cg⟩:ly),cJ.2.2.1,cJ.2.2.2.1,cJ.2.2.2.2.1,cJ.2.2.2.2.2.1))
  (fC N cJ.2.1.wN cJ.2.1.wO cJ.2.2.1 cJ.2.2.2.1 cJ.2.2.2.2.1 cJ.2.2.2.2.2.1 cJ.2.2.2.2.2.2 cJ.2.1.aj.fN.fG cJ.2.1.aj.fN.fL cJ.2.1.aj.fD.fG cJ.2.1.aj.fD.fL cJ.2.1.cg)))
  else none)
  else none)
  else none)
  else none)
  else none))
  else none)
  else none)
  else none)
  else none)
  else none))
  else none)))
  (fC N C0 bq C1 C2 C3 C4 C5 b7 df dk dm dd))))
def lH (N:Nat) (C0:Int) (bq:Int) (b7:Bool) (df:List Int) (dk:Bool) (dm:List Int) (dd:Int) (C1:List Int) (C2:List Int) (C3:List (List aa)) (C4:List aa) (C5:List aa):Option (Bool×ly×(List Int)×(List Int)×(List (List aa))×(List aa)) :=
 bt N C0 bq b7 df dk dm dd C1 C2 C3 C4 C5 N (-1) 0
def eO (N:Nat) (C0:Int) (bq:Int) (b7:Bool) (df:List Int) (dk:Bool) (dm:List Int) (dd:Int) (C1:List Int) (C2:List Int) (C3:List (List aa)) (C4:List aa) (C5:List aa) (x:Int) (fU:(List aa)→Int→Option ((List aa))) (gf:List aa):Option ((List aa)) :=
 fU gf (ag (x+1))
def bG (N:Nat) (C0:Int) (bq:Int) (b7:Bool) (df:List Int) (dk:Bool) (dm:List Int) (dd:Int) (C1:List Int) (C2:List Int) (C3:List (List aa)) (C4:List aa) (C5:List aa):Nat→(List aa)→Int→Option ((List aa))
 | 0,_,_=>none
 | fuel+1,out,x =>
  (cond (decide (x < (((List.replicate ((bq).toNat) aa.d:List aa).length:Nat):Int)))
  (((fZ N 0).bind fun aw =>
  (if 0≤x∧x < ((out.length:Nat):Int) then
  ((eh N C2 (ag ((ag (2 * C0))+x))).bind fun cQ =>
  (cond (decide (cQ≥0))
  ((if 0≤cQ∧cQ < ((C5.length:Nat):Int) then
  ((fR N (⟨((C5.getD ((cQ).toNat) aa.d).fN),((C5.getD ((cQ).toNat) aa.d).fD)⟩:aa)).bind fun aV =>
  (if 0≤x∧x < (((out.set ((x).toNat) aw).length:Nat):Int) then
  eO N C0 bq b7 df dk dm dd C1 C2 C3 C4 C5 x (bG N C0 bq b7 df dk dm dd C1 C2 C3 C4 C5 fuel) ((out.set ((x).toNat) aw).set ((x).toNat) aV)
  else none))
  else none))
  (eO N C0 bq b7 df dk dm dd C1 C2 C3 C4 C5 x (bG N C0 bq b7 df dk dm dd C1 C2 C3 C4 C5 fuel) (out.set ((x).toNat) aw))))
  else none)))
  (some out))
def jk (N:Nat) (C0:Int) (bq:Int) (b7:Bool) (df:List Int) (dk:Bool) (dm:List Int) (dd:Int) (C1:List Int) (C2:List Int) (C3:List (List aa)) (C4:List aa) (C5:List aa):Option ((List aa)) :=
 (if 0≤bq∧(64:Int) * bq≤281474976710656∧bq≤9223372036854775807 then
 bG N C0 bq b7 df dk dm dd C1 C2 C3 C4 C5 N (List.replicate ((bq).toNat) aa.d:List aa) 0
 else none)
def mX (N:Nat) (yB:Int) (C0:Int) (bq:Int) (b7:Bool) (df:List Int) (dk:Bool) (dm:List Int) (dd:Int) (C1:List Int) (C2:List Int) (C3:List (List aa)) (C4:List aa) (C5:List aa):Option (aa) :=
 ((eh N C1 yB).bind fun cQ =>
 (cond (decide (cQ≥0))
 ((if 0≤cQ∧cQ < ((C4.length:Nat):Int) then
 some (⟨((C4.getD ((cQ).toNat) aa.d).fN),((C4.getD ((cQ).toNat) aa.d).fD)⟩:aa)
 else none))
 (((fZ N 0).bind fun aw =>
 some aw))))
def dY (N:Nat) (C0:Int) (bq:Int) (b7:Bool) (df:List Int) (dk:Bool) (dm:List Int) (dd:Int) (C1:List Int) (C2:List Int) (C3:List (List aa)) (C4:List aa) (C5:List aa):Nat→(List aa)→Int→Option ((List aa))
 | 0,_,_=>none
 | fuel+1,out,x =>
  (cond (decide (x < (((List.replicate ((C0).toNat) aa.d:List aa).length:Nat):Int)))
  (((mX N x C0 bq b7 df dk dm dd C1 C2 C3 C4 C5).bind fun rat =>
  ((mX N (ag (C0+x)) C0 bq b7 df dk dm dd C1 C2 C3 C4 C5).bind fun Uw =>
  ((eN N rat Uw).bind fun au =>
  (if 0≤x∧x < ((out.length:Nat):Int) then
  dY N C0 bq b7 df dk dm dd C1 C2 C3 C4 C5 fuel (out.set ((x).toNat) au) (ag (x+1))
  else none)))))
  (some out))
def mw (N:Nat) (C0:Int) (bq:Int) (b7:Bool) (df:List Int) (dk:Bool) (dm:List Int) (dd:Int) (C1:List Int) (C2:List Int) (C3:List (List aa)) (C4:List aa) (C5:List aa):Option ((List aa)) :=
 (if 0≤C0∧(64:Int) * C0≤281474976710656∧C0≤9223372036854775807 then
 dY N C0 bq b7 df dk dm dd C1 C2 C3 C4 C5 N (List.replicate ((C0).toNat) aa.d:List aa) 0
 else none)
def pC (N:Nat) (n:Int) (l:List af):Option ((List aa)×(List aa)×Int) :=
 ((nP N n l).bind fun vJ =>
 (cond (vJ != 0)
 (some (([]:List aa),([]:List aa),vJ))
 (((yA N n l).bind fun fq =>
 ((lH N fq.wN fq.wO fq.aj.fN.fG fq.aj.fN.fL fq.aj.fD.fG fq.aj.fD.fL fq.cg fq.j8 fq.mN fq.IS fq.IT fq.eK).bind fun bQ =>
 (if bQ.2.2.1.length=fq.j8.length then
 (if bQ.2.2.2.2.1.length=fq.IS.length then
 (if bQ.2.2.2.2.2.length=fq.IT.length then
 (cond (!bQ.1)
 (((jk N bQ.2.1.wN bQ.2.1.wO bQ.2.1.aj.fN.fG bQ.2.1.aj.fN.fL bQ.2.1.aj.fD.fG bQ.2.1.aj.fD.fL bQ.2.1.cg bQ.2.2.1 bQ.2.2.2.1 bQ.2.2.2.2.1 bQ.2.2.2.2.2 bQ.2.1.eK).bind fun iP =>
 some (([]:List aa),iP,29)))
 (((mw N bQ.2.1.wN bQ.2.1.wO bQ.2.1.aj.fN.fG bQ.2.1.aj.fN.fL bQ.2.1.aj.fD.fG bQ.2.1.aj.fD.fL bQ.2.1.cg bQ.2.2.1 bQ.2.2.2.1 bQ.2.2.2.2.1 bQ.2.2.2.2.2 bQ.2.1.eK).bind fun tU =>
 some (tU,([]:List aa),0))))
 else none)
 else none)
 else none))))))
def eP (N:Nat) (x:ai):Option (ByteArray) :=
 some x.fY
def gr (N:Nat) (s:ByteArray):Nat→Int→Option (Bool)
 | 0,_=>none
 | fuel+1,x =>
  (cond (decide (x < ((s.size:Nat):Int)))
  ((if 0≤x∧x < ((s.size:Nat):Int) then
  (cond (cond (!(cond (cond (decide ((zA s x)≥97)) (decide ((zA s x)≤122)) false) true (cond (decide ((zA s x)≥65)) (decide ((zA s x)≤90)) false))) (cond (x == 0) true (!(cond (cond (decide ((zA s x)≥48)) (decide ((zA s x)≤57)) false) true ((zA s x) == 45)))) false)
  (some false)
  (gr N s fuel (ag (x+1))))
  else none))
  (some true))
def nR (N:Nat) (s:ByteArray):Option (Bool) :=
 (cond (cond (lk s ByteArray.empty) true (decide (((s.size:Nat):Int) > 12)))
 (some false)
 (gr N s N 0))
def kS (N:Nat) (y:ai) (C1:ai):Option (Bool) :=
 ((eP N y).bind fun lI =>
 ((eP N C1).bind fun tV =>
 some (lk lI tV)))
def ba (N:Nat) (s:List ai) (C1:ai):Nat→Int→Option (Int)
 | 0,_=>none
 | fuel+1,x =>
  (cond (decide (x < ((s.length:Nat):Int)))
  ((if 0≤x∧x < ((s.length:Nat):Int) then
  ((kS N (s.getD ((x).toNat) ai.d) C1).bind fun K1 =>
  (cond K1
  (some x)
  (ba N s C1 fuel (ag (x+1)))))
  else none))
  (some (-1)))
def cK (N:Nat) (s:List ai) (C1:ai):Option (Int) :=
 ba N s C1 N 0
def cl (N:Nat) (s:List ai) (C1:ai):Option (Bool) :=
 ((cK N s C1).bind fun wq =>
 some (decide (wq≥0)))
def dP (N:Nat) (n:Int) (lo:Int) (hi:Int):Option (Bool) :=
 some (cond (decide (n < lo)) true (decide (n > hi)))
def kT (N:Nat) (x:ai):Option (Int) :=
 ((dP N x.jf (-1000000) 1000000).bind fun de =>
 ((cond (!de) (dP N x.jR (-1000000) 1000000) (some false)).bind fun dS =>
 ((cond (!(cond de true dS)) (dP N x.bX (-1000000) 1000000) (some false)).bind fun iB =>
 ((cond (!(cond (cond de true dS) true iB)) (dP N x.cz (-1000000) 1000000) (some false)).bind fun qd =>
 ((cond (!(cond (cond (cond de true dS) true iB) true qd)) (dP N x.nH 1 1000000000) (some false)).bind fun B0 =>
 (cond (cond (cond (cond (cond de true dS) true iB) true qd) true B0)
 (some 2)
 ((cond (cond (x.jf == x.bX) (x.jR == x.cz) false)
 (some 9)
 (some 0)))))))))
def dh (N:Nat) (l:List ai):Nat→Int→Option (Int)
 | 0,_=>none
 | fuel+1,x =>
  (cond (decide (x < ((l.length:Nat):Int)))
  ((if 0≤x∧x < ((l.length:Nat):Int) then
  ((eP N (l.getD ((x).toNat) ai.d)).bind fun lI =>
  ((nR N lI).bind fun K2 =>
  (cond (!K2)
  (some 4)
  ((if 0≤(x).toNat∧(x).toNat≤l.length then
  (if 0≤x then
  ((cl N ((l.take ((x).toNat)).drop 0) (l.getD ((x).toNat) ai.d)).bind fun wq =>
  (cond wq
  (some 5)
  (((kT N (l.getD ((x).toNat) ai.d)).bind fun lJ =>
  (cond (lJ != 0)
  (some lJ)
  (dh N l fuel (ag (x+1))))))))
  else none)
  else none)))))
  else none))
  (some 0))
def lK (N:Nat) (l:List ai) (di:Int):Option (Int) :=
 (cond (decide (((l.length:Nat):Int) > di))
 (some 8)
 (dh N l N 0))
def eR (N:Nat) (l:List ai):Option (Int) :=
 ((lK N l 12).bind fun wq =>
 some wq)
def l5 (N:Nat) (l:ai) (x:Int) (mz:Int→Int→Option (Int)) (JC:Int):Option (Int) :=
 mz JC (ag (x+1))
def fV (N:Nat) (l:ai):Nat→Int→Int→Option (Int)
 | 0,_,_=>none
 | fuel+1,root,x =>
  (cond (decide (x < 23))
  ((if (0:Int)≤(ag (22 - x)) then
  (cond (decide ((ag ((ss .i64 root (gJ .i64 1 (ag (22 - x)))) * (ss .i64 root (gJ .i64 1 (ag (22 - x)))))) < (ag ((ag ((ag (l.bX - l.jf)) * (ag (l.bX - l.jf))))+(ag ((ag (l.cz - l.jR)) * (ag (l.cz - l.jR))))))))
  (l5 N l x (fV N l fuel) (ss .i64 root (gJ .i64 1 (ag (22 - x)))))
  (l5 N l x (fV N l fuel) root))
  else none))
  (some (ag (root+1))))
def np (N:Nat) (l:ai):Option (Int) :=
 fV N l N 0 0
def pD (N:Nat) (l:ai):Option (Int×Int) :=
 ((eR N ([l]:List ai)).bind fun bm =>
 (cond (bm != 0)
 (some (0,bm))
 (((np N l).bind fun E0 =>
 some (E0,0)))))
def qC (N:Nat):Option (Bool) :=
 ((pD N (⟨(⟨#[108]⟩:ByteArray),0,0,3000,4000,1000⟩:ai)).bind fun xE =>
 some (cond (xE.2 == 0) (xE.1 == 5000) false))
def iZ (N:Nat) (l:List ai):Nat→Int→Option (Bool)
 | 0,_=>none
 | fuel+1,i =>
  (cond (decide (i < ((l.length:Nat):Int)))
  ((if 0≤i∧i < ((l.length:Nat):Int) then
  (cond (decide (((((l.getD ((i).toNat) ai.d).fY).size:Nat):Int) > 40))
  (some false)
  (iZ N l fuel (ag (i+1))))
  else none))
  (some (decide (((l.length:Nat):Int)≤14))))
def qD (N:Nat) (l:List ai):Option (Bool) :=
 iZ N l N 0
def pE (N:Nat) (Mf:Bool):Option (Int) :=
 (cond Mf
 (some 2)
 (some 0))
def gP (N:Nat) (w:bJ):Option (Int) :=
 ((dP N w.jf (-1000000000) 1000000000).bind fun de =>
 ((cond (!de) (dP N w.jR (-1000000000) 1000000000) (some false)).bind fun dS =>
 ((cond (!(cond de true dS)) (dP N w.kg (-1000000000000000) 1000000000000000) (some false)).bind fun iB =>
 ((pE N (cond (cond de true dS) true iB)).bind fun H0 =>
 some H0))))
def er (N:Nat) (n:Int):Option (aa) :=
 ((vF N n).bind fun F2 =>
 ((qa N F2).bind fun zS =>
 some zS))
def qj (N:Nat) (w:bJ):Option (av) :=
 ((er N w.jf).bind fun g7 =>
 ((er N w.jR).bind fun dA =>
 ((er N w.kg).bind fun dB =>
 some (⟨g7,dA,dB⟩:av))))
def yC (N:Nat) (a:Int) (b:Int):Option (aa×Int) :=
 (cond (b == 0)
 (some ((⟨(⟨false,([]:List Int)⟩:bW),(⟨false,([]:List Int)⟩:bW)⟩:aa),9))
 (((vF N a).bind fun F2 =>
 ((vF N b).bind fun K3 =>
 ((iL N F2 K3).bind fun Bx =>
 some (Bx,0))))))
def nr (N:Nat) (l:ai):Option (av) :=
 ((np N l).bind fun E0 =>
 ((yC N l.nH E0).bind fun E2 =>
 ((er N (ag (l.bX - l.jf))).bind fun g7 =>
 ((gh N E2.1 g7).bind fun ct =>
 ((er N (ag (l.cz - l.jR))).bind fun dA =>
 ((gh N E2.1 dA).bind fun du =>
 ((er N l.jf).bind fun dB =>
 ((gh N dB du).bind fun gN =>
 ((er N l.jR).bind fun H2 =>
 ((gh N H2 ct).bind fun sE =>
 ((eN N gN sE).bind fun au =>
 some (⟨ct,du,au⟩:av))))))))))))
def dq (N:Nat) (l:List ai) (aq:av) (rows:List af) (au:aa) (di:List aa) (least:List aa) (aR:aa) (cN:List aa) (bw:List aa) (cL:aa):Nat→(List aa)→(List aa)→Int→Option (bF)
 | 0,_,_,_=>none
 | fuel+1,gu,dT,x4 =>
  (cond (decide (x4 < ((l.length:Nat):Int)))
  ((if 0≤x4∧x4 < ((l.length:Nat):Int) then
  ((nr N (l.getD ((x4).toNat) ai.d)).bind fun kn =>
  (if (gu.length+1) * 64≤140737488355328 then
  ((eN N (⟨(⟨false,([]:List Int)⟩:bW),(⟨false,([]:List Int)⟩:bW)⟩:aa) kn.e2).bind fun fH =>
  (if (dT.length+1) * 64≤140737488355328 then
  dq N l aq rows au di least aR cN bw cL fuel (gu ++ ([kn.e2]:List aa)) (dT ++ ([fH]:List aa)) (ag (x4+1))
  else none))
  else none))
  else none))
  ((if (((rows ++ ([(⟨di,au⟩:af),(⟨least,aq.e0⟩:af)]:List af)) ++ ([(⟨cN,aR⟩:af),(⟨bw,aq.e1⟩:af)]:List af)).length+2) * 88≤140737488355328 then
  ((pC N ((l.length:Nat):Int) (((rows ++ ([(⟨di,au⟩:af),(⟨least,aq.e0⟩:af)]:List af)) ++ ([(⟨cN,aR⟩:af),(⟨bw,aq.e1⟩:af)]:List af)) ++ ([(⟨gu,cL⟩:af),(⟨dT,aq.e2⟩:af)]:List af))).bind fun dG =>
  (cond (dG.2.2 == 0)
  (some (⟨true,dG.1,([]:List aa)⟩:bF))
  ((if 0≤(ag ((ag ((ag (2 * ((l.length:Nat):Int)))+0))+1))∧(ag ((ag ((ag (2 * ((l.length:Nat):Int)))+0))+1)) < ((dG.2.1.length:Nat):Int) then
  (if 0≤(ag ((ag (2 * ((l.length:Nat):Int)))+0))∧(ag ((ag (2 * ((l.length:Nat):Int)))+0)) < ((dG.2.1.length:Nat):Int) then
  ((eN N (⟨((dG.2.1.getD ((ag ((ag ((ag (2 * ((l.length:Nat):Int)))+0))+1)).toNat) aa.d).fN),((dG.2.1.getD ((ag ((ag ((ag (2 * ((l.length:Nat):Int)))+0))+1)).toNat) aa.d).fD)⟩:aa) (⟨((dG.2.1.getD ((ag ((ag (2 * ((l.length:Nat):Int)))+0)).toNat) aa.d).fN),((dG.2.1.getD ((ag ((ag (2 * ((l.length:Nat):Int)))+0)).toNat) aa.d).fD)⟩:aa)).bind fun bj =>
  (if 0≤(ag ((ag ((ag (2 * ((l.length:Nat):Int)))+2))+1))∧(ag ((ag ((ag (2 * ((l.length:Nat):Int)))+2))+1)) < ((dG.2.1.length:Nat):Int) then
  (if 0≤(ag ((ag (2 * ((l.length:Nat):Int)))+2))∧(ag ((ag (2 * ((l.length:Nat):Int)))+2)) < ((dG.2.1.length:Nat):Int) then
  ((eN N (⟨((dG.2.1.getD ((ag ((ag ((ag (2 * ((l.length:Nat):Int)))+2))+1)).toNat) aa.d).fN),((dG.2.1.getD ((ag ((ag ((ag (2 * ((l.length:Nat):Int)))+2))+1)).toNat) aa.d).fD)⟩:aa) (⟨((dG.2.1.getD ((ag ((ag (2 * ((l.length:Nat):Int)))+2)).toNat) aa.d).fN),((dG.2.1.getD ((ag ((ag (2 * ((l.length:Nat):Int)))+2)).toNat) aa.d).fD)⟩:aa)).bind fun bO =>
  (if (([bj]:List aa).length+1) * 64≤140737488355328 then
  (if 0≤(ag ((ag ((ag (2 * ((l.length:Nat):Int)))+4))+1))∧(ag ((ag ((ag (2 * ((l.length:Nat):Int)))+4))+1)) < ((dG.2.1.length:Nat):Int) then
  (if 0≤(ag ((ag (2 * ((l.length:Nat):Int)))+4))∧(ag ((ag (2 * ((l.length:Nat):Int)))+4)) < ((dG.2.1.length:Nat):Int) then
  ((eN N (⟨((dG.2.1.getD ((ag ((ag ((ag (2 * ((l.length:Nat):Int)))+4))+1)).toNat) aa.d).fN),((dG.2.1.getD ((ag ((ag ((ag (2 * ((l.length:Nat):Int)))+4))+1)).toNat) aa.d).fD)⟩:aa) (⟨((dG.2.1.getD ((ag ((ag (2 * ((l.length:Nat):Int)))+4)).toNat) aa.d).fN),((dG.2.1.getD ((ag ((ag (2 * ((l.length:Nat):Int)))+4)).toNat) aa.d).fD)⟩:aa)).bind fun dZ =>
  (if ((([bj]:List aa) ++ ([bO]:List aa)).length+1) * 64≤140737488355328 then
  some (⟨false,([]:List aa),((([bj]:List aa) ++ ([bO]:List aa)) ++ ([dZ]:List aa))⟩:bF)
  else none))
  else none)
  else none)
  else none))
  else none)
  else none))
  else none)
  else none))))
  else none)))
def eW (N:Nat) (l:List ai) (aq:av) (rows:List af) (au:aa) (di:List aa) (least:List aa) (aR:aa):Nat→(List aa)→(List aa)→Int→Option (bF)
 | 0,_,_,_=>none
 | fuel+1,cN,bw,x3 =>
  (cond (decide (x3 < ((l.length:Nat):Int)))
  ((if 0≤x3∧x3 < ((l.length:Nat):Int) then
  ((nr N (l.getD ((x3).toNat) ai.d)).bind fun ko =>
  (if (cN.length+1) * 64≤140737488355328 then
  ((eN N (⟨(⟨false,([]:List Int)⟩:bW),(⟨false,([]:List Int)⟩:bW)⟩:aa) ko.e1).bind fun fI =>
  (if (bw.length+1) * 64≤140737488355328 then
  eW N l aq rows au di least aR fuel (cN ++ ([ko.e1]:List aa)) (bw ++ ([fI]:List aa)) (ag (x3+1))
  else none))
  else none))
  else none))
  ((if ((rows ++ ([(⟨di,au⟩:af),(⟨least,aq.e0⟩:af)]:List af)).length+2) * 88≤140737488355328 then
  ((eN N (⟨(⟨false,([]:List Int)⟩:bW),(⟨false,([]:List Int)⟩:bW)⟩:aa) aq.e2).bind fun cL =>
  dq N l aq rows au di least aR cN bw cL N ([]:List aa) ([]:List aa) 0)
  else none)))
def eX (N:Nat) (l:List ai) (aq:av) (rows:List af) (au:aa):Nat→(List aa)→(List aa)→Int→Option (bF)
 | 0,_,_,_=>none
 | fuel+1,di,least,x2 =>
  (cond (decide (x2 < ((l.length:Nat):Int)))
  ((if 0≤x2∧x2 < ((l.length:Nat):Int) then
  ((nr N (l.getD ((x2).toNat) ai.d)).bind fun nC =>
  (if (di.length+1) * 64≤140737488355328 then
  ((eN N (⟨(⟨false,([]:List Int)⟩:bW),(⟨false,([]:List Int)⟩:bW)⟩:aa) nC.e0).bind fun fJ =>
  (if (least.length+1) * 64≤140737488355328 then
  eX N l aq rows au fuel (di ++ ([nC.e0]:List aa)) (least ++ ([fJ]:List aa)) (ag (x2+1))
  else none))
  else none))
  else none))
  ((if (rows.length+2) * 88≤140737488355328 then
  ((eN N (⟨(⟨false,([]:List Int)⟩:bW),(⟨false,([]:List Int)⟩:bW)⟩:aa) aq.e1).bind fun aR =>
  eW N l aq rows au di least aR N ([]:List aa) ([]:List aa) 0)
  else none)))
def gW (N:Nat) (l:List ai) (aq:av):Nat→(List af)→Int→Option (bF)
 | 0,_,_=>none
 | fuel+1,rows,x =>
  (cond (decide (x < ((l.length:Nat):Int)))
  ((if 0≤((l.length:Nat):Int)∧(64:Int) * ((l.length:Nat):Int)≤281474976710656∧((l.length:Nat):Int)≤9223372036854775807 then
  ((er N 1).bind fun g7 =>
  ((er N 1).bind fun dA =>
  ((er N (-1)).bind fun dB =>
  (if 0≤x∧x < (((List.replicate l.length aa.d:List aa).length:Nat):Int) then
  (if (rows.length+2) * 88≤140737488355328 then
  gW N l aq fuel (rows ++ ([(⟨((List.replicate l.length aa.d:List aa).set ((x).toNat) dA),g7⟩:af),(⟨((List.replicate l.length aa.d:List aa).set ((x).toNat) dB),(⟨(⟨false,([]:List Int)⟩:bW),(⟨false,([]:List Int)⟩:bW)⟩:aa)⟩:af)]:List af)) (ag (x+1))
  else none)
  else none))))
  else none))
  (((eN N (⟨(⟨false,([]:List Int)⟩:bW),(⟨false,([]:List Int)⟩:bW)⟩:aa) aq.e0).bind fun au =>
  eX N l aq rows au N ([]:List aa) ([]:List aa) 0)))
def lL (N:Nat) (l:List ai) (w:bJ):Option (bF) :=
 ((qj N w).bind fun aq =>
 gW N l aq N ([]:List af) 0)
def cA (N:Nat) (l:List ai) (w:List bJ):Nat→Int→Option (Int×Int)
 | 0,_=>none
 | fuel+1,x2 =>
  (cond (decide (x2 < ((w.length:Nat):Int)))
  ((if 0≤x2∧x2 < ((w.length:Nat):Int) then
  ((lL N l (w.getD ((x2).toNat) bJ.d)).bind fun E3 =>
  (cond (!E3.ig)
  (some (x2,0))
  (cA N l w fuel (ag (x2+1)))))
  else none))
  (some ((-1),0)))
def cR (N:Nat) (l:List ai) (w:List bJ):Nat→Int→Option (Int×Int)
 | 0,_=>none
 | fuel+1,x =>
  (cond (decide (x < ((w.length:Nat):Int)))
  ((if 0≤x∧x < ((w.length:Nat):Int) then
  ((gP N (w.getD ((x).toNat) bJ.d)).bind fun lM =>
  (cond (lM != 0)
  (some (0,lM))
  (cR N l w fuel (ag (x+1)))))
  else none))
  (cA N l w N 0))
def nT (N:Nat) (l:List ai) (w:List bJ):Option (Int×Int) :=
 ((eR N l).bind fun bm =>
 (cond (bm != 0)
 (some (0,bm))
 ((cond (decide (((w.length:Nat):Int) > 24))
 (some (0,8))
 (cR N l w N 0)))))
def jH (N:Nat) (s:ByteArray):Nat→Int→Option (Bool)
 | 0,_=>none
 | fuel+1,i =>
  (cond (decide (i < ((s.size:Nat):Int)))
  ((if 0≤i∧i < ((s.size:Nat):Int) then
  (cond (cond (!(cond (cond (decide ((zA s i)≥97)) (decide ((zA s i)≤122)) false) true (cond (decide ((zA s i)≥65)) (decide ((zA s i)≤90)) false))) (cond (i == 0) true (cond ((zA s i) != 45) (cond (decide ((zA s i) < 48)) true (decide ((zA s i) > 57))) false)) false)
  (some false)
  (jH N s fuel (ag (i+1))))
  else none))
  (some true))
def sG (N:Nat) (s:ByteArray):Option (Bool) :=
 (cond (cond (decide (((s.size:Nat):Int) < 1)) true (decide (((s.size:Nat):Int) > 12)))
 (some false)
 (jH N s N 0))
def fW (N:Nat) (n:Int) (low:Int) (high:Int):Option (Bool) :=
 some (cond (decide (n≥low)) (decide (n≤high)) false)
def l6 (N:Nat) (l:ai):Option (Int) :=
 ((fW N l.jf (-1000000) 1000000).bind fun wP =>
 ((cond (!(!wP)) (fW N l.jR (-1000000) 1000000) (some false)).bind fun qe =>
 ((cond (!(cond (!wP) true (!qe))) (fW N l.bX (-1000000) 1000000) (some false)).bind fun xF =>
 ((cond (!(cond (cond (!wP) true (!qe)) true (!xF))) (fW N l.cz (-1000000) 1000000) (some false)).bind fun JD =>
 ((cond (!(cond (cond (cond (!wP) true (!qe)) true (!xF)) true (!JD))) (fW N l.nH 1 1000000000) (some false)).bind fun Ux =>
 (cond (cond (cond (cond (cond (!wP) true (!qe)) true (!xF)) true (!JD)) true (!Ux))
 (some 2)
 ((cond (cond (l.jf == l.bX) (l.jR == l.cz) false)
 (some 9)
 (some 0)))))))))
def dL (N:Nat) (l:List ai) (i:Int) (iw:Int→Option (Int)):Nat→Int→Option (Int)
 | 0,_=>none
 | fuel+1,k =>
  (cond (decide (k < i))
  ((if 0≤k∧k < ((l.length:Nat):Int) then
  (if 0≤i∧i < ((l.length:Nat):Int) then
  (cond (lk ((l.getD ((k).toNat) ai.d).fY) ((l.getD ((i).toNat) ai.d).fY))
  (some 5)
  (dL N l i iw fuel (ag (k+1))))
  else none)
  else none))
  ((if 0≤i∧i < ((l.length:Nat):Int) then
  ((l6 N (l.getD ((i).toNat) ai.d)).bind fun lJ =>
  (cond (lJ != 0)
  (some lJ)
  (iw (ag (i+1)))))
  else none)))
def eA (N:Nat) (l:List ai):Nat→Int→Option (Int)
 | 0,_=>none
 | fuel+1,i =>
  (cond (decide (i < ((l.length:Nat):Int)))
  ((if 0≤i∧i < ((l.length:Nat):Int) then
  ((sG N ((l.getD ((i).toNat) ai.d).fY)).bind fun H3 =>
  (cond (!H3)
  (some 4)
  (dL N l i (eA N l fuel) N 0)))
  else none))
  (some 0))
def fc (N:Nat) (l:List ai):Option (Int) :=
 (cond (decide (((l.length:Nat):Int) > 12))
 (some 8)
 (eA N l N 0))
def jo (N:Nat) (w:bJ):Option (Int) :=
 ((fW N w.jf (-1000000000) 1000000000).bind fun wP =>
 ((cond (!(!wP)) (fW N w.jR (-1000000000) 1000000000) (some false)).bind fun qe =>
 ((cond (!(cond (!wP) true (!qe))) (fW N w.kg (-1000000000000000) 1000000000000000) (some false)).bind fun xF =>
 (cond (cond (cond (!wP) true (!qe)) true (!xF))
 (some 2)
 (some 0)))))
def pF (N:Nat) (l:List ai) (w:bJ):Option (bF×Int) :=
 ((eR N l).bind fun bm =>
 (cond (bm != 0)
 (some ((⟨false,([]:List aa),([]:List aa)⟩:bF),bm))
 (((gP N w).bind fun lM =>
 (cond (lM != 0)
 (some ((⟨false,([]:List aa),([]:List aa)⟩:bF),lM))
 (((lL N l w).bind fun E3 =>
 some (E3,0))))))))
def jI (N:Nat) (neg:Bool) (a:List Int):Nat→(List Int)→Int→Option (bW)
 | 0,_,_=>none
 | fuel+1,x,i =>
  (cond (decide (i < ((a.length:Nat):Int)))
  ((if 0≤i∧i < ((a.length:Nat):Int) then
  (if (x.length+1) * 2≤140737488355328 then
  jI N neg a fuel (x ++ ([(IntKind.u16.wrap ((a.getD ((i).toNat) 0)))]:List Int)) (ag (i+1))
  else none)
  else none))
  (some (⟨(cond neg (decide (((a.length:Nat):Int) > 0)) false),x⟩:bW)))
def ft (N:Nat) (neg:Bool) (a:List Int):Option (bW) :=
 jI N neg a N ([]:List Int) 0
def kU (N:Nat) (n:Int):Nat→(List Int)→Int→Option (bW)
 | 0,_,_=>none
 | fuel+1,a,u =>
  (cond (decide (u > 0))
  ((if (a.length+1) * 8≤140737488355328 then
  kU N n fuel (a ++ ([(ag ((u.tmod 65536)))]:List Int)) (IntKind.u64.wrap (u.tdiv 65536))
  else none))
  (((ft N (decide (n < 0)) a).bind fun pG =>
  some pG)))
def qE (N:Nat) (n:Int):Option (bW) :=
 (cond (decide (n < 0))
 (kU N n N ([]:List Int) (IntKind.u64.wrap (0 - (IntKind.u64.wrap (n)))))
 (kU N n N ([]:List Int) (IntKind.u64.wrap (n))))
def mA (N:Nat) (n:Int):Option (aa) :=
 ((qE N n).bind fun F2 =>
 ((qE N 1).bind fun K3 =>
 some (⟨F2,K3⟩:aa)))
def qF (N:Nat) (w:bJ):Option (av) :=
 ((mA N w.jf).bind fun rQ =>
 ((mA N w.jR).bind fun Uy =>
 ((mA N w.kg).bind fun Uz =>
 some (⟨rQ,Uy,Uz⟩:av))))
def jJ (N:Nat) (a:List Int):Nat→Int→Option ((List Int))
 | 0,_=>none
 | fuel+1,n =>
  (if ((decide (n > 0))=true→0≤(ag (n - 1))∧(ag (n - 1)) < ((a.length:Nat):Int)) then
  (cond (cond (decide (n > 0)) ((a.getD ((ag (n - 1)).toNat) 0) == 0) false)
  (jJ N a fuel (ag (n - 1)))
  ((if 0≤(n).toNat∧(n).toNat≤a.length then
  (if 0≤n then
  (if (0+((n).toNat - 0)) * 8≤140737488355328 then
  some (([]:List Int) ++ ((a.take ((n).toNat)).drop 0))
  else none)
  else none)
  else none)))
  else none)
def lN (N:Nat) (a:List Int):Option ((List Int)) :=
 jJ N a N ((a.length:Nat):Int)
def jK (N:Nat) (l:List Int):Nat→(List Int)→Int→Option ((List Int))
 | 0,_,_=>none
 | fuel+1,a,i =>
  (cond (decide (i < ((l.length:Nat):Int)))
  ((if 0≤i∧i < ((l.length:Nat):Int) then
  (if (a.length+1) * 8≤140737488355328 then
  jK N l fuel (a ++ ([(ag ((l.getD ((i).toNat) 0)))]:List Int)) (ag (i+1))
  else none)
  else none))
  (((lN N a).bind fun bU =>
  some bU)))
def iC (N:Nat) (l:List Int):Option ((List Int)) :=
 jK N l N ([]:List Int) 0
def lB (N:Nat) (a:List Int) (i:Int):Option (Int) :=
 (cond (decide (i < ((a.length:Nat):Int)))
 ((if 0≤i∧i < ((a.length:Nat):Int) then
 some (a.getD ((i).toNat) 0)
 else none))
 (some 0))
def ja (N:Nat) (a:List Int) (b:List Int) (i:Int) (lp:(List Int)→Int→Option ((List Int))):Nat→(List Int)→Int→Int→Option ((List Int))
 | 0,_,_,_=>none
 | fuel+1,gf,carry,k =>
  (cond (cond (decide (k < ((b.length:Nat):Int))) true (decide (carry > 0)))
  ((if 0≤(ag (i+k))∧(ag (i+k)) < ((gf.length:Nat):Int) then
  (if 0≤i∧i < ((a.length:Nat):Int) then
  ((lB N b k).bind fun cG =>
  ja N a b i lp fuel (gf.set ((ag (i+k)).toNat) ((ag ((ag ((gf.getD ((ag (i+k)).toNat) 0)+(ag ((a.getD ((i).toNat) 0) * cG))))+carry)).tmod 65536)) (ag ((ag ((ag ((gf.getD ((ag (i+k)).toNat) 0)+(ag ((a.getD ((i).toNat) 0) * cG))))+carry)).tdiv 65536)) (ag (k+1)))
  else none)
  else none))
  (lp gf (ag (i+1))))
def jb (N:Nat) (a:List Int) (b:List Int):Nat→(List Int)→Int→Option ((List Int))
 | 0,_,_=>none
 | fuel+1,out,i =>
  (cond (decide (i < ((a.length:Nat):Int)))
  (ja N a b i (jb N a b fuel) N out 0 0)
  (((lN N out).bind fun bU =>
  some bU)))
def kV (N:Nat) (a:List Int) (b:List Int):Option ((List Int)) :=
 (if 0≤(ag ((ag (((a.length:Nat):Int)+((b.length:Nat):Int)))+1))∧(8:Int) * (ag ((ag (((a.length:Nat):Int)+((b.length:Nat):Int)))+1))≤281474976710656∧(ag ((ag (((a.length:Nat):Int)+((b.length:Nat):Int)))+1))≤9223372036854775807 then
 jb N a b N (List.replicate ((ag ((ag (((a.length:Nat):Int)+((b.length:Nat):Int)))+1)).toNat) 0:List Int) 0
 else none)
def gx (N:Nat) (a:List Int) (b:List Int):Nat→Int→Option (Int)
 | 0,_=>none
 | fuel+1,i =>
  (cond (decide (i≥0))
  ((if 0≤i∧i < ((a.length:Nat):Int) then
  (if 0≤i∧i < ((b.length:Nat):Int) then
  (cond ((a.getD ((i).toNat) 0) != (b.getD ((i).toNat) 0))
  (some (ag ((a.getD ((i).toNat) 0) - (b.getD ((i).toNat) 0))))
  (gx N a b fuel (ag (i - 1))))
  else none)
  else none))
  (some 0))
def mb (N:Nat) (a:List Int) (b:List Int):Option (Int) :=
 (cond (((a.length:Nat):Int) != ((b.length:Nat):Int))
 (some (ag (((a.length:Nat):Int) - ((b.length:Nat):Int))))
 (gx N a b N (ag (((a.length:Nat):Int) - 1))))
def lq (N:Nat) (a:List Int) (b:List Int) (out:List Int) (i:Int) (nu:(List Int)→Int→Int→Option ((List Int))) (kb:Int) (s:Int):Option ((List Int)) :=
 (if (out.length+1) * 8≤140737488355328 then
 nu (out ++ ([s]:List Int)) kb (ag (i+1))
 else none)
def fK (N:Nat) (a:List Int) (b:List Int):Nat→(List Int)→Int→Int→Option ((List Int))
 | 0,_,_,_=>none
 | fuel+1,out,borrow,i =>
  (cond (decide (i < ((a.length:Nat):Int)))
  ((if 0≤i∧i < ((a.length:Nat):Int) then
  ((lB N b i).bind fun cG =>
  (cond (decide ((ag ((ag ((a.getD ((i).toNat) 0) - cG)) - borrow)) < 0))
  (lq N a b out i (fK N a b fuel) 1 (ag ((ag ((ag ((a.getD ((i).toNat) 0) - cG)) - borrow))+65536)))
  (lq N a b out i (fK N a b fuel) 0 (ag ((ag ((a.getD ((i).toNat) 0) - cG)) - borrow)))))
  else none))
  (((lN N out).bind fun bU =>
  some bU)))
def oO (N:Nat) (a:List Int) (b:List Int):Option ((List Int)) :=
 fK N a b N ([]:List Int) 0 0
def mc (N:Nat) (a:List Int) (b:List Int) (q:List Int) (i:Int) (lo:Int) (dQ:(List Int)→(List Int)→Int→Option ((List Int)×(List Int))) (JE:List Int):Option ((List Int)×(List Int)) :=
 dQ JE (q.set ((i).toNat) lo) (ag (i - 1))
def iQ (N:Nat) (a:List Int) (b:List Int) (q:List Int) (i:Int) (bU:(List Int)) (dQ:(List Int)→(List Int)→Int→Option ((List Int)×(List Int))):Nat→Int→Int→Option ((List Int)×(List Int))
 | 0,_,_=>none
 | fuel+1,lo,hi =>
  (cond (decide (lo < hi))
  (((kV N b ([(ag ((ag ((ag (lo+hi))+1)).tdiv 2))]:List Int)).bind fun qV =>
  ((mb N qV bU).bind fun jY =>
  (cond (decide (jY≤0))
  (iQ N a b q i bU dQ fuel (ag ((ag ((ag (lo+hi))+1)).tdiv 2)) hi)
  (iQ N a b q i bU dQ fuel lo (ag ((ag ((ag ((ag (lo+hi))+1)).tdiv 2)) - 1)))))))
  ((if 0≤i∧i < ((q.length:Nat):Int) then
  (cond (decide (lo > 0))
  (((kV N b ([lo]:List Int)).bind fun DU =>
  ((oO N bU DU).bind fun sx =>
  mc N a b q i lo dQ sx)))
  (mc N a b q i lo dQ bU))
  else none)))
def iR (N:Nat) (a:List Int) (b:List Int):Nat→(List Int)→(List Int)→Int→Option ((List Int)×(List Int))
 | 0,_,_,_=>none
 | fuel+1,rest,q,i =>
  (cond (decide (i≥0))
  ((if 0≤i∧i < ((a.length:Nat):Int) then
  (if (1+rest.length) * 8≤140737488355328 then
  ((lN N (([(a.getD ((i).toNat) 0)]:List Int) ++ rest)).bind fun bU =>
  iQ N a b q i bU (iR N a b fuel) N 0 65535)
  else none)
  else none))
  (((lN N q).bind fun jv =>
  some (jv,rest))))
def mY (N:Nat) (a:List Int) (b:List Int):Option ((List Int)×(List Int)) :=
 (if 0≤((a.length:Nat):Int)∧(8:Int) * ((a.length:Nat):Int)≤281474976710656∧((a.length:Nat):Int)≤9223372036854775807 then
 iR N a b N ([]:List Int) (List.replicate a.length 0:List Int) (ag (((a.length:Nat):Int) - 1))
 else none)
def lO (N:Nat):Nat→(List Int)→(List Int)→Option ((List Int))
 | 0,_,_=>none
 | fuel+1,a2,b2 =>
  (cond (decide (((b2.length:Nat):Int) > 0))
  (((mY N a2 b2).bind fun j3 =>
  lO N fuel b2 j3.2))
  (some a2))
def yD (N:Nat) (a:List Int) (b:List Int):Option ((List Int)) :=
 lO N N a b
def mZ (N:Nat) (a:bW) (b:bW):Option (aa) :=
 ((iC N a.fL).bind fun mB =>
 ((iC N b.fL).bind fun nI =>
 (cond (((nI.length:Nat):Int) == 0)
 (((ft N a.fG mB).bind fun pG =>
 ((qE N 1).bind fun F2 =>
 some (⟨pG,F2⟩:aa))))
 (((yD N mB nI).bind fun RX =>
 ((mY N mB RX).bind fun j3 =>
 ((mY N nI RX).bind fun kj =>
 ((ft N (!(a.fG == b.fG)) j3.1).bind fun zU =>
 ((ft N false kj.1).bind fun zV =>
 some (⟨zU,zV⟩:aa))))))))))
def fM (N:Nat) (x:aa):Option (aa) :=
 ((mZ N x.fN x.fD).bind fun sH =>
 some sH)
def vK (N:Nat) (a:bW):Option (Int) :=
 ((iC N a.fL).bind fun mB =>
 (cond (((mB.length:Nat):Int) == 0)
 (some 0)
 ((cond a.fG
 (some (-1))
 (some 1)))))
def gG (N:Nat) (x:aa):Option (Int) :=
 ((fM N x).bind fun eE =>
 ((vK N eE.fN).bind fun PK =>
 some PK))
def yE (N:Nat) (a:bW):Option (bW) :=
 ((iC N a.fL).bind fun mB =>
 ((ft N (!a.fG) mB).bind fun pG =>
 some pG))
def rJ (N:Nat) (x:aa):Option (aa) :=
 ((fM N x).bind fun eE =>
 ((yE N eE.fN).bind fun UA =>
 some (⟨UA,eE.fD⟩:aa)))
def md (N:Nat) (a:bW) (b:bW):Option (bW) :=
 ((iC N a.fL).bind fun mB =>
 ((iC N b.fL).bind fun nI =>
 ((kV N mB nI).bind fun qV =>
 ((ft N (!(a.fG == b.fG)) qV).bind fun pG =>
 some pG))))
def jL (N:Nat) (a:List Int) (b:List Int):Nat→(List Int)→Int→Int→Option ((List Int))
 | 0,_,_,_=>none
 | fuel+1,out,carry,i =>
  (cond (cond (cond (decide (i < ((a.length:Nat):Int))) true (decide (i < ((b.length:Nat):Int)))) true (decide (carry > 0)))
  (((lB N a i).bind fun cG =>
  ((lB N b i).bind fun lP =>
  (if (out.length+1) * 8≤140737488355328 then
  jL N a b fuel (out ++ ([((ag ((ag (cG+lP))+carry)).tmod 65536)]:List Int)) (ag ((ag ((ag (cG+lP))+carry)).tdiv 65536)) (ag (i+1))
  else none))))
  (((lN N out).bind fun bU =>
  some bU)))
def vL (N:Nat) (a:List Int) (b:List Int):Option ((List Int)) :=
 jL N a b N ([]:List Int) 0 0
def yF (N:Nat) (a:bW) (b:bW):Option (bW) :=
 ((iC N a.fL).bind fun mB =>
 ((iC N b.fL).bind fun nI =>
 (cond (a.fG == b.fG)
 (((vL N mB nI).bind fun EU =>
 ((ft N a.fG EU).bind fun pG =>
 some pG)))
 (((mb N mB nI).bind fun jY =>
 (cond (decide (jY≥0))
 (((oO N mB nI).bind fun sx =>
 ((ft N a.fG sx).bind fun zU =>
 some zU)))
 (((oO N nI mB).bind fun vI =>
 ((ft N b.fG vI).bind fun zV =>
 some zV)))))))))
def gQ (N:Nat) (x:aa) (y:aa):Option (aa) :=
 ((fM N x).bind fun eE =>
 ((fM N y).bind fun iE =>
 ((md N eE.fN iE.fD).bind fun sB =>
 ((md N iE.fN eE.fD).bind fun mU =>
 ((yF N sB mU).bind fun KZ =>
 ((md N eE.fD iE.fD).bind fun EV =>
 ((mZ N KZ EV).bind fun sH =>
 some sH)))))))
def pH (N:Nat) (x:aa) (y:aa):Option (aa) :=
 ((rJ N y).bind fun H4 =>
 ((gQ N x H4).bind fun bE =>
 some bE))
def rK (N:Nat) (x:aa) (y:aa):Option (Int) :=
 ((pH N x y).bind fun au =>
 ((gG N au).bind fun gy =>
 some gy))
def nU (N:Nat) (l:ai) (step:Int) (om:Int→Int→Option (Int)) (s2:Int):Option (Int) :=
 om s2 (ag (step.tdiv 2))
def iS (N:Nat) (l:ai):Nat→Int→Int→Option (Int)
 | 0,_,_=>none
 | fuel+1,s,step =>
  (cond (decide (step > 0))
  ((cond (decide ((ag ((ag (s+step)) * (ag (s+step)))) < (ag ((ag ((ag (l.bX - l.jf)) * (ag (l.bX - l.jf))))+(ag ((ag (l.cz - l.jR)) * (ag (l.cz - l.jR))))))))
  (nU N l step (iS N l fuel) (ag (s+step)))
  (nU N l step (iS N l fuel) s)))
  (some (ag (s+1))))
def sI (N:Nat) (l:ai):Option (Int) :=
 iS N l N 0 4194304
def rL (N:Nat) (x:aa) (y:aa):Option (aa) :=
 ((fM N x).bind fun eE =>
 ((fM N y).bind fun iE =>
 ((md N eE.fN iE.fD).bind fun sB =>
 ((md N eE.fD iE.fN).bind fun mU =>
 ((mZ N sB mU).bind fun sH =>
 some sH)))))
def fe (N:Nat) (x:aa) (y:aa):Option (aa) :=
 ((fM N x).bind fun eE =>
 ((fM N y).bind fun iE =>
 ((md N eE.fN iE.fN).bind fun sB =>
 ((md N eE.fD iE.fD).bind fun mU =>
 ((mZ N sB mU).bind fun sH =>
 some sH)))))
def sJ (N:Nat) (l:ai):Option (av) :=
 ((mA N l.nH).bind fun rQ =>
 ((sI N l).bind fun xE =>
 ((mA N xE).bind fun Uy =>
 ((rL N rQ Uy).bind fun DV =>
 ((mA N (ag (l.bX - l.jf))).bind fun Uz =>
 ((fe N DV Uz).bind fun ct =>
 ((mA N (ag (l.cz - l.jR))).bind fun YW =>
 ((fe N DV YW).bind fun du =>
 ((mA N l.jf).bind fun YX =>
 ((fe N YX du).bind fun gN =>
 ((mA N l.jR).bind fun YZ =>
 ((fe N YZ ct).bind fun sE =>
 ((pH N gN sE).bind fun au =>
 some (⟨ct,du,au⟩:av))))))))))))))
def fx (N:Nat) (l:List ai) (parts:List aa):Nat→av→Int→Option (Bool)
 | 0,_,_=>none
 | fuel+1,sum,i =>
  (cond (decide (i < ((l.length:Nat):Int)))
  ((if 0≤i∧i < ((parts.length:Nat):Int) then
  ((gG N (⟨((parts.getD ((i).toNat) aa.d).fN),((parts.getD ((i).toNat) aa.d).fD)⟩:aa)).bind fun gy =>
  (if ((!(decide (gy < 0)))=true→0≤i∧i < ((parts.length:Nat):Int)) then
  ((cond (!(decide (gy < 0))) (mA N 1) (some aa.d)).bind fun rQ =>
  ((cond (!(decide (gy < 0))) (rK N (⟨((parts.getD ((i).toNat) aa.d).fN),((parts.getD ((i).toNat) aa.d).fD)⟩:aa) rQ) (some 0)).bind fun pz =>
  (cond (cond (decide (gy < 0)) true (decide (pz > 0)))
  (some false)
  ((if 0≤i∧i < ((l.length:Nat):Int) then
  ((sJ N (l.getD ((i).toNat) ai.d)).bind fun AS =>
  ((fe N (⟨((parts.getD ((i).toNat) aa.d).fN),((parts.getD ((i).toNat) aa.d).fD)⟩:aa) AS.e0).bind fun ct =>
  ((gQ N sum.e0 ct).bind fun bE =>
  ((fe N (⟨((parts.getD ((i).toNat) aa.d).fN),((parts.getD ((i).toNat) aa.d).fD)⟩:aa) AS.e1).bind fun du =>
  ((gQ N sum.e1 du).bind fun iY =>
  ((fe N (⟨((parts.getD ((i).toNat) aa.d).fN),((parts.getD ((i).toNat) aa.d).fD)⟩:aa) AS.e2).bind fun gN =>
  ((gQ N sum.e2 gN).bind fun kO =>
  fx N l parts fuel (⟨bE,iY,kO⟩:av) (ag (i+1)))))))))
  else none)))))
  else none))
  else none))
  (((gG N sum.e0).bind fun fg =>
  ((cond (fg == 0) (gG N sum.e1) (some 0)).bind fun nv =>
  ((cond (cond (fg == 0) (nv == 0) false) (gG N sum.e2) (some 0)).bind fun B1 =>
  some (cond (cond (fg == 0) (nv == 0) false) (B1 == 0) false))))))
def pJ (N:Nat) (l:List ai) (w:bJ) (parts:List aa):Option (Bool) :=
 ((qF N w).bind fun zW =>
 fx N l parts N zW 0)
def qG (N:Nat) (d:List aa) (p:av):Option (aa) :=
 ((mA N 0).bind fun rQ =>
 (if 0≤(0:Int)∧0 < ((d.length:Nat):Int) then
 ((fe N (⟨((d.getD 0 aa.d).fN),((d.getD 0 aa.d).fD)⟩:aa) p.e0).bind fun ct =>
 ((gQ N rQ ct).bind fun bE =>
 (if 0≤(1:Int)∧1 < ((d.length:Nat):Int) then
 ((fe N (⟨((d.getD 1 aa.d).fN),((d.getD 1 aa.d).fD)⟩:aa) p.e1).bind fun du =>
 ((gQ N bE du).bind fun iY =>
 (if 0≤(2:Int)∧2 < ((d.length:Nat):Int) then
 ((fe N (⟨((d.getD 2 aa.d).fN),((d.getD 2 aa.d).fD)⟩:aa) p.e2).bind fun gN =>
 ((gQ N iY gN).bind fun kO =>
 some kO))
 else none)))
 else none)))
 else none))
def jP (N:Nat) (l:List ai) (d:List aa) (i:Int) (lQ:aa→Int→Option (Bool)) (JF:aa):Option (Bool) :=
 lQ JF (ag (i+1))
def fh (N:Nat) (l:List ai) (d:List aa):Nat→aa→Int→Option (Bool)
 | 0,_,_=>none
 | fuel+1,sum,i =>
  (cond (decide (i < ((l.length:Nat):Int)))
  ((if 0≤i∧i < ((l.length:Nat):Int) then
  ((sJ N (l.getD ((i).toNat) ai.d)).bind fun AS =>
  ((qG N d AS).bind fun DW =>
  ((gG N DW).bind fun gy =>
  (cond (decide (gy > 0))
  (((gQ N sum DW).bind fun bE =>
  jP N l d i (fh N l d fuel) bE))
  (jP N l d i (fh N l d fuel) sum)))))
  else none))
  (((gG N sum).bind fun fg =>
  some (decide (fg < 0)))))
def qk (N:Nat) (l:List ai) (w:bJ) (d:List aa):Option (Bool) :=
 ((qF N w).bind fun zW =>
 ((qG N d zW).bind fun K4 =>
 fh N l d N K4 0))
def iG (N:Nat) (l:List ai) (w:bJ) (m:bF):Option (Int) :=
 ((fc N l).bind fun bm =>
 (cond (bm != 0)
 (some bm)
 (((jo N w).bind fun m5 =>
 (cond (m5 != 0)
 (some m5)
 ((cond m.ig
 ((cond (((m.j9.length:Nat):Int) != ((l.length:Nat):Int))
 (some 11)
 (((pJ N l w m.j9).bind fun B2 =>
 (cond (!B2)
 (some 24)
 (some 0))))))
 ((cond (((m.ij.length:Nat):Int) != 3)
 (some 11)
 (((qk N l w m.ij).bind fun E4 =>
 (cond (!E4)
 (some 24)
 (some 0)))))))))))))
def dM (N:Nat) (l:List ai) (w:List bJ) (cx:Int×Int):Nat→Int→Option (Bool)
 | 0,_=>none
 | fuel+1,i2 =>
  (cond (decide (i2 < ((w.length:Nat):Int)))
  ((if 0≤i2∧i2 < ((w.length:Nat):Int) then
  ((pF N l (w.getD ((i2).toNat) bJ.d)).bind fun tx =>
  (if ((!(tx.2 != 0))=true→0≤i2∧i2 < ((w.length:Nat):Int)) then
  ((cond (!(tx.2 != 0)) (iG N l (w.getD ((i2).toNat) bJ.d) tx.1) (some 0)).bind fun tW =>
  (cond (cond (tx.2 != 0) true (tW != 0))
  (some false)
  ((cond (!tx.1.ig)
  (some (cx.1 == i2))
  (dM N l w cx fuel (ag (i2+1)))))))
  else none))
  else none))
  (some (cx.1 == (-1))))
def cm (N:Nat) (l:List ai) (w:List bJ) (cx:Int×Int):Nat→Int→Int→Option (Bool)
 | 0,_,_=>none
 | fuel+1,f2,i =>
  (cond (cond (decide (i < ((w.length:Nat):Int))) (f2 == 0) false)
  ((if 0≤i∧i < ((w.length:Nat):Int) then
  ((jo N (w.getD ((i).toNat) bJ.d)).bind fun m5 =>
  cm N l w cx fuel m5 (ag (i+1)))
  else none))
  ((cond (f2 != 0)
  (some (cond (cx.2 == f2) (cx.1 == 0) false))
  ((cond (cond (cond (cx.2 != 0) true (decide (cx.1 < (-1)))) true (decide (cx.1≥((w.length:Nat):Int))))
  (some false)
  (dM N l w cx N 0))))))
def dN (N:Nat) (l:List ai) (w:List bJ) (cx:Int×Int) (f:Int):Option (Bool) :=
 cm N l w cx N f 0
def lr (N:Nat) (l:List ai) (w:List bJ):Option (Bool) :=
 ((qC N).bind fun K5 =>
 (cond (!K5)
 (some false)
 (((qD N l).bind fun jc =>
 (cond (cond (cond (cond (!jc) true (cond (decide (((l.length:Nat):Int) > 4)) (decide (((l.length:Nat):Int)≤12)) false)) true (cond (decide (((w.length:Nat):Int) > 4)) (decide (((w.length:Nat):Int)≤24)) false)) true (decide (((w.length:Nat):Int) > 40)))
 (some true)
 (((nT N l w).bind fun cx =>
 ((fc N l).bind fun bm =>
 (cond (cond (bm == 0) (decide (((w.length:Nat):Int) > 24)) false)
 (dN N l w cx 8)
 (dN N l w cx bm))))))))))
end Go.Den
