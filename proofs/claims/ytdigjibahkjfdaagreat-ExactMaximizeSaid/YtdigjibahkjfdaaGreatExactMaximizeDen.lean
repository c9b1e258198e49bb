/- The functions of the program as Lean functions, each in the Option monad; N bounds the rounds of loops. No conditions. -/
import Derived.Test.YtdigjibahkjfdaaGreatCe
set_option linter.unusedVariables false
set_option linter.unusedSimpArgs false
set_option linter.unusedVariables false
namespace Go.Den
open Go.Ab
abbrev zA (s:ByteArray) (x:Int):Int:=Aw s x.toNat
structure bM where
 fG:Bool
 fL:List Int
def bM.d:bM:=⟨false,[]⟩
def bM.wf (x:bM):Prop:=wB x.fG∧(wL (wK .u16)) x.fL
def im (x:bM):List AV:=[(aB x.fG),(aN (cU .u16) 0 x.fL)]
structure aa where
 fN:bM
 fD:bM
def aa.d:aa:=⟨bM.d,bM.d⟩
def aa.wf (x:aa):Prop:=bM.wf x.fN∧bM.wf x.fD
def ah (x:aa):List AV:=[(aB x.fN.fG),(aN (cU .u16) 0 x.fN.fL),(aB x.fD.fG),(aN (cU .u16) 0 x.fD.fL)]
structure aH where
 bu:List aa
 b6:aa
def aH.d:aH:=⟨[],aa.d⟩
def aH.wf (x:aH):Prop:=(wL aa.wf) x.bu∧aa.wf x.b6
def Aj (x:aH):List AV:=[(aN ah aa.d x.bu),(aB x.b6.fN.fG),(aN (cU .u16) 0 x.b6.fN.fL),(aB x.b6.fD.fG),(aN (cU .u16) 0 x.b6.fD.fL)]
structure jj where
 rf:Int
 rh:Int
 gY:List Int
 lF:List Int
 Hd:List (List aa)
 He:List aa
 dJ:List aa
 af:aa
 bC:Int
def jj.d:jj:=⟨0,0,[],[],[],[],[],aa.d,0⟩
def jj.wf (x:jj):Prop:=wI x.rf∧wI x.rh∧(wL wI) x.gY∧(wL wI) x.lF∧(wL (wL aa.wf)) x.Hd∧(wL aa.wf) x.He∧(wL aa.wf) x.dJ∧aa.wf x.af∧wI x.bC
def jj.cells (x:jj):List AV:=[(aI x.rf),(aI x.rh),(aN cI 0 x.gY),(aN cI 0 x.lF),(aN (fun x=>[aN ah aa.d x]) [] x.Hd),(aN ah aa.d x.He),(aN ah aa.d x.dJ),(aB x.af.fN.fG),(aN (cU .u16) 0 x.af.fN.fL),(aB x.af.fD.fG),(aN (cU .u16) 0 x.af.fD.fL),(aI x.bC)]
structure cT where
 J8:Int
 jM:List aH
def cT.d:cT:=⟨0,[]⟩
def cT.wf (x:cT):Prop:=wI x.J8∧(wL aH.wf) x.jM
def cT.cells (x:cT):List AV:=[(aI x.J8),(aN Aj aH.d x.jM)]
structure fk where
 ax:List Int
 ba:List aa
def fk.d:fk:=⟨[],[]⟩
def fk.wf (x:fk):Prop:=(wL wI) x.ax∧(wL aa.wf) x.ba
def xH (x:fk):List AV:=[(aN cI 0 x.ax),(aN ah aa.d x.ba)]
structure n6 where
 gG:aa
 bm:List aa
 ai:List aa
def n6.d:n6:=⟨aa.d,[],[]⟩
def n6.wf (x:n6):Prop:=aa.wf x.gG∧(wL aa.wf) x.bm∧(wL aa.wf) x.ai
def n6.cells (x:n6):List AV:=[(aB x.gG.fN.fG),(aN (cU .u16) 0 x.gG.fN.fL),(aB x.gG.fD.fG),(aN (cU .u16) 0 x.gG.fD.fL),(aN ah aa.d x.bm),(aN ah aa.d x.ai)]
def oO (N:Nat) (vr:aH) (C0:Int):Option (Bool) :=
 some (decide (((vr.bu.length:Nat):Int) > C0))
def cx (N:Nat) (s:List aH) (C0:Int):Nat→Int→Option (Int)
 | 0,_=>none
 | fuel+1,x =>
  (cond (decide (x < ((s.length:Nat):Int)))
  ((if 0≤x∧x < ((s.length:Nat):Int) then
  ((oO N (s.getD ((x).toNat) aH.d) C0).bind fun yh =>
  (cond yh
  (some x)
  (cx N s C0 fuel (aq (x+1)))))
  else none))
  (some (-1)))
def lZ (N:Nat) (s:List aH) (C0:Int):Option (Int) :=
 cx N s C0 N 0
def ku (N:Nat) (s:List aH) (C0:Int):Option (Bool) :=
 ((lZ N s C0).bind fun MK =>
 some (decide (MK≥0)))
def lg (N:Nat) (n:Int) (l:List aH):Option (Int) :=
 (cond (cond (decide (n < 0)) true (decide (n > 12)))
 (some 2)
 ((cond (decide (((l.length:Nat):Int) > 40))
 (some 8)
 (((ku N l n).bind fun MK =>
 (cond MK
 (some 11)
 (some 0)))))))
def jU (N:Nat):Nat→Int→(List Int)→Option ((List Int))
 | 0,_,_=>none
 | fuel+1,n2,out =>
  (cond (decide (n2 > 0))
  ((if (out.length+1) * 2≤140737488355328 then
  jU N fuel (ow .u64 n2 16) (out ++ ([(IntKind.u16.wrap (n2))]:List Int))
  else none))
  (some out))
def m7 (N:Nat) (n:Int):Option ((List Int)) :=
 jU N N n ([]:List Int)
def m8 (N:Nat):Nat→(List Int)→Option ((List Int))
 | 0,_=>none
 | fuel+1,n2 =>
  (if ((decide (((n2.length:Nat):Int) > 0))=true→0≤(aq (((n2.length:Nat):Int) - 1))∧(aq (((n2.length:Nat):Int) - 1)) < ((n2.length:Nat):Int)) then
  (cond (cond (decide (((n2.length:Nat):Int) > 0)) ((n2.getD ((aq (((n2.length:Nat):Int) - 1)).toNat) 0) == 0) false)
  ((if 0≤(aq (((n2.length:Nat):Int) - 1)).toNat∧(aq (((n2.length:Nat):Int) - 1)).toNat≤n2.length then
  (if 0≤(aq (((n2.length:Nat):Int) - 1)) then
  m8 N fuel ((n2.take ((aq (((n2.length:Nat):Int) - 1)).toNat)).drop 0)
  else none)
  else none))
  (some n2))
  else none)
def fH (N:Nat) (n:List Int):Option ((List Int)) :=
 m8 N N n
def dz (N:Nat) (s:List Int):Option ((List Int)) :=
 (if (0+s.length) * 2≤140737488355328 then
 some (([]:List Int) ++ s)
 else none)
def gH (N:Nat) (neg:Bool) (n:List Int):Option (bM) :=
 ((fH N n).bind fun b8 =>
 (cond (((b8.length:Nat):Int) == 0)
 (some (⟨false,([]:List Int)⟩:bM))
 (((dz N b8).bind fun AH =>
 some (⟨neg,AH⟩:bM)))))
def AI (N:Nat) (n:Int):Option (bM) :=
 (cond (decide (n < 0))
 (((m7 N (IntKind.u64.wrap (0 - (IntKind.u64.wrap (n))))).bind fun tw =>
 ((gH N true tw).bind fun Jm =>
 some Jm)))
 (((m7 N (IntKind.u64.wrap (n))).bind fun CR =>
 ((gH N false CR).bind fun AJ =>
 some AJ))))
def lQ (N:Nat) (n:List Int):Nat→Int→Int→Option (Int×Bool)
 | 0,_,_=>none
 | fuel+1,out,i =>
  (cond (decide (i≥0))
  ((if 0≤i∧i < ((n.length:Nat):Int) then
  lQ N n fuel (vz .u64 (iC .u64 out 16) (IntKind.u64.wrap ((n.getD ((i).toNat) 0)))) (aq (i - 1))
  else none))
  (some (out,true)))
def vC (N:Nat) (n:List Int):Option (Int×Bool) :=
 (cond (decide (((n.length:Nat):Int) > 4))
 (some (0,false))
 (lQ N n N 0 (aq (((n.length:Nat):Int) - 1))))
def iE (N:Nat) (a:List Int) (b:List Int):Nat→Int→Option (Int)
 | 0,_=>none
 | fuel+1,i =>
  (cond (decide (i≥0))
  ((if 0≤i∧i < ((a.length:Nat):Int) then
  (if 0≤i∧i < ((b.length:Nat):Int) then
  (cond ((a.getD ((i).toNat) 0) != (b.getD ((i).toNat) 0))
  (some (aq ((aq ((a.getD ((i).toNat) 0))) - (aq ((b.getD ((i).toNat) 0))))))
  (iE N a b fuel (aq (i - 1))))
  else none)
  else none))
  (some 0))
def na (N:Nat) (a:List Int) (b:List Int):Option (Int) :=
 (cond (((a.length:Nat):Int) != ((b.length:Nat):Int))
 (some (aq (((a.length:Nat):Int) - ((b.length:Nat):Int))))
 (iE N a b N (aq (((a.length:Nat):Int) - 1))))
def kK (N:Nat) (a:List Int) (b:Int):Nat→(List Int)→Int→Int→Option ((List Int)×Int)
 | 0,_,_,_=>none
 | fuel+1,q,rest,i =>
  (cond (decide (i≥0))
  ((if 0≤i∧i < ((a.length:Nat):Int) then
  (if ((IntKind.u32.wrap (b)):Int)≠0 then
  (if 0≤i∧i < ((q.length:Nat):Int) then
  kK N a b fuel (q.set ((i).toNat) (IntKind.u16.wrap ((IntKind.u32.wrap ((vz .u32 (iC .u32 rest 16) (IntKind.u32.wrap ((a.getD ((i).toNat) 0)))).tdiv (IntKind.u32.wrap (b))))))) ((vz .u32 (iC .u32 rest 16) (IntKind.u32.wrap ((a.getD ((i).toNat) 0)))).tmod (IntKind.u32.wrap (b))) (aq (i - 1))
  else none)
  else none)
  else none))
  (((fH N q).bind fun b8 =>
  some (b8,(IntKind.u16.wrap (rest))))))
def vD (N:Nat) (a:List Int) (b:Int):Option ((List Int)×Int) :=
 (if 0≤((a.length:Nat):Int)∧(2:Int) * ((a.length:Nat):Int)≤281474976710656∧((a.length:Nat):Int)≤9223372036854775807 then
 kK N a b N (List.replicate a.length 0:List Int) 0 (aq (((a.length:Nat):Int) - 1))
 else none)
def cN (N:Nat) (x2:Int) (n:Int):Option (Int) :=
 (if 0≤(IntKind.u8.wrap (x2))∧(IntKind.u8.wrap (x2)) < (((⟨#[0,1,2,2,3,3,3,3,4,4,4,4,4,4,4,4,5,5,5,5,5,5,5,5,5,5,5,5,5,5,5,5,6,6,6,6,6,6,6,6,6,6,6,6,6,6,6,6,6,6,6,6,6,6,6,6,6,6,6,6,6,6,6,6,7,7,7,7,7,7,7,7,7,7,7,7,7,7,7,7,7,7,7,7,7,7,7,7,7,7,7,7,7,7,7,7,7,7,7,7,7,7,7,7,7,7,7,7,7,7,7,7,7,7,7,7,7,7,7,7,7,7,7,7,7,7,7,7,8,8,8,8,8,8,8,8,8,8,8,8,8,8,8,8,8,8,8,8,8,8,8,8,8,8,8,8,8,8,8,8,8,8,8,8,8,8,8,8,8,8,8,8,8,8,8,8,8,8,8,8,8,8,8,8,8,8,8,8,8,8,8,8,8,8,8,8,8,8,8,8,8,8,8,8,8,8,8,8,8,8,8,8,8,8,8,8,8,8,8,8,8,8,8,8,8,8,8,8,8,8,8,8,8,8,8,8,8,8,8,8,8,8,8,8,8,8,8,8,8,8,8,8,8,8,8,8]⟩:ByteArray).size:Nat):Int) then
 some (aq (n+(aq ((Aw (⟨#[0,1,2,2,3,3,3,3,4,4,4,4,4,4,4,4,5,5,5,5,5,5,5,5,5,5,5,5,5,5,5,5,6,6,6,6,6,6,6,6,6,6,6,6,6,6,6,6,6,6,6,6,6,6,6,6,6,6,6,6,6,6,6,6,7,7,7,7,7,7,7,7,7,7,7,7,7,7,7,7,7,7,7,7,7,7,7,7,7,7,7,7,7,7,7,7,7,7,7,7,7,7,7,7,7,7,7,7,7,7,7,7,7,7,7,7,7,7,7,7,7,7,7,7,7,7,7,7,8,8,8,8,8,8,8,8,8,8,8,8,8,8,8,8,8,8,8,8,8,8,8,8,8,8,8,8,8,8,8,8,8,8,8,8,8,8,8,8,8,8,8,8,8,8,8,8,8,8,8,8,8,8,8,8,8,8,8,8,8,8,8,8,8,8,8,8,8,8,8,8,8,8,8,8,8,8,8,8,8,8,8,8,8,8,8,8,8,8,8,8,8,8,8,8,8,8,8,8,8,8,8,8,8,8,8,8,8,8,8,8,8,8,8,8,8,8,8,8,8,8,8,8,8,8,8,8]⟩:ByteArray) ((IntKind.u8.wrap (x2)).toNat))))))
 else none)
def kL (N:Nat) (x:Int):Option (Int) :=
 (cond (decide (x≥256))
 (cN N (ow .u16 x 8) 8)
 (cN N x 0))
def eY (N:Nat) (x:Int):Option (Int) :=
 ((kL N x).bind fun ML =>
 some (aq (16 - ML)))
def iG (N:Nat) (a:List Int) (zW:Int):Nat→(List Int)→Int→Option ((List Int))
 | 0,_,_=>none
 | fuel+1,out,x =>
  (cond (decide (x < ((a.length:Nat):Int)))
  ((if 0≤x∧x < ((a.length:Nat):Int) then
  (if (0:Int)≤zW then
  (if 0≤x∧x < ((out.length:Nat):Int) then
  (if 0≤(aq (x+1))∧(aq (x+1)) < (((out.set ((x).toNat) (vz .u16 (out.getD ((x).toNat) 0) (IntKind.u16.wrap ((iC .u32 (IntKind.u32.wrap ((a.getD ((x).toNat) 0))) zW))))).length:Nat):Int) then
  iG N a zW fuel ((out.set ((x).toNat) (vz .u16 (out.getD ((x).toNat) 0) (IntKind.u16.wrap ((iC .u32 (IntKind.u32.wrap ((a.getD ((x).toNat) 0))) zW))))).set ((aq (x+1)).toNat) (IntKind.u16.wrap ((ow .u32 (iC .u32 (IntKind.u32.wrap ((a.getD ((x).toNat) 0))) zW) 16)))) (aq (x+1))
  else none)
  else none)
  else none)
  else none))
  (some out))
def pC (N:Nat) (a:List Int) (zW:Int):Option ((List Int)) :=
 (if 0≤(aq (((a.length:Nat):Int)+1))∧(2:Int) * (aq (((a.length:Nat):Int)+1))≤281474976710656∧(aq (((a.length:Nat):Int)+1))≤9223372036854775807 then
 iG N a zW N (List.replicate ((aq (((a.length:Nat):Int)+1)).toNat) 0:List Int) 0
 else none)
def nO (N:Nat) (uo:Nat) (un:Nat) (v:List Int) (q:Int) (bc:List Int) (borrow:Int) (x:Int) (pV:(List Int)→Int→Int→Int→Option (Int×(List Int))) (x2:Int):Option (Int×(List Int)) :=
 (if 0≤x∧x < ((un:Nat):Int) then
 (if uo+un≤bc.length then
 pV (bc.set (bT uo (x).toNat) (IntKind.u16.wrap ((aq ((aq ((aq ((bc.getD (bT uo (x).toNat) 0))) - (aq ((vA .u64 x2 65535)))))+borrow))))) (ow .u64 x2 16) (ow .i64 (aq ((aq ((aq ((bc.getD (bT uo (x).toNat) 0))) - (aq ((vA .u64 x2 65535)))))+borrow)) 16) (aq (x+1))
 else none)
 else none)
def kM (N:Nat) (cM:List Int) (q2:Int):Option (Int×(List Int)) :=
 some ((IntKind.u16.wrap (q2)),cM)
def iq (N:Nat) (uo:Nat) (un:Nat) (v:List Int) (q:Int):Nat→(List Int)→Int→Int→Option (Int×(List Int))
 | 0,_,_,_=>none
 | fuel+1,bZ,fx,x3 =>
  (cond (decide (x3 < ((v.length:Nat):Int)))
  ((if 0≤x3∧x3 < ((un:Nat):Int) then
  (if uo+un≤bZ.length then
  (if 0≤x3∧x3 < ((v.length:Nat):Int) then
  iq N uo un v q fuel (bZ.set (bT uo (x3).toNat) (IntKind.u16.wrap ((IntKind.u32.wrap (fx+(IntKind.u32.wrap ((IntKind.u32.wrap ((bZ.getD (bT uo (x3).toNat) 0)))+(IntKind.u32.wrap ((v.getD ((x3).toNat) 0)))))))))) (ow .u32 (IntKind.u32.wrap (fx+(IntKind.u32.wrap ((IntKind.u32.wrap ((bZ.getD (bT uo (x3).toNat) 0)))+(IntKind.u32.wrap ((v.getD ((x3).toNat) 0))))))) 16) (aq (x3+1))
  else none)
  else none)
  else none))
  ((if 0≤((v.length:Nat):Int)∧((v.length:Nat):Int) < ((un:Nat):Int) then
  (if uo+un≤bZ.length then
  kM N (bZ.set (bT uo v.length) (IntKind.u16.wrap ((bZ.getD (bT uo v.length) 0)+(IntKind.u16.wrap (fx))))) (IntKind.u64.wrap (q - 1))
  else none)
  else none)))
def fQ (N:Nat) (uo:Nat) (un:Nat) (v:List Int) (q:Int):Nat→(List Int)→Int→Int→Int→Option (Int×(List Int))
 | 0,_,_,_,_=>none
 | fuel+1,bc,carry,borrow,x =>
  (cond (decide (x < (aq (((v.length:Nat):Int)+1))))
  ((cond (decide (x < ((v.length:Nat):Int)))
  ((if 0≤x∧x < ((v.length:Nat):Int) then
  nO N uo un v q bc borrow x (fQ N uo un v q fuel) (IntKind.u64.wrap (carry+(IntKind.u64.wrap (q * (IntKind.u64.wrap ((v.getD ((x).toNat) 0)))))))
  else none))
  (nO N uo un v q bc borrow x (fQ N uo un v q fuel) carry)))
  ((cond (decide (borrow < 0))
  (iq N uo un v q N bc 0 0)
  (kM N bc q))))
def kN (N:Nat) (uo:Nat) (un:Nat) (v:List Int) (C0:List Int):Nat→Int→Int→Option (Int×(List Int))
 | 0,_,_=>none
 | fuel+1,q,rest =>
  (if (((decide (rest < 65536)) && ((decide (rest < 65536)) && (!(decide (q > 65535)))))=true→0≤(aq (((v.length:Nat):Int) - 2))∧(aq (((v.length:Nat):Int) - 2)) < ((v.length:Nat):Int)) then
  (if (((decide (rest < 65536)) && ((decide (rest < 65536)) && (!(decide (q > 65535)))))=true→0≤(aq (((v.length:Nat):Int) - 2))∧(aq (((v.length:Nat):Int) - 2)) < ((un:Nat):Int)) then
  (if (((decide (rest < 65536)) && ((decide (rest < 65536)) && (!(decide (q > 65535)))))=true→uo+un≤C0.length) then
  (cond (cond (decide (rest < 65536)) (cond (decide (q > 65535)) true (decide ((IntKind.u64.wrap (q * (IntKind.u64.wrap ((v.getD ((aq (((v.length:Nat):Int) - 2)).toNat) 0))))) > (vz .u64 (iC .u64 rest 16) (IntKind.u64.wrap ((C0.getD (bT uo (aq (((v.length:Nat):Int) - 2)).toNat) 0))))))) false)
  ((if 0≤(aq (((v.length:Nat):Int) - 1))∧(aq (((v.length:Nat):Int) - 1)) < ((v.length:Nat):Int) then
  kN N uo un v C0 fuel (IntKind.u64.wrap (q - 1)) (IntKind.u64.wrap (rest+(IntKind.u64.wrap ((v.getD ((aq (((v.length:Nat):Int) - 1)).toNat) 0)))))
  else none))
  (fQ N uo un v q N C0 0 0 0))
  else none)
  else none)
  else none)
def vE (N:Nat) (uo:Nat) (un:Nat) (v:List Int) (C0:List Int):Option (Int×(List Int)) :=
 (if 0≤((v.length:Nat):Int)∧((v.length:Nat):Int) < ((un:Nat):Int) then
 (if uo+un≤C0.length then
 (if 0≤(aq (((v.length:Nat):Int) - 1))∧(aq (((v.length:Nat):Int) - 1)) < ((un:Nat):Int) then
 (if 0≤(aq (((v.length:Nat):Int) - 1))∧(aq (((v.length:Nat):Int) - 1)) < ((v.length:Nat):Int) then
 (if ((IntKind.u64.wrap ((v.getD ((aq (((v.length:Nat):Int) - 1)).toNat) 0))):Int)≠0 then
 kN N uo un v C0 N (IntKind.u64.wrap ((vz .u64 (iC .u64 (IntKind.u64.wrap ((C0.getD (bT uo v.length) 0))) 16) (IntKind.u64.wrap ((C0.getD (bT uo (aq (((v.length:Nat):Int) - 1)).toNat) 0)))).tdiv (IntKind.u64.wrap ((v.getD ((aq (((v.length:Nat):Int) - 1)).toNat) 0))))) ((vz .u64 (iC .u64 (IntKind.u64.wrap ((C0.getD (bT uo v.length) 0))) 16) (IntKind.u64.wrap ((C0.getD (bT uo (aq (((v.length:Nat):Int) - 1)).toNat) 0)))).tmod (IntKind.u64.wrap ((v.getD ((aq (((v.length:Nat):Int) - 1)).toNat) 0))))
 else none)
 else none)
 else none)
 else none)
 else none)
def jC (N:Nat) (b:List Int) (bD:Int) (q:List Int) (u:List Int):Nat→(List Int)→Int→Option ((List Int)×(List Int))
 | 0,_,_=>none
 | fuel+1,vr,x =>
  (cond (decide (x < (((b.length - 0):Nat):Int)))
  ((if 0≤x∧x < ((u.length:Nat):Int) then
  (if 0≤(aq (x+1))∧(aq (x+1)) < ((u.length:Nat):Int) then
  (if (0:Int)≤bD then
  (if 0≤x∧x < ((vr.length:Nat):Int) then
  jC N b bD q u fuel (vr.set ((x).toNat) (IntKind.u16.wrap ((ow .u32 (vz .u32 (IntKind.u32.wrap ((u.getD ((x).toNat) 0))) (iC .u32 (IntKind.u32.wrap ((u.getD ((aq (x+1)).toNat) 0))) 16)) bD)))) (aq (x+1))
  else none)
  else none)
  else none)
  else none))
  (((fH N q).bind fun gq =>
  ((fH N vr).bind fun MM =>
  some (gq,MM)))))
def jD (N:Nat) (b:List Int) (bD:Int) (fB:(List Int)):Nat→(List Int)→(List Int)→Int→Option ((List Int)×(List Int))
 | 0,_,_,_=>none
 | fuel+1,q,u,j =>
  (cond (decide (j≥0))
  ((if (j).toNat≤(aq ((aq (j+(((b.length - 0):Nat):Int)))+1)).toNat∧(aq ((aq (j+(((b.length - 0):Nat):Int)))+1)).toNat≤u.length then
  (if 0≤j then
  (if 0≤(aq ((aq (j+(((b.length - 0):Nat):Int)))+1)) then
  (if 0≤b.length∧b.length≤fB.length then
  ((vE N ((j).toNat) ((aq ((aq (j+(((b.length - 0):Nat):Int)))+1)).toNat - (j).toNat) ((fB.take b.length).drop 0) u).bind fun da =>
  (if da.2.length=u.length then
  (if 0≤j∧j < ((q.length:Nat):Int) then
  jD N b bD fB fuel (q.set ((j).toNat) da.1) da.2 (aq (j - 1))
  else none)
  else none))
  else none)
  else none)
  else none)
  else none))
  ((if 0≤(((b.length - 0):Nat):Int)∧(2:Int) * (((b.length - 0):Nat):Int)≤281474976710656∧(((b.length - 0):Nat):Int)≤9223372036854775807 then
  jC N b bD q u N (List.replicate (b.length - 0) 0:List Int) 0
  else none)))
def nb (N:Nat) (a:List Int) (b:List Int):Option ((List Int)×(List Int)) :=
 ((na N a b).bind fun jV =>
 (cond (decide (jV < 0))
 (((dz N a).bind fun AH =>
 some (([]:List Int),AH)))
 ((cond (((b.length:Nat):Int) == 1)
 ((if 0≤(0:Int)∧0 < ((b.length:Nat):Int) then
 ((vD N a (b.getD 0 0)).bind fun AK =>
 ((fH N ([AK.2]:List Int)).bind fun b8 =>
 some (AK.1,b8)))
 else none))
 ((if 0≤(aq (((b.length:Nat):Int) - 1))∧(aq (((b.length:Nat):Int) - 1)) < ((b.length:Nat):Int) then
 ((eY N (b.getD ((aq (((b.length:Nat):Int) - 1)).toNat) 0)).bind fun bD =>
 ((pC N a bD).bind fun eP =>
 ((pC N b bD).bind fun fB =>
 (if 0≤b.length∧b.length≤fB.length then
 (if 0≤(aq (((eP.length:Nat):Int) - (((b.length - 0):Nat):Int)))∧(2:Int) * (aq (((eP.length:Nat):Int) - (((b.length - 0):Nat):Int)))≤281474976710656∧(aq (((eP.length:Nat):Int) - (((b.length - 0):Nat):Int)))≤9223372036854775807 then
 jD N b bD fB N (List.replicate ((aq (((eP.length:Nat):Int) - (((b.length - 0):Nat):Int))).toNat) 0:List Int) eP (aq ((aq (((eP.length:Nat):Int) - (((b.length - 0):Nat):Int))) - 1))
 else none)
 else none))))
 else none))))))
def lh (N:Nat) (oP:(List Int)→(List Int)→Option ((List Int))):Nat→Int→Int→Option ((List Int))
 | 0,_,_=>none
 | fuel+1,x,y =>
  (cond (decide (y > 0))
  ((if (y:Int)≠0 then
  lh N oP fuel y (x.tmod y)
  else none))
  (((m7 N x).bind fun tw =>
  some tw)))
def jE (N:Nat):Nat→(List Int)→(List Int)→Option ((List Int))
 | 0,_,_=>none
 | fuel+1,a2,b2 =>
  (cond (decide (((b2.length:Nat):Int) > 0))
  (((vC N a2).bind fun Ip =>
  ((vC N b2).bind fun FJ =>
  (cond (cond Ip.2 FJ.2 false)
  (lh N (jE N fuel) N Ip.1 FJ.1)
  (((nb N a2 b2).bind fun jt =>
  jE N fuel b2 jt.2))))))
  (some a2))
def wQ (N:Nat) (a:List Int) (b:List Int):Option ((List Int)) :=
 jE N N a b
def mf (N:Nat) (a:bM) (b:bM) (x:List Int) (y:List Int):Option (aa) :=
 ((gH N (!(a.fG == b.fG)) x).bind fun Jm =>
 ((gH N false y).bind fun AJ =>
 some (⟨Jm,AJ⟩:aa)))
def iu (N:Nat) (a:bM) (b:bM):Option (aa) :=
 ((fH N a.fL).bind fun b8 =>
 ((fH N b.fL).bind fun gq =>
 ((wQ N b8 gq).bind fun oQ =>
 (if ((!(((oQ.length:Nat):Int) != 1))=true→0≤(0:Int)∧0 < ((oQ.length:Nat):Int)) then
 (cond (cond (((oQ.length:Nat):Int) != 1) true ((oQ.getD 0 0) != 1))
 (((nb N b8 oQ).bind fun jt =>
 ((nb N gq oQ).bind fun BC =>
 mf N a b jt.1 BC.1)))
 (mf N a b b8 gq))
 else none))))
def zB (N:Nat) (a:bM):Option (aa) :=
 ((iu N a (⟨false,([1]:List Int)⟩:bM)).bind fun Cg =>
 some Cg)
def du (N:Nat) (n:Int):Option (aa) :=
 ((AI N n).bind fun J9 =>
 ((zB N J9).bind fun MN =>
 some MN))
def tz (N:Nat) (a:bM):Option (Int) :=
 ((fH N a.fL).bind fun b8 =>
 (cond (((b8.length:Nat):Int) == 0)
 (some 0)
 ((cond a.fG
 (some (-1))
 (some 1)))))
def kC (N:Nat) (x:aa):Option (bM) :=
 ((tz N x.fD).bind fun vF =>
 (cond (vF == 0)
 (some (⟨false,([1]:List Int)⟩:bM))
 (some x.fD)))
def jg (N:Nat) (x:aa):Option (aa) :=
 ((kC N x).bind fun ju =>
 ((iu N x.fN ju).bind fun Cg =>
 some Cg))
def sJ (N:Nat) (a:bM):Option (bM) :=
 some (⟨(!a.fG),a.fL⟩:bM)
def en (N:Nat) (x:aa):Option (aa) :=
 ((sJ N x.fN).bind fun CS =>
 ((kC N x).bind fun ju =>
 ((iu N CS ju).bind fun Cg =>
 some Cg)))
def nP (N:Nat) (n:Int) (l:List aH) (aw:aa) (t:List Int) (t2:List Int) (t3:List (List aa)) (t4:List aa) (x2:Int) (row:List aa) (x3:Int) (pW:(List aa)→Int→Option (jj)) (eF:(List Int)→(List (List aa))→(List aa)→Int→Option (jj)) (c7:aa):Option (jj) :=
 ((en N c7).bind fun aV =>
 (if 0≤x3∧x3 < ((row.length:Nat):Int) then
 (if 0≤(aq (n+x3))∧(aq (n+x3)) < ((row.length:Nat):Int) then
 pW ((row.set ((x3).toNat) aV).set ((aq (n+x3)).toNat) c7) (aq (x3+1))
 else none)
 else none))
def fR (N:Nat) (n:Int) (l:List aH) (aw:aa) (t:List Int) (t2:List Int) (t3:List (List aa)) (t4:List aa) (x2:Int) (eF:(List Int)→(List (List aa))→(List aa)→Int→Option (jj)):Nat→(List aa)→Int→Option (jj)
 | 0,_,_=>none
 | fuel+1,row,x3 =>
  (cond (decide (x3 < n))
  (((du N 0).bind fun eZ =>
  (cond (decide (x3 < ((((l.getD ((x2).toNat) aH.d).bu).length:Nat):Int)))
  ((if 0≤x3∧x3 < ((((l.getD ((x2).toNat) aH.d).bu).length:Nat):Int) then
  ((jg N (⟨((((l.getD ((x2).toNat) aH.d).bu).getD ((x3).toNat) aa.d).fN),((((l.getD ((x2).toNat) aH.d).bu).getD ((x3).toNat) aa.d).fD)⟩:aa)).bind fun jv =>
  nP N n l aw t t2 t3 t4 x2 row x3 (fR N n l aw t t2 t3 t4 x2 eF fuel) eF jv)
  else none))
  (nP N n l aw t t2 t3 t4 x2 row x3 (fR N n l aw t t2 t3 t4 x2 eF fuel) eF eZ))))
  (((du N 1).bind fun b9 =>
  (if 0≤(aq (2 * n))∧(aq (2 * n)) < ((row.length:Nat):Int) then
  (if (t3.length+1) * 24≤140737488355328 then
  ((jg N (⟨(((l.getD ((x2).toNat) aH.d).b6).fN),(((l.getD ((x2).toNat) aH.d).b6).fD)⟩:aa)).bind fun df =>
  (if (t4.length+1) * 64≤140737488355328 then
  eF (t2 ++ ([(aq ((aq (2 * n))+x2))]:List Int)) (t3 ++ [(row.set ((aq (2 * n)).toNat) b9)]) (t4 ++ ([df]:List aa)) (aq (x2+1))
  else none))
  else none)
  else none))))
def kO (N:Nat) (n:Int) (l:List aH) (aw:aa) (t:List Int) (t2:List Int) (t3:List (List aa)) (t4:List aa):Nat→(List aa)→Int→Option (jj)
 | 0,_,_=>none
 | fuel+1,t5,x4 =>
  (cond (decide (x4 < (((List.replicate ((aq ((aq (2 * n))+1)).toNat) aa.d:List aa).length:Nat):Int)))
  (((du N 0).bind fun pX =>
  (if 0≤x4∧x4 < ((t5.length:Nat):Int) then
  kO N n l aw t t2 t3 t4 fuel (t5.set ((x4).toNat) pX) (aq (x4+1))
  else none)))
  (some (⟨n,((l.length:Nat):Int),t2,(t ++ ([(aq ((aq (2 * n))+((l.length:Nat):Int)))]:List Int)),t3,t4,t5,aw,(aq ((aq (2 * n))+((l.length:Nat):Int)))⟩:jj)))
def jw (N:Nat) (n:Int) (l:List aH) (aw:aa) (t:List Int):Nat→(List Int)→(List (List aa))→(List aa)→Int→Option (jj)
 | 0,_,_,_,_=>none
 | fuel+1,t2,t3,t4,x2 =>
  (cond (decide (x2 < ((l.length:Nat):Int)))
  ((if 0≤x2∧x2 < ((l.length:Nat):Int) then
  (if (t2.length+1) * 8≤140737488355328 then
  (if 0≤(aq ((aq (2 * n))+1))∧(64:Int) * (aq ((aq (2 * n))+1))≤281474976710656∧(aq ((aq (2 * n))+1))≤9223372036854775807 then
  fR N n l aw t t2 t3 t4 x2 (jw N n l aw t fuel) N (List.replicate ((aq ((aq (2 * n))+1)).toNat) aa.d:List aa) 0
  else none)
  else none)
  else none))
  ((if 0≤(aq ((aq (2 * n))+1))∧(64:Int) * (aq ((aq (2 * n))+1))≤281474976710656∧(aq ((aq (2 * n))+1))≤9223372036854775807 then
  kO N n l aw t t2 t3 t4 N (List.replicate ((aq ((aq (2 * n))+1)).toNat) aa.d:List aa) 0
  else none)))
def kP (N:Nat) (n:Int) (l:List aH) (aw:aa):Nat→(List Int)→Int→Option (jj)
 | 0,_,_=>none
 | fuel+1,t,x =>
  (cond (decide (x < (aq (2 * n))))
  ((if (t.length+1) * 8≤140737488355328 then
  kP N n l aw fuel (t ++ ([x]:List Int)) (aq (x+1))
  else none))
  ((if (t.length+1) * 8≤140737488355328 then
  jw N n l aw t N ([]:List Int) ([]:List (List aa)) ([]:List aa) 0
  else none)))
def ta (N:Nat) (n:Int) (l:List aH):Option (jj) :=
 ((du N 0).bind fun aw =>
 kP N n l aw N ([]:List Int) 0)
def jW (N:Nat) (x:aa):Option (Int) :=
 ((tz N x.fN).bind fun vF =>
 ((kC N x).bind fun ju =>
 ((tz N ju).bind fun MO =>
 some (aq (vF * MO)))))
def gI (N:Nat) (x:aa):Option (Bool) :=
 ((tz N x.fN).bind fun vF =>
 some (vF == 0))
def kQ (N:Nat) (a:List Int) (b:List Int) (x:Int) (nc:(List Int)→Int→Option ((List Int))):Nat→(List Int)→Int→Int→Option ((List Int))
 | 0,_,_,_=>none
 | fuel+1,fX,carry,x2 =>
  (cond (decide (x2 < ((b.length:Nat):Int)))
  ((if 0≤x2∧x2 < ((b.length:Nat):Int) then
  (if 0≤(aq (x+x2))∧(aq (x+x2)) < ((fX.length:Nat):Int) then
  kQ N a b x nc fuel (fX.set ((aq (x+x2)).toNat) (IntKind.u16.wrap ((IntKind.u32.wrap (carry+(IntKind.u32.wrap ((IntKind.u32.wrap ((IntKind.u32.wrap ((a.getD ((x).toNat) 0))) * (IntKind.u32.wrap ((b.getD ((x2).toNat) 0)))))+(IntKind.u32.wrap ((fX.getD ((aq (x+x2)).toNat) 0)))))))))) (ow .u32 (IntKind.u32.wrap (carry+(IntKind.u32.wrap ((IntKind.u32.wrap ((IntKind.u32.wrap ((a.getD ((x).toNat) 0))) * (IntKind.u32.wrap ((b.getD ((x2).toNat) 0)))))+(IntKind.u32.wrap ((fX.getD ((aq (x+x2)).toNat) 0))))))) 16) (aq (x2+1))
  else none)
  else none))
  ((if 0≤(aq (x+((b.length:Nat):Int)))∧(aq (x+((b.length:Nat):Int))) < ((fX.length:Nat):Int) then
  nc (fX.set ((aq (x+((b.length:Nat):Int))).toNat) (IntKind.u16.wrap (carry))) (aq (x+1))
  else none)))
def kR (N:Nat) (a:List Int) (b:List Int):Nat→(List Int)→Int→Option ((List Int))
 | 0,_,_=>none
 | fuel+1,out,x =>
  (cond (decide (x < ((a.length:Nat):Int)))
  ((if 0≤x∧x < ((a.length:Nat):Int) then
  kQ N a b x (kR N a b fuel) N out 0 0
  else none))
  (((fH N out).bind fun b8 =>
  some b8)))
def tc (N:Nat) (a:List Int) (b:List Int):Option ((List Int)) :=
 (if 0≤(aq (((a.length:Nat):Int)+((b.length:Nat):Int)))∧(2:Int) * (aq (((a.length:Nat):Int)+((b.length:Nat):Int)))≤281474976710656∧(aq (((a.length:Nat):Int)+((b.length:Nat):Int)))≤9223372036854775807 then
 kR N a b N (List.replicate ((aq (((a.length:Nat):Int)+((b.length:Nat):Int))).toNat) 0:List Int) 0
 else none)
def pY (N:Nat) (a:bM) (b:bM):Option (bM) :=
 ((fH N a.fL).bind fun b8 =>
 ((fH N b.fL).bind fun gq =>
 ((tc N b8 gq).bind fun rY =>
 ((gH N (!(a.fG == b.fG)) rY).bind fun Jm =>
 some Jm))))
def pD (N:Nat) (a2:List Int) (b2:List Int) (out:List Int) (x:Int) (qM:(List Int)→Int→Int→Option ((List Int))) (fx:Int):Option ((List Int)) :=
 (if (out.length+1) * 2≤140737488355328 then
 qM (out ++ ([(IntKind.u16.wrap (fx))]:List Int)) (ow .u32 fx 16) (aq (x+1))
 else none)
def jF (N:Nat) (a2:List Int) (b2:List Int):Nat→(List Int)→Int→Int→Option ((List Int))
 | 0,_,_,_=>none
 | fuel+1,out,carry,x =>
  (cond (decide (x < ((a2.length:Nat):Int)))
  ((if 0≤x∧x < ((a2.length:Nat):Int) then
  (cond (decide (x < ((b2.length:Nat):Int)))
  ((if 0≤x∧x < ((b2.length:Nat):Int) then
  pD N a2 b2 out x (jF N a2 b2 fuel) (IntKind.u32.wrap ((IntKind.u32.wrap (carry+(IntKind.u32.wrap ((a2.getD ((x).toNat) 0)))))+(IntKind.u32.wrap ((b2.getD ((x).toNat) 0)))))
  else none))
  (pD N a2 b2 out x (jF N a2 b2 fuel) (IntKind.u32.wrap (carry+(IntKind.u32.wrap ((a2.getD ((x).toNat) 0)))))))
  else none))
  ((if (out.length+1) * 2≤140737488355328 then
  ((fH N (out ++ ([(IntKind.u16.wrap (carry))]:List Int))).bind fun b8 =>
  some b8)
  else none)))
def pE (N:Nat) (a2:List Int) (b2:List Int):Option ((List Int)) :=
 (if 0≤(0:Int)∧(2:Int) * (aq (((a2.length:Nat):Int)+1))≤281474976710656∧(aq (((a2.length:Nat):Int)+1))≤9223372036854775807∧(0:Int)≤(aq (((a2.length:Nat):Int)+1)) then
 jF N a2 b2 N (List.replicate 0 0:List Int) 0 0
 else none)
def tA (N:Nat) (a:List Int) (b:List Int):Option ((List Int)) :=
 (cond (decide (((a.length:Nat):Int) < ((b.length:Nat):Int)))
 (pE N b a)
 (pE N a b))
def nQ (N:Nat) (a:List Int) (b:List Int) (out:List Int) (x:Int) (y:Int) (fI:(List Int)→Int→Int→Option ((List Int))) (kg:Int):Option ((List Int)) :=
 (if 0≤x∧x < ((out.length:Nat):Int) then
 fI (out.set ((x).toNat) (IntKind.u16.wrap ((IntKind.u32.wrap ((IntKind.u32.wrap ((IntKind.u32.wrap ((a.getD ((x).toNat) 0)))+(iC .u32 kg 16))) - y))))) kg (aq (x+1))
 else none)
def nR (N:Nat) (a:List Int) (b:List Int) (out:List Int) (x:Int) (fI:(List Int)→Int→Int→Option ((List Int))) (y:Int):Option ((List Int)) :=
 (cond (decide ((IntKind.u32.wrap ((a.getD ((x).toNat) 0))) < y))
 (nQ N a b out x y fI 1)
 (nQ N a b out x y fI 0))
def gJ (N:Nat) (a:List Int) (b:List Int):Nat→(List Int)→Int→Int→Option ((List Int))
 | 0,_,_,_=>none
 | fuel+1,out,borrow,x =>
  (cond (decide (x < ((a.length:Nat):Int)))
  ((if 0≤x∧x < ((a.length:Nat):Int) then
  (cond (decide (x < ((b.length:Nat):Int)))
  ((if 0≤x∧x < ((b.length:Nat):Int) then
  nR N a b out x (gJ N a b fuel) (IntKind.u32.wrap (borrow+(IntKind.u32.wrap ((b.getD ((x).toNat) 0)))))
  else none))
  (nR N a b out x (gJ N a b fuel) borrow))
  else none))
  (((fH N out).bind fun b8 =>
  some b8)))
def pF (N:Nat) (a:List Int) (b:List Int):Option ((List Int)) :=
 (if 0≤((a.length:Nat):Int)∧(2:Int) * ((a.length:Nat):Int)≤281474976710656∧((a.length:Nat):Int)≤9223372036854775807 then
 gJ N a b N (List.replicate a.length 0:List Int) 0 0
 else none)
def BD (N:Nat) (a:bM) (b:bM):Option (bM) :=
 ((fH N a.fL).bind fun b8 =>
 ((fH N b.fL).bind fun gq =>
 (cond (a.fG == b.fG)
 (((tA N b8 gq).bind fun xr =>
 ((gH N a.fG xr).bind fun Jm =>
 some Jm)))
 (((na N b8 gq).bind fun jV =>
 (cond (decide (jV≥0))
 (((pF N b8 gq).bind fun pa =>
 ((gH N a.fG pa).bind fun AJ =>
 some AJ)))
 (((pF N gq b8).bind fun wR =>
 ((gH N b.fG wR).bind fun Xu =>
 some Xu)))))))))
def er (N:Nat) (x:aa) (y:aa):Option (aa) :=
 ((gI N x).bind fun fS =>
 (cond fS
 (((jg N y).bind fun jv =>
 some jv))
 (((gI N y).bind fun tB =>
 (cond tB
 (((jg N x).bind fun df =>
 some df))
 (((kC N x).bind fun ju =>
 ((kC N y).bind fun oS =>
 ((pY N x.fN oS).bind fun wS =>
 ((pY N y.fN ju).bind fun pZ =>
 ((BD N wS pZ).bind fun MP =>
 ((pY N ju oS).bind fun FK =>
 ((iu N MP FK).bind fun Cg =>
 some Cg)))))))))))))
def lj (N:Nat) (x:aa) (y:aa):Option (aa) :=
 ((en N y).bind fun aV =>
 ((er N x aV).bind fun bz =>
 some bz))
def pe (N:Nat) (x:aa) (y:aa):Option (Int) :=
 ((lj N x y).bind fun dc =>
 ((jW N dc).bind fun au =>
 some au))
def ri (N:Nat) (x:aa) (y:aa):Option (aa) :=
 ((kC N y).bind fun ju =>
 ((pY N x.fN ju).bind fun wS =>
 ((kC N x).bind fun oS =>
 ((pY N oS y.fN).bind fun pZ =>
 ((iu N wS pZ).bind fun Cg =>
 some Cg)))))
def e8 (N:Nat) (x:aa) (y:aa):Option (aa) :=
 ((pY N x.fN y.fN).bind fun wS =>
 ((kC N x).bind fun ju =>
 ((kC N y).bind fun oS =>
 ((pY N ju oS).bind fun pZ =>
 ((iu N wS pZ).bind fun Cg =>
 some Cg)))))
def jX (N:Nat) (j:Int) (f:aa) (C0:List aa) (x:Int) (kS:(List aa)→Int→Option ((List aa))) (bZ:List aa):Option ((List aa)) :=
 kS bZ (aq (x+1))
def fY (N:Nat) (j:Int) (f:aa) (C0:List aa):Nat→(List aa)→Int→Option ((List aa))
 | 0,_,_=>none
 | fuel+1,bc,x =>
  (cond (decide (x < ((C0.length:Nat):Int)))
  ((cond (x == j)
  ((if 0≤x∧x < ((bc.length:Nat):Int) then
  ((e8 N f (⟨((bc.getD ((x).toNat) aa.d).fN),((bc.getD ((x).toNat) aa.d).fD)⟩:aa)).bind fun cy =>
  jX N j f C0 x (fY N j f C0 fuel) (bc.set ((x).toNat) cy))
  else none))
  ((if 0≤x∧x < ((bc.length:Nat):Int) then
  ((gI N (⟨((bc.getD ((x).toNat) aa.d).fN),((bc.getD ((x).toNat) aa.d).fD)⟩:aa)).bind fun fS =>
  (cond (!fS)
  (((e8 N f (⟨((bc.getD ((x).toNat) aa.d).fN),((bc.getD ((x).toNat) aa.d).fD)⟩:aa)).bind fun gK =>
  ((er N (⟨((bc.getD ((x).toNat) aa.d).fN),((bc.getD ((x).toNat) aa.d).fD)⟩:aa) gK).bind fun bz =>
  jX N j f C0 x (fY N j f C0 fuel) (bc.set ((x).toNat) bz))))
  (jX N j f C0 x (fY N j f C0 fuel) bc)))
  else none))))
  (some bc))
def r7 (N:Nat) (j:Int) (f:aa) (C0:List aa):Option ((List aa)) :=
 fY N j f C0 N C0 0
def fC (N:Nat) (j:Int) (f:aa) (C0:List aa) (C1:List aa) (x:Int) (iZ:(List aa)→Int→Option ((List aa))) (bZ:List aa):Option ((List aa)) :=
 iZ bZ (aq (x+1))
def cY (N:Nat) (j:Int) (f:aa) (C0:List aa) (C1:List aa):Nat→(List aa)→Int→Option ((List aa))
 | 0,_,_=>none
 | fuel+1,bc,x =>
  (cond (decide (x < ((C0.length:Nat):Int)))
  ((cond (x == j)
  ((if 0≤x∧x < ((C1.length:Nat):Int) then
  ((e8 N f (⟨((C1.getD ((x).toNat) aa.d).fN),((C1.getD ((x).toNat) aa.d).fD)⟩:aa)).bind fun cy =>
  (if 0≤x∧x < ((bc.length:Nat):Int) then
  fC N j f C0 C1 x (cY N j f C0 C1 fuel) (bc.set ((x).toNat) cy)
  else none))
  else none))
  ((if 0≤x∧x < ((C1.length:Nat):Int) then
  ((gI N (⟨((C1.getD ((x).toNat) aa.d).fN),((C1.getD ((x).toNat) aa.d).fD)⟩:aa)).bind fun fS =>
  (cond (!fS)
  ((if 0≤x∧x < ((bc.length:Nat):Int) then
  ((e8 N f (⟨((C1.getD ((x).toNat) aa.d).fN),((C1.getD ((x).toNat) aa.d).fD)⟩:aa)).bind fun gK =>
  ((er N (⟨((bc.getD ((x).toNat) aa.d).fN),((bc.getD ((x).toNat) aa.d).fD)⟩:aa) gK).bind fun bz =>
  fC N j f C0 C1 x (cY N j f C0 C1 fuel) (bc.set ((x).toNat) bz)))
  else none))
  (fC N j f C0 C1 x (cY N j f C0 C1 fuel) bc)))
  else none))))
  (some bc))
def hO (N:Nat) (j:Int) (f:aa) (C0:List aa) (C1:List aa):Option ((List aa)) :=
 cY N j f C0 C1 N C0 0
def iH (N:Nat) (i:Int) (j:Int) (C0:Int) (bc:Int) (bZ:Bool) (cM:List Int) (cP:Bool) (cQ:List Int) (cg:Int) (C1:List Int) (C2:List Int) (C3:List (List aa)) (C4:List aa) (C5:List aa) (x:Int) (jx:(List aa)→Int→Option (jj×(List Int)×(List Int)×(List (List aa))×(List aa)×(List aa))) (FL:List aa):Option (jj×(List Int)×(List Int)×(List (List aa))×(List aa)×(List aa)) :=
 jx FL (aq (x+1))
def dC (N:Nat) (i:Int) (j:Int) (C0:Int) (bc:Int) (bZ:Bool) (cM:List Int) (cP:Bool) (cQ:List Int) (cg:Int) (C1:List Int) (C2:List Int) (C3:List (List aa)) (C5:List aa) (x2:Int) (jy:(List (List aa))→(List aa)→(List aa)→Int→Option (jj×(List Int)×(List Int)×(List (List aa))×(List aa)×(List aa))) (jl:List (List aa)) (FM:List aa) (mE:List aa):Option (jj×(List Int)×(List Int)×(List (List aa))×(List aa)×(List aa)) :=
 jy jl FM mE (aq (x2+1))
def gi (N:Nat) (i:Int) (j:Int) (C0:Int) (bc:Int) (cg:Int) (C1:List Int) (C2:List Int) (cd:List (List aa)) (ca:List aa) (mV:List aa) (fh:List aa) (ia:Bool) (mW:List Int) (pR:Bool) (pS:List Int):Option (jj×(List Int)×(List Int)×(List (List aa))×(List aa)×(List aa)) :=
 (if 0≤j∧j < ((C2.length:Nat):Int) then
 (if 0≤i∧i < ((C1.length:Nat):Int) then
 some ((⟨C0,bc,(C1.set ((i).toNat) (C2.getD ((j).toNat) 0)),(C2.set ((j).toNat) (C1.getD ((i).toNat) 0)),(cd.set ((i).toNat) ca),mV,fh,(⟨(⟨ia,mW⟩:bM),(⟨pR,pS⟩:bM)⟩:aa),cg⟩:jj),(C1.set ((i).toNat) (C2.getD ((j).toNat) 0)),(C2.set ((j).toNat) (C1.getD ((i).toNat) 0)),(cd.set ((i).toNat) ca),mV,fh)
 else none)
 else none)
def cu (N:Nat) (i:Int) (j:Int) (C0:Int) (bc:Int) (bZ:Bool) (cM:List Int) (cP:Bool) (cQ:List Int) (cg:Int) (C1:List Int) (C2:List Int) (C3:List (List aa)) (C5:List aa):Nat→(List (List aa))→(List aa)→(List aa)→Int→Option (jj×(List Int)×(List Int)×(List (List aa))×(List aa)×(List aa))
 | 0,_,_,_,_=>none
 | fuel+1,cd,ca,mV,x2 =>
  (cond (decide (x2 < ((C3.length:Nat):Int)))
  ((cond (decide ((x2).toNat=(i).toNat))
  ((if 0≤x2∧x2 < ((cd.length:Nat):Int) then
  (if 0≤j∧j < ((ca.length:Nat):Int) then
  ((cond (x2 != i) (gI N (⟨((ca.getD ((j).toNat) aa.d).fN),((ca.getD ((j).toNat) aa.d).fD)⟩:aa)) (some false)).bind fun fS =>
  (cond (cond (x2 != i) (!fS) false)
  ((if 0≤x2∧x2 < ((mV.length:Nat):Int) then
  (if 0≤i∧i < ((mV.length:Nat):Int) then
  ((e8 N (⟨((ca.getD ((j).toNat) aa.d).fN),((ca.getD ((j).toNat) aa.d).fD)⟩:aa) (⟨((mV.getD ((i).toNat) aa.d).fN),((mV.getD ((i).toNat) aa.d).fD)⟩:aa)).bind fun cy =>
  ((er N (⟨((mV.getD ((x2).toNat) aa.d).fN),((mV.getD ((x2).toNat) aa.d).fD)⟩:aa) cy).bind fun bz =>
  (cond (decide ((x2).toNat=(i).toNat))
  (((r7 N j (⟨((ca.getD ((j).toNat) aa.d).fN),((ca.getD ((j).toNat) aa.d).fD)⟩:aa) ca).bind fun Hr =>
  (if Hr.length=ca.length then
  dC N i j C0 bc bZ cM cP cQ cg C1 C2 C3 C5 x2 (cu N i j C0 bc bZ cM cP cQ cg C1 C2 C3 C5 fuel) cd Hr (mV.set ((x2).toNat) bz)
  else none)))
  ((if (x2).toNat < cd.length then
  ((hO N j (⟨((ca.getD ((j).toNat) aa.d).fN),((ca.getD ((j).toNat) aa.d).fD)⟩:aa) (cd.getD ((x2).toNat) []) ca).bind fun nf =>
  (if nf.length=(cd.getD ((x2).toNat) []).length then
  dC N i j C0 bc bZ cM cP cQ cg C1 C2 C3 C5 x2 (cu N i j C0 bc bZ cM cP cQ cg C1 C2 C3 C5 fuel) (cd.set ((x2).toNat) nf) ca (mV.set ((x2).toNat) bz)
  else none))
  else none)))))
  else none)
  else none))
  (dC N i j C0 bc bZ cM cP cQ cg C1 C2 C3 C5 x2 (cu N i j C0 bc bZ cM cP cQ cg C1 C2 C3 C5 fuel) cd ca mV)))
  else none)
  else none))
  ((if (x2).toNat < cd.length then
  (if 0≤x2∧x2 < ((cd.length:Nat):Int) then
  (if 0≤j∧j < (((cd.getD ((x2).toNat) []).length:Nat):Int) then
  ((cond (x2 != i) (gI N (⟨(((cd.getD ((x2).toNat) []).getD ((j).toNat) aa.d).fN),(((cd.getD ((x2).toNat) []).getD ((j).toNat) aa.d).fD)⟩:aa)) (some false)).bind fun tB =>
  (cond (cond (x2 != i) (!tB) false)
  ((if 0≤x2∧x2 < ((mV.length:Nat):Int) then
  (if 0≤i∧i < ((mV.length:Nat):Int) then
  ((e8 N (⟨(((cd.getD ((x2).toNat) []).getD ((j).toNat) aa.d).fN),(((cd.getD ((x2).toNat) []).getD ((j).toNat) aa.d).fD)⟩:aa) (⟨((mV.getD ((i).toNat) aa.d).fN),((mV.getD ((i).toNat) aa.d).fD)⟩:aa)).bind fun gK =>
  ((er N (⟨((mV.getD ((x2).toNat) aa.d).fN),((mV.getD ((x2).toNat) aa.d).fD)⟩:aa) gK).bind fun dg =>
  ((hO N j (⟨(((cd.getD ((x2).toNat) []).getD ((j).toNat) aa.d).fN),(((cd.getD ((x2).toNat) []).getD ((j).toNat) aa.d).fD)⟩:aa) (cd.getD ((x2).toNat) []) ca).bind fun nh =>
  (if nh.length=(cd.getD ((x2).toNat) []).length then
  dC N i j C0 bc bZ cM cP cQ cg C1 C2 C3 C5 x2 (cu N i j C0 bc bZ cM cP cQ cg C1 C2 C3 C5 fuel) (cd.set ((x2).toNat) nh) ca (mV.set ((x2).toNat) dg)
  else none))))
  else none)
  else none))
  (dC N i j C0 bc bZ cM cP cQ cg C1 C2 C3 C5 x2 (cu N i j C0 bc bZ cM cP cQ cg C1 C2 C3 C5 fuel) cd ca mV)))
  else none)
  else none)
  else none))))
  ((if 0≤j∧j < ((C5.length:Nat):Int) then
  ((gI N (⟨((C5.getD ((j).toNat) aa.d).fN),((C5.getD ((j).toNat) aa.d).fD)⟩:aa)).bind fun FN =>
  (cond (!FN)
  ((if 0≤i∧i < ((mV.length:Nat):Int) then
  ((e8 N (⟨((C5.getD ((j).toNat) aa.d).fN),((C5.getD ((j).toNat) aa.d).fD)⟩:aa) (⟨((mV.getD ((i).toNat) aa.d).fN),((mV.getD ((i).toNat) aa.d).fD)⟩:aa)).bind fun FO =>
  ((er N (⟨(⟨bZ,cM⟩:bM),(⟨cP,cQ⟩:bM)⟩:aa) FO).bind fun jm =>
  ((hO N j (⟨((C5.getD ((j).toNat) aa.d).fN),((C5.getD ((j).toNat) aa.d).fD)⟩:aa) C5 ca).bind fun Iq =>
  (if Iq.length=C5.length then
  (if (i).toNat < cd.length then
  gi N i j C0 bc cg C1 C2 cd ca mV Iq jm.fN.fG jm.fN.fL jm.fD.fG jm.fD.fL
  else none)
  else none))))
  else none))
  ((if (i).toNat < cd.length then
  gi N i j C0 bc cg C1 C2 cd ca mV C5 bZ cM cP cQ
  else none))))
  else none)))
def dD (N:Nat) (i:Int) (j:Int) (C0:Int) (bc:Int) (bZ:Bool) (cM:List Int) (cP:Bool) (cQ:List Int) (cg:Int) (C1:List Int) (C2:List Int) (C3:List (List aa)) (C4:List aa) (C5:List aa):Nat→(List aa)→Int→Option (jj×(List Int)×(List Int)×(List (List aa))×(List aa)×(List aa))
 | 0,_,_=>none
 | fuel+1,tC,x =>
  (cond (decide (x < (((C3.getD ((i).toNat) []).length:Nat):Int)))
  ((cond (x != j)
  ((if 0≤x∧x < ((tC.length:Nat):Int) then
  ((ri N (⟨((tC.getD ((x).toNat) aa.d).fN),((tC.getD ((x).toNat) aa.d).fD)⟩:aa) (⟨(((C3.getD ((i).toNat) []).getD ((j).toNat) aa.d).fN),(((C3.getD ((i).toNat) []).getD ((j).toNat) aa.d).fD)⟩:aa)).bind fun kn =>
  ((en N kn).bind fun aV =>
  iH N i j C0 bc bZ cM cP cQ cg C1 C2 C3 C4 C5 x (dD N i j C0 bc bZ cM cP cQ cg C1 C2 C3 C4 C5 fuel) (tC.set ((x).toNat) aV)))
  else none))
  (iH N i j C0 bc bZ cM cP cQ cg C1 C2 C3 C4 C5 x (dD N i j C0 bc bZ cM cP cQ cg C1 C2 C3 C4 C5 fuel) tC)))
  (((du N 1).bind fun aw =>
  ((ri N aw (⟨(((C3.getD ((i).toNat) []).getD ((j).toNat) aa.d).fN),(((C3.getD ((i).toNat) []).getD ((j).toNat) aa.d).fD)⟩:aa)).bind fun kx =>
  (if 0≤j∧j < ((tC.length:Nat):Int) then
  (if 0≤i∧i < ((C4.length:Nat):Int) then
  ((ri N (⟨((C4.getD ((i).toNat) aa.d).fN),((C4.getD ((i).toNat) aa.d).fD)⟩:aa) (⟨(((C3.getD ((i).toNat) []).getD ((j).toNat) aa.d).fN),(((C3.getD ((i).toNat) []).getD ((j).toNat) aa.d).fD)⟩:aa)).bind fun MQ =>
  ((en N MQ).bind fun dK =>
  cu N i j C0 bc bZ cM cP cQ cg C1 C2 C3 C5 N C3 (tC.set ((j).toNat) kx) (C4.set ((i).toNat) dK) 0))
  else none)
  else none)))))
def ja (N:Nat) (i:Int) (j:Int) (C0:Int) (bc:Int) (bZ:Bool) (cM:List Int) (cP:Bool) (cQ:List Int) (cg:Int) (C1:List Int) (C2:List Int) (C3:List (List aa)) (C4:List aa) (C5:List aa):Option (jj×(List Int)×(List Int)×(List (List aa))×(List aa)×(List aa)) :=
 (if (i).toNat < C3.length then
 (if 0≤i∧i < ((C3.length:Nat):Int) then
 (if 0≤j∧j < (((C3.getD ((i).toNat) []).length:Nat):Int) then
 dD N i j C0 bc bZ cM cP cQ cg C1 C2 C3 C4 C5 N (C3.getD ((i).toNat) []) 0
 else none)
 else none)
 else none)
def gj (N:Nat) (C0:Int) (bc:Int) (bZ:Bool) (cM:List Int) (cP:Bool) (cQ:List Int) (cg:Int) (C1:List Int) (C2:List Int) (C3:List (List aa)) (C4:List aa) (C5:List aa) (x:Int) (gZ:Int→Int→Option (Int)) (yi:Int):Option (Int) :=
 gZ yi (aq (x+1))
def bN (N:Nat) (C0:Int) (bc:Int) (bZ:Bool) (cM:List Int) (cP:Bool) (cQ:List Int) (cg:Int) (C1:List Int) (C2:List Int) (C3:List (List aa)) (C4:List aa) (C5:List aa):Nat→Int→Int→Option (Int)
 | 0,_,_=>none
 | fuel+1,dI,x =>
  (cond (decide (x < ((C2.length:Nat):Int)))
  ((if 0≤x∧x < ((C5.length:Nat):Int) then
  ((jW N (⟨((C5.getD ((x).toNat) aa.d).fN),((C5.getD ((x).toNat) aa.d).fD)⟩:aa)).bind fun au =>
  (if (((decide (au > 0)) && ((decide (au > 0)) && (!(decide (dI < 0)))))=true→0≤x∧x < ((C2.length:Nat):Int)) then
  (if (((decide (au > 0)) && ((decide (au > 0)) && (!(decide (dI < 0)))))=true→0≤dI∧dI < ((C2.length:Nat):Int)) then
  (cond (cond (decide (au > 0)) (cond (decide (dI < 0)) true (decide ((C2.getD ((x).toNat) 0) < (C2.getD ((dI).toNat) 0)))) false)
  (gj N C0 bc bZ cM cP cQ cg C1 C2 C3 C4 C5 x (bN N C0 bc bZ cM cP cQ cg C1 C2 C3 C4 C5 fuel) x)
  (gj N C0 bc bZ cM cP cQ cg C1 C2 C3 C4 C5 x (bN N C0 bc bZ cM cP cQ cg C1 C2 C3 C4 C5 fuel) dI))
  else none)
  else none))
  else none))
  (some dI))
def kT (N:Nat) (C0:Int) (bc:Int) (bZ:Bool) (cM:List Int) (cP:Bool) (cQ:List Int) (cg:Int) (C1:List Int) (C2:List Int) (C3:List (List aa)) (C4:List aa) (C5:List aa):Option (Int) :=
 bN N C0 bc bZ cM cP cQ cg C1 C2 C3 C4 C5 N (-1) 0
def eu (N:Nat) (j:Int) (C0:Int) (bc:Int) (bZ:Bool) (cM:List Int) (cP:Bool) (cQ:List Int) (cg:Int) (C1:List Int) (C2:List Int) (C3:List (List aa)) (C4:List aa) (C5:List aa) (x:Int) (cj:Int→aa→Int→Option (Int)) (yi:Int) (FP:aa):Option (Int) :=
 cj yi FP (aq (x+1))
def fm (N:Nat) (j:Int) (C0:Int) (bc:Int) (bZ:Bool) (cM:List Int) (cP:Bool) (cQ:List Int) (cg:Int) (C1:List Int) (C2:List Int) (C3:List (List aa)) (C4:List aa) (C5:List aa) (dI:Int) (least:aa) (x:Int) (kn:aa) (cj:Int→aa→Int→Option (Int)) (c7:Int):Option (Int) :=
 (if (((!(decide (c7 < 0))) && ((!(decide (c7 < 0))) && (c7 == 0)))=true→0≤x∧x < ((C1.length:Nat):Int)) then
 (if (((!(decide (c7 < 0))) && ((!(decide (c7 < 0))) && (c7 == 0)))=true→0≤dI∧dI < ((C1.length:Nat):Int)) then
 (cond (cond (decide (c7 < 0)) true (cond (c7 == 0) (decide ((C1.getD ((x).toNat) 0) < (C1.getD ((dI).toNat) 0))) false))
 (eu N j C0 bc bZ cM cP cQ cg C1 C2 C3 C4 C5 x cj x kn)
 (eu N j C0 bc bZ cM cP cQ cg C1 C2 C3 C4 C5 x cj dI least))
 else none)
 else none)
def bW (N:Nat) (j:Int) (C0:Int) (bc:Int) (bZ:Bool) (cM:List Int) (cP:Bool) (cQ:List Int) (cg:Int) (C1:List Int) (C2:List Int) (C3:List (List aa)) (C4:List aa) (C5:List aa):Nat→Int→aa→Int→Option (Int)
 | 0,_,_,_=>none
 | fuel+1,dI,least,x =>
  (cond (decide (x < ((C1.length:Nat):Int)))
  ((if (x).toNat < C3.length then
  (if 0≤x∧x < ((C3.length:Nat):Int) then
  (if 0≤j∧j < (((C3.getD ((x).toNat) []).length:Nat):Int) then
  ((jW N (⟨(((C3.getD ((x).toNat) []).getD ((j).toNat) aa.d).fN),(((C3.getD ((x).toNat) []).getD ((j).toNat) aa.d).fD)⟩:aa)).bind fun au =>
  (cond (decide (au≥0))
  (eu N j C0 bc bZ cM cP cQ cg C1 C2 C3 C4 C5 x (bW N j C0 bc bZ cM cP cQ cg C1 C2 C3 C4 C5 fuel) dI least)
  ((if 0≤x∧x < ((C4.length:Nat):Int) then
  ((en N (⟨(((C3.getD ((x).toNat) []).getD ((j).toNat) aa.d).fN),(((C3.getD ((x).toNat) []).getD ((j).toNat) aa.d).fD)⟩:aa)).bind fun aV =>
  ((ri N (⟨((C4.getD ((x).toNat) aa.d).fN),((C4.getD ((x).toNat) aa.d).fD)⟩:aa) aV).bind fun kn =>
  (cond (decide (dI≥0))
  (((pe N kn least).bind fun l3 =>
  fm N j C0 bc bZ cM cP cQ cg C1 C2 C3 C4 C5 dI least x kn (bW N j C0 bc bZ cM cP cQ cg C1 C2 C3 C4 C5 fuel) l3))
  (fm N j C0 bc bZ cM cP cQ cg C1 C2 C3 C4 C5 dI least x kn (bW N j C0 bc bZ cM cP cQ cg C1 C2 C3 C4 C5 fuel) (-1)))))
  else none))))
  else none)
  else none)
  else none))
  (some dI))
def lA (N:Nat) (j:Int) (C0:Int) (bc:Int) (bZ:Bool) (cM:List Int) (cP:Bool) (cQ:List Int) (cg:Int) (C1:List Int) (C2:List Int) (C3:List (List aa)) (C4:List aa) (C5:List aa):Option (Int) :=
 bW N j C0 bc bZ cM cP cQ cg C1 C2 C3 C4 C5 N (-1) (⟨(⟨false,([]:List Int)⟩:bM),(⟨false,([]:List Int)⟩:bM)⟩:aa) 0
def dE (N:Nat):Nat→Int→Int→(List Int)→(List Int)→(List (List aa))→(List aa)→(List aa)→Bool→(List Int)→Bool→(List Int)→Int→Option (Int×jj×(List Int)×(List Int)×(List (List aa))×(List aa)×(List aa))
 | 0,_,_,_,_,_,_,_,_,_,_,_,_=>none
 | fuel+1,cd,mV,jl,mE,fh,ia,mW,pR,pS,sK,oe,yj =>
  ((kT N cd mV pR pS sK oe yj jl mE fh ia mW).bind fun td =>
  (cond (decide (td < 0))
  (some ((-1),(⟨cd,mV,jl,mE,fh,ia,mW,(⟨(⟨pR,pS⟩:bM),(⟨sK,oe⟩:bM)⟩:aa),yj⟩:jj),jl,mE,fh,ia,mW))
  (((lA N td cd mV pR pS sK oe yj jl mE fh ia mW).bind fun BE =>
  (cond (decide (BE < 0))
  (some (td,(⟨cd,mV,jl,mE,fh,ia,mW,(⟨(⟨pR,pS⟩:bM),(⟨sK,oe⟩:bM)⟩:aa),yj⟩:jj),jl,mE,fh,ia,mW))
  (((ja N BE td cd mV pR pS sK oe yj jl mE fh ia mW).bind fun bF =>
  (if bF.2.1.length=jl.length then
  (if bF.2.2.1.length=mE.length then
  (if bF.2.2.2.1.length=fh.length then
  (if bF.2.2.2.2.1.length=ia.length then
  (if bF.2.2.2.2.2.length=mW.length then
  dE N fuel bF.1.rf bF.1.rh bF.2.1 bF.2.2.1 bF.2.2.2.1 bF.2.2.2.2.1 bF.2.2.2.2.2 bF.1.af.fN.fG bF.1.af.fN.fL bF.1.af.fD.fG bF.1.af.fD.fL bF.1.bC
  else none)
  else none)
  else none)
  else none)
  else none))))))))
def mM (N:Nat) (C0:Int) (bc:Int) (bZ:Bool) (cM:List Int) (cP:Bool) (cQ:List Int) (cg:Int) (C1:List Int) (C2:List Int) (C3:List (List aa)) (C4:List aa) (C5:List aa):Option (Int×jj×(List Int)×(List Int)×(List (List aa))×(List aa)×(List aa)) :=
 dE N N C0 bc C1 C2 C3 C4 C5 bZ cM cP cQ cg
def cz (N:Nat) (s:List Int) (v:Int):Nat→Int→Option (Int)
 | 0,_=>none
 | fuel+1,x =>
  (cond (decide (x < ((s.length:Nat):Int)))
  ((if 0≤x∧x < ((s.length:Nat):Int) then
  (cond (v == (s.getD ((x).toNat) 0))
  (some x)
  (cz N s v fuel (aq (x+1))))
  else none))
  (some (-1)))
def bX (N:Nat) (s:List Int) (v:Int):Option (Int) :=
 cz N s v N 0
def kU (N:Nat) (x:aa):Option (Bool) :=
 ((gI N x).bind fun fS =>
 some (!fS))
def cA (N:Nat) (s:List aa):Nat→Int→Option (Int)
 | 0,_=>none
 | fuel+1,x =>
  (cond (decide (x < ((s.length:Nat):Int)))
  ((if 0≤x∧x < ((s.length:Nat):Int) then
  ((kU N (⟨((s.getD ((x).toNat) aa.d).fN),((s.getD ((x).toNat) aa.d).fD)⟩:aa)).bind fun FQ =>
  (cond FQ
  (some x)
  (cA N s fuel (aq (x+1)))))
  else none))
  (some (-1)))
def jz (N:Nat) (s:List aa):Option (Int) :=
 cA N s N 0
def jb (N:Nat) (i:Int) (j:Int) (C0:List Int):Option ((List Int)×(List Int)) :=
 (if 0≤i∧i≤j∧j≤((C0.length:Nat):Int)∧((C0.length:Nat):Int)≤((C0.length:Nat):Int) then
 (cond (i == j)
 (some (C0,C0))
 ((if 0≤(i).toNat∧(i).toNat≤C0.length then
 (if 0≤i then
 (if (j).toNat≤C0.length∧C0.length≤C0.length then
 (if 0≤j then
 (if (i).toNat≤(j).toNat∧(j).toNat≤C0.length then
 (if 0 < C0.length then
 (if (((i).toNat - 0)+(C0.length - (j).toNat))≤C0.length∧0+C0.length≤(kJ C0 ((i).toNat) ((j).toNat)).length then
 (if 0 < (C0.length - (((i).toNat - 0)+(C0.length - (j).toNat)))∧(((i).toNat - 0)+(C0.length - (j).toNat))+(C0.length - (((i).toNat - 0)+(C0.length - (j).toNat)))≤(kJ C0 ((i).toNat) ((j).toNat)).length then
 some (((kJ C0 ((i).toNat) ((j).toNat)).take (((i).toNat - 0)+(C0.length - (j).toNat))),((kJ C0 ((i).toNat) ((j).toNat)).take (((i).toNat - 0)+(C0.length - (j).toNat))))
 else none)
 else none)
 else none)
 else none)
 else none)
 else none)
 else none)
 else none)))
 else none)
def lB (N:Nat) (i:Int) (j:Int) (C0:List aa):Option ((List aa)×(List aa)) :=
 (if 0≤i∧i≤j∧j≤((C0.length:Nat):Int)∧((C0.length:Nat):Int)≤((C0.length:Nat):Int) then
 (cond (i == j)
 (some (C0,C0))
 ((if 0≤(i).toNat∧(i).toNat≤C0.length then
 (if 0≤i then
 (if (j).toNat≤C0.length∧C0.length≤C0.length then
 (if 0≤j then
 (if (i).toNat≤(j).toNat∧(j).toNat≤C0.length then
 (if 0 < C0.length then
 (if (((i).toNat - 0)+(C0.length - (j).toNat))≤C0.length∧0+C0.length≤(kJ C0 ((i).toNat) ((j).toNat)).length then
 (if 0 < (C0.length - (((i).toNat - 0)+(C0.length - (j).toNat)))∧(((i).toNat - 0)+(C0.length - (j).toNat))+(C0.length - (((i).toNat - 0)+(C0.length - (j).toNat)))≤(kJ C0 ((i).toNat) ((j).toNat)).length then
 some (((kJ C0 ((i).toNat) ((j).toNat)).take (((i).toNat - 0)+(C0.length - (j).toNat))),((kJ C0 ((i).toNat) ((j).toNat)).take (((i).toNat - 0)+(C0.length - (j).toNat))))
 else none)
 else none)
 else none)
 else none)
 else none)
 else none)
 else none)
 else none)))
 else none)
def g8 (N:Nat) (C0:Int) (bc:Int) (bZ:Bool) (cM:List Int) (cP:Bool) (cQ:List Int) (cg:Int) (C1:List Int) (C2:List Int) (C3:List (List aa)) (C4:List aa) (C5:List aa) (x:Int) (jc:Int→Int→Option (Bool×jj×(List Int)×(List Int)×(List (List aa))×(List aa))) (RF:Int):Option (Bool×jj×(List Int)×(List Int)×(List (List aa))×(List aa)) :=
 jc RF (aq (x+1))
def dU (N:Nat) (uQ:Int) (uR:Int) (r8:List Int) (sa:List aa) (vG:Bool) (vH:List Int) (vI:Bool) (vJ:List Int) (ud:Int) (cE:(List Int)×(List Int)) (kV:List (List aa)):Nat→(List aa)→Int→Option (Bool×jj×(List Int)×(List Int)×(List (List aa))×(List aa))
 | 0,_,_=>none
 | fuel+1,BF,x3 =>
  (cond (decide (x3 < (((List.replicate cE.2.length aa.d:List aa).length:Nat):Int)))
  (((du N 0).bind fun eZ =>
  (if 0≤x3∧x3 < ((BF.length:Nat):Int) then
  dU N uQ uR r8 sa vG vH vI vJ ud cE kV fuel (BF.set ((x3).toNat) eZ) (aq (x3+1))
  else none)))
  (((du N 0).bind fun b9 =>
  some (true,(⟨uQ,uR,r8,cE.2,kV,sa,BF,b9,ud⟩:jj),r8,cE.2,kV,sa))))
def dV (N:Nat) (uQ:Int) (uR:Int) (r8:List Int) (AL:List (List aa)) (sa:List aa) (BG:List aa) (vG:Bool) (vH:List Int) (vI:Bool) (vJ:List Int) (ud:Int) (bB:Int) (cE:(List Int)×(List Int)):Nat→(List (List aa))→Int→Option (Bool×jj×(List Int)×(List Int)×(List (List aa))×(List aa))
 | 0,_,_=>none
 | fuel+1,kV,x2 =>
  (cond (decide (x2 < ((AL.length:Nat):Int)))
  ((if (x2).toNat < kV.length then
  (if 0≤x2∧x2 < ((kV.length:Nat):Int) then
  ((lB N bB (aq (bB+1)) (kV.getD ((x2).toNat) [])).bind fun p7 =>
  dV N uQ uR r8 AL sa BG vG vH vI vJ ud bB cE fuel (kV.set ((x2).toNat) p7.2) (aq (x2+1)))
  else none)
  else none))
  ((if 0≤((cE.2.length:Nat):Int)∧(64:Int) * ((cE.2.length:Nat):Int)≤281474976710656∧((cE.2.length:Nat):Int)≤9223372036854775807 then
  dU N uQ uR r8 sa vG vH vI vJ ud cE kV N (List.replicate cE.2.length aa.d:List aa) 0
  else none)))
def g9 (N:Nat) (uQ:Int) (uR:Int) (r8:List Int) (KV:List Int) (AL:List (List aa)) (sa:List aa) (BG:List aa) (vG:Bool) (vH:List Int) (vI:Bool) (vJ:List Int) (ud:Int):Option (Bool×jj×(List Int)×(List Int)×(List (List aa))×(List aa)) :=
 ((bX N KV ud).bind fun bB =>
 ((jb N bB (aq (bB+1)) KV).bind fun cE =>
 dV N uQ uR r8 AL sa BG vG vH vI vJ ud bB cE N AL 0))
def fE (N:Nat) (cd:Int) (mV:Int) (jl:List Int) (mE:List Int) (fh:List (List aa)) (ia:List aa) (mW:List aa) (pR:Bool) (pS:List Int) (sK:Bool) (oe:List Int) (yj:Int):Option (Bool×jj×(List Int)×(List Int)×(List (List aa))×(List aa)) :=
 ((bX N jl yj).bind fun aP =>
 (cond (decide (aP≥0))
 ((if (aP).toNat < fh.length then
 (if 0≤aP∧aP < ((fh.length:Nat):Int) then
 ((jz N (fh.getD ((aP).toNat) [])).bind fun Xv =>
 ((ja N aP Xv cd mV pR pS sK oe yj jl mE fh ia mW).bind fun dG =>
 (if dG.2.1.length=jl.length then
 (if dG.2.2.1.length=mE.length then
 (if dG.2.2.2.1.length=fh.length then
 (if dG.2.2.2.2.1.length=ia.length then
 (if dG.2.2.2.2.2.length=mW.length then
 g9 N dG.1.rf dG.1.rh dG.2.1 dG.2.2.1 dG.2.2.2.1 dG.2.2.2.2.1 dG.2.2.2.2.2 dG.1.af.fN.fG dG.1.af.fN.fL dG.1.af.fD.fG dG.1.af.fD.fL dG.1.bC
 else none)
 else none)
 else none)
 else none)
 else none)))
 else none)
 else none))
 (g9 N cd mV jl mE fh ia mW pR pS sK oe yj)))
def bH (N:Nat) (C0:Int) (bc:Int) (bZ:Bool) (cM:List Int) (cP:Bool) (cQ:List Int) (cg:Int) (C1:List Int) (C2:List Int) (C3:List (List aa)) (C4:List aa) (C5:List aa):Nat→Int→Int→Option (Bool×jj×(List Int)×(List Int)×(List (List aa))×(List aa))
 | 0,_,_=>none
 | fuel+1,low,x =>
  (cond (decide (x < ((C4.length:Nat):Int)))
  ((if 0≤x∧x < ((C4.length:Nat):Int) then
  ((jW N (⟨((C4.getD ((x).toNat) aa.d).fN),((C4.getD ((x).toNat) aa.d).fD)⟩:aa)).bind fun au =>
  (if (((decide (au < 0)) && ((decide (au < 0)) && (!(decide (low < 0)))))=true→0≤x∧x < ((C4.length:Nat):Int)) then
  (if (((decide (au < 0)) && ((decide (au < 0)) && (!(decide (low < 0)))))=true→0≤low∧low < ((C4.length:Nat):Int)) then
  ((cond ((decide (au < 0)) && ((decide (au < 0)) && (!(decide (low < 0))))) (pe N (⟨((C4.getD ((x).toNat) aa.d).fN),((C4.getD ((x).toNat) aa.d).fD)⟩:aa) (⟨((C4.getD ((low).toNat) aa.d).fN),((C4.getD ((low).toNat) aa.d).fD)⟩:aa)) (some 0)).bind fun l3 =>
  (cond (cond (decide (au < 0)) (cond (decide (low < 0)) true (decide (l3 < 0))) false)
  (g8 N C0 bc bZ cM cP cQ cg C1 C2 C3 C4 C5 x (bH N C0 bc bZ cM cP cQ cg C1 C2 C3 C4 C5 fuel) x)
  (g8 N C0 bc bZ cM cP cQ cg C1 C2 C3 C4 C5 x (bH N C0 bc bZ cM cP cQ cg C1 C2 C3 C4 C5 fuel) low)))
  else none)
  else none))
  else none))
  ((cond (decide (low≥0))
  (((du N (-1)).bind fun aw =>
  (if 0≤(aq (((C2.length:Nat):Int) - 1))∧(aq (((C2.length:Nat):Int) - 1)) < ((C5.length:Nat):Int) then
  ((ja N low (aq (((C2.length:Nat):Int) - 1)) C0 bc bZ cM cP cQ cg C1 C2 C3 C4 (C5.set ((aq (((C2.length:Nat):Int) - 1)).toNat) aw)).bind fun bF =>
  (if bF.2.1.length=C1.length then
  (if bF.2.2.1.length=C2.length then
  (if bF.2.2.2.1.length=C3.length then
  (if bF.2.2.2.2.1.length=C4.length then
  (if bF.2.2.2.2.2.length=(C5.set ((aq (((C2.length:Nat):Int) - 1)).toNat) aw).length then
  ((mM N bF.1.rf bF.1.rh bF.1.af.fN.fG bF.1.af.fN.fL bF.1.af.fD.fG bF.1.af.fD.fL bF.1.bC bF.2.1 bF.2.2.1 bF.2.2.2.1 bF.2.2.2.2.1 bF.2.2.2.2.2).bind fun aF =>
  (if aF.2.2.1.length=bF.2.1.length then
  (if aF.2.2.2.1.length=bF.2.2.1.length then
  (if aF.2.2.2.2.1.length=bF.2.2.2.1.length then
  (if aF.2.2.2.2.2.1.length=bF.2.2.2.2.1.length then
  (if aF.2.2.2.2.2.2.length=bF.2.2.2.2.2.length then
  ((gI N aF.2.1.af).bind fun fS =>
  (cond (!fS)
  (some (false,(⟨aF.2.1.rf,aF.2.1.rh,aF.2.2.1,aF.2.2.2.1,aF.2.2.2.2.1,aF.2.2.2.2.2.1,aF.2.2.2.2.2.2,aF.2.1.af,aF.2.1.bC⟩:jj),aF.2.2.1,aF.2.2.2.1,aF.2.2.2.2.1,aF.2.2.2.2.2.1))
  (fE N aF.2.1.rf aF.2.1.rh aF.2.2.1 aF.2.2.2.1 aF.2.2.2.2.1 aF.2.2.2.2.2.1 aF.2.2.2.2.2.2 aF.2.1.af.fN.fG aF.2.1.af.fN.fL aF.2.1.af.fD.fG aF.2.1.af.fD.fL aF.2.1.bC)))
  else none)
  else none)
  else none)
  else none)
  else none))
  else none)
  else none)
  else none)
  else none)
  else none))
  else none)))
  (fE N C0 bc C1 C2 C3 C4 C5 bZ cM cP cQ cg))))
def jY (N:Nat) (C0:Int) (bc:Int) (bZ:Bool) (cM:List Int) (cP:Bool) (cQ:List Int) (cg:Int) (C1:List Int) (C2:List Int) (C3:List (List aa)) (C4:List aa) (C5:List aa):Option (Bool×jj×(List Int)×(List Int)×(List (List aa))×(List aa)) :=
 bH N C0 bc bZ cM cP cQ cg C1 C2 C3 C4 C5 N (-1) 0
def fa (N:Nat) (C0:Int) (bc:Int) (bZ:Bool) (cM:List Int) (cP:Bool) (cQ:List Int) (cg:Int) (C1:List Int) (C2:List Int) (C3:List (List aa)) (C4:List aa) (C5:List aa) (x:Int) (fT:(List aa)→Int→Option ((List aa))) (fX:List aa):Option ((List aa)) :=
 fT fX (aq (x+1))
def bU (N:Nat) (C0:Int) (bc:Int) (bZ:Bool) (cM:List Int) (cP:Bool) (cQ:List Int) (cg:Int) (C1:List Int) (C2:List Int) (C3:List (List aa)) (C4:List aa) (C5:List aa):Nat→(List aa)→Int→Option ((List aa))
 | 0,_,_=>none
 | fuel+1,out,x =>
  (cond (decide (x < (((List.replicate ((bc).toNat) aa.d:List aa).length:Nat):Int)))
  (((du N 0).bind fun aw =>
  (if 0≤x∧x < ((out.length:Nat):Int) then
  ((bX N C2 (aq ((aq (2 * C0))+x))).bind fun aP =>
  (cond (decide (aP≥0))
  ((if 0≤aP∧aP < ((C5.length:Nat):Int) then
  ((en N (⟨((C5.getD ((aP).toNat) aa.d).fN),((C5.getD ((aP).toNat) aa.d).fD)⟩:aa)).bind fun aV =>
  (if 0≤x∧x < (((out.set ((x).toNat) aw).length:Nat):Int) then
  fa N C0 bc bZ cM cP cQ cg C1 C2 C3 C4 C5 x (bU N C0 bc bZ cM cP cQ cg C1 C2 C3 C4 C5 fuel) ((out.set ((x).toNat) aw).set ((x).toNat) aV)
  else none))
  else none))
  (fa N C0 bc bZ cM cP cQ cg C1 C2 C3 C4 C5 x (bU N C0 bc bZ cM cP cQ cg C1 C2 C3 C4 C5 fuel) (out.set ((x).toNat) aw))))
  else none)))
  (some out))
def dY (N:Nat) (C0:Int) (bc:Int) (bZ:Bool) (cM:List Int) (cP:Bool) (cQ:List Int) (cg:Int) (C1:List Int) (C2:List Int) (C3:List (List aa)) (C4:List aa) (C5:List aa):Option ((List aa)) :=
 (if 0≤bc∧(64:Int) * bc≤281474976710656∧bc≤9223372036854775807 then
 bU N C0 bc bZ cM cP cQ cg C1 C2 C3 C4 C5 N (List.replicate ((bc).toNat) aa.d:List aa) 0
 else none)
def ni (N:Nat) (mm:Int) (C0:Int) (bc:Int) (bZ:Bool) (cM:List Int) (cP:Bool) (cQ:List Int) (cg:Int) (C1:List Int) (C2:List Int) (C3:List (List aa)) (C4:List aa) (C5:List aa):Option (aa) :=
 ((bX N C1 mm).bind fun aP =>
 (cond (decide (aP≥0))
 ((if 0≤aP∧aP < ((C4.length:Nat):Int) then
 some (⟨((C4.getD ((aP).toNat) aa.d).fN),((C4.getD ((aP).toNat) aa.d).fD)⟩:aa)
 else none))
 (((du N 0).bind fun aw =>
 some aw))))
def ec (N:Nat) (C0:Int) (bc:Int) (bZ:Bool) (cM:List Int) (cP:Bool) (cQ:List Int) (cg:Int) (C1:List Int) (C2:List Int) (C3:List (List aa)) (C4:List aa) (C5:List aa):Nat→(List aa)→Int→Option ((List aa))
 | 0,_,_=>none
 | fuel+1,out,x =>
  (cond (decide (x < (((List.replicate ((C0).toNat) aa.d:List aa).length:Nat):Int)))
  (((ni N x C0 bc bZ cM cP cQ cg C1 C2 C3 C4 C5).bind fun rat =>
  ((ni N (aq (C0+x)) C0 bc bZ cM cP cQ cg C1 C2 C3 C4 C5).bind fun Xw =>
  ((lj N rat Xw).bind fun dc =>
  (if 0≤x∧x < ((out.length:Nat):Int) then
  ec N C0 bc bZ cM cP cQ cg C1 C2 C3 C4 C5 fuel (out.set ((x).toNat) dc) (aq (x+1))
  else none)))))
  (some out))
def jd (N:Nat) (C0:Int) (bc:Int) (bZ:Bool) (cM:List Int) (cP:Bool) (cQ:List Int) (cg:Int) (C1:List Int) (C2:List Int) (C3:List (List aa)) (C4:List aa) (C5:List aa):Option ((List aa)) :=
 (if 0≤C0∧(64:Int) * C0≤281474976710656∧C0≤9223372036854775807 then
 ec N C0 bc bZ cM cP cQ cg C1 C2 C3 C4 C5 N (List.replicate ((C0).toNat) aa.d:List aa) 0
 else none)
def kW (N:Nat) (n:Int) (l:List aH):Option ((List aa)×(List aa)×Int) :=
 ((lg N n l).bind fun bP =>
 (cond (bP != 0)
 (some (([]:List aa),([]:List aa),bP))
 (((ta N n l).bind fun bQ =>
 ((jY N bQ.rf bQ.rh bQ.af.fN.fG bQ.af.fN.fL bQ.af.fD.fG bQ.af.fD.fL bQ.bC bQ.gY bQ.lF bQ.Hd bQ.He bQ.dJ).bind fun ay =>
 (if ay.2.2.1.length=bQ.gY.length then
 (if ay.2.2.2.2.1.length=bQ.Hd.length then
 (if ay.2.2.2.2.2.length=bQ.He.length then
 (cond (!ay.1)
 (((dY N ay.2.1.rf ay.2.1.rh ay.2.1.af.fN.fG ay.2.1.af.fN.fL ay.2.1.af.fD.fG ay.2.1.af.fD.fL ay.2.1.bC ay.2.2.1 ay.2.2.2.1 ay.2.2.2.2.1 ay.2.2.2.2.2 ay.2.1.dJ).bind fun cJ =>
 some (([]:List aa),cJ,29)))
 (((jd N ay.2.1.rf ay.2.1.rh ay.2.1.af.fN.fG ay.2.1.af.fN.fL ay.2.1.af.fD.fG ay.2.1.af.fD.fL ay.2.1.bC ay.2.2.1 ay.2.2.2.1 ay.2.2.2.2.1 ay.2.2.2.2.2 ay.2.1.dJ).bind fun jZ =>
 some (jZ,([]:List aa),0))))
 else none)
 else none)
 else none))))))
def fb (N:Nat) (n:Int) (l:List aH):Nat→Int→Option (Int)
 | 0,_=>none
 | fuel+1,i =>
  (cond (decide (i < ((l.length:Nat):Int)))
  ((if 0≤i∧i < ((l.length:Nat):Int) then
  (cond (decide (((((l.getD ((i).toNat) aH.d).bu).length:Nat):Int) > n))
  (some 11)
  (fb N n l fuel (aq (i+1))))
  else none))
  (some 0))
def kD (N:Nat) (n:Int) (l:List aH):Option (Int) :=
 (cond (cond (decide (n < 0)) true (decide (n > 12)))
 (some 2)
 ((cond (decide (((l.length:Nat):Int) > 40))
 (some 8)
 (fb N n l N 0))))
def bO (N:Nat) (p:cT) (i:Int) (fq:Int→Option (Bool)):Nat→Int→Option (Bool)
 | 0,_=>none
 | fuel+1,j =>
  (if 0≤i∧i < ((p.jM.length:Nat):Int) then
  (cond (decide (j < ((((p.jM.getD ((i).toNat) aH.d).bu).length:Nat):Int)))
  ((if 0≤j∧j < ((((p.jM.getD ((i).toNat) aH.d).bu).length:Nat):Int) then
  (if ((!(decide ((((((((p.jM.getD ((i).toNat) aH.d).bu).getD ((j).toNat) aa.d).fN).fL).length:Nat):Int) > 2)))=true→0≤i∧i < ((p.jM.length:Nat):Int)) then
  (if ((!(decide ((((((((p.jM.getD ((i).toNat) aH.d).bu).getD ((j).toNat) aa.d).fN).fL).length:Nat):Int) > 2)))=true→0≤j∧j < ((((p.jM.getD ((i).toNat) aH.d).bu).length:Nat):Int)) then
  (cond (cond (decide ((((((((p.jM.getD ((i).toNat) aH.d).bu).getD ((j).toNat) aa.d).fN).fL).length:Nat):Int) > 2)) true (decide ((((((((p.jM.getD ((i).toNat) aH.d).bu).getD ((j).toNat) aa.d).fD).fL).length:Nat):Int) > 2)))
  (some false)
  (bO N p i fq fuel (aq (j+1))))
  else none)
  else none)
  else none))
  (fq (aq (i+1))))
  else none)
def bw (N:Nat) (p:cT):Nat→Int→Option (Bool)
 | 0,_=>none
 | fuel+1,i =>
  (cond (decide (i < ((p.jM.length:Nat):Int)))
  ((if 0≤i∧i < ((p.jM.length:Nat):Int) then
  (if ((!(decide (((((((p.jM.getD ((i).toNat) aH.d).b6).fN).fL).length:Nat):Int) > 2)))=true→0≤i∧i < ((p.jM.length:Nat):Int)) then
  (if ((!(cond (decide (((((((p.jM.getD ((i).toNat) aH.d).b6).fN).fL).length:Nat):Int) > 2)) true (decide (((((((p.jM.getD ((i).toNat) aH.d).b6).fD).fL).length:Nat):Int) > 2))))=true→0≤i∧i < ((p.jM.length:Nat):Int)) then
  (cond (cond (cond (decide (((((((p.jM.getD ((i).toNat) aH.d).b6).fN).fL).length:Nat):Int) > 2)) true (decide (((((((p.jM.getD ((i).toNat) aH.d).b6).fD).fL).length:Nat):Int) > 2))) true (decide (((((p.jM.getD ((i).toNat) aH.d).bu).length:Nat):Int) > 20)))
  (some false)
  (bO N p i (bw N p fuel) N 0))
  else none)
  else none)
  else none))
  (((kD N p.J8 p.jM).bind fun bP =>
  some (cond (bP != 0) true (cond (decide (p.J8≤4)) (decide (((p.jM.length:Nat):Int)≤7)) false)))))
def iI (N:Nat) (p:cT):Option (Bool) :=
 (cond (decide (((p.jM.length:Nat):Int) > 60))
 (some false)
 (bw N p N 0))
def qE (N:Nat) (x:aa):Option (Bool) :=
 some (cond (decide (((x.fN.fL.length:Nat):Int) > 12)) true (decide (((x.fD.fL.length:Nat):Int) > 12)))
def dA (N:Nat) (l:List aa):Nat→Int→Option (Bool)
 | 0,_=>none
 | fuel+1,i =>
  (cond (decide (i < ((l.length:Nat):Int)))
  ((if 0≤i∧i < ((l.length:Nat):Int) then
  ((qE N (⟨((l.getD ((i).toNat) aa.d).fN),((l.getD ((i).toNat) aa.d).fD)⟩:aa)).bind fun RG =>
  (cond RG
  (some true)
  (dA N l fuel (aq (i+1)))))
  else none))
  (some false))
def oy (N:Nat) (l:List aa) (most:Int):Option (Bool) :=
 (cond (decide (((l.length:Nat):Int) > most))
 (some true)
 (dA N l N 0))
def l4 (N:Nat):Nat→Int→(List Int)→Option ((List Int))
 | 0,_,_=>none
 | fuel+1,n2,out =>
  (cond (decide (n2 > 0))
  ((if (out.length+1) * 2≤140737488355328 then
  l4 N fuel (ow .u64 n2 16) (out ++ ([(IntKind.u16.wrap ((vA .u64 n2 65535)))]:List Int))
  else none))
  (some out))
def tf (N:Nat) (n:Int):Option ((List Int)) :=
 l4 N N n ([]:List Int)
def xt (N:Nat) (n:Int):Option (bM) :=
 (cond (decide (n < 0))
 (((tf N (IntKind.u64.wrap ((IntKind.u64.wrap ((aq (0 - (aq (n+1))))))+1))).bind fun MR =>
 some (⟨true,MR⟩:bM)))
 (((tf N (IntKind.u64.wrap (n))).bind fun Jn =>
 some (⟨false,Jn⟩:bM))))
def oz (N:Nat) (a:bM) (b:bM) (n:List Int) (rest:List Int):Option (bM×bM×Int) :=
 ((gH N (!(a.fG == b.fG)) n).bind fun Jm =>
 ((gH N false rest).bind fun AJ =>
 some (Jm,AJ,0)))
def wT (N:Nat) (a:bM) (b:bM):Option (bM×bM×Int) :=
 ((fH N a.fL).bind fun b8 =>
 ((fH N b.fL).bind fun gq =>
 (cond (((gq.length:Nat):Int) == 0)
 (some ((⟨false,([]:List Int)⟩:bM),(⟨false,([]:List Int)⟩:bM),9))
 (((nb N b8 gq).bind fun jt =>
 (cond (cond a.fG (decide (((jt.2.length:Nat):Int) > 0)) false)
 (((tA N jt.1 ([1]:List Int)).bind fun xr =>
 ((pF N gq jt.2).bind fun pa =>
 oz N a b xr pa)))
 (oz N a b jt.1 jt.2)))))))
def zC (N:Nat) (a:Int) (b:Int):Option (aa×Int) :=
 (cond (b == 0)
 (some ((⟨(⟨false,([]:List Int)⟩:bM),(⟨false,([]:List Int)⟩:bM)⟩:aa),9))
 (((AI N a).bind fun J9 =>
 ((AI N b).bind fun MT =>
 ((iu N J9 MT).bind fun Cg =>
 some (Cg,0))))))
def Ir (N:Nat) (n:Int):Option (aa) :=
 ((xt N n).bind fun rZ =>
 ((xt N 1).bind fun RH =>
 some (⟨rZ,RH⟩:aa)))
def pG (N:Nat) (l:List Int):Nat→(List aa)→Int→Option ((List aa))
 | 0,_,_=>none
 | fuel+1,out,i =>
  (cond (decide (i < ((l.length:Nat):Int)))
  ((if 0≤i∧i < ((l.length:Nat):Int) then
  ((Ir N (l.getD ((i).toNat) 0)).bind fun rW =>
  (if (out.length+1) * 64≤140737488355328 then
  pG N l fuel (out ++ ([rW]:List aa)) (aq (i+1))
  else none))
  else none))
  (some out))
def FR (N:Nat) (l:List Int):Option ((List aa)) :=
 pG N l N ([]:List aa) 0
def fz (N:Nat) (c:fk):Nat→Int→Option (Int)
 | 0,_=>none
 | fuel+1,x =>
  (cond (decide (x < ((c.ax.length:Nat):Int)))
  ((if 0≤x∧x < ((c.ax.length:Nat):Int) then
  (if ((!(cond (decide ((c.ax.getD ((x).toNat) 0) < (-10000000))) true (decide ((c.ax.getD ((x).toNat) 0) > 10000000))))=true→0≤x∧x < ((c.ba.length:Nat):Int)) then
  ((cond (!(cond (decide ((c.ax.getD ((x).toNat) 0) < (-10000000))) true (decide ((c.ax.getD ((x).toNat) 0) > 10000000)))) (jW N (⟨((c.ba.getD ((x).toNat) aa.d).fN),((c.ba.getD ((x).toNat) aa.d).fD)⟩:aa)) (some 0)).bind fun au =>
  (cond (cond (cond (decide ((c.ax.getD ((x).toNat) 0) < (-10000000))) true (decide ((c.ax.getD ((x).toNat) 0) > 10000000))) true (decide (au < 0)))
  (some 2)
  ((if ((decide (x > 0))=true→0≤(aq (x - 1))∧(aq (x - 1)) < ((c.ax.length:Nat):Int)) then
  (cond (cond (decide (x > 0)) (decide ((c.ax.getD ((x).toNat) 0)≤(c.ax.getD ((aq (x - 1)).toNat) 0))) false)
  (some 10)
  (fz N c fuel (aq (x+1))))
  else none))))
  else none)
  else none))
  (some 0))
def nj (N:Nat) (c:fk):Option (Int) :=
 (cond (decide (((c.ax.length:Nat):Int) > 40))
 (some 8)
 ((cond (((c.ba.length:Nat):Int) != ((c.ax.length:Nat):Int))
 (some 11)
 (fz N c N 0))))
def CT (N:Nat) (c:fk) (y:aa):Option (fk×aa) :=
 some (c,y)
def gL (N:Nat) (RD:aa→aa→aa→Option aa) (C1:fk) (C2:aa):Nat→aa→aa→Int→Option (aa)
 | 0,_,_,_=>none
 | fuel+1,bc,before,x =>
  (cond (decide (x < ((C1.ax.length:Nat):Int)))
  ((if 0≤x∧x < ((C1.ax.length:Nat):Int) then
  ((du N (C1.ax.getD ((x).toNat) 0)).bind fun eZ =>
  ((lj N C2 eZ).bind fun dc =>
  ((jW N dc).bind fun au =>
  (if ((!(decide (au < 0)))=true→0≤x∧x < ((C1.ba.length:Nat):Int)) then
  ((cond (!(decide (au < 0))) (lj N (⟨((C1.ba.getD ((x).toNat) aa.d).fN),((C1.ba.getD ((x).toNat) aa.d).fD)⟩:aa) before) (some aa.d)).bind fun oA =>
  (cond (!(decide (au < 0)))
  (((RD oA dc bc).bind fun ry =>
  (cond (cond (decide (au < 0)) true (!true))
  (some ry)
  ((if 0≤x∧x < ((C1.ba.length:Nat):Int) then
  gL N RD C1 C2 fuel ry (⟨((C1.ba.getD ((x).toNat) aa.d).fN),((C1.ba.getD ((x).toNat) aa.d).fD)⟩:aa) (aq (x+1))
  else none)))))
  ((cond (cond (decide (au < 0)) true false)
  (some bc)
  ((if 0≤x∧x < ((C1.ba.length:Nat):Int) then
  gL N RD C1 C2 fuel bc (⟨((C1.ba.getD ((x).toNat) aa.d).fN),((C1.ba.getD ((x).toNat) aa.d).fD)⟩:aa) (aq (x+1))
  else none))))))
  else none))))
  else none))
  (some bc))
def uw (N:Nat) (RD:aa→aa→aa→Option aa) (C0:aa) (C1:fk) (C2:aa):Option (aa) :=
 ((du N 0).bind fun aw =>
 gL N RD C1 C2 N C0 aw 0)
def rj (N:Nat) (change:aa) (Qe:aa) (sum:aa):Option aa :=
 ((e8 N change Qe).bind fun cy =>
 ((er N sum cy).bind fun bz =>
 some bz))
def zD (N:Nat) (c:fk) (y:aa):Option (aa×Int) :=
 ((nj N c).bind fun iJ =>
 (cond (iJ != 0)
 (some ((⟨(⟨false,([]:List Int)⟩:bM),(⟨false,([]:List Int)⟩:bM)⟩:aa),iJ))
 (((du N 0).bind fun aw =>
 ((CT N c y).bind fun lk =>
 ((uw N (rj N) aw lk.1 lk.2).bind fun rr =>
 some (rr,0)))))))
def iK (N:Nat) (a:bM) (b:bM):Nat→Int→Option (Bool)
 | 0,_=>none
 | fuel+1,i =>
  (cond (decide (i < ((a.fL.length:Nat):Int)))
  ((if 0≤i∧i < ((a.fL.length:Nat):Int) then
  (if 0≤i∧i < ((b.fL.length:Nat):Int) then
  (cond ((a.fL.getD ((i).toNat) 0) != (b.fL.getD ((i).toNat) 0))
  (some false)
  (iK N a b fuel (aq (i+1))))
  else none)
  else none))
  (some true))
def kX (N:Nat) (a:bM) (b:bM):Option (Bool) :=
 (cond (cond (!(a.fG == b.fG)) true (((a.fL.length:Nat):Int) != ((b.fL.length:Nat):Int)))
 (some false)
 (iK N a b N 0))
def p8 (N:Nat) (a2:Int) (b2:Int):Nat→Int→Int→Option (aa)
 | 0,_,_=>none
 | fuel+1,x,y =>
  (cond (decide (y > 0))
  ((if (y:Int)≠0 then
  p8 N a2 b2 fuel y (x.tmod y)
  else none))
  ((if (x:Int)≠0 then
  ((xt N (aq (a2.tdiv x))).bind fun rZ =>
  ((xt N (aq (b2.tdiv x))).bind fun RH =>
  some (⟨rZ,RH⟩:aa)))
  else none)))
def yk (N:Nat) (a2:Int) (b2:Int):Option (aa) :=
 (cond (decide (a2 < 0))
 (p8 N a2 b2 N (aq (0 - a2)) b2)
 (p8 N a2 b2 N a2 b2))
def KW (N:Nat) (a:Int) (b:Int):Option (aa) :=
 (cond (decide (b < 0))
 (yk N (aq (0 - a)) (aq (0 - b)))
 (yk N a b))
def iL (N:Nat) (a:aa) (b:aa):Option (Bool) :=
 ((kX N a.fN b.fN).bind fun cW =>
 ((cond cW (kX N a.fD b.fD) (some false)).bind fun dZ =>
 some (cond cW dZ false)))
def kY (N:Nat):Option (Bool) :=
 ((xt N (-7)).bind fun rZ =>
 ((xt N 2).bind fun RH =>
 ((wT N rZ RH).bind fun dH =>
 ((zC N 6 (-4)).bind fun l5 =>
 ((FR N ([2,0]:List Int)).bind fun rWs =>
 ((Ir N 5).bind fun rW =>
 ((zD N (⟨([0,10]:List Int),rWs⟩:fk) rW).bind fun tD =>
 ((cond (dH.2.2 == 0) (xt N (-4)) (some bM.d)).bind fun rZ3 =>
 ((cond (dH.2.2 == 0) (kX N dH.1 rZ3) (some false)).bind fun cW =>
 ((cond (cond (dH.2.2 == 0) cW false) (xt N 1) (some bM.d)).bind fun rZ4 =>
 ((cond (cond (dH.2.2 == 0) cW false) (kX N dH.2.1 rZ4) (some false)).bind fun dZ =>
 ((cond (cond (cond (cond (dH.2.2 == 0) cW false) dZ false) (l5.2 == 0) false) (KW N (-3) 2) (some aa.d)).bind fun rQ =>
 ((cond (cond (cond (cond (dH.2.2 == 0) cW false) dZ false) (l5.2 == 0) false) (iL N l5.1 rQ) (some false)).bind fun fJ =>
 ((cond (cond (cond (cond (cond (cond (dH.2.2 == 0) cW false) dZ false) (l5.2 == 0) false) fJ false) (tD.2 == 0) false) (Ir N 10) (some aa.d)).bind fun rW2 =>
 ((cond (cond (cond (cond (cond (cond (dH.2.2 == 0) cW false) dZ false) (l5.2 == 0) false) fJ false) (tD.2 == 0) false) (iL N tD.1 rW2) (some false)).bind fun mn =>
 some (cond (cond (cond (cond (cond (cond (dH.2.2 == 0) cW false) dZ false) (l5.2 == 0) false) fJ false) (tD.2 == 0) false) mn false))))))))))))))))
def ey (N:Nat) (ab:List aa) (C0:Int) (bc:Int) (cg:Int) (C1:List Int) (C2:List Int) (C3:List (List aa)) (C4:List aa) (x:Int) (ia:List aa) (Ch:Int×aa) (left:List (Int×aa)) (bB:Int) (dg:aa) (iP:(List aa)→Bool→(List Int)→Bool→(List Int)→(List (Int×aa))→Option (jj×(List aa))) (cw:(List aa)→Bool→(List Int)→Bool→(List Int)→Int→Option (jj×(List aa))):Nat→(List aa)→Int→Option (jj×(List aa))
 | 0,_,_=>none
 | fuel+1,oe,x2 =>
  (cond (decide (x2 < ((ia.length:Nat):Int)))
  ((if (bB).toNat < C3.length then
  (if 0≤x2∧x2 < ((oe.length:Nat):Int) then
  (if 0≤bB∧bB < ((C3.length:Nat):Int) then
  (if 0≤x2∧x2 < (((C3.getD ((bB).toNat) []).length:Nat):Int) then
  ((e8 N Ch.2 (⟨(((C3.getD ((bB).toNat) []).getD ((x2).toNat) aa.d).fN),(((C3.getD ((bB).toNat) []).getD ((x2).toNat) aa.d).fD)⟩:aa)).bind fun gK =>
  ((er N (⟨((oe.getD ((x2).toNat) aa.d).fN),((oe.getD ((x2).toNat) aa.d).fD)⟩:aa) gK).bind fun jm =>
  ey N ab C0 bc cg C1 C2 C3 C4 x ia Ch left bB dg iP cw fuel (oe.set ((x2).toNat) jm) (aq (x2+1))))
  else none)
  else none)
  else none)
  else none))
  (iP oe dg.fN.fG dg.fN.fL dg.fD.fG dg.fD.fL left))
noncomputable def b5 (N:Nat) (ab:List aa) (C0:Int) (bc:Int) (cg:Int) (C1:List Int) (C2:List Int) (C3:List (List aa)) (C4:List aa) (x:Int) (cw:(List aa)→Bool→(List Int)→Bool→(List Int)→Int→Option (jj×(List aa))):Nat→(List aa)→Bool→(List Int)→Bool→(List Int)→(List (Int×aa))→Option (jj×(List aa))
 | 0,_,_,_,_,_,_=>none
 | fuel+1,ia,mW,pR,pS,sK,rem =>
  (qD rem
  (cw ia mW pR pS sK (aq (x+1)))
  (fun Ch left =>
  ((bX N C2 Ch.1).bind fun aP =>
  (cond (decide (aP≥0))
  ((if 0≤aP∧aP < ((ia.length:Nat):Int) then
  ((er N (⟨((ia.getD ((aP).toNat) aa.d).fN),((ia.getD ((aP).toNat) aa.d).fD)⟩:aa) Ch.2).bind fun bz =>
  b5 N ab C0 bc cg C1 C2 C3 C4 x cw fuel (ia.set ((aP).toNat) bz) mW pR pS sK left)
  else none))
  (((bX N C1 Ch.1).bind fun bB =>
  (if 0≤bB∧bB < ((C4.length:Nat):Int) then
  ((e8 N Ch.2 (⟨((C4.getD ((bB).toNat) aa.d).fN),((C4.getD ((bB).toNat) aa.d).fD)⟩:aa)).bind fun cy =>
  ((er N (⟨(⟨mW,pR⟩:bM),(⟨pS,sK⟩:bM)⟩:aa) cy).bind fun dg =>
  ey N ab C0 bc cg C1 C2 C3 C4 x ia Ch left bB dg (b5 N ab C0 bc cg C1 C2 C3 C4 x cw fuel) cw N ia 0))
  else none)))))))
noncomputable def eC (N:Nat) (ab:List aa) (C0:Int) (bc:Int) (cg:Int) (C1:List Int) (C2:List Int) (C3:List (List aa)) (C4:List aa):Nat→(List aa)→Bool→(List Int)→Bool→(List Int)→Int→Option (jj×(List aa))
 | 0,_,_,_,_,_,_=>none
 | fuel+1,cd,mV,jl,mE,fh,x =>
  (cond (decide (x < ((ab.length:Nat):Int)))
  ((if 0≤x∧x < ((ab.length:Nat):Int) then
  ((jg N (⟨((ab.getD ((x).toNat) aa.d).fN),((ab.getD ((x).toNat) aa.d).fD)⟩:aa)).bind fun jv =>
  ((en N (⟨((ab.getD ((x).toNat) aa.d).fN),((ab.getD ((x).toNat) aa.d).fD)⟩:aa)).bind fun aV =>
  ((jg N (⟨((ab.getD ((x).toNat) aa.d).fN),((ab.getD ((x).toNat) aa.d).fD)⟩:aa)).bind fun df =>
  ((en N (⟨((ab.getD ((x).toNat) aa.d).fN),((ab.getD ((x).toNat) aa.d).fD)⟩:aa)).bind fun dK =>
  both (b5 N ab C0 bc cg C1 C2 C3 C4 x (eC N ab C0 bc cg C1 C2 C3 C4 fuel) N cd mV jl mE fh (o9 (fun za zb=>za == zb) (o9 (fun za zb=>za == zb) ([]:List (Int×aa)) x jv) (aq (C0+x)) aV))
  (b5 N ab C0 bc cg C1 C2 C3 C4 x (eC N ab C0 bc cg C1 C2 C3 C4 fuel) N cd mV jl mE fh (o9 (fun za zb=>za == zb) (o9 (fun za zb=>za == zb) ([]:List (Int×aa)) (aq (C0+x)) dK) x df))))))
  else none))
  (some ((⟨C0,bc,C1,C2,C3,C4,cd,(⟨(⟨mV,jl⟩:bM),(⟨mE,fh⟩:bM)⟩:aa),cg⟩:jj),cd)))
noncomputable def oU (N:Nat) (ab:List aa) (C0:Int) (bc:Int) (bZ:Bool) (cM:List Int) (cP:Bool) (cQ:List Int) (cg:Int) (C1:List Int) (C2:List Int) (C3:List (List aa)) (C4:List aa) (C5:List aa):Option (jj×(List aa)) :=
 eC N ab C0 bc cg C1 C2 C3 C4 N C5 bZ cM cP cQ 0
def mN (N:Nat) (j:Int) (C0:Int) (bc:Int) (bZ:Bool) (cM:List Int) (cP:Bool) (cQ:List Int) (cg:Int) (C1:List Int) (C2:List Int) (C3:List (List aa)) (C4:List aa) (C5:List aa):Option (Int) :=
 some j
def jn (N:Nat) (mm:Int) (C1:Int) (C12:Int) (C13:Bool) (C14:List Int) (C15:Bool) (C16:List Int) (C17:Int) (C2:List Int) (C3:List Int) (C4:List (List aa)) (C5:List aa) (C6:List aa) (C7:Int):Option (aa) :=
 (if 0≤C7∧C7 < ((C3.length:Nat):Int) then
 (cond ((C3.getD ((C7).toNat) 0) == mm)
 (((du N 1).bind fun aw =>
 some aw))
 (((bX N C2 mm).bind fun aP =>
 (cond (decide (aP≥0))
 ((if (aP).toNat < C4.length then
 (if 0≤aP∧aP < ((C4.length:Nat):Int) then
 (if 0≤C7∧C7 < (((C4.getD ((aP).toNat) []).length:Nat):Int) then
 some (⟨(((C4.getD ((aP).toNat) []).getD ((C7).toNat) aa.d).fN),(((C4.getD ((aP).toNat) []).getD ((C7).toNat) aa.d).fD)⟩:aa)
 else none)
 else none)
 else none))
 (((du N 0).bind fun eZ =>
 some eZ))))))
 else none)
def dm (N:Nat) (C0:Int) (bc:Int) (bZ:Bool) (cM:List Int) (cP:Bool) (cQ:List Int) (cg:Int) (C1:List Int) (C2:List Int) (C3:List (List aa)) (C4:List aa) (C5:List aa) (C7:Int):Nat→(List aa)→Int→Option ((List aa))
 | 0,_,_=>none
 | fuel+1,out,x =>
  (cond (decide (x < (((List.replicate ((C0).toNat) aa.d:List aa).length:Nat):Int)))
  (((jn N x C0 bc bZ cM cP cQ cg C1 C2 C3 C4 C5 C7).bind fun Jo =>
  ((jn N (aq (C0+x)) C0 bc bZ cM cP cQ cg C1 C2 C3 C4 C5 C7).bind fun FT =>
  ((lj N Jo FT).bind fun dc =>
  (if 0≤x∧x < ((out.length:Nat):Int) then
  dm N C0 bc bZ cM cP cQ cg C1 C2 C3 C4 C5 C7 fuel (out.set ((x).toNat) dc) (aq (x+1))
  else none)))))
  (some out))
def iQ (N:Nat) (C0:Int) (bc:Int) (bZ:Bool) (cM:List Int) (cP:Bool) (cQ:List Int) (cg:Int) (C1:List Int) (C2:List Int) (C3:List (List aa)) (C4:List aa) (C5:List aa) (C7:Int):Option ((List aa)) :=
 (if 0≤C0∧(64:Int) * C0≤281474976710656∧C0≤9223372036854775807 then
 dm N C0 bc bZ cM cP cQ cg C1 C2 C3 C4 C5 C7 N (List.replicate ((C0).toNat) aa.d:List aa) 0
 else none)
noncomputable def kZ (N:Nat) (ab:List aa) (l:List aH):Option (n6×Int) :=
 ((lg N ((ab.length:Nat):Int) l).bind fun bP =>
 (cond (bP != 0)
 (some ((⟨(⟨(⟨false,([]:List Int)⟩:bM),(⟨false,([]:List Int)⟩:bM)⟩:aa),([]:List aa),([]:List aa)⟩:n6),bP))
 (((ta N ((ab.length:Nat):Int) l).bind fun bQ =>
 ((jY N bQ.rf bQ.rh bQ.af.fN.fG bQ.af.fN.fL bQ.af.fD.fG bQ.af.fD.fL bQ.bC bQ.gY bQ.lF bQ.Hd bQ.He bQ.dJ).bind fun ay =>
 (if ay.2.2.1.length=bQ.gY.length then
 (if ay.2.2.2.2.1.length=bQ.Hd.length then
 (if ay.2.2.2.2.2.length=bQ.He.length then
 (cond (!ay.1)
 (((dY N ay.2.1.rf ay.2.1.rh ay.2.1.af.fN.fG ay.2.1.af.fN.fL ay.2.1.af.fD.fG ay.2.1.af.fD.fL ay.2.1.bC ay.2.2.1 ay.2.2.2.1 ay.2.2.2.2.1 ay.2.2.2.2.2 ay.2.1.dJ).bind fun cJ =>
 some ((⟨(⟨(⟨false,([]:List Int)⟩:bM),(⟨false,([]:List Int)⟩:bM)⟩:aa),([]:List aa),cJ⟩:n6),29)))
 (((oU N ab ay.2.1.rf ay.2.1.rh ay.2.1.af.fN.fG ay.2.1.af.fN.fL ay.2.1.af.fD.fG ay.2.1.af.fD.fL ay.2.1.bC ay.2.2.1 ay.2.2.2.1 ay.2.2.2.2.1 ay.2.2.2.2.2 ay.2.1.dJ).bind fun vK =>
 (if vK.2.length=ay.2.1.dJ.length then
 ((mM N vK.1.rf vK.1.rh vK.1.af.fN.fG vK.1.af.fN.fL vK.1.af.fD.fG vK.1.af.fD.fL vK.1.bC ay.2.2.1 ay.2.2.2.1 ay.2.2.2.2.1 ay.2.2.2.2.2 vK.2).bind fun aF =>
 (if aF.2.2.1.length=ay.2.2.1.length then
 (if aF.2.2.2.1.length=ay.2.2.2.1.length then
 (if aF.2.2.2.2.1.length=ay.2.2.2.2.1.length then
 (if aF.2.2.2.2.2.1.length=ay.2.2.2.2.2.length then
 (if aF.2.2.2.2.2.2.length=vK.2.length then
 (cond (decide (aF.1≥0))
 (((mN N aF.1 aF.2.1.rf aF.2.1.rh aF.2.1.af.fN.fG aF.2.1.af.fN.fL aF.2.1.af.fD.fG aF.2.1.af.fD.fL aF.2.1.bC aF.2.2.1 aF.2.2.2.1 aF.2.2.2.2.1 aF.2.2.2.2.2.1 aF.2.2.2.2.2.2).bind fun FU =>
 ((iQ N aF.2.1.rf aF.2.1.rh aF.2.1.af.fN.fG aF.2.1.af.fN.fL aF.2.1.af.fD.fG aF.2.1.af.fD.fL aF.2.1.bC aF.2.2.1 aF.2.2.2.1 aF.2.2.2.2.1 aF.2.2.2.2.2.1 aF.2.2.2.2.2.2 FU).bind fun jZ =>
 some ((⟨(⟨(⟨false,([]:List Int)⟩:bM),(⟨false,([]:List Int)⟩:bM)⟩:aa),jZ,([]:List aa)⟩:n6),14))))
 (((jd N aF.2.1.rf aF.2.1.rh aF.2.1.af.fN.fG aF.2.1.af.fN.fL aF.2.1.af.fD.fG aF.2.1.af.fD.fL aF.2.1.bC aF.2.2.1 aF.2.2.2.1 aF.2.2.2.2.1 aF.2.2.2.2.2.1 aF.2.2.2.2.2.2).bind fun oV =>
 ((dY N aF.2.1.rf aF.2.1.rh aF.2.1.af.fN.fG aF.2.1.af.fN.fL aF.2.1.af.fD.fG aF.2.1.af.fD.fL aF.2.1.bC aF.2.2.1 aF.2.2.2.1 aF.2.2.2.2.1 aF.2.2.2.2.2.1 aF.2.2.2.2.2.2).bind fun fg =>
 some ((⟨aF.2.1.af,oV,fg⟩:n6),0)))))
 else none)
 else none)
 else none)
 else none)
 else none))
 else none))))
 else none)
 else none)
 else none))))))
def jG (N:Nat) (neg:Bool) (a:List Int):Nat→(List Int)→Int→Option (bM)
 | 0,_,_=>none
 | fuel+1,x,i =>
  (cond (decide (i < ((a.length:Nat):Int)))
  ((if 0≤i∧i < ((a.length:Nat):Int) then
  (if (x.length+1) * 2≤140737488355328 then
  jG N neg a fuel (x ++ ([(IntKind.u16.wrap ((a.getD ((i).toNat) 0)))]:List Int)) (aq (i+1))
  else none)
  else none))
  (some (⟨(cond neg (decide (((a.length:Nat):Int) > 0)) false),x⟩:bM)))
def fy (N:Nat) (neg:Bool) (a:List Int):Option (bM) :=
 jG N neg a N ([]:List Int) 0
def k5 (N:Nat) (n:Int):Nat→(List Int)→Int→Option (bM)
 | 0,_,_=>none
 | fuel+1,a,u =>
  (cond (decide (u > 0))
  ((if (a.length+1) * 8≤140737488355328 then
  k5 N n fuel (a ++ ([(aq ((u.tmod 65536)))]:List Int)) (IntKind.u64.wrap (u.tdiv 65536))
  else none))
  (((fy N (decide (n < 0)) a).bind fun p9 =>
  some p9)))
def rk (N:Nat) (n:Int):Option (bM) :=
 (cond (decide (n < 0))
 (k5 N n N ([]:List Int) (IntKind.u64.wrap (0 - (IntKind.u64.wrap (n)))))
 (k5 N n N ([]:List Int) (IntKind.u64.wrap (n))))
def ux (N:Nat) (n:Int):Option (aa) :=
 ((rk N n).bind fun J9 =>
 ((rk N 1).bind fun MT =>
 some (⟨J9,MT⟩:aa)))
def jH (N:Nat) (a:List Int):Nat→Int→Option ((List Int))
 | 0,_=>none
 | fuel+1,n =>
  (if ((decide (n > 0))=true→0≤(aq (n - 1))∧(aq (n - 1)) < ((a.length:Nat):Int)) then
  (cond (cond (decide (n > 0)) ((a.getD ((aq (n - 1)).toNat) 0) == 0) false)
  (jH N a fuel (aq (n - 1)))
  ((if 0≤(n).toNat∧(n).toNat≤a.length then
  (if 0≤n then
  (if (0+((n).toNat - 0)) * 8≤140737488355328 then
  some (([]:List Int) ++ ((a.take ((n).toNat)).drop 0))
  else none)
  else none)
  else none)))
  else none)
def l6 (N:Nat) (a:List Int):Option ((List Int)) :=
 jH N a N ((a.length:Nat):Int)
def jI (N:Nat) (l:List Int):Nat→(List Int)→Int→Option ((List Int))
 | 0,_,_=>none
 | fuel+1,a,i =>
  (cond (decide (i < ((l.length:Nat):Int)))
  ((if 0≤i∧i < ((l.length:Nat):Int) then
  (if (a.length+1) * 8≤140737488355328 then
  jI N l fuel (a ++ ([(aq ((l.getD ((i).toNat) 0)))]:List Int)) (aq (i+1))
  else none)
  else none))
  (((l6 N a).bind fun b8 =>
  some b8)))
def ic (N:Nat) (l:List Int):Option ((List Int)) :=
 jI N l N ([]:List Int) 0
def lR (N:Nat) (a:List Int) (i:Int):Option (Int) :=
 (cond (decide (i < ((a.length:Nat):Int)))
 ((if 0≤i∧i < ((a.length:Nat):Int) then
 some (a.getD ((i).toNat) 0)
 else none))
 (some 0))
def iR (N:Nat) (a:List Int) (b:List Int) (i:Int) (lG:(List Int)→Int→Option ((List Int))):Nat→(List Int)→Int→Int→Option ((List Int))
 | 0,_,_,_=>none
 | fuel+1,fX,carry,k =>
  (cond (cond (decide (k < ((b.length:Nat):Int))) true (decide (carry > 0)))
  ((if 0≤(aq (i+k))∧(aq (i+k)) < ((fX.length:Nat):Int) then
  (if 0≤i∧i < ((a.length:Nat):Int) then
  ((lR N b k).bind fun da =>
  iR N a b i lG fuel (fX.set ((aq (i+k)).toNat) ((aq ((aq ((fX.getD ((aq (i+k)).toNat) 0)+(aq ((a.getD ((i).toNat) 0) * da))))+carry)).tmod 65536)) (aq ((aq ((aq ((fX.getD ((aq (i+k)).toNat) 0)+(aq ((a.getD ((i).toNat) 0) * da))))+carry)).tdiv 65536)) (aq (k+1)))
  else none)
  else none))
  (lG fX (aq (i+1))))
def iS (N:Nat) (a:List Int) (b:List Int):Nat→(List Int)→Int→Option ((List Int))
 | 0,_,_=>none
 | fuel+1,out,i =>
  (cond (decide (i < ((a.length:Nat):Int)))
  (iR N a b i (iS N a b fuel) N out 0 0)
  (((l6 N out).bind fun b8 =>
  some b8)))
def k6 (N:Nat) (a:List Int) (b:List Int):Option ((List Int)) :=
 (if 0≤(aq ((aq (((a.length:Nat):Int)+((b.length:Nat):Int)))+1))∧(8:Int) * (aq ((aq (((a.length:Nat):Int)+((b.length:Nat):Int)))+1))≤281474976710656∧(aq ((aq (((a.length:Nat):Int)+((b.length:Nat):Int)))+1))≤9223372036854775807 then
 iS N a b N (List.replicate ((aq ((aq (((a.length:Nat):Int)+((b.length:Nat):Int)))+1)).toNat) 0:List Int) 0
 else none)
def gk (N:Nat) (a:List Int) (b:List Int):Nat→Int→Option (Int)
 | 0,_=>none
 | fuel+1,i =>
  (cond (decide (i≥0))
  ((if 0≤i∧i < ((a.length:Nat):Int) then
  (if 0≤i∧i < ((b.length:Nat):Int) then
  (cond ((a.getD ((i).toNat) 0) != (b.getD ((i).toNat) 0))
  (some (aq ((a.getD ((i).toNat) 0) - (b.getD ((i).toNat) 0))))
  (gk N a b fuel (aq (i - 1))))
  else none)
  else none))
  (some 0))
def mo (N:Nat) (a:List Int) (b:List Int):Option (Int) :=
 (cond (((a.length:Nat):Int) != ((b.length:Nat):Int))
 (some (aq (((a.length:Nat):Int) - ((b.length:Nat):Int))))
 (gk N a b N (aq (((a.length:Nat):Int) - 1))))
def lH (N:Nat) (a:List Int) (b:List Int) (out:List Int) (i:Int) (nT:(List Int)→Int→Int→Option ((List Int))) (kg:Int) (s:Int):Option ((List Int)) :=
 (if (out.length+1) * 8≤140737488355328 then
 nT (out ++ ([s]:List Int)) kg (aq (i+1))
 else none)
def fK (N:Nat) (a:List Int) (b:List Int):Nat→(List Int)→Int→Int→Option ((List Int))
 | 0,_,_,_=>none
 | fuel+1,out,borrow,i =>
  (cond (decide (i < ((a.length:Nat):Int)))
  ((if 0≤i∧i < ((a.length:Nat):Int) then
  ((lR N b i).bind fun da =>
  (cond (decide ((aq ((aq ((a.getD ((i).toNat) 0) - da)) - borrow)) < 0))
  (lH N a b out i (fK N a b fuel) 1 (aq ((aq ((aq ((a.getD ((i).toNat) 0) - da)) - borrow))+65536)))
  (lH N a b out i (fK N a b fuel) 0 (aq ((aq ((a.getD ((i).toNat) 0) - da)) - borrow)))))
  else none))
  (((l6 N out).bind fun b8 =>
  some b8)))
def pH (N:Nat) (a:List Int) (b:List Int):Option ((List Int)) :=
 fK N a b N ([]:List Int) 0 0
def mq (N:Nat) (a:List Int) (b:List Int) (q:List Int) (i:Int) (lo:Int) (dX:(List Int)→(List Int)→Int→Option ((List Int)×(List Int))) (KX:List Int):Option ((List Int)×(List Int)) :=
 dX KX (q.set ((i).toNat) lo) (aq (i - 1))
def iv (N:Nat) (a:List Int) (b:List Int) (q:List Int) (i:Int) (b8:(List Int)) (dX:(List Int)→(List Int)→Int→Option ((List Int)×(List Int))):Nat→Int→Int→Option ((List Int)×(List Int))
 | 0,_,_=>none
 | fuel+1,lo,hi =>
  (cond (decide (lo < hi))
  (((k6 N b ([(aq ((aq ((aq (lo+hi))+1)).tdiv 2))]:List Int)).bind fun rY =>
  ((mo N rY b8).bind fun jV =>
  (cond (decide (jV≤0))
  (iv N a b q i b8 dX fuel (aq ((aq ((aq (lo+hi))+1)).tdiv 2)) hi)
  (iv N a b q i b8 dX fuel lo (aq ((aq ((aq ((aq (lo+hi))+1)).tdiv 2)) - 1)))))))
  ((if 0≤i∧i < ((q.length:Nat):Int) then
  (cond (decide (lo > 0))
  (((k6 N b ([lo]:List Int)).bind fun EN =>
  ((pH N b8 EN).bind fun pa =>
  mq N a b q i lo dX pa)))
  (mq N a b q i lo dX b8))
  else none)))
def iw (N:Nat) (a:List Int) (b:List Int):Nat→(List Int)→(List Int)→Int→Option ((List Int)×(List Int))
 | 0,_,_,_=>none
 | fuel+1,rest,q,i =>
  (cond (decide (i≥0))
  ((if 0≤i∧i < ((a.length:Nat):Int) then
  (if (1+rest.length) * 8≤140737488355328 then
  ((l6 N (([(a.getD ((i).toNat) 0)]:List Int) ++ rest)).bind fun b8 =>
  iv N a b q i b8 (iw N a b fuel) N 0 65535)
  else none)
  else none))
  (((l6 N q).bind fun gq =>
  some (gq,rest))))
def nm (N:Nat) (a:List Int) (b:List Int):Option ((List Int)×(List Int)) :=
 (if 0≤((a.length:Nat):Int)∧(8:Int) * ((a.length:Nat):Int)≤281474976710656∧((a.length:Nat):Int)≤9223372036854775807 then
 iw N a b N ([]:List Int) (List.replicate a.length 0:List Int) (aq (((a.length:Nat):Int) - 1))
 else none)
def l7 (N:Nat):Nat→(List Int)→(List Int)→Option ((List Int))
 | 0,_,_=>none
 | fuel+1,a2,b2 =>
  (cond (decide (((b2.length:Nat):Int) > 0))
  (((nm N a2 b2).bind fun kn =>
  l7 N fuel b2 kn.2))
  (some a2))
def zE (N:Nat) (a:List Int) (b:List Int):Option ((List Int)) :=
 l7 N N a b
def pf (N:Nat) (a:bM) (b:bM):Option (aa) :=
 ((ic N a.fL).bind fun mO =>
 ((ic N b.fL).bind fun og =>
 (cond (((og.length:Nat):Int) == 0)
 (((fy N a.fG mO).bind fun p9 =>
 ((rk N 1).bind fun J9 =>
 some (⟨p9,J9⟩:aa))))
 (((zE N mO og).bind fun UQ =>
 ((nm N mO UQ).bind fun kn =>
 ((nm N og UQ).bind fun kx =>
 ((fy N (!(a.fG == b.fG)) kn.1).bind fun AM =>
 ((fy N false kx.1).bind fun AN =>
 some (⟨AM,AN⟩:aa))))))))))
def fM (N:Nat) (x:aa):Option (aa) :=
 ((pf N x.fN x.fD).bind fun yl =>
 some yl)
def pJ (N:Nat) (a:bM) (b:bM):Option (bM) :=
 ((ic N a.fL).bind fun mO =>
 ((ic N b.fL).bind fun og =>
 ((k6 N mO og).bind fun rY =>
 ((fy N (!(a.fG == b.fG)) rY).bind fun p9 =>
 some p9))))
def l8 (N:Nat) (x:aa) (y:aa):Option (aa) :=
 ((fM N x).bind fun fc =>
 ((fM N y).bind fun mv =>
 ((pJ N fc.fN mv.fN).bind fun wS =>
 ((pJ N fc.fD mv.fD).bind fun pZ =>
 ((pf N wS pZ).bind fun yl =>
 some yl)))))
def jJ (N:Nat) (a:List Int) (b:List Int):Nat→(List Int)→Int→Int→Option ((List Int))
 | 0,_,_,_=>none
 | fuel+1,out,carry,i =>
  (cond (cond (cond (decide (i < ((a.length:Nat):Int))) true (decide (i < ((b.length:Nat):Int)))) true (decide (carry > 0)))
  (((lR N a i).bind fun da =>
  ((lR N b i).bind fun l9 =>
  (if (out.length+1) * 8≤140737488355328 then
  jJ N a b fuel (out ++ ([((aq ((aq (da+l9))+carry)).tmod 65536)]:List Int)) (aq ((aq ((aq (da+l9))+carry)).tdiv 65536)) (aq (i+1))
  else none))))
  (((l6 N out).bind fun b8 =>
  some b8)))
def wU (N:Nat) (a:List Int) (b:List Int):Option ((List Int)) :=
 jJ N a b N ([]:List Int) 0 0
def zF (N:Nat) (a:bM) (b:bM):Option (bM) :=
 ((ic N a.fL).bind fun mO =>
 ((ic N b.fL).bind fun og =>
 (cond (a.fG == b.fG)
 (((wU N mO og).bind fun xr =>
 ((fy N a.fG xr).bind fun p9 =>
 some p9)))
 (((mo N mO og).bind fun jV =>
 (cond (decide (jV≥0))
 (((pH N mO og).bind fun pa =>
 ((fy N a.fG pa).bind fun AM =>
 some AM)))
 (((pH N og mO).bind fun wR =>
 ((fy N b.fG wR).bind fun AN =>
 some AN)))))))))
def ma (N:Nat) (x:aa) (y:aa):Option (aa) :=
 ((fM N x).bind fun fc =>
 ((fM N y).bind fun mv =>
 ((pJ N fc.fN mv.fD).bind fun wS =>
 ((pJ N mv.fN fc.fD).bind fun pZ =>
 ((zF N wS pZ).bind fun MP =>
 ((pJ N fc.fD mv.fD).bind fun FK =>
 ((pf N MP FK).bind fun yl =>
 some yl)))))))
def k7 (N:Nat) (n:Int) (l:List aH) (y:List aa) (out:List aa) (j:Int) (i:Int) (lC:aa→Int→Option ((List aa)×aa)) (cH:(List aa)→Int→Option ((List aa)×aa)) (s2:aa):Option ((List aa)×aa) :=
 lC s2 (aq (i+1))
def eR (N:Nat) (n:Int) (l:List aH) (y:List aa) (out:List aa) (j:Int) (cH:(List aa)→Int→Option ((List aa)×aa)):Nat→aa→Int→Option ((List aa)×aa)
 | 0,_,_=>none
 | fuel+1,s,i =>
  (cond (decide (i < ((l.length:Nat):Int)))
  ((if 0≤i∧i < ((l.length:Nat):Int) then
  (cond (decide (j < ((((l.getD ((i).toNat) aH.d).bu).length:Nat):Int)))
  ((if 0≤i∧i < ((y.length:Nat):Int) then
  (if 0≤j∧j < ((((l.getD ((i).toNat) aH.d).bu).length:Nat):Int) then
  ((l8 N (⟨((y.getD ((i).toNat) aa.d).fN),((y.getD ((i).toNat) aa.d).fD)⟩:aa) (⟨((((l.getD ((i).toNat) aH.d).bu).getD ((j).toNat) aa.d).fN),((((l.getD ((i).toNat) aH.d).bu).getD ((j).toNat) aa.d).fD)⟩:aa)).bind fun cy =>
  ((ma N s cy).bind fun bz =>
  k7 N n l y out j i (eR N n l y out j cH fuel) cH bz))
  else none)
  else none))
  (k7 N n l y out j i (eR N n l y out j cH fuel) cH s))
  else none))
  ((if (out.length+1) * 64≤140737488355328 then
  cH (out ++ ([s]:List aa)) (aq (j+1))
  else none)))
def fA (N:Nat) (l:List aH) (y:List aa) (out:List aa):Nat→aa→Int→Option ((List aa)×aa)
 | 0,_,_=>none
 | fuel+1,bound,i2 =>
  (cond (decide (i2 < ((l.length:Nat):Int)))
  ((if 0≤i2∧i2 < ((y.length:Nat):Int) then
  (if 0≤i2∧i2 < ((l.length:Nat):Int) then
  ((l8 N (⟨((y.getD ((i2).toNat) aa.d).fN),((y.getD ((i2).toNat) aa.d).fD)⟩:aa) (⟨(((l.getD ((i2).toNat) aH.d).b6).fN),(((l.getD ((i2).toNat) aH.d).b6).fD)⟩:aa)).bind fun gK =>
  ((ma N bound gK).bind fun dg =>
  fA N l y out fuel dg (aq (i2+1))))
  else none)
  else none))
  (some (out,bound)))
def eS (N:Nat) (n:Int) (l:List aH) (y:List aa):Nat→(List aa)→Int→Option ((List aa)×aa)
 | 0,_,_=>none
 | fuel+1,out,j =>
  (cond (decide (j < n))
  (((ux N 0).bind fun rQ =>
  eR N n l y out j (eS N n l y fuel) N rQ 0))
  (((ux N 0).bind fun rQ2 =>
  fA N l y out N rQ2 0)))
def np (N:Nat) (n:Int) (l:List aH) (y:List aa):Option ((List aa)×aa) :=
 eS N n l y N ([]:List aa) 0
def zG (N:Nat) (a:bM):Option (bM) :=
 ((ic N a.fL).bind fun mO =>
 ((fy N (!a.fG) mO).bind fun p9 =>
 some p9))
def sL (N:Nat) (x:aa):Option (aa) :=
 ((fM N x).bind fun fc =>
 ((zG N fc.fN).bind fun Xx =>
 some (⟨Xx,fc.fD⟩:aa)))
def sM (N:Nat) (x:aa) (y:aa):Option (aa) :=
 ((sL N y).bind fun Jp =>
 ((ma N x Jp).bind fun bz =>
 some bz))
def wV (N:Nat) (a:bM):Option (Int) :=
 ((ic N a.fL).bind fun mO =>
 (cond (((mO.length:Nat):Int) == 0)
 (some 0)
 ((cond a.fG
 (some (-1))
 (some 1)))))
def gy (N:Nat) (x:aa):Option (Int) :=
 ((fM N x).bind fun fc =>
 ((wV N fc.fN).bind fun RI =>
 some RI))
def k8 (N:Nat) (x:aa) (y:aa):Option (Int) :=
 ((sM N x y).bind fun dc =>
 ((gy N dc).bind fun j3 =>
 some j3))
def gl (N:Nat) (a:List aa) (b:List aa):Nat→aa→Int→Option (aa)
 | 0,_,_=>none
 | fuel+1,out,i =>
  (cond (cond (decide (i < ((a.length:Nat):Int))) (decide (i < ((b.length:Nat):Int))) false)
  ((if 0≤i∧i < ((a.length:Nat):Int) then
  (if 0≤i∧i < ((b.length:Nat):Int) then
  ((l8 N (⟨((a.getD ((i).toNat) aa.d).fN),((a.getD ((i).toNat) aa.d).fD)⟩:aa) (⟨((b.getD ((i).toNat) aa.d).fN),((b.getD ((i).toNat) aa.d).fD)⟩:aa)).bind fun cy =>
  ((ma N out cy).bind fun bz =>
  gl N a b fuel bz (aq (i+1))))
  else none)
  else none))
  (some out))
def ll (N:Nat) (a:List aa) (b:List aa):Option (aa) :=
 ((ux N 0).bind fun rQ =>
 gl N a b N rQ 0)
def iT (N:Nat) (l:List aH) (xu:List aa):Nat→Int→Option (Bool)
 | 0,_=>none
 | fuel+1,i =>
  (cond (decide (i < ((l.length:Nat):Int)))
  ((if 0≤i∧i < ((l.length:Nat):Int) then
  ((ll N ((l.getD ((i).toNat) aH.d).bu) xu).bind fun nr =>
  ((k8 N nr (⟨(((l.getD ((i).toNat) aH.d).b6).fN),(((l.getD ((i).toNat) aH.d).b6).fD)⟩:aa)).bind fun l3 =>
  (cond (decide (l3 > 0))
  (some false)
  (iT N l xu fuel (aq (i+1))))))
  else none))
  (some true))
def rl (N:Nat) (l:List aH) (xu:List aa):Option (Bool) :=
 iT N l xu N 0
def dW (N:Nat) (l:List aa):Nat→Int→Option (Bool)
 | 0,_=>none
 | fuel+1,i =>
  (cond (decide (i < ((l.length:Nat):Int)))
  ((if 0≤i∧i < ((l.length:Nat):Int) then
  ((gy N (⟨((l.getD ((i).toNat) aa.d).fN),((l.getD ((i).toNat) aa.d).fD)⟩:aa)).bind fun j3 =>
  (cond (decide (j3 < 0))
  (some false)
  (dW N l fuel (aq (i+1)))))
  else none))
  (some true))
def j4 (N:Nat) (l:List aa):Option (Bool) :=
 dW N l N 0
def gS (N:Nat) (c:List aa) (l:List aH) (x:n6) (cr:(List aa)×aa):Nat→Int→Option (Bool)
 | 0,_=>none
 | fuel+1,j =>
  (cond (decide (j < ((c.length:Nat):Int)))
  ((if 0≤j∧j < ((cr.1.length:Nat):Int) then
  (if 0≤j∧j < ((c.length:Nat):Int) then
  ((k8 N (⟨((cr.1.getD ((j).toNat) aa.d).fN),((cr.1.getD ((j).toNat) aa.d).fD)⟩:aa) (⟨((c.getD ((j).toNat) aa.d).fN),((c.getD ((j).toNat) aa.d).fD)⟩:aa)).bind fun l3 =>
  (cond (l3 != 0)
  (some false)
  (gS N c l x cr fuel (aq (j+1)))))
  else none)
  else none))
  (((rl N l x.bm).bind fun dw =>
  ((cond dw (j4 N x.ai) (some false)).bind fun bK =>
  ((cond (cond dw bK false) (k8 N cr.2 x.gG) (some 0)).bind fun nu =>
  ((cond (cond (cond dw bK false) (nu == 0) false) (ll N c x.bm) (some aa.d)).bind fun nr =>
  ((cond (cond (cond dw bK false) (nu == 0) false) (k8 N nr x.gG) (some 0)).bind fun FV =>
  some (cond (cond (cond dw bK false) (nu == 0) false) (FV == 0) false))))))))
def sN (N:Nat) (c:List aa) (l:List aH) (x:n6):Option (Bool) :=
 ((np N ((c.length:Nat):Int) l x.ai).bind fun cr =>
 gS N c l x cr N 0)
def ee (N:Nat) (n:Int) (y:List aa) (cr:(List aa)×aa):Nat→Int→Option (Bool)
 | 0,_=>none
 | fuel+1,j =>
  (cond (decide (j < n))
  ((if 0≤j∧j < ((cr.1.length:Nat):Int) then
  ((gy N (⟨((cr.1.getD ((j).toNat) aa.d).fN),((cr.1.getD ((j).toNat) aa.d).fD)⟩:aa)).bind fun j3 =>
  (cond (j3 != 0)
  (some false)
  (ee N n y cr fuel (aq (j+1)))))
  else none))
  (((j4 N y).bind fun bK =>
  ((cond bK (gy N cr.2) (some 0)).bind fun qF =>
  some (cond bK (decide (qF < 0)) false)))))
def mP (N:Nat) (n:Int) (l:List aH) (y:List aa):Option (Bool) :=
 ((np N n l y).bind fun cr =>
 ee N n y cr N 0)
def k9 (N:Nat) (c:List aa) (l:List aH) (d:List aa):Nat→Int→Option (Bool)
 | 0,_=>none
 | fuel+1,i =>
  (cond (decide (i < ((l.length:Nat):Int)))
  ((if 0≤i∧i < ((l.length:Nat):Int) then
  ((ll N ((l.getD ((i).toNat) aH.d).bu) d).bind fun nr =>
  ((gy N nr).bind fun j3 =>
  (cond (decide (j3 > 0))
  (some false)
  (k9 N c l d fuel (aq (i+1))))))
  else none))
  (((ll N c d).bind fun CU =>
  ((gy N CU).bind fun qF =>
  some (decide (qF > 0))))))
def zH (N:Nat) (c:List aa) (l:List aH) (d:List aa):Option (Bool) :=
 k9 N c l d N 0
noncomputable def gP (N:Nat) (ab:List aa) (l:List aH):Option (Bool) :=
 ((iI N (⟨((ab.length:Nat):Int),l⟩:cT)).bind fun zI =>
 ((cond (!(!zI)) (oy N ab 20) (some false)).bind fun FX =>
 (cond (cond (!zI) true FX)
 (((kY N).bind fun MU =>
 some MU))
 (((kZ N ab l).bind fun ag =>
 ((kD N ((ab.length:Nat):Int) l).bind fun bP =>
 (cond (bP != 0)
 (((cond ((aq (((ag.1.bm.length:Nat):Int)+((ag.1.ai.length:Nat):Int))) == 0) (iL N ag.1.gG (⟨(⟨false,([]:List Int)⟩:bM),(⟨false,([]:List Int)⟩:bM)⟩:aa)) (some false)).bind fun fJ =>
 ((cond (cond (cond ((aq (((ag.1.bm.length:Nat):Int)+((ag.1.ai.length:Nat):Int))) == 0) fJ false) (ag.2 == bP) false) (kY N) (some false)).bind fun Jq =>
 some (cond (cond (cond ((aq (((ag.1.bm.length:Nat):Int)+((ag.1.ai.length:Nat):Int))) == 0) fJ false) (ag.2 == bP) false) Jq false))))
 ((cond (ag.2 == 0)
 (((cond (cond (((ag.1.bm.length:Nat):Int) == ((ab.length:Nat):Int)) (((ag.1.ai.length:Nat):Int) == ((l.length:Nat):Int)) false) (sN N ab l ag.1) (some false)).bind fun nU =>
 ((cond (cond (cond (((ag.1.bm.length:Nat):Int) == ((ab.length:Nat):Int)) (((ag.1.ai.length:Nat):Int) == ((l.length:Nat):Int)) false) nU false) (fM N ag.1.gG) (some aa.d)).bind fun fc =>
 ((cond (cond (cond (((ag.1.bm.length:Nat):Int) == ((ab.length:Nat):Int)) (((ag.1.ai.length:Nat):Int) == ((l.length:Nat):Int)) false) nU false) (iL N ag.1.gG fc) (some false)).bind fun mn =>
 ((cond (cond (cond (cond (((ag.1.bm.length:Nat):Int) == ((ab.length:Nat):Int)) (((ag.1.ai.length:Nat):Int) == ((l.length:Nat):Int)) false) nU false) mn false) (kY N) (some false)).bind fun Jr =>
 some (cond (cond (cond (cond (((ag.1.bm.length:Nat):Int) == ((ab.length:Nat):Int)) (((ag.1.ai.length:Nat):Int) == ((l.length:Nat):Int)) false) nU false) mn false) Jr false))))))
 ((cond (ag.2 == 29)
 (((cond (cond (((ag.1.bm.length:Nat):Int) == 0) (((ag.1.ai.length:Nat):Int) == ((l.length:Nat):Int)) false) (iL N ag.1.gG (⟨(⟨false,([]:List Int)⟩:bM),(⟨false,([]:List Int)⟩:bM)⟩:aa)) (some false)).bind fun kE =>
 ((cond (cond (cond (((ag.1.bm.length:Nat):Int) == 0) (((ag.1.ai.length:Nat):Int) == ((l.length:Nat):Int)) false) kE false) (mP N ((ab.length:Nat):Int) l ag.1.ai) (some false)).bind fun nW =>
 ((cond (cond (cond (cond (((ag.1.bm.length:Nat):Int) == 0) (((ag.1.ai.length:Nat):Int) == ((l.length:Nat):Int)) false) kE false) nW false) (kY N) (some false)).bind fun Js =>
 some (cond (cond (cond (cond (((ag.1.bm.length:Nat):Int) == 0) (((ag.1.ai.length:Nat):Int) == ((l.length:Nat):Int)) false) kE false) nW false) Js false)))))
 ((cond (ag.2 == 14)
 (((kW N ((ab.length:Nat):Int) l).bind fun aW =>
 ((cond (cond (aW.2.2 == 0) (((aW.1.length:Nat):Int) == ((ab.length:Nat):Int)) false) (rl N l aW.1) (some false)).bind fun dw =>
 ((cond (cond (cond (cond (cond (aW.2.2 == 0) (((aW.1.length:Nat):Int) == ((ab.length:Nat):Int)) false) dw false) (((ag.1.ai.length:Nat):Int) == 0) false) (((ag.1.bm.length:Nat):Int) == ((ab.length:Nat):Int)) false) (iL N ag.1.gG (⟨(⟨false,([]:List Int)⟩:bM),(⟨false,([]:List Int)⟩:bM)⟩:aa)) (some false)).bind fun lJ =>
 ((cond (cond (cond (cond (cond (cond (aW.2.2 == 0) (((aW.1.length:Nat):Int) == ((ab.length:Nat):Int)) false) dw false) (((ag.1.ai.length:Nat):Int) == 0) false) (((ag.1.bm.length:Nat):Int) == ((ab.length:Nat):Int)) false) lJ false) (zH N ab l ag.1.bm) (some false)).bind fun PC =>
 ((cond (cond (cond (cond (cond (cond (cond (aW.2.2 == 0) (((aW.1.length:Nat):Int) == ((ab.length:Nat):Int)) false) dw false) (((ag.1.ai.length:Nat):Int) == 0) false) (((ag.1.bm.length:Nat):Int) == ((ab.length:Nat):Int)) false) lJ false) PC false) (kY N) (some false)).bind fun Jt =>
 some (cond (cond (cond (cond (cond (cond (cond (aW.2.2 == 0) (((aW.1.length:Nat):Int) == ((ab.length:Nat):Int)) false) dw false) (((ag.1.ai.length:Nat):Int) == 0) false) (((ag.1.bm.length:Nat):Int) == ((ab.length:Nat):Int)) false) lJ false) PC false) Jt false)))))))
 (some false))))))))))))))
end Go.Den
