/- The functions of the program as Lean functions, each in the Option monad; N bounds the rounds of loops. No conditions. -/
import Derived.Test.YtlgddcmiekcdiaaGreatCd
set_option linter.unusedVariables false
set_option linter.unusedSimpArgs false
set_option linter.unusedVariables false
namespace Go.Den
open Go.Ab
abbrev zB (s:ByteArray) (x:Int):Int:=(p6 s).getD x.toNat 0
abbrev zA (s:ByteArray) (x:Int):Int:=jI s x.toNat
structure bP where
 fG:Bool
 fL:List Int
def bP.d:bP:=⟨false,[]⟩
def bP.wf (x:bP):Prop:=wB x.fG∧(wL (wK .u16)) x.fL
def lN (x:bP):List AV:=[(aB x.fG),(aH (cU .u16) 0 x.fL)]
structure aa where
 fN:bP
 fD:bP
def aa.d:aa:=⟨bP.d,bP.d⟩
def aa.wf (x:aa):Prop:=bP.wf x.fN∧bP.wf x.fD
def aj (x:aa):List AV:=[(aB x.fN.fG),(aH (cU .u16) 0 x.fN.fL),(aB x.fD.fG),(aH (cU .u16) 0 x.fD.fL)]
structure ab where
 e8:List aa
 ni:aa
def ab.d:ab:=⟨[],aa.d⟩
def ab.wf (x:ab):Prop:=(wL aa.wf) x.e8∧aa.wf x.ni
def om (x:ab):List AV:=[(aH aj aa.d x.e8),(aB x.ni.fN.fG),(aH (cU .u16) 0 x.ni.fN.fL),(aB x.ni.fD.fG),(aH (cU .u16) 0 x.ni.fD.fL)]
structure l7 where
 xQ:Int
 xR:Int
 kK:List Int
 nB:List Int
 J6:List (List aa)
 J7:List aa
 fa:List aa
 ak:aa
 cy:Int
def l7.d:l7:=⟨0,0,[],[],[],[],[],aa.d,0⟩
def l7.wf (x:l7):Prop:=wI x.xQ∧wI x.xR∧(wL wI) x.kK∧(wL wI) x.nB∧(wL (wL aa.wf)) x.J6∧(wL aa.wf) x.J7∧(wL aa.wf) x.fa∧aa.wf x.ak∧wI x.cy
def l7.cells (x:l7):List AV:=[(aI x.xQ),(aI x.xR),(aH cI 0 x.kK),(aH cI 0 x.nB),(aH (fun x=>[aH aj aa.d x]) [] x.J6),(aH aj aa.d x.J7),(aH aj aa.d x.fa),(aB x.ak.fN.fG),(aH (cU .u16) 0 x.ak.fN.fL),(aB x.ak.fD.fG),(aH (cU .u16) 0 x.ak.fD.fL),(aI x.cy)]
structure ae where
 eC:ByteArray
 iz:Int
 jo:Int
 bV:Int
 ct:Int
 cY:Int
def ae.d:ae:=⟨ByteArray.empty,0,0,0,0,0⟩
def ae.wf (x:ae):Prop:=wS x.eC∧wI x.iz∧wI x.jo∧wI x.bV∧wI x.ct∧wI x.cY
def ae.cells (x:ae):List AV:=[(aS x.eC),(aI x.iz),(aI x.jo),(aI x.bV),(aI x.ct),(aI x.cY)]
structure dE where
 iz:Int
 jo:Int
 jJ:Int
def dE.d:dE:=⟨0,0,0⟩
def dE.wf (x:dE):Prop:=wI x.iz∧wI x.jo∧wI x.jJ
def dE.cells (x:dE):List AV:=[(aI x.iz),(aI x.jo),(aI x.jJ)]
structure bQ where
 aE:Bool
 eD:List aa
 iJ:List aa
def bQ.d:bQ:=⟨false,[],[]⟩
def bQ.wf (x:bQ):Prop:=wB x.aE∧(wL aa.wf) x.eD∧(wL aa.wf) x.iJ
def bQ.cells (x:bQ):List AV:=[(aB x.aE),(aH aj aa.d x.eD),(aH aj aa.d x.iJ)]
structure aw where
 e0:aa
 e1:aa
 e2:aa
def aw.d:aw:=⟨aa.d,aa.d,aa.d⟩
def aw.wf (x:aw):Prop:=aa.wf x.e0∧aa.wf x.e1∧aa.wf x.e2
def aw.cells (x:aw):List AV:=[(aB x.e0.fN.fG),(aH (cU .u16) 0 x.e0.fN.fL),(aB x.e0.fD.fG),(aH (cU .u16) 0 x.e0.fD.fL),(aB x.e1.fN.fG),(aH (cU .u16) 0 x.e1.fN.fL),(aB x.e1.fD.fG),(aH (cU .u16) 0 x.e1.fD.fL),(aB x.e2.fN.fG),(aH (cU .u16) 0 x.e2.fN.fL),(aB x.e2.fD.fG),(aH (cU .u16) 0 x.e2.fD.fL)]
structure iA where
 p7:Int
 Jm:Int
def iA.d:iA:=⟨0,0⟩
def iA.wf (x:iA):Prop:=wI x.p7∧wI x.Jm
def iA.cells (x:iA):List AV:=[(aI x.p7),(aI x.Jm)]
structure iY where
 eC:ByteArray
 cZ:List iA
 DQ:Int
def iY.d:iY:=⟨ByteArray.empty,[],0⟩
def iY.wf (x:iY):Prop:=wS x.eC∧(wL iA.wf) x.cZ∧wI x.DQ
def iY.cells (x:iY):List AV:=[(aS x.eC),(aH iA.cells iA.d x.cZ),(aI x.DQ)]
def oV (N:Nat) (vr:ab) (C0:Int):Option (Bool) :=
 some (decide (((vr.e8.length:Nat):Int) > C0))
def cu (N:Nat) (s:List ab) (C0:Int):Nat→Int→Option (Int)
 | 0,_=>none
 | fuel+1,x =>
  (cond (decide (x < ((s.length:Nat):Int)))
  ((if 0≤x∧x < ((s.length:Nat):Int) then
  ((oV N (s.getD ((x).toNat) ab.d) C0).bind fun yC =>
  (cond yC
  (some x)
  (cu N s C0 fuel (ai (x+1)))))
  else none))
  (some (-1)))
def md (N:Nat) (s:List ab) (C0:Int):Option (Int) :=
 cu N s C0 N 0
def kO (N:Nat) (s:List ab) (C0:Int):Option (Bool) :=
 ((md N s C0).bind fun Ms =>
 some (decide (Ms≥0)))
def oC (N:Nat) (n:Int) (l:List ab):Option (Int) :=
 (cond (cond (decide (n < 0)) true (decide (n > 12)))
 (some 2)
 ((cond (decide (((l.length:Nat):Int) > 40))
 (some 8)
 (((kO N l n).bind fun Ms =>
 (cond Ms
 (some 11)
 (some 0)))))))
def kA (N:Nat):Nat→Int→(List Int)→Option ((List Int))
 | 0,_,_=>none
 | fuel+1,n2,out =>
  (cond (decide (n2 > 0))
  ((if (out.length+1) * 2≤140737488355328 then
  kA N fuel (oB .u64 n2 16) (out ++ ([(IntKind.u16.wrap (n2))]:List Int))
  else none))
  (some out))
def nC (N:Nat) (n:Int):Option ((List Int)) :=
 kA N N n ([]:List Int)
def nD (N:Nat):Nat→(List Int)→Option ((List Int))
 | 0,_=>none
 | fuel+1,n2 =>
  (if ((decide (((n2.length:Nat):Int) > 0))=true→0≤(ai (((n2.length:Nat):Int) - 1))∧(ai (((n2.length:Nat):Int) - 1)) < ((n2.length:Nat):Int)) then
  (cond (cond (decide (((n2.length:Nat):Int) > 0)) ((n2.getD ((ai (((n2.length:Nat):Int) - 1)).toNat) 0) == 0) false)
  ((if 0≤(ai (((n2.length:Nat):Int) - 1)).toNat∧(ai (((n2.length:Nat):Int) - 1)).toNat≤n2.length then
  (if 0≤(ai (((n2.length:Nat):Int) - 1)) then
  nD N fuel ((n2.take ((ai (((n2.length:Nat):Int) - 1)).toNat)).drop 0)
  else none)
  else none))
  (some n2))
  else none)
def ia (N:Nat) (n:List Int):Option ((List Int)) :=
 nD N N n
def dA (N:Nat) (s:List Int):Option ((List Int)) :=
 (if (0+s.length) * 2≤140737488355328 then
 some (([]:List Int) ++ s)
 else none)
def jK (N:Nat) (neg:Bool) (n:List Int):Option (bP) :=
 ((ia N n).bind fun cb =>
 (cond (((cb.length:Nat):Int) == 0)
 (some (⟨false,([]:List Int)⟩:bP))
 (((dA N cb).bind fun AH =>
 some (⟨neg,AH⟩:bP)))))
def wX (N:Nat) (n:Int):Option (bP) :=
 (cond (decide (n < 0))
 (((nC N (IntKind.u64.wrap (0 - (IntKind.u64.wrap (n))))).bind fun tx =>
 ((jK N true tx).bind fun Mt =>
 some Mt)))
 (((nC N (IntKind.u64.wrap (n))).bind fun CP =>
 ((jK N false CP).bind fun FY =>
 some FY))))
def l9 (N:Nat) (n:List Int):Nat→Int→Int→Option (Int×Bool)
 | 0,_,_=>none
 | fuel+1,out,i =>
  (cond (decide (i≥0))
  ((if 0≤i∧i < ((n.length:Nat):Int) then
  l9 N n fuel (tw .u64 (hO .u64 out 16) (IntKind.u64.wrap ((n.getD ((i).toNat) 0)))) (ai (i - 1))
  else none))
  (some (out,true)))
def vJ (N:Nat) (n:List Int):Option (Int×Bool) :=
 (cond (decide (((n.length:Nat):Int) > 4))
 (some (0,false))
 (l9 N n N 0 (ai (((n.length:Nat):Int) - 1))))
def jr (N:Nat) (a:List Int) (b:List Int):Nat→Int→Option (Int)
 | 0,_=>none
 | fuel+1,i =>
  (cond (decide (i≥0))
  ((if 0≤i∧i < ((a.length:Nat):Int) then
  (if 0≤i∧i < ((b.length:Nat):Int) then
  (cond ((a.getD ((i).toNat) 0) != (b.getD ((i).toNat) 0))
  (some (ai ((ai ((a.getD ((i).toNat) 0))) - (ai ((b.getD ((i).toNat) 0))))))
  (jr N a b fuel (ai (i - 1))))
  else none)
  else none))
  (some 0))
def nF (N:Nat) (a:List Int) (b:List Int):Option (Int) :=
 (cond (((a.length:Nat):Int) != ((b.length:Nat):Int))
 (some (ai (((a.length:Nat):Int) - ((b.length:Nat):Int))))
 (jr N a b N (ai (((a.length:Nat):Int) - 1))))
def k9 (N:Nat) (a:List Int) (b:Int):Nat→(List Int)→Int→Int→Option ((List Int)×Int)
 | 0,_,_,_=>none
 | fuel+1,q,rest,i =>
  (cond (decide (i≥0))
  ((if 0≤i∧i < ((a.length:Nat):Int) then
  (if ((IntKind.u32.wrap (b)):Int)≠0 then
  (if 0≤i∧i < ((q.length:Nat):Int) then
  k9 N a b fuel (q.set ((i).toNat) (IntKind.u16.wrap ((IntKind.u32.wrap ((tw .u32 (hO .u32 rest 16) (IntKind.u32.wrap ((a.getD ((i).toNat) 0)))).tdiv (IntKind.u32.wrap (b))))))) ((tw .u32 (hO .u32 rest 16) (IntKind.u32.wrap ((a.getD ((i).toNat) 0)))).tmod (IntKind.u32.wrap (b))) (ai (i - 1))
  else none)
  else none)
  else none))
  (((ia N q).bind fun cb =>
  some (cb,(IntKind.u16.wrap (rest))))))
def vK (N:Nat) (a:List Int) (b:Int):Option ((List Int)×Int) :=
 (if 0≤((a.length:Nat):Int)∧(2:Int) * ((a.length:Nat):Int)≤281474976710656∧((a.length:Nat):Int)≤9223372036854775807 then
 k9 N a b N (List.replicate a.length 0:List Int) 0 (ai (((a.length:Nat):Int) - 1))
 else none)
def cG (N:Nat) (x2:Int) (n:Int):Option (Int) :=
 (if 0≤(IntKind.u8.wrap (x2))∧(IntKind.u8.wrap (x2)) < (((⟨#[0,1,2,2,3,3,3,3,4,4,4,4,4,4,4,4,5,5,5,5,5,5,5,5,5,5,5,5,5,5,5,5,6,6,6,6,6,6,6,6,6,6,6,6,6,6,6,6,6,6,6,6,6,6,6,6,6,6,6,6,6,6,6,6,7,7,7,7,7,7,7,7,7,7,7,7,7,7,7,7,7,7,7,7,7,7,7,7,7,7,7,7,7,7,7,7,7,7,7,7,7,7,7,7,7,7,7,7,7,7,7,7,7,7,7,7,7,7,7,7,7,7,7,7,7,7,7,7,8,8,8,8,8,8,8,8,8,8,8,8,8,8,8,8,8,8,8,8,8,8,8,8,8,8,8,8,8,8,8,8,8,8,8,8,8,8,8,8,8,8,8,8,8,8,8,8,8,8,8,8,8,8,8,8,8,8,8,8,8,8,8,8,8,8,8,8,8,8,8,8,8,8,8,8,8,8,8,8,8,8,8,8,8,8,8,8,8,8,8,8,8,8,8,8,8,8,8,8,8,8,8,8,8,8,8,8,8,8,8,8,8,8,8,8,8,8,8,8,8,8,8,8,8,8,8,8]⟩:ByteArray).size:Nat):Int) then
 some (ai (n+(ai ((jI (⟨#[0,1,2,2,3,3,3,3,4,4,4,4,4,4,4,4,5,5,5,5,5,5,5,5,5,5,5,5,5,5,5,5,6,6,6,6,6,6,6,6,6,6,6,6,6,6,6,6,6,6,6,6,6,6,6,6,6,6,6,6,6,6,6,6,7,7,7,7,7,7,7,7,7,7,7,7,7,7,7,7,7,7,7,7,7,7,7,7,7,7,7,7,7,7,7,7,7,7,7,7,7,7,7,7,7,7,7,7,7,7,7,7,7,7,7,7,7,7,7,7,7,7,7,7,7,7,7,7,8,8,8,8,8,8,8,8,8,8,8,8,8,8,8,8,8,8,8,8,8,8,8,8,8,8,8,8,8,8,8,8,8,8,8,8,8,8,8,8,8,8,8,8,8,8,8,8,8,8,8,8,8,8,8,8,8,8,8,8,8,8,8,8,8,8,8,8,8,8,8,8,8,8,8,8,8,8,8,8,8,8,8,8,8,8,8,8,8,8,8,8,8,8,8,8,8,8,8,8,8,8,8,8,8,8,8,8,8,8,8,8,8,8,8,8,8,8,8,8,8,8,8,8,8,8,8,8]⟩:ByteArray) ((IntKind.u8.wrap (x2)).toNat))))))
 else none)
def la (N:Nat) (x:Int):Option (Int) :=
 (cond (decide (x≥256))
 (cG N (oB .u16 x 8) 8)
 (cG N x 0))
def fb (N:Nat) (x:Int):Option (Int) :=
 ((la N x).bind fun Mv =>
 some (ai (16 - Mv)))
def js (N:Nat) (a:List Int) (z4:Int):Nat→(List Int)→Int→Option ((List Int))
 | 0,_,_=>none
 | fuel+1,out,x =>
  (cond (decide (x < ((a.length:Nat):Int)))
  ((if 0≤x∧x < ((a.length:Nat):Int) then
  (if (0:Int)≤z4 then
  (if 0≤x∧x < ((out.length:Nat):Int) then
  (if 0≤(ai (x+1))∧(ai (x+1)) < (((out.set ((x).toNat) (tw .u16 (out.getD ((x).toNat) 0) (IntKind.u16.wrap ((hO .u32 (IntKind.u32.wrap ((a.getD ((x).toNat) 0))) z4))))).length:Nat):Int) then
  js N a z4 fuel ((out.set ((x).toNat) (tw .u16 (out.getD ((x).toNat) 0) (IntKind.u16.wrap ((hO .u32 (IntKind.u32.wrap ((a.getD ((x).toNat) 0))) z4))))).set ((ai (x+1)).toNat) (IntKind.u16.wrap ((oB .u32 (hO .u32 (IntKind.u32.wrap ((a.getD ((x).toNat) 0))) z4) 16)))) (ai (x+1))
  else none)
  else none)
  else none)
  else none))
  (some out))
def pE (N:Nat) (a:List Int) (z4:Int):Option ((List Int)) :=
 (if 0≤(ai (((a.length:Nat):Int)+1))∧(2:Int) * (ai (((a.length:Nat):Int)+1))≤281474976710656∧(ai (((a.length:Nat):Int)+1))≤9223372036854775807 then
 js N a z4 N (List.replicate ((ai (((a.length:Nat):Int)+1)).toNat) 0:List Int) 0
 else none)
def n5 (N:Nat) (uo:Nat) (un:Nat) (v:List Int) (q:Int) (bE:List Int) (borrow:Int) (x:Int) (p8:(List Int)→Int→Int→Int→Option (Int×(List Int))) (x2:Int):Option (Int×(List Int)) :=
 (if 0≤x∧x < ((un:Nat):Int) then
 (if uo+un≤bE.length then
 p8 (bE.set (bC uo (x).toNat) (IntKind.u16.wrap ((ai ((ai ((ai ((bE.getD (bC uo (x).toNat) 0))) - (ai ((vH .u64 x2 65535)))))+borrow))))) (oB .u64 x2 16) (oB .i64 (ai ((ai ((ai ((bE.getD (bC uo (x).toNat) 0))) - (ai ((vH .u64 x2 65535)))))+borrow)) 16) (ai (x+1))
 else none)
 else none)
def ld (N:Nat) (dn:List Int) (q2:Int):Option (Int×(List Int)) :=
 some ((IntKind.u16.wrap (q2)),dn)
def jf (N:Nat) (uo:Nat) (un:Nat) (v:List Int) (q:Int):Nat→(List Int)→Int→Int→Option (Int×(List Int))
 | 0,_,_,_=>none
 | fuel+1,cr,fP,x3 =>
  (cond (decide (x3 < ((v.length:Nat):Int)))
  ((if 0≤x3∧x3 < ((un:Nat):Int) then
  (if uo+un≤cr.length then
  (if 0≤x3∧x3 < ((v.length:Nat):Int) then
  jf N uo un v q fuel (cr.set (bC uo (x3).toNat) (IntKind.u16.wrap ((IntKind.u32.wrap (fP+(IntKind.u32.wrap ((IntKind.u32.wrap ((cr.getD (bC uo (x3).toNat) 0)))+(IntKind.u32.wrap ((v.getD ((x3).toNat) 0)))))))))) (oB .u32 (IntKind.u32.wrap (fP+(IntKind.u32.wrap ((IntKind.u32.wrap ((cr.getD (bC uo (x3).toNat) 0)))+(IntKind.u32.wrap ((v.getD ((x3).toNat) 0))))))) 16) (ai (x3+1))
  else none)
  else none)
  else none))
  ((if 0≤((v.length:Nat):Int)∧((v.length:Nat):Int) < ((un:Nat):Int) then
  (if uo+un≤cr.length then
  ld N (cr.set (bC uo v.length) (IntKind.u16.wrap ((cr.getD (bC uo v.length) 0)+(IntKind.u16.wrap (fP))))) (IntKind.u64.wrap (q - 1))
  else none)
  else none)))
def gj (N:Nat) (uo:Nat) (un:Nat) (v:List Int) (q:Int):Nat→(List Int)→Int→Int→Int→Option (Int×(List Int))
 | 0,_,_,_,_=>none
 | fuel+1,bE,carry,borrow,x =>
  (cond (decide (x < (ai (((v.length:Nat):Int)+1))))
  ((cond (decide (x < ((v.length:Nat):Int)))
  ((if 0≤x∧x < ((v.length:Nat):Int) then
  n5 N uo un v q bE borrow x (gj N uo un v q fuel) (IntKind.u64.wrap (carry+(IntKind.u64.wrap (q * (IntKind.u64.wrap ((v.getD ((x).toNat) 0)))))))
  else none))
  (n5 N uo un v q bE borrow x (gj N uo un v q fuel) carry)))
  ((cond (decide (borrow < 0))
  (jf N uo un v q N bE 0 0)
  (ld N bE q))))
def lf (N:Nat) (uo:Nat) (un:Nat) (v:List Int) (C0:List Int):Nat→Int→Int→Option (Int×(List Int))
 | 0,_,_=>none
 | fuel+1,q,rest =>
  (if (((decide (rest < 65536)) && ((decide (rest < 65536)) && (!(decide (q > 65535)))))=true→0≤(ai (((v.length:Nat):Int) - 2))∧(ai (((v.length:Nat):Int) - 2)) < ((v.length:Nat):Int)) then
  (if (((decide (rest < 65536)) && ((decide (rest < 65536)) && (!(decide (q > 65535)))))=true→0≤(ai (((v.length:Nat):Int) - 2))∧(ai (((v.length:Nat):Int) - 2)) < ((un:Nat):Int)) then
  (if (((decide (rest < 65536)) && ((decide (rest < 65536)) && (!(decide (q > 65535)))))=true→uo+un≤C0.length) then
  (cond (cond (decide (rest < 65536)) (cond (decide (q > 65535)) true (decide ((IntKind.u64.wrap (q * (IntKind.u64.wrap ((v.getD ((ai (((v.length:Nat):Int) - 2)).toNat) 0))))) > (tw .u64 (hO .u64 rest 16) (IntKind.u64.wrap ((C0.getD (bC uo (ai (((v.length:Nat):Int) - 2)).toNat) 0))))))) false)
  ((if 0≤(ai (((v.length:Nat):Int) - 1))∧(ai (((v.length:Nat):Int) - 1)) < ((v.length:Nat):Int) then
  lf N uo un v C0 fuel (IntKind.u64.wrap (q - 1)) (IntKind.u64.wrap (rest+(IntKind.u64.wrap ((v.getD ((ai (((v.length:Nat):Int) - 1)).toNat) 0)))))
  else none))
  (gj N uo un v q N C0 0 0 0))
  else none)
  else none)
  else none)
def vL (N:Nat) (uo:Nat) (un:Nat) (v:List Int) (C0:List Int):Option (Int×(List Int)) :=
 (if 0≤((v.length:Nat):Int)∧((v.length:Nat):Int) < ((un:Nat):Int) then
 (if uo+un≤C0.length then
 (if 0≤(ai (((v.length:Nat):Int) - 1))∧(ai (((v.length:Nat):Int) - 1)) < ((un:Nat):Int) then
 (if 0≤(ai (((v.length:Nat):Int) - 1))∧(ai (((v.length:Nat):Int) - 1)) < ((v.length:Nat):Int) then
 (if ((IntKind.u64.wrap ((v.getD ((ai (((v.length:Nat):Int) - 1)).toNat) 0))):Int)≠0 then
 lf N uo un v C0 N (IntKind.u64.wrap ((tw .u64 (hO .u64 (IntKind.u64.wrap ((C0.getD (bC uo v.length) 0))) 16) (IntKind.u64.wrap ((C0.getD (bC uo (ai (((v.length:Nat):Int) - 1)).toNat) 0)))).tdiv (IntKind.u64.wrap ((v.getD ((ai (((v.length:Nat):Int) - 1)).toNat) 0))))) ((tw .u64 (hO .u64 (IntKind.u64.wrap ((C0.getD (bC uo v.length) 0))) 16) (IntKind.u64.wrap ((C0.getD (bC uo (ai (((v.length:Nat):Int) - 1)).toNat) 0)))).tmod (IntKind.u64.wrap ((v.getD ((ai (((v.length:Nat):Int) - 1)).toNat) 0))))
 else none)
 else none)
 else none)
 else none)
 else none)
def j5 (N:Nat) (b:List Int) (bz:Int) (q:List Int) (u:List Int):Nat→(List Int)→Int→Option ((List Int)×(List Int))
 | 0,_,_=>none
 | fuel+1,vr,x =>
  (cond (decide (x < (((b.length - 0):Nat):Int)))
  ((if 0≤x∧x < ((u.length:Nat):Int) then
  (if 0≤(ai (x+1))∧(ai (x+1)) < ((u.length:Nat):Int) then
  (if (0:Int)≤bz then
  (if 0≤x∧x < ((vr.length:Nat):Int) then
  j5 N b bz q u fuel (vr.set ((x).toNat) (IntKind.u16.wrap ((oB .u32 (tw .u32 (IntKind.u32.wrap ((u.getD ((x).toNat) 0))) (hO .u32 (IntKind.u32.wrap ((u.getD ((ai (x+1)).toNat) 0))) 16)) bz)))) (ai (x+1))
  else none)
  else none)
  else none)
  else none))
  (((ia N q).bind fun jU =>
  ((ia N vr).bind fun Mw =>
  some (jU,Mw)))))
def j6 (N:Nat) (b:List Int) (bz:Int) (fU:(List Int)):Nat→(List Int)→(List Int)→Int→Option ((List Int)×(List Int))
 | 0,_,_,_=>none
 | fuel+1,q,u,j =>
  (cond (decide (j≥0))
  ((if (j).toNat≤(ai ((ai (j+(((b.length - 0):Nat):Int)))+1)).toNat∧(ai ((ai (j+(((b.length - 0):Nat):Int)))+1)).toNat≤u.length then
  (if 0≤j then
  (if 0≤(ai ((ai (j+(((b.length - 0):Nat):Int)))+1)) then
  (if 0≤b.length∧b.length≤fU.length then
  ((vL N ((j).toNat) ((ai ((ai (j+(((b.length - 0):Nat):Int)))+1)).toNat - (j).toNat) ((fU.take b.length).drop 0) u).bind fun cO =>
  (if cO.2.length=u.length then
  (if 0≤j∧j < ((q.length:Nat):Int) then
  j6 N b bz fU fuel (q.set ((j).toNat) cO.1) cO.2 (ai (j - 1))
  else none)
  else none))
  else none)
  else none)
  else none)
  else none))
  ((if 0≤(((b.length - 0):Nat):Int)∧(2:Int) * (((b.length - 0):Nat):Int)≤281474976710656∧(((b.length - 0):Nat):Int)≤9223372036854775807 then
  j5 N b bz q u N (List.replicate (b.length - 0) 0:List Int) 0
  else none)))
def pk (N:Nat) (a:List Int) (b:List Int):Option ((List Int)×(List Int)) :=
 ((nF N a b).bind fun kB =>
 (cond (decide (kB < 0))
 (((dA N a).bind fun AH =>
 some (([]:List Int),AH)))
 ((cond (((b.length:Nat):Int) == 1)
 ((if 0≤(0:Int)∧0 < ((b.length:Nat):Int) then
 ((vK N a (b.getD 0 0)).bind fun AI =>
 ((ia N ([AI.2]:List Int)).bind fun cb =>
 some (AI.1,cb)))
 else none))
 ((if 0≤(ai (((b.length:Nat):Int) - 1))∧(ai (((b.length:Nat):Int) - 1)) < ((b.length:Nat):Int) then
 ((fb N (b.getD ((ai (((b.length:Nat):Int) - 1)).toNat) 0)).bind fun bz =>
 ((pE N a bz).bind fun eR =>
 ((pE N b bz).bind fun fU =>
 (if 0≤b.length∧b.length≤fU.length then
 (if 0≤(ai (((eR.length:Nat):Int) - (((b.length - 0):Nat):Int)))∧(2:Int) * (ai (((eR.length:Nat):Int) - (((b.length - 0):Nat):Int)))≤281474976710656∧(ai (((eR.length:Nat):Int) - (((b.length - 0):Nat):Int)))≤9223372036854775807 then
 j6 N b bz fU N (List.replicate ((ai (((eR.length:Nat):Int) - (((b.length - 0):Nat):Int))).toNat) 0:List Int) eR (ai ((ai (((eR.length:Nat):Int) - (((b.length - 0):Nat):Int))) - 1))
 else none)
 else none))))
 else none))))))
def lC (N:Nat) (oW:(List Int)→(List Int)→Option ((List Int))):Nat→Int→Int→Option ((List Int))
 | 0,_,_=>none
 | fuel+1,x,y =>
  (cond (decide (y > 0))
  ((if (y:Int)≠0 then
  lC N oW fuel y (x.tmod y)
  else none))
  (((nC N x).bind fun tx =>
  some tx)))
def j7 (N:Nat):Nat→(List Int)→(List Int)→Option ((List Int))
 | 0,_,_=>none
 | fuel+1,a2,b2 =>
  (cond (decide (((b2.length:Nat):Int) > 0))
  (((vJ N a2).bind fun Ip =>
  ((vJ N b2).bind fun FZ =>
  (cond (cond Ip.2 FZ.2 false)
  (lC N (j7 N fuel) N Ip.1 FZ.1)
  (((pk N a2 b2).bind fun sM =>
  j7 N fuel b2 sM.2))))))
  (some a2))
def wY (N:Nat) (a:List Int) (b:List Int):Option ((List Int)) :=
 j7 N N a b
def mN (N:Nat) (a:bP) (b:bP) (x:List Int) (y:List Int):Option (aa) :=
 ((jK N (!(a.fG == b.fG)) x).bind fun Mt =>
 ((jK N false y).bind fun FY =>
 some (⟨Mt,FY⟩:aa)))
def jg (N:Nat) (a:bP) (b:bP):Option (aa) :=
 ((ia N a.fL).bind fun cb =>
 ((ia N b.fL).bind fun jU =>
 ((wY N cb jU).bind fun oX =>
 (if ((!(((oX.length:Nat):Int) != 1))=true→0≤(0:Int)∧0 < ((oX.length:Nat):Int)) then
 (cond (cond (((oX.length:Nat):Int) != 1) true ((oX.getD 0 0) != 1))
 (((pk N cb oX).bind fun sM =>
 ((pk N jU oX).bind fun BH =>
 mN N a b sM.1 BH.1)))
 (mN N a b cb jU))
 else none))))
def qH (N:Nat) (a:bP):Option (aa) :=
 ((jg N a (⟨false,([1]:List Int)⟩:bP)).bind fun Cr =>
 some Cr)
def gx (N:Nat) (n:Int):Option (aa) :=
 ((wX N n).bind fun Hc =>
 ((qH N Hc).bind fun AJ =>
 some AJ))
def tz (N:Nat) (a:bP):Option (Int) :=
 ((ia N a.fL).bind fun cb =>
 (cond (((cb.length:Nat):Int) == 0)
 (some 0)
 ((cond a.fG
 (some (-1))
 (some 1)))))
def kT (N:Nat) (x:aa):Option (bP) :=
 ((tz N x.fD).bind fun yD =>
 (cond (yD == 0)
 (some (⟨false,([1]:List Int)⟩:bP))
 (some x.fD)))
def lD (N:Nat) (x:aa):Option (aa) :=
 ((kT N x).bind fun jV =>
 ((jg N x.fN jV).bind fun Cr =>
 some Cr))
def sN (N:Nat) (a:bP):Option (bP) :=
 some (⟨(!a.fG),a.fL⟩:bP)
def gk (N:Nat) (x:aa):Option (aa) :=
 ((sN N x.fN).bind fun CQ =>
 ((kT N x).bind fun jV =>
 ((jg N CQ jV).bind fun Cr =>
 some Cr)))
def n6 (N:Nat) (n:Int) (l:List ab) (ax:aa) (t:List Int) (t2:List Int) (t3:List (List aa)) (t4:List aa) (x2:Int) (row:List aa) (x3:Int) (p9:(List aa)→Int→Option (l7)) (eI:(List Int)→(List (List aa))→(List aa)→Int→Option (l7)) (c7:aa):Option (l7) :=
 ((gk N c7).bind fun bg =>
 (if 0≤x3∧x3 < ((row.length:Nat):Int) then
 (if 0≤(ai (n+x3))∧(ai (n+x3)) < ((row.length:Nat):Int) then
 p9 ((row.set ((x3).toNat) bg).set ((ai (n+x3)).toNat) c7) (ai (x3+1))
 else none)
 else none))
def gl (N:Nat) (n:Int) (l:List ab) (ax:aa) (t:List Int) (t2:List Int) (t3:List (List aa)) (t4:List aa) (x2:Int) (eI:(List Int)→(List (List aa))→(List aa)→Int→Option (l7)):Nat→(List aa)→Int→Option (l7)
 | 0,_,_=>none
 | fuel+1,row,x3 =>
  (cond (decide (x3 < n))
  (((gx N 0).bind fun lX =>
  (cond (decide (x3 < ((((l.getD ((x2).toNat) ab.d).e8).length:Nat):Int)))
  ((if 0≤x3∧x3 < ((((l.getD ((x2).toNat) ab.d).e8).length:Nat):Int) then
  ((lD N (⟨((((l.getD ((x2).toNat) ab.d).e8).getD ((x3).toNat) aa.d).fN),((((l.getD ((x2).toNat) ab.d).e8).getD ((x3).toNat) aa.d).fD)⟩:aa)).bind fun wZ =>
  n6 N n l ax t t2 t3 t4 x2 row x3 (gl N n l ax t t2 t3 t4 x2 eI fuel) eI wZ)
  else none))
  (n6 N n l ax t t2 t3 t4 x2 row x3 (gl N n l ax t t2 t3 t4 x2 eI fuel) eI lX))))
  (((gx N 1).bind fun bX =>
  (if 0≤(ai (2 * n))∧(ai (2 * n)) < ((row.length:Nat):Int) then
  (if (t3.length+1) * 24≤140737488355328 then
  ((lD N (⟨(((l.getD ((x2).toNat) ab.d).ni).fN),(((l.getD ((x2).toNat) ab.d).ni).fD)⟩:aa)).bind fun eS =>
  (if (t4.length+1) * 64≤140737488355328 then
  eI (t2 ++ ([(ai ((ai (2 * n))+x2))]:List Int)) (t3 ++ [(row.set ((ai (2 * n)).toNat) bX)]) (t4 ++ ([eS]:List aa)) (ai (x2+1))
  else none))
  else none)
  else none))))
def lg (N:Nat) (n:Int) (l:List ab) (ax:aa) (t:List Int) (t2:List Int) (t3:List (List aa)) (t4:List aa):Nat→(List aa)→Int→Option (l7)
 | 0,_,_=>none
 | fuel+1,t5,x4 =>
  (cond (decide (x4 < (((List.replicate ((ai ((ai (2 * n))+1)).toNat) aa.d:List aa).length:Nat):Int)))
  (((gx N 0).bind fun qa =>
  (if 0≤x4∧x4 < ((t5.length:Nat):Int) then
  lg N n l ax t t2 t3 t4 fuel (t5.set ((x4).toNat) qa) (ai (x4+1))
  else none)))
  (some (⟨n,((l.length:Nat):Int),t2,(t ++ ([(ai ((ai (2 * n))+((l.length:Nat):Int)))]:List Int)),t3,t4,t5,ax,(ai ((ai (2 * n))+((l.length:Nat):Int)))⟩:l7)))
def jW (N:Nat) (n:Int) (l:List ab) (ax:aa) (t:List Int):Nat→(List Int)→(List (List aa))→(List aa)→Int→Option (l7)
 | 0,_,_,_,_=>none
 | fuel+1,t2,t3,t4,x2 =>
  (cond (decide (x2 < ((l.length:Nat):Int)))
  ((if 0≤x2∧x2 < ((l.length:Nat):Int) then
  (if (t2.length+1) * 8≤140737488355328 then
  (if 0≤(ai ((ai (2 * n))+1))∧(64:Int) * (ai ((ai (2 * n))+1))≤281474976710656∧(ai ((ai (2 * n))+1))≤9223372036854775807 then
  gl N n l ax t t2 t3 t4 x2 (jW N n l ax t fuel) N (List.replicate ((ai ((ai (2 * n))+1)).toNat) aa.d:List aa) 0
  else none)
  else none)
  else none))
  ((if 0≤(ai ((ai (2 * n))+1))∧(64:Int) * (ai ((ai (2 * n))+1))≤281474976710656∧(ai ((ai (2 * n))+1))≤9223372036854775807 then
  lg N n l ax t t2 t3 t4 N (List.replicate ((ai ((ai (2 * n))+1)).toNat) aa.d:List aa) 0
  else none)))
def lh (N:Nat) (n:Int) (l:List ab) (ax:aa):Nat→(List Int)→Int→Option (l7)
 | 0,_,_=>none
 | fuel+1,t,x =>
  (cond (decide (x < (ai (2 * n))))
  ((if (t.length+1) * 8≤140737488355328 then
  lh N n l ax fuel (t ++ ([x]:List Int)) (ai (x+1))
  else none))
  ((if (t.length+1) * 8≤140737488355328 then
  jW N n l ax t N ([]:List Int) ([]:List (List aa)) ([]:List aa) 0
  else none)))
def zD (N:Nat) (n:Int) (l:List ab):Option (l7) :=
 ((gx N 0).bind fun ax =>
 lh N n l ax N ([]:List Int) 0)
def nG (N:Nat) (x:aa):Option (Int) :=
 ((tz N x.fN).bind fun yD =>
 ((kT N x).bind fun jV =>
 ((tz N jV).bind fun Mx =>
 some (ai (yD * Mx)))))
def ic (N:Nat) (x:aa):Option (Bool) :=
 ((tz N x.fN).bind fun yD =>
 some (yD == 0))
def lj (N:Nat) (a:List Int) (b:List Int) (x:Int) (nH:(List Int)→Int→Option ((List Int))):Nat→(List Int)→Int→Int→Option ((List Int))
 | 0,_,_,_=>none
 | fuel+1,gy,carry,x2 =>
  (cond (decide (x2 < ((b.length:Nat):Int)))
  ((if 0≤x2∧x2 < ((b.length:Nat):Int) then
  (if 0≤(ai (x+x2))∧(ai (x+x2)) < ((gy.length:Nat):Int) then
  lj N a b x nH fuel (gy.set ((ai (x+x2)).toNat) (IntKind.u16.wrap ((IntKind.u32.wrap (carry+(IntKind.u32.wrap ((IntKind.u32.wrap ((IntKind.u32.wrap ((a.getD ((x).toNat) 0))) * (IntKind.u32.wrap ((b.getD ((x2).toNat) 0)))))+(IntKind.u32.wrap ((gy.getD ((ai (x+x2)).toNat) 0)))))))))) (oB .u32 (IntKind.u32.wrap (carry+(IntKind.u32.wrap ((IntKind.u32.wrap ((IntKind.u32.wrap ((a.getD ((x).toNat) 0))) * (IntKind.u32.wrap ((b.getD ((x2).toNat) 0)))))+(IntKind.u32.wrap ((gy.getD ((ai (x+x2)).toNat) 0))))))) 16) (ai (x2+1))
  else none)
  else none))
  ((if 0≤(ai (x+((b.length:Nat):Int)))∧(ai (x+((b.length:Nat):Int))) < ((gy.length:Nat):Int) then
  nH (gy.set ((ai (x+((b.length:Nat):Int))).toNat) (IntKind.u16.wrap (carry))) (ai (x+1))
  else none)))
def lk (N:Nat) (a:List Int) (b:List Int):Nat→(List Int)→Int→Option ((List Int))
 | 0,_,_=>none
 | fuel+1,out,x =>
  (cond (decide (x < ((a.length:Nat):Int)))
  ((if 0≤x∧x < ((a.length:Nat):Int) then
  lj N a b x (lk N a b fuel) N out 0 0
  else none))
  (((ia N out).bind fun cb =>
  some cb)))
def th (N:Nat) (a:List Int) (b:List Int):Option ((List Int)) :=
 (if 0≤(ai (((a.length:Nat):Int)+((b.length:Nat):Int)))∧(2:Int) * (ai (((a.length:Nat):Int)+((b.length:Nat):Int)))≤281474976710656∧(ai (((a.length:Nat):Int)+((b.length:Nat):Int)))≤9223372036854775807 then
 lk N a b N (List.replicate ((ai (((a.length:Nat):Int)+((b.length:Nat):Int))).toNat) 0:List Int) 0
 else none)
def qc (N:Nat) (a:bP) (b:bP):Option (bP) :=
 ((ia N a.fL).bind fun cb =>
 ((ia N b.fL).bind fun jU =>
 ((th N cb jU).bind fun rO =>
 ((jK N (!(a.fG == b.fG)) rO).bind fun Mt =>
 some Mt))))
def pF (N:Nat) (a2:List Int) (b2:List Int) (out:List Int) (x:Int) (qU:(List Int)→Int→Int→Option ((List Int))) (fP:Int):Option ((List Int)) :=
 (if (out.length+1) * 2≤140737488355328 then
 qU (out ++ ([(IntKind.u16.wrap (fP))]:List Int)) (oB .u32 fP 16) (ai (x+1))
 else none)
def j8 (N:Nat) (a2:List Int) (b2:List Int):Nat→(List Int)→Int→Int→Option ((List Int))
 | 0,_,_,_=>none
 | fuel+1,out,carry,x =>
  (cond (decide (x < ((a2.length:Nat):Int)))
  ((if 0≤x∧x < ((a2.length:Nat):Int) then
  (cond (decide (x < ((b2.length:Nat):Int)))
  ((if 0≤x∧x < ((b2.length:Nat):Int) then
  pF N a2 b2 out x (j8 N a2 b2 fuel) (IntKind.u32.wrap ((IntKind.u32.wrap (carry+(IntKind.u32.wrap ((a2.getD ((x).toNat) 0)))))+(IntKind.u32.wrap ((b2.getD ((x).toNat) 0)))))
  else none))
  (pF N a2 b2 out x (j8 N a2 b2 fuel) (IntKind.u32.wrap (carry+(IntKind.u32.wrap ((a2.getD ((x).toNat) 0)))))))
  else none))
  ((if (out.length+1) * 2≤140737488355328 then
  ((ia N (out ++ ([(IntKind.u16.wrap (carry))]:List Int))).bind fun cb =>
  some cb)
  else none)))
def pG (N:Nat) (a2:List Int) (b2:List Int):Option ((List Int)) :=
 (if 0≤(0:Int)∧(2:Int) * (ai (((a2.length:Nat):Int)+1))≤281474976710656∧(ai (((a2.length:Nat):Int)+1))≤9223372036854775807∧(0:Int)≤(ai (((a2.length:Nat):Int)+1)) then
 j8 N a2 b2 N (List.replicate 0 0:List Int) 0 0
 else none)
def vM (N:Nat) (a:List Int) (b:List Int):Option ((List Int)) :=
 (cond (decide (((a.length:Nat):Int) < ((b.length:Nat):Int)))
 (pG N b a)
 (pG N a b))
def n7 (N:Nat) (a:List Int) (b:List Int) (out:List Int) (x:Int) (y:Int) (fY:(List Int)→Int→Int→Option ((List Int))) (kL:Int):Option ((List Int)) :=
 (if 0≤x∧x < ((out.length:Nat):Int) then
 fY (out.set ((x).toNat) (IntKind.u16.wrap ((IntKind.u32.wrap ((IntKind.u32.wrap ((IntKind.u32.wrap ((a.getD ((x).toNat) 0)))+(hO .u32 kL 16))) - y))))) kL (ai (x+1))
 else none)
def n8 (N:Nat) (a:List Int) (b:List Int) (out:List Int) (x:Int) (fY:(List Int)→Int→Int→Option ((List Int))) (y:Int):Option ((List Int)) :=
 (cond (decide ((IntKind.u32.wrap ((a.getD ((x).toNat) 0))) < y))
 (n7 N a b out x y fY 1)
 (n7 N a b out x y fY 0))
def ig (N:Nat) (a:List Int) (b:List Int):Nat→(List Int)→Int→Int→Option ((List Int))
 | 0,_,_,_=>none
 | fuel+1,out,borrow,x =>
  (cond (decide (x < ((a.length:Nat):Int)))
  ((if 0≤x∧x < ((a.length:Nat):Int) then
  (cond (decide (x < ((b.length:Nat):Int)))
  ((if 0≤x∧x < ((b.length:Nat):Int) then
  n8 N a b out x (ig N a b fuel) (IntKind.u32.wrap (borrow+(IntKind.u32.wrap ((b.getD ((x).toNat) 0)))))
  else none))
  (n8 N a b out x (ig N a b fuel) borrow))
  else none))
  (((ia N out).bind fun cb =>
  some cb)))
def qI (N:Nat) (a:List Int) (b:List Int):Option ((List Int)) :=
 (if 0≤((a.length:Nat):Int)∧(2:Int) * ((a.length:Nat):Int)≤281474976710656∧((a.length:Nat):Int)≤9223372036854775807 then
 ig N a b N (List.replicate a.length 0:List Int) 0 0
 else none)
def BI (N:Nat) (a:bP) (b:bP):Option (bP) :=
 ((ia N a.fL).bind fun cb =>
 ((ia N b.fL).bind fun jU =>
 (cond (a.fG == b.fG)
 (((vM N cb jU).bind fun F0 =>
 ((jK N a.fG F0).bind fun Mt =>
 some Mt)))
 (((nF N cb jU).bind fun kB =>
 (cond (decide (kB≥0))
 (((qI N cb jU).bind fun tA =>
 ((jK N a.fG tA).bind fun FY =>
 some FY)))
 (((qI N jU cb).bind fun w5 =>
 ((jK N b.fG w5).bind fun VK =>
 some VK)))))))))
def fc (N:Nat) (x:aa) (y:aa):Option (aa) :=
 ((ic N x).bind fun gn =>
 (cond gn
 (((lD N y).bind fun wZ =>
 some wZ))
 (((ic N y).bind fun tB =>
 (cond tB
 (((lD N x).bind fun eS =>
 some eS))
 (((kT N x).bind fun jV =>
 ((kT N y).bind fun oY =>
 ((qc N x.fN oY).bind fun tC =>
 ((qc N y.fN jV).bind fun nI =>
 ((BI N tC nI).bind fun My =>
 ((qc N jV oY).bind fun F1 =>
 ((jg N My F1).bind fun Cr =>
 some Cr)))))))))))))
def fe (N:Nat) (x:aa) (y:aa):Option (aa) :=
 ((gk N y).bind fun bg =>
 ((fc N x bg).bind fun bO =>
 some bO))
def gz (N:Nat) (x:aa) (y:aa):Option (Int) :=
 ((fe N x y).bind fun av =>
 ((nG N av).bind fun aL =>
 some aL))
def rl (N:Nat) (x:aa) (y:aa):Option (aa) :=
 ((kT N y).bind fun jV =>
 ((qc N x.fN jV).bind fun tC =>
 ((kT N x).bind fun oY =>
 ((qc N oY y.fN).bind fun nI =>
 ((jg N tC nI).bind fun Cr =>
 some Cr)))))
def dQ (N:Nat) (x:aa) (y:aa):Option (aa) :=
 ((qc N x.fN y.fN).bind fun tC =>
 ((kT N x).bind fun jV =>
 ((kT N y).bind fun oY =>
 ((qc N jV oY).bind fun nI =>
 ((jg N tC nI).bind fun Cr =>
 some Cr)))))
def kC (N:Nat) (j:Int) (f:aa) (C0:List aa) (x:Int) (ll:(List aa)→Int→Option ((List aa))) (cr:List aa):Option ((List aa)) :=
 ll cr (ai (x+1))
def gA (N:Nat) (j:Int) (f:aa) (C0:List aa):Nat→(List aa)→Int→Option ((List aa))
 | 0,_,_=>none
 | fuel+1,bE,x =>
  (cond (decide (x < ((C0.length:Nat):Int)))
  ((cond (x == j)
  ((if 0≤x∧x < ((bE.length:Nat):Int) then
  ((dQ N f (⟨((bE.getD ((x).toNat) aa.d).fN),((bE.getD ((x).toNat) aa.d).fD)⟩:aa)).bind fun cE =>
  kC N j f C0 x (gA N j f C0 fuel) (bE.set ((x).toNat) cE))
  else none))
  ((if 0≤x∧x < ((bE.length:Nat):Int) then
  ((ic N (⟨((bE.getD ((x).toNat) aa.d).fN),((bE.getD ((x).toNat) aa.d).fD)⟩:aa)).bind fun gn =>
  (cond (!gn)
  (((dQ N f (⟨((bE.getD ((x).toNat) aa.d).fN),((bE.getD ((x).toNat) aa.d).fD)⟩:aa)).bind fun dG =>
  ((fc N (⟨((bE.getD ((x).toNat) aa.d).fN),((bE.getD ((x).toNat) aa.d).fD)⟩:aa) dG).bind fun bO =>
  kC N j f C0 x (gA N j f C0 fuel) (bE.set ((x).toNat) bO))))
  (kC N j f C0 x (gA N j f C0 fuel) bE)))
  else none))))
  (some bE))
def rP (N:Nat) (j:Int) (f:aa) (C0:List aa):Option ((List aa)) :=
 gA N j f C0 N C0 0
def fV (N:Nat) (j:Int) (f:aa) (C0:List aa) (C1:List aa) (x:Int) (jA:(List aa)→Int→Option ((List aa))) (cr:List aa):Option ((List aa)) :=
 jA cr (ai (x+1))
def cL (N:Nat) (j:Int) (f:aa) (C0:List aa) (C1:List aa):Nat→(List aa)→Int→Option ((List aa))
 | 0,_,_=>none
 | fuel+1,bE,x =>
  (cond (decide (x < ((C0.length:Nat):Int)))
  ((cond (x == j)
  ((if 0≤x∧x < ((C1.length:Nat):Int) then
  ((dQ N f (⟨((C1.getD ((x).toNat) aa.d).fN),((C1.getD ((x).toNat) aa.d).fD)⟩:aa)).bind fun cE =>
  (if 0≤x∧x < ((bE.length:Nat):Int) then
  fV N j f C0 C1 x (cL N j f C0 C1 fuel) (bE.set ((x).toNat) cE)
  else none))
  else none))
  ((if 0≤x∧x < ((C1.length:Nat):Int) then
  ((ic N (⟨((C1.getD ((x).toNat) aa.d).fN),((C1.getD ((x).toNat) aa.d).fD)⟩:aa)).bind fun gn =>
  (cond (!gn)
  ((if 0≤x∧x < ((bE.length:Nat):Int) then
  ((dQ N f (⟨((C1.getD ((x).toNat) aa.d).fN),((C1.getD ((x).toNat) aa.d).fD)⟩:aa)).bind fun dG =>
  ((fc N (⟨((bE.getD ((x).toNat) aa.d).fN),((bE.getD ((x).toNat) aa.d).fD)⟩:aa) dG).bind fun bO =>
  fV N j f C0 C1 x (cL N j f C0 C1 fuel) (bE.set ((x).toNat) bO)))
  else none))
  (fV N j f C0 C1 x (cL N j f C0 C1 fuel) bE)))
  else none))))
  (some bE))
def iZ (N:Nat) (j:Int) (f:aa) (C0:List aa) (C1:List aa):Option ((List aa)) :=
 cL N j f C0 C1 N C0 0
def jt (N:Nat) (i:Int) (j:Int) (C0:Int) (bE:Int) (cr:Bool) (dn:List Int) (dw:Bool) (dx:List Int) (dk:Int) (C1:List Int) (C2:List Int) (C3:List (List aa)) (C4:List aa) (C5:List aa) (x:Int) (jX:(List aa)→Int→Option (l7×(List Int)×(List Int)×(List (List aa))×(List aa)×(List aa))) (F2:List aa):Option (l7×(List Int)×(List Int)×(List (List aa))×(List aa)×(List aa)) :=
 jX F2 (ai (x+1))
def dH (N:Nat) (i:Int) (j:Int) (C0:Int) (bE:Int) (cr:Bool) (dn:List Int) (dw:Bool) (dx:List Int) (dk:Int) (C1:List Int) (C2:List Int) (C3:List (List aa)) (C5:List aa) (x2:Int) (jY:(List (List aa))→(List aa)→(List aa)→Int→Option (l7×(List Int)×(List Int)×(List (List aa))×(List aa)×(List aa))) (lP:List (List aa)) (F3:List aa) (qd:List aa):Option (l7×(List Int)×(List Int)×(List (List aa))×(List aa)×(List aa)) :=
 jY lP F3 qd (ai (x2+1))
def gF (N:Nat) (i:Int) (j:Int) (C0:Int) (bE:Int) (dk:Int) (C1:List Int) (C2:List Int) (cm:List (List aa)) (bZ:List aa) (oD:List aa) (gG:List aa) (qw:Bool) (qx:List Int) (uf:Bool) (ug:List Int):Option (l7×(List Int)×(List Int)×(List (List aa))×(List aa)×(List aa)) :=
 (if 0≤j∧j < ((C2.length:Nat):Int) then
 (if 0≤i∧i < ((C1.length:Nat):Int) then
 some ((⟨C0,bE,(C1.set ((i).toNat) (C2.getD ((j).toNat) 0)),(C2.set ((j).toNat) (C1.getD ((i).toNat) 0)),(cm.set ((i).toNat) bZ),oD,gG,(⟨(⟨qw,qx⟩:bP),(⟨uf,ug⟩:bP)⟩:aa),dk⟩:l7),(C1.set ((i).toNat) (C2.getD ((j).toNat) 0)),(C2.set ((j).toNat) (C1.getD ((i).toNat) 0)),(cm.set ((i).toNat) bZ),oD,gG)
 else none)
 else none)
def cn (N:Nat) (i:Int) (j:Int) (C0:Int) (bE:Int) (cr:Bool) (dn:List Int) (dw:Bool) (dx:List Int) (dk:Int) (C1:List Int) (C2:List Int) (C3:List (List aa)) (C5:List aa):Nat→(List (List aa))→(List aa)→(List aa)→Int→Option (l7×(List Int)×(List Int)×(List (List aa))×(List aa)×(List aa))
 | 0,_,_,_,_=>none
 | fuel+1,cm,bZ,oD,x2 =>
  (cond (decide (x2 < ((C3.length:Nat):Int)))
  ((cond (decide ((x2).toNat=(i).toNat))
  ((if 0≤x2∧x2 < ((cm.length:Nat):Int) then
  (if 0≤j∧j < ((bZ.length:Nat):Int) then
  ((cond (x2 != i) (ic N (⟨((bZ.getD ((j).toNat) aa.d).fN),((bZ.getD ((j).toNat) aa.d).fD)⟩:aa)) (some false)).bind fun gn =>
  (cond (cond (x2 != i) (!gn) false)
  ((if 0≤x2∧x2 < ((oD.length:Nat):Int) then
  (if 0≤i∧i < ((oD.length:Nat):Int) then
  ((dQ N (⟨((bZ.getD ((j).toNat) aa.d).fN),((bZ.getD ((j).toNat) aa.d).fD)⟩:aa) (⟨((oD.getD ((i).toNat) aa.d).fN),((oD.getD ((i).toNat) aa.d).fD)⟩:aa)).bind fun cE =>
  ((fc N (⟨((oD.getD ((x2).toNat) aa.d).fN),((oD.getD ((x2).toNat) aa.d).fD)⟩:aa) cE).bind fun bO =>
  (cond (decide ((x2).toNat=(i).toNat))
  (((rP N j (⟨((bZ.getD ((j).toNat) aa.d).fN),((bZ.getD ((j).toNat) aa.d).fD)⟩:aa) bZ).bind fun Hm =>
  (if Hm.length=bZ.length then
  dH N i j C0 bE cr dn dw dx dk C1 C2 C3 C5 x2 (cn N i j C0 bE cr dn dw dx dk C1 C2 C3 C5 fuel) cm Hm (oD.set ((x2).toNat) bO)
  else none)))
  ((if (x2).toNat < cm.length then
  ((iZ N j (⟨((bZ.getD ((j).toNat) aa.d).fN),((bZ.getD ((j).toNat) aa.d).fD)⟩:aa) (cm.getD ((x2).toNat) []) bZ).bind fun nJ =>
  (if nJ.length=(cm.getD ((x2).toNat) []).length then
  dH N i j C0 bE cr dn dw dx dk C1 C2 C3 C5 x2 (cn N i j C0 bE cr dn dw dx dk C1 C2 C3 C5 fuel) (cm.set ((x2).toNat) nJ) bZ (oD.set ((x2).toNat) bO)
  else none))
  else none)))))
  else none)
  else none))
  (dH N i j C0 bE cr dn dw dx dk C1 C2 C3 C5 x2 (cn N i j C0 bE cr dn dw dx dk C1 C2 C3 C5 fuel) cm bZ oD)))
  else none)
  else none))
  ((if (x2).toNat < cm.length then
  (if 0≤x2∧x2 < ((cm.length:Nat):Int) then
  (if 0≤j∧j < (((cm.getD ((x2).toNat) []).length:Nat):Int) then
  ((cond (x2 != i) (ic N (⟨(((cm.getD ((x2).toNat) []).getD ((j).toNat) aa.d).fN),(((cm.getD ((x2).toNat) []).getD ((j).toNat) aa.d).fD)⟩:aa)) (some false)).bind fun tB =>
  (cond (cond (x2 != i) (!tB) false)
  ((if 0≤x2∧x2 < ((oD.length:Nat):Int) then
  (if 0≤i∧i < ((oD.length:Nat):Int) then
  ((dQ N (⟨(((cm.getD ((x2).toNat) []).getD ((j).toNat) aa.d).fN),(((cm.getD ((x2).toNat) []).getD ((j).toNat) aa.d).fD)⟩:aa) (⟨((oD.getD ((i).toNat) aa.d).fN),((oD.getD ((i).toNat) aa.d).fD)⟩:aa)).bind fun dG =>
  ((fc N (⟨((oD.getD ((x2).toNat) aa.d).fN),((oD.getD ((x2).toNat) aa.d).fD)⟩:aa) dG).bind fun ju =>
  ((iZ N j (⟨(((cm.getD ((x2).toNat) []).getD ((j).toNat) aa.d).fN),(((cm.getD ((x2).toNat) []).getD ((j).toNat) aa.d).fD)⟩:aa) (cm.getD ((x2).toNat) []) bZ).bind fun nL =>
  (if nL.length=(cm.getD ((x2).toNat) []).length then
  dH N i j C0 bE cr dn dw dx dk C1 C2 C3 C5 x2 (cn N i j C0 bE cr dn dw dx dk C1 C2 C3 C5 fuel) (cm.set ((x2).toNat) nL) bZ (oD.set ((x2).toNat) ju)
  else none))))
  else none)
  else none))
  (dH N i j C0 bE cr dn dw dx dk C1 C2 C3 C5 x2 (cn N i j C0 bE cr dn dw dx dk C1 C2 C3 C5 fuel) cm bZ oD)))
  else none)
  else none)
  else none))))
  ((if 0≤j∧j < ((C5.length:Nat):Int) then
  ((ic N (⟨((C5.getD ((j).toNat) aa.d).fN),((C5.getD ((j).toNat) aa.d).fD)⟩:aa)).bind fun F4 =>
  (cond (!F4)
  ((if 0≤i∧i < ((oD.length:Nat):Int) then
  ((dQ N (⟨((C5.getD ((j).toNat) aa.d).fN),((C5.getD ((j).toNat) aa.d).fD)⟩:aa) (⟨((oD.getD ((i).toNat) aa.d).fN),((oD.getD ((i).toNat) aa.d).fD)⟩:aa)).bind fun ij =>
  ((fc N (⟨(⟨cr,dn⟩:bP),(⟨dw,dx⟩:bP)⟩:aa) ij).bind fun ln =>
  ((iZ N j (⟨((C5.getD ((j).toNat) aa.d).fN),((C5.getD ((j).toNat) aa.d).fD)⟩:aa) C5 bZ).bind fun Iq =>
  (if Iq.length=C5.length then
  (if (i).toNat < cm.length then
  gF N i j C0 bE dk C1 C2 cm bZ oD Iq ln.fN.fG ln.fN.fL ln.fD.fG ln.fD.fL
  else none)
  else none))))
  else none))
  ((if (i).toNat < cm.length then
  gF N i j C0 bE dk C1 C2 cm bZ oD C5 cr dn dw dx
  else none))))
  else none)))
def dI (N:Nat) (i:Int) (j:Int) (C0:Int) (bE:Int) (cr:Bool) (dn:List Int) (dw:Bool) (dx:List Int) (dk:Int) (C1:List Int) (C2:List Int) (C3:List (List aa)) (C4:List aa) (C5:List aa):Nat→(List aa)→Int→Option (l7×(List Int)×(List Int)×(List (List aa))×(List aa)×(List aa))
 | 0,_,_=>none
 | fuel+1,tD,x =>
  (cond (decide (x < (((C3.getD ((i).toNat) []).length:Nat):Int)))
  ((cond (x != j)
  ((if 0≤x∧x < ((tD.length:Nat):Int) then
  ((rl N (⟨((tD.getD ((x).toNat) aa.d).fN),((tD.getD ((x).toNat) aa.d).fD)⟩:aa) (⟨(((C3.getD ((i).toNat) []).getD ((j).toNat) aa.d).fN),(((C3.getD ((i).toNat) []).getD ((j).toNat) aa.d).fD)⟩:aa)).bind fun kD =>
  ((gk N kD).bind fun bg =>
  jt N i j C0 bE cr dn dw dx dk C1 C2 C3 C4 C5 x (dI N i j C0 bE cr dn dw dx dk C1 C2 C3 C4 C5 fuel) (tD.set ((x).toNat) bg)))
  else none))
  (jt N i j C0 bE cr dn dw dx dk C1 C2 C3 C4 C5 x (dI N i j C0 bE cr dn dw dx dk C1 C2 C3 C4 C5 fuel) tD)))
  (((gx N 1).bind fun ax =>
  ((rl N ax (⟨(((C3.getD ((i).toNat) []).getD ((j).toNat) aa.d).fN),(((C3.getD ((i).toNat) []).getD ((j).toNat) aa.d).fD)⟩:aa)).bind fun kP =>
  (if 0≤j∧j < ((tD.length:Nat):Int) then
  (if 0≤i∧i < ((C4.length:Nat):Int) then
  ((rl N (⟨((C4.getD ((i).toNat) aa.d).fN),((C4.getD ((i).toNat) aa.d).fD)⟩:aa) (⟨(((C3.getD ((i).toNat) []).getD ((j).toNat) aa.d).fN),(((C3.getD ((i).toNat) []).getD ((j).toNat) aa.d).fD)⟩:aa)).bind fun Mz =>
  ((gk N Mz).bind fun me =>
  cn N i j C0 bE cr dn dw dx dk C1 C2 C3 C5 N C3 (tD.set ((j).toNat) kP) (C4.set ((i).toNat) me) 0))
  else none)
  else none)))))
def jB (N:Nat) (i:Int) (j:Int) (C0:Int) (bE:Int) (cr:Bool) (dn:List Int) (dw:Bool) (dx:List Int) (dk:Int) (C1:List Int) (C2:List Int) (C3:List (List aa)) (C4:List aa) (C5:List aa):Option (l7×(List Int)×(List Int)×(List (List aa))×(List aa)×(List aa)) :=
 (if (i).toNat < C3.length then
 (if 0≤i∧i < ((C3.length:Nat):Int) then
 (if 0≤j∧j < (((C3.getD ((i).toNat) []).length:Nat):Int) then
 dI N i j C0 bE cr dn dw dx dk C1 C2 C3 C4 C5 N (C3.getD ((i).toNat) []) 0
 else none)
 else none)
 else none)
def gH (N:Nat) (C0:Int) (bE:Int) (cr:Bool) (dn:List Int) (dw:Bool) (dx:List Int) (dk:Int) (C1:List Int) (C2:List Int) (C3:List (List aa)) (C4:List aa) (C5:List aa) (x:Int) (iK:Int→Int→Option (Int)) (yE:Int):Option (Int) :=
 iK yE (ai (x+1))
def bL (N:Nat) (C0:Int) (bE:Int) (cr:Bool) (dn:List Int) (dw:Bool) (dx:List Int) (dk:Int) (C1:List Int) (C2:List Int) (C3:List (List aa)) (C4:List aa) (C5:List aa):Nat→Int→Int→Option (Int)
 | 0,_,_=>none
 | fuel+1,dN,x =>
  (cond (decide (x < ((C2.length:Nat):Int)))
  ((if 0≤x∧x < ((C5.length:Nat):Int) then
  ((nG N (⟨((C5.getD ((x).toNat) aa.d).fN),((C5.getD ((x).toNat) aa.d).fD)⟩:aa)).bind fun aL =>
  (if (((decide (aL > 0)) && ((decide (aL > 0)) && (!(decide (dN < 0)))))=true→0≤x∧x < ((C2.length:Nat):Int)) then
  (if (((decide (aL > 0)) && ((decide (aL > 0)) && (!(decide (dN < 0)))))=true→0≤dN∧dN < ((C2.length:Nat):Int)) then
  (cond (cond (decide (aL > 0)) (cond (decide (dN < 0)) true (decide ((C2.getD ((x).toNat) 0) < (C2.getD ((dN).toNat) 0)))) false)
  (gH N C0 bE cr dn dw dx dk C1 C2 C3 C4 C5 x (bL N C0 bE cr dn dw dx dk C1 C2 C3 C4 C5 fuel) x)
  (gH N C0 bE cr dn dw dx dk C1 C2 C3 C4 C5 x (bL N C0 bE cr dn dw dx dk C1 C2 C3 C4 C5 fuel) dN))
  else none)
  else none))
  else none))
  (some dN))
def lp (N:Nat) (C0:Int) (bE:Int) (cr:Bool) (dn:List Int) (dw:Bool) (dx:List Int) (dk:Int) (C1:List Int) (C2:List Int) (C3:List (List aa)) (C4:List aa) (C5:List aa):Option (Int) :=
 bL N C0 bE cr dn dw dx dk C1 C2 C3 C4 C5 N (-1) 0
def eE (N:Nat) (j:Int) (C0:Int) (bE:Int) (cr:Bool) (dn:List Int) (dw:Bool) (dx:List Int) (dk:Int) (C1:List Int) (C2:List Int) (C3:List (List aa)) (C4:List aa) (C5:List aa) (x:Int) (b9:Int→aa→Int→Option (Int)) (yE:Int) (bH:aa):Option (Int) :=
 b9 yE bH (ai (x+1))
def fE (N:Nat) (j:Int) (C0:Int) (bE:Int) (cr:Bool) (dn:List Int) (dw:Bool) (dx:List Int) (dk:Int) (C1:List Int) (C2:List Int) (C3:List (List aa)) (C4:List aa) (C5:List aa) (dN:Int) (least:aa) (x:Int) (kD:aa) (b9:Int→aa→Int→Option (Int)) (c7:Int):Option (Int) :=
 (if (((!(decide (c7 < 0))) && ((!(decide (c7 < 0))) && (c7 == 0)))=true→0≤x∧x < ((C1.length:Nat):Int)) then
 (if (((!(decide (c7 < 0))) && ((!(decide (c7 < 0))) && (c7 == 0)))=true→0≤dN∧dN < ((C1.length:Nat):Int)) then
 (cond (cond (decide (c7 < 0)) true (cond (c7 == 0) (decide ((C1.getD ((x).toNat) 0) < (C1.getD ((dN).toNat) 0))) false))
 (eE N j C0 bE cr dn dw dx dk C1 C2 C3 C4 C5 x b9 x kD)
 (eE N j C0 bE cr dn dw dx dk C1 C2 C3 C4 C5 x b9 dN least))
 else none)
 else none)
def bT (N:Nat) (j:Int) (C0:Int) (bE:Int) (cr:Bool) (dn:List Int) (dw:Bool) (dx:List Int) (dk:Int) (C1:List Int) (C2:List Int) (C3:List (List aa)) (C4:List aa) (C5:List aa):Nat→Int→aa→Int→Option (Int)
 | 0,_,_,_=>none
 | fuel+1,dN,least,x =>
  (cond (decide (x < ((C1.length:Nat):Int)))
  ((if (x).toNat < C3.length then
  (if 0≤x∧x < ((C3.length:Nat):Int) then
  (if 0≤j∧j < (((C3.getD ((x).toNat) []).length:Nat):Int) then
  ((nG N (⟨(((C3.getD ((x).toNat) []).getD ((j).toNat) aa.d).fN),(((C3.getD ((x).toNat) []).getD ((j).toNat) aa.d).fD)⟩:aa)).bind fun aL =>
  (cond (decide (aL≥0))
  (eE N j C0 bE cr dn dw dx dk C1 C2 C3 C4 C5 x (bT N j C0 bE cr dn dw dx dk C1 C2 C3 C4 C5 fuel) dN least)
  ((if 0≤x∧x < ((C4.length:Nat):Int) then
  ((gk N (⟨(((C3.getD ((x).toNat) []).getD ((j).toNat) aa.d).fN),(((C3.getD ((x).toNat) []).getD ((j).toNat) aa.d).fD)⟩:aa)).bind fun bg =>
  ((rl N (⟨((C4.getD ((x).toNat) aa.d).fN),((C4.getD ((x).toNat) aa.d).fD)⟩:aa) bg).bind fun kD =>
  (cond (decide (dN≥0))
  (((gz N kD least).bind fun fS =>
  fE N j C0 bE cr dn dw dx dk C1 C2 C3 C4 C5 dN least x kD (bT N j C0 bE cr dn dw dx dk C1 C2 C3 C4 C5 fuel) fS))
  (fE N j C0 bE cr dn dw dx dk C1 C2 C3 C4 C5 dN least x kD (bT N j C0 bE cr dn dw dx dk C1 C2 C3 C4 C5 fuel) (-1)))))
  else none))))
  else none)
  else none)
  else none))
  (some dN))
def lQ (N:Nat) (j:Int) (C0:Int) (bE:Int) (cr:Bool) (dn:List Int) (dw:Bool) (dx:List Int) (dk:Int) (C1:List Int) (C2:List Int) (C3:List (List aa)) (C4:List aa) (C5:List aa):Option (Int) :=
 bT N j C0 bE cr dn dw dx dk C1 C2 C3 C4 C5 N (-1) (⟨(⟨false,([]:List Int)⟩:bP),(⟨false,([]:List Int)⟩:bP)⟩:aa) 0
def dJ (N:Nat):Nat→Int→Int→(List Int)→(List Int)→(List (List aa))→(List aa)→(List aa)→Bool→(List Int)→Bool→(List Int)→Int→Option (Int×l7×(List Int)×(List Int)×(List (List aa))×(List aa)×(List aa))
 | 0,_,_,_,_,_,_,_,_,_,_,_,_=>none
 | fuel+1,cm,oD,lP,qd,gG,qw,qx,uf,ug,z5,z6,yF =>
  ((lp N cm oD uf ug z5 z6 yF lP qd gG qw qx).bind fun ti =>
  (cond (decide (ti < 0))
  (some ((-1),(⟨cm,oD,lP,qd,gG,qw,qx,(⟨(⟨uf,ug⟩:bP),(⟨z5,z6⟩:bP)⟩:aa),yF⟩:l7),lP,qd,gG,qw,qx))
  (((lQ N ti cm oD uf ug z5 z6 yF lP qd gG qw qx).bind fun BJ =>
  (cond (decide (BJ < 0))
  (some (ti,(⟨cm,oD,lP,qd,gG,qw,qx,(⟨(⟨uf,ug⟩:bP),(⟨z5,z6⟩:bP)⟩:aa),yF⟩:l7),lP,qd,gG,qw,qx))
  (((jB N BJ ti cm oD uf ug z5 z6 yF lP qd gG qw qx).bind fun bD =>
  (if bD.2.1.length=lP.length then
  (if bD.2.2.1.length=qd.length then
  (if bD.2.2.2.1.length=gG.length then
  (if bD.2.2.2.2.1.length=qw.length then
  (if bD.2.2.2.2.2.length=qx.length then
  dJ N fuel bD.1.xQ bD.1.xR bD.2.1 bD.2.2.1 bD.2.2.2.1 bD.2.2.2.2.1 bD.2.2.2.2.2 bD.1.ak.fN.fG bD.1.ak.fN.fL bD.1.ak.fD.fG bD.1.ak.fD.fL bD.1.cy
  else none)
  else none)
  else none)
  else none)
  else none))))))))
def qe (N:Nat) (C0:Int) (bE:Int) (cr:Bool) (dn:List Int) (dw:Bool) (dx:List Int) (dk:Int) (C1:List Int) (C2:List Int) (C3:List (List aa)) (C4:List aa) (C5:List aa):Option (Int×l7×(List Int)×(List Int)×(List (List aa))×(List aa)×(List aa)) :=
 dJ N N C0 bE C1 C2 C3 C4 C5 cr dn dw dx dk
def cw (N:Nat) (s:List Int) (v:Int):Nat→Int→Option (Int)
 | 0,_=>none
 | fuel+1,x =>
  (cond (decide (x < ((s.length:Nat):Int)))
  ((if 0≤x∧x < ((s.length:Nat):Int) then
  (cond (v == (s.getD ((x).toNat) 0))
  (some x)
  (cw N s v fuel (ai (x+1))))
  else none))
  (some (-1)))
def eF (N:Nat) (s:List Int) (v:Int):Option (Int) :=
 cw N s v N 0
def lq (N:Nat) (x:aa):Option (Bool) :=
 ((ic N x).bind fun gn =>
 some (!gn))
def cx (N:Nat) (s:List aa):Nat→Int→Option (Int)
 | 0,_=>none
 | fuel+1,x =>
  (cond (decide (x < ((s.length:Nat):Int)))
  ((if 0≤x∧x < ((s.length:Nat):Int) then
  ((lq N (⟨((s.getD ((x).toNat) aa.d).fN),((s.getD ((x).toNat) aa.d).fD)⟩:aa)).bind fun F5 =>
  (cond F5
  (some x)
  (cx N s fuel (ai (x+1)))))
  else none))
  (some (-1)))
def jZ (N:Nat) (s:List aa):Option (Int) :=
 cx N s N 0
def jC (N:Nat) (i:Int) (j:Int) (C0:List Int):Option ((List Int)×(List Int)) :=
 (if 0≤i∧i≤j∧j≤((C0.length:Nat):Int)∧((C0.length:Nat):Int)≤((C0.length:Nat):Int) then
 (cond (i == j)
 (some (C0,C0))
 ((if 0≤(i).toNat∧(i).toNat≤C0.length then
 (if 0≤i then
 (if (j).toNat≤C0.length∧C0.length≤C0.length then
 (if 0≤j then
 (if (i).toNat≤(j).toNat∧(j).toNat≤C0.length then
 (if 0 < C0.length then
 (if (((i).toNat - 0)+(C0.length - (j).toNat))≤C0.length∧0+C0.length≤(k8 C0 ((i).toNat) ((j).toNat)).length then
 (if 0 < (C0.length - (((i).toNat - 0)+(C0.length - (j).toNat)))∧(((i).toNat - 0)+(C0.length - (j).toNat))+(C0.length - (((i).toNat - 0)+(C0.length - (j).toNat)))≤(k8 C0 ((i).toNat) ((j).toNat)).length then
 some (((k8 C0 ((i).toNat) ((j).toNat)).take (((i).toNat - 0)+(C0.length - (j).toNat))),((k8 C0 ((i).toNat) ((j).toNat)).take (((i).toNat - 0)+(C0.length - (j).toNat))))
 else none)
 else none)
 else none)
 else none)
 else none)
 else none)
 else none)
 else none)))
 else none)
def lR (N:Nat) (i:Int) (j:Int) (C0:List aa):Option ((List aa)×(List aa)) :=
 (if 0≤i∧i≤j∧j≤((C0.length:Nat):Int)∧((C0.length:Nat):Int)≤((C0.length:Nat):Int) then
 (cond (i == j)
 (some (C0,C0))
 ((if 0≤(i).toNat∧(i).toNat≤C0.length then
 (if 0≤i then
 (if (j).toNat≤C0.length∧C0.length≤C0.length then
 (if 0≤j then
 (if (i).toNat≤(j).toNat∧(j).toNat≤C0.length then
 (if 0 < C0.length then
 (if (((i).toNat - 0)+(C0.length - (j).toNat))≤C0.length∧0+C0.length≤(k8 C0 ((i).toNat) ((j).toNat)).length then
 (if 0 < (C0.length - (((i).toNat - 0)+(C0.length - (j).toNat)))∧(((i).toNat - 0)+(C0.length - (j).toNat))+(C0.length - (((i).toNat - 0)+(C0.length - (j).toNat)))≤(k8 C0 ((i).toNat) ((j).toNat)).length then
 some (((k8 C0 ((i).toNat) ((j).toNat)).take (((i).toNat - 0)+(C0.length - (j).toNat))),((k8 C0 ((i).toNat) ((j).toNat)).take (((i).toNat - 0)+(C0.length - (j).toNat))))
 else none)
 else none)
 else none)
 else none)
 else none)
 else none)
 else none)
 else none)))
 else none)
def iR (N:Nat) (C0:Int) (bE:Int) (cr:Bool) (dn:List Int) (dw:Bool) (dx:List Int) (dk:Int) (C1:List Int) (C2:List Int) (C3:List (List aa)) (C4:List aa) (C5:List aa) (x:Int) (jD:Int→Int→Option (Bool×l7×(List Int)×(List Int)×(List (List aa))×(List aa))) (QR:Int):Option (Bool×l7×(List Int)×(List Int)×(List (List aa))×(List aa)) :=
 jD QR (ai (x+1))
def dV (N:Nat) (uU:Int) (uV:Int) (rR:List Int) (rS:List aa) (vP:Bool) (vQ:List Int) (vR:Bool) (vS:List Int) (uh:Int) (cz:(List Int)×(List Int)) (lr:List (List aa)):Nat→(List aa)→Int→Option (Bool×l7×(List Int)×(List Int)×(List (List aa))×(List aa))
 | 0,_,_=>none
 | fuel+1,BK,x3 =>
  (cond (decide (x3 < (((List.replicate cz.2.length aa.d:List aa).length:Nat):Int)))
  (((gx N 0).bind fun lX =>
  (if 0≤x3∧x3 < ((BK.length:Nat):Int) then
  dV N uU uV rR rS vP vQ vR vS uh cz lr fuel (BK.set ((x3).toNat) lX) (ai (x3+1))
  else none)))
  (((gx N 0).bind fun bX =>
  some (true,(⟨uU,uV,rR,cz.2,lr,rS,BK,bX,uh⟩:l7),rR,cz.2,lr,rS))))
def dW (N:Nat) (uU:Int) (uV:Int) (rR:List Int) (AK:List (List aa)) (rS:List aa) (BL:List aa) (vP:Bool) (vQ:List Int) (vR:Bool) (vS:List Int) (uh:Int) (nj:Int) (cz:(List Int)×(List Int)):Nat→(List (List aa))→Int→Option (Bool×l7×(List Int)×(List Int)×(List (List aa))×(List aa))
 | 0,_,_=>none
 | fuel+1,lr,x2 =>
  (cond (decide (x2 < ((AK.length:Nat):Int)))
  ((if (x2).toNat < lr.length then
  (if 0≤x2∧x2 < ((lr.length:Nat):Int) then
  ((lR N nj (ai (nj+1)) (lr.getD ((x2).toNat) [])).bind fun qf =>
  dW N uU uV rR AK rS BL vP vQ vR vS uh nj cz fuel (lr.set ((x2).toNat) qf.2) (ai (x2+1)))
  else none)
  else none))
  ((if 0≤((cz.2.length:Nat):Int)∧(64:Int) * ((cz.2.length:Nat):Int)≤281474976710656∧((cz.2.length:Nat):Int)≤9223372036854775807 then
  dV N uU uV rR rS vP vQ vR vS uh cz lr N (List.replicate cz.2.length aa.d:List aa) 0
  else none)))
def iS (N:Nat) (uU:Int) (uV:Int) (rR:List Int) (KN:List Int) (AK:List (List aa)) (rS:List aa) (BL:List aa) (vP:Bool) (vQ:List Int) (vR:Bool) (vS:List Int) (uh:Int):Option (Bool×l7×(List Int)×(List Int)×(List (List aa))×(List aa)) :=
 ((eF N KN uh).bind fun nj =>
 ((jC N nj (ai (nj+1)) KN).bind fun cz =>
 dW N uU uV rR AK rS BL vP vQ vR vS uh nj cz N AK 0))
def fW (N:Nat) (cm:Int) (oD:Int) (lP:List Int) (qd:List Int) (gG:List (List aa)) (qw:List aa) (qx:List aa) (uf:Bool) (ug:List Int) (z5:Bool) (z6:List Int) (yF:Int):Option (Bool×l7×(List Int)×(List Int)×(List (List aa))×(List aa)) :=
 ((eF N lP yF).bind fun de =>
 (cond (decide (de≥0))
 ((if (de).toNat < gG.length then
 (if 0≤de∧de < ((gG.length:Nat):Int) then
 ((jZ N (gG.getD ((de).toNat) [])).bind fun VL =>
 ((jB N de VL cm oD uf ug z5 z6 yF lP qd gG qw qx).bind fun dK =>
 (if dK.2.1.length=lP.length then
 (if dK.2.2.1.length=qd.length then
 (if dK.2.2.2.1.length=gG.length then
 (if dK.2.2.2.2.1.length=qw.length then
 (if dK.2.2.2.2.2.length=qx.length then
 iS N dK.1.xQ dK.1.xR dK.2.1 dK.2.2.1 dK.2.2.2.1 dK.2.2.2.2.1 dK.2.2.2.2.2 dK.1.ak.fN.fG dK.1.ak.fN.fL dK.1.ak.fD.fG dK.1.ak.fD.fL dK.1.cy
 else none)
 else none)
 else none)
 else none)
 else none)))
 else none)
 else none))
 (iS N cm oD lP qd gG qw qx uf ug z5 z6 yF)))
def bF (N:Nat) (C0:Int) (bE:Int) (cr:Bool) (dn:List Int) (dw:Bool) (dx:List Int) (dk:Int) (C1:List Int) (C2:List Int) (C3:List (List aa)) (C4:List aa) (C5:List aa):Nat→Int→Int→Option (Bool×l7×(List Int)×(List Int)×(List (List aa))×(List aa))
 | 0,_,_=>none
 | fuel+1,low,x =>
  (cond (decide (x < ((C4.length:Nat):Int)))
  ((if 0≤x∧x < ((C4.length:Nat):Int) then
  ((nG N (⟨((C4.getD ((x).toNat) aa.d).fN),((C4.getD ((x).toNat) aa.d).fD)⟩:aa)).bind fun aL =>
  (if (((decide (aL < 0)) && ((decide (aL < 0)) && (!(decide (low < 0)))))=true→0≤x∧x < ((C4.length:Nat):Int)) then
  (if (((decide (aL < 0)) && ((decide (aL < 0)) && (!(decide (low < 0)))))=true→0≤low∧low < ((C4.length:Nat):Int)) then
  ((cond ((decide (aL < 0)) && ((decide (aL < 0)) && (!(decide (low < 0))))) (gz N (⟨((C4.getD ((x).toNat) aa.d).fN),((C4.getD ((x).toNat) aa.d).fD)⟩:aa) (⟨((C4.getD ((low).toNat) aa.d).fN),((C4.getD ((low).toNat) aa.d).fD)⟩:aa)) (some 0)).bind fun fS =>
  (cond (cond (decide (aL < 0)) (cond (decide (low < 0)) true (decide (fS < 0))) false)
  (iR N C0 bE cr dn dw dx dk C1 C2 C3 C4 C5 x (bF N C0 bE cr dn dw dx dk C1 C2 C3 C4 C5 fuel) x)
  (iR N C0 bE cr dn dw dx dk C1 C2 C3 C4 C5 x (bF N C0 bE cr dn dw dx dk C1 C2 C3 C4 C5 fuel) low)))
  else none)
  else none))
  else none))
  ((cond (decide (low≥0))
  (((gx N (-1)).bind fun ax =>
  (if 0≤(ai (((C2.length:Nat):Int) - 1))∧(ai (((C2.length:Nat):Int) - 1)) < ((C5.length:Nat):Int) then
  ((jB N low (ai (((C2.length:Nat):Int) - 1)) C0 bE cr dn dw dx dk C1 C2 C3 C4 (C5.set ((ai (((C2.length:Nat):Int) - 1)).toNat) ax)).bind fun bD =>
  (if bD.2.1.length=C1.length then
  (if bD.2.2.1.length=C2.length then
  (if bD.2.2.2.1.length=C3.length then
  (if bD.2.2.2.2.1.length=C4.length then
  (if bD.2.2.2.2.2.length=(C5.set ((ai (((C2.length:Nat):Int) - 1)).toNat) ax).length then
  ((qe N bD.1.xQ bD.1.xR bD.1.ak.fN.fG bD.1.ak.fN.fL bD.1.ak.fD.fG bD.1.ak.fD.fL bD.1.cy bD.2.1 bD.2.2.1 bD.2.2.2.1 bD.2.2.2.2.1 bD.2.2.2.2.2).bind fun cR =>
  (if cR.2.2.1.length=bD.2.1.length then
  (if cR.2.2.2.1.length=bD.2.2.1.length then
  (if cR.2.2.2.2.1.length=bD.2.2.2.1.length then
  (if cR.2.2.2.2.2.1.length=bD.2.2.2.2.1.length then
  (if cR.2.2.2.2.2.2.length=bD.2.2.2.2.2.length then
  ((ic N cR.2.1.ak).bind fun gn =>
  (cond (!gn)
  (some (false,(⟨cR.2.1.xQ,cR.2.1.xR,cR.2.2.1,cR.2.2.2.1,cR.2.2.2.2.1,cR.2.2.2.2.2.1,cR.2.2.2.2.2.2,cR.2.1.ak,cR.2.1.cy⟩:l7),cR.2.2.1,cR.2.2.2.1,cR.2.2.2.2.1,cR.2.2.2.2.2.1))
  (fW N cR.2.1.xQ cR.2.1.xR cR.2.2.1 cR.2.2.2.1 cR.2.2.2.2.1 cR.2.2.2.2.2.1 cR.2.2.2.2.2.2 cR.2.1.ak.fN.fG cR.2.1.ak.fN.fL cR.2.1.ak.fD.fG cR.2.1.ak.fD.fL cR.2.1.cy)))
  else none)
  else none)
  else none)
  else none)
  else none))
  else none)
  else none)
  else none)
  else none)
  else none))
  else none)))
  (fW N C0 bE C1 C2 C3 C4 C5 cr dn dw dx dk))))
def mf (N:Nat) (C0:Int) (bE:Int) (cr:Bool) (dn:List Int) (dw:Bool) (dx:List Int) (dk:Int) (C1:List Int) (C2:List Int) (C3:List (List aa)) (C4:List aa) (C5:List aa):Option (Bool×l7×(List Int)×(List Int)×(List (List aa))×(List aa)) :=
 bF N C0 bE cr dn dw dx dk C1 C2 C3 C4 C5 N (-1) 0
def fg (N:Nat) (C0:Int) (bE:Int) (cr:Bool) (dn:List Int) (dw:Bool) (dx:List Int) (dk:Int) (C1:List Int) (C2:List Int) (C3:List (List aa)) (C4:List aa) (C5:List aa) (x:Int) (gp:(List aa)→Int→Option ((List aa))) (gy:List aa):Option ((List aa)) :=
 gp gy (ai (x+1))
def bR (N:Nat) (C0:Int) (bE:Int) (cr:Bool) (dn:List Int) (dw:Bool) (dx:List Int) (dk:Int) (C1:List Int) (C2:List Int) (C3:List (List aa)) (C4:List aa) (C5:List aa):Nat→(List aa)→Int→Option ((List aa))
 | 0,_,_=>none
 | fuel+1,out,x =>
  (cond (decide (x < (((List.replicate ((bE).toNat) aa.d:List aa).length:Nat):Int)))
  (((gx N 0).bind fun ax =>
  (if 0≤x∧x < ((out.length:Nat):Int) then
  ((eF N C2 (ai ((ai (2 * C0))+x))).bind fun de =>
  (cond (decide (de≥0))
  ((if 0≤de∧de < ((C5.length:Nat):Int) then
  ((gk N (⟨((C5.getD ((de).toNat) aa.d).fN),((C5.getD ((de).toNat) aa.d).fD)⟩:aa)).bind fun bg =>
  (if 0≤x∧x < (((out.set ((x).toNat) ax).length:Nat):Int) then
  fg N C0 bE cr dn dw dx dk C1 C2 C3 C4 C5 x (bR N C0 bE cr dn dw dx dk C1 C2 C3 C4 C5 fuel) ((out.set ((x).toNat) ax).set ((x).toNat) bg)
  else none))
  else none))
  (fg N C0 bE cr dn dw dx dk C1 C2 C3 C4 C5 x (bR N C0 bE cr dn dw dx dk C1 C2 C3 C4 C5 fuel) (out.set ((x).toNat) ax))))
  else none)))
  (some out))
def jE (N:Nat) (C0:Int) (bE:Int) (cr:Bool) (dn:List Int) (dw:Bool) (dx:List Int) (dk:Int) (C1:List Int) (C2:List Int) (C3:List (List aa)) (C4:List aa) (C5:List aa):Option ((List aa)) :=
 (if 0≤bE∧(64:Int) * bE≤281474976710656∧bE≤9223372036854775807 then
 bR N C0 bE cr dn dw dx dk C1 C2 C3 C4 C5 N (List.replicate ((bE).toNat) aa.d:List aa) 0
 else none)
def nM (N:Nat) (zE:Int) (C0:Int) (bE:Int) (cr:Bool) (dn:List Int) (dw:Bool) (dx:List Int) (dk:Int) (C1:List Int) (C2:List Int) (C3:List (List aa)) (C4:List aa) (C5:List aa):Option (aa) :=
 ((eF N C1 zE).bind fun de =>
 (cond (decide (de≥0))
 ((if 0≤de∧de < ((C4.length:Nat):Int) then
 some (⟨((C4.getD ((de).toNat) aa.d).fN),((C4.getD ((de).toNat) aa.d).fD)⟩:aa)
 else none))
 (((gx N 0).bind fun ax =>
 some ax))))
def eA (N:Nat) (C0:Int) (bE:Int) (cr:Bool) (dn:List Int) (dw:Bool) (dx:List Int) (dk:Int) (C1:List Int) (C2:List Int) (C3:List (List aa)) (C4:List aa) (C5:List aa):Nat→(List aa)→Int→Option ((List aa))
 | 0,_,_=>none
 | fuel+1,out,x =>
  (cond (decide (x < (((List.replicate ((C0).toNat) aa.d:List aa).length:Nat):Int)))
  (((nM N x C0 bE cr dn dw dx dk C1 C2 C3 C4 C5).bind fun rat =>
  ((nM N (ai (C0+x)) C0 bE cr dn dw dx dk C1 C2 C3 C4 C5).bind fun VM =>
  ((fe N rat VM).bind fun av =>
  (if 0≤x∧x < ((out.length:Nat):Int) then
  eA N C0 bE cr dn dw dx dk C1 C2 C3 C4 C5 fuel (out.set ((x).toNat) av) (ai (x+1))
  else none)))))
  (some out))
def nm (N:Nat) (C0:Int) (bE:Int) (cr:Bool) (dn:List Int) (dw:Bool) (dx:List Int) (dk:Int) (C1:List Int) (C2:List Int) (C3:List (List aa)) (C4:List aa) (C5:List aa):Option ((List aa)) :=
 (if 0≤C0∧(64:Int) * C0≤281474976710656∧C0≤9223372036854775807 then
 eA N C0 bE cr dn dw dx dk C1 C2 C3 C4 C5 N (List.replicate ((C0).toNat) aa.d:List aa) 0
 else none)
def n9 (N:Nat) (n:Int) (l:List ab):Option ((List aa)×(List aa)×Int) :=
 ((oC N n l).bind fun w6 =>
 (cond (w6 != 0)
 (some (([]:List aa),([]:List aa),w6))
 (((zD N n l).bind fun fQ =>
 ((mf N fQ.xQ fQ.xR fQ.ak.fN.fG fQ.ak.fN.fL fQ.ak.fD.fG fQ.ak.fD.fL fQ.cy fQ.kK fQ.nB fQ.J6 fQ.J7 fQ.fa).bind fun b8 =>
 (if b8.2.2.1.length=fQ.kK.length then
 (if b8.2.2.2.2.1.length=fQ.J6.length then
 (if b8.2.2.2.2.2.length=fQ.J7.length then
 (cond (!b8.1)
 (((jE N b8.2.1.xQ b8.2.1.xR b8.2.1.ak.fN.fG b8.2.1.ak.fN.fL b8.2.1.ak.fD.fG b8.2.1.ak.fD.fL b8.2.1.cy b8.2.2.1 b8.2.2.2.1 b8.2.2.2.2.1 b8.2.2.2.2.2 b8.2.1.fa).bind fun jh =>
 some (([]:List aa),jh,29)))
 (((nm N b8.2.1.xQ b8.2.1.xR b8.2.1.ak.fN.fG b8.2.1.ak.fN.fL b8.2.1.ak.fD.fG b8.2.1.ak.fD.fL b8.2.1.cy b8.2.2.1 b8.2.2.2.1 b8.2.2.2.2.1 b8.2.2.2.2.2 b8.2.1.fa).bind fun uW =>
 some (uW,([]:List aa),0))))
 else none)
 else none)
 else none))))))
def fh (N:Nat) (x:ae):Option (ByteArray) :=
 some x.eC
def gI (N:Nat) (s:ByteArray):Nat→Int→Option (Bool)
 | 0,_=>none
 | fuel+1,x =>
  (cond (decide (x < ((s.size:Nat):Int)))
  ((if 0≤x∧x < ((s.size:Nat):Int) then
  (cond (cond (!(cond (cond (decide ((zA s x)≥97)) (decide ((zA s x)≤122)) false) true (cond (decide ((zA s x)≥65)) (decide ((zA s x)≤90)) false))) (cond (x == 0) true (!(cond (cond (decide ((zA s x)≥48)) (decide ((zA s x)≤57)) false) true ((zA s x) == 45)))) false)
  (some false)
  (gI N s fuel (ai (x+1))))
  else none))
  (some true))
def oE (N:Nat) (s:ByteArray):Option (Bool) :=
 (cond (cond (lU s ByteArray.empty) true (decide (((s.size:Nat):Int) > 12)))
 (some false)
 (gI N s N 0))
def lu (N:Nat) (y:ae) (C1:ae):Option (Bool) :=
 ((fh N y).bind fun mg =>
 ((fh N C1).bind fun uX =>
 some (lU mg uX)))
def bm (N:Nat) (s:List ae) (C1:ae):Nat→Int→Option (Int)
 | 0,_=>none
 | fuel+1,x =>
  (cond (decide (x < ((s.length:Nat):Int)))
  ((if 0≤x∧x < ((s.length:Nat):Int) then
  ((lu N (s.getD ((x).toNat) ae.d) C1).bind fun MA =>
  (cond MA
  (some x)
  (bm N s C1 fuel (ai (x+1)))))
  else none))
  (some (-1)))
def cT (N:Nat) (s:List ae) (C1:ae):Option (Int) :=
 bm N s C1 N 0
def cC (N:Nat) (s:List ae) (C1:ae):Option (Bool) :=
 ((cT N s C1).bind fun xA =>
 some (decide (xA≥0)))
def ef (N:Nat) (n:Int) (lo:Int) (hi:Int):Option (Bool) :=
 some (cond (decide (n < lo)) true (decide (n > hi)))
def lv (N:Nat) (x:ae):Option (Int) :=
 ((ef N x.iz (-1000000) 1000000).bind fun dm =>
 ((cond (!dm) (ef N x.jo (-1000000) 1000000) (some false)).bind fun ej =>
 ((cond (!(cond dm true ej)) (ef N x.bV (-1000000) 1000000) (some false)).bind fun ja =>
 ((cond (!(cond (cond dm true ej) true ja)) (ef N x.ct (-1000000) 1000000) (some false)).bind fun qJ =>
 ((cond (!(cond (cond (cond dm true ej) true ja) true qJ)) (ef N x.cY 1 1000000000) (some false)).bind fun CR =>
 (cond (cond (cond (cond (cond dm true ej) true ja) true qJ) true CR)
 (some 2)
 ((cond (cond (x.iz == x.bV) (x.jo == x.ct) false)
 (some 9)
 (some 0)))))))))
def dq (N:Nat) (l:List ae):Nat→Int→Option (Int)
 | 0,_=>none
 | fuel+1,x =>
  (cond (decide (x < ((l.length:Nat):Int)))
  ((if 0≤x∧x < ((l.length:Nat):Int) then
  ((fh N (l.getD ((x).toNat) ae.d)).bind fun mg =>
  ((oE N mg).bind fun MB =>
  (cond (!MB)
  (some 4)
  ((if 0≤(x).toNat∧(x).toNat≤l.length then
  (if 0≤x then
  ((cC N ((l.take ((x).toNat)).drop 0) (l.getD ((x).toNat) ae.d)).bind fun xA =>
  (cond xA
  (some 5)
  (((lv N (l.getD ((x).toNat) ae.d)).bind fun mh =>
  (cond (mh != 0)
  (some mh)
  (dq N l fuel (ai (x+1))))))))
  else none)
  else none)))))
  else none))
  (some 0))
def mi (N:Nat) (l:List ae) (dr:Int):Option (Int) :=
 (cond (decide (((l.length:Nat):Int) > dr))
 (some 8)
 (dq N l N 0))
def gB (N:Nat) (l:List ae):Option (Int) :=
 ((mi N l 12).bind fun xA =>
 some xA)
def mO (N:Nat) (l:ae) (x:Int) (np:Int→Int→Option (Int)) (KO:Int):Option (Int) :=
 np KO (ai (x+1))
def gq (N:Nat) (l:ae):Nat→Int→Int→Option (Int)
 | 0,_,_=>none
 | fuel+1,root,x =>
  (cond (decide (x < 23))
  ((if (0:Int)≤(ai (22 - x)) then
  (cond (decide ((ai ((tw .i64 root (hO .i64 1 (ai (22 - x)))) * (tw .i64 root (hO .i64 1 (ai (22 - x)))))) < (ai ((ai ((ai (l.bV - l.iz)) * (ai (l.bV - l.iz))))+(ai ((ai (l.ct - l.jo)) * (ai (l.ct - l.jo))))))))
  (mO N l x (gq N l fuel) (tw .i64 root (hO .i64 1 (ai (22 - x)))))
  (mO N l x (gq N l fuel) root))
  else none))
  (some (ai (root+1))))
def qg (N:Nat) (l:ae):Option (Int) :=
 gq N l N 0 0
def qh (N:Nat) (NC:Bool):Option (Int) :=
 (cond NC
 (some 2)
 (some 0))
def ik (N:Nat) (w:dE):Option (Int) :=
 ((ef N w.iz (-1000000000) 1000000000).bind fun dm =>
 ((cond (!dm) (ef N w.jo (-1000000000) 1000000000) (some false)).bind fun ej =>
 ((cond (!(cond dm true ej)) (ef N w.jJ (-1000000000000000) 1000000000000000) (some false)).bind fun ja =>
 ((qh N (cond (cond dm true ej) true ja)).bind fun Jn =>
 some Jn))))
def dR (N:Nat) (n:Int):Option (aa) :=
 ((wX N n).bind fun Hc =>
 ((qH N Hc).bind fun AJ =>
 some AJ))
def mZ (N:Nat) (w:dE):Option (aw) :=
 ((dR N w.iz).bind fun eW =>
 ((dR N w.jo).bind fun dL =>
 ((dR N w.jJ).bind fun dM =>
 some (⟨eW,dL,dM⟩:aw))))
def zF (N:Nat) (a:Int) (b:Int):Option (aa×Int) :=
 (cond (b == 0)
 (some ((⟨(⟨false,([]:List Int)⟩:bP),(⟨false,([]:List Int)⟩:bP)⟩:aa),9))
 (((wX N a).bind fun Hc =>
 ((wX N b).bind fun MC =>
 ((jg N Hc MC).bind fun Cr =>
 some (Cr,0))))))
def lx (N:Nat) (l:ae):Option (aw) :=
 ((qg N l).bind fun QS =>
 ((zF N l.cY QS).bind fun F6 =>
 ((dR N (ai (l.bV - l.iz))).bind fun eW =>
 ((dQ N F6.1 eW).bind fun cE =>
 ((dR N (ai (l.ct - l.jo))).bind fun dL =>
 ((dQ N F6.1 dL).bind fun dG =>
 ((dR N l.iz).bind fun dM =>
 ((dQ N dM dG).bind fun ij =>
 ((dR N l.jo).bind fun Jo =>
 ((dQ N Jo cE).bind fun tE =>
 ((fe N ij tE).bind fun av =>
 some (⟨cE,dG,av⟩:aw))))))))))))
def dB (N:Nat) (l:List ae) (aq:aw) (rows:List ab) (av:aa) (dr:List aa) (least:List aa) (bd:aa) (dc:List aa) (bH:List aa) (cV:aa):Nat→(List aa)→(List aa)→Int→Option (bQ)
 | 0,_,_,_=>none
 | fuel+1,gJ,ek,x4 =>
  (cond (decide (x4 < ((l.length:Nat):Int)))
  ((if 0≤x4∧x4 < ((l.length:Nat):Int) then
  ((lx N (l.getD ((x4).toNat) ae.d)).bind fun kQ =>
  (if (gJ.length+1) * 64≤140737488355328 then
  ((fe N (⟨(⟨false,([]:List Int)⟩:bP),(⟨false,([]:List Int)⟩:bP)⟩:aa) kQ.e2).bind fun fZ =>
  (if (ek.length+1) * 64≤140737488355328 then
  dB N l aq rows av dr least bd dc bH cV fuel (gJ ++ ([kQ.e2]:List aa)) (ek ++ ([fZ]:List aa)) (ai (x4+1))
  else none))
  else none))
  else none))
  ((if (((rows ++ ([(⟨dr,av⟩:ab),(⟨least,aq.e0⟩:ab)]:List ab)) ++ ([(⟨dc,bd⟩:ab),(⟨bH,aq.e1⟩:ab)]:List ab)).length+2) * 88≤140737488355328 then
  ((n9 N ((l.length:Nat):Int) (((rows ++ ([(⟨dr,av⟩:ab),(⟨least,aq.e0⟩:ab)]:List ab)) ++ ([(⟨dc,bd⟩:ab),(⟨bH,aq.e1⟩:ab)]:List ab)) ++ ([(⟨gJ,cV⟩:ab),(⟨ek,aq.e2⟩:ab)]:List ab))).bind fun aJ =>
  (cond (aJ.2.2 == 0)
  (some (⟨true,aJ.1,([]:List aa)⟩:bQ))
  ((if 0≤(ai ((ai ((ai (2 * ((l.length:Nat):Int)))+0))+1))∧(ai ((ai ((ai (2 * ((l.length:Nat):Int)))+0))+1)) < ((aJ.2.1.length:Nat):Int) then
  (if 0≤(ai ((ai (2 * ((l.length:Nat):Int)))+0))∧(ai ((ai (2 * ((l.length:Nat):Int)))+0)) < ((aJ.2.1.length:Nat):Int) then
  ((fe N (⟨((aJ.2.1.getD ((ai ((ai ((ai (2 * ((l.length:Nat):Int)))+0))+1)).toNat) aa.d).fN),((aJ.2.1.getD ((ai ((ai ((ai (2 * ((l.length:Nat):Int)))+0))+1)).toNat) aa.d).fD)⟩:aa) (⟨((aJ.2.1.getD ((ai ((ai (2 * ((l.length:Nat):Int)))+0)).toNat) aa.d).fN),((aJ.2.1.getD ((ai ((ai (2 * ((l.length:Nat):Int)))+0)).toNat) aa.d).fD)⟩:aa)).bind fun bt =>
  (if 0≤(ai ((ai ((ai (2 * ((l.length:Nat):Int)))+2))+1))∧(ai ((ai ((ai (2 * ((l.length:Nat):Int)))+2))+1)) < ((aJ.2.1.length:Nat):Int) then
  (if 0≤(ai ((ai (2 * ((l.length:Nat):Int)))+2))∧(ai ((ai (2 * ((l.length:Nat):Int)))+2)) < ((aJ.2.1.length:Nat):Int) then
  ((fe N (⟨((aJ.2.1.getD ((ai ((ai ((ai (2 * ((l.length:Nat):Int)))+2))+1)).toNat) aa.d).fN),((aJ.2.1.getD ((ai ((ai ((ai (2 * ((l.length:Nat):Int)))+2))+1)).toNat) aa.d).fD)⟩:aa) (⟨((aJ.2.1.getD ((ai ((ai (2 * ((l.length:Nat):Int)))+2)).toNat) aa.d).fN),((aJ.2.1.getD ((ai ((ai (2 * ((l.length:Nat):Int)))+2)).toNat) aa.d).fD)⟩:aa)).bind fun b7 =>
  (if (([bt]:List aa).length+1) * 64≤140737488355328 then
  (if 0≤(ai ((ai ((ai (2 * ((l.length:Nat):Int)))+4))+1))∧(ai ((ai ((ai (2 * ((l.length:Nat):Int)))+4))+1)) < ((aJ.2.1.length:Nat):Int) then
  (if 0≤(ai ((ai (2 * ((l.length:Nat):Int)))+4))∧(ai ((ai (2 * ((l.length:Nat):Int)))+4)) < ((aJ.2.1.length:Nat):Int) then
  ((fe N (⟨((aJ.2.1.getD ((ai ((ai ((ai (2 * ((l.length:Nat):Int)))+4))+1)).toNat) aa.d).fN),((aJ.2.1.getD ((ai ((ai ((ai (2 * ((l.length:Nat):Int)))+4))+1)).toNat) aa.d).fD)⟩:aa) (⟨((aJ.2.1.getD ((ai ((ai (2 * ((l.length:Nat):Int)))+4)).toNat) aa.d).fN),((aJ.2.1.getD ((ai ((ai (2 * ((l.length:Nat):Int)))+4)).toNat) aa.d).fD)⟩:aa)).bind fun eB =>
  (if ((([bt]:List aa) ++ ([b7]:List aa)).length+1) * 64≤140737488355328 then
  some (⟨false,([]:List aa),((([bt]:List aa) ++ ([b7]:List aa)) ++ ([eB]:List aa))⟩:bQ)
  else none))
  else none)
  else none)
  else none))
  else none)
  else none))
  else none)
  else none))))
  else none)))
def fo (N:Nat) (l:List ae) (aq:aw) (rows:List ab) (av:aa) (dr:List aa) (least:List aa) (bd:aa):Nat→(List aa)→(List aa)→Int→Option (bQ)
 | 0,_,_,_=>none
 | fuel+1,dc,bH,x3 =>
  (cond (decide (x3 < ((l.length:Nat):Int)))
  ((if 0≤x3∧x3 < ((l.length:Nat):Int) then
  ((lx N (l.getD ((x3).toNat) ae.d)).bind fun kR =>
  (if (dc.length+1) * 64≤140737488355328 then
  ((fe N (⟨(⟨false,([]:List Int)⟩:bP),(⟨false,([]:List Int)⟩:bP)⟩:aa) kR.e1).bind fun gf =>
  (if (bH.length+1) * 64≤140737488355328 then
  fo N l aq rows av dr least bd fuel (dc ++ ([kR.e1]:List aa)) (bH ++ ([gf]:List aa)) (ai (x3+1))
  else none))
  else none))
  else none))
  ((if ((rows ++ ([(⟨dr,av⟩:ab),(⟨least,aq.e0⟩:ab)]:List ab)).length+2) * 88≤140737488355328 then
  ((fe N (⟨(⟨false,([]:List Int)⟩:bP),(⟨false,([]:List Int)⟩:bP)⟩:aa) aq.e2).bind fun cV =>
  dB N l aq rows av dr least bd dc bH cV N ([]:List aa) ([]:List aa) 0)
  else none)))
def fq (N:Nat) (l:List ae) (aq:aw) (rows:List ab) (av:aa):Nat→(List aa)→(List aa)→Int→Option (bQ)
 | 0,_,_,_=>none
 | fuel+1,dr,least,x2 =>
  (cond (decide (x2 < ((l.length:Nat):Int)))
  ((if 0≤x2∧x2 < ((l.length:Nat):Int) then
  ((lx N (l.getD ((x2).toNat) ae.d)).bind fun j9 =>
  (if (dr.length+1) * 64≤140737488355328 then
  ((fe N (⟨(⟨false,([]:List Int)⟩:bP),(⟨false,([]:List Int)⟩:bP)⟩:aa) j9.e0).bind fun gh =>
  (if (least.length+1) * 64≤140737488355328 then
  fq N l aq rows av fuel (dr ++ ([j9.e0]:List aa)) (least ++ ([gh]:List aa)) (ai (x2+1))
  else none))
  else none))
  else none))
  ((if (rows.length+2) * 88≤140737488355328 then
  ((fe N (⟨(⟨false,([]:List Int)⟩:bP),(⟨false,([]:List Int)⟩:bP)⟩:aa) aq.e1).bind fun bd =>
  fo N l aq rows av dr least bd N ([]:List aa) ([]:List aa) 0)
  else none)))
def iB (N:Nat) (l:List ae) (aq:aw):Nat→(List ab)→Int→Option (bQ)
 | 0,_,_=>none
 | fuel+1,rows,x =>
  (cond (decide (x < ((l.length:Nat):Int)))
  ((if 0≤((l.length:Nat):Int)∧(64:Int) * ((l.length:Nat):Int)≤281474976710656∧((l.length:Nat):Int)≤9223372036854775807 then
  ((dR N 1).bind fun eW =>
  ((dR N 1).bind fun dL =>
  ((dR N (-1)).bind fun dM =>
  (if 0≤x∧x < (((List.replicate l.length aa.d:List aa).length:Nat):Int) then
  (if (rows.length+2) * 88≤140737488355328 then
  iB N l aq fuel (rows ++ ([(⟨((List.replicate l.length aa.d:List aa).set ((x).toNat) dL),eW⟩:ab),(⟨((List.replicate l.length aa.d:List aa).set ((x).toNat) dM),(⟨(⟨false,([]:List Int)⟩:bP),(⟨false,([]:List Int)⟩:bP)⟩:aa)⟩:ab)]:List ab)) (ai (x+1))
  else none)
  else none))))
  else none))
  (((fe N (⟨(⟨false,([]:List Int)⟩:bP),(⟨false,([]:List Int)⟩:bP)⟩:aa) aq.e0).bind fun av =>
  fq N l aq rows av N ([]:List aa) ([]:List aa) 0)))
def sO (N:Nat) (l:List ae) (w:dE):Option (bQ) :=
 ((mZ N w).bind fun aq =>
 iB N l aq N ([]:List ab) 0)
def kb (N:Nat) (s:ByteArray):Nat→Int→Option (Bool)
 | 0,_=>none
 | fuel+1,i =>
  (cond (decide (i < ((s.size:Nat):Int)))
  ((if 0≤i∧i < ((s.size:Nat):Int) then
  (cond (cond (!(cond (cond (decide ((zA s i)≥97)) (decide ((zA s i)≤122)) false) true (cond (decide ((zA s i)≥65)) (decide ((zA s i)≤90)) false))) (cond (i == 0) true (cond ((zA s i) != 45) (cond (decide ((zA s i) < 48)) true (decide ((zA s i) > 57))) false)) false)
  (some false)
  (kb N s fuel (ai (i+1))))
  else none))
  (some true))
def tF (N:Nat) (s:ByteArray):Option (Bool) :=
 (cond (cond (decide (((s.size:Nat):Int) < 1)) true (decide (((s.size:Nat):Int) > 12)))
 (some false)
 (kb N s N 0))
def gr (N:Nat) (n:Int) (low:Int) (high:Int):Option (Bool) :=
 some (cond (decide (n≥low)) (decide (n≤high)) false)
def mP (N:Nat) (l:ae):Option (Int) :=
 ((gr N l.iz (-1000000) 1000000).bind fun xS =>
 ((cond (!(!xS)) (gr N l.jo (-1000000) 1000000) (some false)).bind fun qK =>
 ((cond (!(cond (!xS) true (!qK))) (gr N l.bV (-1000000) 1000000) (some false)).bind fun yG =>
 ((cond (!(cond (cond (!xS) true (!qK)) true (!yG))) (gr N l.ct (-1000000) 1000000) (some false)).bind fun KP =>
 ((cond (!(cond (cond (cond (!xS) true (!qK)) true (!yG)) true (!KP))) (gr N l.cY 1 1000000000) (some false)).bind fun VN =>
 (cond (cond (cond (cond (cond (!xS) true (!qK)) true (!yG)) true (!KP)) true (!VN))
 (some 2)
 ((cond (cond (l.iz == l.bV) (l.jo == l.ct) false)
 (some 9)
 (some 0)))))))))
def dZ (N:Nat) (l:List ae) (i:Int) (iT:Int→Option (Int)):Nat→Int→Option (Int)
 | 0,_=>none
 | fuel+1,k =>
  (cond (decide (k < i))
  ((if 0≤k∧k < ((l.length:Nat):Int) then
  (if 0≤i∧i < ((l.length:Nat):Int) then
  (cond (lU ((l.getD ((k).toNat) ae.d).eC) ((l.getD ((i).toNat) ae.d).eC))
  (some 5)
  (dZ N l i iT fuel (ai (k+1))))
  else none)
  else none))
  ((if 0≤i∧i < ((l.length:Nat):Int) then
  ((mP N (l.getD ((i).toNat) ae.d)).bind fun mh =>
  (cond (mh != 0)
  (some mh)
  (iT (ai (i+1)))))
  else none)))
def eP (N:Nat) (l:List ae):Nat→Int→Option (Int)
 | 0,_=>none
 | fuel+1,i =>
  (cond (decide (i < ((l.length:Nat):Int)))
  ((if 0≤i∧i < ((l.length:Nat):Int) then
  ((tF N ((l.getD ((i).toNat) ae.d).eC)).bind fun Jp =>
  (cond (!Jp)
  (some 4)
  (dZ N l i (eP N l fuel) N 0)))
  else none))
  (some 0))
def jb (N:Nat) (l:List ae):Option (Int) :=
 (cond (decide (((l.length:Nat):Int) > 12))
 (some 8)
 (eP N l N 0))
def kU (N:Nat) (w:dE):Option (Int) :=
 ((gr N w.iz (-1000000000) 1000000000).bind fun xS =>
 ((cond (!(!xS)) (gr N w.jo (-1000000000) 1000000000) (some false)).bind fun qK =>
 ((cond (!(cond (!xS) true (!qK))) (gr N w.jJ (-1000000000000000) 1000000000000000) (some false)).bind fun yG =>
 (cond (cond (cond (!xS) true (!qK)) true (!yG))
 (some 2)
 (some 0)))))
def ly (N:Nat) (l:List ae) (w:dE):Option (bQ×Int) :=
 ((gB N l).bind fun dX =>
 (cond (dX != 0)
 (some ((⟨false,([]:List aa),([]:List aa)⟩:bQ),dX))
 (((ik N w).bind fun mj =>
 (cond (mj != 0)
 (some ((⟨false,([]:List aa),([]:List aa)⟩:bQ),mj))
 (((sO N l w).bind fun QT =>
 some (QT,0))))))))
def kc (N:Nat) (neg:Bool) (a:List Int):Nat→(List Int)→Int→Option (bP)
 | 0,_,_=>none
 | fuel+1,x,i =>
  (cond (decide (i < ((a.length:Nat):Int)))
  ((if 0≤i∧i < ((a.length:Nat):Int) then
  (if (x.length+1) * 2≤140737488355328 then
  kc N neg a fuel (x ++ ([(IntKind.u16.wrap ((a.getD ((i).toNat) 0)))]:List Int)) (ai (i+1))
  else none)
  else none))
  (some (⟨(cond neg (decide (((a.length:Nat):Int) > 0)) false),x⟩:bP)))
def fR (N:Nat) (neg:Bool) (a:List Int):Option (bP) :=
 kc N neg a N ([]:List Int) 0
def lz (N:Nat) (n:Int):Nat→(List Int)→Int→Option (bP)
 | 0,_,_=>none
 | fuel+1,a,u =>
  (cond (decide (u > 0))
  ((if (a.length+1) * 8≤140737488355328 then
  lz N n fuel (a ++ ([(ai ((u.tmod 65536)))]:List Int)) (IntKind.u64.wrap (u.tdiv 65536))
  else none))
  (((fR N (decide (n < 0)) a).bind fun qi =>
  some qi)))
def rm (N:Nat) (n:Int):Option (bP) :=
 (cond (decide (n < 0))
 (lz N n N ([]:List Int) (IntKind.u64.wrap (0 - (IntKind.u64.wrap (n)))))
 (lz N n N ([]:List Int) (IntKind.u64.wrap (n))))
def sP (N:Nat) (n:Int):Option (aa) :=
 ((rm N n).bind fun Hc =>
 ((rm N 1).bind fun MC =>
 some (⟨Hc,MC⟩:aa)))
def ke (N:Nat) (a:List Int):Nat→Int→Option ((List Int))
 | 0,_=>none
 | fuel+1,n =>
  (if ((decide (n > 0))=true→0≤(ai (n - 1))∧(ai (n - 1)) < ((a.length:Nat):Int)) then
  (cond (cond (decide (n > 0)) ((a.getD ((ai (n - 1)).toNat) 0) == 0) false)
  (ke N a fuel (ai (n - 1)))
  ((if 0≤(n).toNat∧(n).toNat≤a.length then
  (if 0≤n then
  (if (0+((n).toNat - 0)) * 8≤140737488355328 then
  some (([]:List Int) ++ ((a.take ((n).toNat)).drop 0))
  else none)
  else none)
  else none)))
  else none)
def ml (N:Nat) (a:List Int):Option ((List Int)) :=
 ke N a N ((a.length:Nat):Int)
def kf (N:Nat) (l:List Int):Nat→(List Int)→Int→Option ((List Int))
 | 0,_,_=>none
 | fuel+1,a,i =>
  (cond (decide (i < ((l.length:Nat):Int)))
  ((if 0≤i∧i < ((l.length:Nat):Int) then
  (if (a.length+1) * 8≤140737488355328 then
  kf N l fuel (a ++ ([(ai ((l.getD ((i).toNat) 0)))]:List Int)) (ai (i+1))
  else none)
  else none))
  (((ml N a).bind fun cb =>
  some cb)))
def jL (N:Nat) (l:List Int):Option ((List Int)) :=
 kf N l N ([]:List Int) 0
def ma (N:Nat) (a:List Int) (i:Int):Option (Int) :=
 (cond (decide (i < ((a.length:Nat):Int)))
 ((if 0≤i∧i < ((a.length:Nat):Int) then
 some (a.getD ((i).toNat) 0)
 else none))
 (some 0))
def jv (N:Nat) (a:List Int) (b:List Int) (i:Int) (lY:(List Int)→Int→Option ((List Int))):Nat→(List Int)→Int→Int→Option ((List Int))
 | 0,_,_,_=>none
 | fuel+1,gy,carry,k =>
  (cond (cond (decide (k < ((b.length:Nat):Int))) true (decide (carry > 0)))
  ((if 0≤(ai (i+k))∧(ai (i+k)) < ((gy.length:Nat):Int) then
  (if 0≤i∧i < ((a.length:Nat):Int) then
  ((ma N b k).bind fun cO =>
  jv N a b i lY fuel (gy.set ((ai (i+k)).toNat) ((ai ((ai ((gy.getD ((ai (i+k)).toNat) 0)+(ai ((a.getD ((i).toNat) 0) * cO))))+carry)).tmod 65536)) (ai ((ai ((ai ((gy.getD ((ai (i+k)).toNat) 0)+(ai ((a.getD ((i).toNat) 0) * cO))))+carry)).tdiv 65536)) (ai (k+1)))
  else none)
  else none))
  (lY gy (ai (i+1))))
def jw (N:Nat) (a:List Int) (b:List Int):Nat→(List Int)→Int→Option ((List Int))
 | 0,_,_=>none
 | fuel+1,out,i =>
  (cond (decide (i < ((a.length:Nat):Int)))
  (jv N a b i (jw N a b fuel) N out 0 0)
  (((ml N out).bind fun cb =>
  some cb)))
def lA (N:Nat) (a:List Int) (b:List Int):Option ((List Int)) :=
 (if 0≤(ai ((ai (((a.length:Nat):Int)+((b.length:Nat):Int)))+1))∧(8:Int) * (ai ((ai (((a.length:Nat):Int)+((b.length:Nat):Int)))+1))≤281474976710656∧(ai ((ai (((a.length:Nat):Int)+((b.length:Nat):Int)))+1))≤9223372036854775807 then
 jw N a b N (List.replicate ((ai ((ai (((a.length:Nat):Int)+((b.length:Nat):Int)))+1)).toNat) 0:List Int) 0
 else none)
def gK (N:Nat) (a:List Int) (b:List Int):Nat→Int→Option (Int)
 | 0,_=>none
 | fuel+1,i =>
  (cond (decide (i≥0))
  ((if 0≤i∧i < ((a.length:Nat):Int) then
  (if 0≤i∧i < ((b.length:Nat):Int) then
  (cond ((a.getD ((i).toNat) 0) != (b.getD ((i).toNat) 0))
  (some (ai ((a.getD ((i).toNat) 0) - (b.getD ((i).toNat) 0))))
  (gK N a b fuel (ai (i - 1))))
  else none)
  else none))
  (some 0))
def m5 (N:Nat) (a:List Int) (b:List Int):Option (Int) :=
 (cond (((a.length:Nat):Int) != ((b.length:Nat):Int))
 (some (ai (((a.length:Nat):Int) - ((b.length:Nat):Int))))
 (gK N a b N (ai (((a.length:Nat):Int) - 1))))
def lZ (N:Nat) (a:List Int) (b:List Int) (out:List Int) (i:Int) (oa:(List Int)→Int→Int→Option ((List Int))) (kL:Int) (s:Int):Option ((List Int)) :=
 (if (out.length+1) * 8≤140737488355328 then
 oa (out ++ ([s]:List Int)) kL (ai (i+1))
 else none)
def gi (N:Nat) (a:List Int) (b:List Int):Nat→(List Int)→Int→Int→Option ((List Int))
 | 0,_,_,_=>none
 | fuel+1,out,borrow,i =>
  (cond (decide (i < ((a.length:Nat):Int)))
  ((if 0≤i∧i < ((a.length:Nat):Int) then
  ((ma N b i).bind fun cO =>
  (cond (decide ((ai ((ai ((a.getD ((i).toNat) 0) - cO)) - borrow)) < 0))
  (lZ N a b out i (gi N a b fuel) 1 (ai ((ai ((ai ((a.getD ((i).toNat) 0) - cO)) - borrow))+65536)))
  (lZ N a b out i (gi N a b fuel) 0 (ai ((ai ((a.getD ((i).toNat) 0) - cO)) - borrow)))))
  else none))
  (((ml N out).bind fun cb =>
  some cb)))
def pH (N:Nat) (a:List Int) (b:List Int):Option ((List Int)) :=
 gi N a b N ([]:List Int) 0 0
def m6 (N:Nat) (a:List Int) (b:List Int) (q:List Int) (i:Int) (lo:Int) (eh:(List Int)→(List Int)→Int→Option ((List Int)×(List Int))) (KQ:List Int):Option ((List Int)×(List Int)) :=
 eh KQ (q.set ((i).toNat) lo) (ai (i - 1))
def ji (N:Nat) (a:List Int) (b:List Int) (q:List Int) (i:Int) (cb:(List Int)) (eh:(List Int)→(List Int)→Int→Option ((List Int)×(List Int))):Nat→Int→Int→Option ((List Int)×(List Int))
 | 0,_,_=>none
 | fuel+1,lo,hi =>
  (cond (decide (lo < hi))
  (((lA N b ([(ai ((ai ((ai (lo+hi))+1)).tdiv 2))]:List Int)).bind fun rO =>
  ((m5 N rO cb).bind fun kB =>
  (cond (decide (kB≤0))
  (ji N a b q i cb eh fuel (ai ((ai ((ai (lo+hi))+1)).tdiv 2)) hi)
  (ji N a b q i cb eh fuel lo (ai ((ai ((ai ((ai (lo+hi))+1)).tdiv 2)) - 1)))))))
  ((if 0≤i∧i < ((q.length:Nat):Int) then
  (cond (decide (lo > 0))
  (((lA N b ([lo]:List Int)).bind fun EY =>
  ((pH N cb EY).bind fun tA =>
  m6 N a b q i lo eh tA)))
  (m6 N a b q i lo eh cb))
  else none)))
def jj (N:Nat) (a:List Int) (b:List Int):Nat→(List Int)→(List Int)→Int→Option ((List Int)×(List Int))
 | 0,_,_,_=>none
 | fuel+1,rest,q,i =>
  (cond (decide (i≥0))
  ((if 0≤i∧i < ((a.length:Nat):Int) then
  (if (1+rest.length) * 8≤140737488355328 then
  ((ml N (([(a.getD ((i).toNat) 0)]:List Int) ++ rest)).bind fun cb =>
  ji N a b q i cb (jj N a b fuel) N 0 65535)
  else none)
  else none))
  (((ml N q).bind fun jU =>
  some (jU,rest))))
def nN (N:Nat) (a:List Int) (b:List Int):Option ((List Int)×(List Int)) :=
 (if 0≤((a.length:Nat):Int)∧(8:Int) * ((a.length:Nat):Int)≤281474976710656∧((a.length:Nat):Int)≤9223372036854775807 then
 jj N a b N ([]:List Int) (List.replicate a.length 0:List Int) (ai (((a.length:Nat):Int) - 1))
 else none)
def mm (N:Nat):Nat→(List Int)→(List Int)→Option ((List Int))
 | 0,_,_=>none
 | fuel+1,a2,b2 =>
  (cond (decide (((b2.length:Nat):Int) > 0))
  (((nN N a2 b2).bind fun kD =>
  mm N fuel b2 kD.2))
  (some a2))
def zG (N:Nat) (a:List Int) (b:List Int):Option ((List Int)) :=
 mm N N a b
def nO (N:Nat) (a:bP) (b:bP):Option (aa) :=
 ((jL N a.fL).bind fun pJ =>
 ((jL N b.fL).bind fun ot =>
 (cond (((ot.length:Nat):Int) == 0)
 (((fR N a.fG pJ).bind fun qi =>
 ((rm N 1).bind fun Hc =>
 some (⟨qi,Hc⟩:aa))))
 (((zG N pJ ot).bind fun Ti =>
 ((nN N pJ Ti).bind fun kD =>
 ((nN N ot Ti).bind fun kP =>
 ((fR N (!(a.fG == b.fG)) kD.1).bind fun AL =>
 ((fR N false kP.1).bind fun AM =>
 some (⟨AL,AM⟩:aa))))))))))
def g7 (N:Nat) (x:aa):Option (aa) :=
 ((nO N x.fN x.fD).bind fun tG =>
 some tG)
def zH (N:Nat) (a:bP):Option (bP) :=
 ((jL N a.fL).bind fun pJ =>
 ((fR N (!a.fG) pJ).bind fun qi =>
 some qi))
def il (N:Nat) (x:aa):Option (aa) :=
 ((g7 N x).bind fun gL =>
 ((zH N gL.fN).bind fun VO =>
 some (⟨VO,gL.fD⟩:aa)))
def m7 (N:Nat) (a:bP) (b:bP):Option (bP) :=
 ((jL N a.fL).bind fun pJ =>
 ((jL N b.fL).bind fun ot =>
 ((lA N pJ ot).bind fun rO =>
 ((fR N (!(a.fG == b.fG)) rO).bind fun qi =>
 some qi))))
def kg (N:Nat) (a:List Int) (b:List Int):Nat→(List Int)→Int→Int→Option ((List Int))
 | 0,_,_,_=>none
 | fuel+1,out,carry,i =>
  (cond (cond (cond (decide (i < ((a.length:Nat):Int))) true (decide (i < ((b.length:Nat):Int)))) true (decide (carry > 0)))
  (((ma N a i).bind fun cO =>
  ((ma N b i).bind fun mn =>
  (if (out.length+1) * 8≤140737488355328 then
  kg N a b fuel (out ++ ([((ai ((ai (cO+mn))+carry)).tmod 65536)]:List Int)) (ai ((ai ((ai (cO+mn))+carry)).tdiv 65536)) (ai (i+1))
  else none))))
  (((ml N out).bind fun cb =>
  some cb)))
def w7 (N:Nat) (a:List Int) (b:List Int):Option ((List Int)) :=
 kg N a b N ([]:List Int) 0 0
def zI (N:Nat) (a:bP) (b:bP):Option (bP) :=
 ((jL N a.fL).bind fun pJ =>
 ((jL N b.fL).bind fun ot =>
 (cond (a.fG == b.fG)
 (((w7 N pJ ot).bind fun F0 =>
 ((fR N a.fG F0).bind fun qi =>
 some qi)))
 (((m5 N pJ ot).bind fun kB =>
 (cond (decide (kB≥0))
 (((pH N pJ ot).bind fun tA =>
 ((fR N a.fG tA).bind fun AL =>
 some AL)))
 (((pH N ot pJ).bind fun w5 =>
 ((fR N b.fG w5).bind fun AM =>
 some AM)))))))))
def sQ (N:Nat) (x:aa) (y:aa):Option (aa) :=
 ((g7 N x).bind fun gL =>
 ((g7 N y).bind fun jc =>
 ((m7 N gL.fN jc.fD).bind fun tC =>
 ((m7 N jc.fN gL.fD).bind fun nI =>
 ((zI N tC nI).bind fun My =>
 ((m7 N gL.fD jc.fD).bind fun F1 =>
 ((nO N My F1).bind fun tG =>
 some tG)))))))
def sR (N:Nat) (x:aa) (y:aa):Option (aa) :=
 ((il N y).bind fun gV =>
 ((sQ N x gV).bind fun bO =>
 some bO))
def oG (N:Nat) (l:ae) (step:Int) (oZ:Int→Int→Option (Int)) (s2:Int):Option (Int) :=
 oZ s2 (ai (step.tdiv 2))
def jk (N:Nat) (l:ae):Nat→Int→Int→Option (Int)
 | 0,_,_=>none
 | fuel+1,s,step =>
  (cond (decide (step > 0))
  ((cond (decide ((ai ((ai (s+step)) * (ai (s+step)))) < (ai ((ai ((ai (l.bV - l.iz)) * (ai (l.bV - l.iz))))+(ai ((ai (l.ct - l.jo)) * (ai (l.ct - l.jo))))))))
  (oG N l step (jk N l fuel) (ai (s+step)))
  (oG N l step (jk N l fuel) s)))
  (some (ai (s+1))))
def tH (N:Nat) (l:ae):Option (Int) :=
 jk N l N 0 4194304
def sS (N:Nat) (x:aa) (y:aa):Option (aa) :=
 ((g7 N x).bind fun gL =>
 ((g7 N y).bind fun jc =>
 ((m7 N gL.fN jc.fD).bind fun tC =>
 ((m7 N gL.fD jc.fN).bind fun nI =>
 ((nO N tC nI).bind fun tG =>
 some tG)))))
def mo (N:Nat) (x:aa) (y:aa):Option (aa) :=
 ((g7 N x).bind fun gL =>
 ((g7 N y).bind fun jc =>
 ((m7 N gL.fN jc.fN).bind fun tC =>
 ((m7 N gL.fD jc.fD).bind fun nI =>
 ((nO N tC nI).bind fun tG =>
 some tG)))))
def qL (N:Nat) (l:ae):Option (aw) :=
 ((sP N l.cY).bind fun rQ =>
 ((tH N l).bind fun QU =>
 ((sP N QU).bind fun rQ2 =>
 ((sS N rQ rQ2).bind fun EZ =>
 ((sP N (ai (l.bV - l.iz))).bind fun rQ3 =>
 ((mo N EZ rQ3).bind fun cE =>
 ((sP N (ai (l.ct - l.jo))).bind fun rQ4 =>
 ((mo N EZ rQ4).bind fun dG =>
 ((sP N l.iz).bind fun rQ5 =>
 ((mo N rQ5 dG).bind fun ij =>
 ((sP N l.jo).bind fun rQ6 =>
 ((mo N rQ6 cE).bind fun tE =>
 ((sR N ij tE).bind fun av =>
 some (⟨cE,dG,av⟩:aw))))))))))))))
def gM (N:Nat) (l:List ae) (parts:List aa):Nat→aw→Int→Option (Bool)
 | 0,_,_=>none
 | fuel+1,sum,x =>
  (cond (decide (x < ((l.length:Nat):Int)))
  ((if 0≤x∧x < ((l.length:Nat):Int) then
  (if 0≤x∧x < ((parts.length:Nat):Int) then
  ((gz N (⟨((parts.getD ((x).toNat) aa.d).fN),((parts.getD ((x).toNat) aa.d).fD)⟩:aa) (⟨(⟨false,([]:List Int)⟩:bP),(⟨false,([]:List Int)⟩:bP)⟩:aa)).bind fun fS =>
  (if ((!(decide (fS < 0)))=true→0≤x∧x < ((parts.length:Nat):Int)) then
  ((cond (!(decide (fS < 0))) (dR N 1) (some aa.d)).bind fun eW =>
  ((cond (!(decide (fS < 0))) (gz N (⟨((parts.getD ((x).toNat) aa.d).fN),((parts.getD ((x).toNat) aa.d).fD)⟩:aa) eW) (some 0)).bind fun rr =>
  (cond (cond (decide (fS < 0)) true (decide (rr > 0)))
  (some false)
  (((lx N (l.getD ((x).toNat) ae.d)).bind fun j9 =>
  ((dQ N (⟨((parts.getD ((x).toNat) aa.d).fN),((parts.getD ((x).toNat) aa.d).fD)⟩:aa) j9.e0).bind fun cE =>
  ((fc N sum.e0 cE).bind fun bO =>
  ((dQ N (⟨((parts.getD ((x).toNat) aa.d).fN),((parts.getD ((x).toNat) aa.d).fD)⟩:aa) j9.e1).bind fun dG =>
  ((fc N sum.e1 dG).bind fun ju =>
  ((dQ N (⟨((parts.getD ((x).toNat) aa.d).fN),((parts.getD ((x).toNat) aa.d).fD)⟩:aa) j9.e2).bind fun ij =>
  ((fc N sum.e2 ij).bind fun ln =>
  gM N l parts fuel (⟨bO,ju,ln⟩:aw) (ai (x+1)))))))))))))
  else none))
  else none)
  else none))
  (((gz N sum.e0 (⟨(⟨false,([]:List Int)⟩:bP),(⟨false,([]:List Int)⟩:bP)⟩:aa)).bind fun BM =>
  (cond (BM != 0)
  (some false)
  (((gz N sum.e1 (⟨(⟨false,([]:List Int)⟩:bP),(⟨false,([]:List Int)⟩:bP)⟩:aa)).bind fun BN =>
  (cond (BN != 0)
  (some false)
  (((gz N sum.e2 (⟨(⟨false,([]:List Int)⟩:bP),(⟨false,([]:List Int)⟩:bP)⟩:aa)).bind fun BO =>
  (cond (BO != 0)
  (some false)
  (some true)))))))))))
def qV (N:Nat) (l:List ae) (w:dE) (parts:List aa):Option (Bool) :=
 ((mZ N w).bind fun aq =>
 gM N l parts N aq 0)
def l3 (N:Nat) (f:aw) (C0:List aa):Option (aa) :=
 ((dR N 0).bind fun eW =>
 (if 0≤(0:Int)∧0 < ((C0.length:Nat):Int) then
 ((dQ N (⟨((C0.getD 0 aa.d).fN),((C0.getD 0 aa.d).fD)⟩:aa) f.e0).bind fun cE =>
 ((fc N eW cE).bind fun bO =>
 (if 0≤(1:Int)∧1 < ((C0.length:Nat):Int) then
 ((dQ N (⟨((C0.getD 1 aa.d).fN),((C0.getD 1 aa.d).fD)⟩:aa) f.e1).bind fun dG =>
 ((fc N bO dG).bind fun ju =>
 (if 0≤(2:Int)∧2 < ((C0.length:Nat):Int) then
 ((dQ N (⟨((C0.getD 2 aa.d).fN),((C0.getD 2 aa.d).fD)⟩:aa) f.e2).bind fun ij =>
 ((fc N ju ij).bind fun ln =>
 some ln))
 else none)))
 else none)))
 else none))
def jF (N:Nat) (l:List ae) (proof:List aa) (x:Int) (lS:aa→Int→Option (Bool)) (KR:aa):Option (Bool) :=
 lS KR (ai (x+1))
def eT (N:Nat) (l:List ae) (proof:List aa):Nat→aa→Int→Option (Bool)
 | 0,_,_=>none
 | fuel+1,sum,x =>
  (cond (decide (x < ((l.length:Nat):Int)))
  ((if 0≤x∧x < ((l.length:Nat):Int) then
  ((lx N (l.getD ((x).toNat) ae.d)).bind fun j9 =>
  ((l3 N j9 proof).bind fun vT =>
  ((gz N vT (⟨(⟨false,([]:List Int)⟩:bP),(⟨false,([]:List Int)⟩:bP)⟩:aa)).bind fun fS =>
  (cond (decide (fS > 0))
  (((fc N sum vT).bind fun bO =>
  jF N l proof x (eT N l proof fuel) bO))
  (jF N l proof x (eT N l proof fuel) sum)))))
  else none))
  (((gz N sum (⟨(⟨false,([]:List Int)⟩:bP),(⟨false,([]:List Int)⟩:bP)⟩:aa)).bind fun rr =>
  some (decide (rr < 0)))))
def qj (N:Nat) (l:List ae) (w:dE) (proof:List aa):Option (Bool) :=
 ((mZ N w).bind fun aq =>
 ((l3 N aq proof).bind fun F7 =>
 eT N l proof N F7 0))
def lB (N:Nat) (l:List ae) (w:dE) (m:bQ):Option (Int) :=
 ((gB N l).bind fun dX =>
 (cond (dX != 0)
 (some dX)
 (((ik N w).bind fun mj =>
 (cond (mj != 0)
 (some mj)
 ((cond (cond (cond m.aE (((m.eD.length:Nat):Int) != ((l.length:Nat):Int)) false) true (cond (!m.aE) (((m.iJ.length:Nat):Int) != 3) false))
 (some 11)
 (((cond m.aE (qV N l w m.eD) (some false)).bind fun mq =>
 ((cond ((!(cond m.aE (!mq) false)) && ((!(cond m.aE (!mq) false)) && (!m.aE))) (qj N l w m.iJ) (some false)).bind fun Jq =>
 (cond (cond (cond m.aE (!mq) false) true (cond (!m.aE) (!Jq) false))
 (some 24)
 (some 0))))))))))))
def nP (N:Nat) (n:Int) (low:Int) (high:Int):Option (Bool) :=
 some (cond (decide (n≥low)) (decide (n≤high)) false)
def oH (N:Nat) (s:ByteArray):Nat→Int→Option (Bool)
 | 0,_=>none
 | fuel+1,x =>
  (cond (decide (x < ((s.size:Nat):Int)))
  ((if 0≤x∧x < (((p6 s).length:Nat):Int) then
  (cond (cond (!(cond (cond (decide ((zB s x)≥97)) (decide ((zB s x)≤122)) false) true (cond (decide ((zB s x)≥65)) (decide ((zB s x)≤90)) false))) (cond (x == 0) true (cond ((zB s x) != 45) (cond (decide ((zB s x) < 48)) true (decide ((zB s x) > 57))) false)) false)
  (some false)
  (oH N s fuel (ai (x+1))))
  else none))
  (some true))
def AN (N:Nat) (s:ByteArray):Option (Bool) :=
 ((nP N ((s.size:Nat):Int) 1 12).bind fun QV =>
 (cond (!QV)
 (some false)
 (oH N s N 0)))
def l4 (N:Nat) (b:iY):Nat→Int→Option (Int)
 | 0,_=>none
 | fuel+1,x =>
  (cond (decide (x < ((b.cZ.length:Nat):Int)))
  ((if 0≤x∧x < ((b.cZ.length:Nat):Int) then
  ((nP N ((b.cZ.getD ((x).toNat) iA.d).p7) (-1000000) 1000000).bind fun KS =>
  ((cond (!(!KS)) (nP N ((b.cZ.getD ((x).toNat) iA.d).Jm) 1 1000000) (some false)).bind fun VP =>
  (cond (cond (!KS) true (!VP))
  (some 2)
  ((if ((decide (x > 0))=true→0≤(ai (x - 1))∧(ai (x - 1)) < ((b.cZ.length:Nat):Int)) then
  (cond (cond (decide (x > 0)) (decide ((b.cZ.getD ((x).toNat) iA.d).p7≤(b.cZ.getD ((ai (x - 1)).toNat) iA.d).p7)) false)
  (some 10)
  (l4 N b fuel (ai (x+1))))
  else none)))))
  else none))
  ((if 0≤(ai (((b.cZ.length:Nat):Int) - 1))∧(ai (((b.cZ.length:Nat):Int) - 1)) < ((b.cZ.length:Nat):Int) then
  (cond (cond (decide (b.DQ≤(b.cZ.getD ((ai (((b.cZ.length:Nat):Int) - 1)).toNat) iA.d).p7)) true (decide (b.DQ > 1000000)))
  (some 2)
  (some 0))
  else none)))
def uY (N:Nat) (b:iY):Option (Int) :=
 ((nP N ((b.cZ.length:Nat):Int) 1 20).bind fun QV =>
 (cond (!QV)
 (some 2)
 (l4 N b N 0)))
def tI (N:Nat) (b:iY):Option (Int) :=
 ((AN N b.eC).bind fun Jr =>
 (cond (!Jr)
 (some 4)
 (((uY N b).bind fun AO =>
 some AO))))
def CS (N:Nat) (b:iY):Option (Int) :=
 (if 0≤(0:Int)∧0 < ((b.cZ.length:Nat):Int) then
 some ((b.cZ.getD 0 iA.d).p7)
 else none)
def qW (N:Nat) (b:iY) (level:Int) (sum:Int) (x:Int) (o5:Int→Int→Option (Int)) (top:Int):Option (Int) :=
 o5 (ai (sum+(ai ((b.cZ.getD ((x).toNat) iA.d).Jm * (if (ai (top - (b.cZ.getD ((x).toNat) iA.d).p7)) > 0 then (ai (top - (b.cZ.getD ((x).toNat) iA.d).p7)) else 0))))) (ai (x+1))
def m8 (N:Nat) (b:iY) (level:Int):Nat→Int→Int→Option (Int)
 | 0,_,_=>none
 | fuel+1,sum,x =>
  (cond (decide (x < ((b.cZ.length:Nat):Int)))
  ((if 0≤x∧x < ((b.cZ.length:Nat):Int) then
  (cond (decide ((ai (x+1)) < ((b.cZ.length:Nat):Int)))
  ((if 0≤(ai (x+1))∧(ai (x+1)) < ((b.cZ.length:Nat):Int) then
  qW N b level sum x (m8 N b level fuel) (if (b.cZ.getD ((ai (x+1)).toNat) iA.d).p7 < level then (b.cZ.getD ((ai (x+1)).toNat) iA.d).p7 else level)
  else none))
  (qW N b level sum x (m8 N b level fuel) level))
  else none))
  (some sum))
def AP (N:Nat) (b:iY) (level:Int):Option (Int) :=
 m8 N b level N 0 0
def AQ (N:Nat) (b:iY) (level:Int):Option (Int×Int) :=
 ((tI N b).bind fun uy =>
 (cond (uy != 0)
 (some (0,uy))
 (((CS N b).bind fun MD =>
 ((nP N level MD b.DQ).bind fun QV =>
 (cond (!QV)
 (some (0,2))
 (((AP N b level).bind fun Js =>
 some (Js,0)))))))))
def eH (N:Nat):Option (Bool) :=
 ((AQ N (⟨(⟨#[65]⟩:ByteArray),([(⟨0,100⟩:iA)]:List iA),50⟩:iY) 30).bind fun sU =>
 some (cond (sU.2 == 0) (sU.1 == 3000) false))
def mv (N:Nat):Nat→Int→(List Int)→Option ((List Int))
 | 0,_,_=>none
 | fuel+1,n2,out =>
  (cond (decide (n2 > 0))
  ((if (out.length+1) * 2≤140737488355328 then
  mv N fuel (oB .u64 n2 16) (out ++ ([(IntKind.u16.wrap ((vH .u64 n2 65535)))]:List Int))
  else none))
  (some out))
def tj (N:Nat) (n:Int):Option ((List Int)) :=
 mv N N n ([]:List Int)
def Ir (N:Nat) (n:Int):Option (bP) :=
 (cond (decide (n < 0))
 (((tj N (IntKind.u64.wrap ((IntKind.u64.wrap ((ai (0 - (ai (n+1))))))+1))).bind fun ME =>
 some (⟨true,ME⟩:bP)))
 (((tj N (IntKind.u64.wrap (n))).bind fun Jt =>
 some (⟨false,Jt⟩:bP))))
def Am (N:Nat) (n:Int):Option (aa) :=
 ((Ir N n).bind fun rZ =>
 ((Ir N 1).bind fun rZ2 =>
 some (⟨rZ,rZ2⟩:aa)))
def cH (N:Nat) (l:List ae):Nat→(List ab)→Int→Option ((List ab))
 | 0,_,_=>none
 | fuel+1,out,i4 =>
  (cond (decide (i4 < ((l.length:Nat):Int)))
  ((if 0≤((l.length:Nat):Int)∧(64:Int) * ((l.length:Nat):Int)≤281474976710656∧((l.length:Nat):Int)≤9223372036854775807 then
  ((Am N 1).bind fun CT =>
  ((Am N (-1)).bind fun CU =>
  (if 0≤i4∧i4 < (((List.replicate l.length aa.d:List aa).length:Nat):Int) then
  ((Am N 1).bind fun Is =>
  ((Am N 0).bind fun It =>
  (if (out.length+2) * 88≤140737488355328 then
  cH N l fuel (out ++ ([(⟨((List.replicate l.length aa.d:List aa).set ((i4).toNat) CT),Is⟩:ab),(⟨((List.replicate l.length aa.d:List aa).set ((i4).toNat) CU),It⟩:ab)]:List ab)) (ai (i4+1))
  else none)))
  else none)))
  else none))
  (some out))
def cd (N:Nat) (l:List ae) (rW:aa) (nQ:aa) (qX:aa) (a:List aa) (b:List aa) (aP:aa) (a2:List aa) (b2:List aa) (bM:aa):Nat→(List aa)→(List aa)→Int→Option ((List ab))
 | 0,_,_,_=>none
 | fuel+1,a3,b3,i3 =>
  (cond (decide (i3 < ((l.length:Nat):Int)))
  ((if 0≤i3∧i3 < ((l.length:Nat):Int) then
  ((qL N (l.getD ((i3).toNat) ae.d)).bind fun lF =>
  (if (a3.length+1) * 64≤140737488355328 then
  ((il N lF.e2).bind fun gN =>
  (if (b3.length+1) * 64≤140737488355328 then
  cd N l rW nQ qX a b aP a2 b2 bM fuel (a3 ++ ([lF.e2]:List aa)) (b3 ++ ([gN]:List aa)) (ai (i3+1))
  else none))
  else none))
  else none))
  (((il N qX).bind fun gP =>
  (if ((([(⟨a,aP⟩:ab),(⟨b,rW⟩:ab)]:List ab) ++ ([(⟨a2,bM⟩:ab),(⟨b2,nQ⟩:ab)]:List ab)).length+2) * 88≤140737488355328 then
  cH N l N ((([(⟨a,aP⟩:ab),(⟨b,rW⟩:ab)]:List ab) ++ ([(⟨a2,bM⟩:ab),(⟨b2,nQ⟩:ab)]:List ab)) ++ ([(⟨a3,gP⟩:ab),(⟨b3,qX⟩:ab)]:List ab)) 0
  else none))))
def cg (N:Nat) (l:List ae) (rW:aa) (nQ:aa) (qX:aa) (a:List aa) (b:List aa) (aP:aa):Nat→(List aa)→(List aa)→Int→Option ((List ab))
 | 0,_,_,_=>none
 | fuel+1,a2,b2,i2 =>
  (cond (decide (i2 < ((l.length:Nat):Int)))
  ((if 0≤i2∧i2 < ((l.length:Nat):Int) then
  ((qL N (l.getD ((i2).toNat) ae.d)).bind fun lG =>
  (if (a2.length+1) * 64≤140737488355328 then
  ((il N lG.e1).bind fun gQ =>
  (if (b2.length+1) * 64≤140737488355328 then
  cg N l rW nQ qX a b aP fuel (a2 ++ ([lG.e1]:List aa)) (b2 ++ ([gQ]:List aa)) (ai (i2+1))
  else none))
  else none))
  else none))
  (((il N nQ).bind fun bM =>
  (if (([(⟨a,aP⟩:ab),(⟨b,rW⟩:ab)]:List ab).length+2) * 88≤140737488355328 then
  cd N l rW nQ qX a b aP a2 b2 bM N ([]:List aa) ([]:List aa) 0
  else none))))
def cj (N:Nat) (l:List ae) (rW:aa) (nQ:aa) (qX:aa):Nat→(List aa)→(List aa)→Int→Option ((List ab))
 | 0,_,_,_=>none
 | fuel+1,a,b,i =>
  (cond (decide (i < ((l.length:Nat):Int)))
  ((if 0≤i∧i < ((l.length:Nat):Int) then
  ((qL N (l.getD ((i).toNat) ae.d)).bind fun oI =>
  (if (a.length+1) * 64≤140737488355328 then
  ((il N oI.e0).bind fun gV =>
  (if (b.length+1) * 64≤140737488355328 then
  cj N l rW nQ qX fuel (a ++ ([oI.e0]:List aa)) (b ++ ([gV]:List aa)) (ai (i+1))
  else none))
  else none))
  else none))
  (((il N rW).bind fun aP =>
  cg N l rW nQ qX a b aP N ([]:List aa) ([]:List aa) 0)))
def jG (N:Nat) (l:List ae) (w:dE):Option ((List ab)) :=
 ((Am N w.iz).bind fun rW =>
 ((Am N w.jo).bind fun nQ =>
 ((Am N w.jJ).bind fun qX =>
 cj N l rW nQ qX N ([]:List aa) ([]:List aa) 0)))
def bU (N:Nat) (w:dE) (sV:List ae):Option (Bool) :=
 ((jb N sV).bind fun w8 =>
 (cond (w8 != 0)
 (((eH N).bind fun QW =>
 some QW))
 (((ly N sV w).bind fun qM =>
 ((cond (cond (qM.2 == 0) qM.1.aE false) (eH N) (some false)).bind fun QX =>
 some (cond (cond (qM.2 == 0) qM.1.aE false) QX false))))))
def aW (N:Nat) (w:dE) (more:ae):Nat→(List ae)→Int→Option (Bool)
 | 0,_,_=>none
 | fuel+1,bu,i =>
  (cond (decide (i < ((bu.length:Nat):Int)))
  ((if 0≤i∧i < ((bu.length:Nat):Int) then
  aW N w more fuel (bu.set ((i).toNat) (⟨(bu.getD ((i).toNat) ae.d).eC,(bu.getD ((i).toNat) ae.d).iz,(bu.getD ((i).toNat) ae.d).jo,(bu.getD ((i).toNat) ae.d).bV,(bu.getD ((i).toNat) ae.d).ct,(if (1000000000:Int) < (ai (2 * (bu.getD ((i).toNat) ae.d).cY)) then 1000000000 else (ai (2 * (bu.getD ((i).toNat) ae.d).cY)))⟩:ae)) (ai (i+1))
  else none))
  ((cond (decide (((more.eC.size:Nat):Int)≤12))
  ((if (bu.length+1) * 56≤140737488355328 then
  bU N w (bu ++ ([more]:List ae))
  else none))
  (bU N w bu))))
def cW (N:Nat) (l:List ae) (w:dE) (more:ae):Option (Bool) :=
 ((cond (!(decide (((l.length:Nat):Int) > 4))) (jb N l) (some 0)).bind fun dX =>
 ((cond (!(cond (decide (((l.length:Nat):Int) > 4)) true (dX != 0))) (kU N w) (some 0)).bind fun AR =>
 (cond (cond (cond (decide (((l.length:Nat):Int) > 4)) true (dX != 0)) true (AR != 0))
 (((eH N).bind fun VQ =>
 some VQ))
 (((ly N l w).bind fun iU =>
 ((jG N l w).bind fun CV =>
 ((n9 N ((l.length:Nat):Int) CV).bind fun aJ =>
 ((cond (!(cond (cond (iU.2 != 0) true (!(iU.1.aE == (aJ.2.2 == 0)))) true (cond (aJ.2.2 != 0) (aJ.2.2 != 29) false))) (lB N l w iU.1) (some 0)).bind fun uZ =>
 (cond (cond (cond (cond (iU.2 != 0) true (!(iU.1.aE == (aJ.2.2 == 0)))) true (cond (aJ.2.2 != 0) (aJ.2.2 != 29) false)) true (uZ != 0))
 (some false)
 (((ly N l (⟨0,0,0⟩:dE)).bind fun tJ =>
 (cond (cond (tJ.2 != 0) true (!tJ.1.aE))
 (some false)
 ((cond (!iU.1.aE)
 (((eH N).bind fun KT =>
 some KT))
 ((if (0+l.length) * 56≤140737488355328 then
 aW N w more N (([]:List ae) ++ l) 0
 else none))))))))))))))))
end Go.Den
