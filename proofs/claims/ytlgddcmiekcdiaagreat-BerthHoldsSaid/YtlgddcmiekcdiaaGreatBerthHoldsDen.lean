/- The functions of the program as Lean functions, each in the Option monad; N bounds the rounds of loops. No conditions. -/
import Derived.Test.YtlgddcmiekcdiaaGreatCd
set_option linter.unusedVariables false
set_option linter.unusedSimpArgs false
set_option linter.unusedVariables false
namespace Go.Den
open Go.Ab
abbrev zA (s:ByteArray) (x:Int):Int:=kC s x.toNat
structure bG where
 fG:Bool
 fL:List Int
def bG.d:bG:=⟨false,[]⟩
def bG.wf (x:bG):Prop:=wB x.fG∧(wL (wK .u16)) x.fL
def lk (x:bG):List AV:=[(aB x.fG),(aH (cU .u16) 0 x.fL)]
structure aa where
 fN:bG
 fD:bG
def aa.d:aa:=⟨bG.d,bG.d⟩
def aa.wf (x:aa):Prop:=bG.wf x.fN∧bG.wf x.fD
def aj (x:aa):List AV:=[(aB x.fN.fG),(aH (cU .u16) 0 x.fN.fL),(aB x.fD.fG),(aH (cU .u16) 0 x.fD.fL)]
structure af where
 eV:List aa
 mX:aa
def af.d:af:=⟨[],aa.d⟩
def af.wf (x:af):Prop:=(wL aa.wf) x.eV∧aa.wf x.mX
def wX (x:af):List AV:=[(aH aj aa.d x.eV),(aB x.mX.fN.fG),(aH (cU .u16) 0 x.mX.fN.fL),(aB x.mX.fD.fG),(aH (cU .u16) 0 x.mX.fD.fL)]
structure lR where
 xk:Int
 xl:Int
 kz:List Int
 nj:List Int
 Jt:List (List aa)
 Ju:List aa
 eW:List aa
 ak:aa
 cu:Int
def lR.d:lR:=⟨0,0,[],[],[],[],[],aa.d,0⟩
def lR.wf (x:lR):Prop:=wI x.xk∧wI x.xl∧(wL wI) x.kz∧(wL wI) x.nj∧(wL (wL aa.wf)) x.Jt∧(wL aa.wf) x.Ju∧(wL aa.wf) x.eW∧aa.wf x.ak∧wI x.cu
def lR.cells (x:lR):List AV:=[(aI x.xk),(aI x.xl),(aH cI 0 x.kz),(aH cI 0 x.nj),(aH (fun x=>[aH aj aa.d x]) [] x.Jt),(aH aj aa.d x.Ju),(aH aj aa.d x.eW),(aB x.ak.fN.fG),(aH (cU .u16) 0 x.ak.fN.fL),(aB x.ak.fD.fG),(aH (cU .u16) 0 x.ak.fD.fL),(aI x.cu)]
structure ai where
 gq:ByteArray
 iZ:Int
 jE:Int
 b9:Int
 cC:Int
 n7:Int
def ai.d:ai:=⟨ByteArray.empty,0,0,0,0,0⟩
def ai.wf (x:ai):Prop:=wS x.gq∧wI x.iZ∧wI x.jE∧wI x.b9∧wI x.cC∧wI x.n7
def ai.cells (x:ai):List AV:=[(aS x.gq),(aI x.iZ),(aI x.jE),(aI x.b9),(aI x.cC),(aI x.n7)]
structure dK where
 iZ:Int
 jE:Int
 iv:Int
def dK.d:dK:=⟨0,0,0⟩
def dK.wf (x:dK):Prop:=wI x.iZ∧wI x.jE∧wI x.iv
def dK.cells (x:dK):List AV:=[(aI x.iZ),(aI x.jE),(aI x.iv)]
structure aP where
 aJ:Bool
 bc:List aa
 bI:List aa
def aP.d:aP:=⟨false,[],[]⟩
def aP.wf (x:aP):Prop:=wB x.aJ∧(wL aa.wf) x.bc∧(wL aa.wf) x.bI
def aP.cells (x:aP):List AV:=[(aB x.aJ),(aH aj aa.d x.bc),(aH aj aa.d x.bI)]
structure ar where
 e0:aa
 e1:aa
 e2:aa
def ar.d:ar:=⟨aa.d,aa.d,aa.d⟩
def ar.wf (x:ar):Prop:=aa.wf x.e0∧aa.wf x.e1∧aa.wf x.e2
def ar.cells (x:ar):List AV:=[(aB x.e0.fN.fG),(aH (cU .u16) 0 x.e0.fN.fL),(aB x.e0.fD.fG),(aH (cU .u16) 0 x.e0.fD.fL),(aB x.e1.fN.fG),(aH (cU .u16) 0 x.e1.fN.fL),(aB x.e1.fD.fG),(aH (cU .u16) 0 x.e1.fD.fL),(aB x.e2.fN.fG),(aH (cU .u16) 0 x.e2.fN.fL),(aB x.e2.fD.fG),(aH (cU .u16) 0 x.e2.fD.fL)]
structure zS where
 Qd:Int
 Qe:Int
def zS.d:zS:=⟨0,0⟩
def zS.wf (x:zS):Prop:=wI x.Qd∧wI x.Qe
def zS.cells (x:zS):List AV:=[(aI x.Qd),(aI x.Qe)]
structure Cu where
 gq:ByteArray
 MN:List zS
 T7:Int
def Cu.d:Cu:=⟨ByteArray.empty,[],0⟩
def Cu.wf (x:Cu):Prop:=wS x.gq∧(wL zS.wf) x.MN∧wI x.T7
def Cu.cells (x:Cu):List AV:=[(aS x.gq),(aH zS.cells zS.d x.MN),(aI x.T7)]
def oH (N:Nat) (vr:af) (C0:Int):Option (Bool) :=
 some (decide (((vr.eV.length:Nat):Int) > C0))
def cj (N:Nat) (s:List af) (C0:Int):Nat→Int→Option (Int)
 | 0,_=>none
 | fuel+1,x =>
  (cond (decide (x < ((s.length:Nat):Int)))
  ((if 0≤x∧x < ((s.length:Nat):Int) then
  ((oH N (s.getD ((x).toNat) af.d) C0).bind fun x5 =>
  (cond x5
  (some x)
  (cj N s C0 fuel (ah (x+1)))))
  else none))
  (some (-1)))
def lZ (N:Nat) (s:List af) (C0:Int):Option (Int) :=
 cj N s C0 N 0
def kD (N:Nat) (s:List af) (C0:Int):Option (Bool) :=
 ((lZ N s C0).bind fun Lv =>
 some (decide (Lv≥0)))
def oi (N:Nat) (n:Int) (l:List af):Option (Int) :=
 (cond (cond (decide (n < 0)) true (decide (n > 12)))
 (some 2)
 ((cond (decide (((l.length:Nat):Int) > 40))
 (some 8)
 (((kD N l n).bind fun Lv =>
 (cond Lv
 (some 11)
 (some 0)))))))
def kg (N:Nat):Nat→Int→(List Int)→Option ((List Int))
 | 0,_,_=>none
 | fuel+1,n2,out =>
  (cond (decide (n2 > 0))
  ((if (out.length+1) * 2≤140737488355328 then
  kg N fuel (oU .u64 n2 16) (out ++ ([(IntKind.u16.wrap (n2))]:List Int))
  else none))
  (some out))
def nm (N:Nat) (n:Int):Option ((List Int)) :=
 kg N N n ([]:List Int)
def np (N:Nat):Nat→(List Int)→Option ((List Int))
 | 0,_=>none
 | fuel+1,n2 =>
  (if ((decide (((n2.length:Nat):Int) > 0))=true→0≤(ah (((n2.length:Nat):Int) - 1))∧(ah (((n2.length:Nat):Int) - 1)) < ((n2.length:Nat):Int)) then
  (cond (cond (decide (((n2.length:Nat):Int) > 0)) ((n2.getD ((ah (((n2.length:Nat):Int) - 1)).toNat) 0) == 0) false)
  ((if 0≤(ah (((n2.length:Nat):Int) - 1)).toNat∧(ah (((n2.length:Nat):Int) - 1)).toNat≤n2.length then
  (if 0≤(ah (((n2.length:Nat):Int) - 1)) then
  np N fuel ((n2.take ((ah (((n2.length:Nat):Int) - 1)).toNat)).drop 0)
  else none)
  else none))
  (some n2))
  else none)
def g7 (N:Nat) (n:List Int):Option ((List Int)) :=
 np N N n
def dq (N:Nat) (s:List Int):Option ((List Int)) :=
 (if (0+s.length) * 2≤140737488355328 then
 some (([]:List Int) ++ s)
 else none)
def jB (N:Nat) (neg:Bool) (n:List Int):Option (bG) :=
 ((g7 N n).bind fun b7 =>
 (cond (((b7.length:Nat):Int) == 0)
 (some (⟨false,([]:List Int)⟩:bG))
 (((dq N b7).bind fun Ai =>
 some (⟨neg,Ai⟩:bG)))))
def wc (N:Nat) (n:Int):Option (bG) :=
 (cond (decide (n < 0))
 (((nm N (IntKind.u64.wrap (0 - (IntKind.u64.wrap (n))))).bind fun sQ =>
 ((jB N true sQ).bind fun Lw =>
 some Lw)))
 (((nm N (IntKind.u64.wrap (n))).bind fun Cv =>
 ((jB N false Cv).bind fun Fo =>
 some Fo))))
def lV (N:Nat) (n:List Int):Nat→Int→Int→Option (Int×Bool)
 | 0,_,_=>none
 | fuel+1,out,i =>
  (cond (decide (i≥0))
  ((if 0≤i∧i < ((n.length:Nat):Int) then
  lV N n fuel (sO .u64 (gZ .u64 out 16) (IntKind.u64.wrap ((n.getD ((i).toNat) 0)))) (ah (i - 1))
  else none))
  (some (out,true)))
def uX (N:Nat) (n:List Int):Option (Int×Bool) :=
 (cond (decide (((n.length:Nat):Int) > 4))
 (some (0,false))
 (lV N n N 0 (ah (((n.length:Nat):Int) - 1))))
def jl (N:Nat) (a:List Int) (b:List Int):Nat→Int→Option (Int)
 | 0,_=>none
 | fuel+1,i =>
  (cond (decide (i≥0))
  ((if 0≤i∧i < ((a.length:Nat):Int) then
  (if 0≤i∧i < ((b.length:Nat):Int) then
  (cond ((a.getD ((i).toNat) 0) != (b.getD ((i).toNat) 0))
  (some (ah ((ah ((a.getD ((i).toNat) 0))) - (ah ((b.getD ((i).toNat) 0))))))
  (jl N a b fuel (ah (i - 1))))
  else none)
  else none))
  (some 0))
def nr (N:Nat) (a:List Int) (b:List Int):Option (Int) :=
 (cond (((a.length:Nat):Int) != ((b.length:Nat):Int))
 (some (ah (((a.length:Nat):Int) - ((b.length:Nat):Int))))
 (jl N a b N (ah (((a.length:Nat):Int) - 1))))
def kS (N:Nat) (a:List Int) (b:Int):Nat→(List Int)→Int→Int→Option ((List Int)×Int)
 | 0,_,_,_=>none
 | fuel+1,q,rest,i =>
  (cond (decide (i≥0))
  ((if 0≤i∧i < ((a.length:Nat):Int) then
  (if ((IntKind.u32.wrap (b)):Int)≠0 then
  (if 0≤i∧i < ((q.length:Nat):Int) then
  kS N a b fuel (q.set ((i).toNat) (IntKind.u16.wrap ((IntKind.u32.wrap ((sO .u32 (gZ .u32 rest 16) (IntKind.u32.wrap ((a.getD ((i).toNat) 0)))).tdiv (IntKind.u32.wrap (b))))))) ((sO .u32 (gZ .u32 rest 16) (IntKind.u32.wrap ((a.getD ((i).toNat) 0)))).tmod (IntKind.u32.wrap (b))) (ah (i - 1))
  else none)
  else none)
  else none))
  (((g7 N q).bind fun b7 =>
  some (b7,(IntKind.u16.wrap (rest))))))
def uY (N:Nat) (a:List Int) (b:Int):Option ((List Int)×Int) :=
 (if 0≤((a.length:Nat):Int)∧(2:Int) * ((a.length:Nat):Int)≤281474976710656∧((a.length:Nat):Int)≤9223372036854775807 then
 kS N a b N (List.replicate a.length 0:List Int) 0 (ah (((a.length:Nat):Int) - 1))
 else none)
def cA (N:Nat) (x2:Int) (n:Int):Option (Int) :=
 (if 0≤(IntKind.u8.wrap (x2))∧(IntKind.u8.wrap (x2)) < (((⟨#[0,1,2,2,3,3,3,3,4,4,4,4,4,4,4,4,5,5,5,5,5,5,5,5,5,5,5,5,5,5,5,5,6,6,6,6,6,6,6,6,6,6,6,6,6,6,6,6,6,6,6,6,6,6,6,6,6,6,6,6,6,6,6,6,7,7,7,7,7,7,7,7,7,7,7,7,7,7,7,7,7,7,7,7,7,7,7,7,7,7,7,7,7,7,7,7,7,7,7,7,7,7,7,7,7,7,7,7,7,7,7,7,7,7,7,7,7,7,7,7,7,7,7,7,7,7,7,7,8,8,8,8,8,8,8,8,8,8,8,8,8,8,8,8,8,8,8,8,8,8,8,8,8,8,8,8,8,8,8,8,8,8,8,8,8,8,8,8,8,8,8,8,8,8,8,8,8,8,8,8,8,8,8,8,8,8,8,8,8,8,8,8,8,8,8,8,8,8,8,8,8,8,8,8,8,8,8,8,8,8,8,8,8,8,8,8,8,8,8,8,8,8,8,8,8,8,8,8,8,8,8,8,8,8,8,8,8,8,8,8,8,8,8,8,8,8,8,8,8,8,8,8,8,8,8,8]⟩:ByteArray).size:Nat):Int) then
 some (ah (n+(ah ((kC (⟨#[0,1,2,2,3,3,3,3,4,4,4,4,4,4,4,4,5,5,5,5,5,5,5,5,5,5,5,5,5,5,5,5,6,6,6,6,6,6,6,6,6,6,6,6,6,6,6,6,6,6,6,6,6,6,6,6,6,6,6,6,6,6,6,6,7,7,7,7,7,7,7,7,7,7,7,7,7,7,7,7,7,7,7,7,7,7,7,7,7,7,7,7,7,7,7,7,7,7,7,7,7,7,7,7,7,7,7,7,7,7,7,7,7,7,7,7,7,7,7,7,7,7,7,7,7,7,7,7,8,8,8,8,8,8,8,8,8,8,8,8,8,8,8,8,8,8,8,8,8,8,8,8,8,8,8,8,8,8,8,8,8,8,8,8,8,8,8,8,8,8,8,8,8,8,8,8,8,8,8,8,8,8,8,8,8,8,8,8,8,8,8,8,8,8,8,8,8,8,8,8,8,8,8,8,8,8,8,8,8,8,8,8,8,8,8,8,8,8,8,8,8,8,8,8,8,8,8,8,8,8,8,8,8,8,8,8,8,8,8,8,8,8,8,8,8,8,8,8,8,8,8,8,8,8,8,8]⟩:ByteArray) ((IntKind.u8.wrap (x2)).toNat))))))
 else none)
def kT (N:Nat) (x:Int):Option (Int) :=
 (cond (decide (x≥256))
 (cA N (oU .u16 x 8) 8)
 (cA N x 0))
def eX (N:Nat) (x:Int):Option (Int) :=
 ((kT N x).bind fun Lx =>
 some (ah (16 - Lx)))
def jm (N:Nat) (a:List Int) (zx:Int):Nat→(List Int)→Int→Option ((List Int))
 | 0,_,_=>none
 | fuel+1,out,x =>
  (cond (decide (x < ((a.length:Nat):Int)))
  ((if 0≤x∧x < ((a.length:Nat):Int) then
  (if (0:Int)≤zx then
  (if 0≤x∧x < ((out.length:Nat):Int) then
  (if 0≤(ah (x+1))∧(ah (x+1)) < (((out.set ((x).toNat) (sO .u16 (out.getD ((x).toNat) 0) (IntKind.u16.wrap ((gZ .u32 (IntKind.u32.wrap ((a.getD ((x).toNat) 0))) zx))))).length:Nat):Int) then
  jm N a zx fuel ((out.set ((x).toNat) (sO .u16 (out.getD ((x).toNat) 0) (IntKind.u16.wrap ((gZ .u32 (IntKind.u32.wrap ((a.getD ((x).toNat) 0))) zx))))).set ((ah (x+1)).toNat) (IntKind.u16.wrap ((oU .u32 (gZ .u32 (IntKind.u32.wrap ((a.getD ((x).toNat) 0))) zx) 16)))) (ah (x+1))
  else none)
  else none)
  else none)
  else none))
  (some out))
def o9 (N:Nat) (a:List Int) (zx:Int):Option ((List Int)) :=
 (if 0≤(ah (((a.length:Nat):Int)+1))∧(2:Int) * (ah (((a.length:Nat):Int)+1))≤281474976710656∧(ah (((a.length:Nat):Int)+1))≤9223372036854775807 then
 jm N a zx N (List.replicate ((ah (((a.length:Nat):Int)+1)).toNat) 0:List Int) 0
 else none)
def nM (N:Nat) (uo:Nat) (un:Nat) (v:List Int) (q:Int) (bw:List Int) (borrow:Int) (x:Int) (pO:(List Int)→Int→Int→Int→Option (Int×(List Int))) (x2:Int):Option (Int×(List Int)) :=
 (if 0≤x∧x < ((un:Nat):Int) then
 (if uo+un≤bw.length then
 pO (bw.set (bA uo (x).toNat) (IntKind.u16.wrap ((ah ((ah ((ah ((bw.getD (bA uo (x).toNat) 0))) - (ah ((Ka .u64 x2 65535)))))+borrow))))) (oU .u64 x2 16) (oU .i64 (ah ((ah ((ah ((bw.getD (bA uo (x).toNat) 0))) - (ah ((Ka .u64 x2 65535)))))+borrow)) 16) (ah (x+1))
 else none)
 else none)
def kU (N:Nat) (de:List Int) (q2:Int):Option (Int×(List Int)) :=
 some ((IntKind.u16.wrap (q2)),de)
def jb (N:Nat) (uo:Nat) (un:Nat) (v:List Int) (q:Int):Nat→(List Int)→Int→Int→Option (Int×(List Int))
 | 0,_,_,_=>none
 | fuel+1,cd,fH,x3 =>
  (cond (decide (x3 < ((v.length:Nat):Int)))
  ((if 0≤x3∧x3 < ((un:Nat):Int) then
  (if uo+un≤cd.length then
  (if 0≤x3∧x3 < ((v.length:Nat):Int) then
  jb N uo un v q fuel (cd.set (bA uo (x3).toNat) (IntKind.u16.wrap ((IntKind.u32.wrap (fH+(IntKind.u32.wrap ((IntKind.u32.wrap ((cd.getD (bA uo (x3).toNat) 0)))+(IntKind.u32.wrap ((v.getD ((x3).toNat) 0)))))))))) (oU .u32 (IntKind.u32.wrap (fH+(IntKind.u32.wrap ((IntKind.u32.wrap ((cd.getD (bA uo (x3).toNat) 0)))+(IntKind.u32.wrap ((v.getD ((x3).toNat) 0))))))) 16) (ah (x3+1))
  else none)
  else none)
  else none))
  ((if 0≤((v.length:Nat):Int)∧((v.length:Nat):Int) < ((un:Nat):Int) then
  (if uo+un≤cd.length then
  kU N (cd.set (bA uo v.length) (IntKind.u16.wrap ((cd.getD (bA uo v.length) 0)+(IntKind.u16.wrap (fH))))) (IntKind.u64.wrap (q - 1))
  else none)
  else none)))
def gf (N:Nat) (uo:Nat) (un:Nat) (v:List Int) (q:Int):Nat→(List Int)→Int→Int→Int→Option (Int×(List Int))
 | 0,_,_,_,_=>none
 | fuel+1,bw,carry,borrow,x =>
  (cond (decide (x < (ah (((v.length:Nat):Int)+1))))
  ((cond (decide (x < ((v.length:Nat):Int)))
  ((if 0≤x∧x < ((v.length:Nat):Int) then
  nM N uo un v q bw borrow x (gf N uo un v q fuel) (IntKind.u64.wrap (carry+(IntKind.u64.wrap (q * (IntKind.u64.wrap ((v.getD ((x).toNat) 0)))))))
  else none))
  (nM N uo un v q bw borrow x (gf N uo un v q fuel) carry)))
  ((cond (decide (borrow < 0))
  (jb N uo un v q N bw 0 0)
  (kU N bw q))))
def kV (N:Nat) (uo:Nat) (un:Nat) (v:List Int) (C0:List Int):Nat→Int→Int→Option (Int×(List Int))
 | 0,_,_=>none
 | fuel+1,q,rest =>
  (if (((decide (rest < 65536)) && ((decide (rest < 65536)) && (!(decide (q > 65535)))))=true→0≤(ah (((v.length:Nat):Int) - 2))∧(ah (((v.length:Nat):Int) - 2)) < ((v.length:Nat):Int)) then
  (if (((decide (rest < 65536)) && ((decide (rest < 65536)) && (!(decide (q > 65535)))))=true→0≤(ah (((v.length:Nat):Int) - 2))∧(ah (((v.length:Nat):Int) - 2)) < ((un:Nat):Int)) then
  (if (((decide (rest < 65536)) && ((decide (rest < 65536)) && (!(decide (q > 65535)))))=true→uo+un≤C0.length) then
  (cond (cond (decide (rest < 65536)) (cond (decide (q > 65535)) true (decide ((IntKind.u64.wrap (q * (IntKind.u64.wrap ((v.getD ((ah (((v.length:Nat):Int) - 2)).toNat) 0))))) > (sO .u64 (gZ .u64 rest 16) (IntKind.u64.wrap ((C0.getD (bA uo (ah (((v.length:Nat):Int) - 2)).toNat) 0))))))) false)
  ((if 0≤(ah (((v.length:Nat):Int) - 1))∧(ah (((v.length:Nat):Int) - 1)) < ((v.length:Nat):Int) then
  kV N uo un v C0 fuel (IntKind.u64.wrap (q - 1)) (IntKind.u64.wrap (rest+(IntKind.u64.wrap ((v.getD ((ah (((v.length:Nat):Int) - 1)).toNat) 0)))))
  else none))
  (gf N uo un v q N C0 0 0 0))
  else none)
  else none)
  else none)
def uZ (N:Nat) (uo:Nat) (un:Nat) (v:List Int) (C0:List Int):Option (Int×(List Int)) :=
 (if 0≤((v.length:Nat):Int)∧((v.length:Nat):Int) < ((un:Nat):Int) then
 (if uo+un≤C0.length then
 (if 0≤(ah (((v.length:Nat):Int) - 1))∧(ah (((v.length:Nat):Int) - 1)) < ((un:Nat):Int) then
 (if 0≤(ah (((v.length:Nat):Int) - 1))∧(ah (((v.length:Nat):Int) - 1)) < ((v.length:Nat):Int) then
 (if ((IntKind.u64.wrap ((v.getD ((ah (((v.length:Nat):Int) - 1)).toNat) 0))):Int)≠0 then
 kV N uo un v C0 N (IntKind.u64.wrap ((sO .u64 (gZ .u64 (IntKind.u64.wrap ((C0.getD (bA uo v.length) 0))) 16) (IntKind.u64.wrap ((C0.getD (bA uo (ah (((v.length:Nat):Int) - 1)).toNat) 0)))).tdiv (IntKind.u64.wrap ((v.getD ((ah (((v.length:Nat):Int) - 1)).toNat) 0))))) ((sO .u64 (gZ .u64 (IntKind.u64.wrap ((C0.getD (bA uo v.length) 0))) 16) (IntKind.u64.wrap ((C0.getD (bA uo (ah (((v.length:Nat):Int) - 1)).toNat) 0)))).tmod (IntKind.u64.wrap ((v.getD ((ah (((v.length:Nat):Int) - 1)).toNat) 0))))
 else none)
 else none)
 else none)
 else none)
 else none)
def jS (N:Nat) (b:List Int) (bt:Int) (q:List Int) (u:List Int):Nat→(List Int)→Int→Option ((List Int)×(List Int))
 | 0,_,_=>none
 | fuel+1,vr,x =>
  (cond (decide (x < (((b.length - 0):Nat):Int)))
  ((if 0≤x∧x < ((u.length:Nat):Int) then
  (if 0≤(ah (x+1))∧(ah (x+1)) < ((u.length:Nat):Int) then
  (if (0:Int)≤bt then
  (if 0≤x∧x < ((vr.length:Nat):Int) then
  jS N b bt q u fuel (vr.set ((x).toNat) (IntKind.u16.wrap ((oU .u32 (sO .u32 (IntKind.u32.wrap ((u.getD ((x).toNat) 0))) (gZ .u32 (IntKind.u32.wrap ((u.getD ((ah (x+1)).toNat) 0))) 16)) bt)))) (ah (x+1))
  else none)
  else none)
  else none)
  else none))
  (((g7 N q).bind fun jJ =>
  ((g7 N vr).bind fun Ly =>
  some (jJ,Ly)))))
def jT (N:Nat) (b:List Int) (bt:Int) (fP:(List Int)):Nat→(List Int)→(List Int)→Int→Option ((List Int)×(List Int))
 | 0,_,_,_=>none
 | fuel+1,q,u,j =>
  (cond (decide (j≥0))
  ((if (j).toNat≤(ah ((ah (j+(((b.length - 0):Nat):Int)))+1)).toNat∧(ah ((ah (j+(((b.length - 0):Nat):Int)))+1)).toNat≤u.length then
  (if 0≤j then
  (if 0≤(ah ((ah (j+(((b.length - 0):Nat):Int)))+1)) then
  (if 0≤b.length∧b.length≤fP.length then
  ((uZ N ((j).toNat) ((ah ((ah (j+(((b.length - 0):Nat):Int)))+1)).toNat - (j).toNat) ((fP.take b.length).drop 0) u).bind fun cH =>
  (if cH.2.length=u.length then
  (if 0≤j∧j < ((q.length:Nat):Int) then
  jT N b bt fP fuel (q.set ((j).toNat) cH.1) cH.2 (ah (j - 1))
  else none)
  else none))
  else none)
  else none)
  else none)
  else none))
  ((if 0≤(((b.length - 0):Nat):Int)∧(2:Int) * (((b.length - 0):Nat):Int)≤281474976710656∧(((b.length - 0):Nat):Int)≤9223372036854775807 then
  jS N b bt q u N (List.replicate (b.length - 0) 0:List Int) 0
  else none)))
def oW (N:Nat) (a:List Int) (b:List Int):Option ((List Int)×(List Int)) :=
 ((nr N a b).bind fun ki =>
 (cond (decide (ki < 0))
 (((dq N a).bind fun Ai =>
 some (([]:List Int),Ai)))
 ((cond (((b.length:Nat):Int) == 1)
 ((if 0≤(0:Int)∧0 < ((b.length:Nat):Int) then
 ((uY N a (b.getD 0 0)).bind fun Aj =>
 ((g7 N ([Aj.2]:List Int)).bind fun b7 =>
 some (Aj.1,b7)))
 else none))
 ((if 0≤(ah (((b.length:Nat):Int) - 1))∧(ah (((b.length:Nat):Int) - 1)) < ((b.length:Nat):Int) then
 ((eX N (b.getD ((ah (((b.length:Nat):Int) - 1)).toNat) 0)).bind fun bt =>
 ((o9 N a bt).bind fun eM =>
 ((o9 N b bt).bind fun fP =>
 (if 0≤b.length∧b.length≤fP.length then
 (if 0≤(ah (((eM.length:Nat):Int) - (((b.length - 0):Nat):Int)))∧(2:Int) * (ah (((eM.length:Nat):Int) - (((b.length - 0):Nat):Int)))≤281474976710656∧(ah (((eM.length:Nat):Int) - (((b.length - 0):Nat):Int)))≤9223372036854775807 then
 jT N b bt fP N (List.replicate ((ah (((eM.length:Nat):Int) - (((b.length - 0):Nat):Int))).toNat) 0:List Int) eM (ah ((ah (((eM.length:Nat):Int) - (((b.length - 0):Nat):Int))) - 1))
 else none)
 else none))))
 else none))))))
def ll (N:Nat) (oI:(List Int)→(List Int)→Option ((List Int))):Nat→Int→Int→Option ((List Int))
 | 0,_,_=>none
 | fuel+1,x,y =>
  (cond (decide (y > 0))
  ((if (y:Int)≠0 then
  ll N oI fuel y (x.tmod y)
  else none))
  (((nm N x).bind fun sQ =>
  some sQ)))
def jU (N:Nat):Nat→(List Int)→(List Int)→Option ((List Int))
 | 0,_,_=>none
 | fuel+1,a2,b2 =>
  (cond (decide (((b2.length:Nat):Int) > 0))
  (((uX N a2).bind fun HP =>
  ((uX N b2).bind fun Fp =>
  (cond (cond HP.2 Fp.2 false)
  (ll N (jU N fuel) N HP.1 Fp.1)
  (((oW N a2 b2).bind fun r9 =>
  jU N fuel b2 r9.2))))))
  (some a2))
def we (N:Nat) (a:List Int) (b:List Int):Option ((List Int)) :=
 jU N N a b
def mq (N:Nat) (a:bG) (b:bG) (x:List Int) (y:List Int):Option (aa) :=
 ((jB N (!(a.fG == b.fG)) x).bind fun Lw =>
 ((jB N false y).bind fun Fo =>
 some (⟨Lw,Fo⟩:aa)))
def jc (N:Nat) (a:bG) (b:bG):Option (aa) :=
 ((g7 N a.fL).bind fun b7 =>
 ((g7 N b.fL).bind fun jJ =>
 ((we N b7 jJ).bind fun oJ =>
 (if ((!(((oJ.length:Nat):Int) != 1))=true→0≤(0:Int)∧0 < ((oJ.length:Nat):Int)) then
 (cond (cond (((oJ.length:Nat):Int) != 1) true ((oJ.getD 0 0) != 1))
 (((oW N b7 oJ).bind fun r9 =>
 ((oW N jJ oJ).bind fun Be =>
 mq N a b r9.1 Be.1)))
 (mq N a b b7 jJ))
 else none))))
def qu (N:Nat) (a:bG):Option (aa) :=
 ((jc N a (⟨false,([1]:List Int)⟩:bG)).bind fun B6 =>
 some B6)
def gr (N:Nat) (n:Int):Option (aa) :=
 ((wc N n).bind fun GG =>
 ((qu N GG).bind fun Ak =>
 some Ak))
def sR (N:Nat) (a:bG):Option (Int) :=
 ((g7 N a.fL).bind fun b7 =>
 (cond (((b7.length:Nat):Int) == 0)
 (some 0)
 ((cond a.fG
 (some (-1))
 (some 1)))))
def kI (N:Nat) (x:aa):Option (bG) :=
 ((sR N x.fD).bind fun u5 =>
 (cond (u5 == 0)
 (some (⟨false,([1]:List Int)⟩:bG))
 (some x.fD)))
def ln (N:Nat) (x:aa):Option (aa) :=
 ((kI N x).bind fun jK =>
 ((jc N x.fN jK).bind fun B6 =>
 some B6))
def sa (N:Nat) (a:bG):Option (bG) :=
 some (⟨(!a.fG),a.fL⟩:bG)
def gh (N:Nat) (x:aa):Option (aa) :=
 ((sa N x.fN).bind fun Cw =>
 ((kI N x).bind fun jK =>
 ((jc N Cw jK).bind fun B6 =>
 some B6)))
def nN (N:Nat) (n:Int) (l:List af) (aw:aa) (t:List Int) (t2:List Int) (t3:List (List aa)) (t4:List aa) (x2:Int) (row:List aa) (x3:Int) (pP:(List aa)→Int→Option (lR)) (er:(List Int)→(List (List aa))→(List aa)→Int→Option (lR)) (c7:aa):Option (lR) :=
 ((gh N c7).bind fun aY =>
 (if 0≤x3∧x3 < ((row.length:Nat):Int) then
 (if 0≤(ah (n+x3))∧(ah (n+x3)) < ((row.length:Nat):Int) then
 pP ((row.set ((x3).toNat) aY).set ((ah (n+x3)).toNat) c7) (ah (x3+1))
 else none)
 else none))
def gi (N:Nat) (n:Int) (l:List af) (aw:aa) (t:List Int) (t2:List Int) (t3:List (List aa)) (t4:List aa) (x2:Int) (er:(List Int)→(List (List aa))→(List aa)→Int→Option (lR)):Nat→(List aa)→Int→Option (lR)
 | 0,_,_=>none
 | fuel+1,row,x3 =>
  (cond (decide (x3 < n))
  (((gr N 0).bind fun lH =>
  (cond (decide (x3 < ((((l.getD ((x2).toNat) af.d).eV).length:Nat):Int)))
  ((if 0≤x3∧x3 < ((((l.getD ((x2).toNat) af.d).eV).length:Nat):Int) then
  ((ln N (⟨((((l.getD ((x2).toNat) af.d).eV).getD ((x3).toNat) aa.d).fN),((((l.getD ((x2).toNat) af.d).eV).getD ((x3).toNat) aa.d).fD)⟩:aa)).bind fun wg =>
  nN N n l aw t t2 t3 t4 x2 row x3 (gi N n l aw t t2 t3 t4 x2 er fuel) er wg)
  else none))
  (nN N n l aw t t2 t3 t4 x2 row x3 (gi N n l aw t t2 t3 t4 x2 er fuel) er lH))))
  (((gr N 1).bind fun bQ =>
  (if 0≤(ah (2 * n))∧(ah (2 * n)) < ((row.length:Nat):Int) then
  (if (t3.length+1) * 24≤140737488355328 then
  ((ln N (⟨(((l.getD ((x2).toNat) af.d).mX).fN),(((l.getD ((x2).toNat) af.d).mX).fD)⟩:aa)).bind fun eN =>
  (if (t4.length+1) * 64≤140737488355328 then
  er (t2 ++ ([(ah ((ah (2 * n))+x2))]:List Int)) (t3 ++ [(row.set ((ah (2 * n)).toNat) bQ)]) (t4 ++ ([eN]:List aa)) (ah (x2+1))
  else none))
  else none)
  else none))))
def kW (N:Nat) (n:Int) (l:List af) (aw:aa) (t:List Int) (t2:List Int) (t3:List (List aa)) (t4:List aa):Nat→(List aa)→Int→Option (lR)
 | 0,_,_=>none
 | fuel+1,t5,x4 =>
  (cond (decide (x4 < (((List.replicate ((ah ((ah (2 * n))+1)).toNat) aa.d:List aa).length:Nat):Int)))
  (((gr N 0).bind fun pQ =>
  (if 0≤x4∧x4 < ((t5.length:Nat):Int) then
  kW N n l aw t t2 t3 t4 fuel (t5.set ((x4).toNat) pQ) (ah (x4+1))
  else none)))
  (some (⟨n,((l.length:Nat):Int),t2,(t ++ ([(ah ((ah (2 * n))+((l.length:Nat):Int)))]:List Int)),t3,t4,t5,aw,(ah ((ah (2 * n))+((l.length:Nat):Int)))⟩:lR)))
def jL (N:Nat) (n:Int) (l:List af) (aw:aa) (t:List Int):Nat→(List Int)→(List (List aa))→(List aa)→Int→Option (lR)
 | 0,_,_,_,_=>none
 | fuel+1,t2,t3,t4,x2 =>
  (cond (decide (x2 < ((l.length:Nat):Int)))
  ((if 0≤x2∧x2 < ((l.length:Nat):Int) then
  (if (t2.length+1) * 8≤140737488355328 then
  (if 0≤(ah ((ah (2 * n))+1))∧(64:Int) * (ah ((ah (2 * n))+1))≤281474976710656∧(ah ((ah (2 * n))+1))≤9223372036854775807 then
  gi N n l aw t t2 t3 t4 x2 (jL N n l aw t fuel) N (List.replicate ((ah ((ah (2 * n))+1)).toNat) aa.d:List aa) 0
  else none)
  else none)
  else none))
  ((if 0≤(ah ((ah (2 * n))+1))∧(64:Int) * (ah ((ah (2 * n))+1))≤281474976710656∧(ah ((ah (2 * n))+1))≤9223372036854775807 then
  kW N n l aw t t2 t3 t4 N (List.replicate ((ah ((ah (2 * n))+1)).toNat) aa.d:List aa) 0
  else none)))
def kX (N:Nat) (n:Int) (l:List af) (aw:aa):Nat→(List Int)→Int→Option (lR)
 | 0,_,_=>none
 | fuel+1,t,x =>
  (cond (decide (x < (ah (2 * n))))
  ((if (t.length+1) * 8≤140737488355328 then
  kX N n l aw fuel (t ++ ([x]:List Int)) (ah (x+1))
  else none))
  ((if (t.length+1) * 8≤140737488355328 then
  jL N n l aw t N ([]:List Int) ([]:List (List aa)) ([]:List aa) 0
  else none)))
def yY (N:Nat) (n:Int) (l:List af):Option (lR) :=
 ((gr N 0).bind fun aw =>
 kX N n l aw N ([]:List Int) 0)
def nu (N:Nat) (x:aa):Option (Int) :=
 ((sR N x.fN).bind fun u5 =>
 ((kI N x).bind fun jK =>
 ((sR N jK).bind fun Lz =>
 some (ah (u5 * Lz)))))
def g8 (N:Nat) (x:aa):Option (Bool) :=
 ((sR N x.fN).bind fun u5 =>
 some (u5 == 0))
def kY (N:Nat) (a:List Int) (b:List Int) (x:Int) (nv:(List Int)→Int→Option ((List Int))):Nat→(List Int)→Int→Int→Option ((List Int))
 | 0,_,_,_=>none
 | fuel+1,gu,carry,x2 =>
  (cond (decide (x2 < ((b.length:Nat):Int)))
  ((if 0≤x2∧x2 < ((b.length:Nat):Int) then
  (if 0≤(ah (x+x2))∧(ah (x+x2)) < ((gu.length:Nat):Int) then
  kY N a b x nv fuel (gu.set ((ah (x+x2)).toNat) (IntKind.u16.wrap ((IntKind.u32.wrap (carry+(IntKind.u32.wrap ((IntKind.u32.wrap ((IntKind.u32.wrap ((a.getD ((x).toNat) 0))) * (IntKind.u32.wrap ((b.getD ((x2).toNat) 0)))))+(IntKind.u32.wrap ((gu.getD ((ah (x+x2)).toNat) 0)))))))))) (oU .u32 (IntKind.u32.wrap (carry+(IntKind.u32.wrap ((IntKind.u32.wrap ((IntKind.u32.wrap ((a.getD ((x).toNat) 0))) * (IntKind.u32.wrap ((b.getD ((x2).toNat) 0)))))+(IntKind.u32.wrap ((gu.getD ((ah (x+x2)).toNat) 0))))))) 16) (ah (x2+1))
  else none)
  else none))
  ((if 0≤(ah (x+((b.length:Nat):Int)))∧(ah (x+((b.length:Nat):Int))) < ((gu.length:Nat):Int) then
  nv (gu.set ((ah (x+((b.length:Nat):Int))).toNat) (IntKind.u16.wrap (carry))) (ah (x+1))
  else none)))
def kZ (N:Nat) (a:List Int) (b:List Int):Nat→(List Int)→Int→Option ((List Int))
 | 0,_,_=>none
 | fuel+1,out,x =>
  (cond (decide (x < ((a.length:Nat):Int)))
  ((if 0≤x∧x < ((a.length:Nat):Int) then
  kY N a b x (kZ N a b fuel) N out 0 0
  else none))
  (((g7 N out).bind fun b7 =>
  some b7)))
def sE (N:Nat) (a:List Int) (b:List Int):Option ((List Int)) :=
 (if 0≤(ah (((a.length:Nat):Int)+((b.length:Nat):Int)))∧(2:Int) * (ah (((a.length:Nat):Int)+((b.length:Nat):Int)))≤281474976710656∧(ah (((a.length:Nat):Int)+((b.length:Nat):Int)))≤9223372036854775807 then
 kZ N a b N (List.replicate ((ah (((a.length:Nat):Int)+((b.length:Nat):Int))).toNat) 0:List Int) 0
 else none)
def pR (N:Nat) (a:bG) (b:bG):Option (bG) :=
 ((g7 N a.fL).bind fun b7 =>
 ((g7 N b.fL).bind fun jJ =>
 ((sE N b7 jJ).bind fun ru =>
 ((jB N (!(a.fG == b.fG)) ru).bind fun Lw =>
 some Lw))))
def pe (N:Nat) (a2:List Int) (b2:List Int) (out:List Int) (x:Int) (qE:(List Int)→Int→Int→Option ((List Int))) (fH:Int):Option ((List Int)) :=
 (if (out.length+1) * 2≤140737488355328 then
 qE (out ++ ([(IntKind.u16.wrap (fH))]:List Int)) (oU .u32 fH 16) (ah (x+1))
 else none)
def jV (N:Nat) (a2:List Int) (b2:List Int):Nat→(List Int)→Int→Int→Option ((List Int))
 | 0,_,_,_=>none
 | fuel+1,out,carry,x =>
  (cond (decide (x < ((a2.length:Nat):Int)))
  ((if 0≤x∧x < ((a2.length:Nat):Int) then
  (cond (decide (x < ((b2.length:Nat):Int)))
  ((if 0≤x∧x < ((b2.length:Nat):Int) then
  pe N a2 b2 out x (jV N a2 b2 fuel) (IntKind.u32.wrap ((IntKind.u32.wrap (carry+(IntKind.u32.wrap ((a2.getD ((x).toNat) 0)))))+(IntKind.u32.wrap ((b2.getD ((x).toNat) 0)))))
  else none))
  (pe N a2 b2 out x (jV N a2 b2 fuel) (IntKind.u32.wrap (carry+(IntKind.u32.wrap ((a2.getD ((x).toNat) 0)))))))
  else none))
  ((if (out.length+1) * 2≤140737488355328 then
  ((g7 N (out ++ ([(IntKind.u16.wrap (carry))]:List Int))).bind fun b7 =>
  some b7)
  else none)))
def pf (N:Nat) (a2:List Int) (b2:List Int):Option ((List Int)) :=
 (if 0≤(0:Int)∧(2:Int) * (ah (((a2.length:Nat):Int)+1))≤281474976710656∧(ah (((a2.length:Nat):Int)+1))≤9223372036854775807∧(0:Int)≤(ah (((a2.length:Nat):Int)+1)) then
 jV N a2 b2 N (List.replicate 0 0:List Int) 0 0
 else none)
def u6 (N:Nat) (a:List Int) (b:List Int):Option ((List Int)) :=
 (cond (decide (((a.length:Nat):Int) < ((b.length:Nat):Int)))
 (pf N b a)
 (pf N a b))
def nO (N:Nat) (a:List Int) (b:List Int) (out:List Int) (x:Int) (y:Int) (fT:(List Int)→Int→Int→Option ((List Int))) (kA:Int):Option ((List Int)) :=
 (if 0≤x∧x < ((out.length:Nat):Int) then
 fT (out.set ((x).toNat) (IntKind.u16.wrap ((IntKind.u32.wrap ((IntKind.u32.wrap ((IntKind.u32.wrap ((a.getD ((x).toNat) 0)))+(gZ .u32 kA 16))) - y))))) kA (ah (x+1))
 else none)
def nP (N:Nat) (a:List Int) (b:List Int) (out:List Int) (x:Int) (fT:(List Int)→Int→Int→Option ((List Int))) (y:Int):Option ((List Int)) :=
 (cond (decide ((IntKind.u32.wrap ((a.getD ((x).toNat) 0))) < y))
 (nO N a b out x y fT 1)
 (nO N a b out x y fT 0))
def g9 (N:Nat) (a:List Int) (b:List Int):Nat→(List Int)→Int→Int→Option ((List Int))
 | 0,_,_,_=>none
 | fuel+1,out,borrow,x =>
  (cond (decide (x < ((a.length:Nat):Int)))
  ((if 0≤x∧x < ((a.length:Nat):Int) then
  (cond (decide (x < ((b.length:Nat):Int)))
  ((if 0≤x∧x < ((b.length:Nat):Int) then
  nP N a b out x (g9 N a b fuel) (IntKind.u32.wrap (borrow+(IntKind.u32.wrap ((b.getD ((x).toNat) 0)))))
  else none))
  (nP N a b out x (g9 N a b fuel) borrow))
  else none))
  (((g7 N out).bind fun b7 =>
  some b7)))
def qw (N:Nat) (a:List Int) (b:List Int):Option ((List Int)) :=
 (if 0≤((a.length:Nat):Int)∧(2:Int) * ((a.length:Nat):Int)≤281474976710656∧((a.length:Nat):Int)≤9223372036854775807 then
 g9 N a b N (List.replicate a.length 0:List Int) 0 0
 else none)
def Bf (N:Nat) (a:bG) (b:bG):Option (bG) :=
 ((g7 N a.fL).bind fun b7 =>
 ((g7 N b.fL).bind fun jJ =>
 (cond (a.fG == b.fG)
 (((u6 N b7 jJ).bind fun Fq =>
 ((jB N a.fG Fq).bind fun Lw =>
 some Lw)))
 (((nr N b7 jJ).bind fun ki =>
 (cond (decide (ki≥0))
 (((qw N b7 jJ).bind fun sS =>
 ((jB N a.fG sS).bind fun Fo =>
 some Fo)))
 (((qw N jJ b7).bind fun wh =>
 ((jB N b.fG wh).bind fun U6 =>
 some U6)))))))))
def eY (N:Nat) (x:aa) (y:aa):Option (aa) :=
 ((g8 N x).bind fun gj =>
 (cond gj
 (((ln N y).bind fun wg =>
 some wg))
 (((g8 N y).bind fun sU =>
 (cond sU
 (((ln N x).bind fun eN =>
 some eN))
 (((kI N x).bind fun jK =>
 ((kI N y).bind fun oK =>
 ((pR N x.fN oK).bind fun sV =>
 ((pR N y.fN jK).bind fun nw =>
 ((Bf N sV nw).bind fun LC =>
 ((pR N jK oK).bind fun Fs =>
 ((jc N LC Fs).bind fun B6 =>
 some B6)))))))))))))
def eZ (N:Nat) (x:aa) (y:aa):Option (aa) :=
 ((gh N y).bind fun aY =>
 ((eY N x aY).bind fun bk =>
 some bk))
def gx (N:Nat) (x:aa) (y:aa):Option (Int) :=
 ((eZ N x y).bind fun av =>
 ((nu N av).bind fun aN =>
 some aN))
def qT (N:Nat) (x:aa) (y:aa):Option (aa) :=
 ((kI N y).bind fun jK =>
 ((pR N x.fN jK).bind fun sV =>
 ((kI N x).bind fun oK =>
 ((pR N oK y.fN).bind fun nw =>
 ((jc N sV nw).bind fun B6 =>
 some B6)))))
def dE (N:Nat) (x:aa) (y:aa):Option (aa) :=
 ((pR N x.fN y.fN).bind fun sV =>
 ((kI N x).bind fun jK =>
 ((kI N y).bind fun oK =>
 ((pR N jK oK).bind fun nw =>
 ((jc N sV nw).bind fun B6 =>
 some B6)))))
def kj (N:Nat) (j:Int) (f:aa) (C0:List aa) (x:Int) (k5:(List aa)→Int→Option ((List aa))) (cd:List aa):Option ((List aa)) :=
 k5 cd (ah (x+1))
def gy (N:Nat) (j:Int) (f:aa) (C0:List aa):Nat→(List aa)→Int→Option ((List aa))
 | 0,_,_=>none
 | fuel+1,bw,x =>
  (cond (decide (x < ((C0.length:Nat):Int)))
  ((cond (x == j)
  ((if 0≤x∧x < ((bw.length:Nat):Int) then
  ((dE N f (⟨((bw.getD ((x).toNat) aa.d).fN),((bw.getD ((x).toNat) aa.d).fD)⟩:aa)).bind fun bL =>
  kj N j f C0 x (gy N j f C0 fuel) (bw.set ((x).toNat) bL))
  else none))
  ((if 0≤x∧x < ((bw.length:Nat):Int) then
  ((g8 N (⟨((bw.getD ((x).toNat) aa.d).fN),((bw.getD ((x).toNat) aa.d).fD)⟩:aa)).bind fun gj =>
  (cond (!gj)
  (((dE N f (⟨((bw.getD ((x).toNat) aa.d).fN),((bw.getD ((x).toNat) aa.d).fD)⟩:aa)).bind fun cw =>
  ((eY N (⟨((bw.getD ((x).toNat) aa.d).fN),((bw.getD ((x).toNat) aa.d).fD)⟩:aa) cw).bind fun bk =>
  kj N j f C0 x (gy N j f C0 fuel) (bw.set ((x).toNat) bk))))
  (kj N j f C0 x (gy N j f C0 fuel) bw)))
  else none))))
  (some bw))
def rv (N:Nat) (j:Int) (f:aa) (C0:List aa):Option ((List aa)) :=
 gy N j f C0 N C0 0
def fQ (N:Nat) (j:Int) (f:aa) (C0:List aa) (C1:List aa) (x:Int) (jt:(List aa)→Int→Option ((List aa))) (cd:List aa):Option ((List aa)) :=
 jt cd (ah (x+1))
def cF (N:Nat) (j:Int) (f:aa) (C0:List aa) (C1:List aa):Nat→(List aa)→Int→Option ((List aa))
 | 0,_,_=>none
 | fuel+1,bw,x =>
  (cond (decide (x < ((C0.length:Nat):Int)))
  ((cond (x == j)
  ((if 0≤x∧x < ((C1.length:Nat):Int) then
  ((dE N f (⟨((C1.getD ((x).toNat) aa.d).fN),((C1.getD ((x).toNat) aa.d).fD)⟩:aa)).bind fun bL =>
  (if 0≤x∧x < ((bw.length:Nat):Int) then
  fQ N j f C0 C1 x (cF N j f C0 C1 fuel) (bw.set ((x).toNat) bL)
  else none))
  else none))
  ((if 0≤x∧x < ((C1.length:Nat):Int) then
  ((g8 N (⟨((C1.getD ((x).toNat) aa.d).fN),((C1.getD ((x).toNat) aa.d).fD)⟩:aa)).bind fun gj =>
  (cond (!gj)
  ((if 0≤x∧x < ((bw.length:Nat):Int) then
  ((dE N f (⟨((C1.getD ((x).toNat) aa.d).fN),((C1.getD ((x).toNat) aa.d).fD)⟩:aa)).bind fun cw =>
  ((eY N (⟨((bw.getD ((x).toNat) aa.d).fN),((bw.getD ((x).toNat) aa.d).fD)⟩:aa) cw).bind fun bk =>
  fQ N j f C0 C1 x (cF N j f C0 C1 fuel) (bw.set ((x).toNat) bk)))
  else none))
  (fQ N j f C0 C1 x (cF N j f C0 C1 fuel) bw)))
  else none))))
  (some bw))
def iR (N:Nat) (j:Int) (f:aa) (C0:List aa) (C1:List aa):Option ((List aa)) :=
 cF N j f C0 C1 N C0 0
def jn (N:Nat) (i:Int) (j:Int) (C0:Int) (bw:Int) (cd:Bool) (de:List Int) (dj:Bool) (dk:List Int) (dc:Int) (C1:List Int) (C2:List Int) (C3:List (List aa)) (C4:List aa) (C5:List aa) (x:Int) (jM:(List aa)→Int→Option (lR×(List Int)×(List Int)×(List (List aa))×(List aa)×(List aa))) (Ft:List aa):Option (lR×(List Int)×(List Int)×(List (List aa))×(List aa)×(List aa)) :=
 jM Ft (ah (x+1))
def dx (N:Nat) (i:Int) (j:Int) (C0:Int) (bw:Int) (cd:Bool) (de:List Int) (dj:Bool) (dk:List Int) (dc:Int) (C1:List Int) (C2:List Int) (C3:List (List aa)) (C5:List aa) (x2:Int) (jN:(List (List aa))→(List aa)→(List aa)→Int→Option (lR×(List Int)×(List Int)×(List (List aa))×(List aa)×(List aa))) (ly:List (List aa)) (Fu:List aa) (pS:List aa):Option (lR×(List Int)×(List Int)×(List (List aa))×(List aa)×(List aa)) :=
 jN ly Fu pS (ah (x2+1))
def gB (N:Nat) (i:Int) (j:Int) (C0:Int) (bw:Int) (dc:Int) (C1:List Int) (C2:List Int) (b8:List (List aa)) (bR:List aa) (oj:List aa) (gC:List aa) (qh:Bool) (qi:List Int) (tF:Bool) (tG:List Int):Option (lR×(List Int)×(List Int)×(List (List aa))×(List aa)×(List aa)) :=
 (if 0≤j∧j < ((C2.length:Nat):Int) then
 (if 0≤i∧i < ((C1.length:Nat):Int) then
 some ((⟨C0,bw,(C1.set ((i).toNat) (C2.getD ((j).toNat) 0)),(C2.set ((j).toNat) (C1.getD ((i).toNat) 0)),(b8.set ((i).toNat) bR),oj,gC,(⟨(⟨qh,qi⟩:bG),(⟨tF,tG⟩:bG)⟩:aa),dc⟩:lR),(C1.set ((i).toNat) (C2.getD ((j).toNat) 0)),(C2.set ((j).toNat) (C1.getD ((i).toNat) 0)),(b8.set ((i).toNat) bR),oj,gC)
 else none)
 else none)
def ca (N:Nat) (i:Int) (j:Int) (C0:Int) (bw:Int) (cd:Bool) (de:List Int) (dj:Bool) (dk:List Int) (dc:Int) (C1:List Int) (C2:List Int) (C3:List (List aa)) (C5:List aa):Nat→(List (List aa))→(List aa)→(List aa)→Int→Option (lR×(List Int)×(List Int)×(List (List aa))×(List aa)×(List aa))
 | 0,_,_,_,_=>none
 | fuel+1,b8,bR,oj,x2 =>
  (cond (decide (x2 < ((C3.length:Nat):Int)))
  ((cond (decide ((x2).toNat=(i).toNat))
  ((if 0≤x2∧x2 < ((b8.length:Nat):Int) then
  (if 0≤j∧j < ((bR.length:Nat):Int) then
  ((cond (x2 != i) (g8 N (⟨((bR.getD ((j).toNat) aa.d).fN),((bR.getD ((j).toNat) aa.d).fD)⟩:aa)) (some false)).bind fun gj =>
  (cond (cond (x2 != i) (!gj) false)
  ((if 0≤x2∧x2 < ((oj.length:Nat):Int) then
  (if 0≤i∧i < ((oj.length:Nat):Int) then
  ((dE N (⟨((bR.getD ((j).toNat) aa.d).fN),((bR.getD ((j).toNat) aa.d).fD)⟩:aa) (⟨((oj.getD ((i).toNat) aa.d).fN),((oj.getD ((i).toNat) aa.d).fD)⟩:aa)).bind fun bL =>
  ((eY N (⟨((oj.getD ((x2).toNat) aa.d).fN),((oj.getD ((x2).toNat) aa.d).fD)⟩:aa) bL).bind fun bk =>
  (cond (decide ((x2).toNat=(i).toNat))
  (((rv N j (⟨((bR.getD ((j).toNat) aa.d).fN),((bR.getD ((j).toNat) aa.d).fD)⟩:aa) bR).bind fun GP =>
  (if GP.length=bR.length then
  dx N i j C0 bw cd de dj dk dc C1 C2 C3 C5 x2 (ca N i j C0 bw cd de dj dk dc C1 C2 C3 C5 fuel) b8 GP (oj.set ((x2).toNat) bk)
  else none)))
  ((if (x2).toNat < b8.length then
  ((iR N j (⟨((bR.getD ((j).toNat) aa.d).fN),((bR.getD ((j).toNat) aa.d).fD)⟩:aa) (b8.getD ((x2).toNat) []) bR).bind fun ny =>
  (if ny.length=(b8.getD ((x2).toNat) []).length then
  dx N i j C0 bw cd de dj dk dc C1 C2 C3 C5 x2 (ca N i j C0 bw cd de dj dk dc C1 C2 C3 C5 fuel) (b8.set ((x2).toNat) ny) bR (oj.set ((x2).toNat) bk)
  else none))
  else none)))))
  else none)
  else none))
  (dx N i j C0 bw cd de dj dk dc C1 C2 C3 C5 x2 (ca N i j C0 bw cd de dj dk dc C1 C2 C3 C5 fuel) b8 bR oj)))
  else none)
  else none))
  ((if (x2).toNat < b8.length then
  (if 0≤x2∧x2 < ((b8.length:Nat):Int) then
  (if 0≤j∧j < (((b8.getD ((x2).toNat) []).length:Nat):Int) then
  ((cond (x2 != i) (g8 N (⟨(((b8.getD ((x2).toNat) []).getD ((j).toNat) aa.d).fN),(((b8.getD ((x2).toNat) []).getD ((j).toNat) aa.d).fD)⟩:aa)) (some false)).bind fun sU =>
  (cond (cond (x2 != i) (!sU) false)
  ((if 0≤x2∧x2 < ((oj.length:Nat):Int) then
  (if 0≤i∧i < ((oj.length:Nat):Int) then
  ((dE N (⟨(((b8.getD ((x2).toNat) []).getD ((j).toNat) aa.d).fN),(((b8.getD ((x2).toNat) []).getD ((j).toNat) aa.d).fD)⟩:aa) (⟨((oj.getD ((i).toNat) aa.d).fN),((oj.getD ((i).toNat) aa.d).fD)⟩:aa)).bind fun cw =>
  ((eY N (⟨((oj.getD ((x2).toNat) aa.d).fN),((oj.getD ((x2).toNat) aa.d).fD)⟩:aa) cw).bind fun eu =>
  ((iR N j (⟨(((b8.getD ((x2).toNat) []).getD ((j).toNat) aa.d).fN),(((b8.getD ((x2).toNat) []).getD ((j).toNat) aa.d).fD)⟩:aa) (b8.getD ((x2).toNat) []) bR).bind fun nz =>
  (if nz.length=(b8.getD ((x2).toNat) []).length then
  dx N i j C0 bw cd de dj dk dc C1 C2 C3 C5 x2 (ca N i j C0 bw cd de dj dk dc C1 C2 C3 C5 fuel) (b8.set ((x2).toNat) nz) bR (oj.set ((x2).toNat) eu)
  else none))))
  else none)
  else none))
  (dx N i j C0 bw cd de dj dk dc C1 C2 C3 C5 x2 (ca N i j C0 bw cd de dj dk dc C1 C2 C3 C5 fuel) b8 bR oj)))
  else none)
  else none)
  else none))))
  ((if 0≤j∧j < ((C5.length:Nat):Int) then
  ((g8 N (⟨((C5.getD ((j).toNat) aa.d).fN),((C5.getD ((j).toNat) aa.d).fD)⟩:aa)).bind fun Fv =>
  (cond (!Fv)
  ((if 0≤i∧i < ((oj.length:Nat):Int) then
  ((dE N (⟨((C5.getD ((j).toNat) aa.d).fN),((C5.getD ((j).toNat) aa.d).fD)⟩:aa) (⟨((oj.getD ((i).toNat) aa.d).fN),((oj.getD ((i).toNat) aa.d).fD)⟩:aa)).bind fun dT =>
  ((eY N (⟨(⟨cd,de⟩:bG),(⟨dj,dk⟩:bG)⟩:aa) dT).bind fun fB =>
  ((iR N j (⟨((C5.getD ((j).toNat) aa.d).fN),((C5.getD ((j).toNat) aa.d).fD)⟩:aa) C5 bR).bind fun HQ =>
  (if HQ.length=C5.length then
  (if (i).toNat < b8.length then
  gB N i j C0 bw dc C1 C2 b8 bR oj HQ fB.fN.fG fB.fN.fL fB.fD.fG fB.fD.fL
  else none)
  else none))))
  else none))
  ((if (i).toNat < b8.length then
  gB N i j C0 bw dc C1 C2 b8 bR oj C5 cd de dj dk
  else none))))
  else none)))
def dy (N:Nat) (i:Int) (j:Int) (C0:Int) (bw:Int) (cd:Bool) (de:List Int) (dj:Bool) (dk:List Int) (dc:Int) (C1:List Int) (C2:List Int) (C3:List (List aa)) (C4:List aa) (C5:List aa):Nat→(List aa)→Int→Option (lR×(List Int)×(List Int)×(List (List aa))×(List aa)×(List aa))
 | 0,_,_=>none
 | fuel+1,sW,x =>
  (cond (decide (x < (((C3.getD ((i).toNat) []).length:Nat):Int)))
  ((cond (x != j)
  ((if 0≤x∧x < ((sW.length:Nat):Int) then
  ((qT N (⟨((sW.getD ((x).toNat) aa.d).fN),((sW.getD ((x).toNat) aa.d).fD)⟩:aa) (⟨(((C3.getD ((i).toNat) []).getD ((j).toNat) aa.d).fN),(((C3.getD ((i).toNat) []).getD ((j).toNat) aa.d).fD)⟩:aa)).bind fun kn =>
  ((gh N kn).bind fun aY =>
  jn N i j C0 bw cd de dj dk dc C1 C2 C3 C4 C5 x (dy N i j C0 bw cd de dj dk dc C1 C2 C3 C4 C5 fuel) (sW.set ((x).toNat) aY)))
  else none))
  (jn N i j C0 bw cd de dj dk dc C1 C2 C3 C4 C5 x (dy N i j C0 bw cd de dj dk dc C1 C2 C3 C4 C5 fuel) sW)))
  (((gr N 1).bind fun aw =>
  ((qT N aw (⟨(((C3.getD ((i).toNat) []).getD ((j).toNat) aa.d).fN),(((C3.getD ((i).toNat) []).getD ((j).toNat) aa.d).fD)⟩:aa)).bind fun kE =>
  (if 0≤j∧j < ((sW.length:Nat):Int) then
  (if 0≤i∧i < ((C4.length:Nat):Int) then
  ((qT N (⟨((C4.getD ((i).toNat) aa.d).fN),((C4.getD ((i).toNat) aa.d).fD)⟩:aa) (⟨(((C3.getD ((i).toNat) []).getD ((j).toNat) aa.d).fN),(((C3.getD ((i).toNat) []).getD ((j).toNat) aa.d).fD)⟩:aa)).bind fun LD =>
  ((gh N LD).bind fun l3 =>
  ca N i j C0 bw cd de dj dk dc C1 C2 C3 C5 N C3 (sW.set ((j).toNat) kE) (C4.set ((i).toNat) l3) 0))
  else none)
  else none)))))
def ju (N:Nat) (i:Int) (j:Int) (C0:Int) (bw:Int) (cd:Bool) (de:List Int) (dj:Bool) (dk:List Int) (dc:Int) (C1:List Int) (C2:List Int) (C3:List (List aa)) (C4:List aa) (C5:List aa):Option (lR×(List Int)×(List Int)×(List (List aa))×(List aa)×(List aa)) :=
 (if (i).toNat < C3.length then
 (if 0≤i∧i < ((C3.length:Nat):Int) then
 (if 0≤j∧j < (((C3.getD ((i).toNat) []).length:Nat):Int) then
 dy N i j C0 bw cd de dj dk dc C1 C2 C3 C4 C5 N (C3.getD ((i).toNat) []) 0
 else none)
 else none)
 else none)
def gD (N:Nat) (C0:Int) (bw:Int) (cd:Bool) (de:List Int) (dj:Bool) (dk:List Int) (dc:Int) (C1:List Int) (C2:List Int) (C3:List (List aa)) (C4:List aa) (C5:List aa) (x:Int) (iB:Int→Int→Option (Int)) (x6:Int):Option (Int) :=
 iB x6 (ah (x+1))
def bF (N:Nat) (C0:Int) (bw:Int) (cd:Bool) (de:List Int) (dj:Bool) (dk:List Int) (dc:Int) (C1:List Int) (C2:List Int) (C3:List (List aa)) (C4:List aa) (C5:List aa):Nat→Int→Int→Option (Int)
 | 0,_,_=>none
 | fuel+1,dD,x =>
  (cond (decide (x < ((C2.length:Nat):Int)))
  ((if 0≤x∧x < ((C5.length:Nat):Int) then
  ((nu N (⟨((C5.getD ((x).toNat) aa.d).fN),((C5.getD ((x).toNat) aa.d).fD)⟩:aa)).bind fun aN =>
  (if (((decide (aN > 0)) && ((decide (aN > 0)) && (!(decide (dD < 0)))))=true→0≤x∧x < ((C2.length:Nat):Int)) then
  (if (((decide (aN > 0)) && ((decide (aN > 0)) && (!(decide (dD < 0)))))=true→0≤dD∧dD < ((C2.length:Nat):Int)) then
  (cond (cond (decide (aN > 0)) (cond (decide (dD < 0)) true (decide ((C2.getD ((x).toNat) 0) < (C2.getD ((dD).toNat) 0)))) false)
  (gD N C0 bw cd de dj dk dc C1 C2 C3 C4 C5 x (bF N C0 bw cd de dj dk dc C1 C2 C3 C4 C5 fuel) x)
  (gD N C0 bw cd de dj dk dc C1 C2 C3 C4 C5 x (bF N C0 bw cd de dj dk dc C1 C2 C3 C4 C5 fuel) dD))
  else none)
  else none))
  else none))
  (some dD))
def k6 (N:Nat) (C0:Int) (bw:Int) (cd:Bool) (de:List Int) (dj:Bool) (dk:List Int) (dc:Int) (C1:List Int) (C2:List Int) (C3:List (List aa)) (C4:List aa) (C5:List aa):Option (Int) :=
 bF N C0 bw cd de dj dk dc C1 C2 C3 C4 C5 N (-1) 0
def ek (N:Nat) (j:Int) (C0:Int) (bw:Int) (cd:Bool) (de:List Int) (dj:Bool) (dk:List Int) (dc:Int) (C1:List Int) (C2:List Int) (C3:List (List aa)) (C4:List aa) (C5:List aa) (x:Int) (bW:Int→aa→Int→Option (Int)) (x6:Int) (bB:aa):Option (Int) :=
 bW x6 bB (ah (x+1))
def fw (N:Nat) (j:Int) (C0:Int) (bw:Int) (cd:Bool) (de:List Int) (dj:Bool) (dk:List Int) (dc:Int) (C1:List Int) (C2:List Int) (C3:List (List aa)) (C4:List aa) (C5:List aa) (dD:Int) (least:aa) (x:Int) (kn:aa) (bW:Int→aa→Int→Option (Int)) (c7:Int):Option (Int) :=
 (if (((!(decide (c7 < 0))) && ((!(decide (c7 < 0))) && (c7 == 0)))=true→0≤x∧x < ((C1.length:Nat):Int)) then
 (if (((!(decide (c7 < 0))) && ((!(decide (c7 < 0))) && (c7 == 0)))=true→0≤dD∧dD < ((C1.length:Nat):Int)) then
 (cond (cond (decide (c7 < 0)) true (cond (c7 == 0) (decide ((C1.getD ((x).toNat) 0) < (C1.getD ((dD).toNat) 0))) false))
 (ek N j C0 bw cd de dj dk dc C1 C2 C3 C4 C5 x bW x kn)
 (ek N j C0 bw cd de dj dk dc C1 C2 C3 C4 C5 x bW dD least))
 else none)
 else none)
def bM (N:Nat) (j:Int) (C0:Int) (bw:Int) (cd:Bool) (de:List Int) (dj:Bool) (dk:List Int) (dc:Int) (C1:List Int) (C2:List Int) (C3:List (List aa)) (C4:List aa) (C5:List aa):Nat→Int→aa→Int→Option (Int)
 | 0,_,_,_=>none
 | fuel+1,dD,least,x =>
  (cond (decide (x < ((C1.length:Nat):Int)))
  ((if (x).toNat < C3.length then
  (if 0≤x∧x < ((C3.length:Nat):Int) then
  (if 0≤j∧j < (((C3.getD ((x).toNat) []).length:Nat):Int) then
  ((nu N (⟨(((C3.getD ((x).toNat) []).getD ((j).toNat) aa.d).fN),(((C3.getD ((x).toNat) []).getD ((j).toNat) aa.d).fD)⟩:aa)).bind fun aN =>
  (cond (decide (aN≥0))
  (ek N j C0 bw cd de dj dk dc C1 C2 C3 C4 C5 x (bM N j C0 bw cd de dj dk dc C1 C2 C3 C4 C5 fuel) dD least)
  ((if 0≤x∧x < ((C4.length:Nat):Int) then
  ((gh N (⟨(((C3.getD ((x).toNat) []).getD ((j).toNat) aa.d).fN),(((C3.getD ((x).toNat) []).getD ((j).toNat) aa.d).fD)⟩:aa)).bind fun aY =>
  ((qT N (⟨((C4.getD ((x).toNat) aa.d).fN),((C4.getD ((x).toNat) aa.d).fD)⟩:aa) aY).bind fun kn =>
  (cond (decide (dD≥0))
  (((gx N kn least).bind fun eE =>
  fw N j C0 bw cd de dj dk dc C1 C2 C3 C4 C5 dD least x kn (bM N j C0 bw cd de dj dk dc C1 C2 C3 C4 C5 fuel) eE))
  (fw N j C0 bw cd de dj dk dc C1 C2 C3 C4 C5 dD least x kn (bM N j C0 bw cd de dj dk dc C1 C2 C3 C4 C5 fuel) (-1)))))
  else none))))
  else none)
  else none)
  else none))
  (some dD))
def lz (N:Nat) (j:Int) (C0:Int) (bw:Int) (cd:Bool) (de:List Int) (dj:Bool) (dk:List Int) (dc:Int) (C1:List Int) (C2:List Int) (C3:List (List aa)) (C4:List aa) (C5:List aa):Option (Int) :=
 bM N j C0 bw cd de dj dk dc C1 C2 C3 C4 C5 N (-1) (⟨(⟨false,([]:List Int)⟩:bG),(⟨false,([]:List Int)⟩:bG)⟩:aa) 0
def dz (N:Nat):Nat→Int→Int→(List Int)→(List Int)→(List (List aa))→(List aa)→(List aa)→Bool→(List Int)→Bool→(List Int)→Int→Option (Int×lR×(List Int)×(List Int)×(List (List aa))×(List aa)×(List aa))
 | 0,_,_,_,_,_,_,_,_,_,_,_,_=>none
 | fuel+1,b8,oj,ly,pS,gC,qh,qi,tF,tG,zy,zz,x7 =>
  ((k6 N b8 oj tF tG zy zz x7 ly pS gC qh qi).bind fun sG =>
  (cond (decide (sG < 0))
  (some ((-1),(⟨b8,oj,ly,pS,gC,qh,qi,(⟨(⟨tF,tG⟩:bG),(⟨zy,zz⟩:bG)⟩:aa),x7⟩:lR),ly,pS,gC,qh,qi))
  (((lz N sG b8 oj tF tG zy zz x7 ly pS gC qh qi).bind fun Bg =>
  (cond (decide (Bg < 0))
  (some (sG,(⟨b8,oj,ly,pS,gC,qh,qi,(⟨(⟨tF,tG⟩:bG),(⟨zy,zz⟩:bG)⟩:aa),x7⟩:lR),ly,pS,gC,qh,qi))
  (((ju N Bg sG b8 oj tF tG zy zz x7 ly pS gC qh qi).bind fun bu =>
  (if bu.2.1.length=ly.length then
  (if bu.2.2.1.length=pS.length then
  (if bu.2.2.2.1.length=gC.length then
  (if bu.2.2.2.2.1.length=qh.length then
  (if bu.2.2.2.2.2.length=qi.length then
  dz N fuel bu.1.xk bu.1.xl bu.2.1 bu.2.2.1 bu.2.2.2.1 bu.2.2.2.2.1 bu.2.2.2.2.2 bu.1.ak.fN.fG bu.1.ak.fN.fL bu.1.ak.fD.fG bu.1.ak.fD.fL bu.1.cu
  else none)
  else none)
  else none)
  else none)
  else none))))))))
def pT (N:Nat) (C0:Int) (bw:Int) (cd:Bool) (de:List Int) (dj:Bool) (dk:List Int) (dc:Int) (C1:List Int) (C2:List Int) (C3:List (List aa)) (C4:List aa) (C5:List aa):Option (Int×lR×(List Int)×(List Int)×(List (List aa))×(List aa)×(List aa)) :=
 dz N N C0 bw C1 C2 C3 C4 C5 cd de dj dk dc
def cl (N:Nat) (s:List Int) (v:Int):Nat→Int→Option (Int)
 | 0,_=>none
 | fuel+1,x =>
  (cond (decide (x < ((s.length:Nat):Int)))
  ((if 0≤x∧x < ((s.length:Nat):Int) then
  (cond (v == (s.getD ((x).toNat) 0))
  (some x)
  (cl N s v fuel (ah (x+1))))
  else none))
  (some (-1)))
def ep (N:Nat) (s:List Int) (v:Int):Option (Int) :=
 cl N s v N 0
def k7 (N:Nat) (x:aa):Option (Bool) :=
 ((g8 N x).bind fun gj =>
 some (!gj))
def cn (N:Nat) (s:List aa):Nat→Int→Option (Int)
 | 0,_=>none
 | fuel+1,x =>
  (cond (decide (x < ((s.length:Nat):Int)))
  ((if 0≤x∧x < ((s.length:Nat):Int) then
  ((k7 N (⟨((s.getD ((x).toNat) aa.d).fN),((s.getD ((x).toNat) aa.d).fD)⟩:aa)).bind fun Fw =>
  (cond Fw
  (some x)
  (cn N s fuel (ah (x+1)))))
  else none))
  (some (-1)))
def jO (N:Nat) (s:List aa):Option (Int) :=
 cn N s N 0
def jv (N:Nat) (i:Int) (j:Int) (C0:List Int):Option ((List Int)×(List Int)) :=
 (if 0≤i∧i≤j∧j≤((C0.length:Nat):Int)∧((C0.length:Nat):Int)≤((C0.length:Nat):Int) then
 (cond (i == j)
 (some (C0,C0))
 ((if 0≤(i).toNat∧(i).toNat≤C0.length then
 (if 0≤i then
 (if (j).toNat≤C0.length∧C0.length≤C0.length then
 (if 0≤j then
 (if (i).toNat≤(j).toNat∧(j).toNat≤C0.length then
 (if 0 < C0.length then
 (if (((i).toNat - 0)+(C0.length - (j).toNat))≤C0.length∧0+C0.length≤(kR C0 ((i).toNat) ((j).toNat)).length then
 (if 0 < (C0.length - (((i).toNat - 0)+(C0.length - (j).toNat)))∧(((i).toNat - 0)+(C0.length - (j).toNat))+(C0.length - (((i).toNat - 0)+(C0.length - (j).toNat)))≤(kR C0 ((i).toNat) ((j).toNat)).length then
 some (((kR C0 ((i).toNat) ((j).toNat)).take (((i).toNat - 0)+(C0.length - (j).toNat))),((kR C0 ((i).toNat) ((j).toNat)).take (((i).toNat - 0)+(C0.length - (j).toNat))))
 else none)
 else none)
 else none)
 else none)
 else none)
 else none)
 else none)
 else none)))
 else none)
def lA (N:Nat) (i:Int) (j:Int) (C0:List aa):Option ((List aa)×(List aa)) :=
 (if 0≤i∧i≤j∧j≤((C0.length:Nat):Int)∧((C0.length:Nat):Int)≤((C0.length:Nat):Int) then
 (cond (i == j)
 (some (C0,C0))
 ((if 0≤(i).toNat∧(i).toNat≤C0.length then
 (if 0≤i then
 (if (j).toNat≤C0.length∧C0.length≤C0.length then
 (if 0≤j then
 (if (i).toNat≤(j).toNat∧(j).toNat≤C0.length then
 (if 0 < C0.length then
 (if (((i).toNat - 0)+(C0.length - (j).toNat))≤C0.length∧0+C0.length≤(kR C0 ((i).toNat) ((j).toNat)).length then
 (if 0 < (C0.length - (((i).toNat - 0)+(C0.length - (j).toNat)))∧(((i).toNat - 0)+(C0.length - (j).toNat))+(C0.length - (((i).toNat - 0)+(C0.length - (j).toNat)))≤(kR C0 ((i).toNat) ((j).toNat)).length then
 some (((kR C0 ((i).toNat) ((j).toNat)).take (((i).toNat - 0)+(C0.length - (j).toNat))),((kR C0 ((i).toNat) ((j).toNat)).take (((i).toNat - 0)+(C0.length - (j).toNat))))
 else none)
 else none)
 else none)
 else none)
 else none)
 else none)
 else none)
 else none)))
 else none)
def iH (N:Nat) (C0:Int) (bw:Int) (cd:Bool) (de:List Int) (dj:Bool) (dk:List Int) (dc:Int) (C1:List Int) (C2:List Int) (C3:List (List aa)) (C4:List aa) (C5:List aa) (x:Int) (jw:Int→Int→Option (Bool×lR×(List Int)×(List Int)×(List (List aa))×(List aa))) (Qf:Int):Option (Bool×lR×(List Int)×(List Int)×(List (List aa))×(List aa)) :=
 jw Qf (ah (x+1))
def dL (N:Nat) (uq:Int) (ur:Int) (rz:List Int) (rA:List aa) (u7:Bool) (u9:List Int) (vb:Bool) (vd:List Int) (tH:Int) (cx:(List Int)×(List Int)) (k8:List (List aa)):Nat→(List aa)→Int→Option (Bool×lR×(List Int)×(List Int)×(List (List aa))×(List aa))
 | 0,_,_=>none
 | fuel+1,Bh,x3 =>
  (cond (decide (x3 < (((List.replicate cx.2.length aa.d:List aa).length:Nat):Int)))
  (((gr N 0).bind fun lH =>
  (if 0≤x3∧x3 < ((Bh.length:Nat):Int) then
  dL N uq ur rz rA u7 u9 vb vd tH cx k8 fuel (Bh.set ((x3).toNat) lH) (ah (x3+1))
  else none)))
  (((gr N 0).bind fun bQ =>
  some (true,(⟨uq,ur,rz,cx.2,k8,rA,Bh,bQ,tH⟩:lR),rz,cx.2,k8,rA))))
def dM (N:Nat) (uq:Int) (ur:Int) (rz:List Int) (Al:List (List aa)) (rA:List aa) (Bi:List aa) (u7:Bool) (u9:List Int) (vb:Bool) (vd:List Int) (tH:Int) (mY:Int) (cx:(List Int)×(List Int)):Nat→(List (List aa))→Int→Option (Bool×lR×(List Int)×(List Int)×(List (List aa))×(List aa))
 | 0,_,_=>none
 | fuel+1,k8,x2 =>
  (cond (decide (x2 < ((Al.length:Nat):Int)))
  ((if (x2).toNat < k8.length then
  (if 0≤x2∧x2 < ((k8.length:Nat):Int) then
  ((lA N mY (ah (mY+1)) (k8.getD ((x2).toNat) [])).bind fun pU =>
  dM N uq ur rz Al rA Bi u7 u9 vb vd tH mY cx fuel (k8.set ((x2).toNat) pU.2) (ah (x2+1)))
  else none)
  else none))
  ((if 0≤((cx.2.length:Nat):Int)∧(64:Int) * ((cx.2.length:Nat):Int)≤281474976710656∧((cx.2.length:Nat):Int)≤9223372036854775807 then
  dL N uq ur rz rA u7 u9 vb vd tH cx k8 N (List.replicate cx.2.length aa.d:List aa) 0
  else none)))
def iI (N:Nat) (uq:Int) (ur:Int) (rz:List Int) (Kd:List Int) (Al:List (List aa)) (rA:List aa) (Bi:List aa) (u7:Bool) (u9:List Int) (vb:Bool) (vd:List Int) (tH:Int):Option (Bool×lR×(List Int)×(List Int)×(List (List aa))×(List aa)) :=
 ((ep N Kd tH).bind fun mY =>
 ((jv N mY (ah (mY+1)) Kd).bind fun cx =>
 dM N uq ur rz Al rA Bi u7 u9 vb vd tH mY cx N Al 0))
def fR (N:Nat) (b8:Int) (oj:Int) (ly:List Int) (pS:List Int) (gC:List (List aa)) (qh:List aa) (qi:List aa) (tF:Bool) (tG:List Int) (zy:Bool) (zz:List Int) (x7:Int):Option (Bool×lR×(List Int)×(List Int)×(List (List aa))×(List aa)) :=
 ((ep N ly x7).bind fun cW =>
 (cond (decide (cW≥0))
 ((if (cW).toNat < gC.length then
 (if 0≤cW∧cW < ((gC.length:Nat):Int) then
 ((jO N (gC.getD ((cW).toNat) [])).bind fun U7 =>
 ((ju N cW U7 b8 oj tF tG zy zz x7 ly pS gC qh qi).bind fun dA =>
 (if dA.2.1.length=ly.length then
 (if dA.2.2.1.length=pS.length then
 (if dA.2.2.2.1.length=gC.length then
 (if dA.2.2.2.2.1.length=qh.length then
 (if dA.2.2.2.2.2.length=qi.length then
 iI N dA.1.xk dA.1.xl dA.2.1 dA.2.2.1 dA.2.2.2.1 dA.2.2.2.2.1 dA.2.2.2.2.2 dA.1.ak.fN.fG dA.1.ak.fN.fL dA.1.ak.fD.fG dA.1.ak.fD.fL dA.1.cu
 else none)
 else none)
 else none)
 else none)
 else none)))
 else none)
 else none))
 (iI N b8 oj ly pS gC qh qi tF tG zy zz x7)))
def bz (N:Nat) (C0:Int) (bw:Int) (cd:Bool) (de:List Int) (dj:Bool) (dk:List Int) (dc:Int) (C1:List Int) (C2:List Int) (C3:List (List aa)) (C4:List aa) (C5:List aa):Nat→Int→Int→Option (Bool×lR×(List Int)×(List Int)×(List (List aa))×(List aa))
 | 0,_,_=>none
 | fuel+1,low,x =>
  (cond (decide (x < ((C4.length:Nat):Int)))
  ((if 0≤x∧x < ((C4.length:Nat):Int) then
  ((nu N (⟨((C4.getD ((x).toNat) aa.d).fN),((C4.getD ((x).toNat) aa.d).fD)⟩:aa)).bind fun aN =>
  (if (((decide (aN < 0)) && ((decide (aN < 0)) && (!(decide (low < 0)))))=true→0≤x∧x < ((C4.length:Nat):Int)) then
  (if (((decide (aN < 0)) && ((decide (aN < 0)) && (!(decide (low < 0)))))=true→0≤low∧low < ((C4.length:Nat):Int)) then
  ((cond ((decide (aN < 0)) && ((decide (aN < 0)) && (!(decide (low < 0))))) (gx N (⟨((C4.getD ((x).toNat) aa.d).fN),((C4.getD ((x).toNat) aa.d).fD)⟩:aa) (⟨((C4.getD ((low).toNat) aa.d).fN),((C4.getD ((low).toNat) aa.d).fD)⟩:aa)) (some 0)).bind fun eE =>
  (cond (cond (decide (aN < 0)) (cond (decide (low < 0)) true (decide (eE < 0))) false)
  (iH N C0 bw cd de dj dk dc C1 C2 C3 C4 C5 x (bz N C0 bw cd de dj dk dc C1 C2 C3 C4 C5 fuel) x)
  (iH N C0 bw cd de dj dk dc C1 C2 C3 C4 C5 x (bz N C0 bw cd de dj dk dc C1 C2 C3 C4 C5 fuel) low)))
  else none)
  else none))
  else none))
  ((cond (decide (low≥0))
  (((gr N (-1)).bind fun aw =>
  (if 0≤(ah (((C2.length:Nat):Int) - 1))∧(ah (((C2.length:Nat):Int) - 1)) < ((C5.length:Nat):Int) then
  ((ju N low (ah (((C2.length:Nat):Int) - 1)) C0 bw cd de dj dk dc C1 C2 C3 C4 (C5.set ((ah (((C2.length:Nat):Int) - 1)).toNat) aw)).bind fun bu =>
  (if bu.2.1.length=C1.length then
  (if bu.2.2.1.length=C2.length then
  (if bu.2.2.2.1.length=C3.length then
  (if bu.2.2.2.2.1.length=C4.length then
  (if bu.2.2.2.2.2.length=(C5.set ((ah (((C2.length:Nat):Int) - 1)).toNat) aw).length then
  ((pT N bu.1.xk bu.1.xl bu.1.ak.fN.fG bu.1.ak.fN.fL bu.1.ak.fD.fG bu.1.ak.fD.fL bu.1.cu bu.2.1 bu.2.2.1 bu.2.2.2.1 bu.2.2.2.2.1 bu.2.2.2.2.2).bind fun cM =>
  (if cM.2.2.1.length=bu.2.1.length then
  (if cM.2.2.2.1.length=bu.2.2.1.length then
  (if cM.2.2.2.2.1.length=bu.2.2.2.1.length then
  (if cM.2.2.2.2.2.1.length=bu.2.2.2.2.1.length then
  (if cM.2.2.2.2.2.2.length=bu.2.2.2.2.2.length then
  ((g8 N cM.2.1.ak).bind fun gj =>
  (cond (!gj)
  (some (false,(⟨cM.2.1.xk,cM.2.1.xl,cM.2.2.1,cM.2.2.2.1,cM.2.2.2.2.1,cM.2.2.2.2.2.1,cM.2.2.2.2.2.2,cM.2.1.ak,cM.2.1.cu⟩:lR),cM.2.2.1,cM.2.2.2.1,cM.2.2.2.2.1,cM.2.2.2.2.2.1))
  (fR N cM.2.1.xk cM.2.1.xl cM.2.2.1 cM.2.2.2.1 cM.2.2.2.2.1 cM.2.2.2.2.2.1 cM.2.2.2.2.2.2 cM.2.1.ak.fN.fG cM.2.1.ak.fN.fL cM.2.1.ak.fD.fG cM.2.1.ak.fD.fL cM.2.1.cu)))
  else none)
  else none)
  else none)
  else none)
  else none))
  else none)
  else none)
  else none)
  else none)
  else none))
  else none)))
  (fR N C0 bw C1 C2 C3 C4 C5 cd de dj dk dc))))
def l4 (N:Nat) (C0:Int) (bw:Int) (cd:Bool) (de:List Int) (dj:Bool) (dk:List Int) (dc:Int) (C1:List Int) (C2:List Int) (C3:List (List aa)) (C4:List aa) (C5:List aa):Option (Bool×lR×(List Int)×(List Int)×(List (List aa))×(List aa)) :=
 bz N C0 bw cd de dj dk dc C1 C2 C3 C4 C5 N (-1) 0
def e8 (N:Nat) (C0:Int) (bw:Int) (cd:Bool) (de:List Int) (dj:Bool) (dk:List Int) (dc:Int) (C1:List Int) (C2:List Int) (C3:List (List aa)) (C4:List aa) (C5:List aa) (x:Int) (gk:(List aa)→Int→Option ((List aa))) (gu:List aa):Option ((List aa)) :=
 gk gu (ah (x+1))
def bJ (N:Nat) (C0:Int) (bw:Int) (cd:Bool) (de:List Int) (dj:Bool) (dk:List Int) (dc:Int) (C1:List Int) (C2:List Int) (C3:List (List aa)) (C4:List aa) (C5:List aa):Nat→(List aa)→Int→Option ((List aa))
 | 0,_,_=>none
 | fuel+1,out,x =>
  (cond (decide (x < (((List.replicate ((bw).toNat) aa.d:List aa).length:Nat):Int)))
  (((gr N 0).bind fun aw =>
  (if 0≤x∧x < ((out.length:Nat):Int) then
  ((ep N C2 (ah ((ah (2 * C0))+x))).bind fun cW =>
  (cond (decide (cW≥0))
  ((if 0≤cW∧cW < ((C5.length:Nat):Int) then
  ((gh N (⟨((C5.getD ((cW).toNat) aa.d).fN),((C5.getD ((cW).toNat) aa.d).fD)⟩:aa)).bind fun aY =>
  (if 0≤x∧x < (((out.set ((x).toNat) aw).length:Nat):Int) then
  e8 N C0 bw cd de dj dk dc C1 C2 C3 C4 C5 x (bJ N C0 bw cd de dj dk dc C1 C2 C3 C4 C5 fuel) ((out.set ((x).toNat) aw).set ((x).toNat) aY)
  else none))
  else none))
  (e8 N C0 bw cd de dj dk dc C1 C2 C3 C4 C5 x (bJ N C0 bw cd de dj dk dc C1 C2 C3 C4 C5 fuel) (out.set ((x).toNat) aw))))
  else none)))
  (some out))
def jx (N:Nat) (C0:Int) (bw:Int) (cd:Bool) (de:List Int) (dj:Bool) (dk:List Int) (dc:Int) (C1:List Int) (C2:List Int) (C3:List (List aa)) (C4:List aa) (C5:List aa):Option ((List aa)) :=
 (if 0≤bw∧(64:Int) * bw≤281474976710656∧bw≤9223372036854775807 then
 bJ N C0 bw cd de dj dk dc C1 C2 C3 C4 C5 N (List.replicate ((bw).toNat) aa.d:List aa) 0
 else none)
def nA (N:Nat) (yZ:Int) (C0:Int) (bw:Int) (cd:Bool) (de:List Int) (dj:Bool) (dk:List Int) (dc:Int) (C1:List Int) (C2:List Int) (C3:List (List aa)) (C4:List aa) (C5:List aa):Option (aa) :=
 ((ep N C1 yZ).bind fun cW =>
 (cond (decide (cW≥0))
 ((if 0≤cW∧cW < ((C4.length:Nat):Int) then
 some (⟨((C4.getD ((cW).toNat) aa.d).fN),((C4.getD ((cW).toNat) aa.d).fD)⟩:aa)
 else none))
 (((gr N 0).bind fun aw =>
 some aw))))
def ef (N:Nat) (C0:Int) (bw:Int) (cd:Bool) (de:List Int) (dj:Bool) (dk:List Int) (dc:Int) (C1:List Int) (C2:List Int) (C3:List (List aa)) (C4:List aa) (C5:List aa):Nat→(List aa)→Int→Option ((List aa))
 | 0,_,_=>none
 | fuel+1,out,x =>
  (cond (decide (x < (((List.replicate ((C0).toNat) aa.d:List aa).length:Nat):Int)))
  (((nA N x C0 bw cd de dj dk dc C1 C2 C3 C4 C5).bind fun rat =>
  ((nA N (ah (C0+x)) C0 bw cd de dj dk dc C1 C2 C3 C4 C5).bind fun U8 =>
  ((eZ N rat U8).bind fun av =>
  (if 0≤x∧x < ((out.length:Nat):Int) then
  ef N C0 bw cd de dj dk dc C1 C2 C3 C4 C5 fuel (out.set ((x).toNat) av) (ah (x+1))
  else none)))))
  (some out))
def mZ (N:Nat) (C0:Int) (bw:Int) (cd:Bool) (de:List Int) (dj:Bool) (dk:List Int) (dc:Int) (C1:List Int) (C2:List Int) (C3:List (List aa)) (C4:List aa) (C5:List aa):Option ((List aa)) :=
 (if 0≤C0∧(64:Int) * C0≤281474976710656∧C0≤9223372036854775807 then
 ef N C0 bw cd de dj dk dc C1 C2 C3 C4 C5 N (List.replicate ((C0).toNat) aa.d:List aa) 0
 else none)
def pV (N:Nat) (n:Int) (l:List af):Option ((List aa)×(List aa)×Int) :=
 ((oi N n l).bind fun wi =>
 (cond (wi != 0)
 (some (([]:List aa),([]:List aa),wi))
 (((yY N n l).bind fun fI =>
 ((l4 N fI.xk fI.xl fI.ak.fN.fG fI.ak.fN.fL fI.ak.fD.fG fI.ak.fD.fL fI.cu fI.kz fI.nj fI.Jt fI.Ju fI.eW).bind fun bU =>
 (if bU.2.2.1.length=fI.kz.length then
 (if bU.2.2.2.2.1.length=fI.Jt.length then
 (if bU.2.2.2.2.2.length=fI.Ju.length then
 (cond (!bU.1)
 (((jx N bU.2.1.xk bU.2.1.xl bU.2.1.ak.fN.fG bU.2.1.ak.fN.fL bU.2.1.ak.fD.fG bU.2.1.ak.fD.fL bU.2.1.cu bU.2.2.1 bU.2.2.2.1 bU.2.2.2.2.1 bU.2.2.2.2.2 bU.2.1.eW).bind fun jd =>
 some (([]:List aa),jd,29)))
 (((mZ N bU.2.1.xk bU.2.1.xl bU.2.1.ak.fN.fG bU.2.1.ak.fN.fL bU.2.1.ak.fD.fG bU.2.1.ak.fD.fL bU.2.1.cu bU.2.2.1 bU.2.2.2.1 bU.2.2.2.2.1 bU.2.2.2.2.2 bU.2.1.eW).bind fun uu =>
 some (uu,([]:List aa),0))))
 else none)
 else none)
 else none))))))
def fa (N:Nat) (x:ai):Option (ByteArray) :=
 some x.gq
def gF (N:Nat) (s:ByteArray):Nat→Int→Option (Bool)
 | 0,_=>none
 | fuel+1,x =>
  (cond (decide (x < ((s.size:Nat):Int)))
  ((if 0≤x∧x < ((s.size:Nat):Int) then
  (cond (cond (!(cond (cond (decide ((zA s x)≥97)) (decide ((zA s x)≤122)) false) true (cond (decide ((zA s x)≥65)) (decide ((zA s x)≤90)) false))) (cond (x == 0) true (!(cond (cond (decide ((zA s x)≥48)) (decide ((zA s x)≤57)) false) true ((zA s x) == 45)))) false)
  (some false)
  (gF N s fuel (ah (x+1))))
  else none))
  (some true))
def om (N:Nat) (s:ByteArray):Option (Bool) :=
 (cond (cond (lF s ByteArray.empty) true (decide (((s.size:Nat):Int) > 12)))
 (some false)
 (gF N s N 0))
def k9 (N:Nat) (y:ai) (C1:ai):Option (Bool) :=
 ((fa N y).bind fun l5 =>
 ((fa N C1).bind fun uv =>
 some (lF l5 uv)))
def bg (N:Nat) (s:List ai) (C1:ai):Nat→Int→Option (Int)
 | 0,_=>none
 | fuel+1,x =>
  (cond (decide (x < ((s.length:Nat):Int)))
  ((if 0≤x∧x < ((s.length:Nat):Int) then
  ((k9 N (s.getD ((x).toNat) ai.d) C1).bind fun LF =>
  (cond LF
  (some x)
  (bg N s C1 fuel (ah (x+1)))))
  else none))
  (some (-1)))
def cN (N:Nat) (s:List ai) (C1:ai):Option (Int) :=
 bg N s C1 N 0
def cy (N:Nat) (s:List ai) (C1:ai):Option (Bool) :=
 ((cN N s C1).bind fun wY =>
 some (decide (wY≥0)))
def dQ (N:Nat) (n:Int) (lo:Int) (hi:Int):Option (Bool) :=
 some (cond (decide (n < lo)) true (decide (n > hi)))
def la (N:Nat) (x:ai):Option (Int) :=
 ((dQ N x.iZ (-1000000) 1000000).bind fun dd =>
 ((cond (!dd) (dQ N x.jE (-1000000) 1000000) (some false)).bind fun dU =>
 ((cond (!(cond dd true dU)) (dQ N x.b9 (-1000000) 1000000) (some false)).bind fun iS =>
 ((cond (!(cond (cond dd true dU) true iS)) (dQ N x.cC (-1000000) 1000000) (some false)).bind fun qx =>
 ((cond (!(cond (cond (cond dd true dU) true iS) true qx)) (dQ N x.n7 1 1000000000) (some false)).bind fun Cx =>
 (cond (cond (cond (cond (cond dd true dU) true iS) true qx) true Cx)
 (some 2)
 ((cond (cond (x.iZ == x.b9) (x.jE == x.cC) false)
 (some 9)
 (some 0)))))))))
def dg (N:Nat) (l:List ai):Nat→Int→Option (Int)
 | 0,_=>none
 | fuel+1,x =>
  (cond (decide (x < ((l.length:Nat):Int)))
  ((if 0≤x∧x < ((l.length:Nat):Int) then
  ((fa N (l.getD ((x).toNat) ai.d)).bind fun l5 =>
  ((om N l5).bind fun LG =>
  (cond (!LG)
  (some 4)
  ((if 0≤(x).toNat∧(x).toNat≤l.length then
  (if 0≤x then
  ((cy N ((l.take ((x).toNat)).drop 0) (l.getD ((x).toNat) ai.d)).bind fun wY =>
  (cond wY
  (some 5)
  (((la N (l.getD ((x).toNat) ai.d)).bind fun l6 =>
  (cond (l6 != 0)
  (some l6)
  (dg N l fuel (ah (x+1))))))))
  else none)
  else none)))))
  else none))
  (some 0))
def l7 (N:Nat) (l:List ai) (dh:Int):Option (Int) :=
 (cond (decide (((l.length:Nat):Int) > dh))
 (some 8)
 (dg N l N 0))
def fb (N:Nat) (l:List ai):Option (Int) :=
 ((l7 N l 12).bind fun wY =>
 some wY)
def mv (N:Nat) (l:ai) (x:Int) (m5:Int→Int→Option (Int)) (Ke:Int):Option (Int) :=
 m5 Ke (ah (x+1))
def gl (N:Nat) (l:ai):Nat→Int→Int→Option (Int)
 | 0,_,_=>none
 | fuel+1,root,x =>
  (cond (decide (x < 23))
  ((if (0:Int)≤(ah (22 - x)) then
  (cond (decide ((ah ((sO .i64 root (gZ .i64 1 (ah (22 - x)))) * (sO .i64 root (gZ .i64 1 (ah (22 - x)))))) < (ah ((ah ((ah (l.b9 - l.iZ)) * (ah (l.b9 - l.iZ))))+(ah ((ah (l.cC - l.jE)) * (ah (l.cC - l.jE))))))))
  (mv N l x (gl N l fuel) (sO .i64 root (gZ .i64 1 (ah (22 - x)))))
  (mv N l x (gl N l fuel) root))
  else none))
  (some (ah (root+1))))
def nQ (N:Nat) (l:ai):Option (Int) :=
 gl N l N 0 0
def pW (N:Nat) (l:ai):Option (Int×Int) :=
 ((fb N ([l]:List ai)).bind fun cb =>
 (cond (cb != 0)
 (some (0,cb))
 (((nQ N l).bind fun Fx =>
 some (Fx,0)))))
def qU (N:Nat):Option (Bool) :=
 ((pW N (⟨(⟨#[108]⟩:ByteArray),0,0,3000,4000,1000⟩:ai)).bind fun x8 =>
 some (cond (x8.2 == 0) (x8.1 == 5000) false))
def jo (N:Nat) (l:List ai):Nat→Int→Option (Bool)
 | 0,_=>none
 | fuel+1,i =>
  (cond (decide (i < ((l.length:Nat):Int)))
  ((if 0≤i∧i < ((l.length:Nat):Int) then
  (cond (decide (((((l.getD ((i).toNat) ai.d).gq).size:Nat):Int) > 40))
  (some false)
  (jo N l fuel (ah (i+1))))
  else none))
  (some (decide (((l.length:Nat):Int)≤14))))
def qV (N:Nat) (l:List ai):Option (Bool) :=
 jo N l N 0
def pX (N:Nat) (MO:Bool):Option (Int) :=
 (cond MO
 (some 2)
 (some 0))
def hO (N:Nat) (w:dK):Option (Int) :=
 ((dQ N w.iZ (-1000000000) 1000000000).bind fun dd =>
 ((cond (!dd) (dQ N w.jE (-1000000000) 1000000000) (some false)).bind fun dU =>
 ((cond (!(cond dd true dU)) (dQ N w.iv (-1000000000000000) 1000000000000000) (some false)).bind fun iS =>
 ((pX N (cond (cond dd true dU) true iS)).bind fun II =>
 some II))))
def dG (N:Nat) (n:Int):Option (aa) :=
 ((wc N n).bind fun GG =>
 ((qu N GG).bind fun Ak =>
 some Ak))
def mK (N:Nat) (w:dK):Option (ar) :=
 ((dG N w.iZ).bind fun eT =>
 ((dG N w.jE).bind fun dB =>
 ((dG N w.iv).bind fun dC =>
 some (⟨eT,dB,dC⟩:ar))))
def y6 (N:Nat) (a:Int) (b:Int):Option (aa×Int) :=
 (cond (b == 0)
 (some ((⟨(⟨false,([]:List Int)⟩:bG),(⟨false,([]:List Int)⟩:bG)⟩:aa),9))
 (((wc N a).bind fun GG =>
 ((wc N b).bind fun LH =>
 ((jc N GG LH).bind fun B6 =>
 some (B6,0))))))
def ld (N:Nat) (l:ai):Option (ar) :=
 ((nQ N l).bind fun Fx =>
 ((y6 N l.n7 Fx).bind fun Fy =>
 ((dG N (ah (l.b9 - l.iZ))).bind fun eT =>
 ((dE N Fy.1 eT).bind fun bL =>
 ((dG N (ah (l.cC - l.jE))).bind fun dB =>
 ((dE N Fy.1 dB).bind fun cw =>
 ((dG N l.iZ).bind fun dC =>
 ((dE N dC cw).bind fun dT =>
 ((dG N l.jE).bind fun IJ =>
 ((dE N IJ bL).bind fun sX =>
 ((eZ N dT sX).bind fun av =>
 some (⟨bL,cw,av⟩:ar))))))))))))
def dr (N:Nat) (l:List ai) (ao:ar) (rows:List af) (av:aa) (dh:List aa) (least:List aa) (aX:aa) (cR:List aa) (bB:List aa) (cO:aa):Nat→(List aa)→(List aa)→Int→Option (aP)
 | 0,_,_,_=>none
 | fuel+1,gG,dV,x4 =>
  (cond (decide (x4 < ((l.length:Nat):Int)))
  ((if 0≤x4∧x4 < ((l.length:Nat):Int) then
  ((ld N (l.getD ((x4).toNat) ai.d)).bind fun kF =>
  (if (gG.length+1) * 64≤140737488355328 then
  ((eZ N (⟨(⟨false,([]:List Int)⟩:bG),(⟨false,([]:List Int)⟩:bG)⟩:aa) kF.e2).bind fun fU =>
  (if (dV.length+1) * 64≤140737488355328 then
  dr N l ao rows av dh least aX cR bB cO fuel (gG ++ ([kF.e2]:List aa)) (dV ++ ([fU]:List aa)) (ah (x4+1))
  else none))
  else none))
  else none))
  ((if (((rows ++ ([(⟨dh,av⟩:af),(⟨least,ao.e0⟩:af)]:List af)) ++ ([(⟨cR,aX⟩:af),(⟨bB,ao.e1⟩:af)]:List af)).length+2) * 88≤140737488355328 then
  ((pV N ((l.length:Nat):Int) (((rows ++ ([(⟨dh,av⟩:af),(⟨least,ao.e0⟩:af)]:List af)) ++ ([(⟨cR,aX⟩:af),(⟨bB,ao.e1⟩:af)]:List af)) ++ ([(⟨gG,cO⟩:af),(⟨dV,ao.e2⟩:af)]:List af))).bind fun dI =>
  (cond (dI.2.2 == 0)
  (some (⟨true,dI.1,([]:List aa)⟩:aP))
  ((if 0≤(ah ((ah ((ah (2 * ((l.length:Nat):Int)))+0))+1))∧(ah ((ah ((ah (2 * ((l.length:Nat):Int)))+0))+1)) < ((dI.2.1.length:Nat):Int) then
  (if 0≤(ah ((ah (2 * ((l.length:Nat):Int)))+0))∧(ah ((ah (2 * ((l.length:Nat):Int)))+0)) < ((dI.2.1.length:Nat):Int) then
  ((eZ N (⟨((dI.2.1.getD ((ah ((ah ((ah (2 * ((l.length:Nat):Int)))+0))+1)).toNat) aa.d).fN),((dI.2.1.getD ((ah ((ah ((ah (2 * ((l.length:Nat):Int)))+0))+1)).toNat) aa.d).fD)⟩:aa) (⟨((dI.2.1.getD ((ah ((ah (2 * ((l.length:Nat):Int)))+0)).toNat) aa.d).fN),((dI.2.1.getD ((ah ((ah (2 * ((l.length:Nat):Int)))+0)).toNat) aa.d).fD)⟩:aa)).bind fun bm =>
  (if 0≤(ah ((ah ((ah (2 * ((l.length:Nat):Int)))+2))+1))∧(ah ((ah ((ah (2 * ((l.length:Nat):Int)))+2))+1)) < ((dI.2.1.length:Nat):Int) then
  (if 0≤(ah ((ah (2 * ((l.length:Nat):Int)))+2))∧(ah ((ah (2 * ((l.length:Nat):Int)))+2)) < ((dI.2.1.length:Nat):Int) then
  ((eZ N (⟨((dI.2.1.getD ((ah ((ah ((ah (2 * ((l.length:Nat):Int)))+2))+1)).toNat) aa.d).fN),((dI.2.1.getD ((ah ((ah ((ah (2 * ((l.length:Nat):Int)))+2))+1)).toNat) aa.d).fD)⟩:aa) (⟨((dI.2.1.getD ((ah ((ah (2 * ((l.length:Nat):Int)))+2)).toNat) aa.d).fN),((dI.2.1.getD ((ah ((ah (2 * ((l.length:Nat):Int)))+2)).toNat) aa.d).fD)⟩:aa)).bind fun bS =>
  (if (([bm]:List aa).length+1) * 64≤140737488355328 then
  (if 0≤(ah ((ah ((ah (2 * ((l.length:Nat):Int)))+4))+1))∧(ah ((ah ((ah (2 * ((l.length:Nat):Int)))+4))+1)) < ((dI.2.1.length:Nat):Int) then
  (if 0≤(ah ((ah (2 * ((l.length:Nat):Int)))+4))∧(ah ((ah (2 * ((l.length:Nat):Int)))+4)) < ((dI.2.1.length:Nat):Int) then
  ((eZ N (⟨((dI.2.1.getD ((ah ((ah ((ah (2 * ((l.length:Nat):Int)))+4))+1)).toNat) aa.d).fN),((dI.2.1.getD ((ah ((ah ((ah (2 * ((l.length:Nat):Int)))+4))+1)).toNat) aa.d).fD)⟩:aa) (⟨((dI.2.1.getD ((ah ((ah (2 * ((l.length:Nat):Int)))+4)).toNat) aa.d).fN),((dI.2.1.getD ((ah ((ah (2 * ((l.length:Nat):Int)))+4)).toNat) aa.d).fD)⟩:aa)).bind fun eh =>
  (if ((([bm]:List aa) ++ ([bS]:List aa)).length+1) * 64≤140737488355328 then
  some (⟨false,([]:List aa),((([bm]:List aa) ++ ([bS]:List aa)) ++ ([eh]:List aa))⟩:aP)
  else none))
  else none)
  else none)
  else none))
  else none)
  else none))
  else none)
  else none))))
  else none)))
def fh (N:Nat) (l:List ai) (ao:ar) (rows:List af) (av:aa) (dh:List aa) (least:List aa) (aX:aa):Nat→(List aa)→(List aa)→Int→Option (aP)
 | 0,_,_,_=>none
 | fuel+1,cR,bB,x3 =>
  (cond (decide (x3 < ((l.length:Nat):Int)))
  ((if 0≤x3∧x3 < ((l.length:Nat):Int) then
  ((ld N (l.getD ((x3).toNat) ai.d)).bind fun kG =>
  (if (cR.length+1) * 64≤140737488355328 then
  ((eZ N (⟨(⟨false,([]:List Int)⟩:bG),(⟨false,([]:List Int)⟩:bG)⟩:aa) kG.e1).bind fun fV =>
  (if (bB.length+1) * 64≤140737488355328 then
  fh N l ao rows av dh least aX fuel (cR ++ ([kG.e1]:List aa)) (bB ++ ([fV]:List aa)) (ah (x3+1))
  else none))
  else none))
  else none))
  ((if ((rows ++ ([(⟨dh,av⟩:af),(⟨least,ao.e0⟩:af)]:List af)).length+2) * 88≤140737488355328 then
  ((eZ N (⟨(⟨false,([]:List Int)⟩:bG),(⟨false,([]:List Int)⟩:bG)⟩:aa) ao.e2).bind fun cO =>
  dr N l ao rows av dh least aX cR bB cO N ([]:List aa) ([]:List aa) 0)
  else none)))
def fj (N:Nat) (l:List ai) (ao:ar) (rows:List af) (av:aa):Nat→(List aa)→(List aa)→Int→Option (aP)
 | 0,_,_,_=>none
 | fuel+1,dh,least,x2 =>
  (cond (decide (x2 < ((l.length:Nat):Int)))
  ((if 0≤x2∧x2 < ((l.length:Nat):Int) then
  ((ld N (l.getD ((x2).toNat) ai.d)).bind fun jW =>
  (if (dh.length+1) * 64≤140737488355328 then
  ((eZ N (⟨(⟨false,([]:List Int)⟩:bG),(⟨false,([]:List Int)⟩:bG)⟩:aa) jW.e0).bind fun fW =>
  (if (least.length+1) * 64≤140737488355328 then
  fj N l ao rows av fuel (dh ++ ([jW.e0]:List aa)) (least ++ ([fW]:List aa)) (ah (x2+1))
  else none))
  else none))
  else none))
  ((if (rows.length+2) * 88≤140737488355328 then
  ((eZ N (⟨(⟨false,([]:List Int)⟩:bG),(⟨false,([]:List Int)⟩:bG)⟩:aa) ao.e1).bind fun aX =>
  fh N l ao rows av dh least aX N ([]:List aa) ([]:List aa) 0)
  else none)))
def il (N:Nat) (l:List ai) (ao:ar):Nat→(List af)→Int→Option (aP)
 | 0,_,_=>none
 | fuel+1,rows,x =>
  (cond (decide (x < ((l.length:Nat):Int)))
  ((if 0≤((l.length:Nat):Int)∧(64:Int) * ((l.length:Nat):Int)≤281474976710656∧((l.length:Nat):Int)≤9223372036854775807 then
  ((dG N 1).bind fun eT =>
  ((dG N 1).bind fun dB =>
  ((dG N (-1)).bind fun dC =>
  (if 0≤x∧x < (((List.replicate l.length aa.d:List aa).length:Nat):Int) then
  (if (rows.length+2) * 88≤140737488355328 then
  il N l ao fuel (rows ++ ([(⟨((List.replicate l.length aa.d:List aa).set ((x).toNat) dB),eT⟩:af),(⟨((List.replicate l.length aa.d:List aa).set ((x).toNat) dC),(⟨(⟨false,([]:List Int)⟩:bG),(⟨false,([]:List Int)⟩:bG)⟩:aa)⟩:af)]:List af)) (ah (x+1))
  else none)
  else none))))
  else none))
  (((eZ N (⟨(⟨false,([]:List Int)⟩:bG),(⟨false,([]:List Int)⟩:bG)⟩:aa) ao.e0).bind fun av =>
  fj N l ao rows av N ([]:List aa) ([]:List aa) 0)))
def sb (N:Nat) (l:List ai) (w:dK):Option (aP) :=
 ((mK N w).bind fun ao =>
 il N l ao N ([]:List af) 0)
def jX (N:Nat) (s:ByteArray):Nat→Int→Option (Bool)
 | 0,_=>none
 | fuel+1,i =>
  (cond (decide (i < ((s.size:Nat):Int)))
  ((if 0≤i∧i < ((s.size:Nat):Int) then
  (cond (cond (!(cond (cond (decide ((zA s i)≥97)) (decide ((zA s i)≤122)) false) true (cond (decide ((zA s i)≥65)) (decide ((zA s i)≤90)) false))) (cond (i == 0) true (cond ((zA s i) != 45) (cond (decide ((zA s i) < 48)) true (decide ((zA s i) > 57))) false)) false)
  (some false)
  (jX N s fuel (ah (i+1))))
  else none))
  (some true))
def sY (N:Nat) (s:ByteArray):Option (Bool) :=
 (cond (cond (decide (((s.size:Nat):Int) < 1)) true (decide (((s.size:Nat):Int) > 12)))
 (some false)
 (jX N s N 0))
def gn (N:Nat) (n:Int) (low:Int) (high:Int):Option (Bool) :=
 some (cond (decide (n≥low)) (decide (n≤high)) false)
def mw (N:Nat) (l:ai):Option (Int) :=
 ((gn N l.iZ (-1000000) 1000000).bind fun xm =>
 ((cond (!(!xm)) (gn N l.jE (-1000000) 1000000) (some false)).bind fun qy =>
 ((cond (!(cond (!xm) true (!qy))) (gn N l.b9 (-1000000) 1000000) (some false)).bind fun x9 =>
 ((cond (!(cond (cond (!xm) true (!qy)) true (!x9))) (gn N l.cC (-1000000) 1000000) (some false)).bind fun Kf =>
 ((cond (!(cond (cond (cond (!xm) true (!qy)) true (!x9)) true (!Kf))) (gn N l.n7 1 1000000000) (some false)).bind fun U9 =>
 (cond (cond (cond (cond (cond (!xm) true (!qy)) true (!x9)) true (!Kf)) true (!U9))
 (some 2)
 ((cond (cond (l.iZ == l.b9) (l.jE == l.cC) false)
 (some 9)
 (some 0)))))))))
def dP (N:Nat) (l:List ai) (i:Int) (iJ:Int→Option (Int)):Nat→Int→Option (Int)
 | 0,_=>none
 | fuel+1,k =>
  (cond (decide (k < i))
  ((if 0≤k∧k < ((l.length:Nat):Int) then
  (if 0≤i∧i < ((l.length:Nat):Int) then
  (cond (lF ((l.getD ((k).toNat) ai.d).gq) ((l.getD ((i).toNat) ai.d).gq))
  (some 5)
  (dP N l i iJ fuel (ah (k+1))))
  else none)
  else none))
  ((if 0≤i∧i < ((l.length:Nat):Int) then
  ((mw N (l.getD ((i).toNat) ai.d)).bind fun l6 =>
  (cond (l6 != 0)
  (some l6)
  (iJ (ah (i+1)))))
  else none)))
def eK (N:Nat) (l:List ai):Nat→Int→Option (Int)
 | 0,_=>none
 | fuel+1,i =>
  (cond (decide (i < ((l.length:Nat):Int)))
  ((if 0≤i∧i < ((l.length:Nat):Int) then
  ((sY N ((l.getD ((i).toNat) ai.d).gq)).bind fun IK =>
  (cond (!IK)
  (some 4)
  (dP N l i (eK N l fuel) N 0)))
  else none))
  (some 0))
def iT (N:Nat) (l:List ai):Option (Int) :=
 (cond (decide (((l.length:Nat):Int) > 12))
 (some 8)
 (eK N l N 0))
def jC (N:Nat) (w:dK):Option (Int) :=
 ((gn N w.iZ (-1000000000) 1000000000).bind fun xm =>
 ((cond (!(!xm)) (gn N w.jE (-1000000000) 1000000000) (some false)).bind fun qy =>
 ((cond (!(cond (!xm) true (!qy))) (gn N w.iv (-1000000000000000) 1000000000000000) (some false)).bind fun x9 =>
 (cond (cond (cond (!xm) true (!qy)) true (!x9))
 (some 2)
 (some 0)))))
def wj (N:Nat) (l:List ai) (w:dK):Option (aP×Int) :=
 ((fb N l).bind fun cb =>
 (cond (cb != 0)
 (some ((⟨false,([]:List aa),([]:List aa)⟩:aP),cb))
 (((hO N w).bind fun l8 =>
 (cond (l8 != 0)
 (some ((⟨false,([]:List aa),([]:List aa)⟩:aP),l8))
 (((sb N l w).bind fun Qg =>
 some (Qg,0))))))))
def jY (N:Nat) (neg:Bool) (a:List Int):Nat→(List Int)→Int→Option (bG)
 | 0,_,_=>none
 | fuel+1,x,i =>
  (cond (decide (i < ((a.length:Nat):Int)))
  ((if 0≤i∧i < ((a.length:Nat):Int) then
  (if (x.length+1) * 2≤140737488355328 then
  jY N neg a fuel (x ++ ([(IntKind.u16.wrap ((a.getD ((i).toNat) 0)))]:List Int)) (ah (i+1))
  else none)
  else none))
  (some (⟨(cond neg (decide (((a.length:Nat):Int) > 0)) false),x⟩:bG)))
def fJ (N:Nat) (neg:Bool) (a:List Int):Option (bG) :=
 jY N neg a N ([]:List Int) 0
def lf (N:Nat) (n:Int):Nat→(List Int)→Int→Option (bG)
 | 0,_,_=>none
 | fuel+1,a,u =>
  (cond (decide (u > 0))
  ((if (a.length+1) * 8≤140737488355328 then
  lf N n fuel (a ++ ([(ah ((u.tmod 65536)))]:List Int)) (IntKind.u64.wrap (u.tdiv 65536))
  else none))
  (((fJ N (decide (n < 0)) a).bind fun pY =>
  some pY)))
def qW (N:Nat) (n:Int):Option (bG) :=
 (cond (decide (n < 0))
 (lf N n N ([]:List Int) (IntKind.u64.wrap (0 - (IntKind.u64.wrap (n)))))
 (lf N n N ([]:List Int) (IntKind.u64.wrap (n))))
def m6 (N:Nat) (n:Int):Option (aa) :=
 ((qW N n).bind fun GG =>
 ((qW N 1).bind fun LH =>
 some (⟨GG,LH⟩:aa)))
def qX (N:Nat) (w:dK):Option (ar) :=
 ((m6 N w.iZ).bind fun rQ =>
 ((m6 N w.jE).bind fun Va =>
 ((m6 N w.iv).bind fun Vb =>
 some (⟨rQ,Va,Vb⟩:ar))))
def jZ (N:Nat) (a:List Int):Nat→Int→Option ((List Int))
 | 0,_=>none
 | fuel+1,n =>
  (if ((decide (n > 0))=true→0≤(ah (n - 1))∧(ah (n - 1)) < ((a.length:Nat):Int)) then
  (cond (cond (decide (n > 0)) ((a.getD ((ah (n - 1)).toNat) 0) == 0) false)
  (jZ N a fuel (ah (n - 1)))
  ((if 0≤(n).toNat∧(n).toNat≤a.length then
  (if 0≤n then
  (if (0+((n).toNat - 0)) * 8≤140737488355328 then
  some (([]:List Int) ++ ((a.take ((n).toNat)).drop 0))
  else none)
  else none)
  else none)))
  else none)
def l9 (N:Nat) (a:List Int):Option ((List Int)) :=
 jZ N a N ((a.length:Nat):Int)
def j3 (N:Nat) (l:List Int):Nat→(List Int)→Int→Option ((List Int))
 | 0,_,_=>none
 | fuel+1,a,i =>
  (cond (decide (i < ((l.length:Nat):Int)))
  ((if 0≤i∧i < ((l.length:Nat):Int) then
  (if (a.length+1) * 8≤140737488355328 then
  j3 N l fuel (a ++ ([(ah ((l.getD ((i).toNat) 0)))]:List Int)) (ah (i+1))
  else none)
  else none))
  (((l9 N a).bind fun b7 =>
  some b7)))
def iU (N:Nat) (l:List Int):Option ((List Int)) :=
 j3 N l N ([]:List Int) 0
def lW (N:Nat) (a:List Int) (i:Int):Option (Int) :=
 (cond (decide (i < ((a.length:Nat):Int)))
 ((if 0≤i∧i < ((a.length:Nat):Int) then
 some (a.getD ((i).toNat) 0)
 else none))
 (some 0))
def jq (N:Nat) (a:List Int) (b:List Int) (i:Int) (lI:(List Int)→Int→Option ((List Int))):Nat→(List Int)→Int→Int→Option ((List Int))
 | 0,_,_,_=>none
 | fuel+1,gu,carry,k =>
  (cond (cond (decide (k < ((b.length:Nat):Int))) true (decide (carry > 0)))
  ((if 0≤(ah (i+k))∧(ah (i+k)) < ((gu.length:Nat):Int) then
  (if 0≤i∧i < ((a.length:Nat):Int) then
  ((lW N b k).bind fun cH =>
  jq N a b i lI fuel (gu.set ((ah (i+k)).toNat) ((ah ((ah ((gu.getD ((ah (i+k)).toNat) 0)+(ah ((a.getD ((i).toNat) 0) * cH))))+carry)).tmod 65536)) (ah ((ah ((ah ((gu.getD ((ah (i+k)).toNat) 0)+(ah ((a.getD ((i).toNat) 0) * cH))))+carry)).tdiv 65536)) (ah (k+1)))
  else none)
  else none))
  (lI gu (ah (i+1))))
def jr (N:Nat) (a:List Int) (b:List Int):Nat→(List Int)→Int→Option ((List Int))
 | 0,_,_=>none
 | fuel+1,out,i =>
  (cond (decide (i < ((a.length:Nat):Int)))
  (jq N a b i (jr N a b fuel) N out 0 0)
  (((l9 N out).bind fun b7 =>
  some b7)))
def lg (N:Nat) (a:List Int) (b:List Int):Option ((List Int)) :=
 (if 0≤(ah ((ah (((a.length:Nat):Int)+((b.length:Nat):Int)))+1))∧(8:Int) * (ah ((ah (((a.length:Nat):Int)+((b.length:Nat):Int)))+1))≤281474976710656∧(ah ((ah (((a.length:Nat):Int)+((b.length:Nat):Int)))+1))≤9223372036854775807 then
 jr N a b N (List.replicate ((ah ((ah (((a.length:Nat):Int)+((b.length:Nat):Int)))+1)).toNat) 0:List Int) 0
 else none)
def gH (N:Nat) (a:List Int) (b:List Int):Nat→Int→Option (Int)
 | 0,_=>none
 | fuel+1,i =>
  (cond (decide (i≥0))
  ((if 0≤i∧i < ((a.length:Nat):Int) then
  (if 0≤i∧i < ((b.length:Nat):Int) then
  (cond ((a.getD ((i).toNat) 0) != (b.getD ((i).toNat) 0))
  (some (ah ((a.getD ((i).toNat) 0) - (b.getD ((i).toNat) 0))))
  (gH N a b fuel (ah (i - 1))))
  else none)
  else none))
  (some 0))
def mL (N:Nat) (a:List Int) (b:List Int):Option (Int) :=
 (cond (((a.length:Nat):Int) != ((b.length:Nat):Int))
 (some (ah (((a.length:Nat):Int) - ((b.length:Nat):Int))))
 (gH N a b N (ah (((a.length:Nat):Int) - 1))))
def lJ (N:Nat) (a:List Int) (b:List Int) (out:List Int) (i:Int) (nR:(List Int)→Int→Int→Option ((List Int))) (kA:Int) (s:Int):Option ((List Int)) :=
 (if (out.length+1) * 8≤140737488355328 then
 nR (out ++ ([s]:List Int)) kA (ah (i+1))
 else none)
def fX (N:Nat) (a:List Int) (b:List Int):Nat→(List Int)→Int→Int→Option ((List Int))
 | 0,_,_,_=>none
 | fuel+1,out,borrow,i =>
  (cond (decide (i < ((a.length:Nat):Int)))
  ((if 0≤i∧i < ((a.length:Nat):Int) then
  ((lW N b i).bind fun cH =>
  (cond (decide ((ah ((ah ((a.getD ((i).toNat) 0) - cH)) - borrow)) < 0))
  (lJ N a b out i (fX N a b fuel) 1 (ah ((ah ((ah ((a.getD ((i).toNat) 0) - cH)) - borrow))+65536)))
  (lJ N a b out i (fX N a b fuel) 0 (ah ((ah ((a.getD ((i).toNat) 0) - cH)) - borrow)))))
  else none))
  (((l9 N out).bind fun b7 =>
  some b7)))
def pg (N:Nat) (a:List Int) (b:List Int):Option ((List Int)) :=
 fX N a b N ([]:List Int) 0 0
def mM (N:Nat) (a:List Int) (b:List Int) (q:List Int) (i:Int) (lo:Int) (dR:(List Int)→(List Int)→Int→Option ((List Int)×(List Int))) (Kg:List Int):Option ((List Int)×(List Int)) :=
 dR Kg (q.set ((i).toNat) lo) (ah (i - 1))
def je (N:Nat) (a:List Int) (b:List Int) (q:List Int) (i:Int) (b7:(List Int)) (dR:(List Int)→(List Int)→Int→Option ((List Int)×(List Int))):Nat→Int→Int→Option ((List Int)×(List Int))
 | 0,_,_=>none
 | fuel+1,lo,hi =>
  (cond (decide (lo < hi))
  (((lg N b ([(ah ((ah ((ah (lo+hi))+1)).tdiv 2))]:List Int)).bind fun ru =>
  ((mL N ru b7).bind fun ki =>
  (cond (decide (ki≤0))
  (je N a b q i b7 dR fuel (ah ((ah ((ah (lo+hi))+1)).tdiv 2)) hi)
  (je N a b q i b7 dR fuel lo (ah ((ah ((ah ((ah (lo+hi))+1)).tdiv 2)) - 1)))))))
  ((if 0≤i∧i < ((q.length:Nat):Int) then
  (cond (decide (lo > 0))
  (((lg N b ([lo]:List Int)).bind fun Ep =>
  ((pg N b7 Ep).bind fun sS =>
  mM N a b q i lo dR sS)))
  (mM N a b q i lo dR b7))
  else none)))
def jf (N:Nat) (a:List Int) (b:List Int):Nat→(List Int)→(List Int)→Int→Option ((List Int)×(List Int))
 | 0,_,_,_=>none
 | fuel+1,rest,q,i =>
  (cond (decide (i≥0))
  ((if 0≤i∧i < ((a.length:Nat):Int) then
  (if (1+rest.length) * 8≤140737488355328 then
  ((l9 N (([(a.getD ((i).toNat) 0)]:List Int) ++ rest)).bind fun b7 =>
  je N a b q i b7 (jf N a b fuel) N 0 65535)
  else none)
  else none))
  (((l9 N q).bind fun jJ =>
  some (jJ,rest))))
def nB (N:Nat) (a:List Int) (b:List Int):Option ((List Int)×(List Int)) :=
 (if 0≤((a.length:Nat):Int)∧(8:Int) * ((a.length:Nat):Int)≤281474976710656∧((a.length:Nat):Int)≤9223372036854775807 then
 jf N a b N ([]:List Int) (List.replicate a.length 0:List Int) (ah (((a.length:Nat):Int) - 1))
 else none)
def ma (N:Nat):Nat→(List Int)→(List Int)→Option ((List Int))
 | 0,_,_=>none
 | fuel+1,a2,b2 =>
  (cond (decide (((b2.length:Nat):Int) > 0))
  (((nB N a2 b2).bind fun kn =>
  ma N fuel b2 kn.2))
  (some a2))
def y7 (N:Nat) (a:List Int) (b:List Int):Option ((List Int)) :=
 ma N N a b
def nC (N:Nat) (a:bG) (b:bG):Option (aa) :=
 ((iU N a.fL).bind fun m7 =>
 ((iU N b.fL).bind fun n8 =>
 (cond (((n8.length:Nat):Int) == 0)
 (((fJ N a.fG m7).bind fun pY =>
 ((qW N 1).bind fun GG =>
 some (⟨pY,GG⟩:aa))))
 (((y7 N m7 n8).bind fun Sv =>
 ((nB N m7 Sv).bind fun kn =>
 ((nB N n8 Sv).bind fun kE =>
 ((fJ N (!(a.fG == b.fG)) kn.1).bind fun Am =>
 ((fJ N false kE.1).bind fun An =>
 some (⟨Am,An⟩:aa))))))))))
def fY (N:Nat) (x:aa):Option (aa) :=
 ((nC N x.fN x.fD).bind fun sZ =>
 some sZ)
def wm (N:Nat) (a:bG):Option (Int) :=
 ((iU N a.fL).bind fun m7 =>
 (cond (((m7.length:Nat):Int) == 0)
 (some 0)
 ((cond a.fG
 (some (-1))
 (some 1)))))
def gW (N:Nat) (x:aa):Option (Int) :=
 ((fY N x).bind fun eO =>
 ((wm N eO.fN).bind fun Qh =>
 some Qh))
def y8 (N:Nat) (a:bG):Option (bG) :=
 ((iU N a.fL).bind fun m7 =>
 ((fJ N (!a.fG) m7).bind fun pY =>
 some pY))
def sd (N:Nat) (x:aa):Option (aa) :=
 ((fY N x).bind fun eO =>
 ((y8 N eO.fN).bind fun Vc =>
 some (⟨Vc,eO.fD⟩:aa)))
def mN (N:Nat) (a:bG) (b:bG):Option (bG) :=
 ((iU N a.fL).bind fun m7 =>
 ((iU N b.fL).bind fun n8 =>
 ((lg N m7 n8).bind fun ru =>
 ((fJ N (!(a.fG == b.fG)) ru).bind fun pY =>
 some pY))))
def j4 (N:Nat) (a:List Int) (b:List Int):Nat→(List Int)→Int→Int→Option ((List Int))
 | 0,_,_,_=>none
 | fuel+1,out,carry,i =>
  (cond (cond (cond (decide (i < ((a.length:Nat):Int))) true (decide (i < ((b.length:Nat):Int)))) true (decide (carry > 0)))
  (((lW N a i).bind fun cH =>
  ((lW N b i).bind fun mb =>
  (if (out.length+1) * 8≤140737488355328 then
  j4 N a b fuel (out ++ ([((ah ((ah (cH+mb))+carry)).tmod 65536)]:List Int)) (ah ((ah ((ah (cH+mb))+carry)).tdiv 65536)) (ah (i+1))
  else none))))
  (((l9 N out).bind fun b7 =>
  some b7)))
def wo (N:Nat) (a:List Int) (b:List Int):Option ((List Int)) :=
 j4 N a b N ([]:List Int) 0 0
def y9 (N:Nat) (a:bG) (b:bG):Option (bG) :=
 ((iU N a.fL).bind fun m7 =>
 ((iU N b.fL).bind fun n8 =>
 (cond (a.fG == b.fG)
 (((wo N m7 n8).bind fun Fq =>
 ((fJ N a.fG Fq).bind fun pY =>
 some pY)))
 (((mL N m7 n8).bind fun ki =>
 (cond (decide (ki≥0))
 (((pg N m7 n8).bind fun sS =>
 ((fJ N a.fG sS).bind fun Am =>
 some Am)))
 (((pg N n8 m7).bind fun wh =>
 ((fJ N b.fG wh).bind fun An =>
 some An)))))))))
def ia (N:Nat) (x:aa) (y:aa):Option (aa) :=
 ((fY N x).bind fun eO =>
 ((fY N y).bind fun iV =>
 ((mN N eO.fN iV.fD).bind fun sV =>
 ((mN N iV.fN eO.fD).bind fun nw =>
 ((y9 N sV nw).bind fun LC =>
 ((mN N eO.fD iV.fD).bind fun Fs =>
 ((nC N LC Fs).bind fun sZ =>
 some sZ)))))))
def pZ (N:Nat) (x:aa) (y:aa):Option (aa) :=
 ((sd N y).bind fun IL =>
 ((ia N x IL).bind fun bk =>
 some bk))
def se (N:Nat) (x:aa) (y:aa):Option (Int) :=
 ((pZ N x y).bind fun av =>
 ((gW N av).bind fun gI =>
 some gI))
def ot (N:Nat) (l:ai) (step:Int) (oL:Int→Int→Option (Int)) (s2:Int):Option (Int) :=
 oL s2 (ah (step.tdiv 2))
def jg (N:Nat) (l:ai):Nat→Int→Int→Option (Int)
 | 0,_,_=>none
 | fuel+1,s,step =>
  (cond (decide (step > 0))
  ((cond (decide ((ah ((ah (s+step)) * (ah (s+step)))) < (ah ((ah ((ah (l.b9 - l.iZ)) * (ah (l.b9 - l.iZ))))+(ah ((ah (l.cC - l.jE)) * (ah (l.cC - l.jE))))))))
  (ot N l step (jg N l fuel) (ah (s+step)))
  (ot N l step (jg N l fuel) s)))
  (some (ah (s+1))))
def s6 (N:Nat) (l:ai):Option (Int) :=
 jg N l N 0 4194304
def sf (N:Nat) (x:aa) (y:aa):Option (aa) :=
 ((fY N x).bind fun eO =>
 ((fY N y).bind fun iV =>
 ((mN N eO.fN iV.fD).bind fun sV =>
 ((mN N eO.fD iV.fN).bind fun nw =>
 ((nC N sV nw).bind fun sZ =>
 some sZ)))))
def fx (N:Nat) (x:aa) (y:aa):Option (aa) :=
 ((fY N x).bind fun eO =>
 ((fY N y).bind fun iV =>
 ((mN N eO.fN iV.fN).bind fun sV =>
 ((mN N eO.fD iV.fD).bind fun nw =>
 ((nC N sV nw).bind fun sZ =>
 some sZ)))))
def s7 (N:Nat) (l:ai):Option (ar) :=
 ((m6 N l.n7).bind fun rQ =>
 ((s6 N l).bind fun x8 =>
 ((m6 N x8).bind fun Va =>
 ((sf N rQ Va).bind fun Er =>
 ((m6 N (ah (l.b9 - l.iZ))).bind fun Vb =>
 ((fx N Er Vb).bind fun bL =>
 ((m6 N (ah (l.cC - l.jE))).bind fun Zk =>
 ((fx N Er Zk).bind fun cw =>
 ((m6 N l.iZ).bind fun Zl =>
 ((fx N Zl cw).bind fun dT =>
 ((m6 N l.jE).bind fun Zm =>
 ((fx N Zm bL).bind fun sX =>
 ((pZ N dT sX).bind fun av =>
 some (⟨bL,cw,av⟩:ar))))))))))))))
def fM (N:Nat) (l:List ai) (parts:List aa):Nat→ar→Int→Option (Bool)
 | 0,_,_=>none
 | fuel+1,sum,i =>
  (cond (decide (i < ((l.length:Nat):Int)))
  ((if 0≤i∧i < ((parts.length:Nat):Int) then
  ((gW N (⟨((parts.getD ((i).toNat) aa.d).fN),((parts.getD ((i).toNat) aa.d).fD)⟩:aa)).bind fun gI =>
  (if ((!(decide (gI < 0)))=true→0≤i∧i < ((parts.length:Nat):Int)) then
  ((cond (!(decide (gI < 0))) (m6 N 1) (some aa.d)).bind fun rQ =>
  ((cond (!(decide (gI < 0))) (se N (⟨((parts.getD ((i).toNat) aa.d).fN),((parts.getD ((i).toNat) aa.d).fD)⟩:aa) rQ) (some 0)).bind fun eE =>
  (cond (cond (decide (gI < 0)) true (decide (eE > 0)))
  (some false)
  ((if 0≤i∧i < ((l.length:Nat):Int) then
  ((s7 N (l.getD ((i).toNat) ai.d)).bind fun Bj =>
  ((fx N (⟨((parts.getD ((i).toNat) aa.d).fN),((parts.getD ((i).toNat) aa.d).fD)⟩:aa) Bj.e0).bind fun bL =>
  ((ia N sum.e0 bL).bind fun bk =>
  ((fx N (⟨((parts.getD ((i).toNat) aa.d).fN),((parts.getD ((i).toNat) aa.d).fD)⟩:aa) Bj.e1).bind fun cw =>
  ((ia N sum.e1 cw).bind fun eu =>
  ((fx N (⟨((parts.getD ((i).toNat) aa.d).fN),((parts.getD ((i).toNat) aa.d).fD)⟩:aa) Bj.e2).bind fun dT =>
  ((ia N sum.e2 dT).bind fun fB =>
  fM N l parts fuel (⟨bk,eu,fB⟩:ar) (ah (i+1)))))))))
  else none)))))
  else none))
  else none))
  (((gW N sum.e0).bind fun fy =>
  ((cond (fy == 0) (gW N sum.e1) (some 0)).bind fun nT =>
  ((cond (cond (fy == 0) (nT == 0) false) (gW N sum.e2) (some 0)).bind fun Cy =>
  some (cond (cond (fy == 0) (nT == 0) false) (Cy == 0) false))))))
def p6 (N:Nat) (l:List ai) (w:dK) (parts:List aa):Option (Bool) :=
 ((qX N w).bind fun Ao =>
 fM N l parts N Ao 0)
def qY (N:Nat) (d:List aa) (p:ar):Option (aa) :=
 ((m6 N 0).bind fun rQ =>
 (if 0≤(0:Int)∧0 < ((d.length:Nat):Int) then
 ((fx N (⟨((d.getD 0 aa.d).fN),((d.getD 0 aa.d).fD)⟩:aa) p.e0).bind fun bL =>
 ((ia N rQ bL).bind fun bk =>
 (if 0≤(1:Int)∧1 < ((d.length:Nat):Int) then
 ((fx N (⟨((d.getD 1 aa.d).fN),((d.getD 1 aa.d).fD)⟩:aa) p.e1).bind fun cw =>
 ((ia N bk cw).bind fun eu =>
 (if 0≤(2:Int)∧2 < ((d.length:Nat):Int) then
 ((fx N (⟨((d.getD 2 aa.d).fN),((d.getD 2 aa.d).fD)⟩:aa) p.e2).bind fun dT =>
 ((ia N eu dT).bind fun fB =>
 some fB))
 else none)))
 else none)))
 else none))
def j8 (N:Nat) (l:List ai) (d:List aa) (i:Int) (mc:aa→Int→Option (Bool)) (Bk:aa):Option (Bool) :=
 mc Bk (ah (i+1))
def fz (N:Nat) (l:List ai) (d:List aa):Nat→aa→Int→Option (Bool)
 | 0,_,_=>none
 | fuel+1,sum,i =>
  (cond (decide (i < ((l.length:Nat):Int)))
  ((if 0≤i∧i < ((l.length:Nat):Int) then
  ((s7 N (l.getD ((i).toNat) ai.d)).bind fun Bj =>
  ((qY N d Bj).bind fun Es =>
  ((gW N Es).bind fun gI =>
  (cond (decide (gI > 0))
  (((ia N sum Es).bind fun bk =>
  j8 N l d i (fz N l d fuel) bk))
  (j8 N l d i (fz N l d fuel) sum)))))
  else none))
  (((gW N sum).bind fun fy =>
  some (decide (fy < 0)))))
def qF (N:Nat) (l:List ai) (w:dK) (d:List aa):Option (Bool) :=
 ((qX N w).bind fun Ao =>
 ((qY N d Ao).bind fun LI =>
 fz N l d N LI 0))
def md (N:Nat) (l:List ai) (w:dK) (m:aP):Option (Int) :=
 ((iT N l).bind fun cb =>
 (cond (cb != 0)
 (some cb)
 (((jC N w).bind fun nD =>
 (cond (nD != 0)
 (some nD)
 ((cond m.aJ
 ((cond (((m.bc.length:Nat):Int) != ((l.length:Nat):Int))
 (some 11)
 (((p6 N l w m.bc).bind fun Cz =>
 (cond (!Cz)
 (some 24)
 (some 0))))))
 ((cond (((m.bI.length:Nat):Int) != 3)
 (some 11)
 (((qF N l w m.bI).bind fun Fz =>
 (cond (!Fz)
 (some 24)
 (some 0)))))))))))))
def ve (N:Nat) (x:aa) (n:Int):Option (Bool) :=
 some (cond (decide (((x.fN.fL.length:Nat):Int)≤n)) (decide (((x.fD.fL.length:Nat):Int)≤n)) false)
def ey (N:Nat) (l:List aa) (n:Int):Nat→Int→Option (Bool)
 | 0,_=>none
 | fuel+1,i =>
  (cond (decide (i < ((l.length:Nat):Int)))
  ((if 0≤i∧i < ((l.length:Nat):Int) then
  ((ve N (⟨((l.getD ((i).toNat) aa.d).fN),((l.getD ((i).toNat) aa.d).fD)⟩:aa) n).bind fun LJ =>
  (cond (!LJ)
  (some false)
  (ey N l n fuel (ah (i+1)))))
  else none))
  (some true))
def lh (N:Nat) (l:List aa) (n:Int):Option (Bool) :=
 ey N l n N 0
def s8 (N:Nat) (m:aP):Option (Bool) :=
 ((cond (cond (decide (((m.bc.length:Nat):Int)≤20)) (decide (((m.bI.length:Nat):Int)≤6)) false) (lh N m.bc 12) (some false)).bind fun eF =>
 ((cond (cond (cond (decide (((m.bc.length:Nat):Int)≤20)) (decide (((m.bI.length:Nat):Int)≤6)) false) eF false) (lh N m.bI 12) (some false)).bind fun iW =>
 some (cond (cond (cond (decide (((m.bc.length:Nat):Int)≤20)) (decide (((m.bI.length:Nat):Int)≤6)) false) eF false) iW false)))
def gJ (N:Nat) (l:List ai) (parts:List aa):Nat→ar→Int→Option (Bool)
 | 0,_,_=>none
 | fuel+1,sum,x =>
  (cond (decide (x < ((l.length:Nat):Int)))
  ((if 0≤x∧x < ((l.length:Nat):Int) then
  (if 0≤x∧x < ((parts.length:Nat):Int) then
  ((gx N (⟨((parts.getD ((x).toNat) aa.d).fN),((parts.getD ((x).toNat) aa.d).fD)⟩:aa) (⟨(⟨false,([]:List Int)⟩:bG),(⟨false,([]:List Int)⟩:bG)⟩:aa)).bind fun eE =>
  (if ((!(decide (eE < 0)))=true→0≤x∧x < ((parts.length:Nat):Int)) then
  ((cond (!(decide (eE < 0))) (dG N 1) (some aa.d)).bind fun eT =>
  ((cond (!(decide (eE < 0))) (gx N (⟨((parts.getD ((x).toNat) aa.d).fN),((parts.getD ((x).toNat) aa.d).fD)⟩:aa) eT) (some 0)).bind fun qZ =>
  (cond (cond (decide (eE < 0)) true (decide (qZ > 0)))
  (some false)
  (((ld N (l.getD ((x).toNat) ai.d)).bind fun jW =>
  ((dE N (⟨((parts.getD ((x).toNat) aa.d).fN),((parts.getD ((x).toNat) aa.d).fD)⟩:aa) jW.e0).bind fun bL =>
  ((eY N sum.e0 bL).bind fun bk =>
  ((dE N (⟨((parts.getD ((x).toNat) aa.d).fN),((parts.getD ((x).toNat) aa.d).fD)⟩:aa) jW.e1).bind fun cw =>
  ((eY N sum.e1 cw).bind fun eu =>
  ((dE N (⟨((parts.getD ((x).toNat) aa.d).fN),((parts.getD ((x).toNat) aa.d).fD)⟩:aa) jW.e2).bind fun dT =>
  ((eY N sum.e2 dT).bind fun fB =>
  gJ N l parts fuel (⟨bk,eu,fB⟩:ar) (ah (x+1)))))))))))))
  else none))
  else none)
  else none))
  (((gx N sum.e0 (⟨(⟨false,([]:List Int)⟩:bG),(⟨false,([]:List Int)⟩:bG)⟩:aa)).bind fun Bl =>
  (cond (Bl != 0)
  (some false)
  (((gx N sum.e1 (⟨(⟨false,([]:List Int)⟩:bG),(⟨false,([]:List Int)⟩:bG)⟩:aa)).bind fun Bm =>
  (cond (Bm != 0)
  (some false)
  (((gx N sum.e2 (⟨(⟨false,([]:List Int)⟩:bG),(⟨false,([]:List Int)⟩:bG)⟩:aa)).bind fun Bn =>
  (cond (Bn != 0)
  (some false)
  (some true)))))))))))
def qG (N:Nat) (l:List ai) (w:dK) (parts:List aa):Option (Bool) :=
 ((mK N w).bind fun ao =>
 gJ N l parts N ao 0)
def lK (N:Nat) (f:ar) (C0:List aa):Option (aa) :=
 ((dG N 0).bind fun eT =>
 (if 0≤(0:Int)∧0 < ((C0.length:Nat):Int) then
 ((dE N (⟨((C0.getD 0 aa.d).fN),((C0.getD 0 aa.d).fD)⟩:aa) f.e0).bind fun bL =>
 ((eY N eT bL).bind fun bk =>
 (if 0≤(1:Int)∧1 < ((C0.length:Nat):Int) then
 ((dE N (⟨((C0.getD 1 aa.d).fN),((C0.getD 1 aa.d).fD)⟩:aa) f.e1).bind fun cw =>
 ((eY N bk cw).bind fun eu =>
 (if 0≤(2:Int)∧2 < ((C0.length:Nat):Int) then
 ((dE N (⟨((C0.getD 2 aa.d).fN),((C0.getD 2 aa.d).fD)⟩:aa) f.e2).bind fun dT =>
 ((eY N eu dT).bind fun fB =>
 some fB))
 else none)))
 else none)))
 else none))
def jy (N:Nat) (l:List ai) (proof:List aa) (x:Int) (lB:aa→Int→Option (Bool)) (Bk:aa):Option (Bool) :=
 lB Bk (ah (x+1))
def eP (N:Nat) (l:List ai) (proof:List aa):Nat→aa→Int→Option (Bool)
 | 0,_,_=>none
 | fuel+1,sum,x =>
  (cond (decide (x < ((l.length:Nat):Int)))
  ((if 0≤x∧x < ((l.length:Nat):Int) then
  ((ld N (l.getD ((x).toNat) ai.d)).bind fun jW =>
  ((lK N jW proof).bind fun vf =>
  ((gx N vf (⟨(⟨false,([]:List Int)⟩:bG),(⟨false,([]:List Int)⟩:bG)⟩:aa)).bind fun eE =>
  (cond (decide (eE > 0))
  (((eY N sum vf).bind fun bk =>
  jy N l proof x (eP N l proof fuel) bk))
  (jy N l proof x (eP N l proof fuel) sum)))))
  else none))
  (((gx N sum (⟨(⟨false,([]:List Int)⟩:bG),(⟨false,([]:List Int)⟩:bG)⟩:aa)).bind fun qZ =>
  some (decide (qZ < 0)))))
def p7 (N:Nat) (l:List ai) (w:dK) (proof:List aa):Option (Bool) :=
 ((mK N w).bind fun ao =>
 ((lK N ao proof).bind fun FA =>
 eP N l proof N FA 0))
def gK (N:Nat) (l:List ai) (w:dK) (m:aP):Option (Int) :=
 ((fb N l).bind fun cb =>
 (cond (cb != 0)
 (some cb)
 (((hO N w).bind fun l8 =>
 (cond (l8 != 0)
 (some l8)
 ((cond (cond (cond m.aJ (((m.bc.length:Nat):Int) != ((l.length:Nat):Int)) false) true (cond (!m.aJ) (((m.bI.length:Nat):Int) != 3) false))
 (some 11)
 (((cond m.aJ (qG N l w m.bc) (some false)).bind fun me =>
 ((cond ((!(cond m.aJ (!me) false)) && ((!(cond m.aJ (!me) false)) && (!m.aJ))) (p7 N l w m.bI) (some false)).bind fun IM =>
 (cond (cond (cond m.aJ (!me) false) true (cond (!m.aJ) (!IM) false))
 (some 24)
 (some 0))))))))))))
def lC (N:Nat) (l:List ai) (w:dK) (m:aP) (eA:aP×Int) (f:Int):Option (Bool) :=
 (cond (f != 0)
 (some (cond (cond (cond (eA.2 == f) (!eA.1.aJ) false) (((eA.1.bc.length:Nat):Int) == 0) false) (((eA.1.bI.length:Nat):Int) == 0) false))
 (((cond (!(eA.2 != 0)) (gK N l w eA.1) (some 0)).bind fun uw =>
 (cond (cond (eA.2 != 0) true (uw != 0))
 (some false)
 (((lh N eA.1.bc 400).bind fun eF =>
 ((cond eF (lh N eA.1.bI 400) (some false)).bind fun iW =>
 ((cond (cond eF iW false) (md N l w eA.1) (some 0)).bind fun s9 =>
 (cond (cond (cond eF iW false) (s9 != 0) false)
 (some false)
 (((gK N l w m).bind fun ko =>
 some (cond (ko != 0) true (m.aJ == eA.1.aJ)))))))))))))
def lL (N:Nat) (l:List ai) (w:dK) (m:aP):Option (Bool) :=
 ((qU N).bind fun LK =>
 (cond (!LK)
 (some false)
 (((qV N l).bind fun mQ =>
 ((cond (!(!mQ)) (s8 N m) (some false)).bind fun vg =>
 (cond (cond (cond (!mQ) true (!vg)) true (cond (decide (((l.length:Nat):Int) > 6)) (decide (((l.length:Nat):Int)≤12)) false))
 (some true)
 (((wj N l w).bind fun eA =>
 ((iT N l).bind fun cb =>
 (cond (cb == 0)
 (((jC N w).bind fun nD =>
 lC N l w m eA nD))
 (lC N l w m eA cb)))))))))))
end Go.Den
