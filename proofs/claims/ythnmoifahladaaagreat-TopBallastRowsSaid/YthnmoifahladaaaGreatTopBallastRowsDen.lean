/- The functions of the program as Lean functions, each in the Option monad; N bounds the rounds of loops. No conditions. -/
import Derived.Test.YthnmoifahladaaaGreatCd
set_option linter.unusedVariables false
set_option linter.unusedSimpArgs false
set_option linter.unusedVariables false
namespace Go.Den
open Go.Ab
abbrev zB (s:ByteArray) (x:Int):Int:=(rT s).getD x.toNat 0
abbrev zA (s:ByteArray) (x:Int):Int:=kG s x.toNat
structure cX where
 fG:Bool
 fL:List Int
def cX.d:cX:=⟨false,[]⟩
def cX.wf (x:cX):Prop:=wB x.fG/\(wL (wK .u16)) x.fL
def TIc (x:cX):List AV:=[(aB x.fG),(b5 (cU .u16) 0 x.fL)]
structure aa where
 fN:cX
 fD:cX
def aa.d:aa:=⟨cX.d,cX.d⟩
def aa.wf (x:aa):Prop:=cX.wf x.fN/\cX.wf x.fD
def eT (x:aa):List AV:=[(aB x.fN.fG),(b5 (cU .u16) 0 x.fN.fL),(aB x.fD.fG),(b5 (cU .u16) 0 x.fD.fL)]
structure aV where
 dd:List aa
 jT:aa
def aV.d:aV:=⟨[],aa.d⟩
def aV.wf (x:aV):Prop:=(wL aa.wf) x.dd/\aa.wf x.jT
def TWc (x:aV):List AV:=[(b5 eT aa.d x.dd),(aB x.jT.fN.fG),(b5 (cU .u16) 0 x.jT.fN.fL),(aB x.jT.fD.fG),(b5 (cU .u16) 0 x.jT.fD.fL)]
structure ow where
 D2:Int
 D3:Int
 Gy:List Int
 Pq:List Int
 f_a:List (List aa)
 Tb:List aa
 rU:List aa
 aJ:aa
 di:Int
def ow.d:ow:=⟨0,0,[],[],[],[],[],aa.d,0⟩
def ow.wf (x:ow):Prop:=wI x.D2/\wI x.D3/\(wL wI) x.Gy/\(wL wI) x.Pq/\(wL (wL aa.wf)) x.f_a/\(wL aa.wf) x.Tb/\(wL aa.wf) x.rU/\aa.wf x.aJ/\wI x.di
def ow.cells (x:ow):List AV:=[(aI x.D2),(aI x.D3),(b5 cI 0 x.Gy),(b5 cI 0 x.Pq),(b5 (fun x=>[b5 eT aa.d x]) [] x.f_a),(b5 eT aa.d x.Tb),(b5 eT aa.d x.rU),(aB x.aJ.fN.fG),(b5 (cU .u16) 0 x.aJ.fN.fL),(aB x.aJ.fD.fG),(b5 (cU .u16) 0 x.aJ.fD.fL),(aI x.di)]
structure fy where
 zD:Int
 D4:Int
 wU:Int
def fy.d:fy:=⟨0,0,0⟩
def fy.wf (x:fy):Prop:=wI x.zD/\wI x.D4/\wI x.wU
def fy.cells (x:fy):List AV:=[(aI x.zD),(aI x.D4),(aI x.wU)]
structure cL where
 jo:ByteArray
 zD:Int
 D4:Int
 cu:Int
 wU:Int
def cL.d:cL:=⟨ByteArray.empty,0,0,0,0⟩
def cL.wf (x:cL):Prop:=wS x.jo/\wI x.zD/\wI x.D4/\wI x.cu/\wI x.wU
def cL.cells (x:cL):List AV:=[(aS x.jo),(aI x.zD),(aI x.D4),(aI x.cu),(aI x.wU)]
structure cQ where
 oE:Int
 sD:Int
 er:Int
 pZ:List fy
 dh:List cL
def cQ.d:cQ:=⟨0,0,0,[],[]⟩
def cQ.wf (x:cQ):Prop:=wI x.oE/\wI x.sD/\wI x.er/\(wL fy.wf) x.pZ/\(wL cL.wf) x.dh
def cQ.cells (x:cQ):List AV:=[(aI x.oE),(aI x.sD),(aI x.er),(b5 fy.cells fy.d x.pZ),(b5 cL.cells cL.d x.dh)]
structure bF where
 aq:Int
 aA:Int
 bN:Int
 bq:Int
 bp:Int
def bF.d:bF:=⟨0,0,0,0,0⟩
def bF.wf (x:bF):Prop:=wI x.aq/\wI x.aA/\wI x.bN/\wI x.bq/\wI x.bp
def bF.cells (x:bF):List AV:=[(aI x.aq),(aI x.aA),(aI x.bN),(aI x.bq),(aI x.bp)]
structure ox where
 a8:List Int
 aq:Int
 aA:Int
def ox.d:ox:=⟨[],0,0⟩
def ox.wf (x:ox):Prop:=(wL wI) x.a8/\wI x.aq/\wI x.aA
def ox.cells (x:ox):List AV:=[(b5 cI 0 x.a8),(aI x.aq),(aI x.aA)]
structure uY where
 yn:aa
 K6:aa
 K7:aa
 Tc:aa
def uY.d:uY:=⟨aa.d,aa.d,aa.d,aa.d⟩
def uY.wf (x:uY):Prop:=aa.wf x.yn/\aa.wf x.K6/\aa.wf x.K7/\aa.wf x.Tc
def uY.cells (x:uY):List AV:=[(aB x.yn.fN.fG),(b5 (cU .u16) 0 x.yn.fN.fL),(aB x.yn.fD.fG),(b5 (cU .u16) 0 x.yn.fD.fL),(aB x.K6.fN.fG),(b5 (cU .u16) 0 x.K6.fN.fL),(aB x.K6.fD.fG),(b5 (cU .u16) 0 x.K6.fD.fL),(aB x.K7.fN.fG),(b5 (cU .u16) 0 x.K7.fN.fL),(aB x.K7.fD.fG),(b5 (cU .u16) 0 x.K7.fD.fL),(aB x.Tc.fN.fG),(b5 (cU .u16) 0 x.Tc.fN.fL),(aB x.Tc.fD.fG),(b5 (cU .u16) 0 x.Tc.fD.fL)]
structure ab where
 e0:Int
 e1:Int
 e2:Int
 e3:Int
 e4:Int
 e5:Int
def ab.d:ab:=⟨0,0,0,0,0,0⟩
def ab.wf (x:ab):Prop:=wI x.e0/\wI x.e1/\wI x.e2/\wI x.e3/\wI x.e4/\wI x.e5
def ab.cells (x:ab):List AV:=[(aI x.e0),(aI x.e1),(aI x.e2),(aI x.e3),(aI x.e4),(aI x.e5)]
structure eH where
 K8:Int
 f_x:Int
 f_y:Int
 abp:Int
def eH.d:eH:=⟨0,0,0,0⟩
def eH.wf (x:eH):Prop:=wI x.K8/\wI x.f_x/\wI x.f_y/\wI x.abp
def eH.cells (x:eH):List AV:=[(aI x.K8),(aI x.f_x),(aI x.f_y),(aI x.abp)]
structure av where
 dj:Int
 Za:Bool
def av.d:av:=⟨0,false⟩
def av.wf (x:av):Prop:=wI x.dj/\wB x.Za
def av.cells (x:av):List AV:=[(aI x.dj),(aB x.Za)]
structure da where
 MV:Int
 EH:Int
 f_x:Int
 f_y:Int
 Xk:Int
def da.d:da:=⟨0,0,0,0,0⟩
def da.wf (x:da):Prop:=wI x.MV/\wI x.EH/\wI x.f_x/\wI x.f_y/\wI x.Xk
def da.cells (x:da):List AV:=[(aI x.MV),(aI x.EH),(aI x.f_x),(aI x.f_y),(aI x.Xk)]
structure cg where
 f_p:cQ
 Tb:da
 ig:ab
 MV:Int
 EH:Int
def cg.d:cg:=⟨cQ.d,da.d,ab.d,0,0⟩
def cg.wf (x:cg):Prop:=cQ.wf x.f_p/\da.wf x.Tb/\ab.wf x.ig/\wI x.MV/\wI x.EH
def cg.cells (x:cg):List AV:=[(aI x.f_p.oE),(aI x.f_p.sD),(aI x.f_p.er),(b5 fy.cells fy.d x.f_p.pZ),(b5 cL.cells cL.d x.f_p.dh),(aI x.Tb.MV),(aI x.Tb.EH),(aI x.Tb.f_x),(aI x.Tb.f_y),(aI x.Tb.Xk),(aI x.ig.e0),(aI x.ig.e1),(aI x.ig.e2),(aI x.ig.e3),(aI x.ig.e4),(aI x.ig.e5),(aI x.MV),(aI x.EH)]
structure ar where
 EI:ab
 yF:av
def ar.d:ar:=⟨ab.d,av.d⟩
def ar.wf (x:ar):Prop:=ab.wf x.EI/\av.wf x.yF
def ar.cells (x:ar):List AV:=[(aI x.EI.e0),(aI x.EI.e1),(aI x.EI.e2),(aI x.EI.e3),(aI x.EI.e4),(aI x.EI.e5),(aI x.yF.dj),(aB x.yF.Za)]
structure dM where
 qh:cQ
 Bx:bF
 zy:ox
 abq:List av
def dM.d:dM:=⟨cQ.d,bF.d,ox.d,[]⟩
def dM.wf (x:dM):Prop:=cQ.wf x.qh/\bF.wf x.Bx/\ox.wf x.zy/\(wL av.wf) x.abq
def dM.cells (x:dM):List AV:=[(aI x.qh.oE),(aI x.qh.sD),(aI x.qh.er),(b5 fy.cells fy.d x.qh.pZ),(b5 cL.cells cL.d x.qh.dh),(aI x.Bx.aq),(aI x.Bx.aA),(aI x.Bx.bN),(aI x.Bx.bq),(aI x.Bx.bp),(b5 cI 0 x.zy.a8),(aI x.zy.aq),(aI x.zy.aA),(b5 av.cells av.d x.abq)]
structure lV where
 wY:Int
 Uv:Int
def lV.d:lV:=⟨0,0⟩
def lV.wf (x:lV):Prop:=wI x.wY/\wI x.Uv
def lV.cells (x:lV):List AV:=[(aI x.wY),(aI x.Uv)]
structure j8 where
 jo:ByteArray
 fT:List lV
 Td:Int
def j8.d:j8:=⟨ByteArray.empty,[],0⟩
def j8.wf (x:j8):Prop:=wS x.jo/\(wL lV.wf) x.fT/\wI x.Td
def j8.cells (x:j8):List AV:=[(aS x.jo),(b5 lV.cells lV.d x.fT),(aI x.Td)]
structure cR where
 e0:Bool
 e1:Bool
 e2:Bool
 e3:Bool
 e4:Bool
 e5:Bool
 e6:Bool
 e7:Bool
 e8:Bool
 e9:Bool
 e10:Bool
 e11:Bool
 e12:Bool
 e13:Bool
 e14:Bool
 e15:Bool
def cR.d:cR:=⟨false,false,false,false,false,false,false,false,false,false,false,false,false,false,false,false⟩
def cR.wf (x:cR):Prop:=wB x.e0/\wB x.e1/\wB x.e2/\wB x.e3/\wB x.e4/\wB x.e5/\wB x.e6/\wB x.e7/\wB x.e8/\wB x.e9/\wB x.e10/\wB x.e11/\wB x.e12/\wB x.e13/\wB x.e14/\wB x.e15
def cR.cells (x:cR):List AV:=[(aB x.e0),(aB x.e1),(aB x.e2),(aB x.e3),(aB x.e4),(aB x.e5),(aB x.e6),(aB x.e7),(aB x.e8),(aB x.e9),(aB x.e10),(aB x.e11),(aB x.e12),(aB x.e13),(aB x.e14),(aB x.e15)]
def sU (N:Nat) (vr:aV) (C0:Int):Option (Bool) :=
 some (decide (((vr.dd.length:Nat):Int) > C0))
def de (N:Nat) (s:List aV) (C0:Int):Nat->Int->Option (Int)
 | 0,_=>none
 | fuel+1,x =>
  (cond (decide (x < ((s.length:Nat):Int)))
  ((if 0<=x/\x < ((s.length:Nat):Int) then
  ((sU N (s.getD ((x).toNat) aV.d) C0).bind fun EJ =>
  (cond EJ
  (some x)
  (de N s C0 fuel (aE (x+1)))))
  else none))
  (some (-1)))
def pz (N:Nat) (s:List aV) (C0:Int):Option (Int) :=
 de N s C0 N 0
def mU (N:Nat) (s:List aV) (C0:Int):Option (Bool) :=
 ((pz N s C0).bind fun H0 =>
 some (decide (H0>=0)))
def nZ (N:Nat) (n:Int) (l:List aV):Option (Int) :=
 (cond (cond (decide (n < 0)) true (decide (n > 12)))
 (some 2)
 ((cond (decide (((l.length:Nat):Int) > 40))
 (some 8)
 (((mU N l n).bind fun H0 =>
 (cond H0
 (some 11)
 (some 0)))))))
def mm (N:Nat):Nat->Int->(List Int)->Option ((List Int))
 | 0,_,_=>none
 | fuel+1,n2,out =>
  (cond (decide (n2 > 0))
  ((if (out.length+1) * 2<=140737488355328 then
  mm N fuel (wX .u64 n2 16) (out ++ ([(IntKind.u16.wrap (n2))]:List Int))
  else none))
  (some out))
def qJ (N:Nat) (n:Int):Option ((List Int)) :=
 mm N N n ([]:List Int)
def qK (N:Nat):Nat->(List Int)->Option ((List Int))
 | 0,_=>none
 | fuel+1,n2 =>
  (if ((decide (((n2.length:Nat):Int) > 0))=true->0<=(aE (((n2.length:Nat):Int) - 1))/\(aE (((n2.length:Nat):Int) - 1)) < ((n2.length:Nat):Int)) then
  (cond (cond (decide (((n2.length:Nat):Int) > 0)) ((n2.getD ((aE (((n2.length:Nat):Int) - 1)).toNat) 0) == 0) false)
  ((if 0<=(aE (((n2.length:Nat):Int) - 1)).toNat/\(aE (((n2.length:Nat):Int) - 1)).toNat<=n2.length then
  (if 0<=(aE (((n2.length:Nat):Int) - 1)) then
  qK N fuel ((n2.take ((aE (((n2.length:Nat):Int) - 1)).toNat)).drop 0)
  else none)
  else none))
  (some n2))
  else none)
def gU (N:Nat) (n:List Int):Option ((List Int)) :=
 qK N N n
def cT (N:Nat) (s:List Int):Option ((List Int)) :=
 (if (0+s.length) * 2<=140737488355328 then
 some (([]:List Int) ++ s)
 else none)
def gZ (N:Nat) (neg:Bool) (n:List Int):Option (cX) :=
 ((gU N n).bind fun bJ =>
 (cond (((bJ.length:Nat):Int) == 0)
 (some (⟨false,([]:List Int)⟩:cX))
 (((cT N bJ).bind fun qL =>
 some (⟨neg,qL⟩:cX)))))
def yG (N:Nat) (n:Int):Option (cX) :=
 (cond (decide (n < 0))
 (((qJ N (IntKind.u64.wrap (0 - (IntKind.u64.wrap (n))))).bind fun qM =>
 ((gZ N true qM).bind fun yp =>
 some yp)))
 (((qJ N (IntKind.u64.wrap (n))).bind fun Bz =>
 ((gZ N false Bz).bind fun qt =>
 some qt))))
def o6 (N:Nat) (n:List Int):Nat->Int->Int->Option (Int×Bool)
 | 0,_,_=>none
 | fuel+1,out,i =>
  (cond (decide (i>=0))
  ((if 0<=i/\i < ((n.length:Nat):Int) then
  o6 N n fuel (Nj .u64 (AF .u64 out 16) (IntKind.u64.wrap ((n.getD ((i).toNat) 0)))) (aE (i - 1))
  else none))
  (some (out,true)))
def yH (N:Nat) (n:List Int):Option (Int×Bool) :=
 (cond (decide (((n.length:Nat):Int) > 4))
 (some (0,false))
 (o6 N n N 0 (aE (((n.length:Nat):Int) - 1))))
def kI (N:Nat) (a:List Int) (b:List Int):Nat->Int->Option (Int)
 | 0,_=>none
 | fuel+1,i =>
  (cond (decide (i>=0))
  ((if 0<=i/\i < ((a.length:Nat):Int) then
  (if 0<=i/\i < ((b.length:Nat):Int) then
  (cond ((a.getD ((i).toNat) 0) != (b.getD ((i).toNat) 0))
  (some (aE ((aE ((a.getD ((i).toNat) 0))) - (aE ((b.getD ((i).toNat) 0))))))
  (kI N a b fuel (aE (i - 1))))
  else none)
  else none))
  (some 0))
def qN (N:Nat) (a:List Int) (b:List Int):Option (Int) :=
 (cond (((a.length:Nat):Int) != ((b.length:Nat):Int))
 (some (aE (((a.length:Nat):Int) - ((b.length:Nat):Int))))
 (kI N a b N (aE (((a.length:Nat):Int) - 1))))
def np (N:Nat) (a:List Int) (b:Int):Nat->(List Int)->Int->Int->Option ((List Int)×Int)
 | 0,_,_,_=>none
 | fuel+1,q,rest,i =>
  (cond (decide (i>=0))
  ((if 0<=i/\i < ((a.length:Nat):Int) then
  (if ((IntKind.u32.wrap (b)):Int)≠0 then
  (if 0<=i/\i < ((q.length:Nat):Int) then
  np N a b fuel (q.set ((i).toNat) (IntKind.u16.wrap ((IntKind.u32.wrap ((Nj .u32 (AF .u32 rest 16) (IntKind.u32.wrap ((a.getD ((i).toNat) 0)))).tdiv (IntKind.u32.wrap (b))))))) ((Nj .u32 (AF .u32 rest 16) (IntKind.u32.wrap ((a.getD ((i).toNat) 0)))).tmod (IntKind.u32.wrap (b))) (aE (i - 1))
  else none)
  else none)
  else none))
  (((gU N q).bind fun bJ =>
  some (bJ,(IntKind.u16.wrap (rest))))))
def BA (N:Nat) (a:List Int) (b:Int):Option ((List Int)×Int) :=
 (if 0<=((a.length:Nat):Int)/\(2:Int) * ((a.length:Nat):Int)<=281474976710656/\((a.length:Nat):Int)<=9223372036854775807 then
 np N a b N (List.replicate a.length 0:List Int) 0 (aE (((a.length:Nat):Int) - 1))
 else none)
def du (N:Nat) (x2:Int) (n:Int):Option (Int) :=
 (if 0<=(IntKind.u8.wrap (x2))/\(IntKind.u8.wrap (x2)) < (((⟨#[0,1,2,2,3,3,3,3,4,4,4,4,4,4,4,4,5,5,5,5,5,5,5,5,5,5,5,5,5,5,5,5,6,6,6,6,6,6,6,6,6,6,6,6,6,6,6,6,6,6,6,6,6,6,6,6,6,6,6,6,6,6,6,6,7,7,7,7,7,7,7,7,7,7,7,7,7,7,7,7,7,7,7,7,7,7,7,7,7,7,7,7,7,7,7,7,7,7,7,7,7,7,7,7,7,7,7,7,7,7,7,7,7,7,7,7,7,7,7,7,7,7,7,7,7,7,7,7,8,8,8,8,8,8,8,8,8,8,8,8,8,8,8,8,8,8,8,8,8,8,8,8,8,8,8,8,8,8,8,8,8,8,8,8,8,8,8,8,8,8,8,8,8,8,8,8,8,8,8,8,8,8,8,8,8,8,8,8,8,8,8,8,8,8,8,8,8,8,8,8,8,8,8,8,8,8,8,8,8,8,8,8,8,8,8,8,8,8,8,8,8,8,8,8,8,8,8,8,8,8,8,8,8,8,8,8,8,8,8,8,8,8,8,8,8,8,8,8,8,8,8,8,8,8,8,8]⟩:ByteArray).size:Nat):Int) then
 some (aE (n+(aE ((kG (⟨#[0,1,2,2,3,3,3,3,4,4,4,4,4,4,4,4,5,5,5,5,5,5,5,5,5,5,5,5,5,5,5,5,6,6,6,6,6,6,6,6,6,6,6,6,6,6,6,6,6,6,6,6,6,6,6,6,6,6,6,6,6,6,6,6,7,7,7,7,7,7,7,7,7,7,7,7,7,7,7,7,7,7,7,7,7,7,7,7,7,7,7,7,7,7,7,7,7,7,7,7,7,7,7,7,7,7,7,7,7,7,7,7,7,7,7,7,7,7,7,7,7,7,7,7,7,7,7,7,8,8,8,8,8,8,8,8,8,8,8,8,8,8,8,8,8,8,8,8,8,8,8,8,8,8,8,8,8,8,8,8,8,8,8,8,8,8,8,8,8,8,8,8,8,8,8,8,8,8,8,8,8,8,8,8,8,8,8,8,8,8,8,8,8,8,8,8,8,8,8,8,8,8,8,8,8,8,8,8,8,8,8,8,8,8,8,8,8,8,8,8,8,8,8,8,8,8,8,8,8,8,8,8,8,8,8,8,8,8,8,8,8,8,8,8,8,8,8,8,8,8,8,8,8,8,8,8]⟩:ByteArray) ((IntKind.u8.wrap (x2)).toNat))))))
 else none)
def nr (N:Nat) (x:Int):Option (Int) :=
 (cond (decide (x>=256))
 (du N (wX .u16 x 8) 8)
 (du N x 0))
def gy (N:Nat) (x:Int):Option (Int) :=
 ((nr N x).bind fun Zb =>
 some (aE (16 - Zb)))
def kJ (N:Nat) (a:List Int) (Gz:Int):Nat->(List Int)->Int->Option ((List Int))
 | 0,_,_=>none
 | fuel+1,out,x =>
  (cond (decide (x < ((a.length:Nat):Int)))
  ((if 0<=x/\x < ((a.length:Nat):Int) then
  (if (0:Int)<=Gz then
  (if 0<=x/\x < ((out.length:Nat):Int) then
  (if 0<=(aE (x+1))/\(aE (x+1)) < (((out.set ((x).toNat) (Nj .u16 (out.getD ((x).toNat) 0) (IntKind.u16.wrap ((AF .u32 (IntKind.u32.wrap ((a.getD ((x).toNat) 0))) Gz))))).length:Nat):Int) then
  kJ N a Gz fuel ((out.set ((x).toNat) (Nj .u16 (out.getD ((x).toNat) 0) (IntKind.u16.wrap ((AF .u32 (IntKind.u32.wrap ((a.getD ((x).toNat) 0))) Gz))))).set ((aE (x+1)).toNat) (IntKind.u16.wrap ((wX .u32 (AF .u32 (IntKind.u32.wrap ((a.getD ((x).toNat) 0))) Gz) 16)))) (aE (x+1))
  else none)
  else none)
  else none)
  else none))
  (some out))
def tL (N:Nat) (a:List Int) (Gz:Int):Option ((List Int)) :=
 (if 0<=(aE (((a.length:Nat):Int)+1))/\(2:Int) * (aE (((a.length:Nat):Int)+1))<=281474976710656/\(aE (((a.length:Nat):Int)+1))<=9223372036854775807 then
 kJ N a Gz N (List.replicate ((aE (((a.length:Nat):Int)+1)).toNat) 0:List Int) 0
 else none)
def rv (N:Nat) (uo:Nat) (un:Nat) (v:List Int) (q:Int) (bC:List Int) (borrow:Int) (x:Int) (uj:(List Int)->Int->Int->Int->Option (Int×(List Int))) (x2:Int):Option (Int×(List Int)) :=
 (if 0<=x/\x < ((un:Nat):Int) then
 (if uo+un<=bC.length then
 uj (bC.set (bB uo (x).toNat) (IntKind.u16.wrap ((aE ((aE ((aE ((bC.getD (bB uo (x).toNat) 0))) - (aE ((JF .u64 x2 65535)))))+borrow))))) (wX .u64 x2 16) (wX .i64 (aE ((aE ((aE ((bC.getD (bB uo (x).toNat) 0))) - (aE ((JF .u64 x2 65535)))))+borrow)) 16) (aE (x+1))
 else none)
 else none)
def nu (N:Nat) (eb:List Int) (q2:Int):Option (Int×(List Int)) :=
 some ((IntKind.u16.wrap (q2)),eb)
def ku (N:Nat) (uo:Nat) (un:Nat) (v:List Int) (q:Int):Nat->(List Int)->Int->Int->Option (Int×(List Int))
 | 0,_,_,_=>none
 | fuel+1,dk,kK,x3 =>
  (cond (decide (x3 < ((v.length:Nat):Int)))
  ((if 0<=x3/\x3 < ((un:Nat):Int) then
  (if uo+un<=dk.length then
  (if 0<=x3/\x3 < ((v.length:Nat):Int) then
  ku N uo un v q fuel (dk.set (bB uo (x3).toNat) (IntKind.u16.wrap ((IntKind.u32.wrap (kK+(IntKind.u32.wrap ((IntKind.u32.wrap ((dk.getD (bB uo (x3).toNat) 0)))+(IntKind.u32.wrap ((v.getD ((x3).toNat) 0)))))))))) (wX .u32 (IntKind.u32.wrap (kK+(IntKind.u32.wrap ((IntKind.u32.wrap ((dk.getD (bB uo (x3).toNat) 0)))+(IntKind.u32.wrap ((v.getD ((x3).toNat) 0))))))) 16) (aE (x3+1))
  else none)
  else none)
  else none))
  ((if 0<=((v.length:Nat):Int)/\((v.length:Nat):Int) < ((un:Nat):Int) then
  (if uo+un<=dk.length then
  nu N (dk.set (bB uo v.length) (IntKind.u16.wrap ((dk.getD (bB uo v.length) 0)+(IntKind.u16.wrap (kK))))) (IntKind.u64.wrap (q - 1))
  else none)
  else none)))
def iH (N:Nat) (uo:Nat) (un:Nat) (v:List Int) (q:Int):Nat->(List Int)->Int->Int->Int->Option (Int×(List Int))
 | 0,_,_,_,_=>none
 | fuel+1,bC,carry,borrow,x =>
  (cond (decide (x < (aE (((v.length:Nat):Int)+1))))
  ((cond (decide (x < ((v.length:Nat):Int)))
  ((if 0<=x/\x < ((v.length:Nat):Int) then
  rv N uo un v q bC borrow x (iH N uo un v q fuel) (IntKind.u64.wrap (carry+(IntKind.u64.wrap (q * (IntKind.u64.wrap ((v.getD ((x).toNat) 0)))))))
  else none))
  (rv N uo un v q bC borrow x (iH N uo un v q fuel) carry)))
  ((cond (decide (borrow < 0))
  (ku N uo un v q N bC 0 0)
  (nu N bC q))))
def nv (N:Nat) (uo:Nat) (un:Nat) (v:List Int) (C0:List Int):Nat->Int->Int->Option (Int×(List Int))
 | 0,_,_=>none
 | fuel+1,q,rest =>
  (if (((decide (rest < 65536)) && ((decide (rest < 65536)) && (!(decide (q > 65535)))))=true->0<=(aE (((v.length:Nat):Int) - 2))/\(aE (((v.length:Nat):Int) - 2)) < ((v.length:Nat):Int)) then
  (if (((decide (rest < 65536)) && ((decide (rest < 65536)) && (!(decide (q > 65535)))))=true->0<=(aE (((v.length:Nat):Int) - 2))/\(aE (((v.length:Nat):Int) - 2)) < ((un:Nat):Int)) then
  (if (((decide (rest < 65536)) && ((decide (rest < 65536)) && (!(decide (q > 65535)))))=true->uo+un<=C0.length) then
  (cond (cond (decide (rest < 65536)) (cond (decide (q > 65535)) true (decide ((IntKind.u64.wrap (q * (IntKind.u64.wrap ((v.getD ((aE (((v.length:Nat):Int) - 2)).toNat) 0))))) > (Nj .u64 (AF .u64 rest 16) (IntKind.u64.wrap ((C0.getD (bB uo (aE (((v.length:Nat):Int) - 2)).toNat) 0))))))) false)
  ((if 0<=(aE (((v.length:Nat):Int) - 1))/\(aE (((v.length:Nat):Int) - 1)) < ((v.length:Nat):Int) then
  nv N uo un v C0 fuel (IntKind.u64.wrap (q - 1)) (IntKind.u64.wrap (rest+(IntKind.u64.wrap ((v.getD ((aE (((v.length:Nat):Int) - 1)).toNat) 0)))))
  else none))
  (iH N uo un v q N C0 0 0 0))
  else none)
  else none)
  else none)
def BB (N:Nat) (uo:Nat) (un:Nat) (v:List Int) (C0:List Int):Option (Int×(List Int)) :=
 (if 0<=((v.length:Nat):Int)/\((v.length:Nat):Int) < ((un:Nat):Int) then
 (if uo+un<=C0.length then
 (if 0<=(aE (((v.length:Nat):Int) - 1))/\(aE (((v.length:Nat):Int) - 1)) < ((un:Nat):Int) then
 (if 0<=(aE (((v.length:Nat):Int) - 1))/\(aE (((v.length:Nat):Int) - 1)) < ((v.length:Nat):Int) then
 (if ((IntKind.u64.wrap ((v.getD ((aE (((v.length:Nat):Int) - 1)).toNat) 0))):Int)≠0 then
 nv N uo un v C0 N (IntKind.u64.wrap ((Nj .u64 (AF .u64 (IntKind.u64.wrap ((C0.getD (bB uo v.length) 0))) 16) (IntKind.u64.wrap ((C0.getD (bB uo (aE (((v.length:Nat):Int) - 1)).toNat) 0)))).tdiv (IntKind.u64.wrap ((v.getD ((aE (((v.length:Nat):Int) - 1)).toNat) 0))))) ((Nj .u64 (AF .u64 (IntKind.u64.wrap ((C0.getD (bB uo v.length) 0))) 16) (IntKind.u64.wrap ((C0.getD (bB uo (aE (((v.length:Nat):Int) - 1)).toNat) 0)))).tmod (IntKind.u64.wrap ((v.getD ((aE (((v.length:Nat):Int) - 1)).toNat) 0))))
 else none)
 else none)
 else none)
 else none)
 else none)
def iA (N:Nat) (b:List Int) (aD:Int) (q:List Int) (u:List Int):Nat->(List Int)->Int->Option ((List Int)×(List Int))
 | 0,_,_=>none
 | fuel+1,vr,x =>
  (cond (decide (x < (((b.length - 0):Nat):Int)))
  ((if 0<=x/\x < ((u.length:Nat):Int) then
  (if 0<=(aE (x+1))/\(aE (x+1)) < ((u.length:Nat):Int) then
  (if (0:Int)<=aD then
  (if 0<=x/\x < ((vr.length:Nat):Int) then
  iA N b aD q u fuel (vr.set ((x).toNat) (IntKind.u16.wrap ((wX .u32 (Nj .u32 (IntKind.u32.wrap ((u.getD ((x).toNat) 0))) (AF .u32 (IntKind.u32.wrap ((u.getD ((aE (x+1)).toNat) 0))) 16)) aD)))) (aE (x+1))
  else none)
  else none)
  else none)
  else none))
  (((gU N q).bind fun fJ =>
  ((gU N vr).bind fun Pr =>
  some (fJ,Pr)))))
def iB (N:Nat) (b:List Int) (aD:Int) (dr:(List Int)):Nat->(List Int)->(List Int)->Int->Option ((List Int)×(List Int))
 | 0,_,_,_=>none
 | fuel+1,q,u,j =>
  (cond (decide (j>=0))
  ((if (j).toNat<=(aE ((aE (j+(((b.length - 0):Nat):Int)))+1)).toNat/\(aE ((aE (j+(((b.length - 0):Nat):Int)))+1)).toNat<=u.length then
  (if 0<=j then
  (if 0<=(aE ((aE (j+(((b.length - 0):Nat):Int)))+1)) then
  (if 0<=b.length/\b.length<=dr.length then
  ((BB N ((j).toNat) ((aE ((aE (j+(((b.length - 0):Nat):Int)))+1)).toNat - (j).toNat) ((dr.take b.length).drop 0) u).bind fun dm =>
  (if dm.2.length=u.length then
  (if 0<=j/\j < ((q.length:Nat):Int) then
  iB N b aD dr fuel (q.set ((j).toNat) dm.1) dm.2 (aE (j - 1))
  else none)
  else none))
  else none)
  else none)
  else none)
  else none))
  ((if 0<=(((b.length - 0):Nat):Int)/\(2:Int) * (((b.length - 0):Nat):Int)<=281474976710656/\(((b.length - 0):Nat):Int)<=9223372036854775807 then
  iA N b aD q u N (List.replicate (b.length - 0) 0:List Int) 0
  else none)))
def n6 (N:Nat) (a:List Int) (b:List Int):Option ((List Int)×(List Int)) :=
 ((qN N a b).bind fun jx =>
 (cond (decide (jx < 0))
 (((cT N a).bind fun qL =>
 some (([]:List Int),qL)))
 ((cond (((b.length:Nat):Int) == 1)
 ((if 0<=(0:Int)/\0 < ((b.length:Nat):Int) then
 ((BA N a (b.getD 0 0)).bind fun AG =>
 ((gU N ([AG.2]:List Int)).bind fun bJ =>
 some (AG.1,bJ)))
 else none))
 ((if 0<=(aE (((b.length:Nat):Int) - 1))/\(aE (((b.length:Nat):Int) - 1)) < ((b.length:Nat):Int) then
 ((gy N (b.getD ((aE (((b.length:Nat):Int) - 1)).toNat) 0)).bind fun aD =>
 ((tL N a aD).bind fun gp =>
 ((tL N b aD).bind fun dr =>
 (if 0<=b.length/\b.length<=dr.length then
 (if 0<=(aE (((gp.length:Nat):Int) - (((b.length - 0):Nat):Int)))/\(2:Int) * (aE (((gp.length:Nat):Int) - (((b.length - 0):Nat):Int)))<=281474976710656/\(aE (((gp.length:Nat):Int) - (((b.length - 0):Nat):Int)))<=9223372036854775807 then
 iB N b aD dr N (List.replicate ((aE (((gp.length:Nat):Int) - (((b.length - 0):Nat):Int))).toNat) 0:List Int) gp (aE ((aE (((gp.length:Nat):Int) - (((b.length - 0):Nat):Int))) - 1))
 else none)
 else none))))
 else none))))))
def js (N:Nat) (sV:(List Int)->(List Int)->Option ((List Int))):Nat->Int->Int->Option ((List Int))
 | 0,_,_=>none
 | fuel+1,x,y =>
  (cond (decide (y > 0))
  ((if (y:Int)≠0 then
  js N sV fuel y (x.tmod y)
  else none))
  (((qJ N x).bind fun qM =>
  some qM)))
def iC (N:Nat):Nat->(List Int)->(List Int)->Option ((List Int))
 | 0,_,_=>none
 | fuel+1,a2,b2 =>
  (cond (decide (((b2.length:Nat):Int) > 0))
  (((yH N a2).bind fun xF =>
  ((yH N b2).bind fun K9 =>
  (cond (cond xF.2 K9.2 false)
  (js N (iC N fuel) N xF.1 K9.1)
  (((n6 N a2 b2).bind fun kW =>
  iC N fuel b2 kW.2))))))
  (some a2))
def vn (N:Nat) (a:List Int) (b:List Int):Option ((List Int)) :=
 iC N N a b
def lg (N:Nat) (a:cX) (b:cX) (x:List Int) (y:List Int):Option (aa) :=
 ((gZ N (!(a.fG == b.fG)) x).bind fun yp =>
 ((gZ N false y).bind fun qt =>
 some (⟨yp,qt⟩:aa)))
def jy (N:Nat) (a:cX) (b:cX):Option (aa) :=
 ((gU N a.fL).bind fun bJ =>
 ((gU N b.fL).bind fun fJ =>
 ((vn N bJ fJ).bind fun mM =>
 (if ((!(((mM.length:Nat):Int) != 1))=true->0<=(0:Int)/\0 < ((mM.length:Nat):Int)) then
 (cond (cond (((mM.length:Nat):Int) != 1) true ((mM.getD 0 0) != 1))
 (((n6 N bJ mM).bind fun kW =>
 ((n6 N fJ mM).bind fun EK =>
 lg N a b kW.1 EK.1)))
 (lg N a b bJ fJ))
 else none))))
def oG (N:Nat) (a:cX):Option (aa) :=
 ((jy N a (⟨false,([1]:List Int)⟩:cX)).bind fun p6 =>
 some p6)
def fo (N:Nat) (n:Int):Option (aa) :=
 ((yG N n).bind fun Te =>
 ((oG N Te).bind fun lI =>
 some lI))
def yI (N:Nat) (a:cX):Option (Int) :=
 ((gU N a.fL).bind fun bJ =>
 (cond (((bJ.length:Nat):Int) == 0)
 (some 0)
 ((cond a.fG
 (some (-1))
 (some 1)))))
def m6 (N:Nat) (x:aa):Option (cX) :=
 ((yI N x.fD).bind fun EL =>
 (cond (EL == 0)
 (some (⟨false,([1]:List Int)⟩:cX))
 (some x.fD)))
def j9 (N:Nat) (x:aa):Option (aa) :=
 ((m6 N x).bind fun gK =>
 ((jy N x.fN gK).bind fun p6 =>
 some p6))
def xT (N:Nat) (a:cX):Option (cX) :=
 some (⟨(!a.fG),a.fL⟩:cX)
def gq (N:Nat) (x:aa):Option (aa) :=
 ((xT N x.fN).bind fun BC =>
 ((m6 N x).bind fun gK =>
 ((jy N BC gK).bind fun p6 =>
 some p6)))
def ry (N:Nat) (n:Int) (l:List aV) (aw:aa) (t:List Int) (t2:List Int) (t3:List (List aa)) (t4:List aa) (x2:Int) (row:List aa) (x3:Int) (uk:(List aa)->Int->Option (ow)) (fK:(List Int)->(List (List aa))->(List aa)->Int->Option (ow)) (c7:aa):Option (ow) :=
 ((gq N c7).bind fun bO =>
 (if 0<=x3/\x3 < ((row.length:Nat):Int) then
 (if 0<=(aE (n+x3))/\(aE (n+x3)) < ((row.length:Nat):Int) then
 uk ((row.set ((x3).toNat) bO).set ((aE (n+x3)).toNat) c7) (aE (x3+1))
 else none)
 else none))
def iI (N:Nat) (n:Int) (l:List aV) (aw:aa) (t:List Int) (t2:List Int) (t3:List (List aa)) (t4:List aa) (x2:Int) (fK:(List Int)->(List (List aa))->(List aa)->Int->Option (ow)):Nat->(List aa)->Int->Option (ow)
 | 0,_,_=>none
 | fuel+1,row,x3 =>
  (cond (decide (x3 < n))
  (((fo N 0).bind fun ly =>
  (cond (decide (x3 < ((((l.getD ((x2).toNat) aV.d).dd).length:Nat):Int)))
  ((if 0<=x3/\x3 < ((((l.getD ((x2).toNat) aV.d).dd).length:Nat):Int) then
  ((j9 N (⟨((((l.getD ((x2).toNat) aV.d).dd).getD ((x3).toNat) aa.d).fN),((((l.getD ((x2).toNat) aV.d).dd).getD ((x3).toNat) aa.d).fD)⟩:aa)).bind fun qB =>
  ry N n l aw t t2 t3 t4 x2 row x3 (iI N n l aw t t2 t3 t4 x2 fK fuel) fK qB)
  else none))
  (ry N n l aw t t2 t3 t4 x2 row x3 (iI N n l aw t t2 t3 t4 x2 fK fuel) fK ly))))
  (((fo N 1).bind fun cn =>
  (if 0<=(aE (2 * n))/\(aE (2 * n)) < ((row.length:Nat):Int) then
  (if (t3.length+1) * 24<=140737488355328 then
  ((j9 N (⟨(((l.getD ((x2).toNat) aV.d).jT).fN),(((l.getD ((x2).toNat) aV.d).jT).fD)⟩:aa)).bind fun jY =>
  (if (t4.length+1) * 64<=140737488355328 then
  fK (t2 ++ ([(aE ((aE (2 * n))+x2))]:List Int)) (t3 ++ [(row.set ((aE (2 * n)).toNat) cn)]) (t4 ++ ([jY]:List aa)) (aE (x2+1))
  else none))
  else none)
  else none))))
def nw (N:Nat) (n:Int) (l:List aV) (aw:aa) (t:List Int) (t2:List Int) (t3:List (List aa)) (t4:List aa):Nat->(List aa)->Int->Option (ow)
 | 0,_,_=>none
 | fuel+1,t5,x4 =>
  (cond (decide (x4 < (((List.replicate ((aE ((aE (2 * n))+1)).toNat) aa.d:List aa).length:Nat):Int)))
  (((fo N 0).bind fun wu =>
  (if 0<=x4/\x4 < ((t5.length:Nat):Int) then
  nw N n l aw t t2 t3 t4 fuel (t5.set ((x4).toNat) wu) (aE (x4+1))
  else none)))
  (some (⟨n,((l.length:Nat):Int),t2,(t ++ ([(aE ((aE (2 * n))+((l.length:Nat):Int)))]:List Int)),t3,t4,t5,aw,(aE ((aE (2 * n))+((l.length:Nat):Int)))⟩:ow)))
def lJ (N:Nat) (n:Int) (l:List aV) (aw:aa) (t:List Int):Nat->(List Int)->(List (List aa))->(List aa)->Int->Option (ow)
 | 0,_,_,_,_=>none
 | fuel+1,t2,t3,t4,x2 =>
  (cond (decide (x2 < ((l.length:Nat):Int)))
  ((if 0<=x2/\x2 < ((l.length:Nat):Int) then
  (if (t2.length+1) * 8<=140737488355328 then
  (if 0<=(aE ((aE (2 * n))+1))/\(64:Int) * (aE ((aE (2 * n))+1))<=281474976710656/\(aE ((aE (2 * n))+1))<=9223372036854775807 then
  iI N n l aw t t2 t3 t4 x2 (lJ N n l aw t fuel) N (List.replicate ((aE ((aE (2 * n))+1)).toNat) aa.d:List aa) 0
  else none)
  else none)
  else none))
  ((if 0<=(aE ((aE (2 * n))+1))/\(64:Int) * (aE ((aE (2 * n))+1))<=281474976710656/\(aE ((aE (2 * n))+1))<=9223372036854775807 then
  nw N n l aw t t2 t3 t4 N (List.replicate ((aE ((aE (2 * n))+1)).toNat) aa.d:List aa) 0
  else none)))
def ny (N:Nat) (n:Int) (l:List aV) (aw:aa):Nat->(List Int)->Int->Option (ow)
 | 0,_,_=>none
 | fuel+1,t,x =>
  (cond (decide (x < (aE (2 * n))))
  ((if (t.length+1) * 8<=140737488355328 then
  ny N n l aw fuel (t ++ ([x]:List Int)) (aE (x+1))
  else none))
  ((if (t.length+1) * 8<=140737488355328 then
  lJ N n l aw t N ([]:List Int) ([]:List (List aa)) ([]:List aa) 0
  else none)))
def GA (N:Nat) (n:Int) (l:List aV):Option (ow) :=
 ((fo N 0).bind fun aw =>
 ny N n l aw N ([]:List Int) 0)
def n7 (N:Nat) (x:aa):Option (Int) :=
 ((yI N x.fN).bind fun EL =>
 ((m6 N x).bind fun gK =>
 ((yI N gK).bind fun Zc =>
 some (aE (EL * Zc)))))
def g7 (N:Nat) (x:aa):Option (Bool) :=
 ((yI N x.fN).bind fun EL =>
 some (EL == 0))
def nz (N:Nat) (a:List Int) (b:List Int) (x:Int) (qO:(List Int)->Int->Option ((List Int))):Nat->(List Int)->Int->Int->Option ((List Int))
 | 0,_,_,_=>none
 | fuel+1,eY,carry,x2 =>
  (cond (decide (x2 < ((b.length:Nat):Int)))
  ((if 0<=x2/\x2 < ((b.length:Nat):Int) then
  (if 0<=(aE (x+x2))/\(aE (x+x2)) < ((eY.length:Nat):Int) then
  nz N a b x qO fuel (eY.set ((aE (x+x2)).toNat) (IntKind.u16.wrap ((IntKind.u32.wrap (carry+(IntKind.u32.wrap ((IntKind.u32.wrap ((IntKind.u32.wrap ((a.getD ((x).toNat) 0))) * (IntKind.u32.wrap ((b.getD ((x2).toNat) 0)))))+(IntKind.u32.wrap ((eY.getD ((aE (x+x2)).toNat) 0)))))))))) (wX .u32 (IntKind.u32.wrap (carry+(IntKind.u32.wrap ((IntKind.u32.wrap ((IntKind.u32.wrap ((a.getD ((x).toNat) 0))) * (IntKind.u32.wrap ((b.getD ((x2).toNat) 0)))))+(IntKind.u32.wrap ((eY.getD ((aE (x+x2)).toNat) 0))))))) 16) (aE (x2+1))
  else none)
  else none))
  ((if 0<=(aE (x+((b.length:Nat):Int)))/\(aE (x+((b.length:Nat):Int))) < ((eY.length:Nat):Int) then
  qO (eY.set ((aE (x+((b.length:Nat):Int))).toNat) (IntKind.u16.wrap (carry))) (aE (x+1))
  else none)))
def nA (N:Nat) (a:List Int) (b:List Int):Nat->(List Int)->Int->Option ((List Int))
 | 0,_,_=>none
 | fuel+1,out,x =>
  (cond (decide (x < ((a.length:Nat):Int)))
  ((if 0<=x/\x < ((a.length:Nat):Int) then
  nz N a b x (nA N a b fuel) N out 0 0
  else none))
  (((gU N out).bind fun bJ =>
  some bJ)))
def yq (N:Nat) (a:List Int) (b:List Int):Option ((List Int)) :=
 (if 0<=(aE (((a.length:Nat):Int)+((b.length:Nat):Int)))/\(2:Int) * (aE (((a.length:Nat):Int)+((b.length:Nat):Int)))<=281474976710656/\(aE (((a.length:Nat):Int)+((b.length:Nat):Int)))<=9223372036854775807 then
 nA N a b N (List.replicate ((aE (((a.length:Nat):Int)+((b.length:Nat):Int))).toNat) 0:List Int) 0
 else none)
def rz (N:Nat) (a:cX) (b:cX):Option (cX) :=
 ((gU N a.fL).bind fun bJ =>
 ((gU N b.fL).bind fun fJ =>
 ((yq N bJ fJ).bind fun qu =>
 ((gZ N (!(a.fG == b.fG)) qu).bind fun yp =>
 some yp))))
def tM (N:Nat) (a2:List Int) (b2:List Int) (out:List Int) (x:Int) (vR:(List Int)->Int->Int->Option ((List Int))) (kK:Int):Option ((List Int)) :=
 (if (out.length+1) * 2<=140737488355328 then
 vR (out ++ ([(IntKind.u16.wrap (kK))]:List Int)) (wX .u32 kK 16) (aE (x+1))
 else none)
def lW (N:Nat) (a2:List Int) (b2:List Int):Nat->(List Int)->Int->Int->Option ((List Int))
 | 0,_,_,_=>none
 | fuel+1,out,carry,x =>
  (cond (decide (x < ((a2.length:Nat):Int)))
  ((if 0<=x/\x < ((a2.length:Nat):Int) then
  (cond (decide (x < ((b2.length:Nat):Int)))
  ((if 0<=x/\x < ((b2.length:Nat):Int) then
  tM N a2 b2 out x (lW N a2 b2 fuel) (IntKind.u32.wrap ((IntKind.u32.wrap (carry+(IntKind.u32.wrap ((a2.getD ((x).toNat) 0)))))+(IntKind.u32.wrap ((b2.getD ((x).toNat) 0)))))
  else none))
  (tM N a2 b2 out x (lW N a2 b2 fuel) (IntKind.u32.wrap (carry+(IntKind.u32.wrap ((a2.getD ((x).toNat) 0)))))))
  else none))
  ((if (out.length+1) * 2<=140737488355328 then
  ((gU N (out ++ ([(IntKind.u16.wrap (carry))]:List Int))).bind fun bJ =>
  some bJ)
  else none)))
def tN (N:Nat) (a2:List Int) (b2:List Int):Option ((List Int)) :=
 (if 0<=(0:Int)/\(2:Int) * (aE (((a2.length:Nat):Int)+1))<=281474976710656/\(aE (((a2.length:Nat):Int)+1))<=9223372036854775807/\(0:Int)<=(aE (((a2.length:Nat):Int)+1)) then
 lW N a2 b2 N (List.replicate 0 0:List Int) 0 0
 else none)
def yJ (N:Nat) (a:List Int) (b:List Int):Option ((List Int)) :=
 (cond (decide (((a.length:Nat):Int) < ((b.length:Nat):Int)))
 (tN N b a)
 (tN N a b))
def rA (N:Nat) (a:List Int) (b:List Int) (out:List Int) (x:Int) (y:Int) (iE:(List Int)->Int->Int->Option ((List Int))) (nB:Int):Option ((List Int)) :=
 (if 0<=x/\x < ((out.length:Nat):Int) then
 iE (out.set ((x).toNat) (IntKind.u16.wrap ((IntKind.u32.wrap ((IntKind.u32.wrap ((IntKind.u32.wrap ((a.getD ((x).toNat) 0)))+(AF .u32 nB 16))) - y))))) nB (aE (x+1))
 else none)
def rB (N:Nat) (a:List Int) (b:List Int) (out:List Int) (x:Int) (iE:(List Int)->Int->Int->Option ((List Int))) (y:Int):Option ((List Int)) :=
 (cond (decide ((IntKind.u32.wrap ((a.getD ((x).toNat) 0))) < y))
 (rA N a b out x y iE 1)
 (rA N a b out x y iE 0))
def jz (N:Nat) (a:List Int) (b:List Int):Nat->(List Int)->Int->Int->Option ((List Int))
 | 0,_,_,_=>none
 | fuel+1,out,borrow,x =>
  (cond (decide (x < ((a.length:Nat):Int)))
  ((if 0<=x/\x < ((a.length:Nat):Int) then
  (cond (decide (x < ((b.length:Nat):Int)))
  ((if 0<=x/\x < ((b.length:Nat):Int) then
  rB N a b out x (jz N a b fuel) (IntKind.u32.wrap (borrow+(IntKind.u32.wrap ((b.getD ((x).toNat) 0)))))
  else none))
  (rB N a b out x (jz N a b fuel) borrow))
  else none))
  (((gU N out).bind fun bJ =>
  some bJ)))
def tO (N:Nat) (a:List Int) (b:List Int):Option ((List Int)) :=
 (if 0<=((a.length:Nat):Int)/\(2:Int) * ((a.length:Nat):Int)<=281474976710656/\((a.length:Nat):Int)<=9223372036854775807 then
 jz N a b N (List.replicate a.length 0:List Int) 0 0
 else none)
def CI (N:Nat) (a:cX) (b:cX):Option (cX) :=
 ((gU N a.fL).bind fun bJ =>
 ((gU N b.fL).bind fun fJ =>
 (cond (a.fG == b.fG)
 (((yJ N bJ fJ).bind fun zW =>
 ((gZ N a.fG zW).bind fun yp =>
 some yp)))
 (((qN N bJ fJ).bind fun jx =>
 (cond (decide (jx>=0))
 (((tO N bJ fJ).bind fun qP =>
 ((gZ N a.fG qP).bind fun qt =>
 some qt)))
 (((tO N fJ bJ).bind fun xU =>
 ((gZ N b.fG xU).bind fun R4 =>
 some R4)))))))))
def g8 (N:Nat) (x:aa) (y:aa):Option (aa) :=
 ((g7 N x).bind fun eI =>
 (cond eI
 (((j9 N y).bind fun qB =>
 some qB))
 (((g7 N y).bind fun um =>
 (cond um
 (((j9 N x).bind fun jY =>
 some jY))
 (((m6 N x).bind fun gK =>
 ((m6 N y).bind fun mN =>
 ((rz N x.fN mN).bind fun uq =>
 ((rz N y.fN gK).bind fun nC =>
 ((CI N uq nC).bind fun Uw =>
 ((rz N gK mN).bind fun JK =>
 ((jy N Uw JK).bind fun p6 =>
 some p6)))))))))))))
def qQ (N:Nat) (x:aa) (y:aa):Option (aa) :=
 ((gq N y).bind fun bO =>
 ((g8 N x bO).bind fun bQ =>
 some bQ))
def mn (N:Nat) (x:aa) (y:aa):Option (Int) :=
 ((qQ N x y).bind fun eJ =>
 ((n7 N eJ).bind fun bg =>
 some bg))
def qR (N:Nat) (x:aa) (y:aa):Option (aa) :=
 ((m6 N y).bind fun gK =>
 ((rz N x.fN gK).bind fun uq =>
 ((m6 N x).bind fun mN =>
 ((rz N mN y.fN).bind fun nC =>
 ((jy N uq nC).bind fun p6 =>
 some p6)))))
def fq (N:Nat) (x:aa) (y:aa):Option (aa) :=
 ((rz N x.fN y.fN).bind fun uq =>
 ((m6 N x).bind fun gK =>
 ((m6 N y).bind fun mN =>
 ((rz N gK mN).bind fun nC =>
 ((jy N uq nC).bind fun p6 =>
 some p6)))))
def mo (N:Nat) (j:Int) (f:aa) (C0:List aa) (x:Int) (nD:(List aa)->Int->Option ((List aa))) (dk:List aa):Option ((List aa)) :=
 nD dk (aE (x+1))
def iS (N:Nat) (j:Int) (f:aa) (C0:List aa):Nat->(List aa)->Int->Option ((List aa))
 | 0,_,_=>none
 | fuel+1,bC,x =>
  (cond (decide (x < ((C0.length:Nat):Int)))
  ((cond (x == j)
  ((if 0<=x/\x < ((bC.length:Nat):Int) then
  ((fq N f (⟨((bC.getD ((x).toNat) aa.d).fN),((bC.getD ((x).toNat) aa.d).fD)⟩:aa)).bind fun aY =>
  mo N j f C0 x (iS N j f C0 fuel) (bC.set ((x).toNat) aY))
  else none))
  ((if 0<=x/\x < ((bC.length:Nat):Int) then
  ((g7 N (⟨((bC.getD ((x).toNat) aa.d).fN),((bC.getD ((x).toNat) aa.d).fD)⟩:aa)).bind fun eI =>
  (cond (!eI)
  (((fq N f (⟨((bC.getD ((x).toNat) aa.d).fN),((bC.getD ((x).toNat) aa.d).fD)⟩:aa)).bind fun gr =>
  ((g8 N (⟨((bC.getD ((x).toNat) aa.d).fN),((bC.getD ((x).toNat) aa.d).fD)⟩:aa) gr).bind fun bQ =>
  mo N j f C0 x (iS N j f C0 fuel) (bC.set ((x).toNat) bQ))))
  (mo N j f C0 x (iS N j f C0 fuel) bC)))
  else none))))
  (some bC))
def wZ (N:Nat) (j:Int) (f:aa) (C0:List aa):Option ((List aa)) :=
 iS N j f C0 N C0 0
def iq (N:Nat) (j:Int) (f:aa) (C0:List aa) (C1:List aa) (x:Int) (kX:(List aa)->Int->Option ((List aa))) (dk:List aa):Option ((List aa)) :=
 kX dk (aE (x+1))
def dB (N:Nat) (j:Int) (f:aa) (C0:List aa) (C1:List aa):Nat->(List aa)->Int->Option ((List aa))
 | 0,_,_=>none
 | fuel+1,bC,x =>
  (cond (decide (x < ((C0.length:Nat):Int)))
  ((cond (x == j)
  ((if 0<=x/\x < ((C1.length:Nat):Int) then
  ((fq N f (⟨((C1.getD ((x).toNat) aa.d).fN),((C1.getD ((x).toNat) aa.d).fD)⟩:aa)).bind fun aY =>
  (if 0<=x/\x < ((bC.length:Nat):Int) then
  iq N j f C0 C1 x (dB N j f C0 C1 fuel) (bC.set ((x).toNat) aY)
  else none))
  else none))
  ((if 0<=x/\x < ((C1.length:Nat):Int) then
  ((g7 N (⟨((C1.getD ((x).toNat) aa.d).fN),((C1.getD ((x).toNat) aa.d).fD)⟩:aa)).bind fun eI =>
  (cond (!eI)
  ((if 0<=x/\x < ((bC.length:Nat):Int) then
  ((fq N f (⟨((C1.getD ((x).toNat) aa.d).fN),((C1.getD ((x).toNat) aa.d).fD)⟩:aa)).bind fun gr =>
  ((g8 N (⟨((bC.getD ((x).toNat) aa.d).fN),((bC.getD ((x).toNat) aa.d).fD)⟩:aa) gr).bind fun bQ =>
  iq N j f C0 C1 x (dB N j f C0 C1 fuel) (bC.set ((x).toNat) bQ)))
  else none))
  (iq N j f C0 C1 x (dB N j f C0 C1 fuel) bC)))
  else none))))
  (some bC))
def kb (N:Nat) (j:Int) (f:aa) (C0:List aa) (C1:List aa):Option ((List aa)) :=
 dB N j f C0 C1 N C0 0
def kL (N:Nat) (i:Int) (j:Int) (C0:Int) (bC:Int) (dk:Bool) (eb:List Int) (ek:Bool) (en:List Int) (dY:Int) (C1:List Int) (C2:List Int) (C3:List (List aa)) (C4:List aa) (C5:List aa) (x:Int) (lK:(List aa)->Int->Option (ow×(List Int)×(List Int)×(List (List aa))×(List aa)×(List aa))) (La:List aa):Option (ow×(List Int)×(List Int)×(List (List aa))×(List aa)×(List aa)) :=
 lK La (aE (x+1))
def eK (N:Nat) (i:Int) (j:Int) (C0:Int) (bC:Int) (dk:Bool) (eb:List Int) (ek:Bool) (en:List Int) (dY:Int) (C1:List Int) (C2:List Int) (C3:List (List aa)) (C5:List aa) (x2:Int) (lL:(List (List aa))->(List aa)->(List aa)->Int->Option (ow×(List Int)×(List Int)×(List (List aa))×(List aa)×(List aa))) (mP:List (List aa)) (Lb:List aa) (ur:List aa):Option (ow×(List Int)×(List Int)×(List (List aa))×(List aa)×(List aa)) :=
 lL mP Lb ur (aE (x2+1))
def iX (N:Nat) (i:Int) (j:Int) (C0:Int) (bC:Int) (dY:Int) (C1:List Int) (C2:List Int) (bR:List (List aa)) (bP:List aa) (tj:List aa) (gL:List aa) (uQ:Bool) (uR:List Int) (zE:Bool) (zF:List Int):Option (ow×(List Int)×(List Int)×(List (List aa))×(List aa)×(List aa)) :=
 (if 0<=j/\j < ((C2.length:Nat):Int) then
 (if 0<=i/\i < ((C1.length:Nat):Int) then
 some ((⟨C0,bC,(C1.set ((i).toNat) (C2.getD ((j).toNat) 0)),(C2.set ((j).toNat) (C1.getD ((i).toNat) 0)),(bR.set ((i).toNat) bP),tj,gL,(⟨(⟨uQ,uR⟩:cX),(⟨zE,zF⟩:cX)⟩:aa),dY⟩:ow),(C1.set ((i).toNat) (C2.getD ((j).toNat) 0)),(C2.set ((j).toNat) (C1.getD ((i).toNat) 0)),(bR.set ((i).toNat) bP),tj,gL)
 else none)
 else none)
def cV (N:Nat) (i:Int) (j:Int) (C0:Int) (bC:Int) (dk:Bool) (eb:List Int) (ek:Bool) (en:List Int) (dY:Int) (C1:List Int) (C2:List Int) (C3:List (List aa)) (C5:List aa):Nat->(List (List aa))->(List aa)->(List aa)->Int->Option (ow×(List Int)×(List Int)×(List (List aa))×(List aa)×(List aa))
 | 0,_,_,_,_=>none
 | fuel+1,bR,bP,tj,x2 =>
  (cond (decide (x2 < ((C3.length:Nat):Int)))
  ((cond (decide ((x2).toNat=(i).toNat))
  ((if 0<=x2/\x2 < ((bR.length:Nat):Int) then
  (if 0<=j/\j < ((bP.length:Nat):Int) then
  ((cond (x2 != i) (g7 N (⟨((bP.getD ((j).toNat) aa.d).fN),((bP.getD ((j).toNat) aa.d).fD)⟩:aa)) (some false)).bind fun eI =>
  (cond (cond (x2 != i) (!eI) false)
  ((if 0<=x2/\x2 < ((tj.length:Nat):Int) then
  (if 0<=i/\i < ((tj.length:Nat):Int) then
  ((fq N (⟨((bP.getD ((j).toNat) aa.d).fN),((bP.getD ((j).toNat) aa.d).fD)⟩:aa) (⟨((tj.getD ((i).toNat) aa.d).fN),((tj.getD ((i).toNat) aa.d).fD)⟩:aa)).bind fun aY =>
  ((g8 N (⟨((tj.getD ((x2).toNat) aa.d).fN),((tj.getD ((x2).toNat) aa.d).fD)⟩:aa) aY).bind fun bQ =>
  (cond (decide ((x2).toNat=(i).toNat))
  (((wZ N j (⟨((bP.getD ((j).toNat) aa.d).fN),((bP.getD ((j).toNat) aa.d).fD)⟩:aa) bP).bind fun Ps =>
  (if Ps.length=bP.length then
  eK N i j C0 bC dk eb ek en dY C1 C2 C3 C5 x2 (cV N i j C0 bC dk eb ek en dY C1 C2 C3 C5 fuel) bR Ps (tj.set ((x2).toNat) bQ)
  else none)))
  ((if (x2).toNat < bR.length then
  ((kb N j (⟨((bP.getD ((j).toNat) aa.d).fN),((bP.getD ((j).toNat) aa.d).fD)⟩:aa) (bR.getD ((x2).toNat) []) bP).bind fun o7 =>
  (if o7.length=(bR.getD ((x2).toNat) []).length then
  eK N i j C0 bC dk eb ek en dY C1 C2 C3 C5 x2 (cV N i j C0 bC dk eb ek en dY C1 C2 C3 C5 fuel) (bR.set ((x2).toNat) o7) bP (tj.set ((x2).toNat) bQ)
  else none))
  else none)))))
  else none)
  else none))
  (eK N i j C0 bC dk eb ek en dY C1 C2 C3 C5 x2 (cV N i j C0 bC dk eb ek en dY C1 C2 C3 C5 fuel) bR bP tj)))
  else none)
  else none))
  ((if (x2).toNat < bR.length then
  (if 0<=x2/\x2 < ((bR.length:Nat):Int) then
  (if 0<=j/\j < (((bR.getD ((x2).toNat) []).length:Nat):Int) then
  ((cond (x2 != i) (g7 N (⟨(((bR.getD ((x2).toNat) []).getD ((j).toNat) aa.d).fN),(((bR.getD ((x2).toNat) []).getD ((j).toNat) aa.d).fD)⟩:aa)) (some false)).bind fun um =>
  (cond (cond (x2 != i) (!um) false)
  ((if 0<=x2/\x2 < ((tj.length:Nat):Int) then
  (if 0<=i/\i < ((tj.length:Nat):Int) then
  ((fq N (⟨(((bR.getD ((x2).toNat) []).getD ((j).toNat) aa.d).fN),(((bR.getD ((x2).toNat) []).getD ((j).toNat) aa.d).fD)⟩:aa) (⟨((tj.getD ((i).toNat) aa.d).fN),((tj.getD ((i).toNat) aa.d).fD)⟩:aa)).bind fun gr =>
  ((g8 N (⟨((tj.getD ((x2).toNat) aa.d).fN),((tj.getD ((x2).toNat) aa.d).fD)⟩:aa) gr).bind fun lz =>
  ((kb N j (⟨(((bR.getD ((x2).toNat) []).getD ((j).toNat) aa.d).fN),(((bR.getD ((x2).toNat) []).getD ((j).toNat) aa.d).fD)⟩:aa) (bR.getD ((x2).toNat) []) bP).bind fun o8 =>
  (if o8.length=(bR.getD ((x2).toNat) []).length then
  eK N i j C0 bC dk eb ek en dY C1 C2 C3 C5 x2 (cV N i j C0 bC dk eb ek en dY C1 C2 C3 C5 fuel) (bR.set ((x2).toNat) o8) bP (tj.set ((x2).toNat) lz)
  else none))))
  else none)
  else none))
  (eK N i j C0 bC dk eb ek en dY C1 C2 C3 C5 x2 (cV N i j C0 bC dk eb ek en dY C1 C2 C3 C5 fuel) bR bP tj)))
  else none)
  else none)
  else none))))
  ((if 0<=j/\j < ((C5.length:Nat):Int) then
  ((g7 N (⟨((C5.getD ((j).toNat) aa.d).fN),((C5.getD ((j).toNat) aa.d).fD)⟩:aa)).bind fun Pt =>
  (cond (!Pt)
  ((if 0<=i/\i < ((tj.length:Nat):Int) then
  ((fq N (⟨((C5.getD ((j).toNat) aa.d).fN),((C5.getD ((j).toNat) aa.d).fD)⟩:aa) (⟨((tj.getD ((i).toNat) aa.d).fN),((tj.getD ((i).toNat) aa.d).fD)⟩:aa)).bind fun yK =>
  ((g8 N (⟨(⟨dk,eb⟩:cX),(⟨ek,en⟩:cX)⟩:aa) yK).bind fun sE =>
  ((kb N j (⟨((C5.getD ((j).toNat) aa.d).fN),((C5.getD ((j).toNat) aa.d).fD)⟩:aa) C5 bP).bind fun Tf =>
  (if Tf.length=C5.length then
  (if (i).toNat < bR.length then
  iX N i j C0 bC dY C1 C2 bR bP tj Tf sE.fN.fG sE.fN.fL sE.fD.fG sE.fD.fL
  else none)
  else none))))
  else none))
  ((if (i).toNat < bR.length then
  iX N i j C0 bC dY C1 C2 bR bP tj C5 dk eb ek en
  else none))))
  else none)))
def eM (N:Nat) (i:Int) (j:Int) (C0:Int) (bC:Int) (dk:Bool) (eb:List Int) (ek:Bool) (en:List Int) (dY:Int) (C1:List Int) (C2:List Int) (C3:List (List aa)) (C4:List aa) (C5:List aa):Nat->(List aa)->Int->Option (ow×(List Int)×(List Int)×(List (List aa))×(List aa)×(List aa))
 | 0,_,_=>none
 | fuel+1,w5,x =>
  (cond (decide (x < (((C3.getD ((i).toNat) []).length:Nat):Int)))
  ((cond (x != j)
  ((if 0<=x/\x < ((w5.length:Nat):Int) then
  ((qR N (⟨((w5.getD ((x).toNat) aa.d).fN),((w5.getD ((x).toNat) aa.d).fD)⟩:aa) (⟨(((C3.getD ((i).toNat) []).getD ((j).toNat) aa.d).fN),(((C3.getD ((i).toNat) []).getD ((j).toNat) aa.d).fD)⟩:aa)).bind fun ko =>
  ((gq N ko).bind fun bO =>
  kL N i j C0 bC dk eb ek en dY C1 C2 C3 C4 C5 x (eM N i j C0 bC dk eb ek en dY C1 C2 C3 C4 C5 fuel) (w5.set ((x).toNat) bO)))
  else none))
  (kL N i j C0 bC dk eb ek en dY C1 C2 C3 C4 C5 x (eM N i j C0 bC dk eb ek en dY C1 C2 C3 C4 C5 fuel) w5)))
  (((fo N 1).bind fun aw =>
  ((qR N aw (⟨(((C3.getD ((i).toNat) []).getD ((j).toNat) aa.d).fN),(((C3.getD ((i).toNat) []).getD ((j).toNat) aa.d).fD)⟩:aa)).bind fun mV =>
  (if 0<=j/\j < ((w5.length:Nat):Int) then
  (if 0<=i/\i < ((C4.length:Nat):Int) then
  ((qR N (⟨((C4.getD ((i).toNat) aa.d).fN),((C4.getD ((i).toNat) aa.d).fD)⟩:aa) (⟨(((C3.getD ((i).toNat) []).getD ((j).toNat) aa.d).fN),(((C3.getD ((i).toNat) []).getD ((j).toNat) aa.d).fD)⟩:aa)).bind fun Zd =>
  ((gq N Zd).bind fun qS =>
  cV N i j C0 bC dk eb ek en dY C1 C2 C3 C5 N C3 (w5.set ((j).toNat) mV) (C4.set ((i).toNat) qS) 0))
  else none)
  else none)))))
def kY (N:Nat) (i:Int) (j:Int) (C0:Int) (bC:Int) (dk:Bool) (eb:List Int) (ek:Bool) (en:List Int) (dY:Int) (C1:List Int) (C2:List Int) (C3:List (List aa)) (C4:List aa) (C5:List aa):Option (ow×(List Int)×(List Int)×(List (List aa))×(List aa)×(List aa)) :=
 (if (i).toNat < C3.length then
 (if 0<=i/\i < ((C3.length:Nat):Int) then
 (if 0<=j/\j < (((C3.getD ((i).toNat) []).length:Nat):Int) then
 eM N i j C0 bC dk eb ek en dY C1 C2 C3 C4 C5 N (C3.getD ((i).toNat) []) 0
 else none)
 else none)
 else none)
def iY (N:Nat) (C0:Int) (bC:Int) (dk:Bool) (eb:List Int) (ek:Bool) (en:List Int) (dY:Int) (C1:List Int) (C2:List Int) (C3:List (List aa)) (C4:List aa) (C5:List aa) (x:Int) (jU:Int->Int->Option (Int)) (EM:Int):Option (Int) :=
 jU EM (aE (x+1))
def b6 (N:Nat) (C0:Int) (bC:Int) (dk:Bool) (eb:List Int) (ek:Bool) (en:List Int) (dY:Int) (C1:List Int) (C2:List Int) (C3:List (List aa)) (C4:List aa) (C5:List aa):Nat->Int->Int->Option (Int)
 | 0,_,_=>none
 | fuel+1,eV,x =>
  (cond (decide (x < ((C2.length:Nat):Int)))
  ((if 0<=x/\x < ((C5.length:Nat):Int) then
  ((n7 N (⟨((C5.getD ((x).toNat) aa.d).fN),((C5.getD ((x).toNat) aa.d).fD)⟩:aa)).bind fun bg =>
  (if (((decide (bg > 0)) && ((decide (bg > 0)) && (!(decide (eV < 0)))))=true->0<=x/\x < ((C2.length:Nat):Int)) then
  (if (((decide (bg > 0)) && ((decide (bg > 0)) && (!(decide (eV < 0)))))=true->0<=eV/\eV < ((C2.length:Nat):Int)) then
  (cond (cond (decide (bg > 0)) (cond (decide (eV < 0)) true (decide ((C2.getD ((x).toNat) 0) < (C2.getD ((eV).toNat) 0)))) false)
  (iY N C0 bC dk eb ek en dY C1 C2 C3 C4 C5 x (b6 N C0 bC dk eb ek en dY C1 C2 C3 C4 C5 fuel) x)
  (iY N C0 bC dk eb ek en dY C1 C2 C3 C4 C5 x (b6 N C0 bC dk eb ek en dY C1 C2 C3 C4 C5 fuel) eV))
  else none)
  else none))
  else none))
  (some eV))
def nF (N:Nat) (C0:Int) (bC:Int) (dk:Bool) (eb:List Int) (ek:Bool) (en:List Int) (dY:Int) (C1:List Int) (C2:List Int) (C3:List (List aa)) (C4:List aa) (C5:List aa):Option (Int) :=
 b6 N C0 bC dk eb ek en dY C1 C2 C3 C4 C5 N (-1) 0
def fC (N:Nat) (j:Int) (C0:Int) (bC:Int) (dk:Bool) (eb:List Int) (ek:Bool) (en:List Int) (dY:Int) (C1:List Int) (C2:List Int) (C3:List (List aa)) (C4:List aa) (C5:List aa) (x:Int) (cJ:Int->aa->Int->Option (Int)) (EM:Int) (Pu:aa):Option (Int) :=
 cJ EM Pu (aE (x+1))
def gM (N:Nat) (j:Int) (C0:Int) (bC:Int) (dk:Bool) (eb:List Int) (ek:Bool) (en:List Int) (dY:Int) (C1:List Int) (C2:List Int) (C3:List (List aa)) (C4:List aa) (C5:List aa) (eV:Int) (least:aa) (x:Int) (ko:aa) (cJ:Int->aa->Int->Option (Int)) (c7:Int):Option (Int) :=
 (if (((!(decide (c7 < 0))) && ((!(decide (c7 < 0))) && (c7 == 0)))=true->0<=x/\x < ((C1.length:Nat):Int)) then
 (if (((!(decide (c7 < 0))) && ((!(decide (c7 < 0))) && (c7 == 0)))=true->0<=eV/\eV < ((C1.length:Nat):Int)) then
 (cond (cond (decide (c7 < 0)) true (cond (c7 == 0) (decide ((C1.getD ((x).toNat) 0) < (C1.getD ((eV).toNat) 0))) false))
 (fC N j C0 bC dk eb ek en dY C1 C2 C3 C4 C5 x cJ x ko)
 (fC N j C0 bC dk eb ek en dY C1 C2 C3 C4 C5 x cJ eV least))
 else none)
 else none)
def cj (N:Nat) (j:Int) (C0:Int) (bC:Int) (dk:Bool) (eb:List Int) (ek:Bool) (en:List Int) (dY:Int) (C1:List Int) (C2:List Int) (C3:List (List aa)) (C4:List aa) (C5:List aa):Nat->Int->aa->Int->Option (Int)
 | 0,_,_,_=>none
 | fuel+1,eV,least,x =>
  (cond (decide (x < ((C1.length:Nat):Int)))
  ((if (x).toNat < C3.length then
  (if 0<=x/\x < ((C3.length:Nat):Int) then
  (if 0<=j/\j < (((C3.getD ((x).toNat) []).length:Nat):Int) then
  ((n7 N (⟨(((C3.getD ((x).toNat) []).getD ((j).toNat) aa.d).fN),(((C3.getD ((x).toNat) []).getD ((j).toNat) aa.d).fD)⟩:aa)).bind fun bg =>
  (cond (decide (bg>=0))
  (fC N j C0 bC dk eb ek en dY C1 C2 C3 C4 C5 x (cj N j C0 bC dk eb ek en dY C1 C2 C3 C4 C5 fuel) eV least)
  ((if 0<=x/\x < ((C4.length:Nat):Int) then
  ((gq N (⟨(((C3.getD ((x).toNat) []).getD ((j).toNat) aa.d).fN),(((C3.getD ((x).toNat) []).getD ((j).toNat) aa.d).fD)⟩:aa)).bind fun bO =>
  ((qR N (⟨((C4.getD ((x).toNat) aa.d).fN),((C4.getD ((x).toNat) aa.d).fD)⟩:aa) bO).bind fun ko =>
  (cond (decide (eV>=0))
  (((mn N ko least).bind fun pA =>
  gM N j C0 bC dk eb ek en dY C1 C2 C3 C4 C5 eV least x ko (cj N j C0 bC dk eb ek en dY C1 C2 C3 C4 C5 fuel) pA))
  (gM N j C0 bC dk eb ek en dY C1 C2 C3 C4 C5 eV least x ko (cj N j C0 bC dk eb ek en dY C1 C2 C3 C4 C5 fuel) (-1)))))
  else none))))
  else none)
  else none)
  else none))
  (some eV))
def oy (N:Nat) (j:Int) (C0:Int) (bC:Int) (dk:Bool) (eb:List Int) (ek:Bool) (en:List Int) (dY:Int) (C1:List Int) (C2:List Int) (C3:List (List aa)) (C4:List aa) (C5:List aa):Option (Int) :=
 cj N j C0 bC dk eb ek en dY C1 C2 C3 C4 C5 N (-1) (⟨(⟨false,([]:List Int)⟩:cX),(⟨false,([]:List Int)⟩:cX)⟩:aa) 0
def eN (N:Nat):Nat->Int->Int->(List Int)->(List Int)->(List (List aa))->(List aa)->(List aa)->Bool->(List Int)->Bool->(List Int)->Int->Option (Int×ow×(List Int)×(List Int)×(List (List aa))×(List aa)×(List aa))
 | 0,_,_,_,_,_,_,_,_,_,_,_,_=>none
 | fuel+1,bR,tj,mP,ur,gL,uQ,uR,zE,zF,G0,G1,EN =>
  ((nF N bR tj zE zF G0 G1 EN mP ur gL uQ uR).bind fun yr =>
  (cond (decide (yr < 0))
  (some ((-1),(⟨bR,tj,mP,ur,gL,uQ,uR,(⟨(⟨zE,zF⟩:cX),(⟨G0,G1⟩:cX)⟩:aa),EN⟩:ow),mP,ur,gL,uQ,uR))
  (((oy N yr bR tj zE zF G0 G1 EN mP ur gL uQ uR).bind fun JL =>
  (cond (decide (JL < 0))
  (some (yr,(⟨bR,tj,mP,ur,gL,uQ,uR,(⟨(⟨zE,zF⟩:cX),(⟨G0,G1⟩:cX)⟩:aa),EN⟩:ow),mP,ur,gL,uQ,uR))
  (((kY N JL yr bR tj zE zF G0 G1 EN mP ur gL uQ uR).bind fun bE =>
  (if bE.2.1.length=mP.length then
  (if bE.2.2.1.length=ur.length then
  (if bE.2.2.2.1.length=gL.length then
  (if bE.2.2.2.2.1.length=uQ.length then
  (if bE.2.2.2.2.2.length=uR.length then
  eN N fuel bE.1.D2 bE.1.D3 bE.2.1 bE.2.2.1 bE.2.2.2.1 bE.2.2.2.2.1 bE.2.2.2.2.2 bE.1.aJ.fN.fG bE.1.aJ.fN.fL bE.1.aJ.fD.fG bE.1.aJ.fD.fL bE.1.di
  else none)
  else none)
  else none)
  else none)
  else none))))))))
def uu (N:Nat) (C0:Int) (bC:Int) (dk:Bool) (eb:List Int) (ek:Bool) (en:List Int) (dY:Int) (C1:List Int) (C2:List Int) (C3:List (List aa)) (C4:List aa) (C5:List aa):Option (Int×ow×(List Int)×(List Int)×(List (List aa))×(List aa)×(List aa)) :=
 eN N N C0 bC C1 C2 C3 C4 C5 dk eb ek en dY
def df (N:Nat) (s:List Int) (v:Int):Nat->Int->Option (Int)
 | 0,_=>none
 | fuel+1,x =>
  (cond (decide (x < ((s.length:Nat):Int)))
  ((if 0<=x/\x < ((s.length:Nat):Int) then
  (cond (v == (s.getD ((x).toNat) 0))
  (some x)
  (df N s v fuel (aE (x+1))))
  else none))
  (some (-1)))
def fE (N:Nat) (s:List Int) (v:Int):Option (Int) :=
 df N s v N 0
def nG (N:Nat) (x:aa):Option (Bool) :=
 ((g7 N x).bind fun eI =>
 some (!eI))
def dg (N:Nat) (s:List aa):Nat->Int->Option (Int)
 | 0,_=>none
 | fuel+1,x =>
  (cond (decide (x < ((s.length:Nat):Int)))
  ((if 0<=x/\x < ((s.length:Nat):Int) then
  ((nG N (⟨((s.getD ((x).toNat) aa.d).fN),((s.getD ((x).toNat) aa.d).fD)⟩:aa)).bind fun Pv =>
  (cond Pv
  (some x)
  (dg N s fuel (aE (x+1)))))
  else none))
  (some (-1)))
def lM (N:Nat) (s:List aa):Option (Int) :=
 dg N s N 0
def kZ (N:Nat) (i:Int) (j:Int) (C0:List Int):Option ((List Int)×(List Int)) :=
 (if 0<=i/\i<=j/\j<=((C0.length:Nat):Int)/\((C0.length:Nat):Int)<=((C0.length:Nat):Int) then
 (cond (i == j)
 (some (C0,C0))
 ((if 0<=(i).toNat/\(i).toNat<=C0.length then
 (if 0<=i then
 (if (j).toNat<=C0.length/\C0.length<=C0.length then
 (if 0<=j then
 (if (i).toNat<=(j).toNat/\(j).toNat<=C0.length then
 (if 0 < C0.length then
 (if (((i).toNat - 0)+(C0.length - (j).toNat))<=C0.length/\0+C0.length<=(ub C0 ((i).toNat) ((j).toNat)).length then
 (if 0 < (C0.length - (((i).toNat - 0)+(C0.length - (j).toNat)))/\(((i).toNat - 0)+(C0.length - (j).toNat))+(C0.length - (((i).toNat - 0)+(C0.length - (j).toNat)))<=(ub C0 ((i).toNat) ((j).toNat)).length then
 some (((ub C0 ((i).toNat) ((j).toNat)).take (((i).toNat - 0)+(C0.length - (j).toNat))),((ub C0 ((i).toNat) ((j).toNat)).take (((i).toNat - 0)+(C0.length - (j).toNat))))
 else none)
 else none)
 else none)
 else none)
 else none)
 else none)
 else none)
 else none)))
 else none)
def oz (N:Nat) (i:Int) (j:Int) (C0:List aa):Option ((List aa)×(List aa)) :=
 (if 0<=i/\i<=j/\j<=((C0.length:Nat):Int)/\((C0.length:Nat):Int)<=((C0.length:Nat):Int) then
 (cond (i == j)
 (some (C0,C0))
 ((if 0<=(i).toNat/\(i).toNat<=C0.length then
 (if 0<=i then
 (if (j).toNat<=C0.length/\C0.length<=C0.length then
 (if 0<=j then
 (if (i).toNat<=(j).toNat/\(j).toNat<=C0.length then
 (if 0 < C0.length then
 (if (((i).toNat - 0)+(C0.length - (j).toNat))<=C0.length/\0+C0.length<=(ub C0 ((i).toNat) ((j).toNat)).length then
 (if 0 < (C0.length - (((i).toNat - 0)+(C0.length - (j).toNat)))/\(((i).toNat - 0)+(C0.length - (j).toNat))+(C0.length - (((i).toNat - 0)+(C0.length - (j).toNat)))<=(ub C0 ((i).toNat) ((j).toNat)).length then
 some (((ub C0 ((i).toNat) ((j).toNat)).take (((i).toNat - 0)+(C0.length - (j).toNat))),((ub C0 ((i).toNat) ((j).toNat)).take (((i).toNat - 0)+(C0.length - (j).toNat))))
 else none)
 else none)
 else none)
 else none)
 else none)
 else none)
 else none)
 else none)))
 else none)
def jZ (N:Nat) (C0:Int) (bC:Int) (dk:Bool) (eb:List Int) (ek:Bool) (en:List Int) (dY:Int) (C1:List Int) (C2:List Int) (C3:List (List aa)) (C4:List aa) (C5:List aa) (x:Int) (k6:Int->Int->Option (Bool×ow×(List Int)×(List Int)×(List (List aa))×(List aa))) (afN:Int):Option (Bool×ow×(List Int)×(List Int)×(List (List aa))×(List aa)) :=
 k6 afN (aE (x+1))
def fg (N:Nat) (AH:Int) (AI:Int) (w6:List Int) (w7:List aa) (BD:Bool) (BE:List Int) (BF:Bool) (BG:List Int) (zG:Int) (dU:(List Int)×(List Int)) (nH:List (List aa)):Nat->(List aa)->Int->Option (Bool×ow×(List Int)×(List Int)×(List (List aa))×(List aa))
 | 0,_,_=>none
 | fuel+1,Lc,x3 =>
  (cond (decide (x3 < (((List.replicate dU.2.length aa.d:List aa).length:Nat):Int)))
  (((fo N 0).bind fun ly =>
  (if 0<=x3/\x3 < ((Lc.length:Nat):Int) then
  fg N AH AI w6 w7 BD BE BF BG zG dU nH fuel (Lc.set ((x3).toNat) ly) (aE (x3+1))
  else none)))
  (((fo N 0).bind fun cn =>
  some (true,(⟨AH,AI,w6,dU.2,nH,w7,Lc,cn,zG⟩:ow),w6,dU.2,nH,w7))))
def fh (N:Nat) (AH:Int) (AI:Int) (w6:List Int) (H2:List (List aa)) (w7:List aa) (JM:List aa) (BD:Bool) (BE:List Int) (BF:Bool) (BG:List Int) (zG:Int) (qC:Int) (dU:(List Int)×(List Int)):Nat->(List (List aa))->Int->Option (Bool×ow×(List Int)×(List Int)×(List (List aa))×(List aa))
 | 0,_,_=>none
 | fuel+1,nH,x2 =>
  (cond (decide (x2 < ((H2.length:Nat):Int)))
  ((if (x2).toNat < nH.length then
  (if 0<=x2/\x2 < ((nH.length:Nat):Int) then
  ((oz N qC (aE (qC+1)) (nH.getD ((x2).toNat) [])).bind fun uv =>
  fh N AH AI w6 H2 w7 JM BD BE BF BG zG qC dU fuel (nH.set ((x2).toNat) uv.2) (aE (x2+1)))
  else none)
  else none))
  ((if 0<=((dU.2.length:Nat):Int)/\(64:Int) * ((dU.2.length:Nat):Int)<=281474976710656/\((dU.2.length:Nat):Int)<=9223372036854775807 then
  fg N AH AI w6 w7 BD BE BF BG zG dU nH N (List.replicate dU.2.length aa.d:List aa) 0
  else none)))
def j3 (N:Nat) (AH:Int) (AI:Int) (w6:List Int) (Xl:List Int) (H2:List (List aa)) (w7:List aa) (JM:List aa) (BD:Bool) (BE:List Int) (BF:Bool) (BG:List Int) (zG:Int):Option (Bool×ow×(List Int)×(List Int)×(List (List aa))×(List aa)) :=
 ((fE N Xl zG).bind fun qC =>
 ((kZ N qC (aE (qC+1)) Xl).bind fun dU =>
 fh N AH AI w6 H2 w7 JM BD BE BF BG zG qC dU N H2 0))
def iu (N:Nat) (bR:Int) (tj:Int) (mP:List Int) (ur:List Int) (gL:List (List aa)) (uQ:List aa) (uR:List aa) (zE:Bool) (zF:List Int) (G0:Bool) (G1:List Int) (EN:Int):Option (Bool×ow×(List Int)×(List Int)×(List (List aa))×(List aa)) :=
 ((fE N mP EN).bind fun eu =>
 (cond (decide (eu>=0))
 ((if (eu).toNat < gL.length then
 (if 0<=eu/\eu < ((gL.length:Nat):Int) then
 ((lM N (gL.getD ((eu).toNat) [])).bind fun Pw =>
 ((kY N eu Pw bR tj zE zF G0 G1 EN mP ur gL uQ uR).bind fun eO =>
 (if eO.2.1.length=mP.length then
 (if eO.2.2.1.length=ur.length then
 (if eO.2.2.2.1.length=gL.length then
 (if eO.2.2.2.2.1.length=uQ.length then
 (if eO.2.2.2.2.2.length=uR.length then
 j3 N eO.1.D2 eO.1.D3 eO.2.1 eO.2.2.1 eO.2.2.2.1 eO.2.2.2.2.1 eO.2.2.2.2.2 eO.1.aJ.fN.fG eO.1.aJ.fN.fL eO.1.aJ.fD.fG eO.1.aJ.fD.fL eO.1.di
 else none)
 else none)
 else none)
 else none)
 else none)))
 else none)
 else none))
 (j3 N bR tj mP ur gL uQ uR zE zF G0 G1 EN)))
def bG (N:Nat) (C0:Int) (bC:Int) (dk:Bool) (eb:List Int) (ek:Bool) (en:List Int) (dY:Int) (C1:List Int) (C2:List Int) (C3:List (List aa)) (C4:List aa) (C5:List aa):Nat->Int->Int->Option (Bool×ow×(List Int)×(List Int)×(List (List aa))×(List aa))
 | 0,_,_=>none
 | fuel+1,low,x =>
  (cond (decide (x < ((C4.length:Nat):Int)))
  ((if 0<=x/\x < ((C4.length:Nat):Int) then
  ((n7 N (⟨((C4.getD ((x).toNat) aa.d).fN),((C4.getD ((x).toNat) aa.d).fD)⟩:aa)).bind fun bg =>
  (if (((decide (bg < 0)) && ((decide (bg < 0)) && (!(decide (low < 0)))))=true->0<=x/\x < ((C4.length:Nat):Int)) then
  (if (((decide (bg < 0)) && ((decide (bg < 0)) && (!(decide (low < 0)))))=true->0<=low/\low < ((C4.length:Nat):Int)) then
  ((cond ((decide (bg < 0)) && ((decide (bg < 0)) && (!(decide (low < 0))))) (mn N (⟨((C4.getD ((x).toNat) aa.d).fN),((C4.getD ((x).toNat) aa.d).fD)⟩:aa) (⟨((C4.getD ((low).toNat) aa.d).fN),((C4.getD ((low).toNat) aa.d).fD)⟩:aa)) (some 0)).bind fun pA =>
  (cond (cond (decide (bg < 0)) (cond (decide (low < 0)) true (decide (pA < 0))) false)
  (jZ N C0 bC dk eb ek en dY C1 C2 C3 C4 C5 x (bG N C0 bC dk eb ek en dY C1 C2 C3 C4 C5 fuel) x)
  (jZ N C0 bC dk eb ek en dY C1 C2 C3 C4 C5 x (bG N C0 bC dk eb ek en dY C1 C2 C3 C4 C5 fuel) low)))
  else none)
  else none))
  else none))
  ((cond (decide (low>=0))
  (((fo N (-1)).bind fun aw =>
  (if 0<=(aE (((C2.length:Nat):Int) - 1))/\(aE (((C2.length:Nat):Int) - 1)) < ((C5.length:Nat):Int) then
  ((kY N low (aE (((C2.length:Nat):Int) - 1)) C0 bC dk eb ek en dY C1 C2 C3 C4 (C5.set ((aE (((C2.length:Nat):Int) - 1)).toNat) aw)).bind fun bE =>
  (if bE.2.1.length=C1.length then
  (if bE.2.2.1.length=C2.length then
  (if bE.2.2.2.1.length=C3.length then
  (if bE.2.2.2.2.1.length=C4.length then
  (if bE.2.2.2.2.2.length=(C5.set ((aE (((C2.length:Nat):Int) - 1)).toNat) aw).length then
  ((uu N bE.1.D2 bE.1.D3 bE.1.aJ.fN.fG bE.1.aJ.fN.fL bE.1.aJ.fD.fG bE.1.aJ.fD.fL bE.1.di bE.2.1 bE.2.2.1 bE.2.2.2.1 bE.2.2.2.2.1 bE.2.2.2.2.2).bind fun dG =>
  (if dG.2.2.1.length=bE.2.1.length then
  (if dG.2.2.2.1.length=bE.2.2.1.length then
  (if dG.2.2.2.2.1.length=bE.2.2.2.1.length then
  (if dG.2.2.2.2.2.1.length=bE.2.2.2.2.1.length then
  (if dG.2.2.2.2.2.2.length=bE.2.2.2.2.2.length then
  ((g7 N dG.2.1.aJ).bind fun eI =>
  (cond (!eI)
  (some (false,(⟨dG.2.1.D2,dG.2.1.D3,dG.2.2.1,dG.2.2.2.1,dG.2.2.2.2.1,dG.2.2.2.2.2.1,dG.2.2.2.2.2.2,dG.2.1.aJ,dG.2.1.di⟩:ow),dG.2.2.1,dG.2.2.2.1,dG.2.2.2.2.1,dG.2.2.2.2.2.1))
  (iu N dG.2.1.D2 dG.2.1.D3 dG.2.2.1 dG.2.2.2.1 dG.2.2.2.2.1 dG.2.2.2.2.2.1 dG.2.2.2.2.2.2 dG.2.1.aJ.fN.fG dG.2.1.aJ.fN.fL dG.2.1.aJ.fD.fG dG.2.1.aJ.fD.fL dG.2.1.di)))
  else none)
  else none)
  else none)
  else none)
  else none))
  else none)
  else none)
  else none)
  else none)
  else none))
  else none)))
  (iu N C0 bC C1 C2 C3 C4 C5 dk eb ek en dY))))
def pB (N:Nat) (C0:Int) (bC:Int) (dk:Bool) (eb:List Int) (ek:Bool) (en:List Int) (dY:Int) (C1:List Int) (C2:List Int) (C3:List (List aa)) (C4:List aa) (C5:List aa):Option (Bool×ow×(List Int)×(List Int)×(List (List aa))×(List aa)) :=
 bG N C0 bC dk eb ek en dY C1 C2 C3 C4 C5 N (-1) 0
def gA (N:Nat) (C0:Int) (bC:Int) (dk:Bool) (eb:List Int) (ek:Bool) (en:List Int) (dY:Int) (C1:List Int) (C2:List Int) (C3:List (List aa)) (C4:List aa) (C5:List aa) (x:Int) (iJ:(List aa)->Int->Option ((List aa))) (eY:List aa):Option ((List aa)) :=
 iJ eY (aE (x+1))
def b9 (N:Nat) (C0:Int) (bC:Int) (dk:Bool) (eb:List Int) (ek:Bool) (en:List Int) (dY:Int) (C1:List Int) (C2:List Int) (C3:List (List aa)) (C4:List aa) (C5:List aa):Nat->(List aa)->Int->Option ((List aa))
 | 0,_,_=>none
 | fuel+1,out,x =>
  (cond (decide (x < (((List.replicate ((bC).toNat) aa.d:List aa).length:Nat):Int)))
  (((fo N 0).bind fun aw =>
  (if 0<=x/\x < ((out.length:Nat):Int) then
  ((fE N C2 (aE ((aE (2 * C0))+x))).bind fun eu =>
  (cond (decide (eu>=0))
  ((if 0<=eu/\eu < ((C5.length:Nat):Int) then
  ((gq N (⟨((C5.getD ((eu).toNat) aa.d).fN),((C5.getD ((eu).toNat) aa.d).fD)⟩:aa)).bind fun bO =>
  (if 0<=x/\x < (((out.set ((x).toNat) aw).length:Nat):Int) then
  gA N C0 bC dk eb ek en dY C1 C2 C3 C4 C5 x (b9 N C0 bC dk eb ek en dY C1 C2 C3 C4 C5 fuel) ((out.set ((x).toNat) aw).set ((x).toNat) bO)
  else none))
  else none))
  (gA N C0 bC dk eb ek en dY C1 C2 C3 C4 C5 x (b9 N C0 bC dk eb ek en dY C1 C2 C3 C4 C5 fuel) (out.set ((x).toNat) aw))))
  else none)))
  (some out))
def k7 (N:Nat) (C0:Int) (bC:Int) (dk:Bool) (eb:List Int) (ek:Bool) (en:List Int) (dY:Int) (C1:List Int) (C2:List Int) (C3:List (List aa)) (C4:List aa) (C5:List aa):Option ((List aa)) :=
 (if 0<=bC/\(64:Int) * bC<=281474976710656/\bC<=9223372036854775807 then
 b9 N C0 bC dk eb ek en dY C1 C2 C3 C4 C5 N (List.replicate ((bC).toNat) aa.d:List aa) 0
 else none)
def qT (N:Nat) (GB:Int) (C0:Int) (bC:Int) (dk:Bool) (eb:List Int) (ek:Bool) (en:List Int) (dY:Int) (C1:List Int) (C2:List Int) (C3:List (List aa)) (C4:List aa) (C5:List aa):Option (aa) :=
 ((fE N C1 GB).bind fun eu =>
 (cond (decide (eu>=0))
 ((if 0<=eu/\eu < ((C4.length:Nat):Int) then
 some (⟨((C4.getD ((eu).toNat) aa.d).fN),((C4.getD ((eu).toNat) aa.d).fD)⟩:aa)
 else none))
 (((fo N 0).bind fun aw =>
 some aw))))
def fB (N:Nat) (C0:Int) (bC:Int) (dk:Bool) (eb:List Int) (ek:Bool) (en:List Int) (dY:Int) (C1:List Int) (C2:List Int) (C3:List (List aa)) (C4:List aa) (C5:List aa):Nat->(List aa)->Int->Option ((List aa))
 | 0,_,_=>none
 | fuel+1,out,x =>
  (cond (decide (x < (((List.replicate ((C0).toNat) aa.d:List aa).length:Nat):Int)))
  (((qT N x C0 bC dk eb ek en dY C1 C2 C3 C4 C5).bind fun rat =>
  ((qT N (aE (C0+x)) C0 bC dk eb ek en dY C1 C2 C3 C4 C5).bind fun amR =>
  ((qQ N rat amR).bind fun eJ =>
  (if 0<=x/\x < ((out.length:Nat):Int) then
  fB N C0 bC dk eb ek en dY C1 C2 C3 C4 C5 fuel (out.set ((x).toNat) eJ) (aE (x+1))
  else none)))))
  (some out))
def qD (N:Nat) (C0:Int) (bC:Int) (dk:Bool) (eb:List Int) (ek:Bool) (en:List Int) (dY:Int) (C1:List Int) (C2:List Int) (C3:List (List aa)) (C4:List aa) (C5:List aa):Option ((List aa)) :=
 (if 0<=C0/\(64:Int) * C0<=281474976710656/\C0<=9223372036854775807 then
 fB N C0 bC dk eb ek en dY C1 C2 C3 C4 C5 N (List.replicate ((C0).toNat) aa.d:List aa) 0
 else none)
def uw (N:Nat) (n:Int) (l:List aV):Option ((List aa)×(List aa)×Int) :=
 ((nZ N n l).bind fun jA =>
 (cond (jA != 0)
 (some (([]:List aa),([]:List aa),jA))
 (((GA N n l).bind fun g9 =>
 ((pB N g9.D2 g9.D3 g9.aJ.fN.fG g9.aJ.fN.fL g9.aJ.fD.fG g9.aJ.fD.fL g9.di g9.Gy g9.Pq g9.f_a g9.Tb g9.rU).bind fun cz =>
 (if cz.2.2.1.length=g9.Gy.length then
 (if cz.2.2.2.2.1.length=g9.f_a.length then
 (if cz.2.2.2.2.2.length=g9.Tb.length then
 (cond (!cz.1)
 (((k7 N cz.2.1.D2 cz.2.1.D3 cz.2.1.aJ.fN.fG cz.2.1.aJ.fN.fL cz.2.1.aJ.fD.fG cz.2.1.aJ.fD.fL cz.2.1.di cz.2.2.1 cz.2.2.2.1 cz.2.2.2.2.1 cz.2.2.2.2.2 cz.2.1.rU).bind fun nI =>
 some (([]:List aa),nI,29)))
 (((qD N cz.2.1.D2 cz.2.1.D3 cz.2.1.aJ.fN.fG cz.2.1.aJ.fN.fL cz.2.1.aJ.fD.fG cz.2.1.aJ.fD.fL cz.2.1.di cz.2.2.1 cz.2.2.2.1 cz.2.2.2.2.1 cz.2.2.2.2.2 cz.2.1.rU).bind fun EO =>
 some (EO,([]:List aa),0))))
 else none)
 else none)
 else none))))))
def bK (N:Nat) (n:Int) (low:Int) (high:Int):Option (Bool) :=
 some (cond (decide (n>=low)) (decide (n<=high)) false)
def kc (N:Nat) (x:Int) (y:Int):Option (Bool) :=
 ((bK N x (-1000000) 1000000).bind fun m7 =>
 ((cond m7 (bK N y (-1000000) 1000000) (some false)).bind fun j4 =>
 some (cond m7 j4 false)))
def pC (N:Nat) (i:Int) (C0:cQ):Option (ByteArray) :=
 (if 0<=i/\i < ((C0.dh.length:Nat):Int) then
 some ((C0.dh.getD ((i).toNat) cL.d).jo)
 else none)
def lX (N:Nat) (s:ByteArray):Nat->Int->Option (Bool)
 | 0,_=>none
 | fuel+1,x =>
  (cond (decide (x < ((s.size:Nat):Int)))
  ((if 0<=x/\x < (((rT s).length:Nat):Int) then
  (cond (cond (!(cond (cond (decide ((zB s x)>=97)) (decide ((zB s x)<=122)) false) true (cond (decide ((zB s x)>=65)) (decide ((zB s x)<=90)) false))) (cond (x == 0) true (cond ((zB s x) != 45) (cond (decide ((zB s x) < 48)) true (decide ((zB s x) > 57))) false)) false)
  (some false)
  (lX N s fuel (aE (x+1))))
  else none))
  (some true))
def vo (N:Nat) (s:ByteArray):Option (Bool) :=
 ((bK N ((s.size:Nat):Int) 1 12).bind fun m7 =>
 (cond (!m7)
 (some false)
 (lX N s N 0)))
def mq (N:Nat) (i:Int) (C0:cQ):Option (Int) :=
 (if 0<=i/\i < ((C0.dh.length:Nat):Int) then
 ((kc N ((C0.dh.getD ((i).toNat) cL.d).zD) ((C0.dh.getD ((i).toNat) cL.d).D4)).bind fun vS =>
 ((cond (!(!vS)) (bK N ((C0.dh.getD ((i).toNat) cL.d).cu) 0 12) (some false)).bind fun m7 =>
 ((cond (!(cond (!vS) true (!m7))) (bK N ((C0.dh.getD ((i).toNat) cL.d).wU) 0 1000000000) (some false)).bind fun j4 =>
 (cond (cond (cond (!vS) true (!m7)) true (!j4))
 (some 2)
 (some 0)))))
 else none)
def ij (N:Nat) (n:Int) (C0:cQ):Nat->(List (ByteArray×Bool))->Int->Option (Int)
 | 0,_,_=>none
 | fuel+1,names,x =>
  (cond (decide (x < n))
  (((pC N x C0).bind fun vS =>
  ((vo N vS).bind fun CJ =>
  (cond (!CJ)
  (some 4)
  ((cond ((ld iP names vS).getD false)
  (some 5)
  (((mq N x C0).bind fun ake =>
  (cond (ake != 0)
  (some ake)
  (ij N n C0 fuel (CH iP names vS true) (aE (x+1))))))))))))
  (some 0))
def qU (N:Nat) (n:Int) (p7:Int) (C0:cQ):Option (Int) :=
 (cond (decide (n > p7))
 (some 8)
 (ij N n C0 N ([]:List (ByteArray×Bool)) 0))
def fk (N:Nat) (p:cQ):Nat->Int->Option (Int)
 | 0,_=>none
 | fuel+1,x =>
  (cond (decide (x < ((p.pZ.length:Nat):Int)))
  ((if 0<=x/\x < ((p.pZ.length:Nat):Int) then
  ((kc N ((p.pZ.getD ((x).toNat) fy.d).zD) ((p.pZ.getD ((x).toNat) fy.d).D4)).bind fun vS =>
  ((cond (!(!vS)) (bK N ((p.pZ.getD ((x).toNat) fy.d).wU) 0 1000000000) (some false)).bind fun G2 =>
  (cond (cond (!vS) true (!G2))
  (some 2)
  (fk N p fuel (aE (x+1))))))
  else none))
  (((qU N ((p.dh.length:Nat):Int) 6 p).bind fun EP =>
  some EP)))
def ke (N:Nat) (p:cQ):Option (Int) :=
 ((bK N p.oE 1 1000000).bind fun m7 =>
 ((cond (!(!m7)) (bK N p.sD 1 1000000) (some false)).bind fun j4 =>
 ((cond (!(cond (!m7) true (!j4))) (bK N p.er 900 1100) (some false)).bind fun w8 =>
 (cond (cond (cond (!m7) true (!j4)) true (!w8))
 (some 2)
 ((cond (decide (((p.pZ.length:Nat):Int) > 20))
 (some 8)
 (fk N p N 0)))))))
def ik (N:Nat) (p:cQ) (steps:List Int):Nat->ab->Int->Option (ab×Int)
 | 0,_,_=>none
 | fuel+1,out,x =>
  (cond (decide (x < ((steps.length:Nat):Int)))
  ((if 0<=x/\x < ((steps.length:Nat):Int) then
  (if 0<=x/\x < ((p.dh.length:Nat):Int) then
  ((bK N (steps.getD ((x).toNat) 0) 0 ((p.dh.getD ((x).toNat) cL.d).cu)).bind fun m7 =>
  (cond (!m7)
  (some ((⟨0,0,0,0,0,0⟩:ab),2))
  ((if 0<=x/\x < ((6:Nat):Int) then
  ik N p steps fuel (⟨(jP ((x).toNat) 0 (steps.getD ((x).toNat) 0) out.e0),(jP ((x).toNat) 1 (steps.getD ((x).toNat) 0) out.e1),(jP ((x).toNat) 2 (steps.getD ((x).toNat) 0) out.e2),(jP ((x).toNat) 3 (steps.getD ((x).toNat) 0) out.e3),(jP ((x).toNat) 4 (steps.getD ((x).toNat) 0) out.e4),(jP ((x).toNat) 5 (steps.getD ((x).toNat) 0) out.e5)⟩:ab) (aE (x+1))
  else none))))
  else none)
  else none))
  (some (out,0)))
def oH (N:Nat) (p:cQ) (steps:List Int):Option (ab×Int) :=
 (cond (((steps.length:Nat):Int) != ((p.dh.length:Nat):Int))
 (some ((⟨0,0,0,0,0,0⟩:ab),11))
 (ik N p steps N (⟨0,0,0,0,0,0⟩:ab) 0))
def qV (N:Nat) (x:Int) (y:Int) (H3:Int) (C0:eH):Option (eH) :=
 some (⟨(aE (C0.K8+H3)),(aE (C0.f_x+(aE (H3 * x)))),(aE (C0.f_y+(aE (H3 * y)))),(aE (C0.abp+(aE (H3 * (if (aE (0 - x)) > x then (aE (0 - x)) else x)))))⟩:eH)
def nJ (N:Nat) (p:cQ) (s:ab):Nat->eH->Int->Option (eH)
 | 0,_,_=>none
 | fuel+1,eY,x2 =>
  (cond (decide (x2 < ((p.dh.length:Nat):Int)))
  ((if 0<=x2/\x2 < ((p.dh.length:Nat):Int) then
  (if 0<=x2/\x2 < ((6:Nat):Int) then
  ((qV N ((p.dh.getD ((x2).toNat) cL.d).zD) ((p.dh.getD ((x2).toNat) cL.d).D4) (aE ((om [s.e0,s.e1,s.e2,s.e3,s.e4,s.e5] ((x2).toNat)) * (p.dh.getD ((x2).toNat) cL.d).wU)) eY).bind fun Px =>
  nJ N p s fuel Px (aE (x2+1)))
  else none)
  else none))
  (some eY))
def nL (N:Nat) (p:cQ) (s:ab):Nat->eH->Int->Option (eH)
 | 0,_,_=>none
 | fuel+1,out,x =>
  (cond (decide (x < ((p.pZ.length:Nat):Int)))
  ((if 0<=x/\x < ((p.pZ.length:Nat):Int) then
  ((qV N ((p.pZ.getD ((x).toNat) fy.d).zD) ((p.pZ.getD ((x).toNat) fy.d).D4) ((p.pZ.getD ((x).toNat) fy.d).wU) out).bind fun Ux =>
  nL N p s fuel Ux (aE (x+1)))
  else none))
  (nJ N p s N out 0))
def BH (N:Nat) (p:cQ) (s:ab):Option (eH) :=
 nL N p s N (⟨0,0,0,0⟩:eH) 0
def mw (N:Nat) (l:List Int):Nat->Bool->(List Int)->Bool->(List Int)->Int->Option (aa)
 | 0,_,_,_,_,_=>none
 | fuel+1,out,eY,Ld,JN,x =>
  (cond (decide (x < ((l.length:Nat):Int)))
  ((if 0<=x/\x < ((l.length:Nat):Int) then
  ((yG N (l.getD ((x).toNat) 0)).bind fun Ze =>
  ((oG N Ze).bind fun zX =>
  ((fq N (⟨(⟨out,eY⟩:cX),(⟨Ld,JN⟩:cX)⟩:aa) (⟨zX.fN,zX.fD⟩:aa)).bind fun aY =>
  mw N l fuel aY.fN.fG aY.fN.fL aY.fD.fG aY.fD.fL (aE (x+1)))))
  else none))
  (some (⟨(⟨out,eY⟩:cX),(⟨Ld,JN⟩:cX)⟩:aa)))
def lY (N:Nat) (l:List Int):Option (aa) :=
 ((yG N 1).bind fun Te =>
 ((oG N Te).bind fun lI =>
 mw N l N lI.fN.fG lI.fN.fL lI.fD.fG lI.fD.fL 0))
def yL (N:Nat) (x:aa) (y:aa):Option (aa×Int) :=
 ((g7 N y).bind fun eI =>
 (cond eI
 (some ((⟨(⟨false,([]:List Int)⟩:cX),(⟨false,([]:List Int)⟩:cX)⟩:aa),9))
 (((qR N x y).bind fun ko =>
 some ((⟨ko.fN,ko.fD⟩:aa),0)))))
def pD (N:Nat) (x:aa) (y:aa):Option (aa) :=
 ((yL N x y).bind fun vT =>
 some (⟨vT.1.fN,vT.1.fD⟩:aa))
def pE (N:Nat):Nat->Int->(List Int)->Option ((List Int))
 | 0,_,_=>none
 | fuel+1,n2,out =>
  (cond (decide (n2 > 0))
  ((if (out.length+1) * 2<=140737488355328 then
  pE N fuel (wX .u64 n2 16) (out ++ ([(IntKind.u16.wrap ((JF .u64 n2 65535)))]:List Int))
  else none))
  (some out))
def yu (N:Nat) (n:Int):Option ((List Int)) :=
 pE N N n ([]:List Int)
def Tg (N:Nat) (n:Int):Option (cX) :=
 (cond (decide (n < 0))
 (((yu N (IntKind.u64.wrap ((IntKind.u64.wrap ((aE (0 - (aE (n+1))))))+1))).bind fun Zf =>
 some (⟨true,Zf⟩:cX)))
 (((yu N (IntKind.u64.wrap (n))).bind fun Uy =>
 some (⟨false,Uy⟩:cX))))
def ER (N:Nat) (n:Int):Option (aa) :=
 ((Tg N n).bind fun rZ =>
 ((Tg N 1).bind fun rZ2 =>
 some (⟨rZ,rZ2⟩:aa)))
def dp (N:Nat) (n:Int) (low:Int) (high:Int):Option (Bool) :=
 some (cond (decide (n>=low)) (decide (n<=high)) false)
def lZ (N:Nat) (s:ByteArray):Nat->Int->Option (Bool)
 | 0,_=>none
 | fuel+1,i =>
  (cond (decide (i < ((s.size:Nat):Int)))
  ((if 0<=i/\i < ((s.size:Nat):Int) then
  (cond (cond (!(cond (cond (decide ((zA s i)>=97)) (decide ((zA s i)<=122)) false) true (cond (decide ((zA s i)>=65)) (decide ((zA s i)<=90)) false))) (cond (i == 0) true (cond ((zA s i) != 45) (cond (decide ((zA s i) < 48)) true (decide ((zA s i) > 57))) false)) false)
  (some false)
  (lZ N s fuel (aE (i+1))))
  else none))
  (some true))
def yM (N:Nat) (s:ByteArray):Option (Bool) :=
 (cond (cond (decide (((s.size:Nat):Int) < 1)) true (decide (((s.size:Nat):Int) > 12)))
 (some false)
 (lZ N s N 0))
def ec (N:Nat) (p:cQ) (i2:Int) (iZ:Int->Option (Int)):Nat->Int->Option (Int)
 | 0,_=>none
 | fuel+1,k =>
  (cond (decide (k < i2))
  ((if 0<=k/\k < ((p.dh.length:Nat):Int) then
  (cond (iP ((p.dh.getD ((k).toNat) cL.d).jo) ((p.dh.getD ((i2).toNat) cL.d).jo))
  (some 5)
  (ec N p i2 iZ fuel (aE (k+1))))
  else none))
  (((dp N ((p.dh.getD ((i2).toNat) cL.d).zD) (-1000000) 1000000).bind fun D5 =>
  ((cond (!(!D5)) (dp N ((p.dh.getD ((i2).toNat) cL.d).D4) (-1000000) 1000000) (some false)).bind fun Lf =>
  ((cond (!(cond (!D5) true (!Lf))) (dp N ((p.dh.getD ((i2).toNat) cL.d).cu) 0 12) (some false)).bind fun Xm =>
  ((cond (!(cond (cond (!D5) true (!Lf)) true (!Xm))) (dp N ((p.dh.getD ((i2).toNat) cL.d).wU) 0 1000000000) (some false)).bind fun afO =>
  (cond (cond (cond (cond (!D5) true (!Lf)) true (!Xm)) true (!afO))
  (some 2)
  (iZ (aE (i2+1))))))))))
def cD (N:Nat) (p:cQ):Nat->Int->Option (Int)
 | 0,_=>none
 | fuel+1,i2 =>
  (cond (decide (i2 < ((p.dh.length:Nat):Int)))
  ((if 0<=i2/\i2 < ((p.dh.length:Nat):Int) then
  ((yM N ((p.dh.getD ((i2).toNat) cL.d).jo)).bind fun Uz =>
  (cond (!Uz)
  (some 4)
  (ec N p i2 (cD N p fuel) N 0)))
  else none))
  (some 0))
def ee (N:Nat) (p:cQ):Nat->Int->Option (Int)
 | 0,_=>none
 | fuel+1,i =>
  (cond (decide (i < ((p.pZ.length:Nat):Int)))
  ((if 0<=i/\i < ((p.pZ.length:Nat):Int) then
  ((dp N ((p.pZ.getD ((i).toNat) fy.d).zD) (-1000000) 1000000).bind fun zH =>
  ((cond (!(!zH)) (dp N ((p.pZ.getD ((i).toNat) fy.d).D4) (-1000000) 1000000) (some false)).bind fun Nk =>
  ((cond (!(cond (!zH) true (!Nk))) (dp N ((p.pZ.getD ((i).toNat) fy.d).wU) 0 1000000000) (some false)).bind fun amS =>
  (cond (cond (cond (!zH) true (!Nk)) true (!amS))
  (some 2)
  (ee N p fuel (aE (i+1)))))))
  else none))
  ((cond (decide (((p.dh.length:Nat):Int) > 6))
  (some 8)
  (cD N p N 0))))
def my (N:Nat) (p:cQ):Option (Int) :=
 ((dp N p.oE 1 1000000).bind fun xG =>
 ((cond (!(!xG)) (dp N p.sD 1 1000000) (some false)).bind fun tk =>
 ((cond (!(cond (!xG) true (!tk))) (dp N p.er 900 1100) (some false)).bind fun ES =>
 (cond (cond (cond (!xG) true (!tk)) true (!ES))
 (some 2)
 ((cond (decide (((p.pZ.length:Nat):Int) > 20))
 (some 8)
 (ee N p N 0)))))))
def jL (N:Nat) (p:cQ) (p7:Int):Nat->Int->Int->Option (Int)
 | 0,_,_=>none
 | fuel+1,n,i =>
  (cond (decide (i < ((p.dh.length:Nat):Int)))
  ((if 0<=i/\i < ((p.dh.length:Nat):Int) then
  (cond (decide ((aE (n * (aE ((p.dh.getD ((i).toNat) cL.d).cu+1)))) > p7))
  (some (aE (n * (aE ((p.dh.getD ((i).toNat) cL.d).cu+1)))))
  (jL N p p7 fuel (aE (n * (aE ((p.dh.getD ((i).toNat) cL.d).cu+1)))) (aE (i+1))))
  else none))
  (some n))
def xV (N:Nat) (p:cQ) (p7:Int):Option (Int) :=
 jL N p p7 N 1 0
def lh (N:Nat) (l:bF):Option (Int) :=
 ((bK N l.aq 0 1000000).bind fun m7 =>
 ((cond (!(!m7)) (bK N l.aA 0 1000000) (some false)).bind fun j4 =>
 ((cond (!(cond (!m7) true (!j4))) (bK N l.bN 0 1000) (some false)).bind fun w8 =>
 ((cond (!(cond (cond (!m7) true (!j4)) true (!w8))) (bK N l.bq 0 1000) (some false)).bind fun G2 =>
 ((cond (!(cond (cond (cond (!m7) true (!j4)) true (!w8)) true (!G2))) (bK N l.bp 0 1000000000000000000) (some false)).bind fun amT =>
 (cond (cond (cond (cond (cond (!m7) true (!j4)) true (!w8)) true (!G2)) true (!amT))
 (some 2)
 (some 0)))))))
def oI (N:Nat) (d:Int) (C0:cQ):Option (aa) :=
 ((lY N ([d,C0.er,C0.oE,C0.sD]:List Int)).bind fun bU =>
 ((lY N ([1000000000]:List Int)).bind fun db =>
 ((pD N (⟨bU.fN,bU.fD⟩:aa) (⟨db.fN,db.fD⟩:aa)).bind fun gN =>
 some (⟨gN.fN,gN.fD⟩:aa))))
def sG (N:Nat) (a:cX) (b:cX) (n:List Int) (rest:List Int):Option (cX×cX×Int) :=
 ((gZ N (!(a.fG == b.fG)) n).bind fun yp =>
 ((gZ N false rest).bind fun qt =>
 some (yp,qt,0)))
def CK (N:Nat) (a:cX) (b:cX):Option (cX×cX×Int) :=
 ((gU N a.fL).bind fun bJ =>
 ((gU N b.fL).bind fun fJ =>
 (cond (((fJ.length:Nat):Int) == 0)
 (some ((⟨false,([]:List Int)⟩:cX),(⟨false,([]:List Int)⟩:cX),9))
 (((n6 N bJ fJ).bind fun kW =>
 (cond (cond a.fG (decide (((kW.2.length:Nat):Int) > 0)) false)
 (((yJ N kW.1 ([1]:List Int)).bind fun zW =>
 ((tO N fJ kW.2).bind fun qP =>
 sG N a b zW qP)))
 (sG N a b kW.1 kW.2)))))))
def BI (N:Nat) (x:aa):Option (cX) :=
 ((j9 N x).bind fun qB =>
 ((CK N qB.fN qB.fD).bind fun UA =>
 some UA.1))
def GC (N:Nat) (a:cX):Option (Int×Bool) :=
 ((gU N a.fL).bind fun bJ =>
 ((yH N bJ).bind fun xF =>
 (cond (!xF.2)
 (some (0,false))
 ((cond (cond a.fG (decide (xF.1<=9223372036854775808)) false)
 (some ((aE ((IntKind.u64.wrap (0 - xF.1)))),true))
 ((cond (cond (!a.fG) (decide (xF.1<=9223372036854775807)) false)
 (some ((aE (xF.1)),true))
 (some (0,false)))))))))
def vp (N:Nat) (x:aa):Option (Int) :=
 ((BI N x).bind fun Zg =>
 ((GC N Zg).bind fun UB =>
 some UB.1))
def p8 (N:Nat) (p:cQ) (p7:Int) (low:Int):Option (Int×Int) :=
 ((oI N p7 p).bind fun o9 =>
 ((vp N (⟨o9.fN,o9.fD⟩:aa)).bind fun CL =>
 some (low,CL)))
def rC (N:Nat) (p:cQ) (least:Int) (p7:Int):Option (Int×Int) :=
 ((oI N least p).bind fun qW =>
 ((vp N (⟨qW.fN,qW.fD⟩:aa)).bind fun yN =>
 ((lY N ([yN]:List Int)).bind fun bU =>
 ((oI N least p).bind fun pa =>
 ((mn N (⟨bU.fN,bU.fD⟩:aa) (⟨pa.fN,pa.fD⟩:aa)).bind fun pA =>
 (cond (decide (pA < 0))
 (p8 N p p7 (aE (yN+1)))
 (p8 N p p7 yN)))))))
def pF (N:Nat) (p:cQ) (l:bF):Option (da) :=
 ((rC N p l.aq l.aA).bind fun m8 =>
 ((lY N ([l.bN,p.er,p.sD,p.oE,p.oE,p.oE]:List Int)).bind fun bU =>
 ((lY N ([12000000000,1000]:List Int)).bind fun db =>
 ((pD N (⟨bU.fN,bU.fD⟩:aa) (⟨db.fN,db.fD⟩:aa)).bind fun gN =>
 ((vp N (⟨gN.fN,gN.fD⟩:aa)).bind fun yN =>
 ((lY N ([l.bq,p.er,p.oE,p.sD,p.sD,p.sD]:List Int)).bind fun iv =>
 ((lY N ([12000000000,1000]:List Int)).bind fun iw =>
 ((pD N (⟨iv.fN,iv.fD⟩:aa) (⟨iw.fN,iw.fD⟩:aa)).bind fun n8 =>
 ((vp N (⟨n8.fN,n8.fD⟩:aa)).bind fun CL =>
 some (⟨m8.1,m8.2,yN,CL,(aE (8 * l.bp))⟩:da))))))))))
def wv (N:Nat) (p:cQ) (l:bF) (a:ox):Option (cg×Int) :=
 ((ke N p).bind fun vS =>
 (cond (vS != 0)
 (some ((⟨(⟨0,0,0,([]:List fy),([]:List cL)⟩:cQ),(⟨0,0,0,0,0⟩:da),(⟨0,0,0,0,0,0⟩:ab),0,0⟩:cg),vS))
 (((lh N l).bind fun gu =>
 (cond (gu != 0)
 (some ((⟨(⟨0,0,0,([]:List fy),([]:List cL)⟩:cQ),(⟨0,0,0,0,0⟩:da),(⟨0,0,0,0,0,0⟩:ab),0,0⟩:cg),gu))
 (((oH N p a.a8).bind fun kM =>
 (cond (kM.2 != 0)
 (some ((⟨(⟨0,0,0,([]:List fy),([]:List cL)⟩:cQ),(⟨0,0,0,0,0⟩:da),(⟨0,0,0,0,0,0⟩:ab),0,0⟩:cg),kM.2))
 (((bK N a.aq 0 1000000).bind fun m7 =>
 ((cond (!(!m7)) (bK N a.aA 0 1000000) (some false)).bind fun j4 =>
 (cond (cond (!m7) true (!j4))
 (some ((⟨(⟨0,0,0,([]:List fy),([]:List cL)⟩:cQ),(⟨0,0,0,0,0⟩:da),(⟨0,0,0,0,0,0⟩:ab),0,0⟩:cg),2))
 (((pF N p l).bind fun fU =>
 ((rC N p a.aq a.aA).bind fun m8 =>
 some ((⟨p,fU,kM.1,m8.1,m8.2⟩:cg),0))))))))))))))))
def nM (N:Nat) (p:cQ):Nat->Int->Int->Option (Int)
 | 0,_,_=>none
 | fuel+1,n,x =>
  (cond (decide (x < ((p.dh.length:Nat):Int)))
  ((if 0<=x/\x < ((p.dh.length:Nat):Int) then
  nM N p fuel (aE (n * (aE ((p.dh.getD ((x).toNat) cL.d).cu+1)))) (aE (x+1))
  else none))
  (some n))
def BJ (N:Nat) (p:cQ):Option (Int) :=
 nM N p N 1 0
def mz (N:Nat) (JN:Int):Option (Int) :=
 some JN
def mA (N:Nat) (b:da) (p:cQ) (gB:eH) (Ld:Int):Option (Int) :=
 ((bK N (aE ((aE (4 * gB.abp)) - (aE (gB.K8 * p.oE)))) (aE (0 - b.Xk)) b.Xk).bind fun G2 =>
 (cond G2
 (mz N (Nj .i64 Ld 8))
 (mz N Ld)))
def mB (N:Nat) (b:da) (p:cQ) (gB:eH) (eY:Int):Option (Int) :=
 ((bK N gB.f_y (aE (0 - b.f_y)) b.f_y).bind fun w8 =>
 (cond w8
 (mA N b p gB (Nj .i64 eY 4))
 (mA N b p gB eY)))
def mD (N:Nat) (b:da) (p:cQ) (gB:eH) (out:Int):Option (Int) :=
 ((bK N gB.f_x (aE (0 - b.f_x)) b.f_x).bind fun j4 =>
 (cond j4
 (mB N b p gB (Nj .i64 out 2))
 (mB N b p gB out)))
def lj (N:Nat) (b:da) (p:cQ) (s:ab):Option (Int) :=
 ((BH N p s).bind fun gB =>
 ((bK N gB.K8 b.MV b.EH).bind fun m7 =>
 (cond m7
 (mD N b p gB (Nj .i64 0 1))
 (mD N b p gB 0))))
def kN (N:Nat) (t:cg) (s:ab):Option (Bool) :=
 ((lj N t.Tb t.f_p s).bind fun ot =>
 some (ot == 15))
def vU (N:Nat) (t:cg) (s:ab):Option (Bool) :=
 ((BH N t.f_p s).bind fun gB =>
 ((bK N gB.K8 t.MV t.EH).bind fun m7 =>
 some m7))
def bV (N:Nat):Nat->(List av)->Int->Int->Option ((List av))
 | 0,_,_,_=>none
 | fuel+1,bC,i,j =>
  (cond (decide (i < j))
  ((if 0<=j/\j < ((bC.length:Nat):Int) then
  (if 0<=i/\i < ((bC.length:Nat):Int) then
  bV N fuel ((bC.set ((i).toNat) (bC.getD ((j).toNat) av.d)).set ((j).toNat) (bC.getD ((i).toNat) av.d)) (aE (i+1)) (aE (j - 1))
  else none)
  else none))
  (some bC))
def dZ (N:Nat) (C0:List av):Option ((List av)) :=
 bV N N C0 0 (aE (((C0.length:Nat):Int) - 1))
def ll (N:Nat) (t:cg) (C0:List (ab×ar)):Nat->ab->(List av)->Option ((List av))
 | 0,_,_=>none
 | fuel+1,s2,out =>
  (cond (!((s2.e0 == t.ig.e0) && ((s2.e1 == t.ig.e1) && ((s2.e2 == t.ig.e2) && ((s2.e3 == t.ig.e3) && ((s2.e4 == t.ig.e4) && ((s2.e5 == t.ig.e5) && true)))))))
  ((if (out.length+1) * 16<=140737488355328 then
  ll N t C0 fuel (((ld (fun (za zb:ab)=>((zb.e0 == za.e0) && ((zb.e1 == za.e1) && ((zb.e2 == za.e2) && ((zb.e3 == za.e3) && ((zb.e4 == za.e4) && ((zb.e5 == za.e5) && true))))))) C0 s2).getD ar.d).EI) (out ++ ([(((ld (fun (za zb:ab)=>((zb.e0 == za.e0) && ((zb.e1 == za.e1) && ((zb.e2 == za.e2) && ((zb.e3 == za.e3) && ((zb.e4 == za.e4) && ((zb.e5 == za.e5) && true))))))) C0 s2).getD ar.d).yF)]:List av))
  else none))
  (((dZ N out).bind fun Th =>
  (if Th.length=out.length then
  some Th
  else none))))
def rD (N:Nat) (t:cg) (s:ab) (C0:List (ab×ar)):Option ((List av)) :=
 ll N t C0 N s ([]:List av)
def k8 (N:Nat) (t:cg) (m:av) (s2:ab):Option (ab×Bool) :=
 (if 0<=m.dj/\m.dj < ((6:Nat):Int) then
 (if 0<=m.dj/\m.dj < ((t.f_p.dh.length:Nat):Int) then
 ((bK N (om [s2.e0,s2.e1,s2.e2,s2.e3,s2.e4,s2.e5] ((m.dj).toNat)) 0 ((t.f_p.dh.getD ((m.dj).toNat) cL.d).cu)).bind fun j4 =>
 some (s2,j4))
 else none)
 else none)
def qX (N:Nat) (t:cg) (s:ab) (m:av):Option (ab×Bool) :=
 ((bK N m.dj 0 (aE (((t.f_p.dh.length:Nat):Int) - 1))).bind fun m7 =>
 (cond (!m7)
 (some (s,false))
 ((cond m.Za
 ((if 0<=m.dj/\m.dj < ((6:Nat):Int) then
 k8 N t m (⟨(jP ((m.dj).toNat) 0 (aE ((om [s.e0,s.e1,s.e2,s.e3,s.e4,s.e5] ((m.dj).toNat))+1)) s.e0),(jP ((m.dj).toNat) 1 (aE ((om [s.e0,s.e1,s.e2,s.e3,s.e4,s.e5] ((m.dj).toNat))+1)) s.e1),(jP ((m.dj).toNat) 2 (aE ((om [s.e0,s.e1,s.e2,s.e3,s.e4,s.e5] ((m.dj).toNat))+1)) s.e2),(jP ((m.dj).toNat) 3 (aE ((om [s.e0,s.e1,s.e2,s.e3,s.e4,s.e5] ((m.dj).toNat))+1)) s.e3),(jP ((m.dj).toNat) 4 (aE ((om [s.e0,s.e1,s.e2,s.e3,s.e4,s.e5] ((m.dj).toNat))+1)) s.e4),(jP ((m.dj).toNat) 5 (aE ((om [s.e0,s.e1,s.e2,s.e3,s.e4,s.e5] ((m.dj).toNat))+1)) s.e5)⟩:ab)
 else none))
 ((if 0<=m.dj/\m.dj < ((6:Nat):Int) then
 k8 N t m (⟨(jP ((m.dj).toNat) 0 (aE ((om [s.e0,s.e1,s.e2,s.e3,s.e4,s.e5] ((m.dj).toNat)) - 1)) s.e0),(jP ((m.dj).toNat) 1 (aE ((om [s.e0,s.e1,s.e2,s.e3,s.e4,s.e5] ((m.dj).toNat)) - 1)) s.e1),(jP ((m.dj).toNat) 2 (aE ((om [s.e0,s.e1,s.e2,s.e3,s.e4,s.e5] ((m.dj).toNat)) - 1)) s.e2),(jP ((m.dj).toNat) 3 (aE ((om [s.e0,s.e1,s.e2,s.e3,s.e4,s.e5] ((m.dj).toNat)) - 1)) s.e3),(jP ((m.dj).toNat) 4 (aE ((om [s.e0,s.e1,s.e2,s.e3,s.e4,s.e5] ((m.dj).toNat)) - 1)) s.e4),(jP ((m.dj).toNat) 5 (aE ((om [s.e0,s.e1,s.e2,s.e3,s.e4,s.e5] ((m.dj).toNat)) - 1)) s.e5)⟩:ab)
 else none))))))
def mE (N:Nat) (p:cQ) (ef:cg×Int) (todo:List ab) (fO:Nat) (x:Int) (x2:Int) (pG:(List (ab×ar))->(List ab)->Nat->Nat->Int->Option ((List av)×Int)) (cN:(List (ab×ar))->(List ab)->Nat->Nat->Int->Option ((List av)×Int)) (bk:(List (ab×ar))->(List ab)->Nat->Nat->Option ((List av)×Int)) (ET:List (ab×ar)) (Xn:List ab) (Py:Nat) (Pz:Nat):Option ((List av)×Int) :=
 pG ET Xn Py Pz (aE (x2+1))
noncomputable def dH (N:Nat) (p:cQ) (ef:cg×Int) (todo:List ab) (fO:Nat) (x:Int) (cN:(List (ab×ar))->(List ab)->Nat->Nat->Int->Option ((List av)×Int)) (bk:(List (ab×ar))->(List ab)->Nat->Nat->Option ((List av)×Int)):Nat->(List (ab×ar))->(List ab)->Nat->Nat->Int->Option ((List av)×Int)
 | 0,_,_,_,_,_=>none
 | fuel+1,gV,mQ,jB,ln,x2 =>
  (cond (decide (x2 < ((2:Nat):Int)))
  ((if 0<=x2/\x2 < ((([true,false]:List Bool).length:Nat):Int) then
  ((qX N ef.1 (todo.getD (bB fO 0) ab.d) (⟨x,(([true,false]:List Bool).getD ((x2).toNat) false)⟩:av)).bind fun cG =>
  ((cond (cond cG.2 (!((ld (fun (za zb:ab)=>((zb.e0 == za.e0) && ((zb.e1 == za.e1) && ((zb.e2 == za.e2) && ((zb.e3 == za.e3) && ((zb.e4 == za.e4) && ((zb.e5 == za.e5) && true))))))) gV cG.1).isSome)) false) (kN N ef.1 cG.1) (some false)).bind fun UC =>
  (cond (cond (cond cG.2 (!((ld (fun (za zb:ab)=>((zb.e0 == za.e0) && ((zb.e1 == za.e1) && ((zb.e2 == za.e2) && ((zb.e3 == za.e3) && ((zb.e4 == za.e4) && ((zb.e5 == za.e5) && true))))))) gV cG.1).isSome)) false) UC false)
  ((if bB jB ln=mQ.length then
  both (mE N p ef todo fO x x2 (dH N p ef todo fO x cN bk fuel) cN bk (CH (fun (za zb:ab)=>((zb.e0 == za.e0) && ((zb.e1 == za.e1) && ((zb.e2 == za.e2) && ((zb.e3 == za.e3) && ((zb.e4 == za.e4) && ((zb.e5 == za.e5) && true))))))) gV cG.1 (⟨(todo.getD (bB fO 0) ab.d),(⟨x,(([true,false]:List Bool).getD ((x2).toNat) false)⟩:av)⟩:ar)) (mQ ++ ([cG.1]:List ab)) jB (ln+1))
  ((if (ln+1) * 48<=140737488355328 then
  mE N p ef todo fO x x2 (dH N p ef todo fO x cN bk fuel) cN bk (CH (fun (za zb:ab)=>((zb.e0 == za.e0) && ((zb.e1 == za.e1) && ((zb.e2 == za.e2) && ((zb.e3 == za.e3) && ((zb.e4 == za.e4) && ((zb.e5 == za.e5) && true))))))) gV cG.1 (⟨(todo.getD (bB fO 0) ab.d),(⟨x,(([true,false]:List Bool).getD ((x2).toNat) false)⟩:av)⟩:ar)) ((mQ.drop jB) ++ ([cG.1]:List ab)) 0 (((mQ.drop jB) ++ ([cG.1]:List ab)).length)
  else none))
  else none))
  (mE N p ef todo fO x x2 (dH N p ef todo fO x cN bk fuel) cN bk gV mQ jB ln))))
  else none))
  (cN gV mQ jB ln (aE (x+1))))
noncomputable def gC (N:Nat) (p:cQ) (ef:cg×Int) (todo:List ab) (fO:Nat) (bk:(List (ab×ar))->(List ab)->Nat->Nat->Option ((List av)×Int)):Nat->(List (ab×ar))->(List ab)->Nat->Nat->Int->Option ((List av)×Int)
 | 0,_,_,_,_,_=>none
 | fuel+1,BK,Ti,Lg,CM,x =>
  (cond (decide (x < ((p.dh.length:Nat):Int)))
  (dH N p ef todo fO x (gC N p ef todo fO bk fuel) bk N BK Ti Lg CM 0)
  ((if 1<=CM/\CM<=CM then
  bk BK Ti (bB Lg 1) (CM - 1)
  else none)))
noncomputable def jC (N:Nat) (p:cQ) (ef:cg×Int):Nat->(List (ab×ar))->(List ab)->Nat->Nat->Option ((List av)×Int)
 | 0,_,_,_,_=>none
 | fuel+1,GD,todo,fO,MW =>
  (cond (decide (((MW:Nat):Int) > 0))
  ((if 0<=(0:Int)/\0 < ((MW:Nat):Int) then
  (if fO+MW<=todo.length then
  ((vU N ef.1 (todo.getD (bB fO 0) ab.d)).bind fun afP =>
  (cond afP
  (((rD N ef.1 (todo.getD (bB fO 0) ab.d) GD).bind fun Xo =>
  some (Xo,0)))
  (gC N p ef todo fO (jC N p ef fuel) N GD todo fO MW 0)))
  else none)
  else none))
  (some (([]:List av),29)))
noncomputable def zY (N:Nat) (p:cQ) (l:bF) (a:ox):Option ((List av)×Int) :=
 ((wv N p l a).bind fun ef =>
 (cond (ef.2 != 0)
 (some (([]:List av),ef.2))
 (((BJ N p).bind fun PA =>
 (cond (decide (PA > 20000))
 (some (([]:List av),8))
 (((kN N ef.1 ef.1.ig).bind fun Zh =>
 (cond (!Zh)
 (some (([]:List av),16))
 (jC N p ef N (CH (fun (za zb:ab)=>((zb.e0 == za.e0) && ((zb.e1 == za.e1) && ((zb.e2 == za.e2) && ((zb.e3 == za.e3) && ((zb.e4 == za.e4) && ((zb.e5 == za.e5) && true))))))) ([]:List (ab×ar)) ef.1.ig (⟨(⟨0,0,0,0,0,0⟩:ab),(⟨0,false⟩:av)⟩:ar)) ([ef.1.ig]:List ab) 0 (([ef.1.ig]:List ab).length))))))))))
def nN (N:Nat) (l:bF):Option (Int) :=
 ((dp N l.aq 0 1000000).bind fun xG =>
 ((cond (!(!xG)) (dp N l.aA 0 1000000) (some false)).bind fun tk =>
 ((cond (!(cond (!xG) true (!tk))) (dp N l.bN 0 1000) (some false)).bind fun ES =>
 ((cond (!(cond (cond (!xG) true (!tk)) true (!ES))) (dp N l.bq 0 1000) (some false)).bind fun zH =>
 ((cond (!(cond (cond (cond (!xG) true (!tk)) true (!ES)) true (!zH))) (dp N l.bp 0 1000000000000000000) (some false)).bind fun Nk =>
 (cond (cond (cond (cond (cond (!xG) true (!tk)) true (!ES)) true (!zH)) true (!Nk))
 (some 2)
 (some 0)))))))
def gi (N:Nat) (p:cQ) (steps:List Int):Nat->Int->Option (Int)
 | 0,_=>none
 | fuel+1,i =>
  (cond (decide (i < ((steps.length:Nat):Int)))
  ((if 0<=i/\i < ((steps.length:Nat):Int) then
  (if 0<=i/\i < ((p.dh.length:Nat):Int) then
  ((dp N (steps.getD ((i).toNat) 0) 0 ((p.dh.getD ((i).toNat) cL.d).cu)).bind fun xG =>
  (cond (!xG)
  (some 2)
  (gi N p steps fuel (aE (i+1)))))
  else none)
  else none))
  (some 0))
def oJ (N:Nat) (p:cQ) (steps:List Int):Option (Int) :=
 (cond (((steps.length:Nat):Int) != ((p.dh.length:Nat):Int))
 (some 11)
 (gi N p steps N 0))
def ux (N:Nat) (p:cQ) (a:ox):Option (Int) :=
 ((oJ N p a.a8).bind fun zZ =>
 (cond (zZ != 0)
 (some zZ)
 (((dp N a.aq 0 1000000).bind fun xG =>
 ((cond (!(!xG)) (dp N a.aA 0 1000000) (some false)).bind fun tk =>
 (cond (cond (!xG) true (!tk))
 (some 2)
 (some 0)))))))
def mb (N:Nat) (p:cQ) (l:bF) (a:ox):Option (Int) :=
 ((my N p).bind fun vS =>
 (cond (vS != 0)
 (some vS)
 (((nN N l).bind fun xW =>
 (cond (xW != 0)
 (some xW)
 (((ux N p a).bind fun Lh =>
 some Lh)))))))
def l4 (N:Nat) (neg:Bool) (a:List Int):Nat->(List Int)->Int->Option (cX)
 | 0,_,_=>none
 | fuel+1,x,i =>
  (cond (decide (i < ((a.length:Nat):Int)))
  ((if 0<=i/\i < ((a.length:Nat):Int) then
  (if (x.length+1) * 2<=140737488355328 then
  l4 N neg a fuel (x ++ ([(IntKind.u16.wrap ((a.getD ((i).toNat) 0)))]:List Int)) (aE (i+1))
  else none)
  else none))
  (some (⟨(cond neg (decide (((a.length:Nat):Int) > 0)) false),x⟩:cX)))
def hH (N:Nat) (neg:Bool) (a:List Int):Option (cX) :=
 l4 N neg a N ([]:List Int) 0
def nO (N:Nat) (n:Int):Nat->(List Int)->Int->Option (cX)
 | 0,_,_=>none
 | fuel+1,a,u =>
  (cond (decide (u > 0))
  ((if (a.length+1) * 8<=140737488355328 then
  nO N n fuel (a ++ ([(aE ((u.tmod 65536)))]:List Int)) (IntKind.u64.wrap (u.tdiv 65536))
  else none))
  (((hH N (decide (n < 0)) a).bind fun uy =>
  some uy)))
def wx (N:Nat) (n:Int):Option (cX) :=
 (cond (decide (n < 0))
 (nO N n N ([]:List Int) (IntKind.u64.wrap (0 - (IntKind.u64.wrap (n)))))
 (nO N n N ([]:List Int) (IntKind.u64.wrap (n))))
def pH (N:Nat) (n:Int):Option (aa) :=
 ((wx N n).bind fun Te =>
 ((wx N 1).bind fun Ze =>
 some (⟨Te,Ze⟩:aa)))
def jD (N:Nat) (p:cQ) (steps:List Int):Nat->(List fy)->Int->Option ((List fy))
 | 0,_,_=>none
 | fuel+1,out,i =>
  (cond (decide (i < ((steps.length:Nat):Int)))
  ((if 0<=i/\i < ((p.dh.length:Nat):Int) then
  (if 0<=i/\i < ((steps.length:Nat):Int) then
  (if (out.length+1) * 24<=140737488355328 then
  jD N p steps fuel (out ++ ([(⟨(p.dh.getD ((i).toNat) cL.d).zD,(p.dh.getD ((i).toNat) cL.d).D4,(aE ((steps.getD ((i).toNat) 0) * (p.dh.getD ((i).toNat) cL.d).wU))⟩:fy)]:List fy)) (aE (i+1))
  else none)
  else none)
  else none))
  (some out))
def wy (N:Nat) (p:cQ) (steps:List Int):Option ((List fy)) :=
 (if (0+p.pZ.length) * 24<=140737488355328 then
 jD N p steps N (([]:List fy) ++ p.pZ) 0
 else none)
def l5 (N:Nat) (a:List Int):Nat->Int->Option ((List Int))
 | 0,_=>none
 | fuel+1,n =>
  (if ((decide (n > 0))=true->0<=(aE (n - 1))/\(aE (n - 1)) < ((a.length:Nat):Int)) then
  (cond (cond (decide (n > 0)) ((a.getD ((aE (n - 1)).toNat) 0) == 0) false)
  (l5 N a fuel (aE (n - 1)))
  ((if 0<=(n).toNat/\(n).toNat<=a.length then
  (if 0<=n then
  (if (0+((n).toNat - 0)) * 8<=140737488355328 then
  some (([]:List Int) ++ ((a.take ((n).toNat)).drop 0))
  else none)
  else none)
  else none)))
  else none)
def pJ (N:Nat) (a:List Int):Option ((List Int)) :=
 l5 N a N ((a.length:Nat):Int)
def l6 (N:Nat) (l:List Int):Nat->(List Int)->Int->Option ((List Int))
 | 0,_,_=>none
 | fuel+1,a,i =>
  (cond (decide (i < ((l.length:Nat):Int)))
  ((if 0<=i/\i < ((l.length:Nat):Int) then
  (if (a.length+1) * 8<=140737488355328 then
  l6 N l fuel (a ++ ([(aE ((l.getD ((i).toNat) 0)))]:List Int)) (aE (i+1))
  else none)
  else none))
  (((pJ N a).bind fun bJ =>
  some bJ)))
def lp (N:Nat) (l:List Int):Option ((List Int)) :=
 l6 N l N ([]:List Int) 0
def pe (N:Nat) (a:List Int) (i:Int):Option (Int) :=
 (cond (decide (i < ((a.length:Nat):Int)))
 ((if 0<=i/\i < ((a.length:Nat):Int) then
 some (a.getD ((i).toNat) 0)
 else none))
 (some 0))
def kO (N:Nat) (a:List Int) (b:List Int) (i:Int) (oK:(List Int)->Int->Option ((List Int))):Nat->(List Int)->Int->Int->Option ((List Int))
 | 0,_,_,_=>none
 | fuel+1,eY,carry,k =>
  (cond (cond (decide (k < ((b.length:Nat):Int))) true (decide (carry > 0)))
  ((if 0<=(aE (i+k))/\(aE (i+k)) < ((eY.length:Nat):Int) then
  (if 0<=i/\i < ((a.length:Nat):Int) then
  ((pe N b k).bind fun dm =>
  kO N a b i oK fuel (eY.set ((aE (i+k)).toNat) ((aE ((aE ((eY.getD ((aE (i+k)).toNat) 0)+(aE ((a.getD ((i).toNat) 0) * dm))))+carry)).tmod 65536)) (aE ((aE ((aE ((eY.getD ((aE (i+k)).toNat) 0)+(aE ((a.getD ((i).toNat) 0) * dm))))+carry)).tdiv 65536)) (aE (k+1)))
  else none)
  else none))
  (oK eY (aE (i+1))))
def kP (N:Nat) (a:List Int) (b:List Int):Nat->(List Int)->Int->Option ((List Int))
 | 0,_,_=>none
 | fuel+1,out,i =>
  (cond (decide (i < ((a.length:Nat):Int)))
  (kO N a b i (kP N a b fuel) N out 0 0)
  (((pJ N out).bind fun bJ =>
  some bJ)))
def nP (N:Nat) (a:List Int) (b:List Int):Option ((List Int)) :=
 (if 0<=(aE ((aE (((a.length:Nat):Int)+((b.length:Nat):Int)))+1))/\(8:Int) * (aE ((aE (((a.length:Nat):Int)+((b.length:Nat):Int)))+1))<=281474976710656/\(aE ((aE (((a.length:Nat):Int)+((b.length:Nat):Int)))+1))<=9223372036854775807 then
 kP N a b N (List.replicate ((aE ((aE (((a.length:Nat):Int)+((b.length:Nat):Int)))+1)).toNat) 0:List Int) 0
 else none)
def ja (N:Nat) (a:List Int) (b:List Int):Nat->Int->Option (Int)
 | 0,_=>none
 | fuel+1,i =>
  (cond (decide (i>=0))
  ((if 0<=i/\i < ((a.length:Nat):Int) then
  (if 0<=i/\i < ((b.length:Nat):Int) then
  (cond ((a.getD ((i).toNat) 0) != (b.getD ((i).toNat) 0))
  (some (aE ((a.getD ((i).toNat) 0) - (b.getD ((i).toNat) 0))))
  (ja N a b fuel (aE (i - 1))))
  else none)
  else none))
  (some 0))
def qi (N:Nat) (a:List Int) (b:List Int):Option (Int) :=
 (cond (((a.length:Nat):Int) != ((b.length:Nat):Int))
 (some (aE (((a.length:Nat):Int) - ((b.length:Nat):Int))))
 (ja N a b N (aE (((a.length:Nat):Int) - 1))))
def oL (N:Nat) (a:List Int) (b:List Int) (out:List Int) (i:Int) (rE:(List Int)->Int->Int->Option ((List Int))) (nB:Int) (s:Int):Option ((List Int)) :=
 (if (out.length+1) * 8<=140737488355328 then
 rE (out ++ ([s]:List Int)) nB (aE (i+1))
 else none)
def iG (N:Nat) (a:List Int) (b:List Int):Nat->(List Int)->Int->Int->Option ((List Int))
 | 0,_,_,_=>none
 | fuel+1,out,borrow,i =>
  (cond (decide (i < ((a.length:Nat):Int)))
  ((if 0<=i/\i < ((a.length:Nat):Int) then
  ((pe N b i).bind fun dm =>
  (cond (decide ((aE ((aE ((a.getD ((i).toNat) 0) - dm)) - borrow)) < 0))
  (oL N a b out i (iG N a b fuel) 1 (aE ((aE ((aE ((a.getD ((i).toNat) 0) - dm)) - borrow))+65536)))
  (oL N a b out i (iG N a b fuel) 0 (aE ((aE ((a.getD ((i).toNat) 0) - dm)) - borrow)))))
  else none))
  (((pJ N out).bind fun bJ =>
  some bJ)))
def tP (N:Nat) (a:List Int) (b:List Int):Option ((List Int)) :=
 iG N a b N ([]:List Int) 0 0
def qj (N:Nat) (a:List Int) (b:List Int) (q:List Int) (i:Int) (lo:Int) (fm:(List Int)->(List Int)->Int->Option ((List Int)×(List Int))) (EU:List Int):Option ((List Int)×(List Int)) :=
 fm EU (q.set ((i).toNat) lo) (aE (i - 1))
def kx (N:Nat) (a:List Int) (b:List Int) (q:List Int) (i:Int) (bJ:(List Int)) (fm:(List Int)->(List Int)->Int->Option ((List Int)×(List Int))):Nat->Int->Int->Option ((List Int)×(List Int))
 | 0,_,_=>none
 | fuel+1,lo,hi =>
  (cond (decide (lo < hi))
  (((nP N b ([(aE ((aE ((aE (lo+hi))+1)).tdiv 2))]:List Int)).bind fun qu =>
  ((qi N qu bJ).bind fun jx =>
  (cond (decide (jx<=0))
  (kx N a b q i bJ fm fuel (aE ((aE ((aE (lo+hi))+1)).tdiv 2)) hi)
  (kx N a b q i bJ fm fuel lo (aE ((aE ((aE ((aE (lo+hi))+1)).tdiv 2)) - 1)))))))
  ((if 0<=i/\i < ((q.length:Nat):Int) then
  (cond (decide (lo > 0))
  (((nP N b ([lo]:List Int)).bind fun Om =>
  ((tP N bJ Om).bind fun qP =>
  qj N a b q i lo fm qP)))
  (qj N a b q i lo fm bJ))
  else none)))
def ky (N:Nat) (a:List Int) (b:List Int):Nat->(List Int)->(List Int)->Int->Option ((List Int)×(List Int))
 | 0,_,_,_=>none
 | fuel+1,rest,q,i =>
  (cond (decide (i>=0))
  ((if 0<=i/\i < ((a.length:Nat):Int) then
  (if (1+rest.length) * 8<=140737488355328 then
  ((pJ N (([(a.getD ((i).toNat) 0)]:List Int) ++ rest)).bind fun bJ =>
  kx N a b q i bJ (ky N a b fuel) N 0 65535)
  else none)
  else none))
  (((pJ N q).bind fun fJ =>
  some (fJ,rest))))
def qY (N:Nat) (a:List Int) (b:List Int):Option ((List Int)×(List Int)) :=
 (if 0<=((a.length:Nat):Int)/\(8:Int) * ((a.length:Nat):Int)<=281474976710656/\((a.length:Nat):Int)<=9223372036854775807 then
 ky N a b N ([]:List Int) (List.replicate a.length 0:List Int) (aE (((a.length:Nat):Int) - 1))
 else none)
def pK (N:Nat):Nat->(List Int)->(List Int)->Option ((List Int))
 | 0,_,_=>none
 | fuel+1,a2,b2 =>
  (cond (decide (((b2.length:Nat):Int) > 0))
  (((qY N a2 b2).bind fun ko =>
  pK N fuel b2 ko.2))
  (some a2))
def GF (N:Nat) (a:List Int) (b:List Int):Option ((List Int)) :=
 pK N N a b
def qZ (N:Nat) (a:cX) (b:cX):Option (aa) :=
 ((lp N a.fL).bind fun tR =>
 ((lp N b.fL).bind fun rV =>
 (cond (((rV.length:Nat):Int) == 0)
 (((hH N a.fG tR).bind fun uy =>
 ((wx N 1).bind fun Te =>
 some (⟨uy,Te⟩:aa))))
 (((GF N tR rV).bind fun akf =>
 ((qY N tR akf).bind fun ko =>
 ((qY N rV akf).bind fun mV =>
 ((hH N (!(a.fG == b.fG)) ko.1).bind fun H4 =>
 ((hH N false mV.1).bind fun H5 =>
 some (⟨H4,H5⟩:aa))))))))))
def jt (N:Nat) (x:aa):Option (aa) :=
 ((qZ N x.fN x.fD).bind fun yO =>
 some yO)
def qk (N:Nat) (a:cX) (b:cX):Option (cX) :=
 ((lp N a.fL).bind fun tR =>
 ((lp N b.fL).bind fun rV =>
 ((nP N tR rV).bind fun qu =>
 ((hH N (!(a.fG == b.fG)) qu).bind fun uy =>
 some uy))))
def l7 (N:Nat) (a:List Int) (b:List Int):Nat->(List Int)->Int->Int->Option ((List Int))
 | 0,_,_,_=>none
 | fuel+1,out,carry,i =>
  (cond (cond (cond (decide (i < ((a.length:Nat):Int))) true (decide (i < ((b.length:Nat):Int)))) true (decide (carry > 0)))
  (((pe N a i).bind fun dm =>
  ((pe N b i).bind fun vV =>
  (if (out.length+1) * 8<=140737488355328 then
  l7 N a b fuel (out ++ ([((aE ((aE (dm+vV))+carry)).tmod 65536)]:List Int)) (aE ((aE ((aE (dm+vV))+carry)).tdiv 65536)) (aE (i+1))
  else none))))
  (((pJ N out).bind fun bJ =>
  some bJ)))
def CN (N:Nat) (a:List Int) (b:List Int):Option ((List Int)) :=
 l7 N a b N ([]:List Int) 0 0
def GG (N:Nat) (a:cX) (b:cX):Option (cX) :=
 ((lp N a.fL).bind fun tR =>
 ((lp N b.fL).bind fun rV =>
 (cond (a.fG == b.fG)
 (((CN N tR rV).bind fun zW =>
 ((hH N a.fG zW).bind fun uy =>
 some uy)))
 (((qi N tR rV).bind fun jx =>
 (cond (decide (jx>=0))
 (((tP N tR rV).bind fun qP =>
 ((hH N a.fG qP).bind fun H4 =>
 some H4)))
 (((tP N rV tR).bind fun xU =>
 ((hH N b.fG xU).bind fun H5 =>
 some H5)))))))))
def nQ (N:Nat) (x:aa) (y:aa):Option (aa) :=
 ((jt N x).bind fun jb =>
 ((jt N y).bind fun kf =>
 ((qk N jb.fN kf.fD).bind fun uq =>
 ((qk N kf.fN jb.fD).bind fun nC =>
 ((GG N uq nC).bind fun Uw =>
 ((qk N jb.fD kf.fD).bind fun JK =>
 ((qZ N Uw JK).bind fun yO =>
 some yO)))))))
def jE (N:Nat) (x:aa) (y:aa):Option (aa) :=
 ((jt N x).bind fun jb =>
 ((jt N y).bind fun kf =>
 ((qk N jb.fN kf.fN).bind fun uq =>
 ((qk N jb.fD kf.fD).bind fun nC =>
 ((qZ N uq nC).bind fun yO =>
 some yO)))))
def jc (N:Nat) (l:List Int):Nat->aa->Int->Option (aa)
 | 0,_,_=>none
 | fuel+1,out,i =>
  (cond (decide (i < ((l.length:Nat):Int)))
  ((if 0<=i/\i < ((l.length:Nat):Int) then
  ((pH N (l.getD ((i).toNat) 0)).bind fun rQ2 =>
  ((jE N out rQ2).bind fun aY =>
  jc N l fuel aY (aE (i+1))))
  else none))
  (some out))
def kz (N:Nat) (l:List Int):Option (aa) :=
 ((pH N 1).bind fun rQ =>
 jc N l N rQ 0)
def yP (N:Nat) (n:Int):Option (Int) :=
 (cond (decide (n < 0))
 (some (aE (0 - n)))
 (some n))
def nR (N:Nat) (x:aa) (y:aa):Option (aa) :=
 ((jt N x).bind fun jb =>
 ((jt N y).bind fun kf =>
 ((qk N jb.fN kf.fD).bind fun uq =>
 ((qk N jb.fD kf.fN).bind fun nC =>
 ((qZ N uq nC).bind fun yO =>
 some yO)))))
def GH (N:Nat) (a:cX):Option (cX) :=
 ((lp N a.fL).bind fun tR =>
 ((hH N (!a.fG) tR).bind fun uy =>
 some uy))
def xX (N:Nat) (x:aa):Option (aa) :=
 ((jt N x).bind fun jb =>
 ((GH N jb.fN).bind fun amV =>
 some (⟨amV,jb.fD⟩:aa)))
def rF (N:Nat) (x:aa) (y:aa):Option (aa) :=
 ((xX N y).bind fun UD =>
 ((nQ N x UD).bind fun bQ =>
 some bQ))
def kQ (N:Nat) (p:cQ) (jF:(List fy)):Nat->aa->aa->aa->aa->Int->Option (uY)
 | 0,_,_,_,_,_=>none
 | fuel+1,H3,trim,adh,ends,i =>
  (cond (decide (i < ((jF.length:Nat):Int)))
  ((if 0<=i/\i < ((jF.length:Nat):Int) then
  ((pH N ((jF.getD ((i).toNat) fy.d).wU)).bind fun rQ5 =>
  ((nQ N H3 rQ5).bind fun bQ =>
  ((kz N ([(jF.getD ((i).toNat) fy.d).wU,(jF.getD ((i).toNat) fy.d).zD]:List Int)).bind fun bU =>
  ((nQ N trim bU).bind fun lz =>
  ((kz N ([(jF.getD ((i).toNat) fy.d).wU,(jF.getD ((i).toNat) fy.d).D4]:List Int)).bind fun db =>
  ((nQ N adh db).bind fun sE =>
  ((yP N ((jF.getD ((i).toNat) fy.d).zD)).bind fun Xp =>
  ((kz N ([(jF.getD ((i).toNat) fy.d).wU,Xp]:List Int)).bind fun iv =>
  ((nQ N ends iv).bind fun PB =>
  kQ N p jF fuel bQ lz sE PB (aE (i+1)))))))))))
  else none))
  (((pH N 1000000000).bind fun rQ6 =>
  ((pH N 12).bind fun rQ7 =>
  ((jE N rQ7 rQ6).bind fun aY =>
  ((jE N rQ6 H3).bind fun gr =>
  ((kz N ([p.er,p.oE,p.sD]:List Int)).bind fun iw =>
  ((nR N gr iw).bind fun vT =>
  ((jE N aY trim).bind fun yK =>
  ((kz N ([p.er,p.sD,p.oE,p.oE,p.oE]:List Int)).bind fun GI =>
  ((nR N yK GI).bind fun PC =>
  ((jE N aY adh).bind fun PD =>
  ((kz N ([p.er,p.oE,p.sD,p.sD,p.sD]:List Int)).bind fun GJ =>
  ((nR N PD GJ).bind fun PE =>
  ((pH N 2).bind fun rQ8 =>
  ((nR N ends rQ8).bind fun PF =>
  ((pH N p.oE).bind fun rQ9 =>
  ((jE N H3 rQ9).bind fun PG =>
  ((pH N 8).bind fun amW =>
  ((nR N PG amW).bind fun PH =>
  ((rF N PF PH).bind fun eJ =>
  some (⟨vT,PC,PE,eJ⟩:uY))))))))))))))))))))))
def wz (N:Nat) (p:cQ) (steps:List Int):Option (uY) :=
 ((pH N 0).bind fun rQ =>
 ((pH N 0).bind fun rQ2 =>
 ((pH N 0).bind fun rQ3 =>
 ((pH N 0).bind fun rQ4 =>
 ((wy N p steps).bind fun jF =>
 kQ N p jF N rQ rQ2 rQ3 rQ4 0)))))
def oM (N:Nat) (b:j8):Nat->Int->Option (Int)
 | 0,_=>none
 | fuel+1,x =>
  (cond (decide (x < ((b.fT.length:Nat):Int)))
  ((if 0<=x/\x < ((b.fT.length:Nat):Int) then
  ((bK N ((b.fT.getD ((x).toNat) lV.d).wY) (-1000000) 1000000).bind fun j4 =>
  ((cond (!(!j4)) (bK N ((b.fT.getD ((x).toNat) lV.d).Uv) 1 1000000) (some false)).bind fun w8 =>
  (cond (cond (!j4) true (!w8))
  (some 2)
  ((if ((decide (x > 0))=true->0<=(aE (x - 1))/\(aE (x - 1)) < ((b.fT.length:Nat):Int)) then
  (cond (cond (decide (x > 0)) (decide ((b.fT.getD ((x).toNat) lV.d).wY<=(b.fT.getD ((aE (x - 1)).toNat) lV.d).wY)) false)
  (some 10)
  (oM N b fuel (aE (x+1))))
  else none)))))
  else none))
  ((if 0<=(aE (((b.fT.length:Nat):Int) - 1))/\(aE (((b.fT.length:Nat):Int) - 1)) < ((b.fT.length:Nat):Int) then
  (cond (cond (decide (b.Td<=(b.fT.getD ((aE (((b.fT.length:Nat):Int) - 1)).toNat) lV.d).wY)) true (decide (b.Td > 1000000)))
  (some 2)
  (some 0))
  else none)))
def AJ (N:Nat) (b:j8):Option (Int) :=
 ((bK N ((b.fT.length:Nat):Int) 1 20).bind fun m7 =>
 (cond (!m7)
 (some 2)
 (oM N b N 0)))
def yQ (N:Nat) (b:j8):Option (Int) :=
 ((vo N b.jo).bind fun CJ =>
 (cond (!CJ)
 (some 4)
 (((AJ N b).bind fun H6 =>
 some H6))))
def Li (N:Nat) (b:j8):Option (Int) :=
 (if 0<=(0:Int)/\0 < ((b.fT.length:Nat):Int) then
 some ((b.fT.getD 0 lV.d).wY)
 else none)
def vW (N:Nat) (b:j8) (level:Int) (sum:Int) (x:Int) (sW:Int->Int->Option (Int)) (top:Int):Option (Int) :=
 sW (aE (sum+(aE ((b.fT.getD ((x).toNat) lV.d).Uv * (if (aE (top - (b.fT.getD ((x).toNat) lV.d).wY)) > 0 then (aE (top - (b.fT.getD ((x).toNat) lV.d).wY)) else 0))))) (aE (x+1))
def ql (N:Nat) (b:j8) (level:Int):Nat->Int->Int->Option (Int)
 | 0,_,_=>none
 | fuel+1,sum,x =>
  (cond (decide (x < ((b.fT.length:Nat):Int)))
  ((if 0<=x/\x < ((b.fT.length:Nat):Int) then
  (cond (decide ((aE (x+1)) < ((b.fT.length:Nat):Int)))
  ((if 0<=(aE (x+1))/\(aE (x+1)) < ((b.fT.length:Nat):Int) then
  vW N b level sum x (ql N b level fuel) (if (b.fT.getD ((aE (x+1)).toNat) lV.d).wY < level then (b.fT.getD ((aE (x+1)).toNat) lV.d).wY else level)
  else none))
  (vW N b level sum x (ql N b level fuel) level))
  else none))
  (some sum))
def H7 (N:Nat) (b:j8) (level:Int):Option (Int) :=
 ql N b level N 0 0
def H8 (N:Nat) (b:j8) (level:Int):Option (Int×Int) :=
 ((yQ N b).bind fun z5 =>
 (cond (z5 != 0)
 (some (0,z5))
 (((Li N b).bind fun Zi =>
 ((bK N level Zi b.Td).bind fun m7 =>
 (cond (!m7)
 (some (0,2))
 (((H7 N b level).bind fun UE =>
 some (UE,0)))))))))
def iT (N:Nat):Option (Bool) :=
 ((H8 N (⟨(⟨#[65]⟩:ByteArray),([(⟨0,100⟩:lV)]:List lV),50⟩:j8) 30).bind fun CO =>
 some (cond (CO.2 == 0) (CO.1 == 3000) false))
def j5 (N:Nat) (s:uY) (p9:Int):Option (aa) :=
 if p9=0 then
 (some s.yn)
 else if p9=1 then
 (some s.K6)
 else if p9=2 then
 (some s.K7)
 else if p9=3 then
 (some s.Tc)
 else none
def dq (N:Nat) (p:cQ) (p9:Int) (sX:aa):Nat->(List aa)->Int->Option (aa×(List aa))
 | 0,_,_=>none
 | fuel+1,out,i =>
  (cond (decide (i < ((p.dh.length:Nat):Int)))
  ((if 0<=((p.dh.length:Nat):Int)/\(8:Int) * ((p.dh.length:Nat):Int)<=281474976710656/\((p.dh.length:Nat):Int)<=9223372036854775807 then
  (if 0<=i/\i < (((List.replicate p.dh.length 0:List Int).length:Nat):Int) then
  ((wz N p ((List.replicate p.dh.length 0:List Int).set ((i).toNat) 1)).bind fun UF =>
  ((j5 N UF p9).bind fun PJ =>
  ((rF N PJ sX).bind fun eJ =>
  (if (out.length+1) * 64<=140737488355328 then
  dq N p p9 sX fuel (out ++ ([eJ]:List aa)) (aE (i+1))
  else none))))
  else none)
  else none))
  (some (sX,out)))
def gk (N:Nat) (p:cQ) (p9:Int):Option (aa×(List aa)) :=
 (if 0<=((p.dh.length:Nat):Int)/\(8:Int) * ((p.dh.length:Nat):Int)<=281474976710656/\((p.dh.length:Nat):Int)<=9223372036854775807 then
 ((wz N p (List.replicate p.dh.length 0:List Int)).bind fun Zj =>
 ((j5 N Zj p9).bind fun sX =>
 dq N p p9 sX N ([]:List aa) 0))
 else none)
def dz (N:Nat) (l:List aa) (n:Int):Nat->(List aa)->Int->Option ((List aa))
 | 0,_,_=>none
 | fuel+1,out,i =>
  (cond (decide (i < ((l.length:Nat):Int)))
  ((if 0<=i/\i < ((l.length:Nat):Int) then
  ((ER N n).bind fun rW =>
  ((jE N (⟨((l.getD ((i).toNat) aa.d).fN),((l.getD ((i).toNat) aa.d).fD)⟩:aa) rW).bind fun aY =>
  (if (out.length+1) * 64<=140737488355328 then
  dz N l n fuel (out ++ ([aY]:List aa)) (aE (i+1))
  else none)))
  else none))
  (some out))
def q8 (N:Nat) (l:List aa) (n:Int):Option ((List aa)) :=
 dz N l n N ([]:List aa) 0
def dI (N:Nat) (zero:aa) (steps:List aa) (Gz:Int) (abr:Int):Option (aV) :=
 ((q8 N steps Gz).bind fun qu =>
 ((ER N abr).bind fun rW =>
 ((ER N Gz).bind fun PK =>
 ((jE N zero PK).bind fun aY =>
 ((rF N rW aY).bind fun eJ =>
 some (⟨qu,eJ⟩:aV))))))
def dK (N:Nat) (p:cQ):Nat->(List aV)->Int->Option ((List aV))
 | 0,_,_=>none
 | fuel+1,out,i =>
  (cond (decide (i < ((p.dh.length:Nat):Int)))
  ((if 0<=((p.dh.length:Nat):Int)/\(64:Int) * ((p.dh.length:Nat):Int)<=281474976710656/\((p.dh.length:Nat):Int)<=9223372036854775807 then
  ((ER N 1).bind fun rW =>
  ((ER N (-1)).bind fun PK =>
  (if 0<=i/\i < (((List.replicate p.dh.length aa.d:List aa).length:Nat):Int) then
  (if 0<=i/\i < ((p.dh.length:Nat):Int) then
  ((ER N ((p.dh.getD ((i).toNat) cL.d).cu)).bind fun rW3 =>
  ((ER N 0).bind fun rW4 =>
  (if (out.length+2) * 88<=140737488355328 then
  dK N p fuel (out ++ ([(⟨((List.replicate p.dh.length aa.d:List aa).set ((i).toNat) rW),rW3⟩:aV),(⟨((List.replicate p.dh.length aa.d:List aa).set ((i).toNat) PK),rW4⟩:aV)]:List aV)) (aE (i+1))
  else none)))
  else none)
  else none)))
  else none))
  (some out))
def oA (N:Nat) (p:cQ) (l:bF):Option ((List aV)) :=
 ((gk N p 0).bind fun GK =>
 ((gk N p 1).bind fun BL =>
 ((gk N p 2).bind fun BM =>
 ((gk N p 3).bind fun BN =>
 ((dI N GK.1 GK.2 1 l.aA).bind fun Tj =>
 ((dI N GK.1 GK.2 (-1) (aE (0 - l.aq))).bind fun Lj =>
 ((dI N BL.1 BL.2 1000 l.bN).bind fun Lk =>
 ((dI N BL.1 BL.2 (-1000) l.bN).bind fun Ll =>
 ((dI N BM.1 BM.2 1000 l.bq).bind fun Lm =>
 ((dI N BM.1 BM.2 (-1000) l.bq).bind fun Ln =>
 ((dI N BN.1 BN.2 1 l.bp).bind fun Lo =>
 ((dI N BN.1 BN.2 (-1) l.bp).bind fun Lp =>
 dK N p N ([Tj,Lj,Lk,Ll,Lm,Ln,Lo,Lp]:List aV) 0))))))))))))
def Lq (N:Nat):Option ((List ByteArray)) :=
 some ([(⟨#[100,114,97,117,103,104,116]⟩:ByteArray),(⟨#[116,114,105,109]⟩:ByteArray),(⟨#[104,101,101,108]⟩:ByteArray),(⟨#[104,111,103]⟩:ByteArray)]:List ByteArray)
def vX (N:Nat) (bits:Int) (iU:(List ByteArray)) (x:Int) (sY:(List ByteArray)->Int->Option ((List ByteArray))) (eY:List ByteArray):Option ((List ByteArray)) :=
 sY eY (aE (x+1))
def qm (N:Nat) (bits:Int) (iU:(List ByteArray)):Nat->(List ByteArray)->Int->Option ((List ByteArray))
 | 0,_,_=>none
 | fuel+1,out,x =>
  (cond (decide (x < ((iU.length:Nat):Int)))
  ((if 0<=x/\x < ((iU.length:Nat):Int) then
  (if (0:Int)<=x then
  (cond ((JF .i64 (wX .i64 bits x) 1) == 1)
  ((if (out.length+1) * 16<=140737488355328 then
  vX N bits iU x (qm N bits iU fuel) (out ++ ([(iU.getD ((x).toNat) ByteArray.empty)]:List ByteArray))
  else none))
  (vX N bits iU x (qm N bits iU fuel) out))
  else none)
  else none))
  (some out))
def vq (N:Nat) (bits:Int):Option ((List ByteArray)) :=
 ((Lq N).bind fun iU =>
 qm N bits iU N ([]:List ByteArray) 0)
def CP (N:Nat) (p:cQ) (l:bF) (steps:List Int):Option ((List ByteArray)×Int) :=
 ((ke N p).bind fun vS =>
 (cond (vS != 0)
 (some (([]:List ByteArray),vS))
 (((lh N l).bind fun gu =>
 (cond (gu != 0)
 (some (([]:List ByteArray),gu))
 (((oH N p steps).bind fun kM =>
 (cond (kM.2 != 0)
 (some (([]:List ByteArray),kM.2))
 (((pF N p l).bind fun fU =>
 ((lj N fU p kM.1).bind fun ot =>
 ((vq N (zV .i64 15 ot)).bind fun CQ =>
 some (CQ,0)))))))))))))
def q9 (N:Nat) (c:List aa) (x:List aa):Nat->aa->Int->Option (aa)
 | 0,_,_=>none
 | fuel+1,sum,x2 =>
  (cond (decide (x2 < ((c.length:Nat):Int)))
  ((if 0<=x2/\x2 < ((c.length:Nat):Int) then
  (if 0<=x2/\x2 < ((x.length:Nat):Int) then
  ((fq N (⟨((c.getD ((x2).toNat) aa.d).fN),((c.getD ((x2).toNat) aa.d).fD)⟩:aa) (⟨((x.getD ((x2).toNat) aa.d).fN),((x.getD ((x2).toNat) aa.d).fD)⟩:aa)).bind fun aY =>
  ((g8 N sum (⟨aY.fN,aY.fD⟩:aa)).bind fun bQ =>
  q9 N c x fuel bQ (aE (x2+1))))
  else none)
  else none))
  (some sum))
def On (N:Nat) (c:List aa) (x:List aa):Option (aa) :=
 ((fo N 0).bind fun aw =>
 q9 N c x N aw 0)
def sZ (N:Nat) (vr:aV) (C0:List aa):Option (Bool) :=
 ((On N vr.dd C0).bind fun amX =>
 ((mn N amX vr.jT).bind fun pA =>
 some (decide (pA > 0))))
def cl (N:Nat) (s:List aV) (C0:List aa):Nat->Int->Option (Int)
 | 0,_=>none
 | fuel+1,x =>
  (cond (decide (x < ((s.length:Nat):Int)))
  ((if 0<=x/\x < ((s.length:Nat):Int) then
  ((sZ N (s.getD ((x).toNat) aV.d) C0).bind fun EV =>
  (cond EV
  (some x)
  (cl N s C0 fuel (aE (x+1)))))
  else none))
  (some (-1)))
def mW (N:Nat) (s:List aV) (C0:List aa):Option (Int) :=
 cl N s C0 N 0
def lr (N:Nat) (s:List aV) (C0:List aa):Option (Bool) :=
 ((mW N s C0).bind fun H0 =>
 some (decide (H0>=0)))
def vY (N:Nat) (l:List aV) (pf:List aa):Option (Bool) :=
 ((lr N l pf).bind fun H0 =>
 some (!H0))
def uz (N:Nat) (l:List aV) (pf:List aa):Option (Int) :=
 ((nZ N ((pf.length:Nat):Int) l).bind fun jA =>
 (cond (jA != 0)
 (some jA)
 (((vY N l pf).bind fun H9 =>
 (cond (!H9)
 (some 24)
 (some 0))))))
def jd (N:Nat) (p:cQ):Nat->ab->Int->Option (ab×Bool)
 | 0,_,_=>none
 | fuel+1,s2,x =>
  (cond (decide (x < ((p.dh.length:Nat):Int)))
  ((if 0<=x/\x < ((p.dh.length:Nat):Int) then
  (if 0<=x/\x < ((6:Nat):Int) then
  (cond (decide ((om [s2.e0,s2.e1,s2.e2,s2.e3,s2.e4,s2.e5] ((x).toNat)) < (p.dh.getD ((x).toNat) cL.d).cu))
  (some ((⟨(jP ((x).toNat) 0 (aE ((om [s2.e0,s2.e1,s2.e2,s2.e3,s2.e4,s2.e5] ((x).toNat))+1)) s2.e0),(jP ((x).toNat) 1 (aE ((om [s2.e0,s2.e1,s2.e2,s2.e3,s2.e4,s2.e5] ((x).toNat))+1)) s2.e1),(jP ((x).toNat) 2 (aE ((om [s2.e0,s2.e1,s2.e2,s2.e3,s2.e4,s2.e5] ((x).toNat))+1)) s2.e2),(jP ((x).toNat) 3 (aE ((om [s2.e0,s2.e1,s2.e2,s2.e3,s2.e4,s2.e5] ((x).toNat))+1)) s2.e3),(jP ((x).toNat) 4 (aE ((om [s2.e0,s2.e1,s2.e2,s2.e3,s2.e4,s2.e5] ((x).toNat))+1)) s2.e4),(jP ((x).toNat) 5 (aE ((om [s2.e0,s2.e1,s2.e2,s2.e3,s2.e4,s2.e5] ((x).toNat))+1)) s2.e5)⟩:ab),true))
  (jd N p fuel (⟨(jP ((x).toNat) 0 0 s2.e0),(jP ((x).toNat) 1 0 s2.e1),(jP ((x).toNat) 2 0 s2.e2),(jP ((x).toNat) 3 0 s2.e3),(jP ((x).toNat) 4 0 s2.e4),(jP ((x).toNat) 5 0 s2.e5)⟩:ab) (aE (x+1))))
  else none)
  else none))
  (some (s2,false)))
def vZ (N:Nat) (p:cQ) (s:ab):Option (ab×Bool) :=
 jd N p N s 0
def il (N:Nat) (bits:Int) (C0:cR):Nat->Int->Option (Bool)
 | 0,_=>none
 | fuel+1,x =>
  (cond (decide (x < 16))
  ((if 0<=x/\x < ((16:Nat):Int) then
  (cond (cond (Jp [C0.e0,C0.e1,C0.e2,C0.e3,C0.e4,C0.e5,C0.e6,C0.e7,C0.e8,C0.e9,C0.e10,C0.e11,C0.e12,C0.e13,C0.e14,C0.e15] ((x).toNat)) ((JF .i64 x bits) == bits) false)
  (some true)
  (il N bits C0 fuel (aE (x+1))))
  else none))
  (some false))
def oO (N:Nat) (bits:Int) (C0:cR):Option (Bool) :=
 il N bits C0 N 0
def s5 (N:Nat) (possible:cR) (bit:Int) (oB:Int->Int->Option ((List ByteArray)×Int)) (EU:Int):Option ((List ByteArray)×Int) :=
 oB EU (wX .i64 bit 1)
def b7 (N:Nat) (possible:cR):Nat->Int->Int->Option ((List ByteArray)×Int)
 | 0,_,_=>none
 | fuel+1,rest,bit =>
  (cond (decide (bit > 0))
  (((oO N (zV .i64 rest bit) possible).bind fun EW =>
  (cond (!EW)
  (s5 N possible bit (b7 N possible fuel) (zV .i64 rest bit))
  (s5 N possible bit (b7 N possible fuel) rest))))
  (((vq N rest).bind fun CQ =>
  some (CQ,0))))
def fP (N:Nat) (p:cQ) (fU:da):Nat->cR->ab->Bool->Option ((List ByteArray)×Int)
 | 0,_,_,_=>none
 | fuel+1,possible,s,more =>
  (cond more
  (((lj N fU p s).bind fun ot =>
  (if 0<=ot/\ot < ((16:Nat):Int) then
  ((vZ N p s).bind fun CR =>
  fP N p fU fuel (⟨(Cy ((ot).toNat) 0 true possible.e0),(Cy ((ot).toNat) 1 true possible.e1),(Cy ((ot).toNat) 2 true possible.e2),(Cy ((ot).toNat) 3 true possible.e3),(Cy ((ot).toNat) 4 true possible.e4),(Cy ((ot).toNat) 5 true possible.e5),(Cy ((ot).toNat) 6 true possible.e6),(Cy ((ot).toNat) 7 true possible.e7),(Cy ((ot).toNat) 8 true possible.e8),(Cy ((ot).toNat) 9 true possible.e9),(Cy ((ot).toNat) 10 true possible.e10),(Cy ((ot).toNat) 11 true possible.e11),(Cy ((ot).toNat) 12 true possible.e12),(Cy ((ot).toNat) 13 true possible.e13),(Cy ((ot).toNat) 14 true possible.e14),(Cy ((ot).toNat) 15 true possible.e15)⟩:cR) CR.1 CR.2)
  else none)))
  (((oO N 15 possible).bind fun Ia =>
  (cond Ia
  (some (([]:List ByteArray),0))
  (b7 N possible N 15 8)))))
def xY (N:Nat) (p:cQ) (l:bF):Option ((List ByteArray)×Int) :=
 ((ke N p).bind fun vS =>
 (cond (vS != 0)
 (some (([]:List ByteArray),vS))
 (((lh N l).bind fun gu =>
 (cond (gu != 0)
 (some (([]:List ByteArray),gu))
 (((BJ N p).bind fun PA =>
 (cond (decide (PA > 20000))
 (some (([]:List ByteArray),8))
 (((pF N p l).bind fun fU =>
 fP N p fU N (⟨false,false,false,false,false,false,false,false,false,false,false,false,false,false,false,false⟩:cR) (⟨0,0,0,0,0,0⟩:ab) true))))))))))
def jM (N:Nat) (l:List aV) (y:List aa) (bound:aa) (x2:Int) (lA:(List aa)->aa->Int->Option ((List aa)×aa×Bool)):Nat->(List aa)->Int->Option ((List aa)×aa×Bool)
 | 0,_,_=>none
 | fuel+1,yR,x3 =>
  (cond (decide (x3 < ((((l.getD ((x2).toNat) aV.d).dd).length:Nat):Int)))
  ((if 0<=x3/\x3 < ((((l.getD ((x2).toNat) aV.d).dd).length:Nat):Int) then
  (if 0<=x3/\x3 < ((yR.length:Nat):Int) then
  (if 0<=x2/\x2 < ((y.length:Nat):Int) then
  ((fq N (⟨((y.getD ((x2).toNat) aa.d).fN),((y.getD ((x2).toNat) aa.d).fD)⟩:aa) (⟨((((l.getD ((x2).toNat) aV.d).dd).getD ((x3).toNat) aa.d).fN),((((l.getD ((x2).toNat) aV.d).dd).getD ((x3).toNat) aa.d).fD)⟩:aa)).bind fun aY =>
  ((g8 N (⟨((yR.getD ((x3).toNat) aa.d).fN),((yR.getD ((x3).toNat) aa.d).fD)⟩:aa) (⟨aY.fN,aY.fD⟩:aa)).bind fun bQ =>
  jM N l y bound x2 lA fuel (yR.set ((x3).toNat) bQ) (aE (x3+1))))
  else none)
  else none)
  else none))
  ((if 0<=x2/\x2 < ((y.length:Nat):Int) then
  ((fq N (⟨((y.getD ((x2).toNat) aa.d).fN),((y.getD ((x2).toNat) aa.d).fD)⟩:aa) (⟨(((l.getD ((x2).toNat) aV.d).jT).fN),(((l.getD ((x2).toNat) aV.d).jT).fD)⟩:aa)).bind fun gr =>
  ((g8 N bound (⟨gr.fN,gr.fD⟩:aa)).bind fun lz =>
  lA yR lz (aE (x2+1))))
  else none)))
def fQ (N:Nat) (l:List aV) (y:List aa):Nat->(List aa)->aa->Int->Option ((List aa)×aa×Bool)
 | 0,_,_,_=>none
 | fuel+1,EX,bound,x2 =>
  (cond (decide (x2 < ((l.length:Nat):Int)))
  ((if 0<=x2/\x2 < ((l.length:Nat):Int) then
  (if 0<=x2/\x2 < ((y.length:Nat):Int) then
  ((n7 N (⟨((y.getD ((x2).toNat) aa.d).fN),((y.getD ((x2).toNat) aa.d).fD)⟩:aa)).bind fun bg =>
  (cond (decide (bg < 0))
  (some (([]:List aa),bound,false))
  (jM N l y bound x2 (fQ N l y fuel) N EX 0)))
  else none)
  else none))
  (some (EX,bound,true)))
def jN (N:Nat) (n:Int) (l:List aV) (y:List aa):Nat->(List aa)->Int->Option ((List aa)×aa×Bool)
 | 0,_,_=>none
 | fuel+1,Lr,x =>
  (cond (decide (x < (((List.replicate ((n).toNat) aa.d:List aa).length:Nat):Int)))
  (((fo N 0).bind fun aw =>
  (if 0<=x/\x < ((Lr.length:Nat):Int) then
  jN N n l y fuel (Lr.set ((x).toNat) aw) (aE (x+1))
  else none)))
  (((fo N 0).bind fun ly =>
  fQ N l y N Lr ly 0)))
def xZ (N:Nat) (n:Int) (l:List aV) (y:List aa):Option ((List aa)×aa×Bool) :=
 (if 0<=n/\(64:Int) * n<=281474976710656/\n<=9223372036854775807 then
 jN N n l y N (List.replicate ((n).toNat) aa.d:List aa) 0
 else none)
def kB (N:Nat) (x:aa):Option (Bool) :=
 ((g7 N x).bind fun eI =>
 some (!eI))
def cm (N:Nat) (s:List aa):Nat->Int->Option (Int)
 | 0,_=>none
 | fuel+1,x =>
  (cond (decide (x < ((s.length:Nat):Int)))
  ((if 0<=x/\x < ((s.length:Nat):Int) then
  ((kB N (⟨((s.getD ((x).toNat) aa.d).fN),((s.getD ((x).toNat) aa.d).fD)⟩:aa)).bind fun eW =>
  (cond eW
  (some x)
  (cm N s fuel (aE (x+1)))))
  else none))
  (some (-1)))
def mX (N:Nat) (s:List aa):Option (Int) :=
 cm N s N 0
def jV (N:Nat) (s:List aa):Option (Bool) :=
 ((mX N s).bind fun Pw =>
 some (decide (Pw>=0)))
def jG (N:Nat) (n:Int) (l:List aV) (wA:List aa):Option (Int) :=
 ((nZ N n l).bind fun jA =>
 (cond (jA != 0)
 (some jA)
 ((cond (((wA.length:Nat):Int) != ((l.length:Nat):Int))
 (some 11)
 (((xZ N n l wA).bind fun mc =>
 ((cond (!(!mc.2.2)) (n7 N mc.2.1) (some 0)).bind fun bg =>
 ((cond (!(cond (!mc.2.2) true (decide (bg>=0)))) (jV N mc.1) (some false)).bind fun Pw =>
 (cond (cond (cond (!mc.2.2) true (decide (bg>=0))) true Pw)
 (some 24)
 (some 0))))))))))
noncomputable def bI (N:Nat) (x:dM) (BO:(List aV)) (k9:(List ByteArray)×Int):Nat->(List aa)->Int->Option (Bool)
 | 0,_,_=>none
 | fuel+1,pf,i =>
  (cond (decide (i < ((x.zy.a8.length:Nat):Int)))
  ((if 0<=i/\i < ((x.zy.a8.length:Nat):Int) then
  ((ER N (x.zy.a8.getD ((i).toNat) 0)).bind fun rW =>
  (if (pf.length+1) * 64<=140737488355328 then
  bI N x BO k9 fuel (pf ++ ([rW]:List aa)) (aE (i+1))
  else none))
  else none))
  (((cond (!(k9.2 != 0)) (uz N BO pf) (some 0)).bind fun EY =>
  (cond (cond (k9.2 != 0) true (!((((k9.1.length:Nat):Int) == 0) == (EY == 0))))
  (some false)
  (((uw N ((x.qh.dh.length:Nat):Int) BO).bind fun oP =>
  ((xY N x.qh x.Bx).bind fun jI =>
  (cond (cond (jI.2 != 0) true (cond (oP.2.2 != 0) (oP.2.2 != 29) false))
  (some false)
  ((cond (oP.2.2 == 29)
  (((zY N x.qh x.Bx x.zy).bind fun BP =>
  ((jG N ((x.qh.dh.length:Nat):Int) BO oP.2.1).bind fun eW =>
  ((cond (cond (cond (eW == 0) (decide (((jI.1.length:Nat):Int) > 0)) false) (BP.2 == 16) false) (iT N) (some false)).bind fun afQ =>
  some (cond (cond (cond (eW == 0) (decide (((jI.1.length:Nat):Int) > 0)) false) (BP.2 == 16) false) afQ false)))))
  (((iT N).bind fun afR =>
  some afR))))))))))))
noncomputable def eh (N:Nat) (x:dM):Option (Bool) :=
 ((cond (!(cond (cond (decide (((x.qh.pZ.length:Nat):Int) > 20)) true (decide (((x.qh.dh.length:Nat):Int) > 3))) true (decide (((x.zy.a8.length:Nat):Int) > 10)))) (mb N x.qh x.Bx x.zy) (some 0)).bind fun pg =>
 ((cond (!(cond (cond (cond (decide (((x.qh.pZ.length:Nat):Int) > 20)) true (decide (((x.qh.dh.length:Nat):Int) > 3))) true (decide (((x.zy.a8.length:Nat):Int) > 10))) true (pg != 0))) (xV N x.qh 60) (some 0)).bind fun UG =>
 (cond (cond (cond (cond (cond (decide (((x.qh.pZ.length:Nat):Int) > 20)) true (decide (((x.qh.dh.length:Nat):Int) > 3))) true (decide (((x.zy.a8.length:Nat):Int) > 10))) true (pg != 0)) true (decide (UG > 60)))
 (((iT N).bind fun amY =>
 some amY))
 (((oA N x.qh x.Bx).bind fun BO =>
 ((CP N x.qh x.Bx x.zy.a8).bind fun k9 =>
 bI N x BO k9 N ([]:List aa) 0))))))
end Go.Den
