/- The functions of the program as Lean functions, each in the Option monad; N bounds the rounds of loops. No conditions. -/
import Derived.Test.YtdigjibahkjfdaaGreatCe
set_option linter.unusedVariables false
set_option linter.unusedSimpArgs false
set_option linter.unusedVariables false
namespace Go.Den
open Go.Ab
abbrev zA (s:ByteArray) (x:Int):Int:=AI s x.toNat
structure bR where
 fG:Bool
 fL:List Int
def bR.d:bR:=⟨false,[]⟩
def bR.wf (x:bR):Prop:=wB x.fG∧(wL (wK .u16)) x.fL
def iv (x:bR):List AV:=[(aB x.fG),(aK (cU .u16) 0 x.fL)]
structure aa where
 fN:bR
 fD:bR
def aa.d:aa:=⟨bR.d,bR.d⟩
def aa.wf (x:aa):Prop:=bR.wf x.fN∧bR.wf x.fD
def ag (x:aa):List AV:=[(aB x.fN.fG),(aK (cU .u16) 0 x.fN.fL),(aB x.fD.fG),(aK (cU .u16) 0 x.fD.fL)]
structure aE where
 bj:List aa
 bK:aa
def aE.d:aE:=⟨[],aa.d⟩
def aE.wf (x:aE):Prop:=(wL aa.wf) x.bj∧aa.wf x.bK
def zN (x:aE):List AV:=[(aK ag aa.d x.bj),(aB x.bK.fN.fG),(aK (cU .u16) 0 x.bK.fN.fL),(aB x.bK.fD.fG),(aK (cU .u16) 0 x.bK.fD.fL)]
structure jq where
 tk:Int
 tl:Int
 kj:List Int
 m8:List Int
 Ku:List (List aa)
 Kv:List aa
 eY:List aa
 af:aa
 bI:Int
def jq.d:jq:=⟨0,0,[],[],[],[],[],aa.d,0⟩
def jq.wf (x:jq):Prop:=wI x.tk∧wI x.tl∧(wL wI) x.kj∧(wL wI) x.m8∧(wL (wL aa.wf)) x.Ku∧(wL aa.wf) x.Kv∧(wL aa.wf) x.eY∧aa.wf x.af∧wI x.bI
def jq.cells (x:jq):List AV:=[(aI x.tk),(aI x.tl),(aK cI 0 x.kj),(aK cI 0 x.m8),(aK (fun x=>[aK ag aa.d x]) [] x.Ku),(aK ag aa.d x.Kv),(aK ag aa.d x.eY),(aB x.af.fN.fG),(aK (cU .u16) 0 x.af.fN.fL),(aB x.af.fD.fG),(aK (cU .u16) 0 x.af.fD.fL),(aI x.bI)]
structure cQ where
 Kw:Int
 jT:List aE
def cQ.d:cQ:=⟨0,[]⟩
def cQ.wf (x:cQ):Prop:=wI x.Kw∧(wL aE.wf) x.jT
def cQ.cells (x:cQ):List AV:=[(aI x.Kw),(aK zN aE.d x.jT)]
structure fo where
 av:List Int
 bc:List aa
def fo.d:fo:=⟨[],[]⟩
def fo.wf (x:fo):Prop:=(wL wI) x.av∧(wL aa.wf) x.bc
def x5 (x:fo):List AV:=[(aK cI 0 x.av),(aK ag aa.d x.bc)]
structure j4 where
 g8:aa
 cu:List aa
 bA:List aa
def j4.d:j4:=⟨aa.d,[],[]⟩
def j4.wf (x:j4):Prop:=aa.wf x.g8∧(wL aa.wf) x.cu∧(wL aa.wf) x.bA
def j4.cells (x:j4):List AV:=[(aB x.g8.fN.fG),(aK (cU .u16) 0 x.g8.fN.fL),(aB x.g8.fD.fG),(aK (cU .u16) 0 x.g8.fD.fL),(aK ag aa.d x.cu),(aK ag aa.d x.bA)]
def oL (N:Nat) (vr:aE) (C0:Int):Option (Bool) :=
 some (decide (((vr.bj.length:Nat):Int) > C0))
def cz (N:Nat) (s:List aE) (C0:Int):Nat→Int→Option (Int)
 | 0,_=>none
 | fuel+1,x =>
  (cond (decide (x < ((s.length:Nat):Int)))
  ((if 0≤x∧x < ((s.length:Nat):Int) then
  ((oL N (s.getD ((x).toNat) aE.d) C0).bind fun yJ =>
  (cond yJ
  (some x)
  (cz N s C0 fuel (ao (x+1)))))
  else none))
  (some (-1)))
def l4 (N:Nat) (s:List aE) (C0:Int):Option (Int) :=
 cz N s C0 N 0
def kC (N:Nat) (s:List aE) (C0:Int):Option (Bool) :=
 ((l4 N s C0).bind fun AS =>
 some (decide (AS≥0)))
def iw (N:Nat) (n:Int) (l:List aE):Option (Int) :=
 (cond (cond (decide (n < 0)) true (decide (n > 12)))
 (some 2)
 ((cond (decide (((l.length:Nat):Int) > 40))
 (some 8)
 (((kC N l n).bind fun AS =>
 (cond AS
 (some 11)
 (some 0)))))))
def j5 (N:Nat):Nat→Int→(List Int)→Option ((List Int))
 | 0,_,_=>none
 | fuel+1,n2,out =>
  (cond (decide (n2 > 0))
  ((if (out.length+1) * 2≤140737488355328 then
  j5 N fuel (ot .u64 n2 16) (out ++ ([(IntKind.u16.wrap (n2))]:List Int))
  else none))
  (some out))
def na (N:Nat) (n:Int):Option ((List Int)) :=
 j5 N N n ([]:List Int)
def nb (N:Nat):Nat→(List Int)→Option ((List Int))
 | 0,_=>none
 | fuel+1,n2 =>
  (if ((decide (((n2.length:Nat):Int) > 0))=true→0≤(ao (((n2.length:Nat):Int) - 1))∧(ao (((n2.length:Nat):Int) - 1)) < ((n2.length:Nat):Int)) then
  (cond (cond (decide (((n2.length:Nat):Int) > 0)) ((n2.getD ((ao (((n2.length:Nat):Int) - 1)).toNat) 0) == 0) false)
  ((if 0≤(ao (((n2.length:Nat):Int) - 1)).toNat∧(ao (((n2.length:Nat):Int) - 1)).toNat≤n2.length then
  (if 0≤(ao (((n2.length:Nat):Int) - 1)) then
  nb N fuel ((n2.take ((ao (((n2.length:Nat):Int) - 1)).toNat)).drop 0)
  else none)
  else none))
  (some n2))
  else none)
def fK (N:Nat) (n:List Int):Option ((List Int)) :=
 nb N N n
def dA (N:Nat) (s:List Int):Option ((List Int)) :=
 (if (0+s.length) * 2≤140737488355328 then
 some (([]:List Int) ++ s)
 else none)
def gG (N:Nat) (neg:Bool) (n:List Int):Option (bR) :=
 ((fK N n).bind fun b7 =>
 (cond (((b7.length:Nat):Int) == 0)
 (some (⟨false,([]:List Int)⟩:bR))
 (((dA N b7).bind fun AU =>
 some (⟨neg,AU⟩:bR)))))
def AW (N:Nat) (n:Int):Option (bR) :=
 (cond (decide (n < 0))
 (((na N (IntKind.u64.wrap (0 - (IntKind.u64.wrap (n))))).bind fun tI =>
 ((gG N true tI).bind fun JK =>
 some JK)))
 (((na N (IntKind.u64.wrap (n))).bind fun Dj =>
 ((gG N false Dj).bind fun AX =>
 some AX))))
def lS (N:Nat) (n:List Int):Nat→Int→Int→Option (Int×Bool)
 | 0,_,_=>none
 | fuel+1,out,i =>
  (cond (decide (i≥0))
  ((if 0≤i∧i < ((n.length:Nat):Int) then
  lS N n fuel (vM .u64 (iK .u64 out 16) (IntKind.u64.wrap ((n.getD ((i).toNat) 0)))) (ao (i - 1))
  else none))
  (some (out,true)))
def vR (N:Nat) (n:List Int):Option (Int×Bool) :=
 (cond (decide (((n.length:Nat):Int) > 4))
 (some (0,false))
 (lS N n N 0 (ao (((n.length:Nat):Int) - 1))))
def iL (N:Nat) (a:List Int) (b:List Int):Nat→Int→Option (Int)
 | 0,_=>none
 | fuel+1,i =>
  (cond (decide (i≥0))
  ((if 0≤i∧i < ((a.length:Nat):Int) then
  (if 0≤i∧i < ((b.length:Nat):Int) then
  (cond ((a.getD ((i).toNat) 0) != (b.getD ((i).toNat) 0))
  (some (ao ((ao ((a.getD ((i).toNat) 0))) - (ao ((b.getD ((i).toNat) 0))))))
  (iL N a b fuel (ao (i - 1))))
  else none)
  else none))
  (some 0))
def nc (N:Nat) (a:List Int) (b:List Int):Option (Int) :=
 (cond (((a.length:Nat):Int) != ((b.length:Nat):Int))
 (some (ao (((a.length:Nat):Int) - ((b.length:Nat):Int))))
 (iL N a b N (ao (((a.length:Nat):Int) - 1))))
def kR (N:Nat) (a:List Int) (b:Int):Nat→(List Int)→Int→Int→Option ((List Int)×Int)
 | 0,_,_,_=>none
 | fuel+1,q,rest,i =>
  (cond (decide (i≥0))
  ((if 0≤i∧i < ((a.length:Nat):Int) then
  (if ((IntKind.u32.wrap (b)):Int)≠0 then
  (if 0≤i∧i < ((q.length:Nat):Int) then
  kR N a b fuel (q.set ((i).toNat) (IntKind.u16.wrap ((IntKind.u32.wrap ((vM .u32 (iK .u32 rest 16) (IntKind.u32.wrap ((a.getD ((i).toNat) 0)))).tdiv (IntKind.u32.wrap (b))))))) ((vM .u32 (iK .u32 rest 16) (IntKind.u32.wrap ((a.getD ((i).toNat) 0)))).tmod (IntKind.u32.wrap (b))) (ao (i - 1))
  else none)
  else none)
  else none))
  (((fK N q).bind fun b7 =>
  some (b7,(IntKind.u16.wrap (rest))))))
def vS (N:Nat) (a:List Int) (b:Int):Option ((List Int)×Int) :=
 (if 0≤((a.length:Nat):Int)∧(2:Int) * ((a.length:Nat):Int)≤281474976710656∧((a.length:Nat):Int)≤9223372036854775807 then
 kR N a b N (List.replicate a.length 0:List Int) 0 (ao (((a.length:Nat):Int) - 1))
 else none)
def cM (N:Nat) (x2:Int) (n:Int):Option (Int) :=
 (if 0≤(IntKind.u8.wrap (x2))∧(IntKind.u8.wrap (x2)) < (((⟨#[0,1,2,2,3,3,3,3,4,4,4,4,4,4,4,4,5,5,5,5,5,5,5,5,5,5,5,5,5,5,5,5,6,6,6,6,6,6,6,6,6,6,6,6,6,6,6,6,6,6,6,6,6,6,6,6,6,6,6,6,6,6,6,6,7,7,7,7,7,7,7,7,7,7,7,7,7,7,7,7,7,7,7,7,7,7,7,7,7,7,7,7,7,7,7,7,7,7,7,7,7,7,7,7,7,7,7,7,7,7,7,7,7,7,7,7,7,7,7,7,7,7,7,7,7,7,7,7,8,8,8,8,8,8,8,8,8,8,8,8,8,8,8,8,8,8,8,8,8,8,8,8,8,8,8,8,8,8,8,8,8,8,8,8,8,8,8,8,8,8,8,8,8,8,8,8,8,8,8,8,8,8,8,8,8,8,8,8,8,8,8,8,8,8,8,8,8,8,8,8,8,8,8,8,8,8,8,8,8,8,8,8,8,8,8,8,8,8,8,8,8,8,8,8,8,8,8,8,8,8,8,8,8,8,8,8,8,8,8,8,8,8,8,8,8,8,8,8,8,8,8,8,8,8,8,8]⟩:ByteArray).size:Nat):Int) then
 some (ao (n+(ao ((AI (⟨#[0,1,2,2,3,3,3,3,4,4,4,4,4,4,4,4,5,5,5,5,5,5,5,5,5,5,5,5,5,5,5,5,6,6,6,6,6,6,6,6,6,6,6,6,6,6,6,6,6,6,6,6,6,6,6,6,6,6,6,6,6,6,6,6,7,7,7,7,7,7,7,7,7,7,7,7,7,7,7,7,7,7,7,7,7,7,7,7,7,7,7,7,7,7,7,7,7,7,7,7,7,7,7,7,7,7,7,7,7,7,7,7,7,7,7,7,7,7,7,7,7,7,7,7,7,7,7,7,8,8,8,8,8,8,8,8,8,8,8,8,8,8,8,8,8,8,8,8,8,8,8,8,8,8,8,8,8,8,8,8,8,8,8,8,8,8,8,8,8,8,8,8,8,8,8,8,8,8,8,8,8,8,8,8,8,8,8,8,8,8,8,8,8,8,8,8,8,8,8,8,8,8,8,8,8,8,8,8,8,8,8,8,8,8,8,8,8,8,8,8,8,8,8,8,8,8,8,8,8,8,8,8,8,8,8,8,8,8,8,8,8,8,8,8,8,8,8,8,8,8,8,8,8,8,8,8]⟩:ByteArray) ((IntKind.u8.wrap (x2)).toNat))))))
 else none)
def kS (N:Nat) (x:Int):Option (Int) :=
 (cond (decide (x≥256))
 (cM N (ot .u16 x 8) 8)
 (cM N x 0))
def fc (N:Nat) (x:Int):Option (Int) :=
 ((kS N x).bind fun M5 =>
 some (ao (16 - M5)))
def iP (N:Nat) (a:List Int) (Af:Int):Nat→(List Int)→Int→Option ((List Int))
 | 0,_,_=>none
 | fuel+1,out,x =>
  (cond (decide (x < ((a.length:Nat):Int)))
  ((if 0≤x∧x < ((a.length:Nat):Int) then
  (if (0:Int)≤Af then
  (if 0≤x∧x < ((out.length:Nat):Int) then
  (if 0≤(ao (x+1))∧(ao (x+1)) < (((out.set ((x).toNat) (vM .u16 (out.getD ((x).toNat) 0) (IntKind.u16.wrap ((iK .u32 (IntKind.u32.wrap ((a.getD ((x).toNat) 0))) Af))))).length:Nat):Int) then
  iP N a Af fuel ((out.set ((x).toNat) (vM .u16 (out.getD ((x).toNat) 0) (IntKind.u16.wrap ((iK .u32 (IntKind.u32.wrap ((a.getD ((x).toNat) 0))) Af))))).set ((ao (x+1)).toNat) (IntKind.u16.wrap ((ot .u32 (iK .u32 (IntKind.u32.wrap ((a.getD ((x).toNat) 0))) Af) 16)))) (ao (x+1))
  else none)
  else none)
  else none)
  else none))
  (some out))
def py (N:Nat) (a:List Int) (Af:Int):Option ((List Int)) :=
 (if 0≤(ao (((a.length:Nat):Int)+1))∧(2:Int) * (ao (((a.length:Nat):Int)+1))≤281474976710656∧(ao (((a.length:Nat):Int)+1))≤9223372036854775807 then
 iP N a Af N (List.replicate ((ao (((a.length:Nat):Int)+1)).toNat) 0:List Int) 0
 else none)
def nQ (N:Nat) (uo:Nat) (un:Nat) (v:List Int) (q:Int) (bd:List Int) (borrow:Int) (x:Int) (pU:(List Int)→Int→Int→Int→Option (Int×(List Int))) (x2:Int):Option (Int×(List Int)) :=
 (if 0≤x∧x < ((un:Nat):Int) then
 (if uo+un≤bd.length then
 pU (bd.set (bQ uo (x).toNat) (IntKind.u16.wrap ((ao ((ao ((ao ((bd.getD (bQ uo (x).toNat) 0))) - (ao ((vP .u64 x2 65535)))))+borrow))))) (ot .u64 x2 16) (ot .i64 (ao ((ao ((ao ((bd.getD (bQ uo (x).toNat) 0))) - (ao ((vP .u64 x2 65535)))))+borrow)) 16) (ao (x+1))
 else none)
 else none)
def kT (N:Nat) (cL:List Int) (q2:Int):Option (Int×(List Int)) :=
 some ((IntKind.u16.wrap (q2)),cL)
def iy (N:Nat) (uo:Nat) (un:Nat) (v:List Int) (q:Int):Nat→(List Int)→Int→Int→Option (Int×(List Int))
 | 0,_,_,_=>none
 | fuel+1,bZ,fz,x3 =>
  (cond (decide (x3 < ((v.length:Nat):Int)))
  ((if 0≤x3∧x3 < ((un:Nat):Int) then
  (if uo+un≤bZ.length then
  (if 0≤x3∧x3 < ((v.length:Nat):Int) then
  iy N uo un v q fuel (bZ.set (bQ uo (x3).toNat) (IntKind.u16.wrap ((IntKind.u32.wrap (fz+(IntKind.u32.wrap ((IntKind.u32.wrap ((bZ.getD (bQ uo (x3).toNat) 0)))+(IntKind.u32.wrap ((v.getD ((x3).toNat) 0)))))))))) (ot .u32 (IntKind.u32.wrap (fz+(IntKind.u32.wrap ((IntKind.u32.wrap ((bZ.getD (bQ uo (x3).toNat) 0)))+(IntKind.u32.wrap ((v.getD ((x3).toNat) 0))))))) 16) (ao (x3+1))
  else none)
  else none)
  else none))
  ((if 0≤((v.length:Nat):Int)∧((v.length:Nat):Int) < ((un:Nat):Int) then
  (if uo+un≤bZ.length then
  kT N (bZ.set (bQ uo v.length) (IntKind.u16.wrap ((bZ.getD (bQ uo v.length) 0)+(IntKind.u16.wrap (fz))))) (IntKind.u64.wrap (q - 1))
  else none)
  else none)))
def fQ (N:Nat) (uo:Nat) (un:Nat) (v:List Int) (q:Int):Nat→(List Int)→Int→Int→Int→Option (Int×(List Int))
 | 0,_,_,_,_=>none
 | fuel+1,bd,carry,borrow,x =>
  (cond (decide (x < (ao (((v.length:Nat):Int)+1))))
  ((cond (decide (x < ((v.length:Nat):Int)))
  ((if 0≤x∧x < ((v.length:Nat):Int) then
  nQ N uo un v q bd borrow x (fQ N uo un v q fuel) (IntKind.u64.wrap (carry+(IntKind.u64.wrap (q * (IntKind.u64.wrap ((v.getD ((x).toNat) 0)))))))
  else none))
  (nQ N uo un v q bd borrow x (fQ N uo un v q fuel) carry)))
  ((cond (decide (borrow < 0))
  (iy N uo un v q N bd 0 0)
  (kT N bd q))))
def kU (N:Nat) (uo:Nat) (un:Nat) (v:List Int) (C0:List Int):Nat→Int→Int→Option (Int×(List Int))
 | 0,_,_=>none
 | fuel+1,q,rest =>
  (if (((decide (rest < 65536)) && ((decide (rest < 65536)) && (!(decide (q > 65535)))))=true→0≤(ao (((v.length:Nat):Int) - 2))∧(ao (((v.length:Nat):Int) - 2)) < ((v.length:Nat):Int)) then
  (if (((decide (rest < 65536)) && ((decide (rest < 65536)) && (!(decide (q > 65535)))))=true→0≤(ao (((v.length:Nat):Int) - 2))∧(ao (((v.length:Nat):Int) - 2)) < ((un:Nat):Int)) then
  (if (((decide (rest < 65536)) && ((decide (rest < 65536)) && (!(decide (q > 65535)))))=true→uo+un≤C0.length) then
  (cond (cond (decide (rest < 65536)) (cond (decide (q > 65535)) true (decide ((IntKind.u64.wrap (q * (IntKind.u64.wrap ((v.getD ((ao (((v.length:Nat):Int) - 2)).toNat) 0))))) > (vM .u64 (iK .u64 rest 16) (IntKind.u64.wrap ((C0.getD (bQ uo (ao (((v.length:Nat):Int) - 2)).toNat) 0))))))) false)
  ((if 0≤(ao (((v.length:Nat):Int) - 1))∧(ao (((v.length:Nat):Int) - 1)) < ((v.length:Nat):Int) then
  kU N uo un v C0 fuel (IntKind.u64.wrap (q - 1)) (IntKind.u64.wrap (rest+(IntKind.u64.wrap ((v.getD ((ao (((v.length:Nat):Int) - 1)).toNat) 0)))))
  else none))
  (fQ N uo un v q N C0 0 0 0))
  else none)
  else none)
  else none)
def vT (N:Nat) (uo:Nat) (un:Nat) (v:List Int) (C0:List Int):Option (Int×(List Int)) :=
 (if 0≤((v.length:Nat):Int)∧((v.length:Nat):Int) < ((un:Nat):Int) then
 (if uo+un≤C0.length then
 (if 0≤(ao (((v.length:Nat):Int) - 1))∧(ao (((v.length:Nat):Int) - 1)) < ((un:Nat):Int) then
 (if 0≤(ao (((v.length:Nat):Int) - 1))∧(ao (((v.length:Nat):Int) - 1)) < ((v.length:Nat):Int) then
 (if ((IntKind.u64.wrap ((v.getD ((ao (((v.length:Nat):Int) - 1)).toNat) 0))):Int)≠0 then
 kU N uo un v C0 N (IntKind.u64.wrap ((vM .u64 (iK .u64 (IntKind.u64.wrap ((C0.getD (bQ uo v.length) 0))) 16) (IntKind.u64.wrap ((C0.getD (bQ uo (ao (((v.length:Nat):Int) - 1)).toNat) 0)))).tdiv (IntKind.u64.wrap ((v.getD ((ao (((v.length:Nat):Int) - 1)).toNat) 0))))) ((vM .u64 (iK .u64 (IntKind.u64.wrap ((C0.getD (bQ uo v.length) 0))) 16) (IntKind.u64.wrap ((C0.getD (bQ uo (ao (((v.length:Nat):Int) - 1)).toNat) 0)))).tmod (IntKind.u64.wrap ((v.getD ((ao (((v.length:Nat):Int) - 1)).toNat) 0))))
 else none)
 else none)
 else none)
 else none)
 else none)
def jJ (N:Nat) (b:List Int) (bB:Int) (q:List Int) (u:List Int):Nat→(List Int)→Int→Option ((List Int)×(List Int))
 | 0,_,_=>none
 | fuel+1,vr,x =>
  (cond (decide (x < (((b.length - 0):Nat):Int)))
  ((if 0≤x∧x < ((u.length:Nat):Int) then
  (if 0≤(ao (x+1))∧(ao (x+1)) < ((u.length:Nat):Int) then
  (if (0:Int)≤bB then
  (if 0≤x∧x < ((vr.length:Nat):Int) then
  jJ N b bB q u fuel (vr.set ((x).toNat) (IntKind.u16.wrap ((ot .u32 (vM .u32 (IntKind.u32.wrap ((u.getD ((x).toNat) 0))) (iK .u32 (IntKind.u32.wrap ((u.getD ((ao (x+1)).toNat) 0))) 16)) bB)))) (ao (x+1))
  else none)
  else none)
  else none)
  else none))
  (((fK N q).bind fun gu =>
  ((fK N vr).bind fun M6 =>
  some (gu,M6)))))
def jK (N:Nat) (b:List Int) (bB:Int) (fE:(List Int)):Nat→(List Int)→(List Int)→Int→Option ((List Int)×(List Int))
 | 0,_,_,_=>none
 | fuel+1,q,u,j =>
  (cond (decide (j≥0))
  ((if (j).toNat≤(ao ((ao (j+(((b.length - 0):Nat):Int)))+1)).toNat∧(ao ((ao (j+(((b.length - 0):Nat):Int)))+1)).toNat≤u.length then
  (if 0≤j then
  (if 0≤(ao ((ao (j+(((b.length - 0):Nat):Int)))+1)) then
  (if 0≤b.length∧b.length≤fE.length then
  ((vT N ((j).toNat) ((ao ((ao (j+(((b.length - 0):Nat):Int)))+1)).toNat - (j).toNat) ((fE.take b.length).drop 0) u).bind fun cZ =>
  (if cZ.2.length=u.length then
  (if 0≤j∧j < ((q.length:Nat):Int) then
  jK N b bB fE fuel (q.set ((j).toNat) cZ.1) cZ.2 (ao (j - 1))
  else none)
  else none))
  else none)
  else none)
  else none)
  else none))
  ((if 0≤(((b.length - 0):Nat):Int)∧(2:Int) * (((b.length - 0):Nat):Int)≤281474976710656∧(((b.length - 0):Nat):Int)≤9223372036854775807 then
  jJ N b bB q u N (List.replicate (b.length - 0) 0:List Int) 0
  else none)))
def nf (N:Nat) (a:List Int) (b:List Int):Option ((List Int)×(List Int)) :=
 ((nc N a b).bind fun j6 =>
 (cond (decide (j6 < 0))
 (((dA N a).bind fun AU =>
 some (([]:List Int),AU)))
 ((cond (((b.length:Nat):Int) == 1)
 ((if 0≤(0:Int)∧0 < ((b.length:Nat):Int) then
 ((vS N a (b.getD 0 0)).bind fun AY =>
 ((fK N ([AY.2]:List Int)).bind fun b7 =>
 some (AY.1,b7)))
 else none))
 ((if 0≤(ao (((b.length:Nat):Int) - 1))∧(ao (((b.length:Nat):Int) - 1)) < ((b.length:Nat):Int) then
 ((fc N (b.getD ((ao (((b.length:Nat):Int) - 1)).toNat) 0)).bind fun bB =>
 ((py N a bB).bind fun eR =>
 ((py N b bB).bind fun fE =>
 (if 0≤b.length∧b.length≤fE.length then
 (if 0≤(ao (((eR.length:Nat):Int) - (((b.length - 0):Nat):Int)))∧(2:Int) * (ao (((eR.length:Nat):Int) - (((b.length - 0):Nat):Int)))≤281474976710656∧(ao (((eR.length:Nat):Int) - (((b.length - 0):Nat):Int)))≤9223372036854775807 then
 jK N b bB fE N (List.replicate ((ao (((eR.length:Nat):Int) - (((b.length - 0):Nat):Int))).toNat) 0:List Int) eR (ao ((ao (((eR.length:Nat):Int) - (((b.length - 0):Nat):Int))) - 1))
 else none)
 else none))))
 else none))))))
def lk (N:Nat) (oM:(List Int)→(List Int)→Option ((List Int))):Nat→Int→Int→Option ((List Int))
 | 0,_,_=>none
 | fuel+1,x,y =>
  (cond (decide (y > 0))
  ((if (y:Int)≠0 then
  lk N oM fuel y (x.tmod y)
  else none))
  (((na N x).bind fun tI =>
  some tI)))
def jL (N:Nat):Nat→(List Int)→(List Int)→Option ((List Int))
 | 0,_,_=>none
 | fuel+1,a2,b2 =>
  (cond (decide (((b2.length:Nat):Int) > 0))
  (((vR N a2).bind fun IT =>
  ((vR N b2).bind fun F6 =>
  (cond (cond IT.2 F6.2 false)
  (lk N (jL N fuel) N IT.1 F6.1)
  (((nf N a2 b2).bind fun jz =>
  jL N fuel b2 jz.2))))))
  (some a2))
def xf (N:Nat) (a:List Int) (b:List Int):Option ((List Int)) :=
 jL N N a b
def mg (N:Nat) (a:bR) (b:bR) (x:List Int) (y:List Int):Option (aa) :=
 ((gG N (!(a.fG == b.fG)) x).bind fun JK =>
 ((gG N false y).bind fun AX =>
 some (⟨JK,AX⟩:aa)))
def iz (N:Nat) (a:bR) (b:bR):Option (aa) :=
 ((fK N a.fL).bind fun b7 =>
 ((fK N b.fL).bind fun gu =>
 ((xf N b7 gu).bind fun oN =>
 (if ((!(((oN.length:Nat):Int) != 1))=true→0≤(0:Int)∧0 < ((oN.length:Nat):Int)) then
 (cond (cond (((oN.length:Nat):Int) != 1) true ((oN.getD 0 0) != 1))
 (((nf N b7 oN).bind fun jz =>
 ((nf N gu oN).bind fun BQ =>
 mg N a b jz.1 BQ.1)))
 (mg N a b b7 gu))
 else none))))
def zO (N:Nat) (a:bR):Option (aa) :=
 ((iz N a (⟨false,([1]:List Int)⟩:bR)).bind fun CC =>
 some CC)
def da (N:Nat) (n:Int):Option (aa) :=
 ((AW N n).bind fun Kx =>
 ((zO N Kx).bind fun M7 =>
 some M7))
def tJ (N:Nat) (a:bR):Option (Int) :=
 ((fK N a.fL).bind fun b7 =>
 (cond (((b7.length:Nat):Int) == 0)
 (some 0)
 ((cond a.fG
 (some (-1))
 (some 1)))))
def kJ (N:Nat) (x:aa):Option (bR) :=
 ((tJ N x.fD).bind fun vU =>
 (cond (vU == 0)
 (some (⟨false,([1]:List Int)⟩:bR))
 (some x.fD)))
def jl (N:Nat) (x:aa):Option (aa) :=
 ((kJ N x).bind fun jA =>
 ((iz N x.fN jA).bind fun CC =>
 some CC))
def sP (N:Nat) (a:bR):Option (bR) :=
 some (⟨(!a.fG),a.fL⟩:bR)
def ej (N:Nat) (x:aa):Option (aa) :=
 ((sP N x.fN).bind fun Dk =>
 ((kJ N x).bind fun jA =>
 ((iz N Dk jA).bind fun CC =>
 some CC)))
def nR (N:Nat) (n:Int) (l:List aE) (ar:aa) (t:List Int) (t2:List Int) (t3:List (List aa)) (t4:List aa) (x2:Int) (row:List aa) (x3:Int) (pV:(List aa)→Int→Option (jq)) (eu:(List Int)→(List (List aa))→(List aa)→Int→Option (jq)) (c7:aa):Option (jq) :=
 ((ej N c7).bind fun aR =>
 (if 0≤x3∧x3 < ((row.length:Nat):Int) then
 (if 0≤(ao (n+x3))∧(ao (n+x3)) < ((row.length:Nat):Int) then
 pV ((row.set ((x3).toNat) aR).set ((ao (n+x3)).toNat) c7) (ao (x3+1))
 else none)
 else none))
def fR (N:Nat) (n:Int) (l:List aE) (ar:aa) (t:List Int) (t2:List Int) (t3:List (List aa)) (t4:List aa) (x2:Int) (eu:(List Int)→(List (List aa))→(List aa)→Int→Option (jq)):Nat→(List aa)→Int→Option (jq)
 | 0,_,_=>none
 | fuel+1,row,x3 =>
  (cond (decide (x3 < n))
  (((da N 0).bind fun dV =>
  (cond (decide (x3 < ((((l.getD ((x2).toNat) aE.d).bj).length:Nat):Int)))
  ((if 0≤x3∧x3 < ((((l.getD ((x2).toNat) aE.d).bj).length:Nat):Int) then
  ((jl N (⟨((((l.getD ((x2).toNat) aE.d).bj).getD ((x3).toNat) aa.d).fN),((((l.getD ((x2).toNat) aE.d).bj).getD ((x3).toNat) aa.d).fD)⟩:aa)).bind fun jB =>
  nR N n l ar t t2 t3 t4 x2 row x3 (fR N n l ar t t2 t3 t4 x2 eu fuel) eu jB)
  else none))
  (nR N n l ar t t2 t3 t4 x2 row x3 (fR N n l ar t t2 t3 t4 x2 eu fuel) eu dV))))
  (((da N 1).bind fun b8 =>
  (if 0≤(ao (2 * n))∧(ao (2 * n)) < ((row.length:Nat):Int) then
  (if (t3.length+1) * 24≤140737488355328 then
  ((jl N (⟨(((l.getD ((x2).toNat) aE.d).bK).fN),(((l.getD ((x2).toNat) aE.d).bK).fD)⟩:aa)).bind fun df =>
  (if (t4.length+1) * 64≤140737488355328 then
  eu (t2 ++ ([(ao ((ao (2 * n))+x2))]:List Int)) (t3 ++ [(row.set ((ao (2 * n)).toNat) b8)]) (t4 ++ ([df]:List aa)) (ao (x2+1))
  else none))
  else none)
  else none))))
def kV (N:Nat) (n:Int) (l:List aE) (ar:aa) (t:List Int) (t2:List Int) (t3:List (List aa)) (t4:List aa):Nat→(List aa)→Int→Option (jq)
 | 0,_,_=>none
 | fuel+1,t5,x4 =>
  (cond (decide (x4 < (((List.replicate ((ao ((ao (2 * n))+1)).toNat) aa.d:List aa).length:Nat):Int)))
  (((da N 0).bind fun pW =>
  (if 0≤x4∧x4 < ((t5.length:Nat):Int) then
  kV N n l ar t t2 t3 t4 fuel (t5.set ((x4).toNat) pW) (ao (x4+1))
  else none)))
  (some (⟨n,((l.length:Nat):Int),t2,(t ++ ([(ao ((ao (2 * n))+((l.length:Nat):Int)))]:List Int)),t3,t4,t5,ar,(ao ((ao (2 * n))+((l.length:Nat):Int)))⟩:jq)))
def jC (N:Nat) (n:Int) (l:List aE) (ar:aa) (t:List Int):Nat→(List Int)→(List (List aa))→(List aa)→Int→Option (jq)
 | 0,_,_,_,_=>none
 | fuel+1,t2,t3,t4,x2 =>
  (cond (decide (x2 < ((l.length:Nat):Int)))
  ((if 0≤x2∧x2 < ((l.length:Nat):Int) then
  (if (t2.length+1) * 8≤140737488355328 then
  (if 0≤(ao ((ao (2 * n))+1))∧(64:Int) * (ao ((ao (2 * n))+1))≤281474976710656∧(ao ((ao (2 * n))+1))≤9223372036854775807 then
  fR N n l ar t t2 t3 t4 x2 (jC N n l ar t fuel) N (List.replicate ((ao ((ao (2 * n))+1)).toNat) aa.d:List aa) 0
  else none)
  else none)
  else none))
  ((if 0≤(ao ((ao (2 * n))+1))∧(64:Int) * (ao ((ao (2 * n))+1))≤281474976710656∧(ao ((ao (2 * n))+1))≤9223372036854775807 then
  kV N n l ar t t2 t3 t4 N (List.replicate ((ao ((ao (2 * n))+1)).toNat) aa.d:List aa) 0
  else none)))
def kW (N:Nat) (n:Int) (l:List aE) (ar:aa):Nat→(List Int)→Int→Option (jq)
 | 0,_,_=>none
 | fuel+1,t,x =>
  (cond (decide (x < (ao (2 * n))))
  ((if (t.length+1) * 8≤140737488355328 then
  kW N n l ar fuel (t ++ ([x]:List Int)) (ao (x+1))
  else none))
  ((if (t.length+1) * 8≤140737488355328 then
  jC N n l ar t N ([]:List Int) ([]:List (List aa)) ([]:List aa) 0
  else none)))
def vV (N:Nat) (n:Int) (l:List aE):Option (jq) :=
 ((da N 0).bind fun ar =>
 kW N n l ar N ([]:List Int) 0)
def ij (N:Nat) (x:aa):Option (Int) :=
 ((tJ N x.fN).bind fun vU =>
 ((kJ N x).bind fun jA =>
 ((tJ N jA).bind fun M8 =>
 some (ao (vU * M8)))))
def fX (N:Nat) (x:aa):Option (Bool) :=
 ((tJ N x.fN).bind fun vU =>
 some (vU == 0))
def kX (N:Nat) (a:List Int) (b:List Int) (x:Int) (nh:(List Int)→Int→Option ((List Int))):Nat→(List Int)→Int→Int→Option ((List Int))
 | 0,_,_,_=>none
 | fuel+1,fY,carry,x2 =>
  (cond (decide (x2 < ((b.length:Nat):Int)))
  ((if 0≤x2∧x2 < ((b.length:Nat):Int) then
  (if 0≤(ao (x+x2))∧(ao (x+x2)) < ((fY.length:Nat):Int) then
  kX N a b x nh fuel (fY.set ((ao (x+x2)).toNat) (IntKind.u16.wrap ((IntKind.u32.wrap (carry+(IntKind.u32.wrap ((IntKind.u32.wrap ((IntKind.u32.wrap ((a.getD ((x).toNat) 0))) * (IntKind.u32.wrap ((b.getD ((x2).toNat) 0)))))+(IntKind.u32.wrap ((fY.getD ((ao (x+x2)).toNat) 0)))))))))) (ot .u32 (IntKind.u32.wrap (carry+(IntKind.u32.wrap ((IntKind.u32.wrap ((IntKind.u32.wrap ((a.getD ((x).toNat) 0))) * (IntKind.u32.wrap ((b.getD ((x2).toNat) 0)))))+(IntKind.u32.wrap ((fY.getD ((ao (x+x2)).toNat) 0))))))) 16) (ao (x2+1))
  else none)
  else none))
  ((if 0≤(ao (x+((b.length:Nat):Int)))∧(ao (x+((b.length:Nat):Int))) < ((fY.length:Nat):Int) then
  nh (fY.set ((ao (x+((b.length:Nat):Int))).toNat) (IntKind.u16.wrap (carry))) (ao (x+1))
  else none)))
def kY (N:Nat) (a:List Int) (b:List Int):Nat→(List Int)→Int→Option ((List Int))
 | 0,_,_=>none
 | fuel+1,out,x =>
  (cond (decide (x < ((a.length:Nat):Int)))
  ((if 0≤x∧x < ((a.length:Nat):Int) then
  kX N a b x (kY N a b fuel) N out 0 0
  else none))
  (((fK N out).bind fun b7 =>
  some b7)))
def tn (N:Nat) (a:List Int) (b:List Int):Option ((List Int)) :=
 (if 0≤(ao (((a.length:Nat):Int)+((b.length:Nat):Int)))∧(2:Int) * (ao (((a.length:Nat):Int)+((b.length:Nat):Int)))≤281474976710656∧(ao (((a.length:Nat):Int)+((b.length:Nat):Int)))≤9223372036854775807 then
 kY N a b N (List.replicate ((ao (((a.length:Nat):Int)+((b.length:Nat):Int))).toNat) 0:List Int) 0
 else none)
def pX (N:Nat) (a:bR) (b:bR):Option (bR) :=
 ((fK N a.fL).bind fun b7 =>
 ((fK N b.fL).bind fun gu =>
 ((tn N b7 gu).bind fun sb =>
 ((gG N (!(a.fG == b.fG)) sb).bind fun JK =>
 some JK))))
def pz (N:Nat) (a2:List Int) (b2:List Int) (out:List Int) (x:Int) (qS:(List Int)→Int→Int→Option ((List Int))) (fz:Int):Option ((List Int)) :=
 (if (out.length+1) * 2≤140737488355328 then
 qS (out ++ ([(IntKind.u16.wrap (fz))]:List Int)) (ot .u32 fz 16) (ao (x+1))
 else none)
def jM (N:Nat) (a2:List Int) (b2:List Int):Nat→(List Int)→Int→Int→Option ((List Int))
 | 0,_,_,_=>none
 | fuel+1,out,carry,x =>
  (cond (decide (x < ((a2.length:Nat):Int)))
  ((if 0≤x∧x < ((a2.length:Nat):Int) then
  (cond (decide (x < ((b2.length:Nat):Int)))
  ((if 0≤x∧x < ((b2.length:Nat):Int) then
  pz N a2 b2 out x (jM N a2 b2 fuel) (IntKind.u32.wrap ((IntKind.u32.wrap (carry+(IntKind.u32.wrap ((a2.getD ((x).toNat) 0)))))+(IntKind.u32.wrap ((b2.getD ((x).toNat) 0)))))
  else none))
  (pz N a2 b2 out x (jM N a2 b2 fuel) (IntKind.u32.wrap (carry+(IntKind.u32.wrap ((a2.getD ((x).toNat) 0)))))))
  else none))
  ((if (out.length+1) * 2≤140737488355328 then
  ((fK N (out ++ ([(IntKind.u16.wrap (carry))]:List Int))).bind fun b7 =>
  some b7)
  else none)))
def pC (N:Nat) (a2:List Int) (b2:List Int):Option ((List Int)) :=
 (if 0≤(0:Int)∧(2:Int) * (ao (((a2.length:Nat):Int)+1))≤281474976710656∧(ao (((a2.length:Nat):Int)+1))≤9223372036854775807∧(0:Int)≤(ao (((a2.length:Nat):Int)+1)) then
 jM N a2 b2 N (List.replicate 0 0:List Int) 0 0
 else none)
def tK (N:Nat) (a:List Int) (b:List Int):Option ((List Int)) :=
 (cond (decide (((a.length:Nat):Int) < ((b.length:Nat):Int)))
 (pC N b a)
 (pC N a b))
def nT (N:Nat) (a:List Int) (b:List Int) (out:List Int) (x:Int) (y:Int) (fM:(List Int)→Int→Int→Option ((List Int))) (kn:Int):Option ((List Int)) :=
 (if 0≤x∧x < ((out.length:Nat):Int) then
 fM (out.set ((x).toNat) (IntKind.u16.wrap ((IntKind.u32.wrap ((IntKind.u32.wrap ((IntKind.u32.wrap ((a.getD ((x).toNat) 0)))+(iK .u32 kn 16))) - y))))) kn (ao (x+1))
 else none)
def nU (N:Nat) (a:List Int) (b:List Int) (out:List Int) (x:Int) (fM:(List Int)→Int→Int→Option ((List Int))) (y:Int):Option ((List Int)) :=
 (cond (decide ((IntKind.u32.wrap ((a.getD ((x).toNat) 0))) < y))
 (nT N a b out x y fM 1)
 (nT N a b out x y fM 0))
def gH (N:Nat) (a:List Int) (b:List Int):Nat→(List Int)→Int→Int→Option ((List Int))
 | 0,_,_,_=>none
 | fuel+1,out,borrow,x =>
  (cond (decide (x < ((a.length:Nat):Int)))
  ((if 0≤x∧x < ((a.length:Nat):Int) then
  (cond (decide (x < ((b.length:Nat):Int)))
  ((if 0≤x∧x < ((b.length:Nat):Int) then
  nU N a b out x (gH N a b fuel) (IntKind.u32.wrap (borrow+(IntKind.u32.wrap ((b.getD ((x).toNat) 0)))))
  else none))
  (nU N a b out x (gH N a b fuel) borrow))
  else none))
  (((fK N out).bind fun b7 =>
  some b7)))
def pD (N:Nat) (a:List Int) (b:List Int):Option ((List Int)) :=
 (if 0≤((a.length:Nat):Int)∧(2:Int) * ((a.length:Nat):Int)≤281474976710656∧((a.length:Nat):Int)≤9223372036854775807 then
 gH N a b N (List.replicate a.length 0:List Int) 0 0
 else none)
def BR (N:Nat) (a:bR) (b:bR):Option (bR) :=
 ((fK N a.fL).bind fun b7 =>
 ((fK N b.fL).bind fun gu =>
 (cond (a.fG == b.fG)
 (((tK N b7 gu).bind fun xM =>
 ((gG N a.fG xM).bind fun JK =>
 some JK)))
 (((nc N b7 gu).bind fun j6 =>
 (cond (decide (j6≥0))
 (((pD N b7 gu).bind fun o7 =>
 ((gG N a.fG o7).bind fun AX =>
 some AX)))
 (((pD N gu b7).bind fun xg =>
 ((gG N b.fG xg).bind fun XT =>
 some XT)))))))))
def dn (N:Nat) (x:aa) (y:aa):Option (aa) :=
 ((fX N x).bind fun eS =>
 (cond eS
 (((jl N y).bind fun jB =>
 some jB))
 (((fX N y).bind fun tL =>
 (cond tL
 (((jl N x).bind fun df =>
 some df))
 (((kJ N x).bind fun jA =>
 ((kJ N y).bind fun oO =>
 ((pX N x.fN oO).bind fun xh =>
 ((pX N y.fN jA).bind fun pY =>
 ((BR N xh pY).bind fun M9 =>
 ((pX N jA oO).bind fun F7 =>
 ((iz N M9 F7).bind fun CC =>
 some CC)))))))))))))
def ll (N:Nat) (x:aa) (y:aa):Option (aa) :=
 ((ej N y).bind fun aR =>
 ((dn N x aR).bind fun a9 =>
 some a9))
def gI (N:Nat) (x:aa) (y:aa):Option (Int) :=
 ((ll N x y).bind fun dc =>
 ((ij N dc).bind fun an =>
 some an))
def ru (N:Nat) (x:aa) (y:aa):Option (aa) :=
 ((kJ N y).bind fun jA =>
 ((pX N x.fN jA).bind fun xh =>
 ((kJ N x).bind fun oO =>
 ((pX N oO y.fN).bind fun pY =>
 ((iz N xh pY).bind fun CC =>
 some CC)))))
def dy (N:Nat) (x:aa) (y:aa):Option (aa) :=
 ((pX N x.fN y.fN).bind fun xh =>
 ((kJ N x).bind fun jA =>
 ((kJ N y).bind fun oO =>
 ((pX N jA oO).bind fun pY =>
 ((iz N xh pY).bind fun CC =>
 some CC)))))
def j7 (N:Nat) (j:Int) (f:aa) (C0:List aa) (x:Int) (kZ:(List aa)→Int→Option ((List aa))) (bZ:List aa):Option ((List aa)) :=
 kZ bZ (ao (x+1))
def fZ (N:Nat) (j:Int) (f:aa) (C0:List aa):Nat→(List aa)→Int→Option ((List aa))
 | 0,_,_=>none
 | fuel+1,bd,x =>
  (cond (decide (x < ((C0.length:Nat):Int)))
  ((cond (x == j)
  ((if 0≤x∧x < ((bd.length:Nat):Int) then
  ((dy N f (⟨((bd.getD ((x).toNat) aa.d).fN),((bd.getD ((x).toNat) aa.d).fD)⟩:aa)).bind fun cb =>
  j7 N j f C0 x (fZ N j f C0 fuel) (bd.set ((x).toNat) cb))
  else none))
  ((if 0≤x∧x < ((bd.length:Nat):Int) then
  ((fX N (⟨((bd.getD ((x).toNat) aa.d).fN),((bd.getD ((x).toNat) aa.d).fD)⟩:aa)).bind fun eS =>
  (cond (!eS)
  (((dy N f (⟨((bd.getD ((x).toNat) aa.d).fN),((bd.getD ((x).toNat) aa.d).fD)⟩:aa)).bind fun gJ =>
  ((dn N (⟨((bd.getD ((x).toNat) aa.d).fN),((bd.getD ((x).toNat) aa.d).fD)⟩:aa) gJ).bind fun a9 =>
  j7 N j f C0 x (fZ N j f C0 fuel) (bd.set ((x).toNat) a9))))
  (j7 N j f C0 x (fZ N j f C0 fuel) bd)))
  else none))))
  (some bd))
def sd (N:Nat) (j:Int) (f:aa) (C0:List aa):Option ((List aa)) :=
 fZ N j f C0 N C0 0
def fF (N:Nat) (j:Int) (f:aa) (C0:List aa) (C1:List aa) (x:Int) (jf:(List aa)→Int→Option ((List aa))) (bZ:List aa):Option ((List aa)) :=
 jf bZ (ao (x+1))
def cW (N:Nat) (j:Int) (f:aa) (C0:List aa) (C1:List aa):Nat→(List aa)→Int→Option ((List aa))
 | 0,_,_=>none
 | fuel+1,bd,x =>
  (cond (decide (x < ((C0.length:Nat):Int)))
  ((cond (x == j)
  ((if 0≤x∧x < ((C1.length:Nat):Int) then
  ((dy N f (⟨((C1.getD ((x).toNat) aa.d).fN),((C1.getD ((x).toNat) aa.d).fD)⟩:aa)).bind fun cb =>
  (if 0≤x∧x < ((bd.length:Nat):Int) then
  fF N j f C0 C1 x (cW N j f C0 C1 fuel) (bd.set ((x).toNat) cb)
  else none))
  else none))
  ((if 0≤x∧x < ((C1.length:Nat):Int) then
  ((fX N (⟨((C1.getD ((x).toNat) aa.d).fN),((C1.getD ((x).toNat) aa.d).fD)⟩:aa)).bind fun eS =>
  (cond (!eS)
  ((if 0≤x∧x < ((bd.length:Nat):Int) then
  ((dy N f (⟨((C1.getD ((x).toNat) aa.d).fN),((C1.getD ((x).toNat) aa.d).fD)⟩:aa)).bind fun gJ =>
  ((dn N (⟨((bd.getD ((x).toNat) aa.d).fN),((bd.getD ((x).toNat) aa.d).fD)⟩:aa) gJ).bind fun a9 =>
  fF N j f C0 C1 x (cW N j f C0 C1 fuel) (bd.set ((x).toNat) a9)))
  else none))
  (fF N j f C0 C1 x (cW N j f C0 C1 fuel) bd)))
  else none))))
  (some bd))
def ik (N:Nat) (j:Int) (f:aa) (C0:List aa) (C1:List aa):Option ((List aa)) :=
 cW N j f C0 C1 N C0 0
def iQ (N:Nat) (i:Int) (j:Int) (C0:Int) (bd:Int) (bZ:Bool) (cL:List Int) (cO:Bool) (cP:List Int) (cg:Int) (C1:List Int) (C2:List Int) (C3:List (List aa)) (C4:List aa) (C5:List aa) (x:Int) (jD:(List aa)→Int→Option (jq×(List Int)×(List Int)×(List (List aa))×(List aa)×(List aa))) (F8:List aa):Option (jq×(List Int)×(List Int)×(List (List aa))×(List aa)×(List aa)) :=
 jD F8 (ao (x+1))
def dD (N:Nat) (i:Int) (j:Int) (C0:Int) (bd:Int) (bZ:Bool) (cL:List Int) (cO:Bool) (cP:List Int) (cg:Int) (C1:List Int) (C2:List Int) (C3:List (List aa)) (C5:List aa) (x2:Int) (jE:(List (List aa))→(List aa)→(List aa)→Int→Option (jq×(List Int)×(List Int)×(List (List aa))×(List aa)×(List aa))) (js:List (List aa)) (F9:List aa) (mI:List aa):Option (jq×(List Int)×(List Int)×(List (List aa))×(List aa)×(List aa)) :=
 jE js F9 mI (ao (x2+1))
def gi (N:Nat) (i:Int) (j:Int) (C0:Int) (bd:Int) (cg:Int) (C1:List Int) (C2:List Int) (cd:List (List aa)) (b9:List aa) (mW:List aa) (fk:List aa) (il:Bool) (mX:List Int) (pP:Bool) (pQ:List Int):Option (jq×(List Int)×(List Int)×(List (List aa))×(List aa)×(List aa)) :=
 (if 0≤j∧j < ((C2.length:Nat):Int) then
 (if 0≤i∧i < ((C1.length:Nat):Int) then
 some ((⟨C0,bd,(C1.set ((i).toNat) (C2.getD ((j).toNat) 0)),(C2.set ((j).toNat) (C1.getD ((i).toNat) 0)),(cd.set ((i).toNat) b9),mW,fk,(⟨(⟨il,mX⟩:bR),(⟨pP,pQ⟩:bR)⟩:aa),cg⟩:jq),(C1.set ((i).toNat) (C2.getD ((j).toNat) 0)),(C2.set ((j).toNat) (C1.getD ((i).toNat) 0)),(cd.set ((i).toNat) b9),mW,fk)
 else none)
 else none)
def cw (N:Nat) (i:Int) (j:Int) (C0:Int) (bd:Int) (bZ:Bool) (cL:List Int) (cO:Bool) (cP:List Int) (cg:Int) (C1:List Int) (C2:List Int) (C3:List (List aa)) (C5:List aa):Nat→(List (List aa))→(List aa)→(List aa)→Int→Option (jq×(List Int)×(List Int)×(List (List aa))×(List aa)×(List aa))
 | 0,_,_,_,_=>none
 | fuel+1,cd,b9,mW,x2 =>
  (cond (decide (x2 < ((C3.length:Nat):Int)))
  ((cond (decide ((x2).toNat=(i).toNat))
  ((if 0≤x2∧x2 < ((cd.length:Nat):Int) then
  (if 0≤j∧j < ((b9.length:Nat):Int) then
  ((cond (x2 != i) (fX N (⟨((b9.getD ((j).toNat) aa.d).fN),((b9.getD ((j).toNat) aa.d).fD)⟩:aa)) (some false)).bind fun eS =>
  (cond (cond (x2 != i) (!eS) false)
  ((if 0≤x2∧x2 < ((mW.length:Nat):Int) then
  (if 0≤i∧i < ((mW.length:Nat):Int) then
  ((dy N (⟨((b9.getD ((j).toNat) aa.d).fN),((b9.getD ((j).toNat) aa.d).fD)⟩:aa) (⟨((mW.getD ((i).toNat) aa.d).fN),((mW.getD ((i).toNat) aa.d).fD)⟩:aa)).bind fun cb =>
  ((dn N (⟨((mW.getD ((x2).toNat) aa.d).fN),((mW.getD ((x2).toNat) aa.d).fD)⟩:aa) cb).bind fun a9 =>
  (cond (decide ((x2).toNat=(i).toNat))
  (((sd N j (⟨((b9.getD ((j).toNat) aa.d).fN),((b9.getD ((j).toNat) aa.d).fD)⟩:aa) b9).bind fun HP =>
  (if HP.length=b9.length then
  dD N i j C0 bd bZ cL cO cP cg C1 C2 C3 C5 x2 (cw N i j C0 bd bZ cL cO cP cg C1 C2 C3 C5 fuel) cd HP (mW.set ((x2).toNat) a9)
  else none)))
  ((if (x2).toNat < cd.length then
  ((ik N j (⟨((b9.getD ((j).toNat) aa.d).fN),((b9.getD ((j).toNat) aa.d).fD)⟩:aa) (cd.getD ((x2).toNat) []) b9).bind fun ni =>
  (if ni.length=(cd.getD ((x2).toNat) []).length then
  dD N i j C0 bd bZ cL cO cP cg C1 C2 C3 C5 x2 (cw N i j C0 bd bZ cL cO cP cg C1 C2 C3 C5 fuel) (cd.set ((x2).toNat) ni) b9 (mW.set ((x2).toNat) a9)
  else none))
  else none)))))
  else none)
  else none))
  (dD N i j C0 bd bZ cL cO cP cg C1 C2 C3 C5 x2 (cw N i j C0 bd bZ cL cO cP cg C1 C2 C3 C5 fuel) cd b9 mW)))
  else none)
  else none))
  ((if (x2).toNat < cd.length then
  (if 0≤x2∧x2 < ((cd.length:Nat):Int) then
  (if 0≤j∧j < (((cd.getD ((x2).toNat) []).length:Nat):Int) then
  ((cond (x2 != i) (fX N (⟨(((cd.getD ((x2).toNat) []).getD ((j).toNat) aa.d).fN),(((cd.getD ((x2).toNat) []).getD ((j).toNat) aa.d).fD)⟩:aa)) (some false)).bind fun tL =>
  (cond (cond (x2 != i) (!tL) false)
  ((if 0≤x2∧x2 < ((mW.length:Nat):Int) then
  (if 0≤i∧i < ((mW.length:Nat):Int) then
  ((dy N (⟨(((cd.getD ((x2).toNat) []).getD ((j).toNat) aa.d).fN),(((cd.getD ((x2).toNat) []).getD ((j).toNat) aa.d).fD)⟩:aa) (⟨((mW.getD ((i).toNat) aa.d).fN),((mW.getD ((i).toNat) aa.d).fD)⟩:aa)).bind fun gJ =>
  ((dn N (⟨((mW.getD ((x2).toNat) aa.d).fN),((mW.getD ((x2).toNat) aa.d).fD)⟩:aa) gJ).bind fun dg =>
  ((ik N j (⟨(((cd.getD ((x2).toNat) []).getD ((j).toNat) aa.d).fN),(((cd.getD ((x2).toNat) []).getD ((j).toNat) aa.d).fD)⟩:aa) (cd.getD ((x2).toNat) []) b9).bind fun nj =>
  (if nj.length=(cd.getD ((x2).toNat) []).length then
  dD N i j C0 bd bZ cL cO cP cg C1 C2 C3 C5 x2 (cw N i j C0 bd bZ cL cO cP cg C1 C2 C3 C5 fuel) (cd.set ((x2).toNat) nj) b9 (mW.set ((x2).toNat) dg)
  else none))))
  else none)
  else none))
  (dD N i j C0 bd bZ cL cO cP cg C1 C2 C3 C5 x2 (cw N i j C0 bd bZ cL cO cP cg C1 C2 C3 C5 fuel) cd b9 mW)))
  else none)
  else none)
  else none))))
  ((if 0≤j∧j < ((C5.length:Nat):Int) then
  ((fX N (⟨((C5.getD ((j).toNat) aa.d).fN),((C5.getD ((j).toNat) aa.d).fD)⟩:aa)).bind fun Ga =>
  (cond (!Ga)
  ((if 0≤i∧i < ((mW.length:Nat):Int) then
  ((dy N (⟨((C5.getD ((j).toNat) aa.d).fN),((C5.getD ((j).toNat) aa.d).fD)⟩:aa) (⟨((mW.getD ((i).toNat) aa.d).fN),((mW.getD ((i).toNat) aa.d).fD)⟩:aa)).bind fun Gb =>
  ((dn N (⟨(⟨bZ,cL⟩:bR),(⟨cO,cP⟩:bR)⟩:aa) Gb).bind fun jt =>
  ((ik N j (⟨((C5.getD ((j).toNat) aa.d).fN),((C5.getD ((j).toNat) aa.d).fD)⟩:aa) C5 b9).bind fun IU =>
  (if IU.length=C5.length then
  (if (i).toNat < cd.length then
  gi N i j C0 bd cg C1 C2 cd b9 mW IU jt.fN.fG jt.fN.fL jt.fD.fG jt.fD.fL
  else none)
  else none))))
  else none))
  ((if (i).toNat < cd.length then
  gi N i j C0 bd cg C1 C2 cd b9 mW C5 bZ cL cO cP
  else none))))
  else none)))
def dE (N:Nat) (i:Int) (j:Int) (C0:Int) (bd:Int) (bZ:Bool) (cL:List Int) (cO:Bool) (cP:List Int) (cg:Int) (C1:List Int) (C2:List Int) (C3:List (List aa)) (C4:List aa) (C5:List aa):Nat→(List aa)→Int→Option (jq×(List Int)×(List Int)×(List (List aa))×(List aa)×(List aa))
 | 0,_,_=>none
 | fuel+1,tM,x =>
  (cond (decide (x < (((C3.getD ((i).toNat) []).length:Nat):Int)))
  ((cond (x != j)
  ((if 0≤x∧x < ((tM.length:Nat):Int) then
  ((ru N (⟨((tM.getD ((x).toNat) aa.d).fN),((tM.getD ((x).toNat) aa.d).fD)⟩:aa) (⟨(((C3.getD ((i).toNat) []).getD ((j).toNat) aa.d).fN),(((C3.getD ((i).toNat) []).getD ((j).toNat) aa.d).fD)⟩:aa)).bind fun ku =>
  ((ej N ku).bind fun aR =>
  iQ N i j C0 bd bZ cL cO cP cg C1 C2 C3 C4 C5 x (dE N i j C0 bd bZ cL cO cP cg C1 C2 C3 C4 C5 fuel) (tM.set ((x).toNat) aR)))
  else none))
  (iQ N i j C0 bd bZ cL cO cP cg C1 C2 C3 C4 C5 x (dE N i j C0 bd bZ cL cO cP cg C1 C2 C3 C4 C5 fuel) tM)))
  (((da N 1).bind fun ar =>
  ((ru N ar (⟨(((C3.getD ((i).toNat) []).getD ((j).toNat) aa.d).fN),(((C3.getD ((i).toNat) []).getD ((j).toNat) aa.d).fD)⟩:aa)).bind fun kD =>
  (if 0≤j∧j < ((tM.length:Nat):Int) then
  (if 0≤i∧i < ((C4.length:Nat):Int) then
  ((ru N (⟨((C4.getD ((i).toNat) aa.d).fN),((C4.getD ((i).toNat) aa.d).fD)⟩:aa) (⟨(((C3.getD ((i).toNat) []).getD ((j).toNat) aa.d).fN),(((C3.getD ((i).toNat) []).getD ((j).toNat) aa.d).fD)⟩:aa)).bind fun Na =>
  ((ej N Na).bind fun dL =>
  cw N i j C0 bd bZ cL cO cP cg C1 C2 C3 C5 N C3 (tM.set ((j).toNat) kD) (C4.set ((i).toNat) dL) 0))
  else none)
  else none)))))
def jg (N:Nat) (i:Int) (j:Int) (C0:Int) (bd:Int) (bZ:Bool) (cL:List Int) (cO:Bool) (cP:List Int) (cg:Int) (C1:List Int) (C2:List Int) (C3:List (List aa)) (C4:List aa) (C5:List aa):Option (jq×(List Int)×(List Int)×(List (List aa))×(List aa)×(List aa)) :=
 (if (i).toNat < C3.length then
 (if 0≤i∧i < ((C3.length:Nat):Int) then
 (if 0≤j∧j < (((C3.getD ((i).toNat) []).length:Nat):Int) then
 dE N i j C0 bd bZ cL cO cP cg C1 C2 C3 C4 C5 N (C3.getD ((i).toNat) []) 0
 else none)
 else none)
 else none)
def gj (N:Nat) (C0:Int) (bd:Int) (bZ:Bool) (cL:List Int) (cO:Bool) (cP:List Int) (cg:Int) (C1:List Int) (C2:List Int) (C3:List (List aa)) (C4:List aa) (C5:List aa) (x:Int) (g9:Int→Int→Option (Int)) (yK:Int):Option (Int) :=
 g9 yK (ao (x+1))
def bM (N:Nat) (C0:Int) (bd:Int) (bZ:Bool) (cL:List Int) (cO:Bool) (cP:List Int) (cg:Int) (C1:List Int) (C2:List Int) (C3:List (List aa)) (C4:List aa) (C5:List aa):Nat→Int→Int→Option (Int)
 | 0,_,_=>none
 | fuel+1,dJ,x =>
  (cond (decide (x < ((C2.length:Nat):Int)))
  ((if 0≤x∧x < ((C5.length:Nat):Int) then
  ((ij N (⟨((C5.getD ((x).toNat) aa.d).fN),((C5.getD ((x).toNat) aa.d).fD)⟩:aa)).bind fun an =>
  (if (((decide (an > 0)) && ((decide (an > 0)) && (!(decide (dJ < 0)))))=true→0≤x∧x < ((C2.length:Nat):Int)) then
  (if (((decide (an > 0)) && ((decide (an > 0)) && (!(decide (dJ < 0)))))=true→0≤dJ∧dJ < ((C2.length:Nat):Int)) then
  (cond (cond (decide (an > 0)) (cond (decide (dJ < 0)) true (decide ((C2.getD ((x).toNat) 0) < (C2.getD ((dJ).toNat) 0)))) false)
  (gj N C0 bd bZ cL cO cP cg C1 C2 C3 C4 C5 x (bM N C0 bd bZ cL cO cP cg C1 C2 C3 C4 C5 fuel) x)
  (gj N C0 bd bZ cL cO cP cg C1 C2 C3 C4 C5 x (bM N C0 bd bZ cL cO cP cg C1 C2 C3 C4 C5 fuel) dJ))
  else none)
  else none))
  else none))
  (some dJ))
def k5 (N:Nat) (C0:Int) (bd:Int) (bZ:Bool) (cL:List Int) (cO:Bool) (cP:List Int) (cg:Int) (C1:List Int) (C2:List Int) (C3:List (List aa)) (C4:List aa) (C5:List aa):Option (Int) :=
 bM N C0 bd bZ cL cO cP cg C1 C2 C3 C4 C5 N (-1) 0
def ek (N:Nat) (j:Int) (C0:Int) (bd:Int) (bZ:Bool) (cL:List Int) (cO:Bool) (cP:List Int) (cg:Int) (C1:List Int) (C2:List Int) (C3:List (List aa)) (C4:List aa) (C5:List aa) (x:Int) (cl:Int→aa→Int→Option (Int)) (yK:Int) (Gc:aa):Option (Int) :=
 cl yK Gc (ao (x+1))
def fq (N:Nat) (j:Int) (C0:Int) (bd:Int) (bZ:Bool) (cL:List Int) (cO:Bool) (cP:List Int) (cg:Int) (C1:List Int) (C2:List Int) (C3:List (List aa)) (C4:List aa) (C5:List aa) (dJ:Int) (least:aa) (x:Int) (ku:aa) (cl:Int→aa→Int→Option (Int)) (c7:Int):Option (Int) :=
 (if (((!(decide (c7 < 0))) && ((!(decide (c7 < 0))) && (c7 == 0)))=true→0≤x∧x < ((C1.length:Nat):Int)) then
 (if (((!(decide (c7 < 0))) && ((!(decide (c7 < 0))) && (c7 == 0)))=true→0≤dJ∧dJ < ((C1.length:Nat):Int)) then
 (cond (cond (decide (c7 < 0)) true (cond (c7 == 0) (decide ((C1.getD ((x).toNat) 0) < (C1.getD ((dJ).toNat) 0))) false))
 (ek N j C0 bd bZ cL cO cP cg C1 C2 C3 C4 C5 x cl x ku)
 (ek N j C0 bd bZ cL cO cP cg C1 C2 C3 C4 C5 x cl dJ least))
 else none)
 else none)
def bU (N:Nat) (j:Int) (C0:Int) (bd:Int) (bZ:Bool) (cL:List Int) (cO:Bool) (cP:List Int) (cg:Int) (C1:List Int) (C2:List Int) (C3:List (List aa)) (C4:List aa) (C5:List aa):Nat→Int→aa→Int→Option (Int)
 | 0,_,_,_=>none
 | fuel+1,dJ,least,x =>
  (cond (decide (x < ((C1.length:Nat):Int)))
  ((if (x).toNat < C3.length then
  (if 0≤x∧x < ((C3.length:Nat):Int) then
  (if 0≤j∧j < (((C3.getD ((x).toNat) []).length:Nat):Int) then
  ((ij N (⟨(((C3.getD ((x).toNat) []).getD ((j).toNat) aa.d).fN),(((C3.getD ((x).toNat) []).getD ((j).toNat) aa.d).fD)⟩:aa)).bind fun an =>
  (cond (decide (an≥0))
  (ek N j C0 bd bZ cL cO cP cg C1 C2 C3 C4 C5 x (bU N j C0 bd bZ cL cO cP cg C1 C2 C3 C4 C5 fuel) dJ least)
  ((if 0≤x∧x < ((C4.length:Nat):Int) then
  ((ej N (⟨(((C3.getD ((x).toNat) []).getD ((j).toNat) aa.d).fN),(((C3.getD ((x).toNat) []).getD ((j).toNat) aa.d).fD)⟩:aa)).bind fun aR =>
  ((ru N (⟨((C4.getD ((x).toNat) aa.d).fN),((C4.getD ((x).toNat) aa.d).fD)⟩:aa) aR).bind fun ku =>
  (cond (decide (dJ≥0))
  (((gI N ku least).bind fun eT =>
  fq N j C0 bd bZ cL cO cP cg C1 C2 C3 C4 C5 dJ least x ku (bU N j C0 bd bZ cL cO cP cg C1 C2 C3 C4 C5 fuel) eT))
  (fq N j C0 bd bZ cL cO cP cg C1 C2 C3 C4 C5 dJ least x ku (bU N j C0 bd bZ cL cO cP cg C1 C2 C3 C4 C5 fuel) (-1)))))
  else none))))
  else none)
  else none)
  else none))
  (some dJ))
def lC (N:Nat) (j:Int) (C0:Int) (bd:Int) (bZ:Bool) (cL:List Int) (cO:Bool) (cP:List Int) (cg:Int) (C1:List Int) (C2:List Int) (C3:List (List aa)) (C4:List aa) (C5:List aa):Option (Int) :=
 bU N j C0 bd bZ cL cO cP cg C1 C2 C3 C4 C5 N (-1) (⟨(⟨false,([]:List Int)⟩:bR),(⟨false,([]:List Int)⟩:bR)⟩:aa) 0
def dG (N:Nat):Nat→Int→Int→(List Int)→(List Int)→(List (List aa))→(List aa)→(List aa)→Bool→(List Int)→Bool→(List Int)→Int→Option (Int×jq×(List Int)×(List Int)×(List (List aa))×(List aa)×(List aa))
 | 0,_,_,_,_,_,_,_,_,_,_,_,_=>none
 | fuel+1,cd,mW,js,mI,fk,il,mX,pP,pQ,sQ,oe,yL =>
  ((k5 N cd mW pP pQ sQ oe yL js mI fk il mX).bind fun tp =>
  (cond (decide (tp < 0))
  (some ((-1),(⟨cd,mW,js,mI,fk,il,mX,(⟨(⟨pP,pQ⟩:bR),(⟨sQ,oe⟩:bR)⟩:aa),yL⟩:jq),js,mI,fk,il,mX))
  (((lC N tp cd mW pP pQ sQ oe yL js mI fk il mX).bind fun BS =>
  (cond (decide (BS < 0))
  (some (tp,(⟨cd,mW,js,mI,fk,il,mX,(⟨(⟨pP,pQ⟩:bR),(⟨sQ,oe⟩:bR)⟩:aa),yL⟩:jq),js,mI,fk,il,mX))
  (((jg N BS tp cd mW pP pQ sQ oe yL js mI fk il mX).bind fun bE =>
  (if bE.2.1.length=js.length then
  (if bE.2.2.1.length=mI.length then
  (if bE.2.2.2.1.length=fk.length then
  (if bE.2.2.2.2.1.length=il.length then
  (if bE.2.2.2.2.2.length=mX.length then
  dG N fuel bE.1.tk bE.1.tl bE.2.1 bE.2.2.1 bE.2.2.2.1 bE.2.2.2.2.1 bE.2.2.2.2.2 bE.1.af.fN.fG bE.1.af.fN.fL bE.1.af.fD.fG bE.1.af.fD.fL bE.1.bI
  else none)
  else none)
  else none)
  else none)
  else none))))))))
def mQ (N:Nat) (C0:Int) (bd:Int) (bZ:Bool) (cL:List Int) (cO:Bool) (cP:List Int) (cg:Int) (C1:List Int) (C2:List Int) (C3:List (List aa)) (C4:List aa) (C5:List aa):Option (Int×jq×(List Int)×(List Int)×(List (List aa))×(List aa)×(List aa)) :=
 dG N N C0 bd C1 C2 C3 C4 C5 bZ cL cO cP cg
def cA (N:Nat) (s:List Int) (v:Int):Nat→Int→Option (Int)
 | 0,_=>none
 | fuel+1,x =>
  (cond (decide (x < ((s.length:Nat):Int)))
  ((if 0≤x∧x < ((s.length:Nat):Int) then
  (cond (v == (s.getD ((x).toNat) 0))
  (some x)
  (cA N s v fuel (ao (x+1))))
  else none))
  (some (-1)))
def bV (N:Nat) (s:List Int) (v:Int):Option (Int) :=
 cA N s v N 0
def k6 (N:Nat) (x:aa):Option (Bool) :=
 ((fX N x).bind fun eS =>
 some (!eS))
def cC (N:Nat) (s:List aa):Nat→Int→Option (Int)
 | 0,_=>none
 | fuel+1,x =>
  (cond (decide (x < ((s.length:Nat):Int)))
  ((if 0≤x∧x < ((s.length:Nat):Int) then
  ((k6 N (⟨((s.getD ((x).toNat) aa.d).fN),((s.getD ((x).toNat) aa.d).fD)⟩:aa)).bind fun Gd =>
  (cond Gd
  (some x)
  (cC N s fuel (ao (x+1)))))
  else none))
  (some (-1)))
def jF (N:Nat) (s:List aa):Option (Int) :=
 cC N s N 0
def jh (N:Nat) (i:Int) (j:Int) (C0:List Int):Option ((List Int)×(List Int)) :=
 (if 0≤i∧i≤j∧j≤((C0.length:Nat):Int)∧((C0.length:Nat):Int)≤((C0.length:Nat):Int) then
 (cond (i == j)
 (some (C0,C0))
 ((if 0≤(i).toNat∧(i).toNat≤C0.length then
 (if 0≤i then
 (if (j).toNat≤C0.length∧C0.length≤C0.length then
 (if 0≤j then
 (if (i).toNat≤(j).toNat∧(j).toNat≤C0.length then
 (if 0 < C0.length then
 (if (((i).toNat - 0)+(C0.length - (j).toNat))≤C0.length∧0+C0.length≤(kQ C0 ((i).toNat) ((j).toNat)).length then
 (if 0 < (C0.length - (((i).toNat - 0)+(C0.length - (j).toNat)))∧(((i).toNat - 0)+(C0.length - (j).toNat))+(C0.length - (((i).toNat - 0)+(C0.length - (j).toNat)))≤(kQ C0 ((i).toNat) ((j).toNat)).length then
 some (((kQ C0 ((i).toNat) ((j).toNat)).take (((i).toNat - 0)+(C0.length - (j).toNat))),((kQ C0 ((i).toNat) ((j).toNat)).take (((i).toNat - 0)+(C0.length - (j).toNat))))
 else none)
 else none)
 else none)
 else none)
 else none)
 else none)
 else none)
 else none)))
 else none)
def lD (N:Nat) (i:Int) (j:Int) (C0:List aa):Option ((List aa)×(List aa)) :=
 (if 0≤i∧i≤j∧j≤((C0.length:Nat):Int)∧((C0.length:Nat):Int)≤((C0.length:Nat):Int) then
 (cond (i == j)
 (some (C0,C0))
 ((if 0≤(i).toNat∧(i).toNat≤C0.length then
 (if 0≤i then
 (if (j).toNat≤C0.length∧C0.length≤C0.length then
 (if 0≤j then
 (if (i).toNat≤(j).toNat∧(j).toNat≤C0.length then
 (if 0 < C0.length then
 (if (((i).toNat - 0)+(C0.length - (j).toNat))≤C0.length∧0+C0.length≤(kQ C0 ((i).toNat) ((j).toNat)).length then
 (if 0 < (C0.length - (((i).toNat - 0)+(C0.length - (j).toNat)))∧(((i).toNat - 0)+(C0.length - (j).toNat))+(C0.length - (((i).toNat - 0)+(C0.length - (j).toNat)))≤(kQ C0 ((i).toNat) ((j).toNat)).length then
 some (((kQ C0 ((i).toNat) ((j).toNat)).take (((i).toNat - 0)+(C0.length - (j).toNat))),((kQ C0 ((i).toNat) ((j).toNat)).take (((i).toNat - 0)+(C0.length - (j).toNat))))
 else none)
 else none)
 else none)
 else none)
 else none)
 else none)
 else none)
 else none)))
 else none)
def ia (N:Nat) (C0:Int) (bd:Int) (bZ:Bool) (cL:List Int) (cO:Bool) (cP:List Int) (cg:Int) (C1:List Int) (C2:List Int) (C3:List (List aa)) (C4:List aa) (C5:List aa) (x:Int) (ji:Int→Int→Option (Bool×jq×(List Int)×(List Int)×(List (List aa))×(List aa))) (R6:Int):Option (Bool×jq×(List Int)×(List Int)×(List (List aa))×(List aa)) :=
 ji R6 (ao (x+1))
def dR (N:Nat) (u9:Int) (vb:Int) (se:List Int) (sf:List aa) (vW:Bool) (vX:List Int) (vY:Bool) (vZ:List Int) (um:Int) (cF:(List Int)×(List Int)) (k7:List (List aa)):Nat→(List aa)→Int→Option (Bool×jq×(List Int)×(List Int)×(List (List aa))×(List aa))
 | 0,_,_=>none
 | fuel+1,BT,x3 =>
  (cond (decide (x3 < (((List.replicate cF.2.length aa.d:List aa).length:Nat):Int)))
  (((da N 0).bind fun dV =>
  (if 0≤x3∧x3 < ((BT.length:Nat):Int) then
  dR N u9 vb se sf vW vX vY vZ um cF k7 fuel (BT.set ((x3).toNat) dV) (ao (x3+1))
  else none)))
  (((da N 0).bind fun b8 =>
  some (true,(⟨u9,vb,se,cF.2,k7,sf,BT,b8,um⟩:jq),se,cF.2,k7,sf))))
def dS (N:Nat) (u9:Int) (vb:Int) (se:List Int) (AZ:List (List aa)) (sf:List aa) (BU:List aa) (vW:Bool) (vX:List Int) (vY:Bool) (vZ:List Int) (um:Int) (bw:Int) (cF:(List Int)×(List Int)):Nat→(List (List aa))→Int→Option (Bool×jq×(List Int)×(List Int)×(List (List aa))×(List aa))
 | 0,_,_=>none
 | fuel+1,k7,x2 =>
  (cond (decide (x2 < ((AZ.length:Nat):Int)))
  ((if (x2).toNat < k7.length then
  (if 0≤x2∧x2 < ((k7.length:Nat):Int) then
  ((lD N bw (ao (bw+1)) (k7.getD ((x2).toNat) [])).bind fun pZ =>
  dS N u9 vb se AZ sf BU vW vX vY vZ um bw cF fuel (k7.set ((x2).toNat) pZ.2) (ao (x2+1)))
  else none)
  else none))
  ((if 0≤((cF.2.length:Nat):Int)∧(64:Int) * ((cF.2.length:Nat):Int)≤281474976710656∧((cF.2.length:Nat):Int)≤9223372036854775807 then
  dR N u9 vb se sf vW vX vY vZ um cF k7 N (List.replicate cF.2.length aa.d:List aa) 0
  else none)))
def ic (N:Nat) (u9:Int) (vb:Int) (se:List Int) (Lk:List Int) (AZ:List (List aa)) (sf:List aa) (BU:List aa) (vW:Bool) (vX:List Int) (vY:Bool) (vZ:List Int) (um:Int):Option (Bool×jq×(List Int)×(List Int)×(List (List aa))×(List aa)) :=
 ((bV N Lk um).bind fun bw =>
 ((jh N bw (ao (bw+1)) Lk).bind fun cF =>
 dS N u9 vb se AZ sf BU vW vX vY vZ um bw cF N AZ 0))
def fH (N:Nat) (cd:Int) (mW:Int) (js:List Int) (mI:List Int) (fk:List (List aa)) (il:List aa) (mX:List aa) (pP:Bool) (pQ:List Int) (sQ:Bool) (oe:List Int) (yL:Int):Option (Bool×jq×(List Int)×(List Int)×(List (List aa))×(List aa)) :=
 ((bV N js yL).bind fun aN =>
 (cond (decide (aN≥0))
 ((if (aN).toNat < fk.length then
 (if 0≤aN∧aN < ((fk.length:Nat):Int) then
 ((jF N (fk.getD ((aN).toNat) [])).bind fun Gf =>
 ((jg N aN Gf cd mW pP pQ sQ oe yL js mI fk il mX).bind fun dH =>
 (if dH.2.1.length=js.length then
 (if dH.2.2.1.length=mI.length then
 (if dH.2.2.2.1.length=fk.length then
 (if dH.2.2.2.2.1.length=il.length then
 (if dH.2.2.2.2.2.length=mX.length then
 ic N dH.1.tk dH.1.tl dH.2.1 dH.2.2.1 dH.2.2.2.1 dH.2.2.2.2.1 dH.2.2.2.2.2 dH.1.af.fN.fG dH.1.af.fN.fL dH.1.af.fD.fG dH.1.af.fD.fL dH.1.bI
 else none)
 else none)
 else none)
 else none)
 else none)))
 else none)
 else none))
 (ic N cd mW js mI fk il mX pP pQ sQ oe yL)))
def bF (N:Nat) (C0:Int) (bd:Int) (bZ:Bool) (cL:List Int) (cO:Bool) (cP:List Int) (cg:Int) (C1:List Int) (C2:List Int) (C3:List (List aa)) (C4:List aa) (C5:List aa):Nat→Int→Int→Option (Bool×jq×(List Int)×(List Int)×(List (List aa))×(List aa))
 | 0,_,_=>none
 | fuel+1,low,x =>
  (cond (decide (x < ((C4.length:Nat):Int)))
  ((if 0≤x∧x < ((C4.length:Nat):Int) then
  ((ij N (⟨((C4.getD ((x).toNat) aa.d).fN),((C4.getD ((x).toNat) aa.d).fD)⟩:aa)).bind fun an =>
  (if (((decide (an < 0)) && ((decide (an < 0)) && (!(decide (low < 0)))))=true→0≤x∧x < ((C4.length:Nat):Int)) then
  (if (((decide (an < 0)) && ((decide (an < 0)) && (!(decide (low < 0)))))=true→0≤low∧low < ((C4.length:Nat):Int)) then
  ((cond ((decide (an < 0)) && ((decide (an < 0)) && (!(decide (low < 0))))) (gI N (⟨((C4.getD ((x).toNat) aa.d).fN),((C4.getD ((x).toNat) aa.d).fD)⟩:aa) (⟨((C4.getD ((low).toNat) aa.d).fN),((C4.getD ((low).toNat) aa.d).fD)⟩:aa)) (some 0)).bind fun eT =>
  (cond (cond (decide (an < 0)) (cond (decide (low < 0)) true (decide (eT < 0))) false)
  (ia N C0 bd bZ cL cO cP cg C1 C2 C3 C4 C5 x (bF N C0 bd bZ cL cO cP cg C1 C2 C3 C4 C5 fuel) x)
  (ia N C0 bd bZ cL cO cP cg C1 C2 C3 C4 C5 x (bF N C0 bd bZ cL cO cP cg C1 C2 C3 C4 C5 fuel) low)))
  else none)
  else none))
  else none))
  ((cond (decide (low≥0))
  (((da N (-1)).bind fun ar =>
  (if 0≤(ao (((C2.length:Nat):Int) - 1))∧(ao (((C2.length:Nat):Int) - 1)) < ((C5.length:Nat):Int) then
  ((jg N low (ao (((C2.length:Nat):Int) - 1)) C0 bd bZ cL cO cP cg C1 C2 C3 C4 (C5.set ((ao (((C2.length:Nat):Int) - 1)).toNat) ar)).bind fun bE =>
  (if bE.2.1.length=C1.length then
  (if bE.2.2.1.length=C2.length then
  (if bE.2.2.2.1.length=C3.length then
  (if bE.2.2.2.2.1.length=C4.length then
  (if bE.2.2.2.2.2.length=(C5.set ((ao (((C2.length:Nat):Int) - 1)).toNat) ar).length then
  ((mQ N bE.1.tk bE.1.tl bE.1.af.fN.fG bE.1.af.fN.fL bE.1.af.fD.fG bE.1.af.fD.fL bE.1.bI bE.2.1 bE.2.2.1 bE.2.2.2.1 bE.2.2.2.2.1 bE.2.2.2.2.2).bind fun aD =>
  (if aD.2.2.1.length=bE.2.1.length then
  (if aD.2.2.2.1.length=bE.2.2.1.length then
  (if aD.2.2.2.2.1.length=bE.2.2.2.1.length then
  (if aD.2.2.2.2.2.1.length=bE.2.2.2.2.1.length then
  (if aD.2.2.2.2.2.2.length=bE.2.2.2.2.2.length then
  ((fX N aD.2.1.af).bind fun eS =>
  (cond (!eS)
  (some (false,(⟨aD.2.1.tk,aD.2.1.tl,aD.2.2.1,aD.2.2.2.1,aD.2.2.2.2.1,aD.2.2.2.2.2.1,aD.2.2.2.2.2.2,aD.2.1.af,aD.2.1.bI⟩:jq),aD.2.2.1,aD.2.2.2.1,aD.2.2.2.2.1,aD.2.2.2.2.2.1))
  (fH N aD.2.1.tk aD.2.1.tl aD.2.2.1 aD.2.2.2.1 aD.2.2.2.2.1 aD.2.2.2.2.2.1 aD.2.2.2.2.2.2 aD.2.1.af.fN.fG aD.2.1.af.fN.fL aD.2.1.af.fD.fG aD.2.1.af.fD.fL aD.2.1.bI)))
  else none)
  else none)
  else none)
  else none)
  else none))
  else none)
  else none)
  else none)
  else none)
  else none))
  else none)))
  (fH N C0 bd C1 C2 C3 C4 C5 bZ cL cO cP cg))))
def l5 (N:Nat) (C0:Int) (bd:Int) (bZ:Bool) (cL:List Int) (cO:Bool) (cP:List Int) (cg:Int) (C1:List Int) (C2:List Int) (C3:List (List aa)) (C4:List aa) (C5:List aa):Option (Bool×jq×(List Int)×(List Int)×(List (List aa))×(List aa)) :=
 bF N C0 bd bZ cL cO cP cg C1 C2 C3 C4 C5 N (-1) 0
def fe (N:Nat) (C0:Int) (bd:Int) (bZ:Bool) (cL:List Int) (cO:Bool) (cP:List Int) (cg:Int) (C1:List Int) (C2:List Int) (C3:List (List aa)) (C4:List aa) (C5:List aa) (x:Int) (fS:(List aa)→Int→Option ((List aa))) (fY:List aa):Option ((List aa)) :=
 fS fY (ao (x+1))
def bT (N:Nat) (C0:Int) (bd:Int) (bZ:Bool) (cL:List Int) (cO:Bool) (cP:List Int) (cg:Int) (C1:List Int) (C2:List Int) (C3:List (List aa)) (C4:List aa) (C5:List aa):Nat→(List aa)→Int→Option ((List aa))
 | 0,_,_=>none
 | fuel+1,out,x =>
  (cond (decide (x < (((List.replicate ((bd).toNat) aa.d:List aa).length:Nat):Int)))
  (((da N 0).bind fun ar =>
  (if 0≤x∧x < ((out.length:Nat):Int) then
  ((bV N C2 (ao ((ao (2 * C0))+x))).bind fun aN =>
  (cond (decide (aN≥0))
  ((if 0≤aN∧aN < ((C5.length:Nat):Int) then
  ((ej N (⟨((C5.getD ((aN).toNat) aa.d).fN),((C5.getD ((aN).toNat) aa.d).fD)⟩:aa)).bind fun aR =>
  (if 0≤x∧x < (((out.set ((x).toNat) ar).length:Nat):Int) then
  fe N C0 bd bZ cL cO cP cg C1 C2 C3 C4 C5 x (bT N C0 bd bZ cL cO cP cg C1 C2 C3 C4 C5 fuel) ((out.set ((x).toNat) ar).set ((x).toNat) aR)
  else none))
  else none))
  (fe N C0 bd bZ cL cO cP cg C1 C2 C3 C4 C5 x (bT N C0 bd bZ cL cO cP cg C1 C2 C3 C4 C5 fuel) (out.set ((x).toNat) ar))))
  else none)))
  (some out))
def eZ (N:Nat) (C0:Int) (bd:Int) (bZ:Bool) (cL:List Int) (cO:Bool) (cP:List Int) (cg:Int) (C1:List Int) (C2:List Int) (C3:List (List aa)) (C4:List aa) (C5:List aa):Option ((List aa)) :=
 (if 0≤bd∧(64:Int) * bd≤281474976710656∧bd≤9223372036854775807 then
 bT N C0 bd bZ cL cO cP cg C1 C2 C3 C4 C5 N (List.replicate ((bd).toNat) aa.d:List aa) 0
 else none)
def nm (N:Nat) (mq:Int) (C0:Int) (bd:Int) (bZ:Bool) (cL:List Int) (cO:Bool) (cP:List Int) (cg:Int) (C1:List Int) (C2:List Int) (C3:List (List aa)) (C4:List aa) (C5:List aa):Option (aa) :=
 ((bV N C1 mq).bind fun aN =>
 (cond (decide (aN≥0))
 ((if 0≤aN∧aN < ((C4.length:Nat):Int) then
 some (⟨((C4.getD ((aN).toNat) aa.d).fN),((C4.getD ((aN).toNat) aa.d).fD)⟩:aa)
 else none))
 (((da N 0).bind fun ar =>
 some ar))))
def dZ (N:Nat) (C0:Int) (bd:Int) (bZ:Bool) (cL:List Int) (cO:Bool) (cP:List Int) (cg:Int) (C1:List Int) (C2:List Int) (C3:List (List aa)) (C4:List aa) (C5:List aa):Nat→(List aa)→Int→Option ((List aa))
 | 0,_,_=>none
 | fuel+1,out,x =>
  (cond (decide (x < (((List.replicate ((C0).toNat) aa.d:List aa).length:Nat):Int)))
  (((nm N x C0 bd bZ cL cO cP cg C1 C2 C3 C4 C5).bind fun rat =>
  ((nm N (ao (C0+x)) C0 bd bZ cL cO cP cg C1 C2 C3 C4 C5).bind fun XU =>
  ((ll N rat XU).bind fun dc =>
  (if 0≤x∧x < ((out.length:Nat):Int) then
  dZ N C0 bd bZ cL cO cP cg C1 C2 C3 C4 C5 fuel (out.set ((x).toNat) dc) (ao (x+1))
  else none)))))
  (some out))
def k8 (N:Nat) (C0:Int) (bd:Int) (bZ:Bool) (cL:List Int) (cO:Bool) (cP:List Int) (cg:Int) (C1:List Int) (C2:List Int) (C3:List (List aa)) (C4:List aa) (C5:List aa):Option ((List aa)) :=
 (if 0≤C0∧(64:Int) * C0≤281474976710656∧C0≤9223372036854775807 then
 dZ N C0 bd bZ cL cO cP cg C1 C2 C3 C4 C5 N (List.replicate ((C0).toNat) aa.d:List aa) 0
 else none)
def fg (N:Nat) (n:Int) (l:List aE):Nat→Int→Option (Int)
 | 0,_=>none
 | fuel+1,i =>
  (cond (decide (i < ((l.length:Nat):Int)))
  ((if 0≤i∧i < ((l.length:Nat):Int) then
  (cond (decide (((((l.getD ((i).toNat) aE.d).bj).length:Nat):Int) > n))
  (some 11)
  (fg N n l fuel (ao (i+1))))
  else none))
  (some 0))
def kK (N:Nat) (n:Int) (l:List aE):Option (Int) :=
 (cond (cond (decide (n < 0)) true (decide (n > 12)))
 (some 2)
 ((cond (decide (((l.length:Nat):Int) > 40))
 (some 8)
 (fg N n l N 0))))
def bN (N:Nat) (p:cQ) (i:Int) (fw:Int→Option (Bool)):Nat→Int→Option (Bool)
 | 0,_=>none
 | fuel+1,j =>
  (if 0≤i∧i < ((p.jT.length:Nat):Int) then
  (cond (decide (j < ((((p.jT.getD ((i).toNat) aE.d).bj).length:Nat):Int)))
  ((if 0≤j∧j < ((((p.jT.getD ((i).toNat) aE.d).bj).length:Nat):Int) then
  (if ((!(decide ((((((((p.jT.getD ((i).toNat) aE.d).bj).getD ((j).toNat) aa.d).fN).fL).length:Nat):Int) > 2)))=true→0≤i∧i < ((p.jT.length:Nat):Int)) then
  (if ((!(decide ((((((((p.jT.getD ((i).toNat) aE.d).bj).getD ((j).toNat) aa.d).fN).fL).length:Nat):Int) > 2)))=true→0≤j∧j < ((((p.jT.getD ((i).toNat) aE.d).bj).length:Nat):Int)) then
  (cond (cond (decide ((((((((p.jT.getD ((i).toNat) aE.d).bj).getD ((j).toNat) aa.d).fN).fL).length:Nat):Int) > 2)) true (decide ((((((((p.jT.getD ((i).toNat) aE.d).bj).getD ((j).toNat) aa.d).fD).fL).length:Nat):Int) > 2)))
  (some false)
  (bN N p i fw fuel (ao (j+1))))
  else none)
  else none)
  else none))
  (fw (ao (i+1))))
  else none)
def bt (N:Nat) (p:cQ):Nat→Int→Option (Bool)
 | 0,_=>none
 | fuel+1,i =>
  (cond (decide (i < ((p.jT.length:Nat):Int)))
  ((if 0≤i∧i < ((p.jT.length:Nat):Int) then
  (if ((!(decide (((((((p.jT.getD ((i).toNat) aE.d).bK).fN).fL).length:Nat):Int) > 2)))=true→0≤i∧i < ((p.jT.length:Nat):Int)) then
  (if ((!(cond (decide (((((((p.jT.getD ((i).toNat) aE.d).bK).fN).fL).length:Nat):Int) > 2)) true (decide (((((((p.jT.getD ((i).toNat) aE.d).bK).fD).fL).length:Nat):Int) > 2))))=true→0≤i∧i < ((p.jT.length:Nat):Int)) then
  (cond (cond (cond (decide (((((((p.jT.getD ((i).toNat) aE.d).bK).fN).fL).length:Nat):Int) > 2)) true (decide (((((((p.jT.getD ((i).toNat) aE.d).bK).fD).fL).length:Nat):Int) > 2))) true (decide (((((p.jT.getD ((i).toNat) aE.d).bj).length:Nat):Int) > 20)))
  (some false)
  (bN N p i (bt N p fuel) N 0))
  else none)
  else none)
  else none))
  (((kK N p.Kw p.jT).bind fun bz =>
  some (cond (bz != 0) true (cond (decide (p.Kw≤4)) (decide (((p.jT.length:Nat):Int)≤7)) false)))))
def iR (N:Nat) (p:cQ):Option (Bool) :=
 (cond (decide (((p.jT.length:Nat):Int) > 60))
 (some false)
 (bt N p N 0))
def o8 (N:Nat) (x:aa):Option (Bool) :=
 some (cond (decide (((x.fN.fL.length:Nat):Int) > 12)) true (decide (((x.fD.fL.length:Nat):Int) > 12)))
def dB (N:Nat) (l:List aa):Nat→Int→Option (Bool)
 | 0,_=>none
 | fuel+1,i =>
  (cond (decide (i < ((l.length:Nat):Int)))
  ((if 0≤i∧i < ((l.length:Nat):Int) then
  ((o8 N (⟨((l.getD ((i).toNat) aa.d).fN),((l.getD ((i).toNat) aa.d).fD)⟩:aa)).bind fun rz =>
  (cond rz
  (some true)
  (dB N l fuel (ao (i+1)))))
  else none))
  (some false))
def ln (N:Nat) (l:List aa) (most:Int):Option (Bool) :=
 (cond (decide (((l.length:Nat):Int) > most))
 (some true)
 (dB N l N 0))
def l6 (N:Nat):Nat→Int→(List Int)→Option ((List Int))
 | 0,_,_=>none
 | fuel+1,n2,out =>
  (cond (decide (n2 > 0))
  ((if (out.length+1) * 2≤140737488355328 then
  l6 N fuel (ot .u64 n2 16) (out ++ ([(IntKind.u16.wrap ((vP .u64 n2 65535)))]:List Int))
  else none))
  (some out))
def tq (N:Nat) (n:Int):Option ((List Int)) :=
 l6 N N n ([]:List Int)
def xN (N:Nat) (n:Int):Option (bR) :=
 (cond (decide (n < 0))
 (((tq N (IntKind.u64.wrap ((IntKind.u64.wrap ((ao (0 - (ao (n+1))))))+1))).bind fun Nb =>
 some (⟨true,Nb⟩:bR)))
 (((tq N (IntKind.u64.wrap (n))).bind fun JL =>
 some (⟨false,JL⟩:bR))))
def ou (N:Nat) (a:bR) (b:bR) (n:List Int) (rest:List Int):Option (bR×bR×Int) :=
 ((gG N (!(a.fG == b.fG)) n).bind fun JK =>
 ((gG N false rest).bind fun AX =>
 some (JK,AX,0)))
def xi (N:Nat) (a:bR) (b:bR):Option (bR×bR×Int) :=
 ((fK N a.fL).bind fun b7 =>
 ((fK N b.fL).bind fun gu =>
 (cond (((gu.length:Nat):Int) == 0)
 (some ((⟨false,([]:List Int)⟩:bR),(⟨false,([]:List Int)⟩:bR),9))
 (((nf N b7 gu).bind fun jz =>
 (cond (cond a.fG (decide (((jz.2.length:Nat):Int) > 0)) false)
 (((tK N jz.1 ([1]:List Int)).bind fun xM =>
 ((pD N gu jz.2).bind fun o7 =>
 ou N a b xM o7)))
 (ou N a b jz.1 jz.2)))))))
def zP (N:Nat) (a:Int) (b:Int):Option (aa×Int) :=
 (cond (b == 0)
 (some ((⟨(⟨false,([]:List Int)⟩:bR),(⟨false,([]:List Int)⟩:bR)⟩:aa),9))
 (((AW N a).bind fun Kx =>
 ((AW N b).bind fun Nc =>
 ((iz N Kx Nc).bind fun CC =>
 some (CC,0))))))
def IV (N:Nat) (n:Int):Option (aa) :=
 ((xN N n).bind fun rZ =>
 ((xN N 1).bind fun R7 =>
 some (⟨rZ,R7⟩:aa)))
def pE (N:Nat) (l:List Int):Nat→(List aa)→Int→Option ((List aa))
 | 0,_,_=>none
 | fuel+1,out,i =>
  (cond (decide (i < ((l.length:Nat):Int)))
  ((if 0≤i∧i < ((l.length:Nat):Int) then
  ((IV N (l.getD ((i).toNat) 0)).bind fun rW =>
  (if (out.length+1) * 64≤140737488355328 then
  pE N l fuel (out ++ ([rW]:List aa)) (ao (i+1))
  else none))
  else none))
  (some out))
def Gg (N:Nat) (l:List Int):Option ((List aa)) :=
 pE N l N ([]:List aa) 0
def fC (N:Nat) (c:fo):Nat→Int→Option (Int)
 | 0,_=>none
 | fuel+1,x =>
  (cond (decide (x < ((c.av.length:Nat):Int)))
  ((if 0≤x∧x < ((c.av.length:Nat):Int) then
  (if ((!(cond (decide ((c.av.getD ((x).toNat) 0) < (-10000000))) true (decide ((c.av.getD ((x).toNat) 0) > 10000000))))=true→0≤x∧x < ((c.bc.length:Nat):Int)) then
  ((cond (!(cond (decide ((c.av.getD ((x).toNat) 0) < (-10000000))) true (decide ((c.av.getD ((x).toNat) 0) > 10000000)))) (ij N (⟨((c.bc.getD ((x).toNat) aa.d).fN),((c.bc.getD ((x).toNat) aa.d).fD)⟩:aa)) (some 0)).bind fun an =>
  (cond (cond (cond (decide ((c.av.getD ((x).toNat) 0) < (-10000000))) true (decide ((c.av.getD ((x).toNat) 0) > 10000000))) true (decide (an < 0)))
  (some 2)
  ((if ((decide (x > 0))=true→0≤(ao (x - 1))∧(ao (x - 1)) < ((c.av.length:Nat):Int)) then
  (cond (cond (decide (x > 0)) (decide ((c.av.getD ((x).toNat) 0)≤(c.av.getD ((ao (x - 1)).toNat) 0))) false)
  (some 10)
  (fC N c fuel (ao (x+1))))
  else none))))
  else none)
  else none))
  (some 0))
def np (N:Nat) (c:fo):Option (Int) :=
 (cond (decide (((c.av.length:Nat):Int) > 40))
 (some 8)
 ((cond (((c.bc.length:Nat):Int) != ((c.av.length:Nat):Int))
 (some 11)
 (fC N c N 0))))
def Dl (N:Nat) (c:fo) (y:aa):Option (fo×aa) :=
 some (c,y)
def gK (N:Nat) (RD:aa→aa→aa→Option aa) (C1:fo) (C2:aa):Nat→aa→aa→Int→Option (aa)
 | 0,_,_,_=>none
 | fuel+1,bd,before,x =>
  (cond (decide (x < ((C1.av.length:Nat):Int)))
  ((if 0≤x∧x < ((C1.av.length:Nat):Int) then
  ((da N (C1.av.getD ((x).toNat) 0)).bind fun dV =>
  ((ll N C2 dV).bind fun dc =>
  ((ij N dc).bind fun an =>
  (if ((!(decide (an < 0)))=true→0≤x∧x < ((C1.bc.length:Nat):Int)) then
  ((cond (!(decide (an < 0))) (ll N (⟨((C1.bc.getD ((x).toNat) aa.d).fN),((C1.bc.getD ((x).toNat) aa.d).fD)⟩:aa) before) (some aa.d)).bind fun ow =>
  (cond (!(decide (an < 0)))
  (((RD ow dc bd).bind fun ry =>
  (cond (cond (decide (an < 0)) true (!true))
  (some ry)
  ((if 0≤x∧x < ((C1.bc.length:Nat):Int) then
  gK N RD C1 C2 fuel ry (⟨((C1.bc.getD ((x).toNat) aa.d).fN),((C1.bc.getD ((x).toNat) aa.d).fD)⟩:aa) (ao (x+1))
  else none)))))
  ((cond (cond (decide (an < 0)) true false)
  (some bd)
  ((if 0≤x∧x < ((C1.bc.length:Nat):Int) then
  gK N RD C1 C2 fuel bd (⟨((C1.bc.getD ((x).toNat) aa.d).fN),((C1.bc.getD ((x).toNat) aa.d).fD)⟩:aa) (ao (x+1))
  else none))))))
  else none))))
  else none))
  (some bd))
def uG (N:Nat) (RD:aa→aa→aa→Option aa) (C0:aa) (C1:fo) (C2:aa):Option (aa) :=
 ((da N 0).bind fun ar =>
 gK N RD C1 C2 N C0 ar 0)
def rC (N:Nat) (change:aa) (Qz:aa) (sum:aa):Option aa :=
 ((dy N change Qz).bind fun cb =>
 ((dn N sum cb).bind fun a9 =>
 some a9))
def zQ (N:Nat) (c:fo) (y:aa):Option (aa×Int) :=
 ((np N c).bind fun iS =>
 (cond (iS != 0)
 (some ((⟨(⟨false,([]:List Int)⟩:bR),(⟨false,([]:List Int)⟩:bR)⟩:aa),iS))
 (((da N 0).bind fun ar =>
 ((Dl N c y).bind fun lp =>
 ((uG N (rC N) ar lp.1 lp.2).bind fun rr =>
 some (rr,0)))))))
def iT (N:Nat) (a:bR) (b:bR):Nat→Int→Option (Bool)
 | 0,_=>none
 | fuel+1,i =>
  (cond (decide (i < ((a.fL.length:Nat):Int)))
  ((if 0≤i∧i < ((a.fL.length:Nat):Int) then
  (if 0≤i∧i < ((b.fL.length:Nat):Int) then
  (cond ((a.fL.getD ((i).toNat) 0) != (b.fL.getD ((i).toNat) 0))
  (some false)
  (iT N a b fuel (ao (i+1))))
  else none)
  else none))
  (some true))
def k9 (N:Nat) (a:bR) (b:bR):Option (Bool) :=
 (cond (cond (!(a.fG == b.fG)) true (((a.fL.length:Nat):Int) != ((b.fL.length:Nat):Int)))
 (some false)
 (iT N a b N 0))
def p7 (N:Nat) (a2:Int) (b2:Int):Nat→Int→Int→Option (aa)
 | 0,_,_=>none
 | fuel+1,x,y =>
  (cond (decide (y > 0))
  ((if (y:Int)≠0 then
  p7 N a2 b2 fuel y (x.tmod y)
  else none))
  ((if (x:Int)≠0 then
  ((xN N (ao (a2.tdiv x))).bind fun rZ =>
  ((xN N (ao (b2.tdiv x))).bind fun R7 =>
  some (⟨rZ,R7⟩:aa)))
  else none)))
def yM (N:Nat) (a2:Int) (b2:Int):Option (aa) :=
 (cond (decide (a2 < 0))
 (p7 N a2 b2 N (ao (0 - a2)) b2)
 (p7 N a2 b2 N a2 b2))
def Ll (N:Nat) (a:Int) (b:Int):Option (aa) :=
 (cond (decide (b < 0))
 (yM N (ao (0 - a)) (ao (0 - b)))
 (yM N a b))
def pF (N:Nat) (a:aa) (b:aa):Option (Bool) :=
 ((k9 N a.fN b.fN).bind fun cR =>
 ((cond cR (k9 N a.fD b.fD) (some false)).bind fun dW =>
 some (cond cR dW false)))
def gS (N:Nat):Option (Bool) :=
 ((xN N (-7)).bind fun rZ =>
 ((xN N 2).bind fun R7 =>
 ((xi N rZ R7).bind fun dI =>
 ((zP N 6 (-4)).bind fun l7 =>
 ((Gg N ([2,0]:List Int)).bind fun rWs =>
 ((IV N 5).bind fun rW =>
 ((zQ N (⟨([0,10]:List Int),rWs⟩:fo) rW).bind fun tN =>
 ((cond (dI.2.2 == 0) (xN N (-4)) (some bR.d)).bind fun rZ3 =>
 ((cond (dI.2.2 == 0) (k9 N dI.1 rZ3) (some false)).bind fun cR =>
 ((cond (cond (dI.2.2 == 0) cR false) (xN N 1) (some bR.d)).bind fun rZ4 =>
 ((cond (cond (dI.2.2 == 0) cR false) (k9 N dI.2.1 rZ4) (some false)).bind fun dW =>
 ((cond (cond (cond (cond (dI.2.2 == 0) cR false) dW false) (l7.2 == 0) false) (Ll N (-3) 2) (some aa.d)).bind fun rQ =>
 ((cond (cond (cond (cond (dI.2.2 == 0) cR false) dW false) (l7.2 == 0) false) (pF N l7.1 rQ) (some false)).bind fun nr =>
 ((cond (cond (cond (cond (cond (cond (dI.2.2 == 0) cR false) dW false) (l7.2 == 0) false) nr false) (tN.2 == 0) false) (IV N 10) (some aa.d)).bind fun rW2 =>
 ((cond (cond (cond (cond (cond (cond (dI.2.2 == 0) cR false) dW false) (l7.2 == 0) false) nr false) (tN.2 == 0) false) (pF N tN.1 rW2) (some false)).bind fun Dm =>
 some (cond (cond (cond (cond (cond (cond (dI.2.2 == 0) cR false) dW false) (l7.2 == 0) false) nr false) (tN.2 == 0) false) Dm false))))))))))))))))
def en (N:Nat) (ae:List aa) (C0:Int) (bd:Int) (cg:Int) (C1:List Int) (C2:List Int) (C3:List (List aa)) (C4:List aa) (x:Int) (il:List aa) (CD:Int×aa) (left:List (Int×aa)) (bw:Int) (dg:aa) (iU:(List aa)→Bool→(List Int)→Bool→(List Int)→(List (Int×aa))→Option (jq×(List aa))) (cx:(List aa)→Bool→(List Int)→Bool→(List Int)→Int→Option (jq×(List aa))):Nat→(List aa)→Int→Option (jq×(List aa))
 | 0,_,_=>none
 | fuel+1,oe,x2 =>
  (cond (decide (x2 < ((il.length:Nat):Int)))
  ((if (bw).toNat < C3.length then
  (if 0≤x2∧x2 < ((oe.length:Nat):Int) then
  (if 0≤bw∧bw < ((C3.length:Nat):Int) then
  (if 0≤x2∧x2 < (((C3.getD ((bw).toNat) []).length:Nat):Int) then
  ((dy N CD.2 (⟨(((C3.getD ((bw).toNat) []).getD ((x2).toNat) aa.d).fN),(((C3.getD ((bw).toNat) []).getD ((x2).toNat) aa.d).fD)⟩:aa)).bind fun gJ =>
  ((dn N (⟨((oe.getD ((x2).toNat) aa.d).fN),((oe.getD ((x2).toNat) aa.d).fD)⟩:aa) gJ).bind fun jt =>
  en N ae C0 bd cg C1 C2 C3 C4 x il CD left bw dg iU cx fuel (oe.set ((x2).toNat) jt) (ao (x2+1))))
  else none)
  else none)
  else none)
  else none))
  (iU oe dg.fN.fG dg.fN.fL dg.fD.fG dg.fD.fL left))
noncomputable def b5 (N:Nat) (ae:List aa) (C0:Int) (bd:Int) (cg:Int) (C1:List Int) (C2:List Int) (C3:List (List aa)) (C4:List aa) (x:Int) (cx:(List aa)→Bool→(List Int)→Bool→(List Int)→Int→Option (jq×(List aa))):Nat→(List aa)→Bool→(List Int)→Bool→(List Int)→(List (Int×aa))→Option (jq×(List aa))
 | 0,_,_,_,_,_,_=>none
 | fuel+1,il,mX,pP,pQ,sQ,rem =>
  (qH rem
  (cx il mX pP pQ sQ (ao (x+1)))
  (fun CD left =>
  ((bV N C2 CD.1).bind fun aN =>
  (cond (decide (aN≥0))
  ((if 0≤aN∧aN < ((il.length:Nat):Int) then
  ((dn N (⟨((il.getD ((aN).toNat) aa.d).fN),((il.getD ((aN).toNat) aa.d).fD)⟩:aa) CD.2).bind fun a9 =>
  b5 N ae C0 bd cg C1 C2 C3 C4 x cx fuel (il.set ((aN).toNat) a9) mX pP pQ sQ left)
  else none))
  (((bV N C1 CD.1).bind fun bw =>
  (if 0≤bw∧bw < ((C4.length:Nat):Int) then
  ((dy N CD.2 (⟨((C4.getD ((bw).toNat) aa.d).fN),((C4.getD ((bw).toNat) aa.d).fD)⟩:aa)).bind fun cb =>
  ((dn N (⟨(⟨mX,pP⟩:bR),(⟨pQ,sQ⟩:bR)⟩:aa) cb).bind fun dg =>
  en N ae C0 bd cg C1 C2 C3 C4 x il CD left bw dg (b5 N ae C0 bd cg C1 C2 C3 C4 x cx fuel) cx N il 0))
  else none)))))))
noncomputable def er (N:Nat) (ae:List aa) (C0:Int) (bd:Int) (cg:Int) (C1:List Int) (C2:List Int) (C3:List (List aa)) (C4:List aa):Nat→(List aa)→Bool→(List Int)→Bool→(List Int)→Int→Option (jq×(List aa))
 | 0,_,_,_,_,_,_=>none
 | fuel+1,cd,mW,js,mI,fk,x =>
  (cond (decide (x < ((ae.length:Nat):Int)))
  ((if 0≤x∧x < ((ae.length:Nat):Int) then
  ((jl N (⟨((ae.getD ((x).toNat) aa.d).fN),((ae.getD ((x).toNat) aa.d).fD)⟩:aa)).bind fun jB =>
  ((ej N (⟨((ae.getD ((x).toNat) aa.d).fN),((ae.getD ((x).toNat) aa.d).fD)⟩:aa)).bind fun aR =>
  ((jl N (⟨((ae.getD ((x).toNat) aa.d).fN),((ae.getD ((x).toNat) aa.d).fD)⟩:aa)).bind fun df =>
  ((ej N (⟨((ae.getD ((x).toNat) aa.d).fN),((ae.getD ((x).toNat) aa.d).fD)⟩:aa)).bind fun dL =>
  both (b5 N ae C0 bd cg C1 C2 C3 C4 x (er N ae C0 bd cg C1 C2 C3 C4 fuel) N cd mW js mI fk (o6 (fun za zb=>za == zb) (o6 (fun za zb=>za == zb) ([]:List (Int×aa)) x jB) (ao (C0+x)) aR))
  (b5 N ae C0 bd cg C1 C2 C3 C4 x (er N ae C0 bd cg C1 C2 C3 C4 fuel) N cd mW js mI fk (o6 (fun za zb=>za == zb) (o6 (fun za zb=>za == zb) ([]:List (Int×aa)) (ao (C0+x)) dL) x df))))))
  else none))
  (some ((⟨C0,bd,C1,C2,C3,C4,cd,(⟨(⟨mW,js⟩:bR),(⟨mI,fk⟩:bR)⟩:aa),cg⟩:jq),cd)))
noncomputable def oP (N:Nat) (ae:List aa) (C0:Int) (bd:Int) (bZ:Bool) (cL:List Int) (cO:Bool) (cP:List Int) (cg:Int) (C1:List Int) (C2:List Int) (C3:List (List aa)) (C4:List aa) (C5:List aa):Option (jq×(List aa)) :=
 er N ae C0 bd cg C1 C2 C3 C4 N C5 bZ cL cO cP 0
def mS (N:Nat) (j:Int) (C0:Int) (bd:Int) (bZ:Bool) (cL:List Int) (cO:Bool) (cP:List Int) (cg:Int) (C1:List Int) (C2:List Int) (C3:List (List aa)) (C4:List aa) (C5:List aa):Option (Int) :=
 some j
def ju (N:Nat) (mq:Int) (C1:Int) (C12:Int) (C13:Bool) (C14:List Int) (C15:Bool) (C16:List Int) (C17:Int) (C2:List Int) (C3:List Int) (C4:List (List aa)) (C5:List aa) (C6:List aa) (C7:Int):Option (aa) :=
 (if 0≤C7∧C7 < ((C3.length:Nat):Int) then
 (cond ((C3.getD ((C7).toNat) 0) == mq)
 (((da N 1).bind fun ar =>
 some ar))
 (((bV N C2 mq).bind fun aN =>
 (cond (decide (aN≥0))
 ((if (aN).toNat < C4.length then
 (if 0≤aN∧aN < ((C4.length:Nat):Int) then
 (if 0≤C7∧C7 < (((C4.getD ((aN).toNat) []).length:Nat):Int) then
 some (⟨(((C4.getD ((aN).toNat) []).getD ((C7).toNat) aa.d).fN),(((C4.getD ((aN).toNat) []).getD ((C7).toNat) aa.d).fD)⟩:aa)
 else none)
 else none)
 else none))
 (((da N 0).bind fun dV =>
 some dV))))))
 else none)
def dr (N:Nat) (C0:Int) (bd:Int) (bZ:Bool) (cL:List Int) (cO:Bool) (cP:List Int) (cg:Int) (C1:List Int) (C2:List Int) (C3:List (List aa)) (C4:List aa) (C5:List aa) (C7:Int):Nat→(List aa)→Int→Option ((List aa))
 | 0,_,_=>none
 | fuel+1,out,x =>
  (cond (decide (x < (((List.replicate ((C0).toNat) aa.d:List aa).length:Nat):Int)))
  (((ju N x C0 bd bZ cL cO cP cg C1 C2 C3 C4 C5 C7).bind fun JM =>
  ((ju N (ao (C0+x)) C0 bd bZ cL cO cP cg C1 C2 C3 C4 C5 C7).bind fun Gh =>
  ((ll N JM Gh).bind fun dc =>
  (if 0≤x∧x < ((out.length:Nat):Int) then
  dr N C0 bd bZ cL cO cP cg C1 C2 C3 C4 C5 C7 fuel (out.set ((x).toNat) dc) (ao (x+1))
  else none)))))
  (some out))
def iV (N:Nat) (C0:Int) (bd:Int) (bZ:Bool) (cL:List Int) (cO:Bool) (cP:List Int) (cg:Int) (C1:List Int) (C2:List Int) (C3:List (List aa)) (C4:List aa) (C5:List aa) (C7:Int):Option ((List aa)) :=
 (if 0≤C0∧(64:Int) * C0≤281474976710656∧C0≤9223372036854775807 then
 dr N C0 bd bZ cL cO cP cg C1 C2 C3 C4 C5 C7 N (List.replicate ((C0).toNat) aa.d:List aa) 0
 else none)
noncomputable def la (N:Nat) (ae:List aa) (l:List aE):Option (j4×Int) :=
 ((iw N ((ae.length:Nat):Int) l).bind fun bz =>
 (cond (bz != 0)
 (some ((⟨(⟨(⟨false,([]:List Int)⟩:bR),(⟨false,([]:List Int)⟩:bR)⟩:aa),([]:List aa),([]:List aa)⟩:j4),bz))
 (((vV N ((ae.length:Nat):Int) l).bind fun fA =>
 ((l5 N fA.tk fA.tl fA.af.fN.fG fA.af.fN.fL fA.af.fD.fG fA.af.fD.fL fA.bI fA.kj fA.m8 fA.Ku fA.Kv fA.eY).bind fun bu =>
 (if bu.2.2.1.length=fA.kj.length then
 (if bu.2.2.2.2.1.length=fA.Ku.length then
 (if bu.2.2.2.2.2.length=fA.Kv.length then
 (cond (!bu.1)
 (((eZ N bu.2.1.tk bu.2.1.tl bu.2.1.af.fN.fG bu.2.1.af.fN.fL bu.2.1.af.fD.fG bu.2.1.af.fD.fL bu.2.1.bI bu.2.2.1 bu.2.2.2.1 bu.2.2.2.2.1 bu.2.2.2.2.2 bu.2.1.eY).bind fun iA =>
 some ((⟨(⟨(⟨false,([]:List Int)⟩:bR),(⟨false,([]:List Int)⟩:bR)⟩:aa),([]:List aa),iA⟩:j4),29)))
 (((oP N ae bu.2.1.tk bu.2.1.tl bu.2.1.af.fN.fG bu.2.1.af.fN.fL bu.2.1.af.fD.fG bu.2.1.af.fD.fL bu.2.1.bI bu.2.2.1 bu.2.2.2.1 bu.2.2.2.2.1 bu.2.2.2.2.2 bu.2.1.eY).bind fun v5 =>
 (if v5.2.length=bu.2.1.eY.length then
 ((mQ N v5.1.tk v5.1.tl v5.1.af.fN.fG v5.1.af.fN.fL v5.1.af.fD.fG v5.1.af.fD.fL v5.1.bI bu.2.2.1 bu.2.2.2.1 bu.2.2.2.2.1 bu.2.2.2.2.2 v5.2).bind fun aD =>
 (if aD.2.2.1.length=bu.2.2.1.length then
 (if aD.2.2.2.1.length=bu.2.2.2.1.length then
 (if aD.2.2.2.2.1.length=bu.2.2.2.2.1.length then
 (if aD.2.2.2.2.2.1.length=bu.2.2.2.2.2.length then
 (if aD.2.2.2.2.2.2.length=v5.2.length then
 (cond (decide (aD.1≥0))
 (((mS N aD.1 aD.2.1.tk aD.2.1.tl aD.2.1.af.fN.fG aD.2.1.af.fN.fL aD.2.1.af.fD.fG aD.2.1.af.fD.fL aD.2.1.bI aD.2.2.1 aD.2.2.2.1 aD.2.2.2.2.1 aD.2.2.2.2.2.1 aD.2.2.2.2.2.2).bind fun Gi =>
 ((iV N aD.2.1.tk aD.2.1.tl aD.2.1.af.fN.fG aD.2.1.af.fN.fL aD.2.1.af.fD.fG aD.2.1.af.fD.fL aD.2.1.bI aD.2.2.1 aD.2.2.2.1 aD.2.2.2.2.1 aD.2.2.2.2.2.1 aD.2.2.2.2.2.2 Gi).bind fun si =>
 some ((⟨(⟨(⟨false,([]:List Int)⟩:bR),(⟨false,([]:List Int)⟩:bR)⟩:aa),si,([]:List aa)⟩:j4),14))))
 (((k8 N aD.2.1.tk aD.2.1.tl aD.2.1.af.fN.fG aD.2.1.af.fN.fL aD.2.1.af.fD.fG aD.2.1.af.fD.fL aD.2.1.bI aD.2.2.1 aD.2.2.2.1 aD.2.2.2.2.1 aD.2.2.2.2.2.1 aD.2.2.2.2.2.2).bind fun oQ =>
 ((eZ N aD.2.1.tk aD.2.1.tl aD.2.1.af.fN.fG aD.2.1.af.fN.fL aD.2.1.af.fD.fG aD.2.1.af.fD.fL aD.2.1.bI aD.2.2.1 aD.2.2.2.1 aD.2.2.2.2.1 aD.2.2.2.2.2.1 aD.2.2.2.2.2.2).bind fun fj =>
 some ((⟨aD.2.1.af,oQ,fj⟩:j4),0)))))
 else none)
 else none)
 else none)
 else none)
 else none))
 else none))))
 else none)
 else none)
 else none))))))
def jN (N:Nat) (neg:Bool) (a:List Int):Nat→(List Int)→Int→Option (bR)
 | 0,_,_=>none
 | fuel+1,x,i =>
  (cond (decide (i < ((a.length:Nat):Int)))
  ((if 0≤i∧i < ((a.length:Nat):Int) then
  (if (x.length+1) * 2≤140737488355328 then
  jN N neg a fuel (x ++ ([(IntKind.u16.wrap ((a.getD ((i).toNat) 0)))]:List Int)) (ao (i+1))
  else none)
  else none))
  (some (⟨(cond neg (decide (((a.length:Nat):Int) > 0)) false),x⟩:bR)))
def fB (N:Nat) (neg:Bool) (a:List Int):Option (bR) :=
 jN N neg a N ([]:List Int) 0
def ld (N:Nat) (n:Int):Nat→(List Int)→Int→Option (bR)
 | 0,_,_=>none
 | fuel+1,a,u =>
  (cond (decide (u > 0))
  ((if (a.length+1) * 8≤140737488355328 then
  ld N n fuel (a ++ ([(ao ((u.tmod 65536)))]:List Int)) (IntKind.u64.wrap (u.tdiv 65536))
  else none))
  (((fB N (decide (n < 0)) a).bind fun p8 =>
  some p8)))
def rD (N:Nat) (n:Int):Option (bR) :=
 (cond (decide (n < 0))
 (ld N n N ([]:List Int) (IntKind.u64.wrap (0 - (IntKind.u64.wrap (n)))))
 (ld N n N ([]:List Int) (IntKind.u64.wrap (n))))
def zR (N:Nat) (n:Int):Option (aa) :=
 ((rD N n).bind fun Kx =>
 ((rD N 1).bind fun Nc =>
 some (⟨Kx,Nc⟩:aa)))
def jO (N:Nat) (a:List Int):Nat→Int→Option ((List Int))
 | 0,_=>none
 | fuel+1,n =>
  (if ((decide (n > 0))=true→0≤(ao (n - 1))∧(ao (n - 1)) < ((a.length:Nat):Int)) then
  (cond (cond (decide (n > 0)) ((a.getD ((ao (n - 1)).toNat) 0) == 0) false)
  (jO N a fuel (ao (n - 1)))
  ((if 0≤(n).toNat∧(n).toNat≤a.length then
  (if 0≤n then
  (if (0+((n).toNat - 0)) * 8≤140737488355328 then
  some (([]:List Int) ++ ((a.take ((n).toNat)).drop 0))
  else none)
  else none)
  else none)))
  else none)
def l8 (N:Nat) (a:List Int):Option ((List Int)) :=
 jO N a N ((a.length:Nat):Int)
def jP (N:Nat) (l:List Int):Nat→(List Int)→Int→Option ((List Int))
 | 0,_,_=>none
 | fuel+1,a,i =>
  (cond (decide (i < ((l.length:Nat):Int)))
  ((if 0≤i∧i < ((l.length:Nat):Int) then
  (if (a.length+1) * 8≤140737488355328 then
  jP N l fuel (a ++ ([(ao ((l.getD ((i).toNat) 0)))]:List Int)) (ao (i+1))
  else none)
  else none))
  (((l8 N a).bind fun b7 =>
  some b7)))
def im (N:Nat) (l:List Int):Option ((List Int)) :=
 jP N l N ([]:List Int) 0
def lU (N:Nat) (a:List Int) (i:Int):Option (Int) :=
 (cond (decide (i < ((a.length:Nat):Int)))
 ((if 0≤i∧i < ((a.length:Nat):Int) then
 some (a.getD ((i).toNat) 0)
 else none))
 (some 0))
def iW (N:Nat) (a:List Int) (b:List Int) (i:Int) (lH:(List Int)→Int→Option ((List Int))):Nat→(List Int)→Int→Int→Option ((List Int))
 | 0,_,_,_=>none
 | fuel+1,fY,carry,k =>
  (cond (cond (decide (k < ((b.length:Nat):Int))) true (decide (carry > 0)))
  ((if 0≤(ao (i+k))∧(ao (i+k)) < ((fY.length:Nat):Int) then
  (if 0≤i∧i < ((a.length:Nat):Int) then
  ((lU N b k).bind fun cZ =>
  iW N a b i lH fuel (fY.set ((ao (i+k)).toNat) ((ao ((ao ((fY.getD ((ao (i+k)).toNat) 0)+(ao ((a.getD ((i).toNat) 0) * cZ))))+carry)).tmod 65536)) (ao ((ao ((ao ((fY.getD ((ao (i+k)).toNat) 0)+(ao ((a.getD ((i).toNat) 0) * cZ))))+carry)).tdiv 65536)) (ao (k+1)))
  else none)
  else none))
  (lH fY (ao (i+1))))
def iX (N:Nat) (a:List Int) (b:List Int):Nat→(List Int)→Int→Option ((List Int))
 | 0,_,_=>none
 | fuel+1,out,i =>
  (cond (decide (i < ((a.length:Nat):Int)))
  (iW N a b i (iX N a b fuel) N out 0 0)
  (((l8 N out).bind fun b7 =>
  some b7)))
def lg (N:Nat) (a:List Int) (b:List Int):Option ((List Int)) :=
 (if 0≤(ao ((ao (((a.length:Nat):Int)+((b.length:Nat):Int)))+1))∧(8:Int) * (ao ((ao (((a.length:Nat):Int)+((b.length:Nat):Int)))+1))≤281474976710656∧(ao ((ao (((a.length:Nat):Int)+((b.length:Nat):Int)))+1))≤9223372036854775807 then
 iX N a b N (List.replicate ((ao ((ao (((a.length:Nat):Int)+((b.length:Nat):Int)))+1)).toNat) 0:List Int) 0
 else none)
def gk (N:Nat) (a:List Int) (b:List Int):Nat→Int→Option (Int)
 | 0,_=>none
 | fuel+1,i =>
  (cond (decide (i≥0))
  ((if 0≤i∧i < ((a.length:Nat):Int) then
  (if 0≤i∧i < ((b.length:Nat):Int) then
  (cond ((a.getD ((i).toNat) 0) != (b.getD ((i).toNat) 0))
  (some (ao ((a.getD ((i).toNat) 0) - (b.getD ((i).toNat) 0))))
  (gk N a b fuel (ao (i - 1))))
  else none)
  else none))
  (some 0))
def mv (N:Nat) (a:List Int) (b:List Int):Option (Int) :=
 (cond (((a.length:Nat):Int) != ((b.length:Nat):Int))
 (some (ao (((a.length:Nat):Int) - ((b.length:Nat):Int))))
 (gk N a b N (ao (((a.length:Nat):Int) - 1))))
def lJ (N:Nat) (a:List Int) (b:List Int) (out:List Int) (i:Int) (nW:(List Int)→Int→Int→Option ((List Int))) (kn:Int) (s:Int):Option ((List Int)) :=
 (if (out.length+1) * 8≤140737488355328 then
 nW (out ++ ([s]:List Int)) kn (ao (i+1))
 else none)
def fO (N:Nat) (a:List Int) (b:List Int):Nat→(List Int)→Int→Int→Option ((List Int))
 | 0,_,_,_=>none
 | fuel+1,out,borrow,i =>
  (cond (decide (i < ((a.length:Nat):Int)))
  ((if 0≤i∧i < ((a.length:Nat):Int) then
  ((lU N b i).bind fun cZ =>
  (cond (decide ((ao ((ao ((a.getD ((i).toNat) 0) - cZ)) - borrow)) < 0))
  (lJ N a b out i (fO N a b fuel) 1 (ao ((ao ((ao ((a.getD ((i).toNat) 0) - cZ)) - borrow))+65536)))
  (lJ N a b out i (fO N a b fuel) 0 (ao ((ao ((a.getD ((i).toNat) 0) - cZ)) - borrow)))))
  else none))
  (((l8 N out).bind fun b7 =>
  some b7)))
def pG (N:Nat) (a:List Int) (b:List Int):Option ((List Int)) :=
 fO N a b N ([]:List Int) 0 0
def mw (N:Nat) (a:List Int) (b:List Int) (q:List Int) (i:Int) (lo:Int) (dT:(List Int)→(List Int)→Int→Option ((List Int)×(List Int))) (Lm:List Int):Option ((List Int)×(List Int)) :=
 dT Lm (q.set ((i).toNat) lo) (ao (i - 1))
def iB (N:Nat) (a:List Int) (b:List Int) (q:List Int) (i:Int) (b7:(List Int)) (dT:(List Int)→(List Int)→Int→Option ((List Int)×(List Int))):Nat→Int→Int→Option ((List Int)×(List Int))
 | 0,_,_=>none
 | fuel+1,lo,hi =>
  (cond (decide (lo < hi))
  (((lg N b ([(ao ((ao ((ao (lo+hi))+1)).tdiv 2))]:List Int)).bind fun sb =>
  ((mv N sb b7).bind fun j6 =>
  (cond (decide (j6≤0))
  (iB N a b q i b7 dT fuel (ao ((ao ((ao (lo+hi))+1)).tdiv 2)) hi)
  (iB N a b q i b7 dT fuel lo (ao ((ao ((ao ((ao (lo+hi))+1)).tdiv 2)) - 1)))))))
  ((if 0≤i∧i < ((q.length:Nat):Int) then
  (cond (decide (lo > 0))
  (((lg N b ([lo]:List Int)).bind fun Fb =>
  ((pG N b7 Fb).bind fun o7 =>
  mw N a b q i lo dT o7)))
  (mw N a b q i lo dT b7))
  else none)))
def iC (N:Nat) (a:List Int) (b:List Int):Nat→(List Int)→(List Int)→Int→Option ((List Int)×(List Int))
 | 0,_,_,_=>none
 | fuel+1,rest,q,i =>
  (cond (decide (i≥0))
  ((if 0≤i∧i < ((a.length:Nat):Int) then
  (if (1+rest.length) * 8≤140737488355328 then
  ((l8 N (([(a.getD ((i).toNat) 0)]:List Int) ++ rest)).bind fun b7 =>
  iB N a b q i b7 (iC N a b fuel) N 0 65535)
  else none)
  else none))
  (((l8 N q).bind fun gu =>
  some (gu,rest))))
def nu (N:Nat) (a:List Int) (b:List Int):Option ((List Int)×(List Int)) :=
 (if 0≤((a.length:Nat):Int)∧(8:Int) * ((a.length:Nat):Int)≤281474976710656∧((a.length:Nat):Int)≤9223372036854775807 then
 iC N a b N ([]:List Int) (List.replicate a.length 0:List Int) (ao (((a.length:Nat):Int) - 1))
 else none)
def l9 (N:Nat):Nat→(List Int)→(List Int)→Option ((List Int))
 | 0,_,_=>none
 | fuel+1,a2,b2 =>
  (cond (decide (((b2.length:Nat):Int) > 0))
  (((nu N a2 b2).bind fun ku =>
  l9 N fuel b2 ku.2))
  (some a2))
def zS (N:Nat) (a:List Int) (b:List Int):Option ((List Int)) :=
 l9 N N a b
def o9 (N:Nat) (a:bR) (b:bR):Option (aa) :=
 ((im N a.fL).bind fun mT =>
 ((im N b.fL).bind fun og =>
 (cond (((og.length:Nat):Int) == 0)
 (((fB N a.fG mT).bind fun p8 =>
 ((rD N 1).bind fun Kx =>
 some (⟨p8,Kx⟩:aa))))
 (((zS N mT og).bind fun Vf =>
 ((nu N mT Vf).bind fun ku =>
 ((nu N og Vf).bind fun kD =>
 ((fB N (!(a.fG == b.fG)) ku.1).bind fun A1 =>
 ((fB N false kD.1).bind fun A2 =>
 some (⟨A1,A2⟩:aa))))))))))
def iE (N:Nat) (x:aa):Option (aa) :=
 ((o9 N x.fN x.fD).bind fun yN =>
 some yN)
def pH (N:Nat) (a:bR) (b:bR):Option (bR) :=
 ((im N a.fL).bind fun mT =>
 ((im N b.fL).bind fun og =>
 ((lg N mT og).bind fun sb =>
 ((fB N (!(a.fG == b.fG)) sb).bind fun p8 =>
 some p8))))
def sU (N:Nat) (x:aa) (y:aa):Option (aa) :=
 ((iE N x).bind fun gL =>
 ((iE N y).bind fun my =>
 ((pH N gL.fN my.fN).bind fun xh =>
 ((pH N gL.fD my.fD).bind fun pY =>
 ((o9 N xh pY).bind fun yN =>
 some yN)))))
def jQ (N:Nat) (a:List Int) (b:List Int):Nat→(List Int)→Int→Int→Option ((List Int))
 | 0,_,_,_=>none
 | fuel+1,out,carry,i =>
  (cond (cond (cond (decide (i < ((a.length:Nat):Int))) true (decide (i < ((b.length:Nat):Int)))) true (decide (carry > 0)))
  (((lU N a i).bind fun cZ =>
  ((lU N b i).bind fun ma =>
  (if (out.length+1) * 8≤140737488355328 then
  jQ N a b fuel (out ++ ([((ao ((ao (cZ+ma))+carry)).tmod 65536)]:List Int)) (ao ((ao ((ao (cZ+ma))+carry)).tdiv 65536)) (ao (i+1))
  else none))))
  (((l8 N out).bind fun b7 =>
  some b7)))
def xj (N:Nat) (a:List Int) (b:List Int):Option ((List Int)) :=
 jQ N a b N ([]:List Int) 0 0
def zT (N:Nat) (a:bR) (b:bR):Option (bR) :=
 ((im N a.fL).bind fun mT =>
 ((im N b.fL).bind fun og =>
 (cond (a.fG == b.fG)
 (((xj N mT og).bind fun xM =>
 ((fB N a.fG xM).bind fun p8 =>
 some p8)))
 (((mv N mT og).bind fun j6 =>
 (cond (decide (j6≥0))
 (((pG N mT og).bind fun o7 =>
 ((fB N a.fG o7).bind fun A1 =>
 some A1)))
 (((pG N og mT).bind fun xg =>
 ((fB N b.fG xg).bind fun A2 =>
 some A2)))))))))
def p9 (N:Nat) (x:aa) (y:aa):Option (aa) :=
 ((iE N x).bind fun gL =>
 ((iE N y).bind fun my =>
 ((pH N gL.fN my.fD).bind fun xh =>
 ((pH N my.fN gL.fD).bind fun pY =>
 ((zT N xh pY).bind fun M9 =>
 ((pH N gL.fD my.fD).bind fun F7 =>
 ((o9 N M9 F7).bind fun yN =>
 some yN)))))))
def zU (N:Nat) (a:bR):Option (bR) :=
 ((im N a.fL).bind fun mT =>
 ((fB N (!a.fG) mT).bind fun p8 =>
 some p8))
def sV (N:Nat) (x:aa):Option (aa) :=
 ((iE N x).bind fun gL =>
 ((zU N gL.fN).bind fun XV =>
 some (⟨XV,gL.fD⟩:aa)))
def sX (N:Nat) (x:aa) (y:aa):Option (aa) :=
 ((sV N y).bind fun JN =>
 ((p9 N x JN).bind fun a9 =>
 some a9))
def xk (N:Nat) (a:bR):Option (Int) :=
 ((im N a.fL).bind fun mT =>
 (cond (((mT.length:Nat):Int) == 0)
 (some 0)
 ((cond a.fG
 (some (-1))
 (some 1)))))
def qT (N:Nat) (x:aa):Option (Int) :=
 ((iE N x).bind fun gL =>
 ((xk N gL.fN).bind fun R8 =>
 some R8))
def nX (N:Nat) (x:aa) (y:aa):Option (Int) :=
 ((sX N x y).bind fun dc =>
 ((qT N dc).bind fun Gj =>
 some Gj))
def gl (N:Nat) (a:List aa) (b:List aa):Nat→aa→Int→Option (aa)
 | 0,_,_=>none
 | fuel+1,out,i =>
  (cond (cond (decide (i < ((a.length:Nat):Int))) (decide (i < ((b.length:Nat):Int))) false)
  ((if 0≤i∧i < ((a.length:Nat):Int) then
  (if 0≤i∧i < ((b.length:Nat):Int) then
  ((sU N (⟨((a.getD ((i).toNat) aa.d).fN),((a.getD ((i).toNat) aa.d).fD)⟩:aa) (⟨((b.getD ((i).toNat) aa.d).fN),((b.getD ((i).toNat) aa.d).fD)⟩:aa)).bind fun cb =>
  ((p9 N out cb).bind fun a9 =>
  gl N a b fuel a9 (ao (i+1))))
  else none)
  else none))
  (some out))
def ox (N:Nat) (a:List aa) (b:List aa):Option (aa) :=
 ((zR N 0).bind fun rQ =>
 gl N a b N rQ 0)
def iY (N:Nat) (l:List aE) (nv:List aa):Nat→Int→Option (Bool)
 | 0,_=>none
 | fuel+1,i =>
  (cond (decide (i < ((l.length:Nat):Int)))
  ((if 0≤i∧i < ((l.length:Nat):Int) then
  ((ox N ((l.getD ((i).toNat) aE.d).bj) nv).bind fun rE =>
  ((nX N rE (⟨(((l.getD ((i).toNat) aE.d).bK).fN),(((l.getD ((i).toNat) aE.d).bK).fD)⟩:aa)).bind fun eT =>
  (cond (decide (eT > 0))
  (some false)
  (iY N l nv fuel (ao (i+1))))))
  else none))
  (some true))
def uH (N:Nat) (l:List aE) (nv:List aa):Option (Bool) :=
 iY N l nv N 0
def nw (N:Nat) (c:List aa) (x:List aa):Nat→aa→Int→Option (aa)
 | 0,_,_=>none
 | fuel+1,sum,x2 =>
  (cond (decide (x2 < ((c.length:Nat):Int)))
  ((if 0≤x2∧x2 < ((c.length:Nat):Int) then
  (if 0≤x2∧x2 < ((x.length:Nat):Int) then
  ((dy N (⟨((c.getD ((x2).toNat) aa.d).fN),((c.getD ((x2).toNat) aa.d).fD)⟩:aa) (⟨((x.getD ((x2).toNat) aa.d).fN),((x.getD ((x2).toNat) aa.d).fD)⟩:aa)).bind fun cb =>
  ((dn N sum cb).bind fun a9 =>
  nw N c x fuel a9 (ao (x2+1))))
  else none)
  else none))
  (some sum))
def BV (N:Nat) (c:List aa) (x:List aa):Option (aa) :=
 ((da N 0).bind fun ar =>
 nw N c x N ar 0)
def oS (N:Nat) (vr:aE) (C0:List aa):Option (Bool) :=
 ((BV N vr.bj C0).bind fun Nd =>
 ((gI N Nd vr.bK).bind fun eT =>
 some (decide (eT > 0))))
def bW (N:Nat) (s:List aE) (C0:List aa):Nat→Int→Option (Int)
 | 0,_=>none
 | fuel+1,x =>
  (cond (decide (x < ((s.length:Nat):Int)))
  ((if 0≤x∧x < ((s.length:Nat):Int) then
  ((oS N (s.getD ((x).toNat) aE.d) C0).bind fun yO =>
  (cond yO
  (some x)
  (bW N s C0 fuel (ao (x+1)))))
  else none))
  (some (-1)))
def kE (N:Nat) (s:List aE) (C0:List aa):Option (Int) :=
 bW N s C0 N 0
def jm (N:Nat) (s:List aE) (C0:List aa):Option (Bool) :=
 ((kE N s C0).bind fun AS =>
 some (decide (AS≥0)))
def oy (N:Nat) (l:List aE) (nv:List aa):Option (Bool) :=
 ((jm N l nv).bind fun AS =>
 some (!AS))
def qa (N:Nat) (l:List aE) (nv:List aa):Option (Int) :=
 ((iw N ((nv.length:Nat):Int) l).bind fun bz =>
 (cond (bz != 0)
 (some bz)
 (((oy N l nv).bind fun dM =>
 (cond (!dM)
 (some 24)
 (some 0))))))
def gU (N:Nat) (l:List aE) (y:List aa) (bound:aa) (x2:Int) (lh:(List aa)→aa→Int→Option ((List aa)×aa×Bool)):Nat→(List aa)→Int→Option ((List aa)×aa×Bool)
 | 0,_,_=>none
 | fuel+1,sL,x3 =>
  (cond (decide (x3 < ((((l.getD ((x2).toNat) aE.d).bj).length:Nat):Int)))
  ((if 0≤x3∧x3 < ((((l.getD ((x2).toNat) aE.d).bj).length:Nat):Int) then
  (if 0≤x3∧x3 < ((sL.length:Nat):Int) then
  (if 0≤x2∧x2 < ((y.length:Nat):Int) then
  ((dy N (⟨((y.getD ((x2).toNat) aa.d).fN),((y.getD ((x2).toNat) aa.d).fD)⟩:aa) (⟨((((l.getD ((x2).toNat) aE.d).bj).getD ((x3).toNat) aa.d).fN),((((l.getD ((x2).toNat) aE.d).bj).getD ((x3).toNat) aa.d).fD)⟩:aa)).bind fun cb =>
  ((dn N (⟨((sL.getD ((x3).toNat) aa.d).fN),((sL.getD ((x3).toNat) aa.d).fD)⟩:aa) cb).bind fun a9 =>
  gU N l y bound x2 lh fuel (sL.set ((x3).toNat) a9) (ao (x3+1))))
  else none)
  else none)
  else none))
  ((if 0≤x2∧x2 < ((y.length:Nat):Int) then
  ((dy N (⟨((y.getD ((x2).toNat) aa.d).fN),((y.getD ((x2).toNat) aa.d).fD)⟩:aa) (⟨(((l.getD ((x2).toNat) aE.d).bK).fN),(((l.getD ((x2).toNat) aE.d).bK).fD)⟩:aa)).bind fun gJ =>
  ((dn N bound gJ).bind fun dg =>
  lh sL dg (ao (x2+1))))
  else none)))
def ey (N:Nat) (l:List aE) (y:List aa):Nat→(List aa)→aa→Int→Option ((List aa)×aa×Bool)
 | 0,_,_,_=>none
 | fuel+1,v7,bound,x2 =>
  (cond (decide (x2 < ((l.length:Nat):Int)))
  ((if 0≤x2∧x2 < ((l.length:Nat):Int) then
  (if 0≤x2∧x2 < ((y.length:Nat):Int) then
  ((ij N (⟨((y.getD ((x2).toNat) aa.d).fN),((y.getD ((x2).toNat) aa.d).fD)⟩:aa)).bind fun an =>
  (cond (decide (an < 0))
  (some (([]:List aa),bound,false))
  (gU N l y bound x2 (ey N l y fuel) N v7 0)))
  else none)
  else none))
  (some (v7,bound,true)))
def gV (N:Nat) (n:Int) (l:List aE) (y:List aa):Nat→(List aa)→Int→Option ((List aa)×aa×Bool)
 | 0,_,_=>none
 | fuel+1,BW,x =>
  (cond (decide (x < (((List.replicate ((n).toNat) aa.d:List aa).length:Nat):Int)))
  (((da N 0).bind fun ar =>
  (if 0≤x∧x < ((BW.length:Nat):Int) then
  gV N n l y fuel (BW.set ((x).toNat) ar) (ao (x+1))
  else none)))
  (((da N 0).bind fun dV =>
  ey N l y N BW dV 0)))
def qc (N:Nat) (n:Int) (l:List aE) (y:List aa):Option ((List aa)×aa×Bool) :=
 (if 0≤n∧(64:Int) * n≤281474976710656∧n≤9223372036854775807 then
 gV N n l y N (List.replicate ((n).toNat) aa.d:List aa) 0
 else none)
def iG (N:Nat) (x:aa):Option (Bool) :=
 ((fX N x).bind fun eS =>
 some (!eS))
def bX (N:Nat) (s:List aa):Nat→Int→Option (Int)
 | 0,_=>none
 | fuel+1,x =>
  (cond (decide (x < ((s.length:Nat):Int)))
  ((if 0≤x∧x < ((s.length:Nat):Int) then
  ((iG N (⟨((s.getD ((x).toNat) aa.d).fN),((s.getD ((x).toNat) aa.d).fD)⟩:aa)).bind fun lq =>
  (cond lq
  (some x)
  (bX N s fuel (ao (x+1)))))
  else none))
  (some (-1)))
def kF (N:Nat) (s:List aa):Option (Int) :=
 bX N s N 0
def hH (N:Nat) (s:List aa):Option (Bool) :=
 ((kF N s).bind fun Gf =>
 some (decide (Gf≥0)))
def jG (N:Nat) (n:Int) (l:List aE) (rF:List aa):Option (Int) :=
 ((iw N n l).bind fun bz =>
 (cond (bz != 0)
 (some bz)
 ((cond (((rF.length:Nat):Int) != ((l.length:Nat):Int))
 (some 11)
 (((qc N n l rF).bind fun ba =>
 ((cond (!(!ba.2.2)) (ij N ba.2.1) (some 0)).bind fun an =>
 ((cond (!(cond (!ba.2.2) true (decide (an≥0)))) (hH N ba.1) (some false)).bind fun Gf =>
 (cond (cond (cond (!ba.2.2) true (decide (an≥0))) true Gf)
 (some 24)
 (some 0))))))))))
def gn (N:Nat) (ae:List aa) (ba:(List aa)×aa×Bool):Nat→Int→Option (Int)
 | 0,_=>none
 | fuel+1,x =>
  (cond (decide (x < ((ba.1.length:Nat):Int)))
  ((if 0≤x∧x < ((ba.1.length:Nat):Int) then
  (if 0≤x∧x < ((ae.length:Nat):Int) then
  ((gI N (⟨((ba.1.getD ((x).toNat) aa.d).fN),((ba.1.getD ((x).toNat) aa.d).fD)⟩:aa) (⟨((ae.getD ((x).toNat) aa.d).fN),((ae.getD ((x).toNat) aa.d).fD)⟩:aa)).bind fun Gk =>
  (cond (Gk != 0)
  (some 24)
  (gn N ae ba fuel (ao (x+1)))))
  else none)
  else none))
  (some 0))
def mz (N:Nat) (ae:List aa) (l:List aE) (b:j4):Option (Int) :=
 ((iw N ((ae.length:Nat):Int) l).bind fun bz =>
 (cond (bz != 0)
 (some bz)
 ((cond (cond (((b.cu.length:Nat):Int) != ((ae.length:Nat):Int)) true (((b.bA.length:Nat):Int) != ((l.length:Nat):Int)))
 (some 11)
 (((qc N ((ae.length:Nat):Int) l b.bA).bind fun ba =>
 ((cond (!(!ba.2.2)) (oy N l b.cu) (some false)).bind fun dM =>
 ((cond (!(cond (!ba.2.2) true (!dM))) (BV N ae b.cu) (some aa.d)).bind fun Nd =>
 ((cond (!(cond (!ba.2.2) true (!dM))) (gI N Nd b.g8) (some 0)).bind fun eT =>
 ((cond (!(cond (cond (!ba.2.2) true (!dM)) true (eT != 0))) (gI N ba.2.1 b.g8) (some 0)).bind fun lK =>
 (cond (cond (cond (cond (!ba.2.2) true (!dM)) true (eT != 0)) true (lK != 0))
 (some 24)
 (gn N ae ba N 0))))))))))))
noncomputable def gN (N:Nat) (ae:List aa) (l:List aE) (other:j4):Option (Bool) :=
 ((iR N (⟨((ae.length:Nat):Int),l⟩:cQ)).bind fun e8 =>
 ((cond (!(!e8)) (ln N ae 20) (some false)).bind fun eC =>
 ((cond (!(cond (!e8) true eC)) (ln N other.cu 20) (some false)).bind fun eI =>
 ((cond (!(cond (cond (!e8) true eC) true eI)) (ln N other.bA 60) (some false)).bind fun gp =>
 ((cond (!(cond (cond (cond (!e8) true eC) true eI) true gp)) (o8 N other.g8) (some false)).bind fun rz =>
 ((cond (!(cond (cond (cond (cond (cond (!e8) true eC) true eI) true gp) true rz) true (((other.cu.length:Nat):Int) != ((ae.length:Nat):Int)))) (kK N ((ae.length:Nat):Int) l) (some 0)).bind fun bz =>
 (cond (cond (cond (cond (cond (cond (cond (!e8) true eC) true eI) true gp) true rz) true (((other.cu.length:Nat):Int) != ((ae.length:Nat):Int))) true (bz != 0))
 (((gS N).bind fun Gl =>
 some Gl))
 (((qa N l other.cu).bind fun aF =>
 ((uH N l other.cu).bind fun ny =>
 ((cond ((!(!((aF == 0) == ny))) && ((!(!((aF == 0) == ny))) && (aF == 0))) (jG N ((ae.length:Nat):Int) l other.bA) (some 0)).bind fun lq =>
 (cond (cond (!((aF == 0) == ny)) true (cond (aF == 0) (lq == 0) false))
 (some false)
 (((ox N ae other.cu).bind fun rE =>
 ((cond (aF == 0) (mz N ae l other) (some 0)).bind fun mb =>
 ((cond (cond (aF == 0) (mb == 0) false) (nX N other.g8 rE) (some 0)).bind fun eT =>
 (cond (cond (cond (aF == 0) (mb == 0) false) (eT != 0) false)
 (some false)
 (((la N ae l).bind fun fI =>
 (cond (fI.2 == 0)
 (((mz N ae l fI.1).bind fun cj =>
 ((cond ((cj == 0) && ((cj == 0) && (!(!(aF == 0))))) (gI N rE fI.1.g8) (some 0)).bind fun lK =>
 ((cond (cond (cj == 0) (cond (!(aF == 0)) true (decide (lK≤0))) false) (gS N) (some false)).bind fun BX =>
 some (cond (cond (cj == 0) (cond (!(aF == 0)) true (decide (lK≤0))) false) BX false)))))
 ((cond (fI.2 == 29)
 (((cond (!(aF == 0)) (gS N) (some false)).bind fun BZ =>
 some (cond (!(aF == 0)) BZ false)))
 (((cond (fI.2 == 14) (gS N) (some false)).bind fun B0 =>
 some (cond (fI.2 == 14) B0 false)))))))))))))))))))))))))
end Go.Den
