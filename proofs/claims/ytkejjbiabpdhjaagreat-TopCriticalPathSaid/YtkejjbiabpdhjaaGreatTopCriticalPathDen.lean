/- The functions of the program as Lean functions, each in the Option monad; N bounds the rounds of loops. No conditions. -/
import Derived.Test.YtkejjbiabpdhjaaGreatCe
set_option linter.unusedVariables false
set_option linter.unusedSimpArgs false
set_option linter.unusedVariables false
namespace Go.Den
open Go.Ab
abbrev zA (s:ByteArray) (x:Int):Int:=om s x.toNat
structure eN where
 fG:Bool
 fL:List Int
def eN.d:eN:=⟨false,[]⟩
def eN.wf (x:eN):Prop:=wB x.fG/\(wL (wK .u16)) x.fL
def TIc (x:eN):List AV:=[(aB x.fG),(bJ (cU .u16) 0 x.fL)]
structure aa where
 fN:eN
 fD:eN
def aa.d:aa:=⟨eN.d,eN.d⟩
def aa.wf (x:aa):Prop:=eN.wf x.fN/\eN.wf x.fD
def dY (x:aa):List AV:=[(aB x.fN.fG),(bJ (cU .u16) 0 x.fN.fL),(aB x.fD.fG),(bJ (cU .u16) 0 x.fD.fL)]
structure a8 where
 db:List aa
 jl:aa
def a8.d:a8:=⟨[],aa.d⟩
def a8.wf (x:a8):Prop:=(wL aa.wf) x.db/\aa.wf x.jl
def Zv (x:a8):List AV:=[(bJ dY aa.d x.db),(aB x.jl.fN.fG),(bJ (cU .u16) 0 x.jl.fN.fL),(aB x.jl.fD.fG),(bJ (cU .u16) 0 x.jl.fD.fL)]
structure ml where
 zN:Int
 zO:Int
 H0:List Int
 Qi:List Int
 f_a:List (List aa)
 f_b:List aa
 rP:List aa
 ax:aa
 b5:Int
def ml.d:ml:=⟨0,0,[],[],[],[],[],aa.d,0⟩
def ml.wf (x:ml):Prop:=wI x.zN/\wI x.zO/\(wL wI) x.H0/\(wL wI) x.Qi/\(wL (wL aa.wf)) x.f_a/\(wL aa.wf) x.f_b/\(wL aa.wf) x.rP/\aa.wf x.ax/\wI x.b5
def ml.cells (x:ml):List AV:=[(aI x.zN),(aI x.zO),(bJ cI 0 x.H0),(bJ cI 0 x.Qi),(bJ (fun x=>[bJ dY aa.d x]) [] x.f_a),(bJ dY aa.d x.f_b),(bJ dY aa.d x.rP),(aB x.ax.fN.fG),(bJ (cU .u16) 0 x.ax.fN.fL),(aB x.ax.fD.fG),(bJ (cU .u16) 0 x.ax.fD.fL),(aI x.b5)]
structure eV where
 fg:Int
 jb:Int
def eV.d:eV:=⟨0,0⟩
def eV.wf (x:eV):Prop:=wI x.fg/\wI x.jb
def eV.cells (x:eV):List AV:=[(aI x.fg),(aI x.jb)]
structure bq where
 cl:ByteArray
 eO:ByteArray
 aP:List eV
 gn:ByteArray
 pQ:Int
 acz:Bool
 a9:List ByteArray
def bq.d:bq:=⟨ByteArray.empty,ByteArray.empty,[],ByteArray.empty,0,false,[]⟩
def bq.wf (x:bq):Prop:=wS x.cl/\wS x.eO/\(wL eV.wf) x.aP/\wS x.gn/\wI x.pQ/\wB x.acz/\(wL wS) x.a9
def bq.cells (x:bq):List AV:=[(aS x.cl),(aS x.eO),(bJ eV.cells eV.d x.aP),(aS x.gn),(aI x.pQ),(aB x.acz),(bJ cS ByteArray.empty x.a9)]
structure de where
 cl:ByteArray
 jb:Int
 Qj:Int
def de.d:de:=⟨ByteArray.empty,0,0⟩
def de.wf (x:de):Prop:=wS x.cl/\wI x.jb/\wI x.Qj
def de.cells (x:de):List AV:=[(aS x.cl),(aI x.jb),(aI x.Qj)]
structure dj where
 cl:ByteArray
 Qk:Bool
 jg:List ByteArray
def dj.d:dj:=⟨ByteArray.empty,false,[]⟩
def dj.wf (x:dj):Prop:=wS x.cl/\wB x.Qk/\(wL wS) x.jg
def dj.cells (x:dj):List AV:=[(aS x.cl),(aB x.Qk),(bJ cS ByteArray.empty x.jg)]
structure dU where
 f_A:Int
 f_B:Int
 Kw:Int
def dU.d:dU:=⟨0,0,0⟩
def dU.wf (x:dU):Prop:=wI x.f_A/\wI x.f_B/\wI x.Kw
def dU.cells (x:dU):List AV:=[(aI x.f_A),(aI x.f_B),(aI x.Kw)]
structure iy where
 Gl:Int
 X1:Int
def iy.d:iy:=⟨0,0⟩
def iy.wf (x:iy):Prop:=wI x.Gl/\wI x.X1
def iy.cells (x:iy):List AV:=[(aI x.Gl),(aI x.X1)]
structure aq where
 ab:List bq
 bu:List de
 bm:List dj
 bK:List dU
 cO:List iy
 L4:Int
 Ua:Int
 L5:Int
 L6:Int
def aq.d:aq:=⟨[],[],[],[],[],0,0,0,0⟩
def aq.wf (x:aq):Prop:=(wL bq.wf) x.ab/\(wL de.wf) x.bu/\(wL dj.wf) x.bm/\(wL dU.wf) x.bK/\(wL iy.wf) x.cO/\wI x.L4/\wI x.Ua/\wI x.L5/\wI x.L6
def aq.cells (x:aq):List AV:=[(bJ bq.cells bq.d x.ab),(bJ de.cells de.d x.bu),(bJ dj.cells dj.d x.bm),(bJ dU.cells dU.d x.bK),(bJ iy.cells iy.d x.cO),(aI x.L4),(aI x.Ua),(aI x.L5),(aI x.L6)]
structure uT where
 rz:aa
 oI:List aa
 eW:List aa
def uT.d:uT:=⟨aa.d,[],[]⟩
def uT.wf (x:uT):Prop:=aa.wf x.rz/\(wL aa.wf) x.oI/\(wL aa.wf) x.eW
def uT.cells (x:uT):List AV:=[(aB x.rz.fN.fG),(bJ (cU .u16) 0 x.rz.fN.fL),(aB x.rz.fD.fG),(bJ (cU .u16) 0 x.rz.fD.fL),(bJ dY aa.d x.oI),(bJ dY aa.d x.eW)]
structure dH where
 fg:Int
 acA:List ByteArray
 eO:ByteArray
def dH.d:dH:=⟨0,[],ByteArray.empty⟩
def dH.wf (x:dH):Prop:=wI x.fg/\(wL wS) x.acA/\wS x.eO
def dH.cells (x:dH):List AV:=[(aI x.fg),(bJ cS ByteArray.empty x.acA),(aS x.eO)]
def uh (N:Nat) (a:a8) (b:Int):Option Bool :=
 some (decide ((a.db.length:Int) > b))
def dD (N:Nat) (s:List a8) (a:Int):Nat->Int->Option Int
 | 0,_=>none
 | fuel+1,x =>
  (cond (decide (x < (s.length:Int)))
  ((if 0<=x/\x < (s.length:Int) then
  ((uh N (s.getD x.toNat a8.d) a).bind fun b =>
  (cond b
  (some x)
  (dD N s a fuel (aR (x+1)))))
  else none))
  (some (-1)))
def qj (N:Nat) (s:List a8) (a:Int):Option Int :=
 dD N s a N 0
def ow (N:Nat) (s:List a8) (a:Int):Option Bool :=
 ((qj N s a).bind fun b =>
 some (decide (b>=0)))
def ph (N:Nat) (n:Int) (l:List a8):Option Int :=
 (cond (cond (decide (n < 0)) true (decide (n > 12)))
 (some 2)
 ((cond (decide ((l.length:Int) > 40))
 (some 8)
 (((ow N l n).bind fun a =>
 (cond a
 (some 11)
 (some 0)))))))
def nW (N:Nat):Nat->Int->(List Int)->Option (List Int)
 | 0,_,_=>none
 | fuel+1,a,out =>
  (cond (decide (a > 0))
  ((if (out.length+1) * 2<=140737488355328 then
  nW N fuel (zY .u64 a 16) (out ++ ([(IntKind.u16.wrap a)]:List Int))
  else none))
  (some out))
def rQ (N:Nat) (n:Int):Option (List Int) :=
 nW N N n ([]:List Int)
def rR (N:Nat):Nat->(List Int)->Option (List Int)
 | 0,_=>none
 | fuel+1,a =>
  (if ((decide ((a.length:Int) > 0))=true->0<=(aR ((a.length:Int) - 1))/\(aR ((a.length:Int) - 1)) < (a.length:Int)) then
  (cond (cond (decide ((a.length:Int) > 0)) ((a.getD ((aR ((a.length:Int) - 1)).toNat) 0) == 0) false)
  ((if 0<=(aR ((a.length:Int) - 1)).toNat/\(aR ((a.length:Int) - 1)).toNat<=a.length then
  (if 0<=(aR ((a.length:Int) - 1)) then
  rR N fuel ((a.take ((aR ((a.length:Int) - 1)).toNat)).drop 0)
  else none)
  else none))
  (some a))
  else none)
def ku (N:Nat) (n:List Int):Option (List Int) :=
 rR N N n
def fw (N:Nat) (s:List Int):Option (List Int) :=
 (if (0+s.length) * 2<=140737488355328 then
 some (([]:List Int) ++ s)
 else none)
def mE (N:Nat) (neg:Bool) (n:List Int):Option eN :=
 ((ku N n).bind fun a =>
 (cond ((a.length:Int) == 0)
 (some (⟨false,([]:List Int)⟩:eN))
 (((fw N a).bind fun b =>
 some (⟨neg,b⟩:eN)))))
def Ql (N:Nat) (n:Int):Option eN :=
 (cond (decide (n < 0))
 (((rQ N (IntKind.u64.wrap (0 - (IntKind.u64.wrap n)))).bind fun b =>
 ((mE N true b).bind fun a =>
 some a)))
 (((rQ N (IntKind.u64.wrap n)).bind fun c =>
 ((mE N false c).bind fun d =>
 some d))))
def p7 (N:Nat) (n:List Int):Nat->Int->Int->Option (Int×Bool)
 | 0,_,_=>none
 | fuel+1,out,i =>
  (cond (decide (i>=0))
  ((if 0<=i/\i < (n.length:Int) then
  p7 N n fuel (Tc .u64 (BP .u64 out 16) (IntKind.u64.wrap ((n.getD i.toNat 0)))) (aR (i - 1))
  else none))
  (some (out,true)))
def CK (N:Nat) (n:List Int):Option (Int×Bool) :=
 (cond (decide ((n.length:Int) > 4))
 (some (0,false))
 (p7 N n N 0 (aR ((n.length:Int) - 1))))
def lM (N:Nat) (a b:List Int):Nat->Int->Option Int
 | 0,_=>none
 | fuel+1,i =>
  (cond (decide (i>=0))
  ((if 0<=i/\i < (a.length:Int) then
  (if 0<=i/\i < (b.length:Int) then
  (cond ((a.getD i.toNat 0) != (b.getD i.toNat 0))
  (some (aR ((aR ((a.getD i.toNat 0))) - (aR ((b.getD i.toNat 0))))))
  (lM N a b fuel (aR (i - 1))))
  else none)
  else none))
  (some 0))
def rS (N:Nat) (a b:List Int):Option Int :=
 (cond ((a.length:Int) != (b.length:Int))
 (some (aR ((a.length:Int) - (b.length:Int))))
 (lM N a b N (aR ((a.length:Int) - 1))))
def oJ (N:Nat) (a:List Int) (b:Int):Nat->(List Int)->Int->Int->Option ((List Int)×Int)
 | 0,_,_,_=>none
 | fuel+1,q,rest,i =>
  (cond (decide (i>=0))
  ((if 0<=i/\i < (a.length:Int) then
  (if ((IntKind.u32.wrap b):Int)≠0 then
  (if 0<=i/\i < (q.length:Int) then
  oJ N a b fuel (q.set i.toNat (IntKind.u16.wrap ((IntKind.u32.wrap ((Tc .u32 (BP .u32 rest 16) (IntKind.u32.wrap ((a.getD i.toNat 0)))).tdiv (IntKind.u32.wrap b)))))) ((Tc .u32 (BP .u32 rest 16) (IntKind.u32.wrap ((a.getD i.toNat 0)))).tmod (IntKind.u32.wrap b)) (aR (i - 1))
  else none)
  else none)
  else none))
  (((ku N q).bind fun c =>
  some (c,(IntKind.u16.wrap rest)))))
def CL (N:Nat) (a:List Int) (b:Int):Option ((List Int)×Int) :=
 (if 0<=(a.length:Int)/\(2:Int) * (a.length:Int)<=281474976710656/\(a.length:Int)<=9223372036854775807 then
 oJ N a b N (List.replicate a.length 0:List Int) 0 (aR ((a.length:Int) - 1))
 else none)
def dV (N:Nat) (a n:Int):Option Int :=
 (if 0<=(IntKind.u8.wrap a)/\(IntKind.u8.wrap a) < (((⟨#[0,1,2,2,3,3,3,3,4,4,4,4,4,4,4,4,5,5,5,5,5,5,5,5,5,5,5,5,5,5,5,5,6,6,6,6,6,6,6,6,6,6,6,6,6,6,6,6,6,6,6,6,6,6,6,6,6,6,6,6,6,6,6,6,7,7,7,7,7,7,7,7,7,7,7,7,7,7,7,7,7,7,7,7,7,7,7,7,7,7,7,7,7,7,7,7,7,7,7,7,7,7,7,7,7,7,7,7,7,7,7,7,7,7,7,7,7,7,7,7,7,7,7,7,7,7,7,7,8,8,8,8,8,8,8,8,8,8,8,8,8,8,8,8,8,8,8,8,8,8,8,8,8,8,8,8,8,8,8,8,8,8,8,8,8,8,8,8,8,8,8,8,8,8,8,8,8,8,8,8,8,8,8,8,8,8,8,8,8,8,8,8,8,8,8,8,8,8,8,8,8,8,8,8,8,8,8,8,8,8,8,8,8,8,8,8,8,8,8,8,8,8,8,8,8,8,8,8,8,8,8,8,8,8,8,8,8,8,8,8,8,8,8,8,8,8,8,8,8,8,8,8,8,8,8,8]⟩:ByteArray).size:Nat):Int) then
 some (aR (n+(aR ((om (⟨#[0,1,2,2,3,3,3,3,4,4,4,4,4,4,4,4,5,5,5,5,5,5,5,5,5,5,5,5,5,5,5,5,6,6,6,6,6,6,6,6,6,6,6,6,6,6,6,6,6,6,6,6,6,6,6,6,6,6,6,6,6,6,6,6,7,7,7,7,7,7,7,7,7,7,7,7,7,7,7,7,7,7,7,7,7,7,7,7,7,7,7,7,7,7,7,7,7,7,7,7,7,7,7,7,7,7,7,7,7,7,7,7,7,7,7,7,7,7,7,7,7,7,7,7,7,7,7,7,8,8,8,8,8,8,8,8,8,8,8,8,8,8,8,8,8,8,8,8,8,8,8,8,8,8,8,8,8,8,8,8,8,8,8,8,8,8,8,8,8,8,8,8,8,8,8,8,8,8,8,8,8,8,8,8,8,8,8,8,8,8,8,8,8,8,8,8,8,8,8,8,8,8,8,8,8,8,8,8,8,8,8,8,8,8,8,8,8,8,8,8,8,8,8,8,8,8,8,8,8,8,8,8,8,8,8,8,8,8,8,8,8,8,8,8,8,8,8,8,8,8,8,8,8,8,8,8]⟩:ByteArray) ((IntKind.u8.wrap a).toNat))))))
 else none)
def oK (N:Nat) (x:Int):Option Int :=
 (cond (decide (x>=256))
 (dV N (zY .u16 x 8) 8)
 (dV N x 0))
def iK (N:Nat) (x:Int):Option Int :=
 ((oK N x).bind fun a =>
 some (aR (16 - a)))
def lN (N:Nat) (a:List Int) (b:Int):Nat->(List Int)->Int->Option (List Int)
 | 0,_,_=>none
 | fuel+1,out,x =>
  (cond (decide (x < (a.length:Int)))
  ((if 0<=x/\x < (a.length:Int) then
  (if (0:Int)<=b then
  (if 0<=x/\x < (out.length:Int) then
  (if 0<=(aR (x+1))/\(aR (x+1)) < (((out.set x.toNat (Tc .u16 (out.getD x.toNat 0) (IntKind.u16.wrap ((BP .u32 (IntKind.u32.wrap ((a.getD x.toNat 0))) b))))).length:Nat):Int) then
  lN N a b fuel ((out.set x.toNat (Tc .u16 (out.getD x.toNat 0) (IntKind.u16.wrap ((BP .u32 (IntKind.u32.wrap ((a.getD x.toNat 0))) b))))).set ((aR (x+1)).toNat) (IntKind.u16.wrap ((zY .u32 (BP .u32 (IntKind.u32.wrap ((a.getD x.toNat 0))) b) 16)))) (aR (x+1))
  else none)
  else none)
  else none)
  else none))
  (some out))
def uU (N:Nat) (a:List Int) (b:Int):Option (List Int) :=
 (if 0<=(aR ((a.length:Int)+1))/\(2:Int) * (aR ((a.length:Int)+1))<=281474976710656/\(aR ((a.length:Int)+1))<=9223372036854775807 then
 lN N a b N (List.replicate ((aR ((a.length:Int)+1)).toNat) 0:List Int) 0
 else none)
def sQ (N b un:Nat) (v:List Int) (q:Int) (c:List Int) (a x:Int)(e:(List Int)->Int->Int->Int->Option (Int×(List Int))) (d:Int):Option (Int×(List Int)) :=
 (if 0<=x/\x < ((un:Nat):Int) then
 (if b+un<=c.length then
 e (c.set (da b x.toNat) (IntKind.u16.wrap ((aR ((aR ((aR ((c.getD (da b x.toNat) 0))) - (aR ((XT .u64 d 65535)))))+a))))) (zY .u64 d 16) (zY .i64 (aR ((aR ((aR ((c.getD (da b x.toNat) 0))) - (aR ((XT .u64 d 65535)))))+a)) 16) (aR (x+1))
 else none)
 else none)
def oL (N:Nat) (a:List Int) (b:Int):Option (Int×(List Int)) :=
 some ((IntKind.u16.wrap b),a)
def ly (N b un:Nat) (v:List Int) (q:Int):Nat->(List Int)->Int->Int->Option (Int×(List Int))
 | 0,_,_,_=>none
 | fuel+1,c,d,a =>
  (cond (decide (a < (v.length:Int)))
  ((if 0<=a/\a < ((un:Nat):Int) then
  (if b+un<=c.length then
  (if 0<=a/\a < (v.length:Int) then
  ly N b un v q fuel (c.set (da b a.toNat) (IntKind.u16.wrap ((IntKind.u32.wrap (d+(IntKind.u32.wrap ((IntKind.u32.wrap ((c.getD (da b a.toNat) 0)))+(IntKind.u32.wrap ((v.getD a.toNat 0)))))))))) (zY .u32 (IntKind.u32.wrap (d+(IntKind.u32.wrap ((IntKind.u32.wrap ((c.getD (da b a.toNat) 0)))+(IntKind.u32.wrap ((v.getD a.toNat 0))))))) 16) (aR (a+1))
  else none)
  else none)
  else none))
  ((if 0<=(v.length:Int)/\(v.length:Int) < ((un:Nat):Int) then
  (if b+un<=c.length then
  oL N (c.set (da b v.length) (IntKind.u16.wrap ((c.getD (da b v.length) 0)+(IntKind.u16.wrap d)))) (IntKind.u64.wrap (q - 1))
  else none)
  else none)))
def jK (N c un:Nat) (v:List Int) (q:Int):Nat->(List Int)->Int->Int->Int->Option (Int×(List Int))
 | 0,_,_,_,_=>none
 | fuel+1,d,b,a,x =>
  (cond (decide (x < (aR ((v.length:Int)+1))))
  ((cond (decide (x < (v.length:Int)))
  ((if 0<=x/\x < (v.length:Int) then
  sQ N c un v q d a x (jK N c un v q fuel) (IntKind.u64.wrap (b+(IntKind.u64.wrap (q * (IntKind.u64.wrap ((v.getD x.toNat 0)))))))
  else none))
  (sQ N c un v q d a x (jK N c un v q fuel) b)))
  ((cond (decide (a < 0))
  (ly N c un v q N d 0 0)
  (oL N d q))))
def oM (N a un:Nat) (v b:List Int):Nat->Int->Int->Option (Int×(List Int))
 | 0,_,_=>none
 | fuel+1,q,rest =>
  (if (((decide (rest < 65536)) && ((decide (rest < 65536)) && (!(decide (q > 65535)))))=true->0<=(aR ((v.length:Int) - 2))/\(aR ((v.length:Int) - 2)) < (v.length:Int)) then
  (if (((decide (rest < 65536)) && ((decide (rest < 65536)) && (!(decide (q > 65535)))))=true->0<=(aR ((v.length:Int) - 2))/\(aR ((v.length:Int) - 2)) < ((un:Nat):Int)) then
  (if (((decide (rest < 65536)) && ((decide (rest < 65536)) && (!(decide (q > 65535)))))=true->a+un<=b.length) then
  (cond (cond (decide (rest < 65536)) (cond (decide (q > 65535)) true (decide ((IntKind.u64.wrap (q * (IntKind.u64.wrap ((v.getD ((aR ((v.length:Int) - 2)).toNat) 0))))) > (Tc .u64 (BP .u64 rest 16) (IntKind.u64.wrap ((b.getD (da a (aR ((v.length:Int) - 2)).toNat) 0))))))) false)
  ((if 0<=(aR ((v.length:Int) - 1))/\(aR ((v.length:Int) - 1)) < (v.length:Int) then
  oM N a un v b fuel (IntKind.u64.wrap (q - 1)) (IntKind.u64.wrap (rest+(IntKind.u64.wrap ((v.getD ((aR ((v.length:Int) - 1)).toNat) 0)))))
  else none))
  (jK N a un v q N b 0 0 0))
  else none)
  else none)
  else none)
def CM (N a un:Nat) (v b:List Int):Option (Int×(List Int)) :=
 (if 0<=(v.length:Int)/\(v.length:Int) < ((un:Nat):Int) then
 (if a+un<=b.length then
 (if 0<=(aR ((v.length:Int) - 1))/\(aR ((v.length:Int) - 1)) < ((un:Nat):Int) then
 (if 0<=(aR ((v.length:Int) - 1))/\(aR ((v.length:Int) - 1)) < (v.length:Int) then
 (if ((IntKind.u64.wrap ((v.getD ((aR ((v.length:Int) - 1)).toNat) 0))):Int)≠0 then
 oM N a un v b N (IntKind.u64.wrap ((Tc .u64 (BP .u64 (IntKind.u64.wrap ((b.getD (da a v.length) 0))) 16) (IntKind.u64.wrap ((b.getD (da a (aR ((v.length:Int) - 1)).toNat) 0)))).tdiv (IntKind.u64.wrap ((v.getD ((aR ((v.length:Int) - 1)).toNat) 0))))) ((Tc .u64 (BP .u64 (IntKind.u64.wrap ((b.getD (da a v.length) 0))) 16) (IntKind.u64.wrap ((b.getD (da a (aR ((v.length:Int) - 1)).toNat) 0)))).tmod (IntKind.u64.wrap ((v.getD ((aR ((v.length:Int) - 1)).toNat) 0))))
 else none)
 else none)
 else none)
 else none)
 else none)
def nj (N:Nat) (b:List Int) (a:Int) (q u:List Int):Nat->(List Int)->Int->Option ((List Int)×(List Int))
 | 0,_,_=>none
 | fuel+1,c,x =>
  (cond (decide (x < (((b.length - 0):Nat):Int)))
  ((if 0<=x/\x < (u.length:Int) then
  (if 0<=(aR (x+1))/\(aR (x+1)) < (u.length:Int) then
  (if (0:Int)<=a then
  (if 0<=x/\x < (c.length:Int) then
  nj N b a q u fuel (c.set x.toNat (IntKind.u16.wrap ((zY .u32 (Tc .u32 (IntKind.u32.wrap ((u.getD x.toNat 0))) (BP .u32 (IntKind.u32.wrap ((u.getD ((aR (x+1)).toNat) 0))) 16)) a)))) (aR (x+1))
  else none)
  else none)
  else none)
  else none))
  (((ku N q).bind fun e =>
  ((ku N c).bind fun d =>
  some (e,d)))))
def np (N:Nat) (b:List Int) (d:Int)(a:(List Int)):Nat->(List Int)->(List Int)->Int->Option ((List Int)×(List Int))
 | 0,_,_,_=>none
 | fuel+1,q,u,j =>
  (cond (decide (j>=0))
  ((if j.toNat<=(aR ((aR (j+(((b.length - 0):Nat):Int)))+1)).toNat/\(aR ((aR (j+(((b.length - 0):Nat):Int)))+1)).toNat<=u.length then
  (if 0<=j then
  (if 0<=(aR ((aR (j+(((b.length - 0):Nat):Int)))+1)) then
  (if 0<=b.length/\b.length<=a.length then
  ((CM N j.toNat ((aR ((aR (j+(((b.length - 0):Nat):Int)))+1)).toNat - j.toNat) ((a.take b.length).drop 0) u).bind fun c =>
  (if c.2.length=u.length then
  (if 0<=j/\j < (q.length:Int) then
  np N b d a fuel (q.set j.toNat c.1) c.2 (aR (j - 1))
  else none)
  else none))
  else none)
  else none)
  else none)
  else none))
  ((if 0<=(((b.length - 0):Nat):Int)/\(2:Int) * (((b.length - 0):Nat):Int)<=281474976710656/\(((b.length - 0):Nat):Int)<=9223372036854775807 then
  nj N b d q u N (List.replicate (b.length - 0) 0:List Int) 0
  else none)))
def ux (N:Nat) (a b:List Int):Option ((List Int)×(List Int)) :=
 ((rS N a b).bind fun g =>
 (cond (decide (g < 0))
 (((fw N a).bind fun h =>
 some (([]:List Int),h)))
 ((cond ((b.length:Int) == 1)
 ((if 0<=(0:Int)/\0 < (b.length:Int) then
 ((CL N a (b.getD 0 0)).bind fun e =>
 ((ku N ([e.2]:List Int)).bind fun i =>
 some (e.1,i)))
 else none))
 ((if 0<=(aR ((b.length:Int) - 1))/\(aR ((b.length:Int) - 1)) < (b.length:Int) then
 ((iK N (b.getD ((aR ((b.length:Int) - 1)).toNat) 0)).bind fun d =>
 ((uU N a d).bind fun c =>
 ((uU N b d).bind fun f =>
 (if 0<=b.length/\b.length<=f.length then
 (if 0<=(aR ((c.length:Int) - (((b.length - 0):Nat):Int)))/\(2:Int) * (aR ((c.length:Int) - (((b.length - 0):Nat):Int)))<=281474976710656/\(aR ((c.length:Int) - (((b.length - 0):Nat):Int)))<=9223372036854775807 then
 np N b d f N (List.replicate ((aR ((c.length:Int) - (((b.length - 0):Nat):Int))).toNat) 0:List Int) c (aR ((aR ((c.length:Int) - (((b.length - 0):Nat):Int))) - 1))
 else none)
 else none))))
 else none))))))
def pj (N:Nat)(a:(List Int)->(List Int)->Option (List Int)):Nat->Int->Int->Option (List Int)
 | 0,_,_=>none
 | fuel+1,x,y =>
  (cond (decide (y > 0))
  ((if (y:Int)≠0 then
  pj N a fuel y (x.tmod y)
  else none))
  (((rQ N x).bind fun b =>
  some b)))
def nr (N:Nat):Nat->(List Int)->(List Int)->Option (List Int)
 | 0,_,_=>none
 | fuel+1,b,a =>
  (cond (decide ((a.length:Int) > 0))
  (((CK N b).bind fun c =>
  ((CK N a).bind fun d =>
  (cond (cond c.2 d.2 false)
  (pj N (nr N fuel) N c.1 d.1)
  (((ux N b a).bind fun e =>
  nr N fuel a e.2))))))
  (some b))
def Ea (N:Nat) (a b:List Int):Option (List Int) :=
 nr N N a b
def qI (N:Nat) (a b:eN) (x y:List Int):Option aa :=
 ((mE N (!(a.fG == b.fG)) x).bind fun c =>
 ((mE N false y).bind fun d =>
 some (⟨c,d⟩:aa)))
def mS (N:Nat) (a b:eN):Option aa :=
 ((ku N a.fL).bind fun d =>
 ((ku N b.fL).bind fun e =>
 ((Ea N d e).bind fun c =>
 (if ((!((c.length:Int) != 1))=true->0<=(0:Int)/\0 < (c.length:Int)) then
 (cond (cond ((c.length:Int) != 1) true ((c.getD 0 0) != 1))
 (((ux N d c).bind fun f =>
 ((ux N e c).bind fun g =>
 qI N a b f.1 g.1)))
 (qI N a b d e))
 else none))))
def H2 (N:Nat) (a:eN):Option aa :=
 ((mS N a (⟨false,([1]:List Int)⟩:eN)).bind fun b =>
 some b)
def gf (N:Nat) (n:Int):Option aa :=
 ((Ql N n).bind fun rOf =>
 ((H2 N rOf).bind fun a =>
 some a))
def z4 (N:Nat) (a:eN):Option Int :=
 ((ku N a.fL).bind fun b =>
 (cond ((b.length:Int) == 0)
 (some 0)
 ((cond a.fG
 (some (-1))
 (some 1)))))
def oC (N:Nat) (x:aa):Option eN :=
 ((z4 N x.fD).bind fun CN =>
 (cond (CN == 0)
 (some (⟨false,([1]:List Int)⟩:eN))
 (some x.fD)))
def mF (N:Nat) (x:aa):Option aa :=
 ((oC N x).bind fun a =>
 ((mS N x.fN a).bind fun b =>
 some b))
def yW (N:Nat) (a:eN):Option eN :=
 some (⟨(!a.fG),a.fL⟩:eN)
def gK (N:Nat) (x:aa):Option aa :=
 ((yW N x.fN).bind fun a =>
 ((oC N x).bind fun b =>
 ((mS N a b).bind fun c =>
 some c)))
def sR (N:Nat) (n:Int) (l:List a8) (e:aa) (t t2:List Int)(f:List (List aa)) (g:List aa) (h:Int) (row:List aa) (a:Int) (c:(List aa)->Int->Option ml) (i:(List Int)->(List (List aa))->(List aa)->Int->Option ml) (b:aa):Option ml :=
 ((gK N b).bind fun d =>
 (if 0<=a/\a < (row.length:Int) then
 (if 0<=(aR (n+a))/\(aR (n+a)) < (row.length:Int) then
 c ((row.set a.toNat d).set ((aR (n+a)).toNat) b) (aR (a+1))
 else none)
 else none))
def jL (N:Nat) (n:Int) (l:List a8) (f:aa) (t t2:List Int)(c:List (List aa)) (d:List aa) (a:Int) (e:(List Int)->(List (List aa))->(List aa)->Int->Option ml):Nat->(List aa)->Int->Option ml
 | 0,_,_=>none
 | fuel+1,row,b =>
  (cond (decide (b < n))
  (((gf N 0).bind fun g =>
  (cond (decide (b < ((((l.getD a.toNat a8.d).db).length:Nat):Int)))
  ((if 0<=b/\b < ((((l.getD a.toNat a8.d).db).length:Nat):Int) then
  ((mF N (⟨((((l.getD a.toNat a8.d).db).getD b.toNat aa.d).fN),((((l.getD a.toNat a8.d).db).getD b.toNat aa.d).fD)⟩:aa)).bind fun h =>
  sR N n l f t t2 c d a row b (jL N n l f t t2 c d a e fuel) e h)
  else none))
  (sR N n l f t t2 c d a row b (jL N n l f t t2 c d a e fuel) e g))))
  (((gf N 1).bind fun i =>
  (if 0<=(aR (2 * n))/\(aR (2 * n)) < (row.length:Int) then
  (if (c.length+1) * 24<=140737488355328 then
  ((mF N (⟨(((l.getD a.toNat a8.d).jl).fN),(((l.getD a.toNat a8.d).jl).fD)⟩:aa)).bind fun j =>
  (if (d.length+1) * 64<=140737488355328 then
  e (t2 ++ ([(aR ((aR (2 * n))+a))]:List Int)) (c ++ [(row.set ((aR (2 * n)).toNat) i)]) (d ++ ([j]:List aa)) (aR (a+1))
  else none))
  else none)
  else none))))
def oO (N:Nat) (n:Int) (l:List a8) (c:aa) (t t2:List Int)(d:List (List aa)) (e:List aa):Nat->(List aa)->Int->Option ml
 | 0,_,_=>none
 | fuel+1,b,a =>
  (cond (decide (a < (((List.replicate ((aR ((aR (2 * n))+1)).toNat) aa.d:List aa).length:Nat):Int)))
  (((gf N 0).bind fun f =>
  (if 0<=a/\a < (b.length:Int) then
  oO N n l c t t2 d e fuel (b.set a.toNat f) (aR (a+1))
  else none)))
  (some (⟨n,(l.length:Int),t2,(t ++ ([(aR ((aR (2 * n))+(l.length:Int)))]:List Int)),d,e,b,c,(aR ((aR (2 * n))+(l.length:Int)))⟩:ml)))
def mV (N:Nat) (n:Int) (l:List a8) (b:aa) (t:List Int):Nat->(List Int)->(List (List aa))->(List aa)->Int->Option ml
 | 0,_,_,_,_=>none
 | fuel+1,t2,c,d,a =>
  (cond (decide (a < (l.length:Int)))
  ((if 0<=a/\a < (l.length:Int) then
  (if (t2.length+1) * 8<=140737488355328 then
  (if 0<=(aR ((aR (2 * n))+1))/\(64:Int) * (aR ((aR (2 * n))+1))<=281474976710656/\(aR ((aR (2 * n))+1))<=9223372036854775807 then
  jL N n l b t t2 c d a (mV N n l b t fuel) N (List.replicate ((aR ((aR (2 * n))+1)).toNat) aa.d:List aa) 0
  else none)
  else none)
  else none))
  ((if 0<=(aR ((aR (2 * n))+1))/\(64:Int) * (aR ((aR (2 * n))+1))<=281474976710656/\(aR ((aR (2 * n))+1))<=9223372036854775807 then
  oO N n l b t t2 c d N (List.replicate ((aR ((aR (2 * n))+1)).toNat) aa.d:List aa) 0
  else none)))
def oP (N:Nat) (n:Int) (l:List a8) (a:aa):Nat->(List Int)->Int->Option ml
 | 0,_,_=>none
 | fuel+1,t,x =>
  (cond (decide (x < (aR (2 * n))))
  ((if (t.length+1) * 8<=140737488355328 then
  oP N n l a fuel (t ++ ([x]:List Int)) (aR (x+1))
  else none))
  ((if (t.length+1) * 8<=140737488355328 then
  mV N n l a t N ([]:List Int) ([]:List (List aa)) ([]:List aa) 0
  else none)))
def CO (N:Nat) (n:Int) (l:List a8):Option ml :=
 ((gf N 0).bind fun a =>
 oP N n l a N ([]:List Int) 0)
def qk (N:Nat) (x:aa):Option Int :=
 ((z4 N x.fN).bind fun CN =>
 ((oC N x).bind fun b =>
 ((z4 N b).bind fun a =>
 some (aR (CN * a)))))
def kx (N:Nat) (x:aa):Option Bool :=
 ((z4 N x.fN).bind fun CN =>
 some (CN == 0))
def oQ (N:Nat) (a b:List Int) (x:Int)(f:(List Int)->Int->Option (List Int)):Nat->(List Int)->Int->Int->Option (List Int)
 | 0,_,_,_=>none
 | fuel+1,e,c,d =>
  (cond (decide (d < (b.length:Int)))
  ((if 0<=d/\d < (b.length:Int) then
  (if 0<=(aR (x+d))/\(aR (x+d)) < (e.length:Int) then
  oQ N a b x f fuel (e.set ((aR (x+d)).toNat) (IntKind.u16.wrap ((IntKind.u32.wrap (c+(IntKind.u32.wrap ((IntKind.u32.wrap ((IntKind.u32.wrap ((a.getD x.toNat 0))) * (IntKind.u32.wrap ((b.getD d.toNat 0)))))+(IntKind.u32.wrap ((e.getD ((aR (x+d)).toNat) 0)))))))))) (zY .u32 (IntKind.u32.wrap (c+(IntKind.u32.wrap ((IntKind.u32.wrap ((IntKind.u32.wrap ((a.getD x.toNat 0))) * (IntKind.u32.wrap ((b.getD d.toNat 0)))))+(IntKind.u32.wrap ((e.getD ((aR (x+d)).toNat) 0))))))) 16) (aR (d+1))
  else none)
  else none))
  ((if 0<=(aR (x+(b.length:Int)))/\(aR (x+(b.length:Int))) < (e.length:Int) then
  f (e.set ((aR (x+(b.length:Int))).toNat) (IntKind.u16.wrap c)) (aR (x+1))
  else none)))
def oS (N:Nat) (a b:List Int):Nat->(List Int)->Int->Option (List Int)
 | 0,_,_=>none
 | fuel+1,out,x =>
  (cond (decide (x < (a.length:Int)))
  ((if 0<=x/\x < (a.length:Int) then
  oQ N a b x (oS N a b fuel) N out 0 0
  else none))
  (((ku N out).bind fun c =>
  some c)))
def zP (N:Nat) (a b:List Int):Option (List Int) :=
 (if 0<=(aR ((a.length:Int)+(b.length:Int)))/\(2:Int) * (aR ((a.length:Int)+(b.length:Int)))<=281474976710656/\(aR ((a.length:Int)+(b.length:Int)))<=9223372036854775807 then
 oS N a b N (List.replicate ((aR ((a.length:Int)+(b.length:Int))).toNat) 0:List Int) 0
 else none)
def vQ (N:Nat) (a b:eN):Option eN :=
 ((ku N a.fL).bind fun d =>
 ((ku N b.fL).bind fun e =>
 ((zP N d e).bind fun f =>
 ((mE N (!(a.fG == b.fG)) f).bind fun c =>
 some c))))
def uV (N:Nat) (c d out:List Int) (x:Int)(b:(List Int)->Int->Int->Option (List Int)) (a:Int):Option (List Int) :=
 (if (out.length+1) * 2<=140737488355328 then
 b (out ++ ([(IntKind.u16.wrap a)]:List Int)) (zY .u32 a 16) (aR (x+1))
 else none)
def nu (N:Nat) (b c:List Int):Nat->(List Int)->Int->Int->Option (List Int)
 | 0,_,_,_=>none
 | fuel+1,out,a,x =>
  (cond (decide (x < (b.length:Int)))
  ((if 0<=x/\x < (b.length:Int) then
  (cond (decide (x < (c.length:Int)))
  ((if 0<=x/\x < (c.length:Int) then
  uV N b c out x (nu N b c fuel) (IntKind.u32.wrap ((IntKind.u32.wrap (a+(IntKind.u32.wrap ((b.getD x.toNat 0)))))+(IntKind.u32.wrap ((c.getD x.toNat 0)))))
  else none))
  (uV N b c out x (nu N b c fuel) (IntKind.u32.wrap (a+(IntKind.u32.wrap ((b.getD x.toNat 0)))))))
  else none))
  ((if (out.length+1) * 2<=140737488355328 then
  ((ku N (out ++ ([(IntKind.u16.wrap a)]:List Int))).bind fun d =>
  some d)
  else none)))
def uW (N:Nat) (a b:List Int):Option (List Int) :=
 (if 0<=(0:Int)/\(2:Int) * (aR ((a.length:Int)+1))<=281474976710656/\(aR ((a.length:Int)+1))<=9223372036854775807/\(0:Int)<=(aR ((a.length:Int)+1)) then
 nu N a b N (List.replicate 0 0:List Int) 0 0
 else none)
def CP (N:Nat) (a b:List Int):Option (List Int) :=
 (cond (decide ((a.length:Int) < (b.length:Int)))
 (uW N b a)
 (uW N a b))
def sS (N:Nat) (a b out:List Int) (x y:Int)(d:(List Int)->Int->Int->Option (List Int)) (c:Int):Option (List Int) :=
 (if 0<=x/\x < (out.length:Int) then
 d (out.set x.toNat (IntKind.u16.wrap ((IntKind.u32.wrap ((IntKind.u32.wrap ((IntKind.u32.wrap ((a.getD x.toNat 0)))+(BP .u32 c 16))) - y))))) c (aR (x+1))
 else none)
def sU (N:Nat) (a b out:List Int) (x:Int)(c:(List Int)->Int->Int->Option (List Int)) (y:Int):Option (List Int) :=
 (cond (decide ((IntKind.u32.wrap ((a.getD x.toNat 0))) < y))
 (sS N a b out x y c 1)
 (sS N a b out x y c 0))
def ky (N:Nat) (a b:List Int):Nat->(List Int)->Int->Int->Option (List Int)
 | 0,_,_,_=>none
 | fuel+1,out,c,x =>
  (cond (decide (x < (a.length:Int)))
  ((if 0<=x/\x < (a.length:Int) then
  (cond (decide (x < (b.length:Int)))
  ((if 0<=x/\x < (b.length:Int) then
  sU N a b out x (ky N a b fuel) (IntKind.u32.wrap (c+(IntKind.u32.wrap ((b.getD x.toNat 0)))))
  else none))
  (sU N a b out x (ky N a b fuel) c))
  else none))
  (((ku N out).bind fun d =>
  some d)))
def wW (N:Nat) (a b:List Int):Option (List Int) :=
 (if 0<=(a.length:Int)/\(2:Int) * (a.length:Int)<=281474976710656/\(a.length:Int)<=9223372036854775807 then
 ky N a b N (List.replicate a.length 0:List Int) 0 0
 else none)
def Kx (N:Nat) (a b:eN):Option eN :=
 ((ku N a.fL).bind fun c =>
 ((ku N b.fL).bind fun d =>
 (cond (a.fG == b.fG)
 (((CP N c d).bind fun g =>
 ((mE N a.fG g).bind fun e =>
 some e)))
 (((rS N c d).bind fun h =>
 (cond (decide (h>=0))
 (((wW N c d).bind fun i =>
 ((mE N a.fG i).bind fun j =>
 some j)))
 (((wW N d c).bind fun k =>
 ((mE N b.fG k).bind fun f =>
 some f)))))))))
def fq (N:Nat) (x y:aa):Option aa :=
 ((kx N x).bind fun d =>
 (cond d
 (((mF N y).bind fun e =>
 some e))
 (((kx N y).bind fun f =>
 (cond f
 (((mF N x).bind fun g =>
 some g))
 (((oC N x).bind fun b =>
 ((oC N y).bind fun c =>
 ((vQ N x.fN c).bind fun h =>
 ((vQ N y.fN b).bind fun i =>
 ((Kx N h i).bind fun a =>
 ((vQ N b c).bind fun j =>
 ((mS N a j).bind fun k =>
 some k)))))))))))))
def uy (N:Nat) (x y:aa):Option aa :=
 ((gK N y).bind fun a =>
 ((fq N x a).bind fun b =>
 some b))
def mH (N:Nat) (x y:aa):Option Int :=
 ((uy N x y).bind fun a =>
 ((qk N a).bind fun b =>
 some b))
def xM (N:Nat) (x y:aa):Option aa :=
 ((oC N y).bind fun a =>
 ((vQ N x.fN a).bind fun b =>
 ((oC N x).bind fun c =>
 ((vQ N c y.fN).bind fun d =>
 ((mS N b d).bind fun e =>
 some e)))))
def fO (N:Nat) (x y:aa):Option aa :=
 ((vQ N x.fN y.fN).bind fun a =>
 ((oC N x).bind fun b =>
 ((oC N y).bind fun c =>
 ((vQ N b c).bind fun d =>
 ((mS N a d).bind fun e =>
 some e)))))
def n4 (N:Nat) (j:Int) (f:aa) (c:List aa) (x:Int)(a:(List aa)->Int->Option (List aa)) (b:List aa):Option (List aa) :=
 a b (aR (x+1))
def jS (N:Nat) (j:Int) (f:aa) (b:List aa):Nat->(List aa)->Int->Option (List aa)
 | 0,_,_=>none
 | fuel+1,a,x =>
  (cond (decide (x < (b.length:Int)))
  ((cond (x == j)
  ((if 0<=x/\x < (a.length:Int) then
  ((fO N f (⟨((a.getD x.toNat aa.d).fN),((a.getD x.toNat aa.d).fD)⟩:aa)).bind fun c =>
  n4 N j f b x (jS N j f b fuel) (a.set x.toNat c))
  else none))
  ((if 0<=x/\x < (a.length:Int) then
  ((kx N (⟨((a.getD x.toNat aa.d).fN),((a.getD x.toNat aa.d).fD)⟩:aa)).bind fun d =>
  (cond (!d)
  (((fO N f (⟨((a.getD x.toNat aa.d).fN),((a.getD x.toNat aa.d).fD)⟩:aa)).bind fun e =>
  ((fq N (⟨((a.getD x.toNat aa.d).fN),((a.getD x.toNat aa.d).fD)⟩:aa) e).bind fun g =>
  n4 N j f b x (jS N j f b fuel) (a.set x.toNat g))))
  (n4 N j f b x (jS N j f b fuel) a)))
  else none))))
  (some a))
def yg (N:Nat) (j:Int) (f:aa) (a:List aa):Option (List aa) :=
 jS N j f a N a 0
def ju (N:Nat) (j:Int) (f:aa) (c d:List aa) (x:Int)(a:(List aa)->Int->Option (List aa)) (b:List aa):Option (List aa) :=
 a b (aR (x+1))
def eh (N:Nat) (j:Int) (f:aa) (c a:List aa):Nat->(List aa)->Int->Option (List aa)
 | 0,_,_=>none
 | fuel+1,b,x =>
  (cond (decide (x < (c.length:Int)))
  ((cond (x == j)
  ((if 0<=x/\x < (a.length:Int) then
  ((fO N f (⟨((a.getD x.toNat aa.d).fN),((a.getD x.toNat aa.d).fD)⟩:aa)).bind fun d =>
  (if 0<=x/\x < (b.length:Int) then
  ju N j f c a x (eh N j f c a fuel) (b.set x.toNat d)
  else none))
  else none))
  ((if 0<=x/\x < (a.length:Int) then
  ((kx N (⟨((a.getD x.toNat aa.d).fN),((a.getD x.toNat aa.d).fD)⟩:aa)).bind fun e =>
  (cond (!e)
  ((if 0<=x/\x < (b.length:Int) then
  ((fO N f (⟨((a.getD x.toNat aa.d).fN),((a.getD x.toNat aa.d).fD)⟩:aa)).bind fun g =>
  ((fq N (⟨((b.getD x.toNat aa.d).fN),((b.getD x.toNat aa.d).fD)⟩:aa) g).bind fun h =>
  ju N j f c a x (eh N j f c a fuel) (b.set x.toNat h)))
  else none))
  (ju N j f c a x (eh N j f c a fuel) b)))
  else none))))
  (some b))
def lp (N:Nat) (j:Int) (f:aa) (a b:List aa):Option (List aa) :=
 eh N j f a b N a 0
def lP (N:Nat) (i j c d:Int) (e:Bool) (f:List Int) (g:Bool) (h:List Int) (k:Int) (l m:List Int)(n:List (List aa)) (o:List aa) (p:List aa) (x:Int) (a:(List aa)->Int->Option (ml×(List Int)×(List Int)×(List (List aa))×(List aa)×(List aa))) (b:List aa):Option (ml×(List Int)×(List Int)×(List (List aa))×(List aa)×(List aa)) :=
 a b (aR (x+1))
def fA (N:Nat) (i j f g:Int) (h:Bool) (k:List Int) (l:Bool) (m:List Int) (n:Int) (o p:List Int)(q:List (List aa)) (r:List aa) (a:Int) (b:(List (List aa))->(List aa)->(List aa)->Int->Option (ml×(List Int)×(List Int)×(List (List aa))×(List aa)×(List aa))) (c:List (List aa)) (d:List aa) (e:List aa):Option (ml×(List Int)×(List Int)×(List (List aa))×(List aa)×(List aa)) :=
 b c d e (aR (a+1))
def jX (N:Nat) (i j g h k:Int) (a b:List Int)(c:List (List aa)) (d:List aa) (e:List aa) (f:List aa) (l:Bool) (m:List Int) (n:Bool) (o:List Int):Option (ml×(List Int)×(List Int)×(List (List aa))×(List aa)×(List aa)) :=
 (if 0<=j/\j < (b.length:Int) then
 (if 0<=i/\i < (a.length:Int) then
 some ((⟨g,h,(a.set i.toNat (b.getD j.toNat 0)),(b.set j.toNat (a.getD i.toNat 0)),(c.set i.toNat d),e,f,(⟨(⟨l,m⟩:eN),(⟨n,o⟩:eN)⟩:aa),k⟩:ml),(a.set i.toNat (b.getD j.toNat 0)),(b.set j.toNat (a.getD i.toNat 0)),(c.set i.toNat d),e,f)
 else none)
 else none)
def du (N:Nat) (i j f g:Int) (h:Bool) (k:List Int) (l:Bool) (m:List Int) (n:Int) (o p:List Int)(q:List (List aa)) (d:List aa):Nat->(List (List aa))->(List aa)->(List aa)->Int->Option (ml×(List Int)×(List Int)×(List (List aa))×(List aa)×(List aa))
 | 0,_,_,_,_=>none
 | fuel+1,b,e,c,a =>
  (cond (decide (a < (q.length:Int)))
  ((cond (decide (a.toNat=(i).toNat))
  ((if 0<=a/\a < (b.length:Int) then
  (if 0<=j/\j < (e.length:Int) then
  ((cond (a != i) (kx N (⟨((e.getD j.toNat aa.d).fN),((e.getD j.toNat aa.d).fD)⟩:aa)) (some false)).bind fun x =>
  (cond (cond (a != i) (!x) false)
  ((if 0<=a/\a < (c.length:Int) then
  (if 0<=i/\i < (c.length:Int) then
  ((fO N (⟨((e.getD j.toNat aa.d).fN),((e.getD j.toNat aa.d).fD)⟩:aa) (⟨((c.getD i.toNat aa.d).fN),((c.getD i.toNat aa.d).fD)⟩:aa)).bind fun y =>
  ((fq N (⟨((c.getD a.toNat aa.d).fN),((c.getD a.toNat aa.d).fD)⟩:aa) y).bind fun s =>
  (cond (decide (a.toNat=(i).toNat))
  (((yg N j (⟨((e.getD j.toNat aa.d).fN),((e.getD j.toNat aa.d).fD)⟩:aa) e).bind fun t =>
  (if t.length=e.length then
  fA N i j f g h k l m n o p q d a (du N i j f g h k l m n o p q d fuel) b t (c.set a.toNat s)
  else none)))
  ((if a.toNat < b.length then
  ((lp N j (⟨((e.getD j.toNat aa.d).fN),((e.getD j.toNat aa.d).fD)⟩:aa) (b.getD a.toNat []) e).bind fun u =>
  (if u.length=(b.getD a.toNat []).length then
  fA N i j f g h k l m n o p q d a (du N i j f g h k l m n o p q d fuel) (b.set a.toNat u) e (c.set a.toNat s)
  else none))
  else none)))))
  else none)
  else none))
  (fA N i j f g h k l m n o p q d a (du N i j f g h k l m n o p q d fuel) b e c)))
  else none)
  else none))
  ((if a.toNat < b.length then
  (if 0<=a/\a < (b.length:Int) then
  (if 0<=j/\j < (((b.getD a.toNat []).length:Nat):Int) then
  ((cond (a != i) (kx N (⟨(((b.getD a.toNat []).getD j.toNat aa.d).fN),(((b.getD a.toNat []).getD j.toNat aa.d).fD)⟩:aa)) (some false)).bind fun z =>
  (cond (cond (a != i) (!z) false)
  ((if 0<=a/\a < (c.length:Int) then
  (if 0<=i/\i < (c.length:Int) then
  ((fO N (⟨(((b.getD a.toNat []).getD j.toNat aa.d).fN),(((b.getD a.toNat []).getD j.toNat aa.d).fD)⟩:aa) (⟨((c.getD i.toNat aa.d).fN),((c.getD i.toNat aa.d).fD)⟩:aa)).bind fun A =>
  ((fq N (⟨((c.getD a.toNat aa.d).fN),((c.getD a.toNat aa.d).fD)⟩:aa) A).bind fun B =>
  ((lp N j (⟨(((b.getD a.toNat []).getD j.toNat aa.d).fN),(((b.getD a.toNat []).getD j.toNat aa.d).fD)⟩:aa) (b.getD a.toNat []) e).bind fun v =>
  (if v.length=(b.getD a.toNat []).length then
  fA N i j f g h k l m n o p q d a (du N i j f g h k l m n o p q d fuel) (b.set a.toNat v) e (c.set a.toNat B)
  else none))))
  else none)
  else none))
  (fA N i j f g h k l m n o p q d a (du N i j f g h k l m n o p q d fuel) b e c)))
  else none)
  else none)
  else none))))
  ((if 0<=j/\j < (d.length:Int) then
  ((kx N (⟨((d.getD j.toNat aa.d).fN),((d.getD j.toNat aa.d).fD)⟩:aa)).bind fun C =>
  (cond (!C)
  ((if 0<=i/\i < (c.length:Int) then
  ((fO N (⟨((d.getD j.toNat aa.d).fN),((d.getD j.toNat aa.d).fD)⟩:aa) (⟨((c.getD i.toNat aa.d).fN),((c.getD i.toNat aa.d).fD)⟩:aa)).bind fun D =>
  ((fq N (⟨(⟨h,k⟩:eN),(⟨l,m⟩:eN)⟩:aa) D).bind fun r =>
  ((lp N j (⟨((d.getD j.toNat aa.d).fN),((d.getD j.toNat aa.d).fD)⟩:aa) d e).bind fun w =>
  (if w.length=d.length then
  (if i.toNat < b.length then
  jX N i j f g n o p b e c w r.fN.fG r.fN.fL r.fD.fG r.fD.fL
  else none)
  else none))))
  else none))
  ((if i.toNat < b.length then
  jX N i j f g n o p b e c d h k l m
  else none))))
  else none)))
def fB (N:Nat) (i j d e:Int) (f:Bool) (g:List Int) (h:Bool) (k:List Int) (l:Int) (m n:List Int)(a:List (List aa)) (b:List aa) (o:List aa):Nat->(List aa)->Int->Option (ml×(List Int)×(List Int)×(List (List aa))×(List aa)×(List aa))
 | 0,_,_=>none
 | fuel+1,c,x =>
  (cond (decide (x < (((a.getD i.toNat []).length:Nat):Int)))
  ((cond (x != j)
  ((if 0<=x/\x < (c.length:Int) then
  ((xM N (⟨((c.getD x.toNat aa.d).fN),((c.getD x.toNat aa.d).fD)⟩:aa) (⟨(((a.getD i.toNat []).getD j.toNat aa.d).fN),(((a.getD i.toNat []).getD j.toNat aa.d).fD)⟩:aa)).bind fun pR =>
  ((gK N pR).bind fun q =>
  lP N i j d e f g h k l m n a b o x (fB N i j d e f g h k l m n a b o fuel) (c.set x.toNat q)))
  else none))
  (lP N i j d e f g h k l m n a b o x (fB N i j d e f g h k l m n a b o fuel) c)))
  (((gf N 1).bind fun r =>
  ((xM N r (⟨(((a.getD i.toNat []).getD j.toNat aa.d).fN),(((a.getD i.toNat []).getD j.toNat aa.d).fD)⟩:aa)).bind fun s =>
  (if 0<=j/\j < (c.length:Int) then
  (if 0<=i/\i < (b.length:Int) then
  ((xM N (⟨((b.getD i.toNat aa.d).fN),((b.getD i.toNat aa.d).fD)⟩:aa) (⟨(((a.getD i.toNat []).getD j.toNat aa.d).fN),(((a.getD i.toNat []).getD j.toNat aa.d).fD)⟩:aa)).bind fun p =>
  ((gK N p).bind fun t =>
  du N i j d e f g h k l m n a o N a (c.set j.toNat s) (b.set i.toNat t) 0))
  else none)
  else none)))))
def mn (N:Nat) (i j b c:Int) (d:Bool) (e:List Int) (f:Bool) (g:List Int) (h:Int) (k l:List Int)(a:List (List aa)) (m:List aa) (n:List aa):Option (ml×(List Int)×(List Int)×(List (List aa))×(List aa)×(List aa)) :=
 (if i.toNat < a.length then
 (if 0<=i/\i < (a.length:Int) then
 (if 0<=j/\j < (((a.getD i.toNat []).length:Nat):Int) then
 fB N i j b c d e f g h k l a m n N (a.getD i.toNat []) 0
 else none)
 else none)
 else none)
def jY (N:Nat) (c d:Int) (e:Bool) (f:List Int) (g:Bool) (h:List Int) (i:Int) (j k:List Int)(l:List (List aa)) (m:List aa) (n:List aa) (x:Int) (a:Int->Int->Option Int) (b:Int):Option Int :=
 a b (aR (x+1))
def cm (N:Nat) (e f:Int) (g:Bool) (h:List Int) (i:Bool) (j:List Int) (k:Int) (l a:List Int)(m:List (List aa)) (n:List aa) (c:List aa):Nat->Int->Int->Option Int
 | 0,_,_=>none
 | fuel+1,b,x =>
  (cond (decide (x < (a.length:Int)))
  ((if 0<=x/\x < (c.length:Int) then
  ((qk N (⟨((c.getD x.toNat aa.d).fN),((c.getD x.toNat aa.d).fD)⟩:aa)).bind fun d =>
  (if (((decide (d > 0)) && ((decide (d > 0)) && (!(decide (b < 0)))))=true->0<=x/\x < (a.length:Int)) then
  (if (((decide (d > 0)) && ((decide (d > 0)) && (!(decide (b < 0)))))=true->0<=b/\b < (a.length:Int)) then
  (cond (cond (decide (d > 0)) (cond (decide (b < 0)) true (decide ((a.getD x.toNat 0) < (a.getD b.toNat 0)))) false)
  (jY N e f g h i j k l a m n c x (cm N e f g h i j k l a m n c fuel) x)
  (jY N e f g h i j k l a m n c x (cm N e f g h i j k l a m n c fuel) b))
  else none)
  else none))
  else none))
  (some b))
def oW (N:Nat) (a b:Int) (c:Bool) (d:List Int) (e:Bool) (f:List Int) (g:Int) (h i:List Int)(j:List (List aa)) (k:List aa) (l:List aa):Option Int :=
 cm N a b c d e f g h i j k l N (-1) 0
def gL (N:Nat) (j d e:Int) (f:Bool) (g:List Int) (h:Bool) (i:List Int) (k:Int) (l m:List Int)(n:List (List aa)) (o:List aa) (p:List aa) (x:Int) (a:Int->aa->Int->Option Int) (b:Int) (c:aa):Option Int :=
 a b c (aR (x+1))
def jc (N:Nat) (j e f:Int) (g:Bool) (h:List Int) (i:Bool) (k:List Int) (l:Int) (c m:List Int)(n:List (List aa)) (o:List aa) (p:List aa) (d:Int) (b:aa) (x:Int) (pR:aa) (q:Int->aa->Int->Option Int) (a:Int):Option Int :=
 (if (((!(decide (a < 0))) && ((!(decide (a < 0))) && (a == 0)))=true->0<=x/\x < (c.length:Int)) then
 (if (((!(decide (a < 0))) && ((!(decide (a < 0))) && (a == 0)))=true->0<=d/\d < (c.length:Int)) then
 (cond (cond (decide (a < 0)) true (cond (a == 0) (decide ((c.getD x.toNat 0) < (c.getD d.toNat 0))) false))
 (gL N j e f g h i k l c m n o p x q x pR)
 (gL N j e f g h i k l c m n o p x q d b))
 else none)
 else none)
def cC (N:Nat) (j e f:Int) (g:Bool) (h:List Int) (i:Bool) (k:List Int) (l:Int) (d m:List Int)(b:List (List aa)) (c:List aa) (n:List aa):Nat->Int->aa->Int->Option Int
 | 0,_,_,_=>none
 | fuel+1,o,a,x =>
  (cond (decide (x < (d.length:Int)))
  ((if x.toNat < b.length then
  (if 0<=x/\x < (b.length:Int) then
  (if 0<=j/\j < (((b.getD x.toNat []).length:Nat):Int) then
  ((qk N (⟨(((b.getD x.toNat []).getD j.toNat aa.d).fN),(((b.getD x.toNat []).getD j.toNat aa.d).fD)⟩:aa)).bind fun p =>
  (cond (decide (p>=0))
  (gL N j e f g h i k l d m b c n x (cC N j e f g h i k l d m b c n fuel) o a)
  ((if 0<=x/\x < (c.length:Int) then
  ((gK N (⟨(((b.getD x.toNat []).getD j.toNat aa.d).fN),(((b.getD x.toNat []).getD j.toNat aa.d).fD)⟩:aa)).bind fun q =>
  ((xM N (⟨((c.getD x.toNat aa.d).fN),((c.getD x.toNat aa.d).fD)⟩:aa) q).bind fun pR =>
  (cond (decide (o>=0))
  (((mH N pR a).bind fun r =>
  jc N j e f g h i k l d m b c n o a x pR (cC N j e f g h i k l d m b c n fuel) r))
  (jc N j e f g h i k l d m b c n o a x pR (cC N j e f g h i k l d m b c n fuel) (-1)))))
  else none))))
  else none)
  else none)
  else none))
  (some o))
def pF (N:Nat) (j a b:Int) (c:Bool) (d:List Int) (e:Bool) (f:List Int) (g:Int) (h i:List Int)(k:List (List aa)) (l:List aa) (m:List aa):Option Int :=
 cC N j a b c d e f g h i k l m N (-1) (⟨(⟨false,([]:List Int)⟩:eN),(⟨false,([]:List Int)⟩:eN)⟩:aa) 0
def fC (N:Nat):Nat->Int->Int->(List Int)->(List Int)->(List (List aa))->(List aa)->(List aa)->Bool->(List Int)->Bool->(List Int)->Int->Option (Int×ml×(List Int)×(List Int)×(List (List aa))×(List aa)×(List aa))
 | 0,_,_,_,_,_,_,_,_,_,_,_,_=>none
 | fuel+1,g,h,b,c,d,e,f,i,j,k,l,m =>
  ((oW N g h i j k l m b c d e f).bind fun n =>
  (cond (decide (n < 0))
  (some ((-1),(⟨g,h,b,c,d,e,f,(⟨(⟨i,j⟩:eN),(⟨k,l⟩:eN)⟩:aa),m⟩:ml),b,c,d,e,f))
  (((pF N n g h i j k l m b c d e f).bind fun o =>
  (cond (decide (o < 0))
  (some (n,(⟨g,h,b,c,d,e,f,(⟨(⟨i,j⟩:eN),(⟨k,l⟩:eN)⟩:aa),m⟩:ml),b,c,d,e,f))
  (((mn N o n g h i j k l m b c d e f).bind fun a =>
  (if a.2.1.length=b.length then
  (if a.2.2.1.length=c.length then
  (if a.2.2.2.1.length=d.length then
  (if a.2.2.2.2.1.length=e.length then
  (if a.2.2.2.2.2.length=f.length then
  fC N fuel a.1.zN a.1.zO a.2.1 a.2.2.1 a.2.2.2.1 a.2.2.2.2.1 a.2.2.2.2.2 a.1.ax.fN.fG a.1.ax.fN.fL a.1.ax.fD.fG a.1.ax.fD.fL a.1.b5
  else none)
  else none)
  else none)
  else none)
  else none))))))))
def rB (N:Nat) (a b:Int) (c:Bool) (d:List Int) (e:Bool) (f:List Int) (g:Int) (h i:List Int)(j:List (List aa)) (k:List aa) (l:List aa):Option (Int×ml×(List Int)×(List Int)×(List (List aa))×(List aa)×(List aa)) :=
 fC N N a b h i j k l c d e f g
def bV (N:Nat) (s:List Int) (v:Int):Nat->Int->Option Int
 | 0,_=>none
 | fuel+1,x =>
  (cond (decide (x < (s.length:Int)))
  ((if 0<=x/\x < (s.length:Int) then
  (cond (v == (s.getD x.toNat 0))
  (some x)
  (bV N s v fuel (aR (x+1))))
  else none))
  (some (-1)))
def bp (N:Nat) (s:List Int) (v:Int):Option Int :=
 bV N s v N 0
def oX (N:Nat) (x:aa):Option Bool :=
 ((kx N x).bind fun a =>
 some (!a))
def dE (N:Nat) (s:List aa):Nat->Int->Option Int
 | 0,_=>none
 | fuel+1,x =>
  (cond (decide (x < (s.length:Int)))
  ((if 0<=x/\x < (s.length:Int) then
  ((oX N (⟨((s.getD x.toNat aa.d).fN),((s.getD x.toNat aa.d).fD)⟩:aa)).bind fun a =>
  (cond a
  (some x)
  (dE N s fuel (aR (x+1)))))
  else none))
  (some (-1)))
def mY (N:Nat) (s:List aa):Option Int :=
 dE N s N 0
def mo (N:Nat) (i j:Int) (a:List Int):Option ((List Int)×(List Int)) :=
 (if 0<=i/\i<=j/\j<=(a.length:Int)/\(a.length:Int)<=(a.length:Int) then
 (cond (i == j)
 (some (a,a))
 ((if 0<=(i).toNat/\(i).toNat<=a.length then
 (if 0<=i then
 (if j.toNat<=a.length/\a.length<=a.length then
 (if 0<=j then
 (if i.toNat<=(j).toNat/\(j).toNat<=a.length then
 (if 0 < a.length then
 (if ((i.toNat - 0)+(a.length - j.toNat))<=a.length/\0+a.length<=(vv a i.toNat j.toNat).length then
 (if 0 < (a.length - ((i.toNat - 0)+(a.length - j.toNat)))/\((i.toNat - 0)+(a.length - j.toNat))+(a.length - ((i.toNat - 0)+(a.length - j.toNat)))<=(vv a i.toNat j.toNat).length then
 some (((vv a i.toNat j.toNat).take ((i.toNat - 0)+(a.length - j.toNat))),((vv a i.toNat j.toNat).take ((i.toNat - 0)+(a.length - j.toNat))))
 else none)
 else none)
 else none)
 else none)
 else none)
 else none)
 else none)
 else none)))
 else none)
def pG (N:Nat) (i j:Int) (a:List aa):Option ((List aa)×(List aa)) :=
 (if 0<=i/\i<=j/\j<=(a.length:Int)/\(a.length:Int)<=(a.length:Int) then
 (cond (i == j)
 (some (a,a))
 ((if 0<=(i).toNat/\(i).toNat<=a.length then
 (if 0<=i then
 (if j.toNat<=a.length/\a.length<=a.length then
 (if 0<=j then
 (if i.toNat<=(j).toNat/\(j).toNat<=a.length then
 (if 0 < a.length then
 (if ((i.toNat - 0)+(a.length - j.toNat))<=a.length/\0+a.length<=(vv a i.toNat j.toNat).length then
 (if 0 < (a.length - ((i.toNat - 0)+(a.length - j.toNat)))/\((i.toNat - 0)+(a.length - j.toNat))+(a.length - ((i.toNat - 0)+(a.length - j.toNat)))<=(vv a i.toNat j.toNat).length then
 some (((vv a i.toNat j.toNat).take ((i.toNat - 0)+(a.length - j.toNat))),((vv a i.toNat j.toNat).take ((i.toNat - 0)+(a.length - j.toNat))))
 else none)
 else none)
 else none)
 else none)
 else none)
 else none)
 else none)
 else none)))
 else none)
def ld (N:Nat) (c d:Int) (e:Bool) (f:List Int) (g:Bool) (h:List Int) (i:Int) (j k:List Int)(l:List (List aa)) (m:List aa) (n:List aa) (x:Int) (b:Int->Int->Option (Bool×ml×(List Int)×(List Int)×(List (List aa))×(List aa))) (a:Int):Option (Bool×ml×(List Int)×(List Int)×(List (List aa))×(List aa)) :=
 b a (aR (x+1))
def fR (N:Nat) (g h:Int) (c:List Int) (d:List aa) (j:Bool) (k:List Int) (l:Bool) (m:List Int) (i:Int)(b:(List Int)×(List Int)) (e:List (List aa)):Nat->(List aa)->Int->Option (Bool×ml×(List Int)×(List Int)×(List (List aa))×(List aa))
 | 0,_,_=>none
 | fuel+1,f,a =>
  (cond (decide (a < (((List.replicate b.2.length aa.d:List aa).length:Nat):Int)))
  (((gf N 0).bind fun n =>
  (if 0<=a/\a < (f.length:Int) then
  fR N g h c d j k l m i b e fuel (f.set a.toNat n) (aR (a+1))
  else none)))
  (((gf N 0).bind fun o =>
  some (true,(⟨g,h,c,b.2,e,d,f,o,i⟩:ml),c,b.2,e,d))))
def fS (N:Nat) (e f:Int) (g:List Int)(h:List (List aa)) (i:List aa) (o:List aa) (j:Bool) (k:List Int) (l:Bool) (m:List Int) (n:Int) (d:Int) (b:(List Int)×(List Int)):Nat->(List (List aa))->Int->Option (Bool×ml×(List Int)×(List Int)×(List (List aa))×(List aa))
 | 0,_,_=>none
 | fuel+1,c,a =>
  (cond (decide (a < (h.length:Int)))
  ((if a.toNat < c.length then
  (if 0<=a/\a < (c.length:Int) then
  ((pG N d (aR (d+1)) (c.getD a.toNat [])).bind fun p =>
  fS N e f g h i o j k l m n d b fuel (c.set a.toNat p.2) (aR (a+1)))
  else none)
  else none))
  ((if 0<=((b.2.length:Nat):Int)/\(64:Int) * ((b.2.length:Nat):Int)<=281474976710656/\((b.2.length:Nat):Int)<=9223372036854775807 then
  fR N e f g i j k l m n b c N (List.replicate b.2.length aa.d:List aa) 0
  else none)))
def lg (N:Nat) (e f:Int) (g b:List Int)(c:List (List aa)) (h:List aa) (i:List aa) (j:Bool) (k:List Int) (l:Bool) (m:List Int) (d:Int):Option (Bool×ml×(List Int)×(List Int)×(List (List aa))×(List aa)) :=
 ((bp N b d).bind fun a =>
 ((mo N a (aR (a+1)) b).bind fun n =>
 fS N e f g c h i j k l m d a n N c 0))
def jv (N:Nat) (j k:Int) (d e:List Int)(b:List (List aa)) (f:List aa) (g:List aa) (l:Bool) (m:List Int) (n:Bool) (o:List Int) (h:Int):Option (Bool×ml×(List Int)×(List Int)×(List (List aa))×(List aa)) :=
 ((bp N d h).bind fun c =>
 (cond (decide (c>=0))
 ((if c.toNat < b.length then
 (if 0<=c/\c < (b.length:Int) then
 ((mY N (b.getD c.toNat [])).bind fun i =>
 ((mn N c i j k l m n o h d e b f g).bind fun a =>
 (if a.2.1.length=d.length then
 (if a.2.2.1.length=e.length then
 (if a.2.2.2.1.length=b.length then
 (if a.2.2.2.2.1.length=f.length then
 (if a.2.2.2.2.2.length=g.length then
 lg N a.1.zN a.1.zO a.2.1 a.2.2.1 a.2.2.2.1 a.2.2.2.2.1 a.2.2.2.2.2 a.1.ax.fN.fG a.1.ax.fN.fL a.1.ax.fD.fG a.1.ax.fD.fL a.1.b5
 else none)
 else none)
 else none)
 else none)
 else none)))
 else none)
 else none))
 (lg N j k d e b f g l m n o h)))
def bQ (N:Nat) (i j:Int) (k:Bool) (l:List Int) (m:Bool) (n:List Int) (o:Int) (f d:List Int)(g:List (List aa)) (c:List aa) (e:List aa):Nat->Int->Int->Option (Bool×ml×(List Int)×(List Int)×(List (List aa))×(List aa))
 | 0,_,_=>none
 | fuel+1,low,x =>
  (cond (decide (x < (c.length:Int)))
  ((if 0<=x/\x < (c.length:Int) then
  ((qk N (⟨((c.getD x.toNat aa.d).fN),((c.getD x.toNat aa.d).fD)⟩:aa)).bind fun h =>
  (if (((decide (h < 0)) && ((decide (h < 0)) && (!(decide (low < 0)))))=true->0<=x/\x < (c.length:Int)) then
  (if (((decide (h < 0)) && ((decide (h < 0)) && (!(decide (low < 0)))))=true->0<=low/\low < (c.length:Int)) then
  ((cond ((decide (h < 0)) && ((decide (h < 0)) && (!(decide (low < 0))))) (mH N (⟨((c.getD x.toNat aa.d).fN),((c.getD x.toNat aa.d).fD)⟩:aa) (⟨((c.getD low.toNat aa.d).fN),((c.getD low.toNat aa.d).fD)⟩:aa)) (some 0)).bind fun q =>
  (cond (cond (decide (h < 0)) (cond (decide (low < 0)) true (decide (q < 0))) false)
  (ld N i j k l m n o f d g c e x (bQ N i j k l m n o f d g c e fuel) x)
  (ld N i j k l m n o f d g c e x (bQ N i j k l m n o f d g c e fuel) low)))
  else none)
  else none))
  else none))
  ((cond (decide (low>=0))
  (((gf N (-1)).bind fun p =>
  (if 0<=(aR ((d.length:Int) - 1))/\(aR ((d.length:Int) - 1)) < (e.length:Int) then
  ((mn N low (aR ((d.length:Int) - 1)) i j k l m n o f d g c (e.set ((aR ((d.length:Int) - 1)).toNat) p)).bind fun b =>
  (if b.2.1.length=f.length then
  (if b.2.2.1.length=d.length then
  (if b.2.2.2.1.length=g.length then
  (if b.2.2.2.2.1.length=c.length then
  (if b.2.2.2.2.2.length=(e.set ((aR ((d.length:Int) - 1)).toNat) p).length then
  ((rB N b.1.zN b.1.zO b.1.ax.fN.fG b.1.ax.fN.fL b.1.ax.fD.fG b.1.ax.fD.fL b.1.b5 b.2.1 b.2.2.1 b.2.2.2.1 b.2.2.2.2.1 b.2.2.2.2.2).bind fun a =>
  (if a.2.2.1.length=b.2.1.length then
  (if a.2.2.2.1.length=b.2.2.1.length then
  (if a.2.2.2.2.1.length=b.2.2.2.1.length then
  (if a.2.2.2.2.2.1.length=b.2.2.2.2.1.length then
  (if a.2.2.2.2.2.2.length=b.2.2.2.2.2.length then
  ((kx N a.2.1.ax).bind fun r =>
  (cond (!r)
  (some (false,(⟨a.2.1.zN,a.2.1.zO,a.2.2.1,a.2.2.2.1,a.2.2.2.2.1,a.2.2.2.2.2.1,a.2.2.2.2.2.2,a.2.1.ax,a.2.1.b5⟩:ml),a.2.2.1,a.2.2.2.1,a.2.2.2.2.1,a.2.2.2.2.2.1))
  (jv N a.2.1.zN a.2.1.zO a.2.2.1 a.2.2.2.1 a.2.2.2.2.1 a.2.2.2.2.2.1 a.2.2.2.2.2.2 a.2.1.ax.fN.fG a.2.1.ax.fN.fL a.2.1.ax.fD.fG a.2.1.ax.fD.fL a.2.1.b5)))
  else none)
  else none)
  else none)
  else none)
  else none))
  else none)
  else none)
  else none)
  else none)
  else none))
  else none)))
  (jv N i j f d g c e k l m n o))))
def ql (N:Nat) (a b:Int) (c:Bool) (d:List Int) (e:Bool) (f:List Int) (g:Int) (h i:List Int)(j:List (List aa)) (k:List aa) (l:List aa):Option (Bool×ml×(List Int)×(List Int)×(List (List aa))×(List aa)) :=
 bQ N a b c d e f g h i j k l N (-1) 0
def iL (N:Nat) (c d:Int) (e:Bool) (f:List Int) (g:Bool) (h:List Int) (i:Int) (j k:List Int)(l:List (List aa)) (m:List aa) (n:List aa) (x:Int) (a:(List aa)->Int->Option (List aa)) (b:List aa):Option (List aa) :=
 a b (aR (x+1))
def cy (N:Nat) (b c:Int) (f:Bool) (g:List Int) (h:Bool) (i:List Int) (j:Int) (k d:List Int)(l:List (List aa)) (m:List aa) (a:List aa):Nat->(List aa)->Int->Option (List aa)
 | 0,_,_=>none
 | fuel+1,out,x =>
  (cond (decide (x < (((List.replicate c.toNat aa.d:List aa).length:Nat):Int)))
  (((gf N 0).bind fun n =>
  (if 0<=x/\x < (out.length:Int) then
  ((bp N d (aR ((aR (2 * b))+x))).bind fun e =>
  (cond (decide (e>=0))
  ((if 0<=e/\e < (a.length:Int) then
  ((gK N (⟨((a.getD e.toNat aa.d).fN),((a.getD e.toNat aa.d).fD)⟩:aa)).bind fun o =>
  (if 0<=x/\x < (((out.set x.toNat n).length:Nat):Int) then
  iL N b c f g h i j k d l m a x (cy N b c f g h i j k d l m a fuel) ((out.set x.toNat n).set x.toNat o)
  else none))
  else none))
  (iL N b c f g h i j k d l m a x (cy N b c f g h i j k d l m a fuel) (out.set x.toNat n))))
  else none)))
  (some out))
def jZ (N:Nat) (b a:Int) (c:Bool) (d:List Int) (e:Bool) (f:List Int) (g:Int) (h i:List Int)(j:List (List aa)) (k:List aa) (l:List aa):Option (List aa) :=
 (if 0<=a/\(64:Int) * a<=281474976710656/\a<=9223372036854775807 then
 cy N b a c d e f g h i j k l N (List.replicate a.toNat aa.d:List aa) 0
 else none)
def rX (N:Nat) (c f g:Int) (h:Bool) (i:List Int) (j:Bool) (k:List Int) (l:Int) (d m:List Int)(n:List (List aa)) (b:List aa) (o:List aa):Option aa :=
 ((bp N d c).bind fun a =>
 (cond (decide (a>=0))
 ((if 0<=a/\a < (b.length:Int) then
 some (⟨((b.getD a.toNat aa.d).fN),((b.getD a.toNat aa.d).fD)⟩:aa)
 else none))
 (((gf N 0).bind fun e =>
 some e))))
def gr (N:Nat) (a b:Int) (c:Bool) (d:List Int) (e:Bool) (f:List Int) (g:Int) (h i:List Int)(j:List (List aa)) (k:List aa) (l:List aa):Nat->(List aa)->Int->Option (List aa)
 | 0,_,_=>none
 | fuel+1,out,x =>
  (cond (decide (x < (((List.replicate a.toNat aa.d:List aa).length:Nat):Int)))
  (((rX N x a b c d e f g h i j k l).bind fun rat =>
  ((rX N (aR (a+x)) a b c d e f g h i j k l).bind fun m =>
  ((uy N rat m).bind fun n =>
  (if 0<=x/\x < (out.length:Int) then
  gr N a b c d e f g h i j k l fuel (out.set x.toNat n) (aR (x+1))
  else none)))))
  (some out))
def rC (N:Nat) (a b:Int) (c:Bool) (d:List Int) (e:Bool) (f:List Int) (g:Int) (h i:List Int)(j:List (List aa)) (k:List aa) (l:List aa):Option (List aa) :=
 (if 0<=a/\(64:Int) * a<=281474976710656/\a<=9223372036854775807 then
 gr N a b c d e f g h i j k l N (List.replicate a.toNat aa.d:List aa) 0
 else none)
def lS (N:Nat) (l:List ByteArray):Nat->Int->Option Bool
 | 0,_=>none
 | fuel+1,i =>
  (cond (decide (i < (l.length:Int)))
  ((if 0<=i/\i < (l.length:Int) then
  (cond (decide ((((l.getD i.toNat ByteArray.empty).size:Nat):Int) > 40))
  (some false)
  (lS N l fuel (aR (i+1))))
  else none))
  (some true))
def uX (N:Nat) (l:List ByteArray):Option Bool :=
 lS N l N 0
def lU (N:Nat) (w:aq):Nat->Int->Option Bool
 | 0,_=>none
 | fuel+1,a =>
  (cond (decide (a < (w.ab.length:Int)))
  ((if 0<=a/\a < (w.ab.length:Int) then
  ((cond (!(cond (cond (cond (cond (decide (((((w.ab.getD a.toNat bq.d).cl).size:Nat):Int) > 40)) true (decide (((((w.ab.getD a.toNat bq.d).eO).size:Nat):Int) > 40))) true (decide (((((w.ab.getD a.toNat bq.d).gn).size:Nat):Int) > 40))) true (decide (((((w.ab.getD a.toNat bq.d).aP).length:Nat):Int) > 6))) true (decide (((((w.ab.getD a.toNat bq.d).a9).length:Nat):Int) > 12)))) (uX N ((w.ab.getD a.toNat bq.d).a9)) (some false)).bind fun b =>
  (cond (cond (cond (cond (cond (cond (decide (((((w.ab.getD a.toNat bq.d).cl).size:Nat):Int) > 40)) true (decide (((((w.ab.getD a.toNat bq.d).eO).size:Nat):Int) > 40))) true (decide (((((w.ab.getD a.toNat bq.d).gn).size:Nat):Int) > 40))) true (decide (((((w.ab.getD a.toNat bq.d).aP).length:Nat):Int) > 6))) true (decide (((((w.ab.getD a.toNat bq.d).a9).length:Nat):Int) > 12))) true (!b))
  (some false)
  (lU N w fuel (aR (a+1)))))
  else none))
  (some true))
def lV (N:Nat) (w:aq):Nat->Int->Option Bool
 | 0,_=>none
 | fuel+1,a =>
  (cond (decide (a < (w.bm.length:Int)))
  ((if 0<=a/\a < (w.bm.length:Int) then
  (if ((!(decide (((((w.bm.getD a.toNat dj.d).cl).size:Nat):Int) > 40)))=true->0<=a/\a < (w.bm.length:Int)) then
  (if ((!(cond (decide (((((w.bm.getD a.toNat dj.d).cl).size:Nat):Int) > 40)) true (decide (((((w.bm.getD a.toNat dj.d).jg).length:Nat):Int) > 20))))=true->0<=a/\a < (w.bm.length:Int)) then
  ((cond (!(cond (decide (((((w.bm.getD a.toNat dj.d).cl).size:Nat):Int) > 40)) true (decide (((((w.bm.getD a.toNat dj.d).jg).length:Nat):Int) > 20)))) (uX N ((w.bm.getD a.toNat dj.d).jg)) (some false)).bind fun b =>
  (cond (cond (cond (decide (((((w.bm.getD a.toNat dj.d).cl).size:Nat):Int) > 40)) true (decide (((((w.bm.getD a.toNat dj.d).jg).length:Nat):Int) > 20))) true (!b))
  (some false)
  (lV N w fuel (aR (a+1)))))
  else none)
  else none)
  else none))
  (lU N w N 0))
def lW (N:Nat) (w:aq):Nat->Int->Option Bool
 | 0,_=>none
 | fuel+1,i =>
  (cond (decide (i < (w.bu.length:Int)))
  ((if 0<=i/\i < (w.bu.length:Int) then
  (cond (decide (((((w.bu.getD i.toNat de.d).cl).size:Nat):Int) > 40))
  (some false)
  (lW N w fuel (aR (i+1))))
  else none))
  (lV N w N 0))
def xN (N:Nat) (w:aq) (a:Int):Option Bool :=
 (cond (cond (cond (cond (cond (cond (decide ((w.bu.length:Int) > 8)) true (decide ((w.bm.length:Int) > 14))) true (decide ((w.bK.length:Int) > 32))) true (decide ((w.cO.length:Int) > 22))) true (cond (decide ((w.ab.length:Int) > a)) (decide ((w.ab.length:Int)<=40)) false)) true (decide ((w.ab.length:Int) > 45)))
 (some false)
 (lW N w N 0))
def ko (N:Nat) (s:ByteArray):Nat->Int->Option Bool
 | 0,_=>none
 | fuel+1,i =>
  (cond (decide (i < (s.size:Int)))
  ((if 0<=i/\i < (s.size:Int) then
  (cond (cond (!(cond (cond (decide ((zA s i)>=97)) (decide ((zA s i)<=122)) false) true (cond (decide ((zA s i)>=65)) (decide ((zA s i)<=90)) false))) (cond (i == 0) true (cond ((zA s i) != 45) (cond (decide ((zA s i) < 48)) true (decide ((zA s i) > 57))) false)) false)
  (some false)
  (ko N s fuel (aR (i+1))))
  else none))
  (some true))
def qm (N:Nat) (s:ByteArray):Option Bool :=
 (cond (cond (decide ((s.size:Int) < 1)) true (decide ((s.size:Int) > 12)))
 (some false)
 (ko N s N 0))
def j3 (N:Nat) (w:aq) (a:ByteArray):Nat->Int->Option Int
 | 0,_=>none
 | fuel+1,i =>
  (cond (decide (i < (w.bu.length:Int)))
  ((if 0<=i/\i < (w.bu.length:Int) then
  (cond (dZ ((w.bu.getD i.toNat de.d).cl) a)
  (some i)
  (j3 N w a fuel (aR (i+1))))
  else none))
  (some (-1)))
def qU (N:Nat) (w:aq) (a:ByteArray):Option Int :=
 j3 N w a N 0
def fW (N:Nat) (n low high:Int):Option Bool :=
 some (cond (decide (n>=low)) (decide (n<=high)) false)
def gu (N:Nat) (w:aq):Nat->Int->Option Int
 | 0,_=>none
 | fuel+1,i =>
  (cond (decide (i < (w.bu.length:Int)))
  ((if 0<=i/\i < (w.bu.length:Int) then
  ((qm N ((w.bu.getD i.toNat de.d).cl)).bind fun b =>
  (cond (!b)
  (some 4)
  (((qU N w ((w.bu.getD i.toNat de.d).cl)).bind fun c =>
  (cond (c != i)
  (some 5)
  (((fW N ((w.bu.getD i.toNat de.d).jb) 0 1000).bind fun a =>
  ((cond (!(!a)) (fW N ((w.bu.getD i.toNat de.d).Qj) 0 1000000) (some false)).bind fun d =>
  (cond (cond (!a) true (!d))
  (some 2)
  (gu N w fuel (aR (i+1))))))))))))
  else none))
  (some 0))
def mv (N:Nat) (w:aq):Option Int :=
 (cond (decide ((w.bu.length:Int) > 6))
 (some 8)
 (gu N w N 0))
def gi (N:Nat) (w:aq) (a:ByteArray):Nat->Int->Option Int
 | 0,_=>none
 | fuel+1,i =>
  (cond (decide (i < (w.bm.length:Int)))
  ((if 0<=i/\i < (w.bm.length:Int) then
  (cond (dZ ((w.bm.getD i.toNat dj.d).cl) a)
  (some i)
  (gi N w a fuel (aR (i+1))))
  else none))
  (some (-1)))
def nv (N:Nat) (w:aq) (a:ByteArray):Option Int :=
 gi N w a N 0
def dw (N:Nat) (w:aq) (i:Int) (a:Int->Option Int):Nat->Int->Option Int
 | 0,_=>none
 | fuel+1,k =>
  (cond (decide (k < ((((w.bm.getD i.toNat dj.d).jg).length:Nat):Int)))
  ((if 0<=k/\k < ((((w.bm.getD i.toNat dj.d).jg).length:Nat):Int) then
  ((nv N w (((w.bm.getD i.toNat dj.d).jg).getD k.toNat ByteArray.empty)).bind fun b =>
  (cond (decide (b < 0))
  (some 6)
  (dw N w i a fuel (aR (k+1)))))
  else none))
  (a (aR (i+1))))
def gy (N:Nat) (w:aq):Nat->Int->Option Int
 | 0,_=>none
 | fuel+1,a =>
  (cond (decide (a < (w.cO.length:Int)))
  ((if 0<=a/\a < (w.cO.length:Int) then
  ((fW N ((w.cO.getD a.toNat iy.d).Gl) 0 400).bind fun c =>
  ((cond (!(!c)) (fW N ((w.cO.getD a.toNat iy.d).X1) 0 400) (some false)).bind fun b =>
  (cond (cond (!c) true (!b))
  (some 2)
  ((cond (decide ((w.cO.getD a.toNat iy.d).X1<=(w.cO.getD a.toNat iy.d).Gl))
  (some 10)
  (gy N w fuel (aR (a+1))))))))
  else none))
  (some 0))
def gz (N:Nat) (w:aq):Nat->Int->Option Int
 | 0,_=>none
 | fuel+1,a =>
  (cond (decide (a < (w.bK.length:Int)))
  ((if 0<=a/\a < (w.bK.length:Int) then
  ((fW N ((w.bK.getD a.toNat dU.d).f_A) 0 5).bind fun b =>
  ((cond (!(!b)) (fW N ((w.bK.getD a.toNat dU.d).f_B) 0 5) (some false)).bind fun c =>
  ((cond (!(cond (!b) true (!c))) (fW N ((w.bK.getD a.toNat dU.d).Kw) 0 2) (some false)).bind fun d =>
  (cond (cond (cond (!b) true (!c)) true (!d))
  (some 2)
  (gz N w fuel (aR (a+1)))))))
  else none))
  ((cond (decide ((w.cO.length:Int) > 20))
  (some 8)
  (gy N w N 0))))
def fF (N:Nat) (w:aq):Nat->Int->Option Int
 | 0,_=>none
 | fuel+1,i =>
  (cond (decide (i < (w.bm.length:Int)))
  ((if 0<=i/\i < (w.bm.length:Int) then
  ((qm N ((w.bm.getD i.toNat dj.d).cl)).bind fun a =>
  (cond (!a)
  (some 4)
  (((nv N w ((w.bm.getD i.toNat dj.d).cl)).bind fun b =>
  (cond (b != i)
  (some 5)
  (dw N w i (fF N w fuel) N 0))))))
  else none))
  ((cond (decide ((w.bK.length:Int) > 30))
  (some 8)
  (gz N w N 0))))
def mw (N:Nat) (w:aq):Option Int :=
 (cond (decide ((w.bm.length:Int) > 12))
 (some 8)
 (fF N w N 0))
def kO (N:Nat) (w:aq) (a:ByteArray):Nat->Int->Option Int
 | 0,_=>none
 | fuel+1,i =>
  (cond (decide (i < (w.ab.length:Int)))
  ((if 0<=i/\i < (w.ab.length:Int) then
  (cond (dZ ((w.ab.getD i.toNat bq.d).cl) a)
  (some i)
  (kO N w a fuel (aR (i+1))))
  else none))
  (some (-1)))
def sV (N:Nat) (w:aq) (a:ByteArray):Option Int :=
 kO N w a N 0
def iP (N:Nat) (w:aq) (x:bq):Nat->Int->Option Int
 | 0,_=>none
 | fuel+1,a =>
  (cond (decide (a < (x.a9.length:Int)))
  ((if 0<=a/\a < (x.a9.length:Int) then
  ((sV N w (x.a9.getD a.toNat ByteArray.empty)).bind fun b =>
  (cond (decide (b < 0))
  (some 6)
  ((cond (dZ (x.a9.getD a.toNat ByteArray.empty) x.cl)
  (some 3)
  (iP N w x fuel (aR (a+1)))))))
  else none))
  (some 0))
def iQ (N:Nat) (w:aq) (x:bq) (a:Int):Nat->Int->Option Int
 | 0,_=>none
 | fuel+1,i =>
  (cond (decide (i < (x.aP.length:Int)))
  ((if 0<=i/\i < (x.aP.length:Int) then
  ((fW N ((x.aP.getD i.toNat eV.d).fg) 1 60).bind fun b =>
  ((cond (!(!b)) (fW N ((x.aP.getD i.toNat eV.d).jb) 0 1000) (some false)).bind fun c =>
  (cond (cond (!b) true (!c))
  (some 2)
  ((if 0<=a/\a < (w.bu.length:Int) then
  (cond (decide ((x.aP.getD i.toNat eV.d).jb > (w.bu.getD a.toNat de.d).jb))
  (some 23)
  (iQ N w x a fuel (aR (i+1))))
  else none)))))
  else none))
  (((cond (!(dZ x.gn ByteArray.empty)) (nv N w x.gn) (some 0)).bind fun d =>
  (cond (cond (!(dZ x.gn ByteArray.empty)) (decide (d < 0)) false)
  (some 6)
  (((fW N x.pQ (-1) 5).bind fun e =>
  (cond (!e)
  (some 2)
  ((cond (cond (x.pQ != (-1)) (dZ x.gn ByteArray.empty) false)
  (some 3)
  (iP N w x N 0))))))))))
def qJ (N:Nat) (w:aq) (x:bq):Option Int :=
 ((qU N w x.eO).bind fun a =>
 (cond (decide (a < 0))
 (some 6)
 ((cond (cond (decide ((x.aP.length:Int) < 1)) true (decide ((x.aP.length:Int) > 3)))
 (some 2)
 (iQ N w x a N 0)))))
def lX (N:Nat) (l:List ByteArray) (s:ByteArray):Nat->Int->Option Bool
 | 0,_=>none
 | fuel+1,i =>
  (cond (decide (i < (l.length:Int)))
  ((if 0<=i/\i < (l.length:Int) then
  (cond (dZ (l.getD i.toNat ByteArray.empty) s)
  (some true)
  (lX N l s fuel (aR (i+1))))
  else none))
  (some false))
def uY (N:Nat) (l:List ByteArray) (s:ByteArray):Option Bool :=
 lX N l s N 0
def rY (N:Nat) (w:aq) (out:List ByteArray) (i:Int)(a:Int->Int->Option (List ByteArray)) (c:(List ByteArray)->Option (List ByteArray)) (b:Int):Option (List ByteArray) :=
 a b (aR (i+1))
def lY (N:Nat) (w:aq) (out:List ByteArray) (c i:Int)(a:Int->Int->Option (List ByteArray)) (b:(List ByteArray)->Option (List ByteArray)):Nat->Bool->Int->Option (List ByteArray)
 | 0,_,_=>none
 | fuel+1,ready,k =>
  (if 0<=i/\i < (w.ab.length:Int) then
  (cond (decide (k < ((((w.ab.getD i.toNat bq.d).a9).length:Nat):Int)))
  ((if (ready=true->0<=i/\i < (w.ab.length:Int)) then
  (if (ready=true->0<=k/\k < ((((w.ab.getD i.toNat bq.d).a9).length:Nat):Int)) then
  ((cond ready (uY N out (((w.ab.getD i.toNat bq.d).a9).getD k.toNat ByteArray.empty)) (some false)).bind fun d =>
  lY N w out c i a b fuel (cond ready d false) (aR (k+1)))
  else none)
  else none))
  ((cond ready
  (rY N w out i a b i)
  (rY N w out i a b c))))
  else none)
def iR (N:Nat) (w:aq) (out:List ByteArray)(b:(List ByteArray)->Option (List ByteArray)):Nat->Int->Int->Option (List ByteArray)
 | 0,_,_=>none
 | fuel+1,a,i =>
  (cond (cond (decide (i < (w.ab.length:Int))) (decide (a < 0)) false)
  ((if 0<=i/\i < (w.ab.length:Int) then
  ((uY N out ((w.ab.getD i.toNat bq.d).cl)).bind fun c =>
  lY N w out a i (iR N w out b fuel) b N (!c) 0)
  else none))
  ((cond (decide (a < 0))
  (some out)
  ((if 0<=a/\a < (w.ab.length:Int) then
  (if (out.length+1) * 16<=140737488355328 then
  b (out ++ ([(w.ab.getD a.toNat bq.d).cl]:List ByteArray))
  else none)
  else none)))))
def jD (N:Nat) (w:aq):Nat->(List ByteArray)->Option (List ByteArray)
 | 0,_=>none
 | fuel+1,out =>
  iR N w out (jD N w fuel) N (-1) 0
def Bm (N:Nat) (w:aq):Option (List ByteArray) :=
 jD N w N ([]:List ByteArray)
def iS (N:Nat) (w:aq):Nat->Int->Option Int
 | 0,_=>none
 | fuel+1,i =>
  (cond (decide (i < (w.ab.length:Int)))
  ((if 0<=i/\i < (w.ab.length:Int) then
  ((qm N ((w.ab.getD i.toNat bq.d).cl)).bind fun f =>
  (cond (!f)
  (some 4)
  (((sV N w ((w.ab.getD i.toNat bq.d).cl)).bind fun g =>
  (cond (g != i)
  (some 5)
  (((qJ N w (w.ab.getD i.toNat bq.d)).bind fun d =>
  (cond (d != 0)
  (some d)
  (iS N w fuel (aR (i+1)))))))))))
  else none))
  (((fW N w.L4 0 1000000000).bind fun a =>
  ((cond (!(!a)) (fW N w.L5 0 1000000000) (some false)).bind fun b =>
  ((cond (!(cond (!a) true (!b))) (fW N w.Ua 0 400) (some false)).bind fun e =>
  ((cond (!(cond (cond (!a) true (!b)) true (!e))) (fW N w.L6 0 400) (some false)).bind fun h =>
  (cond (cond (cond (cond (!a) true (!b)) true (!e)) true (!h))
  (some 2)
  (((Bm N w).bind fun c =>
  (cond (decide ((c.length:Int) < (w.ab.length:Int)))
  (some 22)
  (some 0)))))))))))
def qK (N:Nat) (w:aq):Option Int :=
 ((mv N w).bind fun a =>
 (cond (a != 0)
 (some a)
 (((mw N w).bind fun b =>
 (cond (b != 0)
 (some b)
 ((cond (decide ((w.ab.length:Int) > 40))
 (some 8)
 (iS N w N 0))))))))
def qn (N:Nat):Nat->Int->(List Int)->Option (List Int)
 | 0,_,_=>none
 | fuel+1,a,out =>
  (cond (decide (a > 0))
  ((if (out.length+1) * 2<=140737488355328 then
  qn N fuel (zY .u64 a 16) (out ++ ([(IntKind.u16.wrap ((XT .u64 a 65535)))]:List Int))
  else none))
  (some out))
def zR (N:Nat) (n:Int):Option (List Int) :=
 qn N N n ([]:List Int)
def Uc (N:Nat) (n:Int):Option eN :=
 (cond (decide (n < 0))
 (((zR N (IntKind.u64.wrap ((IntKind.u64.wrap ((aR (0 - (aR (n+1))))))+1))).bind fun a =>
 some (⟨true,a⟩:eN)))
 (((zR N (IntKind.u64.wrap n)).bind fun b =>
 some (⟨false,b⟩:eN))))
def CU (N:Nat) (n:Int):Option aa :=
 ((Uc N n).bind fun b =>
 ((Uc N 1).bind fun a =>
 some (⟨b,a⟩:aa)))
def lZ (N:Nat) (x:bq):Nat->Int->Int->Option Int
 | 0,_,_=>none
 | fuel+1,n,i =>
  (cond (decide (i < (x.aP.length:Int)))
  ((if 0<=i/\i < (x.aP.length:Int) then
  lZ N x fuel (if (x.aP.getD i.toNat eV.d).fg < n then (x.aP.getD i.toNat eV.d).fg else n) (aR (i+1))
  else none))
  (some n))
def xO (N:Nat) (x:bq):Option Int :=
 (if 0<=(0:Int)/\0 < (x.aP.length:Int) then
 lZ N x N ((x.aP.getD 0 eV.d).fg) 1
 else none)
def dJ (N:Nat) (w:aq) (i:Int)(d:(List a8)->Int->Option (List a8)):Nat->(List a8)->Int->Option (List a8)
 | 0,_,_=>none
 | fuel+1,b,k =>
  (if 0<=i/\i < (w.ab.length:Int) then
  (cond (decide (k < ((((w.ab.getD i.toNat bq.d).a9).length:Nat):Int)))
  ((if 0<=k/\k < ((((w.ab.getD i.toNat bq.d).a9).length:Nat):Int) then
  ((sV N w (((w.ab.getD i.toNat bq.d).a9).getD k.toNat ByteArray.empty)).bind fun a =>
  (if 0<=(aR ((w.ab.length:Int)+1))/\(64:Int) * (aR ((w.ab.length:Int)+1))<=281474976710656/\(aR ((w.ab.length:Int)+1))<=9223372036854775807 then
  ((CU N 1).bind fun e =>
  ((CU N (-1)).bind fun f =>
  (if 0<=a/\a < (((List.replicate ((aR ((w.ab.length:Int)+1)).toNat) aa.d:List aa).length:Nat):Int) then
  (if 0<=i/\i < (((List.replicate ((aR ((w.ab.length:Int)+1)).toNat) aa.d:List aa).length:Nat):Int) then
  (if 0<=a/\a < (w.ab.length:Int) then
  ((xO N (w.ab.getD a.toNat bq.d)).bind fun g =>
  ((CU N (aR (0 - g))).bind fun c =>
  (if (b.length+1) * 88<=140737488355328 then
  dJ N w i d fuel (b ++ ([(⟨(((List.replicate ((aR ((w.ab.length:Int)+1)).toNat) aa.d:List aa).set a.toNat e).set i.toNat f),c⟩:a8)]:List a8)) (aR (k+1))
  else none)))
  else none)
  else none)
  else none)))
  else none))
  else none))
  (d b (aR (i+1))))
  else none)
def cR (N:Nat) (w:aq):Nat->(List a8)->Int->Option (List a8)
 | 0,_,_=>none
 | fuel+1,out,i =>
  (cond (decide (i < (w.ab.length:Int)))
  ((if 0<=(aR ((w.ab.length:Int)+1))/\(64:Int) * (aR ((w.ab.length:Int)+1))<=281474976710656/\(aR ((w.ab.length:Int)+1))<=9223372036854775807 then
  ((CU N (-1)).bind fun d =>
  (if 0<=i/\i < (((List.replicate ((aR ((w.ab.length:Int)+1)).toNat) aa.d:List aa).length:Nat):Int) then
  ((CU N 1).bind fun e =>
  ((CU N (-1)).bind fun f =>
  (if 0<=(w.ab.length:Int)/\(w.ab.length:Int) < (((List.replicate ((aR ((w.ab.length:Int)+1)).toNat) aa.d:List aa).length:Nat):Int) then
  ((CU N 0).bind fun a =>
  (if 0<=i/\i < (w.ab.length:Int) then
  ((xO N (w.ab.getD i.toNat bq.d)).bind fun b =>
  ((CU N (aR (0 - b))).bind fun c =>
  (if (out.length+2) * 88<=140737488355328 then
  dJ N w i (cR N w fuel) N (out ++ ([(⟨((List.replicate ((aR ((w.ab.length:Int)+1)).toNat) aa.d:List aa).set i.toNat d),a⟩:a8),(⟨(((List.replicate ((aR ((w.ab.length:Int)+1)).toNat) aa.d:List aa).set i.toNat e).set w.ab.length f),c⟩:a8)]:List a8)) 0
  else none)))
  else none))
  else none)))
  else none))
  else none))
  (some out))
def lB (N:Nat) (w:aq):Option (List a8) :=
 cR N w N ([]:List a8) 0
def gM (N:Nat) (h:List aa) (i j k:Int) (l m:List Int)(c:List (List aa)) (n:List aa) (x:Int) (f:List aa) (Lq:Int×aa) (left:List (Int×aa)) (b:Int) (d:aa) (g:(List aa)->Bool->(List Int)->Bool->(List Int)->(List (Int×aa))->Option (ml×(List aa))) (o:(List aa)->Bool->(List Int)->Bool->(List Int)->Int->Option (ml×(List aa))):Nat->(List aa)->Int->Option (ml×(List aa))
 | 0,_,_=>none
 | fuel+1,e,a =>
  (cond (decide (a < (f.length:Int)))
  ((if b.toNat < c.length then
  (if 0<=a/\a < (e.length:Int) then
  (if 0<=b/\b < (c.length:Int) then
  (if 0<=a/\a < (((c.getD b.toNat []).length:Nat):Int) then
  ((fO N Lq.2 (⟨(((c.getD b.toNat []).getD a.toNat aa.d).fN),(((c.getD b.toNat []).getD a.toNat aa.d).fD)⟩:aa)).bind fun p =>
  ((fq N (⟨((e.getD a.toNat aa.d).fN),((e.getD a.toNat aa.d).fD)⟩:aa) p).bind fun q =>
  gM N h i j k l m c n x f Lq left b d g o fuel (e.set a.toNat q) (aR (a+1))))
  else none)
  else none)
  else none)
  else none))
  (g e d.fN.fG d.fN.fL d.fD.fG d.fD.fL left))
noncomputable def cH (N:Nat) (h:List aa) (i j k:Int) (e f:List Int)(l:List (List aa)) (b:List aa) (x:Int) (g:(List aa)->Bool->(List Int)->Bool->(List Int)->Int->Option (ml×(List aa))):Nat->(List aa)->Bool->(List Int)->Bool->(List Int)->(List (Int×aa))->Option (ml×(List aa))
 | 0,_,_,_,_,_,_=>none
 | fuel+1,a,m,n,o,p,rem =>
  (ye rem
  (g a m n o p (aR (x+1)))
  (fun Lq left =>
  ((bp N f Lq.1).bind fun c =>
  (cond (decide (c>=0))
  ((if 0<=c/\c < (a.length:Int) then
  ((fq N (⟨((a.getD c.toNat aa.d).fN),((a.getD c.toNat aa.d).fD)⟩:aa) Lq.2).bind fun q =>
  cH N h i j k e f l b x g fuel (a.set c.toNat q) m n o p left)
  else none))
  (((bp N e Lq.1).bind fun d =>
  (if 0<=d/\d < (b.length:Int) then
  ((fO N Lq.2 (⟨((b.getD d.toNat aa.d).fN),((b.getD d.toNat aa.d).fD)⟩:aa)).bind fun r =>
  ((fq N (⟨(⟨m,n⟩:eN),(⟨o,p⟩:eN)⟩:aa) r).bind fun s =>
  gM N h i j k e f l b x a Lq left d s (cH N h i j k e f l b x g fuel) g N a 0))
  else none)))))))
noncomputable def gN (N:Nat) (a:List aa) (b d e:Int) (f g:List Int)(h:List (List aa)) (i:List aa):Nat->(List aa)->Bool->(List Int)->Bool->(List Int)->Int->Option (ml×(List aa))
 | 0,_,_,_,_,_,_=>none
 | fuel+1,j,k,l,m,n,x =>
  (cond (decide (x < (a.length:Int)))
  ((if 0<=x/\x < (a.length:Int) then
  ((mF N (⟨((a.getD x.toNat aa.d).fN),((a.getD x.toNat aa.d).fD)⟩:aa)).bind fun o =>
  ((gK N (⟨((a.getD x.toNat aa.d).fN),((a.getD x.toNat aa.d).fD)⟩:aa)).bind fun p =>
  ((mF N (⟨((a.getD x.toNat aa.d).fN),((a.getD x.toNat aa.d).fD)⟩:aa)).bind fun q =>
  ((gK N (⟨((a.getD x.toNat aa.d).fN),((a.getD x.toNat aa.d).fD)⟩:aa)).bind fun r =>
  both (cH N a b d e f g h i x (gN N a b d e f g h i fuel) N j k l m n (D7 (fun c zb=>c == zb) (D7 (fun c zb=>c == zb) ([]:List (Int×aa)) x o) (aR (b+x)) p))
  (cH N a b d e f g h i x (gN N a b d e f g h i fuel) N j k l m n (D7 (fun c zb=>c == zb) (D7 (fun c zb=>c == zb) ([]:List (Int×aa)) (aR (b+x)) r) x q))))))
  else none))
  (some ((⟨b,d,f,g,h,i,j,(⟨(⟨k,l⟩:eN),(⟨m,n⟩:eN)⟩:aa),e⟩:ml),j)))
noncomputable def um (N:Nat) (a:List aa) (b c:Int) (d:Bool) (e:List Int) (f:Bool) (g:List Int) (h:Int) (i j:List Int)(k:List (List aa)) (l:List aa) (m:List aa):Option (ml×(List aa)) :=
 gN N a b c h i j k l N m d e f g 0
def vT (N:Nat) (j a b:Int) (c:Bool) (d:List Int) (e:Bool) (f:List Int) (g:Int) (h i:List Int)(k:List (List aa)) (l:List aa) (m:List aa):Option Int :=
 some j
def pH (N:Nat) (d o f:Int) (g:Bool) (h:List Int) (i:Bool) (j:List Int) (k:Int) (l e:List Int)(c:List (List aa)) (p:List aa) (q:List aa) (a:Int):Option aa :=
 (if 0<=a/\a < (e.length:Int) then
 (cond ((e.getD a.toNat 0) == d)
 (((gf N 1).bind fun m =>
 some m))
 (((bp N l d).bind fun b =>
 (cond (decide (b>=0))
 ((if b.toNat < c.length then
 (if 0<=b/\b < (c.length:Int) then
 (if 0<=a/\a < (((c.getD b.toNat []).length:Nat):Int) then
 some (⟨(((c.getD b.toNat []).getD a.toNat aa.d).fN),(((c.getD b.toNat []).getD a.toNat aa.d).fD)⟩:aa)
 else none)
 else none)
 else none))
 (((gf N 0).bind fun n =>
 some n))))))
 else none)
def j4 (N:Nat) (a b:Int) (c:Bool) (d:List Int) (e:Bool) (f:List Int) (g:Int) (h i:List Int)(j:List (List aa)) (k:List aa) (l:List aa) (m:Int):Nat->(List aa)->Int->Option (List aa)
 | 0,_,_=>none
 | fuel+1,out,x =>
  (cond (decide (x < (((List.replicate a.toNat aa.d:List aa).length:Nat):Int)))
  (((pH N x a b c d e f g h i j k l m).bind fun n =>
  ((pH N (aR (a+x)) a b c d e f g h i j k l m).bind fun o =>
  ((uy N n o).bind fun p =>
  (if 0<=x/\x < (out.length:Int) then
  j4 N a b c d e f g h i j k l m fuel (out.set x.toNat p) (aR (x+1))
  else none)))))
  (some out))
def r7 (N:Nat) (a b:Int) (c:Bool) (d:List Int) (e:Bool) (f:List Int) (g:Int) (h i:List Int)(j:List (List aa)) (k:List aa) (l:List aa) (m:Int):Option (List aa) :=
 (if 0<=a/\(64:Int) * a<=281474976710656/\a<=9223372036854775807 then
 j4 N a b c d e f g h i j k l m N (List.replicate a.toNat aa.d:List aa) 0
 else none)
noncomputable def y9 (N:Nat) (e:List aa) (l:List a8):Option (uT×Int) :=
 ((ph N (e.length:Int) l).bind fun g =>
 (cond (g != 0)
 (some ((⟨(⟨(⟨false,([]:List Int)⟩:eN),(⟨false,([]:List Int)⟩:eN)⟩:aa),([]:List aa),([]:List aa)⟩:uT),g))
 (((CO N (e.length:Int) l).bind fun c =>
 ((ql N c.zN c.zO c.ax.fN.fG c.ax.fN.fL c.ax.fD.fG c.ax.fD.fL c.b5 c.H0 c.Qi c.f_a c.f_b c.rP).bind fun b =>
 (if b.2.2.1.length=c.H0.length then
 (if b.2.2.2.2.1.length=c.f_a.length then
 (if b.2.2.2.2.2.length=c.f_b.length then
 (cond (!b.1)
 (((jZ N b.2.1.zN b.2.1.zO b.2.1.ax.fN.fG b.2.1.ax.fN.fL b.2.1.ax.fD.fG b.2.1.ax.fD.fL b.2.1.b5 b.2.2.1 b.2.2.2.1 b.2.2.2.2.1 b.2.2.2.2.2 b.2.1.rP).bind fun h =>
 some ((⟨(⟨(⟨false,([]:List Int)⟩:eN),(⟨false,([]:List Int)⟩:eN)⟩:aa),([]:List aa),h⟩:uT),29)))
 (((um N e b.2.1.zN b.2.1.zO b.2.1.ax.fN.fG b.2.1.ax.fN.fL b.2.1.ax.fD.fG b.2.1.ax.fD.fL b.2.1.b5 b.2.2.1 b.2.2.2.1 b.2.2.2.2.1 b.2.2.2.2.2 b.2.1.rP).bind fun d =>
 (if d.2.length=b.2.1.rP.length then
 ((rB N d.1.zN d.1.zO d.1.ax.fN.fG d.1.ax.fN.fL d.1.ax.fD.fG d.1.ax.fD.fL d.1.b5 b.2.2.1 b.2.2.2.1 b.2.2.2.2.1 b.2.2.2.2.2 d.2).bind fun a =>
 (if a.2.2.1.length=b.2.2.1.length then
 (if a.2.2.2.1.length=b.2.2.2.1.length then
 (if a.2.2.2.2.1.length=b.2.2.2.2.1.length then
 (if a.2.2.2.2.2.1.length=b.2.2.2.2.2.length then
 (if a.2.2.2.2.2.2.length=d.2.length then
 (cond (decide (a.1>=0))
 (((vT N a.1 a.2.1.zN a.2.1.zO a.2.1.ax.fN.fG a.2.1.ax.fN.fL a.2.1.ax.fD.fG a.2.1.ax.fD.fL a.2.1.b5 a.2.2.1 a.2.2.2.1 a.2.2.2.2.1 a.2.2.2.2.2.1 a.2.2.2.2.2.2).bind fun f =>
 ((r7 N a.2.1.zN a.2.1.zO a.2.1.ax.fN.fG a.2.1.ax.fN.fL a.2.1.ax.fD.fG a.2.1.ax.fD.fL a.2.1.b5 a.2.2.1 a.2.2.2.1 a.2.2.2.2.1 a.2.2.2.2.2.1 a.2.2.2.2.2.2 f).bind fun i =>
 some ((⟨(⟨(⟨false,([]:List Int)⟩:eN),(⟨false,([]:List Int)⟩:eN)⟩:aa),i,([]:List aa)⟩:uT),14))))
 (((rC N a.2.1.zN a.2.1.zO a.2.1.ax.fN.fG a.2.1.ax.fN.fL a.2.1.ax.fD.fG a.2.1.ax.fD.fL a.2.1.b5 a.2.2.1 a.2.2.2.1 a.2.2.2.2.1 a.2.2.2.2.2.1 a.2.2.2.2.2.2).bind fun j =>
 ((jZ N a.2.1.zN a.2.1.zO a.2.1.ax.fN.fG a.2.1.ax.fN.fL a.2.1.ax.fD.fG a.2.1.ax.fD.fL a.2.1.b5 a.2.2.1 a.2.2.2.1 a.2.2.2.2.1 a.2.2.2.2.2.1 a.2.2.2.2.2.2).bind fun k =>
 some ((⟨a.2.1.ax,j,k⟩:uT),0)))))
 else none)
 else none)
 else none)
 else none)
 else none))
 else none))))
 else none)
 else none)
 else none))))))
def my (N:Nat) (x:de):Option ByteArray :=
 some x.cl
def eE (N:Nat) (l:List de):Nat->(List ByteArray)->Int->Option (List ByteArray)
 | 0,_,_=>none
 | fuel+1,out,x =>
  (cond (decide (x < (l.length:Int)))
  ((if 0<=x/\x < (l.length:Int) then
  ((my N (l.getD x.toNat de.d)).bind fun a =>
  (if (out.length+1) * 16<=140737488355328 then
  eE N l fuel (out ++ ([a]:List ByteArray)) (aR (x+1))
  else none))
  else none))
  (some out))
def qp (N:Nat) (l:List de):Option (List ByteArray) :=
 eE N l N ([]:List ByteArray) 0
def lh (N:Nat) (w:aq):Option (List ByteArray) :=
 ((qp N w.bu).bind fun a =>
 some a)
def iT (N:Nat) (s:ByteArray):Nat->Int->Option Bool
 | 0,_=>none
 | fuel+1,x =>
  (cond (decide (x < (s.size:Int)))
  ((if 0<=x/\x < (s.size:Int) then
  (cond (cond (!(cond (cond (decide ((zA s x)>=97)) (decide ((zA s x)<=122)) false) true (cond (decide ((zA s x)>=65)) (decide ((zA s x)<=90)) false))) (cond (x == 0) true (cond ((zA s x) != 45) (cond (decide ((zA s x) < 48)) true (decide ((zA s x) > 57))) false)) false)
  (some false)
  (iT N s fuel (aR (x+1))))
  else none))
  (some true))
def jn (N:Nat) (s:ByteArray):Option Bool :=
 (cond (cond (decide ((s.size:Int) < 1)) true (decide ((s.size:Int) > 12)))
 (some false)
 (iT N s N 0))
def cA (N:Nat) (s:List ByteArray) (v:ByteArray):Nat->Int->Option Int
 | 0,_=>none
 | fuel+1,x =>
  (cond (decide (x < (s.length:Int)))
  ((if 0<=x/\x < (s.length:Int) then
  (cond (dZ v (s.getD x.toNat ByteArray.empty))
  (some x)
  (cA N s v fuel (aR (x+1))))
  else none))
  (some (-1)))
def eC (N:Nat) (s:List ByteArray) (v:ByteArray):Option Int :=
 cA N s v N 0
def a6 (N:Nat) (s:List ByteArray) (v:ByteArray):Option Bool :=
 ((eC N s v).bind fun a =>
 some (decide (a>=0)))
def dm (N:Nat) (n a:Int):Option Bool :=
 some (cond (decide (n>=0)) (decide (n<=a)) false)
def m5 (N:Nat) (i:Int) (a:aq):Option Int :=
 (if 0<=i/\i < (a.bu.length:Int) then
 ((dm N ((a.bu.getD i.toNat de.d).jb) 1000).bind fun b =>
 (if ((!(!b))=true->0<=i/\i < (a.bu.length:Int)) then
 ((cond (!(!b)) (dm N ((a.bu.getD i.toNat de.d).Qj) 1000000) (some false)).bind fun c =>
 (cond (cond (!b) true (!c))
 (some 2)
 (some 0)))
 else none))
 else none)
def ji (N:Nat) (names:List ByteArray) (a:aq):Nat->Int->Option Int
 | 0,_=>none
 | fuel+1,x =>
  (cond (decide (x < (names.length:Int)))
  ((if 0<=x/\x < (names.length:Int) then
  ((jn N (names.getD x.toNat ByteArray.empty)).bind fun c =>
  (cond (!c)
  (some 4)
  ((if 0<=(x).toNat/\(x).toNat<=names.length then
  (if 0<=x then
  ((a6 N ((names.take x.toNat).drop 0) (names.getD x.toNat ByteArray.empty)).bind fun d =>
  (cond d
  (some 5)
  (((m5 N x a).bind fun b =>
  (cond (b != 0)
  (some b)
  (ji N names a fuel (aR (x+1))))))))
  else none)
  else none))))
  else none))
  (some 0))
def sW (N:Nat) (names:List ByteArray) (a:Int) (b:aq):Option Int :=
 (cond (decide ((names.length:Int) > a))
 (some 8)
 (ji N names b N 0))
def mz (N:Nat) (x:dj):Option ByteArray :=
 some x.cl
def eF (N:Nat) (l:List dj):Nat->(List ByteArray)->Int->Option (List ByteArray)
 | 0,_,_=>none
 | fuel+1,out,x =>
  (cond (decide (x < (l.length:Int)))
  ((if 0<=x/\x < (l.length:Int) then
  ((mz N (l.getD x.toNat dj.d)).bind fun a =>
  (if (out.length+1) * 16<=140737488355328 then
  eF N l fuel (out ++ ([a]:List ByteArray)) (aR (x+1))
  else none))
  else none))
  (some out))
def qq (N:Nat) (l:List dj):Option (List ByteArray) :=
 eF N l N ([]:List ByteArray) 0
def jw (N:Nat) (w:aq):Option (List ByteArray) :=
 ((qq N w.bm).bind fun a =>
 some a)
def lC (N:Nat) (s:ByteArray) (a:List ByteArray):Option Bool :=
 ((a6 N a s).bind fun b =>
 some (!b))
def bX (N:Nat) (s a:List ByteArray):Nat->Int->Option Int
 | 0,_=>none
 | fuel+1,x =>
  (cond (decide (x < (s.length:Int)))
  ((if 0<=x/\x < (s.length:Int) then
  ((lC N (s.getD x.toNat ByteArray.empty) a).bind fun b =>
  (cond b
  (some x)
  (bX N s a fuel (aR (x+1)))))
  else none))
  (some (-1)))
def iz (N:Nat) (s a:List ByteArray):Option Int :=
 bX N s a N 0
def jE (N:Nat) (s a:List ByteArray):Option Bool :=
 ((iz N s a).bind fun b =>
 some (decide (b>=0)))
def m7 (N:Nat) (i:Int) (a:aq) (b:List ByteArray):Option Int :=
 (if 0<=i/\i < (a.bm.length:Int) then
 ((jE N ((a.bm.getD i.toNat dj.d).jg) b).bind fun c =>
 (cond c
 (some 6)
 (some 0)))
 else none)
def gQ (N:Nat) (names:List ByteArray) (a:aq) (b:List ByteArray):Nat->Int->Option Int
 | 0,_=>none
 | fuel+1,x =>
  (cond (decide (x < (names.length:Int)))
  ((if 0<=x/\x < (names.length:Int) then
  ((jn N (names.getD x.toNat ByteArray.empty)).bind fun d =>
  (cond (!d)
  (some 4)
  ((if 0<=(x).toNat/\(x).toNat<=names.length then
  (if 0<=x then
  ((a6 N ((names.take x.toNat).drop 0) (names.getD x.toNat ByteArray.empty)).bind fun e =>
  (cond e
  (some 5)
  (((m7 N x a b).bind fun c =>
  (cond (c != 0)
  (some c)
  (gQ N names a b fuel (aR (x+1))))))))
  else none)
  else none))))
  else none))
  (some 0))
def pJ (N:Nat) (names:List ByteArray) (a:Int) (b:aq) (c:List ByteArray):Option Int :=
 (cond (decide ((names.length:Int) > a))
 (some 8)
 (gQ N names b c N 0))
def fH (N:Nat) (w:aq):Nat->Int->Option Int
 | 0,_=>none
 | fuel+1,a =>
  (cond (decide (a < (w.cO.length:Int)))
  ((if 0<=a/\a < (w.cO.length:Int) then
  ((dm N ((w.cO.getD a.toNat iy.d).Gl) 400).bind fun b =>
  ((cond (!(!b)) (dm N ((w.cO.getD a.toNat iy.d).X1) 400) (some false)).bind fun c =>
  (cond (cond (!b) true (!c))
  (some 2)
  ((cond (decide ((w.cO.getD a.toNat iy.d).X1<=(w.cO.getD a.toNat iy.d).Gl))
  (some 10)
  (fH N w fuel (aR (a+1))))))))
  else none))
  (some 0))
def fI (N:Nat) (w:aq):Nat->Int->Option Int
 | 0,_=>none
 | fuel+1,x =>
  (cond (decide (x < (w.bK.length:Int)))
  ((if 0<=x/\x < (w.bK.length:Int) then
  ((dm N ((w.bK.getD x.toNat dU.d).f_A) 5).bind fun a =>
  ((cond (!(!a)) (dm N ((w.bK.getD x.toNat dU.d).f_B) 5) (some false)).bind fun b =>
  ((cond (!(cond (!a) true (!b))) (dm N ((w.bK.getD x.toNat dU.d).Kw) 2) (some false)).bind fun c =>
  (cond (cond (cond (!a) true (!b)) true (!c))
  (some 2)
  (fI N w fuel (aR (x+1)))))))
  else none))
  ((cond (decide ((w.cO.length:Int) > 20))
  (some 8)
  (fH N w N 0))))
def pK (N:Nat) (w:aq):Option Int :=
 (cond (decide ((w.bK.length:Int) > 30))
 (some 8)
 (fI N w N 0))
def m8 (N:Nat) (x:bq):Option ByteArray :=
 some x.cl
def eY (N:Nat) (l:List bq):Nat->(List ByteArray)->Int->Option (List ByteArray)
 | 0,_,_=>none
 | fuel+1,out,x =>
  (cond (decide (x < (l.length:Int)))
  ((if 0<=x/\x < (l.length:Int) then
  ((m8 N (l.getD x.toNat bq.d)).bind fun a =>
  (if (out.length+1) * 16<=140737488355328 then
  eY N l fuel (out ++ ([a]:List ByteArray)) (aR (x+1))
  else none))
  else none))
  (some out))
def re (N:Nat) (l:List bq):Option (List ByteArray) :=
 eY N l N ([]:List ByteArray) 0
def l5 (N:Nat) (w:aq):Option (List ByteArray) :=
 ((re N w.ab).bind fun a =>
 some a)
def fT (N:Nat) (x:bq) (items:List ByteArray):Nat->Int->Option Int
 | 0,_=>none
 | fuel+1,a =>
  (cond (decide (a < (x.a9.length:Int)))
  ((if 0<=a/\a < (x.a9.length:Int) then
  ((a6 N items (x.a9.getD a.toNat ByteArray.empty)).bind fun b =>
  (cond (!b)
  (some 6)
  ((cond (dZ (x.a9.getD a.toNat ByteArray.empty) x.cl)
  (some 3)
  (fT N x items fuel (aR (a+1)))))))
  else none))
  (some 0))
def fU (N:Nat) (w:aq) (x:bq) (items:List ByteArray) (b:Int):Nat->Int->Option Int
 | 0,_=>none
 | fuel+1,a =>
  (cond (decide (a < (x.aP.length:Int)))
  ((if 0<=a/\a < (x.aP.length:Int) then
  ((cond (!(cond (decide ((x.aP.getD a.toNat eV.d).fg < 1)) true (decide ((x.aP.getD a.toNat eV.d).fg > 60)))) (dm N ((x.aP.getD a.toNat eV.d).jb) 1000) (some false)).bind fun c =>
  (cond (cond (cond (decide ((x.aP.getD a.toNat eV.d).fg < 1)) true (decide ((x.aP.getD a.toNat eV.d).fg > 60))) true (!c))
  (some 2)
  ((if 0<=b/\b < (w.bu.length:Int) then
  (cond (decide ((x.aP.getD a.toNat eV.d).jb > (w.bu.getD b.toNat de.d).jb))
  (some 23)
  (fU N w x items b fuel (aR (a+1))))
  else none))))
  else none))
  (((cond (!(dZ x.gn ByteArray.empty)) (jw N w) (some [])).bind fun d =>
  ((cond (!(dZ x.gn ByteArray.empty)) (a6 N d x.gn) (some false)).bind fun e =>
  (cond (cond (!(dZ x.gn ByteArray.empty)) (!e) false)
  (some 6)
  ((cond (cond (decide (x.pQ < (-1))) true (decide (x.pQ > 5)))
  (some 2)
  ((cond (cond (x.pQ != (-1)) (dZ x.gn ByteArray.empty) false)
  (some 3)
  (fT N x items N 0))))))))))
def qt (N:Nat) (w:aq) (x:bq) (items:List ByteArray):Option Int :=
 ((lh N w).bind fun b =>
 ((eC N b x.eO).bind fun a =>
 (cond (decide (a < 0))
 (some 6)
 ((cond (cond (decide ((x.aP.length:Int) < 1)) true (decide ((x.aP.length:Int) > 3)))
 (some 2)
 (fU N w x items a N 0))))))
def na (N:Nat) (i:Int) (a:aq) (b:List ByteArray):Option Int :=
 (if 0<=i/\i < (a.ab.length:Int) then
 ((qt N a (a.ab.getD i.toNat bq.d) b).bind fun c =>
 some c)
 else none)
def gR (N:Nat) (names:List ByteArray) (a:aq) (b:List ByteArray):Nat->Int->Option Int
 | 0,_=>none
 | fuel+1,x =>
  (cond (decide (x < (names.length:Int)))
  ((if 0<=x/\x < (names.length:Int) then
  ((jn N (names.getD x.toNat ByteArray.empty)).bind fun d =>
  (cond (!d)
  (some 4)
  ((if 0<=(x).toNat/\(x).toNat<=names.length then
  (if 0<=x then
  ((a6 N ((names.take x.toNat).drop 0) (names.getD x.toNat ByteArray.empty)).bind fun e =>
  (cond e
  (some 5)
  (((na N x a b).bind fun c =>
  (cond (c != 0)
  (some c)
  (gR N names a b fuel (aR (x+1))))))))
  else none)
  else none))))
  else none))
  (some 0))
def pL (N:Nat) (names:List ByteArray) (a:Int) (b:aq) (c:List ByteArray):Option Int :=
 (cond (decide ((names.length:Int) > a))
 (some 8)
 (gR N names b c N 0))
def gF (N:Nat) (w:aq)(c:(List ByteArray)) (x:Int) (d:(List (List Int))->Int->Option ((List (List Int)))):Nat->(List (List Int))->Int->Option ((List (List Int)))
 | 0,_,_=>none
 | fuel+1,a,b =>
  (cond (decide (b < ((((w.ab.getD x.toNat bq.d).a9).length:Nat):Int)))
  ((if 0<=b/\b < ((((w.ab.getD x.toNat bq.d).a9).length:Nat):Int) then
  (if x.toNat < a.length then
  (if 0<=x/\x < (a.length:Int) then
  ((eC N c (((w.ab.getD x.toNat bq.d).a9).getD b.toNat ByteArray.empty)).bind fun e =>
  (if ((a.getD x.toNat []).length+1) * 8<=140737488355328 then
  gF N w c x d fuel (a.set x.toNat ((a.getD x.toNat []) ++ ([e]:List Int))) (aR (b+1))
  else none))
  else none)
  else none)
  else none))
  (d a (aR (x+1))))
def fJ (N:Nat) (w:aq)(a:(List ByteArray)):Nat->(List (List Int))->Int->Option ((List (List Int)))
 | 0,_,_=>none
 | fuel+1,out,x =>
  (cond (decide (x < (w.ab.length:Int)))
  ((if 0<=x/\x < (w.ab.length:Int) then
  gF N w a x (fJ N w a fuel) N out 0
  else none))
  (some out))
def kE (N:Nat) (w:aq):Option ((List (List Int))) :=
 ((l5 N w).bind fun a =>
 (if 0<=(a.length:Int)/\(24:Int) * (a.length:Int)<=281474976710656/\(a.length:Int)<=9223372036854775807 then
 fJ N w a N (List.replicate a.length []:List (List Int)) 0
 else none))
def cM (N:Nat) (s:List Int) (v:Int):Option Bool :=
 ((bp N s v).bind fun a =>
 some (decide (a>=0)))
def k6 (N:Nat) (k:Int) (a:List Int):Option Bool :=
 ((cM N a k).bind fun b =>
 some (!b))
def cr (N:Nat) (s a:List Int):Nat->Int->Option Int
 | 0,_=>none
 | fuel+1,x =>
  (cond (decide (x < (s.length:Int)))
  ((if 0<=x/\x < (s.length:Int) then
  ((k6 N (s.getD x.toNat 0) a).bind fun b =>
  (cond b
  (some x)
  (cr N s a fuel (aR (x+1)))))
  else none))
  (some (-1)))
def l6 (N:Nat) (s a:List Int):Option Int :=
 cr N s a N 0
def kF (N:Nat) (s a:List Int):Option Bool :=
 ((l6 N s a).bind fun b =>
 some (decide (b>=0)))
def j5 (N:Nat) (l a:List Int):Option Bool :=
 ((kF N l a).bind fun b =>
 some (!b))
def ct (N:Nat)(s:List (List Int)) (a:List Int):Nat->Int->Option Int
 | 0,_=>none
 | fuel+1,x =>
  (cond (decide (x < (s.length:Int)))
  ((if 0<=x/\x < (s.length:Int) then
  ((j5 N (s.getD x.toNat []) a).bind fun b =>
  (cond b
  (some x)
  (ct N s a fuel (aR (x+1)))))
  else none))
  (some (-1)))
def jo (N:Nat)(s:List (List Int)) (a:List Int):Option Int :=
 ct N s a N 0
def k7 (N:Nat) (k:Int) (a:List Int):Option Bool :=
 ((cM N a k).bind fun b =>
 some (!b))
def cu (N:Nat) (s a:List Int):Nat->Int->Option Int
 | 0,_=>none
 | fuel+1,x =>
  (cond (decide (x < (s.length:Int)))
  ((if 0<=x/\x < (s.length:Int) then
  ((k7 N (s.getD x.toNat 0) a).bind fun b =>
  (cond b
  (some x)
  (cu N s a fuel (aR (x+1)))))
  else none))
  (some (-1)))
def l7 (N:Nat) (s a:List Int):Option Int :=
 cu N s a N 0
def kG (N:Nat) (s a:List Int):Option Bool :=
 ((l7 N s a).bind fun b =>
 some (decide (b>=0)))
def j6 (N:Nat) (l a:List Int):Option Bool :=
 ((kG N l a).bind fun b =>
 some (!b))
def cw (N:Nat)(s:List (List Int)) (a:List Int):Nat->Int->Option Int
 | 0,_=>none
 | fuel+1,x =>
  (cond (decide (x < (s.length:Int)))
  ((if 0<=x/\x < (s.length:Int) then
  ((j6 N (s.getD x.toNat []) a).bind fun b =>
  (cond b
  (some x)
  (cw N s a fuel (aR (x+1)))))
  else none))
  (some (-1)))
def jq (N:Nat)(s:List (List Int)) (a:List Int):Option Int :=
 cw N s a N 0
def ej (N:Nat)(b:(List (List Int))) (out:List Int) (c:(List Int)->Option (List Int)):Nat->Int->Option (List Int)
 | 0,_=>none
 | fuel+1,a =>
  ((cond (decide (a>=0)) (cM N out a) (some false)).bind fun e =>
  (cond (cond (decide (a>=0)) e false)
  ((if (aR (a+1)).toNat<=b.length/\b.length<=b.length then
  (if 0<=(aR (a+1)) then
  ((jq N ((b.take b.length).drop ((aR (a+1)).toNat)) out).bind fun d =>
  (cond (decide (d < 0))
  (ej N b out c fuel (-1))
  (ej N b out c fuel (aR (a+(aR (1+d)))))))
  else none)
  else none))
  ((cond (decide (a < 0))
  (some out)
  ((if (out.length+1) * 8<=140737488355328 then
  c (out ++ ([a]:List Int))
  else none))))))
def cX (N:Nat)(a:(List (List Int))):Nat->(List Int)->Option (List Int)
 | 0,_=>none
 | fuel+1,out =>
  (cond (decide ((out.length:Int) < (a.length:Int)))
  (((jo N a out).bind fun b =>
  ej N a out (cX N a fuel) N b))
  (some out))
def lq (N:Nat) (w:aq):Option (List Int) :=
 ((kE N w).bind fun a =>
 cX N a N ([]:List Int))
def l8 (N:Nat) (w:aq):Option Int :=
 ((lh N w).bind fun j =>
 ((sW N j 6 w).bind fun c =>
 (cond (c != 0)
 (some c)
 (((jw N w).bind fun d =>
 ((pJ N d 12 w d).bind fun e =>
 (cond (e != 0)
 (some e)
 (((pK N w).bind fun f =>
 (cond (f != 0)
 (some f)
 (((l5 N w).bind fun g =>
 ((pL N g 40 w g).bind fun h =>
 (cond (h != 0)
 (some h)
 (((dm N w.L4 1000000000).bind fun a =>
 ((cond (!(!a)) (dm N w.L5 1000000000) (some false)).bind fun b =>
 ((cond (!(cond (!a) true (!b))) (dm N w.Ua 400) (some false)).bind fun i =>
 ((cond (!(cond (cond (!a) true (!b)) true (!i))) (dm N w.L6 400) (some false)).bind fun k =>
 (cond (cond (cond (cond (!a) true (!b)) true (!i)) true (!k))
 (some 2)
 (((lq N w).bind fun l =>
 (cond (decide ((l.length:Int) < (w.ab.length:Int)))
 (some 22)
 (some 0))))))))))))))))))))))))
def ik (N:Nat) (x:bq):Nat->Int->Int->Int->Option (Int×Int)
 | 0,_,_,_=>none
 | fuel+1,days,work,a =>
  (cond (decide (a < (x.aP.length:Int)))
  ((if 0<=a/\a < (x.aP.length:Int) then
  ik N x fuel (if (x.aP.getD a.toNat eV.d).fg < days then (x.aP.getD a.toNat eV.d).fg else days) (if (aR ((x.aP.getD a.toNat eV.d).fg * (x.aP.getD a.toNat eV.d).jb)) < work then (aR ((x.aP.getD a.toNat eV.d).fg * (x.aP.getD a.toNat eV.d).jb)) else work) (aR (a+1))
  else none))
  (some (days,work)))
def ia (N:Nat) (x:bq):Option (Int×Int) :=
 (if 0<=(0:Int)/\0 < (x.aP.length:Int) then
 ik N x N ((x.aP.getD 0 eV.d).fg) (aR ((x.aP.getD 0 eV.d).fg * (x.aP.getD 0 eV.d).jb)) 0
 else none)
def fK (N:Nat) (w:aq)(d:(List (List Int))) (a:(List Int)) (last:Int) (x:Int) (e:(List Int)->Int->Int->Option ((List Int)×Int)):Nat->(List Int)->Int->Option ((List Int)×Int)
 | 0,_,_=>none
 | fuel+1,b,c =>
  (cond (decide (c < (((d.getD ((a.getD x.toNat 0).toNat) []).length:Nat):Int)))
  ((if 0<=c/\c < (((d.getD ((a.getD x.toNat 0).toNat) []).length:Nat):Int) then
  (if 0<=((d.getD ((a.getD x.toNat 0).toNat) []).getD c.toNat 0)/\((d.getD ((a.getD x.toNat 0).toNat) []).getD c.toNat 0) < (w.ab.length:Int) then
  ((ia N (w.ab.getD (((d.getD ((a.getD x.toNat 0).toNat) []).getD c.toNat 0).toNat) bq.d)).bind fun f =>
  (if 0<=(a.getD x.toNat 0)/\(a.getD x.toNat 0) < (b.length:Int) then
  (if 0<=((d.getD ((a.getD x.toNat 0).toNat) []).getD c.toNat 0)/\((d.getD ((a.getD x.toNat 0).toNat) []).getD c.toNat 0) < (b.length:Int) then
  fK N w d a last x e fuel (b.set ((a.getD x.toNat 0).toNat) (if (aR ((b.getD (((d.getD ((a.getD x.toNat 0).toNat) []).getD c.toNat 0).toNat) 0)+f.1)) > (b.getD ((a.getD x.toNat 0).toNat) 0) then (aR ((b.getD (((d.getD ((a.getD x.toNat 0).toNat) []).getD c.toNat 0).toNat) 0)+f.1)) else (b.getD ((a.getD x.toNat 0).toNat) 0))) (aR (c+1))
  else none)
  else none))
  else none)
  else none))
  ((if 0<=(a.getD x.toNat 0)/\(a.getD x.toNat 0) < (w.ab.length:Int) then
  ((ia N (w.ab.getD ((a.getD x.toNat 0).toNat) bq.d)).bind fun g =>
  (if 0<=(a.getD x.toNat 0)/\(a.getD x.toNat 0) < (b.length:Int) then
  e b (if (aR ((b.getD ((a.getD x.toNat 0).toNat) 0)+g.1)) > last then (aR ((b.getD ((a.getD x.toNat 0).toNat) 0)+g.1)) else last) (aR (x+1))
  else none))
  else none)))
def eP (N:Nat) (w:aq)(b:(List (List Int))) (a:(List Int)):Nat->(List Int)->Int->Int->Option ((List Int)×Int)
 | 0,_,_,_=>none
 | fuel+1,out,last,x =>
  (cond (decide (x < (a.length:Int)))
  ((if 0<=x/\x < (a.length:Int) then
  (if 0<=(a.getD x.toNat 0)/\(a.getD x.toNat 0) < (b.length:Int) then
  fK N w b a last x (eP N w b a fuel) N out 0
  else none)
  else none))
  (some (out,last)))
def pM (N:Nat) (w:aq):Option ((List Int)×Int) :=
 ((kE N w).bind fun a =>
 (if 0<=(a.length:Int)/\(8:Int) * (a.length:Int)<=281474976710656/\(a.length:Int)<=9223372036854775807 then
 ((lq N w).bind fun b =>
 eP N w a b N (List.replicate a.length 0:List Int) 0 0)
 else none))
def pN (N:Nat) (w:aq):Option ((List Int)×Int×Int) :=
 ((l8 N w).bind fun a =>
 (cond (a != 0)
 (some (([]:List Int),0,a))
 (((pM N w).bind fun b =>
 some (b.1,b.2,0)))))
def dK (N:Nat):Nat->(List Int)->Int->Int->Option (List Int)
 | 0,_,_,_=>none
 | fuel+1,a,i,j =>
  (cond (decide (i < j))
  ((if 0<=j/\j < (a.length:Int) then
  (if 0<=i/\i < (a.length:Int) then
  dK N fuel ((a.set i.toNat (a.getD j.toNat 0)).set j.toNat (a.getD i.toNat 0)) (aR (i+1)) (aR (j - 1))
  else none)
  else none))
  (some a))
def lD (N:Nat) (a:List Int):Option (List Int) :=
 dK N N a 0 (aR ((a.length:Int) - 1))
def iH (N:Nat) (w:aq)(e:(List (List Int))) (f:(List Int)) (a:List Int) (x:Int) (b:Int) (c:Int->Int->Option (List Int)) (g:(List Int)->Int->Option (List Int)) (d:Int):Option (List Int) :=
 c d (aR (b+1))
def dB (N:Nat) (w:aq)(d:(List (List Int))) (b:(List Int)) (a:List Int) (x:Int) (e:(List Int)->Int->Option (List Int)):Nat->Int->Int->Option (List Int)
 | 0,_,_=>none
 | fuel+1,f,c =>
  (cond (decide (c < (d.length:Int)))
  ((if 0<=c/\c < (d.length:Int) then
  ((cM N (d.getD c.toNat []) (b.getD x.toNat 0)).bind fun g =>
  (cond g
  ((if 0<=c/\c < (a.length:Int) then
  iH N w d b a x c (dB N w d b a x e fuel) e (if (a.getD c.toNat 0) > f then (a.getD c.toNat 0) else f)
  else none))
  (iH N w d b a x c (dB N w d b a x e fuel) e f)))
  else none))
  ((if 0<=(b.getD x.toNat 0)/\(b.getD x.toNat 0) < (w.ab.length:Int) then
  ((ia N (w.ab.getD ((b.getD x.toNat 0).toNat) bq.d)).bind fun h =>
  (if 0<=(b.getD x.toNat 0)/\(b.getD x.toNat 0) < (a.length:Int) then
  e (a.set ((b.getD x.toNat 0).toNat) (aR (h.1+f))) (aR (x+1))
  else none))
  else none)))
def ee (N:Nat) (w:aq)(c:(List (List Int))) (b:(List Int)):Nat->(List Int)->Int->Option (List Int)
 | 0,_,_=>none
 | fuel+1,a,x =>
  (cond (decide (x < (b.length:Int)))
  ((if 0<=x/\x < (b.length:Int) then
  dB N w c b a x (ee N w c b fuel) N 0 0
  else none))
  (some a))
def o7 (N:Nat) (w:aq):Option (List Int) :=
 ((kE N w).bind fun a =>
 (if 0<=(a.length:Int)/\(8:Int) * (a.length:Int)<=281474976710656/\(a.length:Int)<=9223372036854775807 then
 ((lq N w).bind fun b =>
 ((lD N b).bind fun c =>
 (if c.length=b.length then
 ee N w a c N (List.replicate a.length 0:List Int) 0
 else none)))
 else none))
def sa (N:Nat) (n a:Int):Option Bool :=
 some (n == a)
def cx (N:Nat) (s:List Int) (a:Int):Nat->Int->Option Int
 | 0,_=>none
 | fuel+1,x =>
  (cond (decide (x < (s.length:Int)))
  ((if 0<=x/\x < (s.length:Int) then
  ((sa N (s.getD x.toNat 0) a).bind fun b =>
  (cond b
  (some x)
  (cx N s a fuel (aR (x+1)))))
  else none))
  (some (-1)))
def jr (N:Nat) (s:List Int) (a:Int):Option Int :=
 cx N s a N 0
def cY (N:Nat) (w:aq)(b:(List Int)) (e:(List (List Int))) (bound:Int) (x:Int) (f:List ByteArray) (c:Int) (left:Int) (d:Int×Int) (g:(List ByteArray)->Int->Int->Option dH):Nat->Int->Option dH
 | 0,_=>none
 | fuel+1,a =>
  (if ((decide (a>=0))=true->0<=a/\a < (e.length:Int)) then
  ((cond (decide (a>=0)) (cM N (e.getD a.toNat []) c) (some false)).bind fun i =>
  (cond (cond (decide (a>=0)) (!i) false)
  ((if (aR (a+1)).toNat<=b.length/\b.length<=b.length then
  (if 0<=(aR (a+1)) then
  ((bp N ((b.take b.length).drop ((aR (a+1)).toNat)) (aR (left - d.1))).bind fun h =>
  (cond (decide (h < 0))
  (g (f ++ ([(w.ab.getD c.toNat bq.d).cl]:List ByteArray)) a (aR (left - d.1)))
  (cY N w b e bound x f c left d g fuel (aR (a+(aR (1+h)))))))
  else none)
  else none))
  (g (f ++ ([(w.ab.getD c.toNat bq.d).cl]:List ByteArray)) a (aR (left - d.1)))))
  else none)
def cZ (N:Nat) (w:aq)(b:(List Int)) (d:(List (List Int))) (bound:Int) (x:Int):Nat->(List ByteArray)->Int->Int->Option dH
 | 0,_,_,_=>none
 | fuel+1,c,a,left =>
  (cond (decide (left > 0))
  ((if 0<=a/\a < (w.ab.length:Int) then
  (if (c.length+1) * 16<=140737488355328 then
  ((ia N (w.ab.getD a.toNat bq.d)).bind fun e =>
  ((jr N b (aR (left - e.1))).bind fun f =>
  cY N w b d bound x c a left e (cZ N w b d bound x fuel) N f))
  else none)
  else none))
  (some (⟨bound,c,ByteArray.empty⟩:dH)))
def fV (N:Nat) (w:aq)(a:(List Int)) (b:(List (List Int))):Nat->Int->Int->Option dH
 | 0,_,_=>none
 | fuel+1,bound,x =>
  (cond (decide (x < (a.length:Int)))
  ((if 0<=x/\x < (a.length:Int) then
  fV N w a b fuel (if (a.getD x.toNat 0) > bound then (a.getD x.toNat 0) else bound) (aR (x+1))
  else none))
  (((bp N a bound).bind fun c =>
  cZ N w a b bound x N ([]:List ByteArray) c bound)))
def uz (N:Nat) (w:aq):Option dH :=
 ((o7 N w).bind fun a =>
 ((kE N w).bind fun b =>
 fV N w a b N 0 0))
def ic (N:Nat) (w:aq) (t:de) (x:Int) (b:Int->Int->Option Int) (a:Int):Option Int :=
 b a (aR (x+1))
def cz (N:Nat) (w:aq) (t:de):Nat->Int->Int->Option Int
 | 0,_,_=>none
 | fuel+1,a,x =>
  (cond (decide (x < (w.ab.length:Int)))
  ((if 0<=x/\x < (w.ab.length:Int) then
  (cond (dZ ((w.ab.getD x.toNat bq.d).eO) t.cl)
  (((ia N (w.ab.getD x.toNat bq.d)).bind fun b =>
  ic N w t x (cz N w t fuel) (aR (a+b.2))))
  (ic N w t x (cz N w t fuel) a))
  else none))
  ((cond (a == 0)
  (some 0)
  ((if (t.jb:Int)≠0 then
  some (aR ((aR ((aR (a+t.jb)) - 1)).tdiv t.jb))
  else none)))))
def lj (N:Nat) (w:aq) (t:de):Option Int :=
 cz N w t N 0 0
def iJ (N:Nat) (w:aq) (x:Int)(a:dH->Int->Option (dH×Int)) (b:dH):Option (dH×Int) :=
 a b (aR (x+1))
def dC (N:Nat) (w:aq):Nat->dH->Int->Option (dH×Int)
 | 0,_,_=>none
 | fuel+1,a,x =>
  (cond (decide (x < (w.bu.length:Int)))
  ((if 0<=x/\x < (w.bu.length:Int) then
  ((lj N w (w.bu.getD x.toNat de.d)).bind fun b =>
  (cond (decide (b > a.fg))
  (iJ N w x (dC N w fuel) (⟨b,([]:List ByteArray),(w.bu.getD x.toNat de.d).cl⟩:dH))
  (iJ N w x (dC N w fuel) a)))
  else none))
  (some (a,0)))
def o8 (N:Nat) (w:aq):Option (dH×Int) :=
 ((l8 N w).bind fun a =>
 (cond (a != 0)
 (some ((⟨0,([]:List ByteArray),ByteArray.empty⟩:dH),a))
 (((uz N w).bind fun b =>
 dC N w N b 0))))
def kP (N:Nat) (l:List a8) (y:List aa) (bound:aa) (a:Int)(d:(List aa)->aa->Int->Option ((List aa)×aa×Bool)):Nat->(List aa)->Int->Option ((List aa)×aa×Bool)
 | 0,_,_=>none
 | fuel+1,c,b =>
  (cond (decide (b < ((((l.getD a.toNat a8.d).db).length:Nat):Int)))
  ((if 0<=b/\b < ((((l.getD a.toNat a8.d).db).length:Nat):Int) then
  (if 0<=b/\b < (c.length:Int) then
  (if 0<=a/\a < (y.length:Int) then
  ((fO N (⟨((y.getD a.toNat aa.d).fN),((y.getD a.toNat aa.d).fD)⟩:aa) (⟨((((l.getD a.toNat a8.d).db).getD b.toNat aa.d).fN),((((l.getD a.toNat a8.d).db).getD b.toNat aa.d).fD)⟩:aa)).bind fun e =>
  ((fq N (⟨((c.getD b.toNat aa.d).fN),((c.getD b.toNat aa.d).fD)⟩:aa) e).bind fun f =>
  kP N l y bound a d fuel (c.set b.toNat f) (aR (b+1))))
  else none)
  else none)
  else none))
  ((if 0<=a/\a < (y.length:Int) then
  ((fO N (⟨((y.getD a.toNat aa.d).fN),((y.getD a.toNat aa.d).fD)⟩:aa) (⟨(((l.getD a.toNat a8.d).jl).fN),(((l.getD a.toNat a8.d).jl).fD)⟩:aa)).bind fun g =>
  ((fq N bound g).bind fun h =>
  d c h (aR (a+1))))
  else none)))
def g8 (N:Nat) (l:List a8) (y:List aa):Nat->(List aa)->aa->Int->Option ((List aa)×aa×Bool)
 | 0,_,_,_=>none
 | fuel+1,b,bound,a =>
  (cond (decide (a < (l.length:Int)))
  ((if 0<=a/\a < (l.length:Int) then
  (if 0<=a/\a < (y.length:Int) then
  ((qk N (⟨((y.getD a.toNat aa.d).fN),((y.getD a.toNat aa.d).fD)⟩:aa)).bind fun c =>
  (cond (decide (c < 0))
  (some (([]:List aa),bound,false))
  (kP N l y bound a (g8 N l y fuel) N b 0)))
  else none)
  else none))
  (some (b,bound,true)))
def kQ (N:Nat) (n:Int) (l:List a8) (y:List aa):Nat->(List aa)->Int->Option ((List aa)×aa×Bool)
 | 0,_,_=>none
 | fuel+1,a,x =>
  (cond (decide (x < (((List.replicate n.toNat aa.d:List aa).length:Nat):Int)))
  (((gf N 0).bind fun b =>
  (if 0<=x/\x < (a.length:Int) then
  kQ N n l y fuel (a.set x.toNat b) (aR (x+1))
  else none)))
  (((gf N 0).bind fun c =>
  g8 N l y N a c 0)))
def zc (N:Nat) (n:Int) (l:List a8) (y:List aa):Option ((List aa)×aa×Bool) :=
 (if 0<=n/\(64:Int) * n<=281474976710656/\n<=9223372036854775807 then
 kQ N n l y N (List.replicate n.toNat aa.d:List aa) 0
 else none)
def sb (N:Nat) (c x:List aa):Nat->aa->Int->Option aa
 | 0,_,_=>none
 | fuel+1,b,a =>
  (cond (decide (a < (c.length:Int)))
  ((if 0<=a/\a < (c.length:Int) then
  (if 0<=a/\a < (x.length:Int) then
  ((fO N (⟨((c.getD a.toNat aa.d).fN),((c.getD a.toNat aa.d).fD)⟩:aa) (⟨((x.getD a.toNat aa.d).fN),((x.getD a.toNat aa.d).fD)⟩:aa)).bind fun d =>
  ((fq N b d).bind fun e =>
  sb N c x fuel e (aR (a+1))))
  else none)
  else none))
  (some b))
def KA (N:Nat) (c x:List aa):Option aa :=
 ((gf N 0).bind fun a =>
 sb N c x N a 0)
def uq (N:Nat) (a:a8) (b:List aa):Option Bool :=
 ((KA N a.db b).bind fun Gr =>
 ((mH N Gr a.jl).bind fun c =>
 some (decide (c > 0))))
def cD (N:Nat) (s:List a8) (a:List aa):Nat->Int->Option Int
 | 0,_=>none
 | fuel+1,x =>
  (cond (decide (x < (s.length:Int)))
  ((if 0<=x/\x < (s.length:Int) then
  ((uq N (s.getD x.toNat a8.d) a).bind fun b =>
  (cond b
  (some x)
  (cD N s a fuel (aR (x+1)))))
  else none))
  (some (-1)))
def oy (N:Nat) (s:List a8) (a:List aa):Option Int :=
 cD N s a N 0
def mI (N:Nat) (s:List a8) (a:List aa):Option Bool :=
 ((oy N s a).bind fun b =>
 some (decide (b>=0)))
def xq (N:Nat) (l:List a8) (a:List aa):Option Bool :=
 ((mI N l a).bind fun b =>
 some (!b))
def j7 (N:Nat) (b:List aa)(a:(List aa)×aa×Bool):Nat->Int->Option Int
 | 0,_=>none
 | fuel+1,x =>
  (cond (decide (x < ((a.1.length:Nat):Int)))
  ((if 0<=x/\x < ((a.1.length:Nat):Int) then
  (if 0<=x/\x < (b.length:Int) then
  ((mH N (⟨((a.1.getD x.toNat aa.d).fN),((a.1.getD x.toNat aa.d).fD)⟩:aa) (⟨((b.getD x.toNat aa.d).fN),((b.getD x.toNat aa.d).fD)⟩:aa)).bind fun c =>
  (cond (c != 0)
  (some 24)
  (j7 N b a fuel (aR (x+1)))))
  else none)
  else none))
  (some 0))
def tG (N:Nat) (c:List aa) (l:List a8) (b:uT):Option Int :=
 ((ph N (c.length:Int) l).bind fun e =>
 (cond (e != 0)
 (some e)
 ((cond (cond ((b.oI.length:Int) != (c.length:Int)) true ((b.eW.length:Int) != (l.length:Int)))
 (some 11)
 (((zc N (c.length:Int) l b.eW).bind fun a =>
 ((cond (!(!a.2.2)) (xq N l b.oI) (some false)).bind fun d =>
 ((cond (!(cond (!a.2.2) true (!d))) (KA N c b.oI) (some aa.d)).bind fun Gr =>
 ((cond (!(cond (!a.2.2) true (!d))) (mH N Gr b.rz) (some 0)).bind fun f =>
 ((cond (!(cond (cond (!a.2.2) true (!d)) true (f != 0))) (mH N a.2.1 b.rz) (some 0)).bind fun g =>
 (cond (cond (cond (cond (!a.2.2) true (!d)) true (f != 0)) true (g != 0))
 (some 24)
 (j7 N c a N 0))))))))))))
def ny (N:Nat) (a:List Int):Nat->Int->Option (List Int)
 | 0,_=>none
 | fuel+1,n =>
  (if ((decide (n > 0))=true->0<=(aR (n - 1))/\(aR (n - 1)) < (a.length:Int)) then
  (cond (cond (decide (n > 0)) ((a.getD ((aR (n - 1)).toNat) 0) == 0) false)
  (ny N a fuel (aR (n - 1)))
  ((if 0<=(n).toNat/\(n).toNat<=a.length then
  (if 0<=n then
  (if (0+(n.toNat - 0)) * 8<=140737488355328 then
  some (([]:List Int) ++ ((a.take n.toNat).drop 0))
  else none)
  else none)
  else none)))
  else none)
def qu (N:Nat) (a:List Int):Option (List Int) :=
 ny N a N (a.length:Int)
def nz (N:Nat) (l:List Int):Nat->(List Int)->Int->Option (List Int)
 | 0,_,_=>none
 | fuel+1,a,i =>
  (cond (decide (i < (l.length:Int)))
  ((if 0<=i/\i < (l.length:Int) then
  (if (a.length+1) * 8<=140737488355328 then
  nz N l fuel (a ++ ([(aR ((l.getD i.toNat 0)))]:List Int)) (aR (i+1))
  else none)
  else none))
  (((qu N a).bind fun b =>
  some b)))
def lu (N:Nat) (l:List Int):Option (List Int) :=
 nz N l N ([]:List Int) 0
def nA (N:Nat) (neg:Bool) (a:List Int):Nat->(List Int)->Int->Option eN
 | 0,_,_=>none
 | fuel+1,x,i =>
  (cond (decide (i < (a.length:Int)))
  ((if 0<=i/\i < (a.length:Int) then
  (if (x.length+1) * 2<=140737488355328 then
  nA N neg a fuel (x ++ ([(IntKind.u16.wrap ((a.getD i.toNat 0)))]:List Int)) (aR (i+1))
  else none)
  else none))
  (some (⟨(cond neg (decide ((a.length:Int) > 0)) false),x⟩:eN)))
def jj (N:Nat) (neg:Bool) (a:List Int):Option eN :=
 nA N neg a N ([]:List Int) 0
def pa (N:Nat) (n:Int):Nat->(List Int)->Int->Option eN
 | 0,_,_=>none
 | fuel+1,a,u =>
  (cond (decide (u > 0))
  ((if (a.length+1) * 8<=140737488355328 then
  pa N n fuel (a ++ ([(aR ((u.tmod 65536)))]:List Int)) (IntKind.u64.wrap (u.tdiv 65536))
  else none))
  (((jj N (decide (n < 0)) a).bind fun b =>
  some b)))
def CW (N:Nat) (n:Int):Option eN :=
 (cond (decide (n < 0))
 (pa N n N ([]:List Int) (IntKind.u64.wrap (0 - (IntKind.u64.wrap n))))
 (pa N n N ([]:List Int) (IntKind.u64.wrap n)))
def qd (N:Nat) (a:List Int) (i:Int):Option Int :=
 (cond (decide (i < (a.length:Int)))
 ((if 0<=i/\i < (a.length:Int) then
 some (a.getD i.toNat 0)
 else none))
 (some 0))
def l9 (N:Nat) (a b:List Int) (i:Int)(e:(List Int)->Int->Option (List Int)):Nat->(List Int)->Int->Int->Option (List Int)
 | 0,_,_,_=>none
 | fuel+1,d,c,k =>
  (cond (cond (decide (k < (b.length:Int))) true (decide (c > 0)))
  ((if 0<=(aR (i+k))/\(aR (i+k)) < (d.length:Int) then
  (if 0<=i/\i < (a.length:Int) then
  ((qd N b k).bind fun f =>
  l9 N a b i e fuel (d.set ((aR (i+k)).toNat) ((aR ((aR ((d.getD ((aR (i+k)).toNat) 0)+(aR ((a.getD i.toNat 0) * f))))+c)).tmod 65536)) (aR ((aR ((aR ((d.getD ((aR (i+k)).toNat) 0)+(aR ((a.getD i.toNat 0) * f))))+c)).tdiv 65536)) (aR (k+1)))
  else none)
  else none))
  (e d (aR (i+1))))
def ma (N:Nat) (a b:List Int):Nat->(List Int)->Int->Option (List Int)
 | 0,_,_=>none
 | fuel+1,out,i =>
  (cond (decide (i < (a.length:Int)))
  (l9 N a b i (ma N a b fuel) N out 0 0)
  (((qu N out).bind fun c =>
  some c)))
def pe (N:Nat) (a b:List Int):Option (List Int) :=
 (if 0<=(aR ((aR ((a.length:Int)+(b.length:Int)))+1))/\(8:Int) * (aR ((aR ((a.length:Int)+(b.length:Int)))+1))<=281474976710656/\(aR ((aR ((a.length:Int)+(b.length:Int)))+1))<=9223372036854775807 then
 ma N a b N (List.replicate ((aR ((aR ((a.length:Int)+(b.length:Int)))+1)).toNat) 0:List Int) 0
 else none)
def j8 (N:Nat) (a b:List Int):Nat->Int->Option Int
 | 0,_=>none
 | fuel+1,i =>
  (cond (decide (i>=0))
  ((if 0<=i/\i < (a.length:Int) then
  (if 0<=i/\i < (b.length:Int) then
  (cond ((a.getD i.toNat 0) != (b.getD i.toNat 0))
  (some (aR ((a.getD i.toNat 0) - (b.getD i.toNat 0))))
  (j8 N a b fuel (aR (i - 1))))
  else none)
  else none))
  (some 0))
def qV (N:Nat) (a b:List Int):Option Int :=
 (cond ((a.length:Int) != (b.length:Int))
 (some (aR ((a.length:Int) - (b.length:Int))))
 (j8 N a b N (aR ((a.length:Int) - 1))))
def pT (N:Nat) (a b out:List Int) (i:Int)(c:(List Int)->Int->Int->Option (List Int)) (d:Int) (s:Int):Option (List Int) :=
 (if (out.length+1) * 8<=140737488355328 then
 c (out ++ ([s]:List Int)) d (aR (i+1))
 else none)
def jH (N:Nat) (a b:List Int):Nat->(List Int)->Int->Int->Option (List Int)
 | 0,_,_,_=>none
 | fuel+1,out,c,i =>
  (cond (decide (i < (a.length:Int)))
  ((if 0<=i/\i < (a.length:Int) then
  ((qd N b i).bind fun d =>
  (cond (decide ((aR ((aR ((a.getD i.toNat 0) - d)) - c)) < 0))
  (pT N a b out i (jH N a b fuel) 1 (aR ((aR ((aR ((a.getD i.toNat 0) - d)) - c))+65536)))
  (pT N a b out i (jH N a b fuel) 0 (aR ((aR ((a.getD i.toNat 0) - d)) - c)))))
  else none))
  (((qu N out).bind fun e =>
  some e)))
def uZ (N:Nat) (a b:List Int):Option (List Int) :=
 jH N a b N ([]:List Int) 0 0
def qW (N:Nat) (a b q:List Int) (i lo:Int)(c:(List Int)->(List Int)->Int->Option ((List Int)×(List Int))) (d:List Int):Option ((List Int)×(List Int)) :=
 c d (q.set i.toNat lo) (aR (i - 1))
def lF (N:Nat) (a b q:List Int) (i:Int)(c:(List Int)) (d:(List Int)->(List Int)->Int->Option ((List Int)×(List Int))):Nat->Int->Int->Option ((List Int)×(List Int))
 | 0,_,_=>none
 | fuel+1,lo,hi =>
  (cond (decide (lo < hi))
  (((pe N b ([(aR ((aR ((aR (lo+hi))+1)).tdiv 2))]:List Int)).bind fun e =>
  ((qV N e c).bind fun f =>
  (cond (decide (f<=0))
  (lF N a b q i c d fuel (aR ((aR ((aR (lo+hi))+1)).tdiv 2)) hi)
  (lF N a b q i c d fuel lo (aR ((aR ((aR ((aR (lo+hi))+1)).tdiv 2)) - 1)))))))
  ((if 0<=i/\i < (q.length:Int) then
  (cond (decide (lo > 0))
  (((pe N b ([lo]:List Int)).bind fun g =>
  ((uZ N c g).bind fun h =>
  qW N a b q i lo d h)))
  (qW N a b q i lo d c))
  else none)))
def lG (N:Nat) (a b:List Int):Nat->(List Int)->(List Int)->Int->Option ((List Int)×(List Int))
 | 0,_,_,_=>none
 | fuel+1,rest,q,i =>
  (cond (decide (i>=0))
  ((if 0<=i/\i < (a.length:Int) then
  (if (1+rest.length) * 8<=140737488355328 then
  ((qu N (([(a.getD i.toNat 0)]:List Int) ++ rest)).bind fun c =>
  lF N a b q i c (lG N a b fuel) N 0 65535)
  else none)
  else none))
  (((qu N q).bind fun d =>
  some (d,rest))))
def sd (N:Nat) (a b:List Int):Option ((List Int)×(List Int)) :=
 (if 0<=(a.length:Int)/\(8:Int) * (a.length:Int)<=281474976710656/\(a.length:Int)<=9223372036854775807 then
 lG N a b N ([]:List Int) (List.replicate a.length 0:List Int) (aR ((a.length:Int) - 1))
 else none)
def qw (N:Nat):Nat->(List Int)->(List Int)->Option (List Int)
 | 0,_,_=>none
 | fuel+1,b,a =>
  (cond (decide ((a.length:Int) > 0))
  (((sd N b a).bind fun pR =>
  qw N fuel a pR.2))
  (some b))
def H5 (N:Nat) (a b:List Int):Option (List Int) :=
 qw N N a b
def wX (N:Nat) (a b:eN):Option aa :=
 ((lu N a.fL).bind fun d =>
 ((lu N b.fL).bind fun e =>
 (cond ((e.length:Int) == 0)
 (((jj N a.fG d).bind fun f =>
 ((CW N 1).bind fun rOf =>
 some (⟨f,rOf⟩:aa))))
 (((H5 N d e).bind fun c =>
 ((sd N d c).bind fun pR =>
 ((sd N e c).bind fun g =>
 ((jj N (!(a.fG == b.fG)) pR.1).bind fun h =>
 ((jj N false g.1).bind fun i =>
 some (⟨h,i⟩:aa))))))))))
def pk (N:Nat) (x:aa):Option aa :=
 ((wX N x.fN x.fD).bind fun a =>
 some a)
def H6 (N:Nat) (a:eN):Option eN :=
 ((lu N a.fL).bind fun b =>
 ((jj N (!a.fG) b).bind fun c =>
 some c))
def zd (N:Nat) (x:aa):Option aa :=
 ((pk N x).bind fun b =>
 ((H6 N b.fN).bind fun a =>
 some (⟨a,b.fD⟩:aa)))
def zS (N:Nat) (a b:eN):Option eN :=
 ((lu N a.fL).bind fun c =>
 ((lu N b.fL).bind fun d =>
 ((pe N c d).bind fun e =>
 ((jj N (!(a.fG == b.fG)) e).bind fun f =>
 some f))))
def nB (N:Nat) (a b:List Int):Nat->(List Int)->Int->Int->Option (List Int)
 | 0,_,_,_=>none
 | fuel+1,out,c,i =>
  (cond (cond (cond (decide (i < (a.length:Int))) true (decide (i < (b.length:Int)))) true (decide (c > 0)))
  (((qd N a i).bind fun d =>
  ((qd N b i).bind fun e =>
  (if (out.length+1) * 8<=140737488355328 then
  nB N a b fuel (out ++ ([((aR ((aR (d+e))+c)).tmod 65536)]:List Int)) (aR ((aR ((aR (d+e))+c)).tdiv 65536)) (aR (i+1))
  else none))))
  (((qu N out).bind fun f =>
  some f)))
def Ed (N:Nat) (a b:List Int):Option (List Int) :=
 nB N a b N ([]:List Int) 0 0
def H7 (N:Nat) (a b:eN):Option eN :=
 ((lu N a.fL).bind fun c =>
 ((lu N b.fL).bind fun d =>
 (cond (a.fG == b.fG)
 (((Ed N c d).bind fun e =>
 ((jj N a.fG e).bind fun f =>
 some f)))
 (((qV N c d).bind fun g =>
 (cond (decide (g>=0))
 (((uZ N c d).bind fun h =>
 ((jj N a.fG h).bind fun i =>
 some i)))
 (((uZ N d c).bind fun j =>
 ((jj N b.fG j).bind fun k =>
 some k)))))))))
def ze (N:Nat) (x y:aa):Option aa :=
 ((pk N x).bind fun a =>
 ((pk N y).bind fun b =>
 ((zS N a.fN b.fD).bind fun d =>
 ((zS N b.fN a.fD).bind fun e =>
 ((H7 N d e).bind fun c =>
 ((zS N a.fD b.fD).bind fun f =>
 ((wX N c f).bind fun g =>
 some g)))))))
def zf (N:Nat) (x y:aa):Option aa :=
 ((zd N y).bind fun a =>
 ((ze N x a).bind fun b =>
 some b))
def Ee (N:Nat) (a:eN):Option Int :=
 ((lu N a.fL).bind fun b =>
 (cond ((b.length:Int) == 0)
 (some 0)
 ((cond a.fG
 (some (-1))
 (some 1)))))
def xt (N:Nat) (x:aa):Option Int :=
 ((pk N x).bind fun b =>
 ((Ee N b.fN).bind fun a =>
 some a))
def zg (N:Nat) (x y:aa):Option Int :=
 ((zf N x y).bind fun a =>
 ((xt N a).bind fun b =>
 some b))
noncomputable def e8 (N:Nat) (w:aq):Option Bool :=
 ((xN N w 5).bind fun e =>
 ((cond (!(cond (cond (!e) true ((w.ab.length:Int) == 0)) true (decide ((w.ab.length:Int) > 5)))) (qK N w) (some 0)).bind fun g =>
 (cond (cond (cond (cond (!e) true ((w.ab.length:Int) == 0)) true (decide ((w.ab.length:Int) > 5))) true (g != 0))
 (some true)
 (((lB N w).bind fun d =>
 (cond (decide ((d.length:Int) > 40))
 (some true)
 ((if 0<=(aR ((w.ab.length:Int)+1))/\(64:Int) * (aR ((w.ab.length:Int)+1))<=281474976710656/\(aR ((w.ab.length:Int)+1))<=9223372036854775807 then
 ((CU N (-1)).bind fun f =>
 (if 0<=(w.ab.length:Int)/\(w.ab.length:Int) < (((List.replicate ((aR ((w.ab.length:Int)+1)).toNat) aa.d:List aa).length:Nat):Int) then
 ((y9 N ((List.replicate ((aR ((w.ab.length:Int)+1)).toNat) aa.d:List aa).set w.ab.length f) d).bind fun c =>
 ((pN N w).bind fun a =>
 ((o8 N w).bind fun b =>
 ((cond (!(cond (cond (c.2 != 0) true (a.2.2 != 0)) true (b.2 != 0))) (tG N ((List.replicate ((aR ((w.ab.length:Int)+1)).toNat) aa.d:List aa).set w.ab.length f) d c.1) (some 0)).bind fun h =>
 (cond (cond (cond (cond (c.2 != 0) true (a.2.2 != 0)) true (b.2 != 0)) true (h != 0))
 (some false)
 ((cond (cond (cond (dZ b.1.eO ByteArray.empty) (b.1.fg != a.2.1) false) true (decide (b.1.fg < a.2.1)))
 (some false)
 (((CU N (aR (0 - a.2.1))).bind fun i =>
 ((zg N c.1.rz i).bind fun j =>
 some (cond (j == 0) true false)))))))))))
 else none))
 else none))))))))
end Go.Den
