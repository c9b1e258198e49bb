/- Each function of the program does what its Lean function computes (part 1). No conditions. -/
import Derived.Test.YtkejjbiabpdhjaaGreatTopOneEquilibriumDen
import Derived.Test.YtkejjbiabpdhjaaGreatProg
set_option linter.unusedVariables false
set_option maxRecDepth 100000
namespace Go.Den
open Go.Ab Go.Proofs Go.Ab.aK
abbrev Sd:=Sound Tryz.prog
abbrev eU (a:List Int):AV:=cA (cU .u16) 0 a
abbrev aU (a:List Int):Ob:=aO 1 (cU .u16) 0 a
abbrev a64 (x:Int):AV:=.atom (.int .u64 x)
abbrev a32 (x:Int):AV:=.atom (.int .u32 x)
abbrev a16 (x:Int):AV:=.atom (.int .u16 x)
theorem so2 {P:Program} {f:FuncId} {fu:Func} {c:Code} {nt m:Nat} {a:List AV} {σ gV:gp} {res:AV} (b:m=0->σ=[]) (h:∀ E,ba E m->aK P E f nt (bd E gV res) [.code c] ⟨Ag a 0,σ,m⟩) (d:P.funcs[f]?=some fu:=by kernel_rfl) (hb:fu.body=some c:=by kernel_rfl) (e:fu.ntmps=nt:=by kernel_rfl) (g:Nat.ble a.length nt=true:=by kernel_rfl):Sound P f a σ m res gV:=sor d hb e g b h
abbrev oT (x:AV):tw:=⟨[],true,x,[],0,false,none⟩
abbrev oF (x:AV):tw:=⟨[],false,x,[],0,false,none⟩
abbrev aZ (n:Nat) (g:Nat->List AV):∀ i,i < n->g i=g (eu 0 i):=fun _ _=>rfl
abbrev mG (C:List (List ab)):Nat->List AV:=fun a=>mR 4 bH ab.d (C.getD a [])
theorem mC (C:List (List ab)) (l:List (Nat×Nat×Nat)):∀ a,a < C.length->aJ l (mG C) a=aJ l (mG C) a:=fun _ _=>rfl
theorem iM (C:List (List ab)):∀ a,a < C.length->gi (mG C a)=true:=fun _ _=>rfl
theorem jS {α:Type} {a b:α} (h:some a=some b):a=b:=Option.some.inj h
abbrev amV (a:(List Int)):=!((a.length:Int) != 1)
abbrev W6 (a:cW):=(a.ag.length:Int)
abbrev amW (a:Bool) (b:cW):=!(cond (!a) true (decide ((W6 b) > 8)))
abbrev amX (a:(List ab)×Int) (b:(List ab)×(List ab)×Int):=!(cond (cond (a.2 != 12) (a.2 != 13) false) true (b.2.2 != 29))
abbrev ab2 (a:List af) (b:Int):=((a.getD b.toNat af.d).aY).aA
abbrev aic (a:List af) (b:Int) (c:Int):=cond (decide ((((((a.getD b.toNat af.d).aY).ah).length:Nat):Int) > c)) true (decide ((((ab2 a b).length:Nat):Int) > (av (c+1))))
abbrev amY (a:List af) (b:Int) (c:Int) (d:Bool):=!(cond (aic a b c) true (!d))
abbrev afJ (a:Int) (b:Int):=!(cond (decide (a > 0)) (b != 0) false)
abbrev ab3 (a:Int):=!(cond (decide (a > 0)) false false)
abbrev afK (a:Int):=ab3 a
abbrev ab4 (a:cW):=!(cond (decide (a.dW < 1)) true (decide (a.dW > 1000000000)))
abbrev PJ (a:cO) (b:Int):=!(cond (decide ((a.ah.getD b.toNat 0) < (-10000000))) true (decide ((a.ah.getD b.toNat 0) > 10000000)))
abbrev NU (a:List af) (b:Int):=a.getD b.toNat af.d
abbrev afL (a:List af) (b:Int):=!(cond (decide ((NU a b).z9 < (-1000000))) true (decide ((NU a b).z9 > 1000000)))
abbrev afM (a:List af) (b:Int) (c:Int):=!(aic a b c)
abbrev KL (a:List Int):=(a.length:Int)
abbrev RO (a:Int) (b:List Int):=decide (a < (KL b))
abbrev ZD (a:Int) (b:List Int):=!(RO a b)
abbrev xH (a:Int):=decide (a < 0)
abbrev EA (a:Int):=!(xH a)
abbrev VH (a:cW):=!(decide (a.dW < 1))
abbrev RP (a:cO) (b:Int):=!(decide ((a.ah.getD b.toNat 0) < (-10000000)))
abbrev ZE (a:List af) (b:Int):=!(decide ((NU a b).z9 < (-1000000)))
abbrev ZF (a:List af) (b:Int) (c:Int):=!(decide ((((((a.getD b.toNat af.d).aY).ah).length:Nat):Int) > c))
abbrev Mk (a:List ab) (b:ab):=a ++ ([b]:List ab)
abbrev adZ (a:List Int) (b:Int):=a ++ ([(IntKind.u16.wrap b)]:List Int)
abbrev W7 (a:Int) (b:Int):=([(av ((av (2 * a))+b))]:List Int)
abbrev VI (a:List Int) (b:Int) (c:Int):=a ++ (W7 b c)
abbrev ad0 (a:List az) (b:ab) (c:ab):=a ++ ([(⟨b,c⟩:az)]:List az)
abbrev W8 (a:List ab) (b:ab) (c:List ab) (d:ab):=([(⟨a,b⟩:bw),(⟨c,d⟩:bw)]:List bw)
abbrev VJ (a:List bw) (b:List ab) (c:ab) (d:List ab) (e:ab):=a ++ (W8 b c d e)
abbrev Pp (a:List bw) (b:(List ab)) (c:ab):=a ++ ([(⟨b,c⟩:bw)]:List bw)
abbrev zK (a:List Int) (b:Int):=a.getD b.toNat 0
abbrev yH (a:List (List ab)) (b:Int):=a.getD b.toNat []
abbrev pk (a:List (List ab)) (b:Int):=yH a b
abbrev NW (a:List Int) (b:Int):=IntKind.u32.wrap ((a.getD b.toNat 0))
abbrev aid (a:List Int) (b:Int) (c:Int) (d:Int):=IntKind.u16.wrap ((IntKind.u32.wrap ((IntKind.u32.wrap ((NW a b)+(Dl .u32 c 16))) - d)))
abbrev aoo (b:List Int) (a:Int) (c:List Int) (d:Int) (e:Int):=b.set a.toNat (aid c a d e)
abbrev aie (a:Int) (b:List Int) (c:Int) (d:Int):=IntKind.u16.wrap ((IntKind.u32.wrap ((Us .u32 (Dl .u32 a 16) (NW b c)).tdiv (IntKind.u32.wrap d))))
abbrev aop (b:List Int) (a:Int) (c:Int) (d:List Int) (e:Int):=b.set a.toNat (aie c d a e)
abbrev KN (a:Int):=(av (a+1)).toNat
abbrev aif (a:List Int) (b:Int) (c:Int):=IntKind.u16.wrap ((iU .u32 (Us .u32 (NW a b) (Dl .u32 (IntKind.u32.wrap ((a.getD (KN b) 0))) 16)) c))
abbrev aoq (b:List Int) (a:Int) (c:List Int) (d:Int):=b.set a.toNat (aif c a d)
abbrev W9 (a:List Int) (b:Int) (c:Int):=Dl .u32 (IntKind.u32.wrap ((a.getD b.toNat 0))) c
abbrev aih (b:List Int) (a:Int) (c:List Int) (d:Int):=b.set a.toNat (Us .u16 (b.getD a.toNat 0) (IntKind.u16.wrap ((W9 c a d))))
abbrev ZG (a:List Int) (b:Int) (c:List Int) (d:Int):=aih a b c d
abbrev Xa (a:List aa) (b:Int):=a.getD ((av (b - 1)).toNat) aa.d
abbrev aii (a:List aa) (b:Int):=(⟨(⟨(((Xa a b).np).fN),(((Xa a b).np).fD)⟩:ab),(⟨(((Xa a b).cZ).fN),(((Xa a b).cZ).fD)⟩:ab)⟩:aa)
abbrev aij (a:List aa) (b:Int):=a.set b.toNat (aii a b)
abbrev aor (a:List aa) (b:Int):=aij a b
abbrev aik (d:Int) (e:List Int) (b:Int) (f:List Int) (c:Int) (a:List Int):=IntKind.u16.wrap ((IntKind.u32.wrap (d+(IntKind.u32.wrap ((IntKind.u32.wrap ((NW e b) * (NW f c)))+(IntKind.u32.wrap ((a.getD ((av (b+c)).toNat) 0))))))))
abbrev aos (b:List Int) (c:Int) (d:Int) (e:Int) (f:List Int) (a:List Int):=b.set ((av (c+d)).toNat) (aik e f c a d b)
abbrev yj (a:List ab) (b:Int) (c:ab):=a.set ((av (2 * b)).toNat) c
abbrev aim (a:Int) (b:Int):=(!(cond (decide (a > 0)) (b != 0) false)) && ((!(cond (decide (a > 0)) (b != 0) false)) && (xH a))
abbrev ain (a:Int):=(ab3 a) && ((ab3 a) && (xH a))
abbrev GX (a:Int):=(!(xH a)) && ((!(xH a)) && (a == 0))
abbrev Ml (a:List ab) (b:ab):=(a ++ ([b]:List ab)).length
abbrev VK (e:List bw) (f:List ab) (g:ab) (h:List ab) (i:ab) (a:List ab) (b:ab) (c:List ab) (d:ab):=(e ++ (W8 f g h i)) ++ (W8 a b c d)
abbrev ZH (a:Int) (b:List (List ab)):=(a.toNat,199,(yH b a).length)
abbrev Pq (a:Int) (b:List (List ab)):=(a.toNat,214,(yH b a).length)
abbrev ZJ (a:Int) (b:List (List ab)):=(a.toNat,263,(yH b a).length)
abbrev Kb (a:Int) (b:List (List ab)):=(a.toNat,55,(yH b a).length)
abbrev dC (a:Int) (b:List ab):=(a.toNat,6,b.length)
abbrev ZK (a:Int) (b:List (List ab)):=(a.toNat,6,(yH b a).length)
abbrev CR (a:Int) (b:List ab) (c:Int) (d:ab):=(a.toNat,6,(b.set c.toNat d).length)
abbrev ad1 (a:(List aa)) (b:Int):=(a.getD b.toNat aa.d).np
abbrev ad2 (a:(List aa)) (b:Int):=(a.getD b.toNat aa.d).cZ
abbrev qV (a:List (List ab)) (b:Int):=(yH a b).length
abbrev zL (a:List ab) (b:Int) (c:ab):=(a.set b.toNat c).length
abbrev KO (a:Int):=(av (a - 1)).toNat
abbrev ad3 (b:List Int) (a:Int):=(b.set a.toNat (b.getD (KO a) 0)).set (KO a) (b.getD a.toNat 0)
abbrev aot (d:List Int) (a:Int) (b:List Int) (c:Int):=(aih d a b c).set (KN a) (IntKind.u16.wrap ((iU .u32 (W9 b a c) 16)))
abbrev Xb (a:List aa) (b:Int):=a.getD ((av (b+1)).toNat) aa.d
abbrev aio (a:List aa) (b:Int):=(⟨(⟨(((Xb a b).np).fN),(((Xb a b).np).fD)⟩:ab),(⟨(((Xb a b).cZ).fN),(((Xb a b).cZ).fD)⟩:ab)⟩:aa)
abbrev aip (a:List aa) (b:Int):=a.set b.toNat (aio a b)
abbrev aiq (a:List aa) (b:Int):=(⟨(⟨(((a.getD b.toNat aa.d).np).fN),(((a.getD b.toNat aa.d).np).fD)⟩:ab),(⟨(((a.getD b.toNat aa.d).cZ).fN),(((a.getD b.toNat aa.d).cZ).fD)⟩:ab)⟩:aa)
abbrev air (a:List aa) (b:Int):=aiq a b
abbrev ad4 (b:List aa) (a:Int):=(aip b a).set (KN a) (air b a)
abbrev ab5 (b:List aa) (a:Int):=(aij b a).set ((av (a - 1)).toNat) (aiq b a)
abbrev ad5 (a:List aa) (b:Int):=ab5 a b
abbrev ais (a:List aa) (b:Int) (c:Int):=(⟨(⟨(((a.getD ((av (b+c)).toNat) aa.d).np).fN),(((a.getD ((av (b+c)).toNat) aa.d).np).fD)⟩:ab),(⟨(((a.getD ((av (b+c)).toNat) aa.d).cZ).fN),(((a.getD ((av (b+c)).toNat) aa.d).cZ).fD)⟩:ab)⟩:aa)
abbrev ait (a:List aa) (c:Int) (b:Int) (d:Int):=a.set ((av (c+b)).toNat) (ais a d b)
abbrev aiu (a:List aa) (b:Int) (c:Int):=ais a b c
abbrev ad6 (b:List aa) (c:Int) (a:Int) (d:Int):=(ait b c a d).set ((av (d+a)).toNat) (aiu b c a)
abbrev ad7 (a:List (List ab)) (b:Int) (c:Int):=((yH a b).getD c.toNat ab.d).fD
abbrev ad8 (a:List (List ab)) (b:Int) (c:Int):=((yH a b).getD c.toNat ab.d).fN
abbrev aou (a:List aa) (b:Int):=(ab5 a b).length
abbrev aiv (a:List Int) (b:Int):=(([]:List Int) ++ ((a.take b.toNat).drop 0)).length
abbrev EB:=(List Int)×(List Int)
abbrev nf:=(List Int)
abbrev NX:=List ab
abbrev ad9:=NX×ab×Bool
abbrev CS:=NX
abbrev aea:=(List bw)
abbrev po:=(List aa)
abbrev Xc (a:List Int):=(List.replicate a.length 0:List Int)
abbrev aiw (a:List Int):=(Xc a).length
abbrev Xd (a:Int):=(List.replicate a.toNat ab.d:List ab)
abbrev aix (a:Int):=(Xd a).length
abbrev aeb (a:Int):=aix a
abbrev ab6 (a:Int):=(List.replicate ((av ((av (2 * a))+1)).toNat) ab.d:List ab)
abbrev aec (a:Int):=(ab6 a).length
abbrev Pr (a:List Int):=([]:List Int) ++ a
abbrev RR (a:List Int) (b:Int):=([]:List Int) ++ ((a.take b.toNat).drop 0)
abbrev EC (a:Int) (b:Int):=(xH a) && ((xH a) && (!(xH b)))
abbrev ED (a:Int) (b:Int):=(decide (a < 65536)) && ((decide (a < 65536)) && (!(decide (b > 65535))))
abbrev GY (a:Int) (b:Int):=(decide (a > 0)) && ((decide (a > 0)) && (!(xH b)))
abbrev RU (a:Int) (b:List Int) (c:Int):=(a.toNat - 0)+(b.length - c.toNat)
abbrev VL (a:List Int) (b:Int) (c:Int):=(wV a b.toNat c.toNat).take (RU b a c)
abbrev VM (a:List ab) (b:Int) (c:Int):=(wV a b.toNat c.toNat).take ((b.toNat - 0)+(a.length - c.toNat))
abbrev BZ (a:Int) (b:Int):=(av (a+b)).toNat
abbrev Ao (a:List Int):=KL a
abbrev ZL (a:Int) (b:List Int):=(av (a+(Ao b))).toNat
abbrev ab7 (a:List Int) (b:List Int):=av ((KL a)+(KL b))
abbrev aiy (a:List Int) (b:List Int):=(ab7 a b).toNat
abbrev RV (a:List Int):=av ((KL a)+1)
abbrev aiz (a:List Int):=(RV a).toNat
abbrev RX (a:List Int):=(((a.length - 0):Nat):Int)
abbrev ab8 (a:(List Int)) (b:List Int):=av ((a.length:Int) - (RX b))
abbrev aiA (a:(List Int)) (b:List Int):=(ab8 a b).toNat
abbrev Mm (a:List Int):=(av ((Ao a) - 1)).toNat
abbrev ZM (c:List Int) (b:Int) (d:Int) (e:List Int) (f:Int) (a:Int):=(av ((av ((c.getD ((av (b+d)).toNat) 0)+(av ((e.getD b.toNat 0) * f))))+a)).tmod 65536
abbrev ab9 (a:List Int) (b:List Int):=av ((av ((KL a)+(KL b)))+1)
abbrev aiB (a:List Int) (b:List Int):=(ab9 a b).toNat
abbrev VN (a:Int):=(av ((av (2 * a))+1)).toNat
abbrev nh (a:aw):AV:=.agg (aw.cells a)
abbrev zM (a:cW):AV:=.agg (cW.cells a)
abbrev VO (a:cO):AV:=.agg (zx a)
abbrev dM (a:cj):AV:=.agg (TIc a)
abbrev xI (a:ab):=bH a
abbrev aj (a:ab):AV:=.agg (xI a)
abbrev VP (a:az):AV:=.agg (az.cells a)
abbrev RY (a:dD):AV:=.agg (dD.cells a)
abbrev ZN (a:af):AV:=.agg (af.cells a)
abbrev Ps (a:Int×(List Int)):AV:=.atom (.int .u16 a.1)
abbrev aed (a:Int):AV:=.atom (.int .u16 (IntKind.u16.wrap a))
abbrev Mn (a:Int):AV:=.atom (.int .u32 a)
abbrev wD (a:Int):AV:=.atom (.int .u64 a)
abbrev nF (a:List Int):AV:=.os 0 0 a.length
abbrev px (a:List aa):AV:=.os 0 0 a.length
abbrev RZ (a:re):AV:=.os 1 0 a.Qr.length
abbrev CT (a:List Int):AV:=.os 1 0 a.length
abbrev R0 (a:re):AV:=.os 2 0 a.abI.length
abbrev Pt (a:List Int):AV:=.os 2 0 a.length
abbrev Xe (a:List Int) (b:Int) (c:List bw):=a ++ ([(av ((av (2 * b))+(c.length:Int)))]:List Int)
abbrev aee (a:List Int) (b:Int) (c:List bw):AV:=.os 2 0 ((Xe a b c).length)
abbrev B0 (a:List (List ab)):AV:=.os 3 0 a.length
abbrev yI (a:List ab):AV:=.os 4 0 a.length
abbrev KP (a:re):AV:=.os 5 0 a.xg.length
abbrev Xf (a:List ab):AV:=.os 5 0 a.length
abbrev NY (a:List (List ab)) (b:Int):AV:=.os 55 0 ((yH a b).length)
abbrev qW (a:List ab):AV:=.os 6 0 a.length
abbrev NZ (a:aw×Bool):AV:=.tup [(.agg (aw.cells a.1)),(aB a.2)]
abbrev N7 (a:ab×Bool):AV:=.tup [(.agg (bH a.1)),(aB a.2)]
abbrev Xg (a:ab×Bool×Int):AV:=.tup [(.agg (bH a.1)),(aB a.2.1),(aI a.2.2)]
abbrev Xh (a:ab×Int):AV:=.tup [(.agg (bH a.1)),(aI a.2)]
abbrev Xi (a:az×Int):AV:=.tup [(.agg (az.cells a.1)),(aI a.2)]
abbrev Xj (a:gX×Int):AV:=.tup [(.agg (gX.cells a.1)),(aI a.2)]
abbrev aca (a:qP×az×Int):AV:=.tup [(.agg (qP.cells a.1)),(.agg (az.cells a.2.1)),(aI a.2.2)]
abbrev Xk (a:Int×Bool):AV:=.tup [(a64 a.1),(aB a.2)]
abbrev acb (a:(List Int)×Int):AV:=.tup [(eU a.1),(a16 a.2)]
abbrev N8 (a:(List Int)×(List Int)):AV:=.tup [(eU a.1),(eU a.2)]
abbrev R1 (a:(List ab)×ab×Bool):AV:=.tup [(cA bH ab.d a.1),(.agg (bH a.2.1)),(aB a.2.2)]
abbrev N9 (a:(List ab)×Int):AV:=.tup [(cA bH ab.d a.1),(aI a.2)]
abbrev KQ (a:(List Int)×(List Int)):AV:=.tup [(cA cI 0 a.1),(cA cI 0 a.2)]
abbrev Xl (a:List ab):=(0,(cA bH ab.d a))
abbrev acd (a:List af):=(0,(cA af.cells af.d a))
abbrev yJ (a:List Int):=(0,(cA cI 0 a))
abbrev qX (a:List Int):=(0,aO 1 cI 0 a)
abbrev Dq (a:(List ab)):=(0,aO 4 bH ab.d a)
abbrev Ib (a:List ab):=(0,aO 4 bH ab.d a)
abbrev R2 (a:(List az)):=(0,aO 8 az.cells az.d a)
abbrev ic (a:(List aa)):=(0,aO 8 aa.cells aa.d a)
abbrev kR (a:List aa):=(0,aO 8 aa.cells aa.d a)
abbrev Xm (a:List ab) (b:Int) (c:ab):=(0,ri 0 bH ab.d (a.set b.toNat c))
abbrev aiC (a:List aa) (b:Int):=(0,ri 0 aa.cells aa.d (ab5 a b))
abbrev Ic (a:List ab):=(0,vO 1 [(cA bH ab.d a)])
abbrev KR (a:cO):=(0,vO 2 (zx a))
abbrev Ie (a:ab):=(0,vO 4 (xI a))
abbrev uP (a:cW):=(0,vO 6 (cW.cells a))
abbrev kB (a:aw):=(0,vO 8 (aw.cells a))
abbrev B1 (a:List Int):=(1,(cA cI 0 a))
abbrev gI (a:List Int):=(1,aO 1 cI 0 a)
abbrev KS (a:re):=(1,aO 1 cI 0 a.Qr)
abbrev vT (a:List ab):=(1,aO 4 bH ab.d a)
abbrev Oa (a:ab):=(1,vO 4 (xI a))
abbrev Ig (a:aw):=(1,vO 8 (aw.cells a))
abbrev Xn (a:List ab):=(12,(aI (a.length:Int)))
abbrev aiD (a:Int):=aI (((Xd a).length:Nat):Int)
abbrev aiE (a:Int):=(12,(aiD a))
abbrev KT (a:List Int):=(14,(aI (Ao a)))
abbrev ace (a:cO):=(18,(aI (a.ah.length:Int)))
abbrev iT (a:List Int):=(2,aO 1 cI 0 a)
abbrev KU (a:re):=(2,aO 1 cI 0 a.abI)
abbrev Xo (a:List Int) (b:Int) (c:List bw):=(2,aO 1 cI 0 (Xe a b c))
abbrev tS (a:ab):=(2,vO 4 (xI a))
abbrev iH (a:List (List ab)):=(3,aM 4 bH ab.d a)
abbrev FT (a:re×(List Int)×(List Int)×(List (List ab))×(List ab)×(List ab)):=(3,aM 4 bH ab.d a.2.2.2.1)
abbrev Ih (a:Bool×re×(List Int)×(List Int)×(List (List ab))×(List ab)):=(3,aM 4 bH ab.d a.2.2.2.2.1)
abbrev KV (a:re):=(3,aM 4 bH ab.d a.f_a)
abbrev xJ (a:ab):=(3,vO 4 (xI a))
abbrev acf (a:cW):=(4,(aI (W6 a)))
abbrev gx (a:List ab):=(4,aO 4 bH ab.d a)
abbrev FU (a:re×(List Int)×(List Int)×(List (List ab))×(List ab)×(List ab)):=(4,aO 4 bH ab.d a.2.2.2.2.1)
abbrev Ii (a:Bool×re×(List Int)×(List Int)×(List (List ab))×(List ab)):=(4,aO 4 bH ab.d a.2.2.2.2.2)
abbrev KW (a:re):=(4,aO 4 bH ab.d a.f_b)
abbrev FV (a:ab):=(4,vO 4 (xI a))
abbrev Xp (a:List Int):=(5,(aI (Ao a)))
abbrev ja (a:List ab):=(5,aO 4 bH ab.d a)
abbrev FX (a:re×(List Int)×(List Int)×(List (List ab))×(List ab)×(List ab)):=(5,aO 4 bH ab.d a.2.2.2.2.2)
abbrev KX (a:re):=(5,aO 4 bH ab.d a.xg)
abbrev KY (a:(List ab)):=(6,aO 4 bH ab.d a)
abbrev tT (a:List ab):=(6,aO 4 bH ab.d a)
abbrev Ij (a:Bool×re×(List Int)×(List Int)×(List (List ab))×(List ab)):=(6,aO 4 bH ab.d a.2.1.xg)
abbrev acg:=List (List ab)
abbrev KZ:=Bool×re×(List Int)×(List Int)×acg×NX
abbrev Oc:=Int×(List Int)
abbrev Ik (a:Int):=IntKind.u16.wrap a
abbrev ach (b:Int) (c:List Int) (d:Nat) (a:Int) (e:List Int):=IntKind.u16.wrap ((IntKind.u32.wrap (b+(IntKind.u32.wrap ((IntKind.u32.wrap ((c.getD (eu d a.toNat) 0)))+(NW e a))))))
abbrev aci (b:Int) (c:List Int) (d:Int) (e:List Int) (f:Int) (a:List Int):=aik b c d e f a
abbrev acj (a:List Int) (b:Int) (c:Int) (d:Int):=aid a b c d
abbrev ack (a:Int) (b:List Int) (c:Int) (d:Int):=aie a b c d
abbrev acm (a:List Int) (b:Int) (c:Int):=aif a b c
abbrev acn (a:List Int) (b:Int) (c:Int):=IntKind.u16.wrap ((iU .u32 (W9 a b c) 16))
abbrev aco (a:List Int) (b:Nat) (c:Int) (d:Int) (e:Int):=IntKind.u16.wrap ((av ((av ((av ((a.getD (eu b c.toNat) 0))) - (av ((Zw .u64 d 65535)))))+e)))
abbrev oV:=acg
abbrev bh:=NX
abbrev K0:=List az
abbrev Oe:=List bw
abbrev eB:=List aa
abbrev Xq (a:(List Int)×(List Int)):=(List.replicate a.2.length ab.d:List ab)
abbrev acp (a:Int):=Xd a
abbrev aiF (a:List Int) (b:List Int):=(List.replicate ((ab7 a b).toNat) 0:List Int)
abbrev aiG (a:List Int):=(List.replicate ((RV a).toNat) 0:List Int)
abbrev aiH (a:(List Int)) (b:List Int):=(List.replicate ((ab8 a b).toNat) 0:List Int)
abbrev aiI (a:List Int) (b:List Int):=(List.replicate ((ab9 a b).toNat) 0:List Int)
abbrev acq (a:Int):=ab6 a
abbrev FY:=aw
abbrev acr:=ab×Bool×Int
abbrev Ap:=(ab.d:ab)
abbrev K1:=re×(List Int)×(List Int)×acg×NX×NX
abbrev Il:=re
abbrev mc (a:ab):=([a]:List ab)
abbrev R3 (a:List af) (b:Int):=([(NU a b).z9]:List Int)
abbrev R4 (a:Int) (b:Int) (c:Int):=([((av ((av (a+b))+c)).tmod 65536)]:List Int)
abbrev K2 (a:Int):=([(IntKind.u16.wrap a)]:List Int)
abbrev R5 (a:List Int) (b:Int):=([(IntKind.u16.wrap ((a.getD b.toNat 0)))]:List Int)
abbrev R6 (a:Int):=([(IntKind.u16.wrap ((Zw .u64 a 65535)))]:List Int)
abbrev R7 (a:List Int) (b:Int):=([(av ((a.getD b.toNat 0)))]:List Int)
abbrev R8 (a:Int):=([(av ((a.tmod 65536)))]:List Int)
abbrev acs (a:Int) (b:List bw):=([(av ((av (2 * a))+(b.length:Int)))]:List Int)
abbrev R9 (a:(List ab)) (b:ab×Bool):=([(⟨a,b.1⟩:bw)]:List bw)
abbrev Of (a:ab) (b:ab) (c:ab) (d:ab):=([(⟨a,b⟩:az),(⟨c,d⟩:az)]:List az)
abbrev Og (a:ab) (b:ab):=([(⟨a,b⟩:az)]:List az)
abbrev Oh (a:List ab) (b:ab) (c:List ab) (d:ab):=W8 a b c d
abbrev Sa (a:ab) (b:ab):=([(⟨a,b⟩:aa)]:List aa)
abbrev aiJ (a:(List ab)):=([[(aI 0),(aB false),.nil,(aB false),.nil,(cA cI 0 ([0]:List Int)),(cA bH ab.d a)],[(aI 100),(aB false),.nil,(aB false),.nil,(cA cI 0 ([0]:List Int)),(cA bH ab.d a)]]:List (List AV))
abbrev kT (a:ab):=aB a.fD.fG
abbrev kU (a:ab):=aB a.fN.fG
abbrev K3 (a:re):=aB a.bC.fD.fG
abbrev K4 (a:re):=aB a.bC.fN.fG
abbrev Sb (a:List ab):=aI (a.length:Int)
abbrev Dr (a:List af):=aI (a.length:Int)
abbrev FZ (a:List Int):=aI (Ao a)
abbrev Aq (a:List bw):=aI (a.length:Int)
abbrev aiK (a:Int):=aiD a
abbrev Xr (a:Int) (b:Int):=av ((iU .u64 (IntKind.u64.wrap ((av (a+b)))) 1))
abbrev Xs (a:Int) (b:Int):=aI (Xr a b)
abbrev Oi (a:Int) (b:List bw):=aI (av ((av (2 * a))+(b.length:Int)))
abbrev acu (a:(List ab)×(List ab)×Int) (b:(List ab)×Int) (c:cW):=cond (a.2.2 == 0) (((b.1.length:Nat):Int) == (W6 c)) false
abbrev lp (a:Int):=decide (a > 0)
abbrev Se (a:ab) (b:Int):=decide ((a.fN.fL.length:Int)<=b)
abbrev K5 (a:List Int):=decide ((Ao a) > 0)
abbrev F0 (a:Int) (b:cO):=decide ((av (a+1)) < (b.ah.length:Int))
abbrev acv (a:Int) (b:Int) (c:Int) (d:Int):=av ((av ((Xr a b)+c)) - d)
abbrev aiL (a:Int) (b:Int) (c:Int) (d:Int):=decide ((Xr a b) < (acv a b c d))
abbrev di (a:List Int):=eU a
abbrev fP (a:(List Int)):=eU a
abbrev F1 (a:re×(List Int)×(List Int)×(List (List ab))×(List ab)×(List ab)):=eU a.1.bC.fD.fL
abbrev F2 (a:re×(List Int)×(List Int)×(List (List ab))×(List ab)×(List ab)):=eU a.1.bC.fN.fL
abbrev Im (a:Bool×re×(List Int)×(List Int)×(List (List ab))×(List ab)):=eU a.2.1.bC.fD.fL
abbrev Ip (a:Bool×re×(List Int)×(List Int)×(List (List ab))×(List ab)):=eU a.2.1.bC.fN.fL
abbrev kV (a:ab):=eU a.fD.fL
abbrev kW (a:ab):=eU a.fN.fL
abbrev K6 (a:re):=eU a.bC.fD.fL
abbrev K7 (a:re):=eU a.bC.fN.fL
abbrev yK (a:(List ab)):=cA bH ab.d a
abbrev nW (a:List ab):=cA bH ab.d a
abbrev Sf (a:(List bw)):=cA Uw bw.d a
abbrev qY (a:List bw):=cA Uw bw.d a
abbrev oW (a:List af):=cA af.cells af.d a
abbrev Oj (a:(List aa)):=cA aa.cells aa.d a
abbrev F3 (a:List (List ab)) (b:Int):=fun zi=>bH ((yH a b).getD zi ab.d)
abbrev aiM (a:(List Int)×(List Int)):=fun zi=>bH ((List.replicate a.2.length ab.d:List ab).getD zi ab.d)
abbrev aiN (a:Int):=fun zi=>bH ((Xd a).getD zi ab.d)
abbrev Xt (a:Int):=aiN a
abbrev Xu (a:Int):=fun zi=>bH ((ab6 a).getD zi ab.d)
abbrev aiO:=fun zi=>bH (([]:List ab).getD zi ab.d)
abbrev Ol:=aiO
abbrev aiP:=fun zi=>cI (([]:List Int).getD zi 0)
abbrev Om:=aiP
abbrev Ds (a:List (List ab)):=fun b=>mR 4 bH ab.d (a.getD b [])
abbrev au (a:List (List ab)):=Ds a
abbrev F4 (a:List (List ab)) (b:List ab) (c:Int) (d:ab):=a ++ [(b.set ((av (2 * c)).toNat) d)]
abbrev On (a:List (List ab)) (b:List ab) (c:Int) (d:ab):=fun e=>mR 4 bH ab.d ((F4 a b c d).getD e [])
abbrev Dt (a:List (List ab)) (b:Int) (c:(List ab)):=fun d=>mR 4 bH ab.d ((a.set b.toNat c).getD d [])
abbrev Xv (a:List (List ab)) (b:Int) (c:List ab):=fun d=>mR 4 bH ab.d ((a.set b.toNat c).getD d [])
abbrev Xw:=kp [0,1,2,3,10]
abbrev Oo:=kp [0,1,2,3,4,18,19,20,21,22]
abbrev Xx:=kp [0,1,2,3,4,18,19,20,21]
abbrev Oq:=kp [0,1,2,3,8,9]
abbrev Sg:=kp [0,1,2,3,8]
abbrev Ot:=kp [0,1,2,6,7,30,31]
abbrev Du:=kp [0,1,2,6,7,8]
abbrev Si:=kp [0,1,2,6,7]
abbrev Ar:=kp [0,1,2,6]
abbrev yL:=kp [0,1,2,7,74,75]
abbrev aiQ:=kp [0,1,2,7,9,10,74,75,95]
abbrev Sj:=kp [0,1,2,7,9,10,74,75]
abbrev Sk:=kp [0,1,2,7]
abbrev B2:=kp [0,1,2]
abbrev Ou:=kp [0,1,4,10,11]
abbrev Xy:=kp [0,1,4,5]
abbrev Iq:=kp [0,1,4]
abbrev Xz:=kp [0,1,5,13,14]
abbrev Sl:=kp [0,1,5,25,26]
abbrev Ir:=kp [0,1,5,6,14,15]
abbrev XA:=kp [0,1,5,6,7,8,9,14,15]
abbrev Dv:=kp [0,1,5,6,7,8]
abbrev Is:=kp [0,1,5,6,7]
abbrev B3:=kp [0,1,5,6]
abbrev XB:=kp [0,1,5,7,10,11,12,84,85]
abbrev Ov:=kp [0,1,5,7,14,126,127]
abbrev K8:=kp [0,1,5,7,8,16]
abbrev rT:=kp [0,1,5,7,8]
abbrev Sm:=kp [0,1,5,7,9,10,84,85]
abbrev nX:=kp [0,1,5]
abbrev Ow:=kp [0,1,6,7,8,9,10]
abbrev yM:=kp [0,1,6,7,8]
abbrev Ox:=kp [0,1,7,8,9]
abbrev nY:=kp [0,1,7,8]
abbrev XC:=kp [0,10,13]
abbrev XD:=kp [0,14,17]
abbrev Sn:=kp [0,161,162]
abbrev aiR:=kp [0,1] ++ [(5,.tD 0)] ++ kp [6,7]
abbrev XE:=kp [0,2,3,4]
abbrev Oy:=kp [0,2,4,10,11]
abbrev Oz:=kp [0,2,4,14,15]
abbrev XF:=kp [0,2,4]
abbrev XG:=kp [0,2,7]
abbrev aiS:=kp [0,2] ++ [(3,.tD 1)] ++ kp [4]
abbrev OA:=kp [0,3,12,13]
abbrev K9:=kp [0,3,15,16]
abbrev La:=kp [0,3,4,5]
abbrev B4:=kp [0,3,4]
abbrev So:=kp [0,3,5]
abbrev XH:=kp [0,3,9,10,11]
abbrev Lb:=kp [0,3,9,10]
abbrev OB:=kp [0,4,5]
abbrev Sp:=kp [0,5,53,54,55]
abbrev acw:=kp [0,5,8,53,54,55]
abbrev XI:=kp [0,5,8,9,10,11,53,54,55,77,78]
abbrev XJ:=kp [0,5,8,9,53,54,55,77,78]
abbrev OC:=kp [0,8,126,127]
abbrev aiT:=kp [0] ++ [(3,.tD 0)] ++ kp [4]
abbrev XK:=kp [1,17,18,19]
abbrev XL:=kp [1,2,16,17,18]
abbrev Dw:=kp [1,2,3,4,5]
abbrev xK:=kp [1,2,3,9,12,13]
abbrev Lc:=kp [1,2,3]
abbrev acx:=kp [1,2,4,5,46,47,48]
abbrev Sq:=kp [1,2,4,5]
abbrev Ld:=kp [1,2,6,17,18,19]
abbrev XM:=kp [1,2,7,9,19,20]
abbrev Sr:=kp [1,3,4,5]
abbrev acy:=kp [1,3,4,8,9,10,11,12,13,14]
abbrev Ss:=kp [1,4,5,11,12,13]
abbrev Dx:=kp [1,4,5,13,14,15]
abbrev Su:=kp [1,4,5,6]
abbrev It:=kp [1,4,5,7,8,13,14,15]
abbrev Sv:=kp [1,4,5,9,10,11]
abbrev XN:=kp [1,5,13,14,15]
abbrev XO:=kp [1,5,17,18,19]
abbrev XP:=kp [1,5,6,13,14,15]
abbrev Iu:=kp [1,5,6,20,21,22]
abbrev Sw:=kp [1,5,6,7,8,17,18,19,24,25,26]
abbrev XQ:=kp [1,5,6,7,8,9,13,14,15]
abbrev XR:=kp [1,5,7,8,9,13,14,15]
abbrev acz:=kp [1,7,15,16,17]
abbrev Lf:=kp [2,3,4,5,14,15,16]
abbrev Iv:=kp [2,3,4,5,6,7]
abbrev uQ:=kp [2,3,4,5,6]
abbrev aiU:=kp [2,3,4,8,9,11,35,36,37]
abbrev aiV:=kp [2,3,4,8,9,12,13,35,36,37]
abbrev aiW:=kp [2,3,4,8,9,12,35,36,37,58]
abbrev acA:=kp [2,3,4,8,9,35,36,37,38]
abbrev acB:=kp [2,3,4,8,9,35,36,37]
abbrev iI:=kp [2,3,4]
abbrev Sx:=kp [2,3,5]
abbrev XS:=kp [2,7,9,11,12,13,29,30,31,44,45,46]
abbrev Sy:=kp [2,7,9,11,29,30,31]
abbrev XT:=kp [3,25,26,27]
abbrev Sz:=kp [3,4,5,6,7,8,10,21,22,23]
abbrev SA:=kp [3,4,5,6,7,8,21,22,23]
abbrev Lg:=kp [3,4,6,14,15,16]
abbrev acC:=kp [3,5,12,13,14]
abbrev SC:=kp [3,5,7,8,9,12,13,14,29,30,31]
abbrev XU:=kp [4,5,11,12,13,48]
abbrev Dz:=kp [4,5,11,12,13]
abbrev SD:=kp [4,5,6]
abbrev XV:=kp [4,5,8,9,81,82]
abbrev XW:=kp [4,8,9,10,11,12]
abbrev SE:=kp [5,144,145]
abbrev XX:=kp [9,10,11]
abbrev acD:=kq [0,1,2,3,100]
abbrev acE:=kq [0,1,2,3,4,5,54]
abbrev acF:=kq [0,1,2,3,4,5,6,583]
abbrev acG:=kq [0,1,2,3,4,5,6,71]
abbrev acH:=kq [0,1,2,3,4,5,6,7]
abbrev aiX:=kq [0,1,2,3,4,5,6] ++ [(7,.ak 583)]
abbrev aiY:=kq [0,1,2,3,4,5,6] ++ [(7,.ak 71)]
abbrev jK:=kq [0,1,2,3,4,5,6]
abbrev aiZ:=kq [0,1,2,3,4,5] ++ [(22,.ak 6)]
abbrev ai0:=kq [0,1,2,3,4,5] ++ [(6,.ak 54)]
abbrev ai1:=kq [0,1,2,3,4,5] ++ [(6,.ak 86)]
abbrev ai2 (a:Int):=kq [0,1,2,3,4,5] ++ [(86,.arz 86 (aix a) (aiN a))]
abbrev fJ:=kq [0,1,2,3,4,5]
abbrev jo:=kq [0,1,2,3,4,6]
abbrev oX:=kq [0,1,2,3,4]
abbrev acI:=kq [0,1,2,3,84,164]
abbrev ai3:=kq [0,1,2,3] ++ [(4,.ak 100)]
abbrev xL:=kq [0,1,2,3]
abbrev Iw:=kq [0,1,2,51,131]
abbrev SG:=kq [0,1,2,51]
abbrev ai4 (a:List (List ab)) (b:Int):=kq [0,1,2] ++ [(3,.Fm 3 (a.length) [(b.toNat,214,(yH a b).length)] (Ds a))] ++ kq [4,5,182,214]
abbrev acJ (a:List (List ab)) (b:Int) (c:List ab):=kq [0,1,2] ++ [(3,.Fm 3 (a.length) [(b.toNat,6,c.length)] (Ds a))] ++ kq [4,5,6,135]
abbrev ai5 (a:List (List ab)) (b:Int) (c:List ab):=kq [0,1,2] ++ [(3,.Fm 3 (a.length) [(b.toNat,6,c.length)] (Ds a))] ++ kq [4,5,6,215]
abbrev ai6 (a:List (List ab)) (b:Int) (c:List ab):=kq [0,1,2] ++ [(3,.Fm 3 (a.length) [(b.toNat,6,c.length)] (Ds a))] ++ kq [4,5,6,231]
abbrev OD (a:List (List ab)) (b:Int) (c:List ab):=kq [0,1,2] ++ [(3,.Fm 3 (a.length) [(b.toNat,6,c.length)] (Ds a))] ++ kq [4,5,6,7]
abbrev ai7 (a:List (List ab)) (b:Int) (c:(List ab)):=kq [0,1,2] ++ [(3,.Fm 3 (a.length) [(b.toNat,6,c.length)] (Ds a))] ++ kq [4,5,6]
abbrev OE (a:List (List ab)) (b:Int) (c:List ab):=kq [0,1,2] ++ [(3,.Fm 3 (a.length) [(b.toNat,6,c.length)] (Ds a))] ++ kq [4,5,6]
abbrev XY (a:List ab) (b:Int) (c:ab):=(6,ri 6 bH ab.d (a.set b.toNat c))
abbrev ai8 (a:List (List ab)) (e:Int) (b:List ab) (c:Int) (d:ab):=kq [0,1,2] ++ [(3,.Fm 3 (a.length) [(e.toNat,6,(b.set c.toNat d).length)] (Ds a))] ++ kq [4,5] ++ [(XY b c d)] ++ kq [7]
abbrev ai9 (a:List (List ab)) (b:Int) (c:(List ab)) (d:Int) (e:List ab):=kq [0,1,2] ++ [(3,.Fm 3 ((a.set b.toNat c).length) [(d.toNat,6,e.length)] (mG (a.set b.toNat c)))] ++ kq [4,5,6]
abbrev fK:=kq [0,1,2]
abbrev XZ:=kq [0,1,50]
abbrev X0:=kq [0,1,81]
abbrev acK:=kq [0,1,98,194]
abbrev aja:=kq [0,16,32,320,416,464,496,512,1216]
abbrev ajb:=kq [0,16,32,320,416,464,496,512,784]
abbrev Ix:=kq [0,16,32,320,416,464,496,512]
abbrev fU:=kq [0,16,32]
abbrev jt:=kq [0,16]
abbrev ajc:=kq [0] ++ [(1,.ak 16),(2,.ak 32)]
abbrev ajd:=kq [0] ++ [(1,.nil 1 aiP)]
abbrev acL:=kq [0] ++ [(1,.nil 4 aiO)]
abbrev SH:=kq [16,32]
abbrev aje (a:Int) (b:List (List ab)):=aJ [(a.toNat,55,(yH b a).length)] (Ds b) a.toNat
abbrev acM (b:List Int) (a:Int) (c:List Int) (d:Int):=Us .u16 (b.getD a.toNat 0) (IntKind.u16.wrap ((W9 c a d)))
abbrev acN (a:Int) (b:Int) (c:Int):=av ((Xr a b)+c)
abbrev acO (a:List aa) (b:Int):=air a b
abbrev ajf (a:List aa) (b:Int) (c:Int):=aiu a b c
abbrev ajg (a:List aa) (b:Int):=aii a b
abbrev jL (h:Int) (i:Int) (j:List Int) (k:List Int) (l:List (List ab)) (a:List ab) (b:List ab) (c:Bool) (d:List Int) (e:Bool) (f:List Int) (g:Int):=(0,vN 12 [(aI h),(aI i),(CT j),(Pt k),(B0 l),(yI a),(Xf b),(aB c),(di d),(aB e),(di f),(aI g)])
theorem Lh (N c a r) (h:vB N c a=some r):Sd 82 [(.agg (Uw c)),(.op 0 0 0)] [(0,vO 1 [(aI a)])] 1 (aB r) [(0,vO 1 [(aI a)])]:=by
 unfold vB at h;refine sO Tryz.f82 9 fun E b=>?_;refine ax b 1 (kp [1,2]) (kq [0,1]) 33 <| dV b 1 (kp [3]) (kq [0]) 129 (pc o1 (pc o1 pn)) ?_
 cases h;exact iG b 0 Tryz.f82 (kp [3]) (kq [0]) 129
noncomputable abbrev C_3:=bt Tryz.f151
def Bd (N:Nat) (s:List bw) (a:Int) (K:Int->Option (Int)):Prop:=∀ (x:Int) (r:Int),K x=some r->∀ E,ba E 1->aK Tryz.prog E 151 19 (bd E [(0,vO 1 [(aI a)])] (aI r)) [.code (C_3 52),.inLoop (C_3 52),.inBlock 0,.code (C_3 7)] ⟨[(0,(qY s)),(1,(.fn (.func 82) [] [(.op 0 0 0)])),(7,(Aq s)),(8,(aI x))],[(0,vO 1 [(aI a)])],1⟩
theorem As (N s b fuel):Bd N s b (dZ N s b fuel):=by
 induction fuel with
 | zero=>intro _ r h;rw [dZ.eq_1] at h;cases h
 | succ fuel d =>
  intro x r h E a;rw [dZ.eq_2] at h;refine ax a 1 Ox (kq [0]) 17 <| dr 1 9 h (fun e h=>?_) (fun e h=>?_)
  ·refine ax a 4 rT (kq [0]) 49 ?_;obtain ⟨c,h⟩:=ae h;obtain ⟨f,g,h⟩:=aW h;refine bK a 1 [(5,⟨[0],true,(aB f),[],0,false,none⟩)] K8 (kq [0]) 145 (pc c (pc (Lh _ _ _ _ g) pn)) <| dr 0 16 h (fun i h=>?_) (fun i h=>?_)
   ·refine ax a 1 (kp [4]) (kq [0]) 177 ?_;obtain rfl:=jS h;exact iG a 0 Tryz.f151 (kp [4]) (kq [0]) 177
   ·refine ax a 2 nY (kq [0]) 177 <| cY a 1 nY (kq [0]) 1 (d _ _ h E a)
  ·refine ax a 2 (kp [4]) (kq [0]) 33 ?_;cases h;exact iG a 0 Tryz.f151 (kp [4]) (kq [0]) 49
theorem Cz (N s b r) (h:rL N s b=some r):Sd 151 [(qY s),(.fn (.func 82) [] [(.op 0 0 0)])] [(0,vO 1 [(aI b)])] 1 (aI r) [(0,vO 1 [(aI b)])]:=by
 unfold rL at h;refine sO Tryz.f151 19 fun E a=>?_;refine ax a 1 (kp [0,1]) (kq [0]) 17 <| ax a 2 nY (kq [0]) 65 <| cY a 2 nY (kq [0]) 1 (As N _ _ N _ _ h E a)
theorem Au (N s a r) (h:pA N s a=some r):Sd 81 [(qY s),(.fn (.func 82) [] [(.op 0 0 0)])] [(0,vO 1 [(aI a)])] 1 (aB r) [(0,vO 1 [(aI a)])]:=by
 unfold pA at h;refine sO Tryz.f81 9 fun E b=>?_;refine ax b 1 (kp [0,1]) (kq [0]) 17 ?_;obtain ⟨c,d,h⟩:=aW h;refine bK b 1 [(2,⟨[0],true,(aI c),[],0,false,none⟩)] (kp [4]) (kq [0]) 97 (pc (Cz _ _ _ _ d) pn) ?_;cases h;exact iG b 0 Tryz.f81 (kp [4]) (kq [0]) 97
theorem yN (N n l r) (h:qo N n l=some r):Sd 36 [(aI n),(qY l)] [] 0 (aI r) []:=by
 unfold qo at h;refine sO Tryz.f36 17 fun E a=>?_;refine ax a 1 (kp [1,2]) (kq [0]) 32 <| dV a 2 (kp [1,2,10]) (kq [0]) 128 (pc o1 (pc (fun b:(EA n)=true=>(pc o1 pn)) (pc (fun b:(EA n)=true=>(pc b pn)) (pc (fun hq:(EA n)=true=>(pc hq pn)) pn)))) <| dr 0 10 h (fun c h=>?_) (fun c h=>?_)
 ·refine ax a 1 (kp [4]) [] 144 ?_;cases h;exact iG a 0 Tryz.f36 (kp [4]) [] 144
 ·refine ax a 3 (kp [1,2,13]) (kq [0]) 176 <| dr 0 13 h (fun d h=>?_) (fun d h=>?_)
  ·refine ax a 1 (kp [4]) [] 192 ?_;cases h;exact iG a 0 Tryz.f36 (kp [4]) [] 192
  ·obtain ⟨e,f,h⟩:=aW h;refine bK a 3 [(2,⟨[0],true,(aB e),[],0,false,none⟩)] (kp [16]) [] 224 (pc (Au _ _ _ _ f) pn) <| dr 0 16 h (fun g h=>?_) (fun g h=>?_)
   ·refine ax a 1 (kp [4]) [] 240 ?_;cases h;exact iG a 0 Tryz.f36 (kp [4]) [] 240
   ·refine ax a 2 (kp [4]) [] 240 ?_;cases h;exact iG a 0 Tryz.f36 (kp [4]) [] 240
noncomputable abbrev C_8:=bt Tryz.f211
def OF (N:Nat) (K:Int->(List Int)->Option nf):Prop:=∀ (a:Int) (out:List Int) (r:(List Int)),K a out=some r->∀ E,ba E 0->aK Tryz.prog E 211 14 (bd E [] (fP r)) [.code (C_8 56),.inLoop (C_8 56),.inBlock 0,.code (C_8 15)] ⟨[(0,(wD a)),(3,(nF out))],[(0,aU out)],1⟩
theorem Mo (N fuel):OF N (oM N fuel):=by
 induction fuel with
 | zero=>intro _ _ r h;rw [oM.eq_1] at h;cases h
 | succ fuel d =>
  intro b out r h E a;rw [oM.eq_2] at h;refine ax a 2 So (kq [0]) 33 <| dr 0 5 h (fun e h=>?_) (fun e h=>?_)
  ·obtain ⟨c,h⟩:=ae h;refine dV a 3 (kp [0] ++ [(3,.l5 ((adZ out b).length))]) [(97,ri 97 (cU .u16) 0 (adZ out b))] 129 (pc (Eq.refl out.length) (pc c (pc (z1 1) (pc (oN [[(aed b)]]) (pc (bL out (K2 b)) (pc (bL out (K2 b)) (pc (LR (cU .u16) 0 out (K2 b)) pn))))))) <| dV a 1 (kp [0,3]) (kq [97]) 177 (pc (show (0:Int)<=16 by decide) pn) <| cY a 1 (kp [0,3]) [(0,.ak 97)] 1 (d _ _ _ h E a)
  ·refine ax a 2 (kp [2]) (kq [0]) 65 ?_;obtain rfl:=jS h;exact mh a 0 Tryz.f211 [0] [(2,rh (cU .u16) 0 out)] [] 65 (pc (Eq.refl out.length) (pc (z1 out.length) (pc (eZ (cU .u16) 0 out) pn))) [] pn
theorem B5 (N n r) (h:tG N n=some r):Sd 211 [(wD n)] [] 0 (fP r) []:=by
 unfold tG at h;refine sO Tryz.f211 14 fun E a=>?_;refine ax a 1 (kp [0]) [] 16 <| ax a 1 (kp [0,3]) [] 32 <| cY a 3 (kp [0] ++ [(3,.tD 0)]) [(0,.nil 1 (fun zi=>(cU .u16) (([]:List Int).getD zi 0)))] 1 (Mo N N _ _ _ h E a)
noncomputable abbrev apT:=bt Tryz.f208
def Ux (N:Nat) (K:(List Int)->Option nf):Prop:=∀ (a:List Int) (r:(List Int)),K a=some r->∀ E,ba E 0->aK Tryz.prog E 208 21 (bd E [] (fP r)) [.code (apT 24),.inLoop (apT 24),.inBlock 0,.code (apT 7)] ⟨[(0,(di a))],[],0⟩
theorem SI (N fuel):Ux N (tH N fuel):=by
 induction fuel with
 | zero=>intro _ r h;rw [tH.eq_1] at h;cases h
 | succ fuel f =>
  intro a r h E d;rw [tH.eq_2] at h;obtain ⟨c,h⟩:=ae h;refine dV d 2 (kp [0,14]) [] 192 (pc (fun b:(K5 a)=true=>(pc b pn)) (pc (fun b:(K5 a)=true=>(pc b pn)) (pc (fun b:(K5 a)=true=>(pc b (pc b (pc (c b) pn)))) (pc (fun b:(K5 a)=true=>(pc b pn)) (pc (fun b:(K5 a)=true=>(pc b pn)) (pc (fun hq:(K5 a)=true=>(pc hq pn)) pn)))))) <| dr 0 14 h (fun g h=>?_) (fun g h=>?_)
  ·obtain ⟨e,h⟩:=ae h;obtain ⟨i,h⟩:=ae h;refine dV d 2 [(0,rh (cU .u16) 0 ((a.take (Mm a)).drop 0))] [] 288 (pc e (pc i (pc (show (av ((Ao a) - 1)).toNat - 0=((a.take (Mm a)).drop 0).length from (Md a 0 (Mm a) e)) (pc (WJ (cU .u16) 0 a 0 (Mm a)) pn)))) <| cY d 2 (kp [0]) [] 0 (f _ _ h E d)
  ·refine ax d 2 (kp [2]) [] 224 ?_;obtain rfl:=jS h;exact iG d 0 Tryz.f208 (kp [2]) [] 224
theorem jx (N n r) (h:k9 N n=some r):Sd 208 [(di n)] [] 0 (fP r) []:=by
 unfold k9 at h;refine sO Tryz.f208 21 fun E a=>?_;refine ax a 1 (kp [0]) [] 16 <| cY a 3 (kp [0]) [] 0 (SI N N _ _ h E a)
noncomputable abbrev amZ:=bt Tryz.f235
theorem qD (N s r) (h:gL N s=some r):Sd 235 [(di s)] [] 0 (fP r) []:=by
 unfold gL at h;refine sO Tryz.f235 8 fun E a=>?_;refine ax a 1 (kp [0]) [] 16 <| ax a 2 (kp [0,4]) [] 48 <| sA 0 [.code (amZ 13),.code (amZ 7)] <| aK.apC (o:=.tmp 4) (x:=amZ 26) (y:=amZ 27) (n:=s.length) (by kernel_rfl) (by kernel_rfl) (fun b=>?_) ?_
 ·replace b:=List.length_eq_zero_iff.1 b;replace h:(some ([]:List Int))=some r:=by rw [b] at h;simpa using h
  refine ax a 1 (kp [2]) [] 64 ?_;cases h;exact mh a 0 Tryz.f235 [] [(2,rh (cU .u16) 0 ([]:List Int))] [] 64 (pc (Eq.refl 0) pn) [] pn
 ·obtain ⟨c,h⟩:=ae h;refine dV a 2 [(2,.l5 ((Pr s).length))] [(80,ri 80 (cU .u16) 0 (Pr s))] 112 (pc (Eq.refl 0) (pc c (pc (show ∀ zi,zi < s.length->AV.xe ((fun zi=>(cU .u16) (s.getD zi 0)) zi)=true from (fun _ _=>rfl)) (pc (bL ([]:List Int) s) (pc (bL ([]:List Int) s) (pc (show ∀ zi,zi < (Pr s).length->(fun zi=>(cU .u16) ((Pr s).getD zi 0)) zi=((fun d=>if d < 0 then (fun _=>[]) d else (fun zi=>(cU .u16) (s.getD zi 0)) (d - 0))) zi from (CO (cU .u16) 0 ([]:List Int) s rfl (fun f e=>absurd e (iq _)) (fun _ _=>rfl))) pn)))))) ?_;cases h;exact mh a 0 Tryz.f235 [80] [(2,rh (cU .u16) 0 (Pr s))] [] 112 (pc (Eq.refl ((Pr s).length)) (pc (z1 ((Pr s).length)) (pc (eZ (cU .u16) 0 (Pr s)) pn))) [] pn
theorem oh (N neg n r) (h:nu N neg n=some r):Sd 210 [(aB neg),(di n)] [] 0 (dM r) []:=by
 unfold nu at h;refine sO Tryz.f210 15 fun E a=>?_;refine ax a 1 Iq (kq [0]) 16 ?_;obtain ⟨b,c,h⟩:=aW h;refine bK a 1 [(1,oT (fP b))] Iq (kq [0]) 64 (pc (jx _ _ _ c) pn) <| ax a 2 (kp [0,1,4,9]) (kq [0]) 112 <| dr 0 9 h (fun d h=>?_) (fun d h=>?_)
 ·refine dV a 1 (kp [4]) (kq [0]) 144 (pc o1 pn) ?_;cases h;exact mh a 0 Tryz.f210 [] (kp [4]) [(16,.var 0 [.ak,rh (cU .u16) 0 ([]:List Int)])] 144 (pc (Eq.refl 0) pn) [16] (pc o1 pn)
 ·obtain ⟨e,f,h⟩:=aW h;refine bK a 2 [(2,oT (fP e))] (kp [4]) (kq [0]) 192 (pc (qD _ _ _ f) (pc o1 pn)) ?_;cases h;exact mh a 0 Tryz.f210 [] (kp [4]) [(16,.ak 0)] 192 pn [16] (pc o1 pn)
theorem VQ (N n r) (h:Kz N n=some r):Sd 153 [(aI n)] [] 0 (dM r) []:=by
 unfold Kz at h;refine sO Tryz.f153 14 fun E a=>?_;refine ax a 1 (kp [0,2]) (kq [0]) 16 <| ax a 2 XF (kq [0]) 48 <| dr 0 4 h (fun c h=>?_) (fun c h=>?_)
 ·obtain ⟨d,e,h⟩:=aW h;obtain ⟨b,f,h⟩:=aW h;refine bK a 1 [(3,oT (fP d)),(4,oT (dM b))] (kp [2]) (kq [0]) 144 (pc (B5 _ _ _ e) (pc (oh _ _ _ _ f) (pc o1 pn))) ?_;obtain rfl:=jS h;exact mh a 0 Tryz.f153 [] (kp [2]) [(16,.ak 0)] 144 pn [16] (pc o1 pn)
 ·obtain ⟨g,i,h⟩:=aW h;obtain ⟨j,k,h⟩:=aW h;refine bK a 2 [(2,oT (fP g)),(3,oT (dM j))] (kp [2]) (kq [0]) 128 (pc (B5 _ _ _ i) (pc (oh _ _ _ _ k) (pc o1 pn))) ?_;obtain rfl:=jS h;exact mh a 0 Tryz.f153 [] (kp [2]) [(16,.ak 0)] 128 pn [16] (pc o1 pn)
noncomputable abbrev apU:=bt Tryz.f236
def Uy (N:Nat) (n:List Int) (K:Int->Int->Option (Int×Bool)):Prop:=∀ (out:Int) (i:Int) (r:Int×Bool),K out i=some r->∀ E,ba E 0->aK Tryz.prog E 236 25 (bd E [] (Xk r)) [.code (apU 244),.inLoop (apU 244),.inBlock 0,.code (apU 31)] ⟨[(0,(di n)),(4,(wD out)),(5,(aI i))],[],0⟩
theorem SJ (N n fuel):Uy N n (rj N n fuel):=by
 induction fuel with
 | zero=>intro _ _ r h;rw [rj.eq_1] at h;cases h
 | succ fuel b =>
  intro out i r h E a;rw [rj.eq_2] at h;refine ax a 2 (kp [0,4,5,13]) [] 32 <| dr 0 13 h (fun d h=>?_) (fun d h=>?_)
  ·obtain ⟨c,h⟩:=ae h;refine dV a 3 OB [] 176 (pc (show (0:Int)<=16 by decide) (pc c pn)) <| ax a 1 OB [] 224 <| cY a 1 OB [] 0 (b _ _ _ h E a)
  ·refine ax a 2 (kp [2,3]) [] 80 ?_;cases h;exact iG a 0 Tryz.f236 (kp [2,3]) [] 80
theorem Pu (N n r) (h:Ej N n=some r):Sd 236 [(di n)] [] 0 (Xk r) []:=by
 unfold Ej at h;refine sO Tryz.f236 25 fun E a=>?_;refine ax a 1 (kp [0]) [] 32 <| ax a 2 (kp [0,8]) [] 80 <| dr 0 8 h (fun b h=>?_) (fun b h=>?_)
 ·refine ax a 1 (kp [2,3]) [] 112 ?_;cases h;exact iG a 0 Tryz.f236 (kp [2,3]) [] 112
 ·refine ax a 2 (kp [0,4]) [] 96 <| ax a 2 OB [] 160 <| cY a 2 OB [] 0 (SJ N _ N _ _ _ h E a)
noncomputable abbrev apV:=bt Tryz.f215
def OH (N:Nat) (a:List Int) (b:List Int) (K:Int->Option (Int)):Prop:=∀ (i:Int) (r:Int),K i=some r->∀ E,ba E 0->aK Tryz.prog E 215 43 (bd E [] (aI r)) [.code (apV 116),.inLoop (apV 116),.inBlock 0,.code (apV 15)] ⟨[(0,(di a)),(1,(di b)),(5,(aI i))],[],0⟩
theorem Mp (N a b fuel):OH N a b (mw N a b fuel):=by
 induction fuel with
 | zero=>intro _ r h;rw [mw.eq_1] at h;cases h
 | succ fuel f =>
  intro i r h E d;rw [mw.eq_2] at h;refine ax d 2 (kp [0,1,5,20]) [] 32 <| dr 0 20 h (fun g h=>?_) (fun g h=>?_)
  ·obtain ⟨c,h⟩:=ae h;obtain ⟨e,h⟩:=ae h;refine dV d 4 (kp [0,1,5,31]) [] 176 (pc c (pc e pn)) <| dr 0 31 h (fun j h=>?_) (fun j h=>?_)
   ·refine dV d 1 (kp [4]) [] 368 (pc c (pc e pn)) ?_;cases h;exact iG d 0 Tryz.f215 (kp [4]) [] 368
   ·refine ax d 2 nX [] 224 <| cY d 1 nX [] 0 (f _ _ h E d)
  ·refine ax d 2 (kp [4]) [] 48 ?_;cases h;exact iG d 0 Tryz.f215 (kp [4]) [] 48
theorem Iy (N a b r) (h:tI N a b=some r):Sd 215 [(di a),(di b)] [] 0 (aI r) []:=by
 unfold tI at h;refine sO Tryz.f215 43 fun E c=>?_;refine ax c 1 (kp [0,1]) [] 16 <| ax c 2 (kp [0,1,10]) [] 96 <| dr 0 10 h (fun d h=>?_) (fun d h=>?_)
 ·refine ax c 1 (kp [4]) [] 192 ?_;cases h;exact iG c 0 Tryz.f215 (kp [4]) [] 192
 ·refine ax c 3 nX [] 160 <| cY c 2 nX [] 0 (Mp N _ _ N _ _ h E c)
noncomputable abbrev apW:=bt Tryz.f237
def SK (N:Nat) (a:List Int) (b:Int) (K:(List Int)->Int->Int->Option ((List Int)×Int)):Prop:=∀ (q:List Int) (rest:Int) (i:Int) (r:(List Int)×Int),K q rest i=some r->∀ E,ba E 0->aK Tryz.prog E 237 43 (bd E [] (acb r)) [.code (apW 244),.inLoop (apW 244),.inBlock 0,.code (apW 31)] ⟨[(0,(di a)),(1,(a16 b)),(6,(nF q)),(7,(Mn rest)),(8,(aI i))],[(0,aU q)],1⟩
theorem PK (N a b fuel):SK N a b (pO N a b fuel):=by
 induction fuel with
 | zero=>intro _ _ _ r h;rw [pO.eq_1] at h;cases h
 | succ fuel f =>
  intro q rest i r h E c;rw [pO.eq_2] at h;refine ax c 2 (kp [0,1,6,7,8,16]) (kq [0]) 33 <| dr 0 16 h (fun g h=>?_) (fun g h=>?_)
  ·obtain ⟨j,h⟩:=ae h;refine dV c 4 yM (kq [0]) 177 (pc (show (0:Int)<=16 by decide) (pc j pn)) ?_;obtain ⟨d,h⟩:=ae h;obtain ⟨e,h⟩:=ae h;refine dV c 1 (kp [0,1] ++ [(6,.l5 ((aop q i rest a b).length))] ++ kp [7,8]) [(0,ri 0 (cU .u16) 0 (aop q i rest a b))] 321 (pc d (pc e (pc (dR e) (pc (bm q i.toNat (ack rest a i b)) (pc (bm q i.toNat (ack rest a i b)) (pc (dK (cU .u16) 0 q i.toNat (ack rest a i b)) pn)))))) <| dV c 0 yM (kq [0]) 401 (pc d pn) <| ax c 1 yM (kq [0]) 449 <| cY c 1 yM (kq [0]) 1 (f _ _ _ _ h E c)
  ·obtain ⟨k,l,h⟩:=aW h;refine bK c 2 [(1,⟨[],true,(fP k),[],0,true,none⟩)] (kp [4,5]) [] 129 (pc (jx _ _ _ l) (pc (z1 q.length) pn)) ?_;cases h;exact iG c 0 Tryz.f237 (kp [4,5]) [] 129
theorem X1 (N a b r) (h:Ek N a b=some r):Sd 237 [(di a),(a16 b)] [] 0 (acb r) []:=by
 unfold Ek at h;refine sO Tryz.f237 43 fun E d=>?_;refine ax d 1 (kp [0,1]) [] 32 ?_;obtain ⟨c,h⟩:=ae h;refine dV d 1 (kp [0,1] ++ [(6,.l5 (aiw a))]) [(64,ri 64 (cU .u16) 0 (Xc a))] 96 (pc c.1 (pc (Int.le_refl (Ao a)) (pc c.2.1 (pc c.2.2 (pc (lR a.length (0:Int)) (pc (lR a.length (0:Int)) (pc (A5 (cU .u16) 0 0 a.length) pn))))))) <| ax d 1 (kp [0,1,6,7]) (kq [64]) 112 <| ax d 2 yM (kq [64]) 176 <| cY d 2 yM [(0,.ak 64)] 1 (PK N _ _ N _ _ _ _ h E d)
noncomputable abbrev asw:=bt Tryz.f249
def F5 (N:Nat) (K:Int->Int->Option (Int)):Prop:=∀ (a:Int) (n:Int) (r:Int),K a n=some r->∀ E,ba E 0->aK Tryz.prog E 249 13 (bd E [] (aI r)) [.code (asw 14),.code (asw 15)] ⟨[(0,(a16 a)),(2,(aI n))],[],0⟩
theorem wE (N):F5 N (fa N):=by
 intro b n r h E a;unfold fa at h;obtain ⟨c,h⟩:=ae h;refine dV a 0 (kp [2]) [] 112 (pc c pn) ?_;cases h;exact iG a 0 Tryz.f249 (kp [2]) [] 112
theorem Iz (N x r) (h:pP N x=some r):Sd 249 [(a16 x)] [] 0 (aI r) []:=by
 unfold pP at h;refine sO Tryz.f249 13 fun E a=>?_;refine ax a 1 (kp [0,2]) [] 16 <| ax a 2 XF [] 48 <| dr 0 4 h (fun b h=>?_) (fun b h=>?_)
 ·refine dV a 1 (kp [0]) [] 96 (pc (show (0:Int)<=8 by decide) pn) <| ax a 0 (kp [0,2]) [] 112 <| cY a 1 (kp [0,2]) [] 0 (wE N _ _ _ h E a)
 ·exact cY a 2 (kp [0,2]) [] 0 (wE N _ _ _ h E a)
theorem zN (N x r) (h:ju N x=some r):Sd 238 [(a16 x)] [] 0 (aI r) []:=by
 unfold ju at h;refine sO Tryz.f238 6 fun E a=>?_;refine ax a 1 (kp [0]) [] 16 ?_;obtain ⟨b,c,h⟩:=aW h;refine bK a 1 [(1,oT (aI b))] (kp [2]) [] 80 (pc (Iz _ _ _ c) pn) ?_;cases h;exact iG a 0 Tryz.f238 (kp [2]) [] 80
noncomputable abbrev apX:=bt Tryz.f239
def OI (N:Nat) (a:List Int) (b:Int) (K:(List Int)->Int->Option nf):Prop:=∀ (out:List Int) (x:Int) (r:(List Int)),K out x=some r->∀ E,ba E 0->aK Tryz.prog E 239 41 (bd E [(0,aU r)] (.os 0 0 r.length)) [.code (apX 116),.inLoop (apX 116),.inBlock 0,.code (apX 15)] ⟨[(1,(aI b)),(5,(nF out)),(13,(di a)),(KT a),(15,(aI x))],[(0,aU out)],1⟩
theorem Mq (N a b fuel):OI N a b (my N a b fuel):=by
 induction fuel with
 | zero=>intro _ _ r h;rw [my.eq_1] at h;cases h
 | succ fuel f =>
  intro out x r h E c;rw [my.eq_2] at h;refine ax c 1 (kp [1,5,13,14,15,16]) (kq [0]) 17 <| dr 1 16 h (fun g h=>?_) (fun g h=>?_)
  ·obtain ⟨i,h⟩:=ae h;refine dV c 4 (kp [1,5,6,7,13,14,15]) (kq [0]) 97 (pc i pn) ?_;obtain ⟨j,h⟩:=ae h;refine dV c 1 (kp [1,5,6,8,13,14,15]) (kq [0]) 177 (pc j pn) ?_;obtain ⟨d,h⟩:=ae h;refine dV c 1 (kp [1] ++ [(5,.l5 ((ZG out x a b).length))] ++ kp [6,8,13,14,15]) [(0,ri 0 (cU .u16) 0 (ZG out x a b))] 321 (pc d (pc (dR d) (pc d (pc (dR d) (pc (bm out x.toNat (acM out x a b)) (pc (bm out x.toNat (acM out x a b)) (pc (dK (cU .u16) 0 out x.toNat (acM out x a b)) pn))))))) ?_;obtain ⟨e,h⟩:=ae h;refine dV c 0 (kp [1] ++ [(5,.l5 ((aot out x a b).length))] ++ kp [13,14,15]) [(0,ri 0 (cU .u16) 0 (aot out x a b))] 449 (pc (show (0:Int)<=16 by decide) (pc e (pc (dR e) (pc (bm (ZG out x a b) (KN x) (acn a x b)) (pc (bm (ZG out x a b) (KN x) (acn a x b)) (pc (dK (cU .u16) 0 (ZG out x a b) (KN x) (acn a x b)) pn)))))) <| ax c 1 XN (kq [0]) 481 <| cY c 1 XN (kq [0]) 1 (f _ _ _ h E c)
  ·refine ax c 2 (kp [4]) (kq [0]) 49 ?_;obtain rfl:=jS h;exact iG c 0 Tryz.f239 (kp [4]) (kq [0]) 49
theorem IA (N a d r) (h:wo N a d=some r):Sd 239 [(di a),(aI d)] [] 0 (.os 0 0 r.length) [(0,aU r)]:=by
 unfold wo at h;refine sO Tryz.f239 41 fun E b=>?_;refine ax b 1 (kp [0,1]) [] 16 ?_;obtain ⟨c,h⟩:=ae h;refine dV b 1 (kp [0,1] ++ [(5,.l5 ((aiG a).length))]) [(64,ri 64 (cU .u16) 0 (aiG a))] 96 (pc c.1 (pc (Int.le_refl (RV a)) (pc c.2.1 (pc c.2.2 (pc (lR (aiz a) (0:Int)) (pc (lR (aiz a) (0:Int)) (pc (A5 (cU .u16) 0 0 (aiz a)) pn))))))) <| ax b 2 XN (kq [64]) 144 <| cY b 2 XN [(0,.ak 64)] 1 (Mq N _ _ N _ _ _ h E b)
noncomputable abbrev IC:=bt Tryz.f240
def SL (N:Nat) (a:Nat) (un:Nat) (v:List Int) (b:List Int) (K:Int->Int->Option Oc):Prop:=∀ (q:Int) (rest:Int) (r:Int×(List Int)),K q rest=some r->∀ E,ba E 1->aK Tryz.prog E 240 161 (bd E [(0,aU r.2)] (Ps r)) [.code (IC 248),.inLoop (IC 248),.inBlock 0,.code (IC 63)] ⟨[(0,(.os 0 a un)),(1,(di v)),(Xp v),(7,(wD q)),(8,(wD rest))],[(0,aU b)],1⟩
def IE (N:Nat) (c:Nat) (un:Nat) (v:List Int) (q:Int) (K:(List Int)->Int->Int->Int->Option Oc):Prop:=∀ (b:List Int) (carry:Int) (a:Int) (x:Int) (r:Int×(List Int)),K b carry a x=some r->∀ E,ba E 1->aK Tryz.prog E 240 161 (bd E [(0,aU r.2)] (Ps r)) [.code (IC 2036),.inLoop (IC 2036),.inBlock 2,.code (IC 255)] ⟨[(0,(.os 0 c un)),(1,(di v)),(Xp v),(7,(wD q)),(9,(wD carry)),(10,(aI a)),(84,(aI (RV v))),(85,(aI x))],[(0,aU b)],1⟩
def SN (N:Nat) (c:Nat) (un:Nat) (v:List Int) (q:Int) (d:List Int) (a:Int) (x:Int) (K:Int->Option Oc):Prop:=∀ (b:Int) (r:Int×(List Int)),K b=some r->∀ E,ba E 1->aK Tryz.prog E 240 161 (bd E [(0,aU r.2)] (Ps r)) [.code (IC 521422),.code (IC 521423),.inBlock 3,.code (IC 16295),.inLoop (IC 2036),.inBlock 2,.code (IC 255)] ⟨[(0,(.os 0 c un)),(1,(di v)),(Xp v),(7,(wD q)),(10,(aI a)),(11,(aI x)),(12,(wD b)),(84,(aI (RV v))),(85,(aI x))],[(0,aU d)],1⟩
theorem GZ (N:Nat) (b:Nat) (un:Nat) (v:List Int) (q:Int) (c:List Int) (a:Int) (x:Int) (i:(List Int)->Int->Int->Int->Option Oc) (j:IE N b un v q i):SN N b un v q c a x (ug N b un v q c a x i):=by
 intro g r h E d;unfold ug at h;refine dV d 0 (kp [0,1,5,7,9,10,11,12,84,85]) (kq [0]) 49 (pc (show (0:Int)<=16 by decide) pn) ?_;obtain ⟨f,h⟩:=ae h;obtain ⟨e,h⟩:=ae h;refine dV d 1 (kp [0,1,5,7,9,11,13,84,85]) (kq [0]) 241 (pc f (pc (show (eu b x.toNat) < c.length by have k:=f;have l:=e;simp only [fw];omega) pn)) <| dV d 1 (kp [0,1,5,7,9,13,84,85]) [(0,ri 0 (cU .u16) 0 (c.set (eu b x.toNat) (aco c b x g a)))] 337 (pc f (pc (show (eu b x.toNat) < c.length by have k:=f;have l:=e;simp only [fw];omega) (pc (bm c (eu b x.toNat) (aco c b x g a)) (pc (dK (cU .u16) 0 c (eu b x.toNat) (aco c b x g a)) pn)))) <| dV d 0 Sm (kq [0]) 385 (pc (show (0:Int)<=16 by decide) pn) <| ax d 1 Sm (kq [0]) 417 <| cY d 1 Sm (kq [0]) 1 (j _ _ _ _ _ h E d)
def SO (N:Nat) (d:Nat) (un:Nat) (v:List Int) (q:Int) (K:(List Int)->Int->Int->Option Oc):Prop:=∀ (a:List Int) (b:Int) (c:Int) (r:Int×(List Int)),K a b c=some r->∀ E,ba E 1->aK Tryz.prog E 240 161 (bd E [(0,aU r.2)] (Ps r)) [.code (IC 130740),.inLoop (IC 130740),.inBlock 4,.code (IC 16343),.code (IC 511)] ⟨[(0,(.os 0 d un)),(1,(di v)),(Xp v),(7,(a64 (IntKind.u64.wrap (q - 1)))),(14,(Mn b)),(126,(FZ v)),(127,(aI c))],[(0,aU a)],1⟩
def SP (N:Nat) (K:(List Int)->Int->Option Oc):Prop:=∀ (a:List Int) (b:Int) (r:Int×(List Int)),K a b=some r->∀ E,ba E 1->aK Tryz.prog E 240 161 (bd E [(0,aU r.2)] (Ps r)) [.code (IC 1022),.code (IC 1023)] ⟨[(7,(wD b))],[(0,aU a)],1⟩
theorem G0 (N):SP N (pQ N):=by
 intro b c r h E a;unfold pQ at h;refine ax a 0 (kp [4]) (kq [0]) 49 ?_;cases h;exact iG a 0 Tryz.f240 (kp [4]) (kq [0]) 49
theorem PM (N a un v q fuel):SO N a un v q (mi N a un v q fuel):=by
 induction fuel with
 | zero=>intro _ _ _ r h;rw [mi.eq_1] at h;cases h
 | succ fuel n =>
  intro b g f r h E c;rw [mi.eq_2] at h;refine ax c 1 (kp [0,1,5,7,14,126,127,128]) (kq [0]) 17 <| dr 1 128 h (fun o h=>?_) (fun o h=>?_)
  ·refine ax c 4 (kp [0,1,5,7,14,15,126,127]) (kq [0]) 49 ?_;obtain ⟨d,h⟩:=ae h;obtain ⟨i,h⟩:=ae h;obtain ⟨k,h⟩:=ae h;refine dV c 1 (kp [0,1,5,7,14,15,126,127]) (kq [0]) 273 (pc d (pc (show (eu a f.toNat) < b.length by have l:=d;have m:=i;simp only [fw];omega) (pc k pn))) <| dV c 1 Ov [(0,ri 0 (cU .u16) 0 (b.set (eu a f.toNat) (ach g b a f v)))] 369 (pc d (pc (show (eu a f.toNat) < b.length by have l:=d;have m:=i;simp only [fw];omega) (pc (bm b (eu a f.toNat) (ach g b a f v)) (pc (dK (cU .u16) 0 b (eu a f.toNat) (ach g b a f v)) pn)))) <| dV c 0 Ov (kq [0]) 417 (pc (show (0:Int)<=16 by decide) pn) <| ax c 1 Ov (kq [0]) 449 <| cY c 1 Ov (kq [0]) 1 (n _ _ _ _ h E c)
  ·obtain ⟨e,h⟩:=ae h;obtain ⟨j,h⟩:=ae h;refine dV c 1 (kp [7]) [(0,ri 0 (cU .u16) 0 (b.set (eu a v.length) (IntKind.u16.wrap ((b.getD (eu a v.length) 0)+(Ik g)))))] 161 (pc e (pc (show (eu a v.length) < b.length by have l:=e;have m:=j;simp only [fw];omega) (pc e (pc (show (eu a v.length) < b.length by have l:=e;have m:=j;simp only [fw];omega) (pc (bm b (eu a v.length) (IntKind.u16.wrap ((b.getD (eu a v.length) 0)+(Ik g)))) (pc (dK (cU .u16) 0 b (eu a v.length) (IntKind.u16.wrap ((b.getD (eu a v.length) 0)+(Ik g)))) pn)))))) <| cY c 1 (kp [7]) (kq [0]) 1 (G0 N _ _ _ h E c)
theorem PN (N c un v q fuel):IE N c un v q (kc N c un v q fuel):=by
 induction fuel with
 | zero=>intro _ _ _ _ r h;rw [kc.eq_1] at h;cases h
 | succ fuel d =>
  intro j carry b x r h E a;rw [kc.eq_2] at h;refine ax a 1 (kp [0,1,5,7,9,10,84,85,86]) (kq [0]) 17 <| dr 1 86 h (fun e h=>?_) (fun e h=>?_)
  ·refine ax a 4 (kp [0,1,5,7,9,10,11,84,85]) (kq [0]) 49 <| ax a 1 XB (kq [0]) 81 <| ax a 2 (kp [0,1,5,7,10,11,12,84,85,91]) (kq [0]) 129 <| dr 0 91 h (fun f h=>?_) (fun f h=>?_)
   ·obtain ⟨g,h⟩:=ae h;refine dV a 0 XB (kq [0]) 289 (pc g pn) <| cY a 1 XB (kq [0]) 1 (GZ N _ _ _ _ _ _ _ _ d _ _ h E a)
   ·exact cY a 2 XB (kq [0]) 1 (GZ N _ _ _ _ _ _ _ _ d _ _ h E a)
  ·refine ax a 3 (kp [0,1,5,7,123]) (kq [0]) 49 <| dr 0 123 h (fun i h=>?_) (fun i h=>?_)
   ·refine ax a 1 (kp [0,1,5,7]) (kq [0]) 97 <| ax a 1 (kp [0,1,5,7,14]) (kq [0]) 113 <| ax a 2 Ov (kq [0]) 145 <| cY a 2 Ov (kq [0]) 1 (PM N _ _ _ _ N _ _ _ _ h E a)
   ·exact cY a 2 (kp [7]) (kq [0]) 1 (G0 N _ _ _ h E a)
theorem PO (N c un v d fuel):SL N c un v d (pR N c un v d fuel):=by
 induction fuel with
 | zero=>intro _ _ r h;rw [pR.eq_1] at h;cases h
 | succ fuel f =>
  intro q rest r h E b;rw [pR.eq_2] at h;obtain ⟨g,h⟩:=ae h;obtain ⟨e,h⟩:=ae h;obtain ⟨i,h⟩:=ae h;refine dV b 2 (kp [0,1,5,7,8,72]) (kq [0]) 417 (pc (fun a:(decide (rest < 65536))=true=>(pc a pn)) (pc (fun a:(ED rest q)=true=>(pc a pn)) (pc (fun a:(ED rest q)=true=>(pc a (pc a (pc (g a) pn)))) (pc (fun a:(ED rest q)=true=>(pc a pn)) (pc (fun a:(ED rest q)=true=>(pc a pn)) (pc (fun a:(ED rest q)=true=>(pc a (pc a pn))) (pc (fun a:(ED rest q)=true=>(pc a (pc (show (0:Int)<=16 by decide) pn))) (pc (fun a:(ED rest q)=true=>(pc a pn)) (pc (fun a:(ED rest q)=true=>(pc a (pc a (pc (e a) pn)))) (pc (fun a:(ED rest q)=true=>(pc a (pc (show (eu c (av ((v.length:Int) - 2)).toNat) < d.length by have l:=(e a);have m:=(i a);simp only [fw];omega) pn))) (pc (fun a:(ED rest q)=true=>(pc a pn)) (pc (fun a:(ED rest q)=true=>(pc a (pc a pn))) (pc (fun a:(ED rest q)=true=>(pc a (pc a pn))) (pc (fun a:(decide (rest < 65536))=true=>(pc a (pc a (pc (fun hq:(!(decide (q > 65535)))=true=>(pc (show (ED rest q)=true from (GV a (GV a hq))) pn)) pn)))) (pc (fun hq:(decide (rest < 65536))=true=>(pc hq pn)) pn))))))))))))))) <| dr 0 72 h (fun j h=>?_) (fun j h=>?_)
  ·refine ax b 3 rT (kq [0]) 465 ?_;obtain ⟨k,h⟩:=ae h;refine dV b 0 rT (kq [0]) 609 (pc k pn) <| cY b 2 rT (kq [0]) 1 (f _ _ _ h E b)
  ·refine ax b 2 (kp [0,1,5,7,9,10]) (kq [0]) 449 <| ax b 2 Sm (kq [0]) 497 <| cY b 2 Sm (kq [0]) 1 (PN N _ _ _ _ N _ _ _ _ _ h E b)
theorem X4 (N b un v d r) (h:El N b un v d=some r):Sd 240 [(.os 0 b un),(di v)] [(0,aU d)] 1 (Ps r) [(0,aU r.2)]:=by
 unfold El at h;refine sO Tryz.f240 161 fun E a=>?_;refine ax a 1 (kp [0,1]) (kq [0]) 17 <| ax a 1 nX (kq [0]) 65 ?_
 obtain ⟨c,h⟩:=ae h;obtain ⟨e,h⟩:=ae h;obtain ⟨f,h⟩:=ae h;refine dV a 1 B3 (kq [0]) 289 (pc c (pc (show (eu b v.length) < d.length by have j:=c;have k:=e;simp only [fw];omega) (pc (show (0:Int)<=16 by decide) (pc f (pc (show (eu b (av ((v.length:Int) - 1)).toNat) < d.length by have j:=f;have k:=e;simp only [fw];omega) pn))))) ?_;obtain ⟨g,h⟩:=ae h;obtain ⟨i,h⟩:=ae h;refine dV a 1 rT (kq [0]) 577 (pc g (pc i (pc g (pc i pn)))) <| cY a 3 rT (kq [0]) 1 (PO N _ _ _ _ N _ _ _ h E a)
noncomputable abbrev afN:=bt Tryz.f213
def PQ (N:Nat) (b:List Int) (a:Int) (c:(List Int)) (K:(List Int)->(List Int)->Int->Option EB):Prop:=∀ (q:List Int) (u:List Int) (j:Int) (r:(List Int)×(List Int)),K q u j=some r->∀ E,ba E 0->aK Tryz.prog E 213 109 (bd E [] (N8 r)) [.code (afN 4084),.inLoop (afN 4084),.inBlock 0,.code (afN 511)] ⟨[(4,(nF q)),(8,(aI a)),(9,(CT u)),(10,(.os 2 0 (b.length - 0))),(11,(aI (RX b))),(12,(aI j))],[(0,aU q),(1,aU u),(2,aU c)],3⟩
def PS (N:Nat) (b:List Int) (c:Int) (q:List Int) (u:List Int) (K:(List Int)->Int->Option EB):Prop:=∀ (a:List Int) (x:Int) (r:(List Int)×(List Int)),K a x=some r->∀ E,ba E 0->aK Tryz.prog E 213 109 (bd E [] (N8 r)) [.code (afN 16372),.inLoop (afN 16372),.inBlock 2,.code (afN 2047)] ⟨[(4,(nF q)),(5,(CT a)),(8,(aI c)),(9,(Pt u)),(81,(aI (RX b))),(82,(aI x))],[(0,aU q),(1,aU a),(2,aU u)],3⟩
theorem OJ (N b c q u fuel):PS N b c q u (n6 N b c q u fuel):=by
 induction fuel with
 | zero=>intro _ _ r h;rw [n6.eq_1] at h;cases h
 | succ fuel k =>
  intro d x r h E a;rw [n6.eq_2] at h;refine ax a 1 (kp [4,5,8,9,81,82,83]) fK 19 <| dr 1 83 h (fun l h=>?_) (fun l h=>?_)
  ·refine ax a 4 (kp [4,5,8,9,13,81,82]) fK 51 ?_;obtain ⟨e,h⟩:=ae h;obtain ⟨f,h⟩:=ae h;obtain ⟨i,h⟩:=ae h;obtain ⟨g,h⟩:=ae h;refine dV a 0 (kp [4] ++ [(5,.l5 ((aoq d x u c).length))] ++ kp [8,9,81,82]) (kq [0] ++ [(1,ri 1 (cU .u16) 0 (aoq d x u c))] ++ kq [2]) 371 (pc e (pc (dR e) (pc f (pc (dR f) (pc (show (0:Int)<=16 by decide) (pc i (pc g (pc (dR g) (pc (bm d x.toNat (acm u x c)) (pc (bm d x.toNat (acm u x c)) (pc (dK (cU .u16) 0 d x.toNat (acm u x c)) pn))))))))))) <| ax a 1 XV fK 403 <| cY a 1 XV fK 3 (k _ _ _ h E a)
  ·obtain ⟨m,n,h⟩:=aW h;obtain ⟨j,o,h⟩:=aW h;refine bK a 2 [(1,⟨[],true,(fP m),[],0,true,none⟩),(3,⟨[],true,(fP j),[],0,true,none⟩)] (kp [4,5]) [] 115 (pc (jx _ _ _ n) (pc (z1 q.length) (pc (jx _ _ _ o) (pc (z1 d.length) pn)))) ?_;cases h;exact iG a 0 Tryz.f213 (kp [4,5]) [] 115
theorem OK (N b f d fuel):PQ N b f d (n7 N b f d fuel):=by
 induction fuel with
 | zero=>intro _ _ _ r h;rw [n7.eq_1] at h;cases h
 | succ fuel k =>
  intro q u j r h E c;rw [n7.eq_2] at h;refine ax c 2 (kp [4,8,9,10,11,12,64]) fK 35 <| dr 0 64 h (fun l h=>?_) (fun l h=>?_)
  ·obtain ⟨m,h⟩:=ae h;obtain ⟨n,h⟩:=ae h;obtain ⟨o,h⟩:=ae h;obtain ⟨g,h⟩:=ae h;obtain ⟨a,p,h⟩:=aW h;obtain ⟨s,h⟩:=ae h;obtain ⟨i,h⟩:=ae h;refine bK c 3 [(10,⟨[1],false,(Ps a),[(0,aU a.2)],0,false,none⟩)] ([(4,.l5 ((q.set j.toNat a.1).length))] ++ kp [8] ++ [(9,.l5 (a.2.length))] ++ kp [10,11,12]) ([(0,ri 0 (cU .u16) 0 (q.set j.toNat a.1))] ++ kq [1,2]) 243 (pc m (pc n (pc o (pc (show Sd 240 [(.os 0 j.toNat ((av ((av (j+(RX b)))+1)).toNat - j.toNat)),(.sl (b.length - 0) (fun zi=>(cU .u16) (d.getD (eu 0 zi) 0)))] [(0,aU u)] 1 (Ps a) [(0,aU a.2)] from (Sound.conv (X4 _ _ _ _ _ _ p) (.cons (Alike.refl _) (.cons (Alike.sl (Md d 0 b.length g) (WJ (cU .u16) 0 d 0 b.length)) .nil)))) (pc (fL (cU .u16) 0 a.2) (pc (show 0+(b.length - 0)<=d.length by have:=g;omega) (pc i (pc (dR i) (pc (bm q j.toNat a.1) (pc (show u.length=a.2.length from (Eq.symm s)) (pc (bm q j.toNat a.1) (pc (dK (cU .u16) 0 q j.toNat a.1) pn)))))))))))) <| ax c 1 XW fK 291 <| cY c 1 XW fK 3 (k _ _ _ _ h E c)
  ·obtain ⟨e,h⟩:=ae h;refine dV c 2 (kp [4] ++ [(5,.l5 ((List.replicate (b.length - 0) 0:List Int).length))] ++ kp [8,9,11]) (kq [0,1] ++ [(51,ri 51 (cU .u16) 0 (List.replicate (b.length - 0) 0:List Int))]) 83 (pc e.1 (pc (Int.le_refl (RX b)) (pc e.2.1 (pc e.2.2 (pc (lR (b.length - 0) (0:Int)) (pc (lR (b.length - 0) (0:Int)) (pc (A5 (cU .u16) 0 0 (b.length - 0)) pn))))))) <| ax c 2 XV (kq [0,1,51]) 115 <| cY c 2 XV (kq [0] ++ [(1,.ak 51),(2,.ak 1)]) 3 (OJ N _ _ _ _ N _ _ _ h E c)
theorem DA (N a b r) (h:vP N a b=some r):Sd 213 [(di a),(di b)] [] 0 (N8 r) []:=by
 unfold vP at h;refine sO Tryz.f213 109 fun E d=>?_;refine ax d 1 (kp [0,1]) [] 32 ?_;obtain ⟨k,l,h⟩:=aW h;refine bK d 2 [(2,oT (aI k))] (kp [0,1,17]) [] 96 (pc (Iy _ _ _ _ l) pn) <| dr 0 17 h (fun m h=>?_) (fun m h=>?_)
 ·obtain ⟨n,o,h⟩:=aW h;refine bK d 1 [(1,oT (fP n))] (kp [4,5]) [] 160 (pc (qD _ _ _ o) pn) ?_;cases h;exact mh d 0 Tryz.f213 [] ([(4,rh (cU .u16) 0 ([]:List Int))] ++ kp [5]) [] 160 (pc (Eq.refl 0) pn) [] pn
 ·refine ax d 3 (kp [0,1,22]) [] 144 <| dr 0 22 h (fun p h=>?_) (fun p h=>?_)
  ·obtain ⟨c,h⟩:=ae h;obtain ⟨f,q,h⟩:=aW h;refine bK d 1 [(4,oT (acb f))] (kp [6,7]) [] 304 (pc c (pc (X1 _ _ _ _ q) pn)) ?_;obtain ⟨i,s,h⟩:=aW h;refine bK d 1 [(3,⟨[],true,(fP i),[],0,true,none⟩)] (kp [4,5]) [] 400 (pc (show Sd 208 [(.sl 1 (fun zi=>(fun zi=>([[(a16 f.2)]]:List (List AV)).getD zi []) (eu 0 zi)))] [] 0 (fP i) [] from (Sound.conv (jx _ _ _ s) (.cons (Alike.sl rfl (qO (cU .u16) 0 ([f.2]:List Int))) .nil))) (pc (z1 1) pn)) ?_;cases h;exact iG d 0 Tryz.f213 (kp [4,5]) [] 400
  ·obtain ⟨t,h⟩:=ae h;obtain ⟨u,v,h⟩:=aW h;refine bK d 2 [(6,oT (aI u))] (kp [0,1,8]) [] 272 (pc t (pc (zN _ _ _ v) pn)) ?_;obtain ⟨e,w,h⟩:=aW h;obtain ⟨j,x,h⟩:=aW h;obtain ⟨y,h⟩:=ae h;refine bK d 1 [(2,⟨[],true,(.os 0 0 e.length),[(0,aU e)],0,false,none⟩),(5,⟨[],true,(.os 0 0 j.length),[(0,aU j)],0,false,none⟩)] (kp [8,9,10]) (kq [304,352]) 448 (pc (IA _ _ _ _ w) (pc (IA _ _ _ _ x) (pc y (pc (show 0<=(Ao b) from (Int.natCast_nonneg _)) pn)))) <| ax d 1 (kp [8,9,10,11]) (kq [304,352]) 496 ?_
   obtain ⟨g,h⟩:=ae h;refine dV d 1 ([(4,.l5 ((aiH e b).length))] ++ kp [8,9,10,11]) (kq [304,352] ++ [(560,ri 560 (cU .u16) 0 (aiH e b))]) 592 (pc g.1 (pc (Int.le_refl (ab8 e b)) (pc g.2.1 (pc g.2.2 (pc (lR (aiA e b) (0:Int)) (pc (lR (aiA e b) (0:Int)) (pc (A5 (cU .u16) 0 0 (aiA e b)) pn))))))) <| ax d 2 XW (kq [304,352,560]) 688 <| cY d 2 XW [(0,.ak 560),(1,.ak 304),(2,.ak 352)] 3 (OK N _ _ _ N _ _ _ _ h E d)
noncomputable abbrev X5:=bt Tryz.f212
def G2 (N:Nat) (K:(List Int)->(List Int)->Option nf):Prop:=∀ (a:List Int) (b:List Int) (r:(List Int)),K a b=some r->∀ E,ba E 0->aK Tryz.prog E 212 45 (bd E [] (fP r)) [.code (X5 24),.inLoop (X5 24),.inBlock 0,.code (X5 7)] ⟨[(0,(di a)),(1,(di b))],[],0⟩
def PT (N:Nat) (K:Int->Int->Option nf):Prop:=∀ (x:Int) (y:Int) (r:(List Int)),K x y=some r->∀ E,ba E 0->aK Tryz.prog E 212 45 (bd E [] (fP r)) [.code (X5 25296),.inLoop (X5 25296),.inBlock 2,.code (X5 6325),.code (X5 791),.inBlock 1,.inLoop (X5 24),.inBlock 0,.code (X5 7)] ⟨[(5,(wD x)),(7,(wD y))],[],0⟩
theorem OL (N:Nat) (b:(List Int)->(List Int)->Option nf) (d:G2 N b) (fuel:Nat):PT N (qp N b fuel):=by
 induction fuel with
 | zero=>intro _ _ r h;rw [qp.eq_1] at h;cases h
 | succ fuel e =>
  intro x y r h E a;rw [qp.eq_2] at h;refine ax a 2 (kp [5,7,29]) [] 32 <| dr 0 29 h (fun f h=>?_) (fun f h=>?_)
  ·obtain ⟨c,h⟩:=ae h;refine dV a 2 (kp [5,7]) [] 128 (pc c pn) <| cY a 2 (kp [5,7]) [] 0 (e _ _ _ h E a)
  ·obtain ⟨g,i,h⟩:=aW h;refine bK a 2 [(1,oT (fP g))] (kp [4]) [] 80 (pc (B5 _ _ _ i) pn) ?_;obtain rfl:=jS h;exact iG a 0 Tryz.f212 (kp [4]) [] 80
theorem OM (N fuel):G2 N (n8 N fuel):=by
 induction fuel with
 | zero=>intro _ _ r h;rw [n8.eq_1] at h;cases h
 | succ fuel b =>
  intro l m r h E a;rw [n8.eq_2] at h;refine ax a 2 (kp [0,1,13]) [] 48 <| dr 0 13 h (fun d h=>?_) (fun d h=>?_)
  ·obtain ⟨c,e,h⟩:=aW h;refine bK a 3 [(1,oT (Xk c))] B3 [] 160 (pc (Pu _ _ _ e) pn) ?_;obtain ⟨f,g,h⟩:=aW h;refine bK a 1 [(1,oT (Xk f))] Dv [] 272 (pc (Pu _ _ _ g) pn) <| dV a 2 (kp [0,1,5,7,27]) [] 336 (pc (fun hq:c.2=true=>(pc hq pn)) pn) <| dr 0 27 h (fun i h=>?_) (fun i h=>?_)
   ·exact cY a 3 (kp [5,7]) [] 0 (OL N _ b N _ _ _ h E a)
   ·obtain ⟨j,k,h⟩:=aW h;refine bK a 2 [(2,oT (N8 j))] (kp [1,10]) [] 464 (pc (DA _ _ _ _ k) pn) <| ax a 0 (kp [0,1]) [] 528 <| cY a 2 (kp [0,1]) [] 0 (b _ _ _ h E a)
  ·refine ax a 2 (kp [4]) [] 80 ?_;obtain rfl:=jS h;exact iG a 0 Tryz.f212 (kp [4]) [] 80
theorem Uz (N a b r) (h:FG N a b=some r):Sd 212 [(di a),(di b)] [] 0 (fP r) []:=by
 unfold FG at h;refine sO Tryz.f212 45 fun E c=>?_;refine ax c 1 (kp [0,1]) [] 16 <| cY c 3 (kp [0,1]) [] 0 (OM N N _ _ _ h E c)
noncomputable abbrev asx:=bt Tryz.f154
def Mr (N:Nat) (a:cj) (b:cj) (K:(List Int)->(List Int)->Option (ab)):Prop:=∀ (x:List Int) (y:List Int) (r:ab),K x y=some r->∀ E,ba E 0->aK Tryz.prog E 154 48 (bd E [] (aj r)) [.code (asx 62),.code (asx 63)] ⟨[(2,(.op 0 0 0)),(3,(.op 1 0 0)),(4,(.op 2 0 0)),(5,(di x)),(6,(di y))],[(0,vO 2 (TIc a)),(1,vO 2 (TIc b)),(2,vO 4 [(aB false),.nil,(aB false),.nil])],3⟩
theorem B6 (N a b):Mr N a b (sj N a b):=by
 intro x y r h E d;unfold sj at h;obtain ⟨c,e,h⟩:=aW h;obtain ⟨f,g,h⟩:=aW h;refine bK d 0 [(6,oT (dM c)),(8,oT (dM f))] (kp [4]) (kq [2]) 179 (pc o1 (pc o1 (pc (oh _ _ _ _ e) (pc (oh _ _ _ _ g) (pc o1 pn))))) ?_;cases h;exact mh d 0 Tryz.f154 [] (kp [4]) [(16,.ak 2)] 179 pn [16] (pc o1 pn)
theorem pK (N a b r) (h:nL N a b=some r):Sd 154 [(dM a),(dM b)] [] 0 (aj r) []:=by
 unfold nL at h;refine sO Tryz.f154 48 fun E d=>?_;refine ax d 1 iI fU 48 ?_;obtain ⟨g,i,h⟩:=aW h;obtain ⟨j,k,h⟩:=aW h;refine bK d 1 [(2,oT (fP g)),(5,oT (fP j))] uQ fU 176 (pc o1 (pc (jx _ _ _ i) (pc o1 (pc (jx _ _ _ k) pn)))) ?_;obtain ⟨f,l,h⟩:=aW h;refine bK d 1 [(2,oT (fP f))] Iv fU 240 (pc (Uz _ _ _ _ l) pn) ?_;obtain ⟨c,h⟩:=ae h;refine dV d 2 (kp [2,3,4,5,6,7,25]) fU 384 (pc (fun e:(amV f)=true=>(pc e (pc (c e) pn))) (pc (fun e:(amV f)=true=>(pc e pn)) (pc (fun e:(amV f)=true=>(pc e pn)) (pc (fun hq:(amV f)=true=>(pc hq pn)) pn)))) <| dr 0 25 h (fun m h=>?_) (fun m h=>?_)
 ·obtain ⟨n,o,h⟩:=aW h;refine bK d 1 [(2,oT (N8 n))] Iv fU 496 (pc (DA _ _ _ _ o) pn) ?_;obtain ⟨p,q,h⟩:=aW h;refine bK d 0 [(2,oT (N8 p))] uQ fU 608 (pc (DA _ _ _ _ q) pn) <| cY d 1 uQ ajc 3 (B6 N _ _ _ _ _ h E d)
 ·exact cY d 2 uQ ajc 3 (B6 N _ _ _ _ _ h E d)
theorem Ms (N a r) (h:yD N a=some r):Sd 152 [(dM a)] [] 0 (aj r) []:=by
 unfold yD at h;refine sO Tryz.f152 7 fun E b=>?_;refine ax b 1 (kp [1,2]) jt 32 ?_;obtain ⟨c,d,h⟩:=aW h;refine bK b 1 [(3,⟨[],true,(aj c),[],0,true,none⟩)] (kp [2]) (kq [16]) 112 (pc o1 (pc (show Sd 154 [(dM a),(.agg [(aB false),(.sl 1 (fun zi=>(fun zi=>([[(a16 1)]]:List (List AV)).getD zi []) (eu 0 zi)))])] [] 0 (aj c) [] from (Sound.conv (pK _ _ _ _ d) (.cons (Alike.refl _) (.cons (Alike.agg (.cons (Alike.refl _) (.cons (Alike.sl rfl (qO (cU .u16) 0 ([1]:List Int))) .nil))) .nil)))) (pc (z1 1) (pc o1 pn)))) ?_;obtain rfl:=jS h;exact mh b 0 Tryz.f152 [] (kp [2]) (kq [16]) 112 pn [16] (pc o1 pn)
theorem eV (N n r) (h:fc N n=some r):Sd 83 [(aI n)] [] 0 (aj r) []:=by
 unfold fc at h;refine sO Tryz.f83 6 fun E a=>?_;refine ax a 1 (kp [0,2]) (kq [0]) 16 ?_;obtain ⟨rOf,b,h⟩:=aW h;obtain ⟨c,d,h⟩:=aW h;refine bK a 1 [(1,oT (dM rOf)),(2,oT (aj c))] (kp [2]) (kq [0]) 80 (pc (VQ _ _ _ b) (pc (Ms _ _ _ d) (pc o1 pn))) ?_;obtain rfl:=jS h;exact mh a 0 Tryz.f83 [] (kp [2]) [(16,.ak 0)] 80 pn [16] (pc o1 pn)
theorem CU (N a r) (h:BL N a=some r):Sd 146 [(dM a)] [] 0 (aI r) []:=by
 unfold BL at h;refine sO Tryz.f146 12 fun E b=>?_;refine ax b 1 (kp [1]) (kq [0]) 32 ?_;obtain ⟨c,d,h⟩:=aW h;refine bK b 3 [(2,oT (fP c))] (kp [1,3]) (kq [0]) 128 (pc o1 (pc (jx _ _ _ d) pn)) <| dr 0 3 h (fun e h=>?_) (fun e h=>?_)
 ·refine ax b 1 (kp [2]) [] 144 ?_;cases h;exact iG b 0 Tryz.f146 (kp [2]) [] 144
 ·refine dV b 1 (kp [9]) [] 176 (pc o1 pn) <| dr 0 9 h (fun f h=>?_) (fun f h=>?_)
  ·refine ax b 1 (kp [2]) [] 192 ?_;cases h;exact iG b 0 Tryz.f146 (kp [2]) [] 192
  ·refine ax b 3 (kp [2]) [] 192 ?_;cases h;exact iG b 0 Tryz.f146 (kp [2]) [] 192
theorem nZ (N x r) (h:pH N x=some r):Sd 147 [(aj x)] [] 0 (dM r) []:=by
 unfold pH at h;refine sO Tryz.f147 11 fun E a=>?_;refine ax a 1 (kp [1,2]) jt 32 ?_;obtain ⟨dL,b,h⟩:=aW h;refine bK a 2 [(2,oT (aI dL))] (kp [1,2,6]) jt 96 (pc o1 (pc (CU _ _ _ b) pn)) <| dr 0 6 h (fun c h=>?_) (fun c h=>?_)
 ·refine dV a 1 (kp [2]) [(16,.var 16 [.ak,.l5 (([1]:List Int).length)]),(96,ri 96 (cU .u16) 0 ([1]:List Int))] 144 (pc o1 (pc (Eq.refl 1) (pc (Eq.refl 1) (pc (qO (cU .u16) 0 ([1]:List Int)) pn)))) ?_;cases h;exact mh a 0 Tryz.f147 [96] (kp [2]) [(16,.var 16 [.ak,rh (cU .u16) 0 ([1]:List Int)])] 144 (pc (Eq.refl (([1]:List Int).length)) (pc (z1 (([1]:List Int).length)) (pc (eZ (cU .u16) 0 ([1]:List Int)) pn))) [16] (pc o1 pn)
 ·refine dV a 2 (kp [2]) (kq [16]) 144 (pc o1 (pc o1 pn)) ?_;cases h;exact mh a 0 Tryz.f147 [] (kp [2]) (kq [16]) 144 pn [16] (pc o1 pn)
theorem zc (N x r) (h:qq N x=some r):Sd 84 [(aj x)] [] 0 (aj r) []:=by
 unfold qq at h;refine sO Tryz.f84 8 fun E a=>?_;refine ax a 1 (kp [1,2]) jt 32 ?_;obtain ⟨b,c,h⟩:=aW h;obtain ⟨d,e,h⟩:=aW h;refine bK a 1 [(3,oT (dM b)),(4,oT (aj d))] (kp [2]) (kq [16]) 128 (pc o1 (pc o1 (pc (nZ _ _ _ c) (pc (pK _ _ _ _ e) (pc o1 pn))))) ?_;obtain rfl:=jS h;exact mh a 0 Tryz.f84 [] (kp [2]) (kq [16]) 128 pn [16] (pc o1 pn)
theorem PU (N a r) (h:A8 N a=some r):Sd 155 [(dM a)] [] 0 (dM r) []:=by
 unfold A8 at h;refine sO Tryz.f155 9 fun E b=>?_;refine ax b 1 (kp [1,2]) jt 32 <| dV b 1 (kp [2]) (kq [16]) 144 (pc o1 (pc o1 (pc o1 pn))) ?_
 cases h;exact mh b 0 Tryz.f155 [] (kp [2]) (kq [16]) 144 pn [16] (pc o1 pn)
theorem pL (N x r) (h:ke N x=some r):Sd 85 [(aj x)] [] 0 (aj r) []:=by
 unfold ke at h;refine sO Tryz.f85 9 fun E a=>?_;refine ax a 1 (kp [1,2]) jt 32 ?_;obtain ⟨b,c,h⟩:=aW h;obtain ⟨d,e,h⟩:=aW h;obtain ⟨f,g,h⟩:=aW h;refine bK a 1 [(2,oT (dM b)),(4,oT (dM d)),(5,oT (aj f))] (kp [2]) (kq [16]) 144 (pc o1 (pc (PU _ _ _ c) (pc o1 (pc (nZ _ _ _ e) (pc (pK _ _ _ _ g) (pc o1 pn)))))) ?_;obtain rfl:=jS h;exact mh a 0 Tryz.f85 [] (kp [2]) (kq [16]) 144 pn [16] (pc o1 pn)
noncomputable abbrev Uh:=bt Tryz.f37
def SQ (N:Nat) (n:Int) (l:List bw) (a:ab) (K:(List Int)->Int->Option Il):Prop:=∀ (t:List Int) (x:Int) (r:re),K t x=some r->∀ E,ba E 0->aK Tryz.prog E 37 157 (bd E [(0,vN 12 [(aI r.HR),(aI r.HS),(RZ r),(R0 r),(.os 3 0 r.f_a.length),(.os 4 0 r.f_b.length),(KP r),(K4 r),(K7 r),(K3 r),(K6 r),(aI r.eY)]),(KS r),(KU r),(KV r),(KW r),(KX r)] (.op 0 0 0)) [.code (Uh 116),.inLoop (Uh 116),.inBlock 0,.code (Uh 15)] ⟨[(0,(aI n)),(1,(qY l)),(5,(.op 0 0 0)),(25,(aI (av (2 * n)))),(26,(aI x))],[(0,vN 12 [(aI n),(Aq l),.nil,(CT t),.nil,.nil,.nil,(kU a),(kW a),(kT a),(kV a),(Oi n l)]),(gI t)],2⟩
def B7 (N:Nat) (n:Int) (l:List bw) (a:ab) (t:List Int) (K:(List Int)->oV->bh->Int->Option Il):Prop:=∀ (t2:List Int) (b:List bh) (c:List ab) (d:Int) (r:re),K t2 b c d=some r->∀ E,ba E 0->aK Tryz.prog E 37 157 (bd E [(0,vN 12 [(aI r.HR),(aI r.HS),(RZ r),(R0 r),(.os 3 0 r.f_a.length),(.os 4 0 r.f_b.length),(KP r),(K4 r),(K7 r),(K3 r),(K6 r),(aI r.eY)]),(KS r),(KU r),(KV r),(KW r),(KX r)] (.op 0 0 0)) [.code (Uh 500),.inLoop (Uh 500),.inBlock 2,.code (Uh 63)] ⟨[(0,(aI n)),(5,(.op 0 0 0)),(53,(qY l)),(54,(Aq l)),(55,(aI d))],[(0,vN 12 [(aI n),(Aq l),(CT t2),(aee t n l),(B0 b),(yI c),.nil,(kU a),(kW a),(kT a),(kV a),(Oi n l)]),(gI t2),(Xo t n l),(iH b),(gx c)],5⟩
def IG (N:Nat) (n:Int) (l:List bw) (a:ab) (t:List Int) (t2:List Int) (c:List bh) (d:List ab) (b:Int) (K:bh->Int->Option Il):Prop:=∀ (row:List ab) (e:Int) (r:re),K row e=some r->∀ E,ba E 0->aK Tryz.prog E 37 157 (bd E [(0,vN 12 [(aI r.HR),(aI r.HS),(RZ r),(R0 r),(.os 3 0 r.f_a.length),(.os 4 0 r.f_b.length),(KP r),(K4 r),(K7 r),(K3 r),(K6 r),(aI r.eY)]),(KS r),(KU r),(KV r),(KW r),(KX r)] (.op 0 0 0)) [.code (Uh 1025652),.inLoop (Uh 1025652),.inBlock 4,.code (Uh 128207),.inBlock 3,.code (Uh 4007),.inLoop (Uh 500),.inBlock 2,.code (Uh 63)] ⟨[(0,(aI n)),(5,(.op 0 0 0)),(8,(.op 5 0 0)),(9,(qW row)),(53,(qY l)),(54,(Aq l)),(55,(aI b)),(77,(aI n)),(78,(aI e))],[(0,vN 12 [(aI n),(Aq l),(.os 1 0 ((VI t2 n b).length)),(aee t n l),(B0 c),(yI d),.nil,(kU a),(kW a),(kT a),(kV a),(Oi n l)]),(1,aO 1 cI 0 (VI t2 n b)),(Xo t n l),(iH c),(gx d),(5,vO 5 (Uw (l.getD b.toNat bw.d))),(tT row)],7⟩
def SR (N:Nat) (n:Int) (l:List bw) (a:ab) (t:List Int) (t2:List Int) (c:List bh) (d:List ab) (b:Int) (row:List ab) (e:Int) (K:ab->Option Il):Prop:=∀ (f:ab) (r:re),K f=some r->∀ E,ba E 0->aK Tryz.prog E 37 157 (bd E [(0,vN 12 [(aI r.HR),(aI r.HS),(RZ r),(R0 r),(.os 3 0 r.f_a.length),(.os 4 0 r.f_b.length),(KP r),(K4 r),(K7 r),(K3 r),(K6 r),(aI r.eY)]),(KS r),(KU r),(KV r),(KW r),(KX r)] (.op 0 0 0)) [.code (Uh 131283559),.inBlock 5,.code (Uh 8205223),.inLoop (Uh 1025652),.inBlock 4,.code (Uh 128207),.inBlock 3,.code (Uh 4007),.inLoop (Uh 500),.inBlock 2,.code (Uh 63)] ⟨[(0,(aI n)),(5,(.op 0 0 0)),(8,(.op 5 0 0)),(9,(qW row)),(10,(aI e)),(11,(.op 7 0 0)),(53,(qY l)),(54,(Aq l)),(55,(aI b)),(77,(aI n)),(78,(aI e))],[(0,vN 12 [(aI n),(Aq l),(.os 1 0 ((VI t2 n b).length)),(aee t n l),(B0 c),(yI d),.nil,(kU a),(kW a),(kT a),(kV a),(Oi n l)]),(1,aO 1 cI 0 (VI t2 n b)),(Xo t n l),(iH c),(gx d),(5,vO 5 (Uw (l.getD b.toNat bw.d))),(tT row),(7,vO 4 (xI f))],8⟩
theorem G3 (N:Nat) (n:Int) (l:List bw) (d:ab) (t:List Int) (t2:List Int) (f:List bh) (g:List ab) (i:Int) (row:List ab) (a:Int) (j:bh->Int->Option Il) (k:(List Int)->oV->bh->Int->Option Il) (p:IG N n l d t t2 f g i j) (s:B7 N n l d t k):SR N n l d t t2 f g i row a (uh N n l d t t2 f g i row a j k):=by
 intro c r h E e;unfold uh at h;obtain ⟨b,q,h⟩:=aW h;obtain ⟨m,h⟩:=ae h;obtain ⟨o,h⟩:=ae h;refine bK e 0 [(7,oT (aj b))] (kp [0,5,8] ++ [(9,.l5 (((row.set a.toNat b).set (BZ n a) c).length))] ++ kp [53,54,55,77,78]) (kq [0,1,2,3,4,5] ++ [(6,ri 6 bH ab.d ((row.set a.toNat b).set (BZ n a) c))]) 216 (pc o1 (pc (pL _ _ _ q) (pc o1 (pc m (pc (dR m) (pc o (pc (dR o) (pc (show row.length=((row.set a.toNat b).set (BZ n a) c).length from (dI (dI rfl))) (pc (show row.length=((row.set a.toNat b).set (BZ n a) c).length from (dI (dI rfl))) (pc (tE bH ab.d (row.set a.toNat b) (BZ n a) c (dK bH ab.d row a.toNat b)) pn)))))))))) <| ax e 1 XJ jK 248 <| cY e 1 XJ jK 7 (p _ _ _ h E e)
theorem PW (N:Nat) (n:Int) (l:List bw) (k:ab) (t:List Int) (t2:List Int) (e:List bh) (j:List ab) (p:Int) (q:(List Int)->oV->bh->Int->Option Il) (m:B7 N n l k t q) (fuel:Nat):IG N n l k t t2 e j p (kf N n l k t t2 e j p q fuel):=by
 induction fuel with
 | zero=>intro _ _ r h;rw [kf.eq_1] at h;cases h
 | succ fuel s =>
  intro row H r h E f;rw [kf.eq_2] at h;refine ax f 1 (kp [0,5,8,9,53,54,55,77,78,79]) jK 23 <| dr 1 79 h (fun w h=>?_) (fun w h=>?_)
  ·refine ax f 4 (kp [0,5,8,9,10,53,54,55,77,78]) jK 55 ?_;obtain ⟨x,y,h⟩:=aW h;refine bK f 1 [(0,oT (aj x))] XI acG 103 (pc (eV _ _ _ y) (pc o1 pn)) <| dV f 2 (kp [0,5,8,9,10,11,53,54,55,77,78,86]) acG 183 (pc o1 pn) <| dr 0 86 h (fun z h=>?_) (fun z h=>?_)
   ·obtain ⟨A,h⟩:=ae h;obtain ⟨B,C,h⟩:=aW h;refine bK f 0 [(5,oT (aj B))] XI acG 295 (pc o1 (pc A (pc (zc _ _ _ C) (pc o1 pn)))) <| cY f 0 XI aiY 8 (G3 N _ _ _ _ _ _ _ _ _ _ _ _ s m _ _ h E f)
   ·exact cY f 1 XI aiY 8 (G3 N _ _ _ _ _ _ _ _ _ _ _ _ s m _ _ h E f)
  ·obtain ⟨a,D,h⟩:=aW h;obtain ⟨u,h⟩:=ae h;refine bK f 2 [(3,oT (aj a))] (kp [0,5,8] ++ [(9,.l5 ((yj row n a).length))] ++ kp [53,54,55]) (kq [0,1,2,3,4,5] ++ [(6,ri 6 bH ab.d (yj row n a))]) 119 (pc (eV _ _ _ D) (pc u (pc (dR u) (pc (bm row ((av (2 * n)).toNat) a) (pc (bm row ((av (2 * n)).toNat) a) (pc (dK bH ab.d row ((av (2 * n)).toNat) a) pn)))))) ?_;obtain ⟨F,h⟩:=ae h;refine dV f 1 acw ([(0,.var 0 [.ak,.ak,.ak,.ak,.l5 ((F4 e row n a).length),.ak,.ak,.ak,.ak,.ak,.ak,.ak])] ++ kq [1,2,4,5,6] ++ [(231,.Fm 231 ((F4 e row n a).length) [(e.length,6,(yj row n a).length)] (On e row n a))]) 295 (pc o1 (pc (Eq.refl e.length) (pc F (pc (show 0+1<=1 from (aH _)) (pc (oN [[(.os 6 0 ((yj row n a).length))]]) (pc o1 (pc (bL e [(yj row n a)]) (pc (bL e [(yj row n a)]) (pc (show ∀ g,g < (F4 e row n a).length->aJ [(e.length,6,(yj row n a).length)] (On e row n a) g=if g < e.length then (au e) g else (fun zi=>([[(.os 6 0 ((yj row n a).length))]]:List (List AV)).getD zi []) (g - e.length) from (amJ (b:=fun zi=>([[(.os 6 0 ((yj row n a).length))]]:List (List AV)).getD zi []) e (yj row n a) rfl rfl)) (pc (show ∀ g,g < (F4 e row n a).length->gi ((On e row n a) g)=true from (fun _ _=>rfl)) pn)))))))))) <| rnL 231 6 e.length (pc (apD e (yj row n a)) (pc (show aJ [(e.length,6,(yj row n a).length)] (On e row n a) e.length=[.os 6 0 (yj row n a).length] from if_pos rfl) (pc (show ∀ v,v < (yj row n a).length->uE (bH ((yj row n a).getD v ab.d))=true from fun _ _=>rfl) pn))) <| rnX f [] acw (kq [0,1,2,4,5] ++ [(231,.Fm 231 ((F4 e row n a).length) [] (On e row n a))]) 295 (pc (Eq.refl ((F4 e row n a).length)) (pc (ah2 (sz:=4) (c:=bH) (d:=ab.d) (F4 e row n a) e.length 6 ((yj row n a).length) (yj row n a) [] (zw e (yj row n a)) Ro) (pc (show ∀ g,g < (F4 e row n a).length->gi ((On e row n a) g)=true from fun _ _=>rfl) pn))) ?_
   obtain ⟨i,G,h⟩:=aW h;obtain ⟨o,h⟩:=ae h;refine bK f 0 [(7,oT (aj i))] Sp ([(0,.var 0 [.ak,.ak,.ak,.ak,.ak,.l5 (Ml j i),.ak,.ak,.ak,.ak,.ak,.ak])] ++ kq [1,2,231] ++ [(439,ri 439 bH ab.d (Mk j i))]) 503 (pc o1 (pc o1 (pc (zc _ _ _ G) (pc (Eq.refl j.length) (pc o (pc (z1 1) (pc (oN [[(kU i),(kW i),(kT i),(kV i)]]) (pc o1 (pc (bL j (mc i)) (pc (bL j (mc i)) (pc (LR bH ab.d j (mc i)) pn))))))))))) <| ax f 1 Sp (kq [0,1,2,231,439]) 535 <| cY f 1 Sp (kq [0,1,2] ++ [(3,.ak 231),(4,.ak 439)]) 5 (m _ _ _ _ _ h E f)
def SS (N:Nat) (n:Int) (l:List bw) (a:ab) (t:List Int) (t2:List Int) (c:List bh) (d:List ab) (K:bh->Int->Option Il):Prop:=∀ (b:List ab) (e:Int) (r:re),K b e=some r->∀ E,ba E 0->aK Tryz.prog E 37 157 (bd E [(0,vN 12 [(aI r.HR),(aI r.HS),(RZ r),(R0 r),(.os 3 0 r.f_a.length),(.os 4 0 r.f_b.length),(KP r),(K4 r),(K7 r),(K3 r),(K6 r),(aI r.eY)]),(KS r),(KU r),(KV r),(KW r),(KX r)] (.op 0 0 0)) [.code (Uh 2036),.inLoop (Uh 2036),.inBlock 6,.code (Uh 255)] ⟨[(5,(.op 0 0 0)),(144,(aI (((acq n).length:Nat):Int))),(145,(aI e))],[(0,vN 12 [(aI n),(Aq l),(CT t2),(aee t n l),(B0 c),(yI d),(Xf b),(kU a),(kW a),(kT a),(kV a),(Oi n l)]),(gI t2),(Xo t n l),(iH c),(gx d),(ja b)],6⟩
theorem PX (N n l f t t2 t3 t4 fuel):SS N n l f t t2 t3 t4 (pS N n l f t t2 t3 t4 fuel):=by
 induction fuel with
 | zero=>intro _ _ r h;rw [pS.eq_1] at h;cases h
 | succ fuel g =>
  intro c d r h E a;rw [pS.eq_2] at h;refine ax a 1 (kp [5,144,145,146]) fJ 22 <| dr 1 146 h (fun i h=>?_) (fun i h=>?_)
  ·refine ax a 4 (kp [5,12,144,145]) fJ 54 ?_;obtain ⟨b,j,h⟩:=aW h;obtain ⟨e,h⟩:=ae h;refine bK a 0 [(5,oT (aj b))] SE ([(0,.var 0 [.ak,.ak,.ak,.ak,.ak,.ak,.l5 (zL c d b),.ak,.ak,.ak,.ak,.ak])] ++ kq [1,2,3,4] ++ [(5,ri 5 bH ab.d (c.set d.toNat b))]) 182 (pc o1 (pc (eV _ _ _ j) (pc e (pc (dR e) (pc (bm c d.toNat b) (pc (bm c d.toNat b) (pc (dK bH ab.d c d.toNat b) pn))))))) <| ax a 1 SE fJ 214 <| cY a 1 SE fJ 6 (g _ _ _ h E a)
  ·refine ax a 2 (kp [4]) fJ 54 ?_;cases h;exact iG a 0 Tryz.f37 (kp [4]) fJ 54
theorem PY (N n l g t fuel):B7 N n l g t (nN N n l g t fuel):=by
 induction fuel with
 | zero=>intro _ _ _ _ r h;rw [nN.eq_1] at h;cases h
 | succ fuel i =>
  intro t2 o p c r h E a;rw [nN.eq_2] at h;refine ax a 1 (kp [0,5,53,54,55,56]) oX 21 <| dr 1 56 h (fun j h=>?_) (fun j h=>?_)
  ·obtain ⟨k,h⟩:=ae h;refine dV a 4 (kp [0,5,7,8,53,54,55]) (kq [0,1,2,3,4,69]) 117 (pc k (pc o1 pn)) ?_;obtain ⟨m,h⟩:=ae h;refine dV a 1 acw ([(0,.var 0 [.ak,.ak,.l5 ((VI t2 n c).length),.ak,.ak,.ak,.ak,.ak,.ak,.ak,.ak,.ak])] ++ kq [2,3,4,69] ++ [(277,ri 277 cI 0 (VI t2 n c))]) 341 (pc o1 (pc (Eq.refl t2.length) (pc m (pc (z1 1) (pc (oN [[(aI (av ((av (2 * n))+c)))]]) (pc o1 (pc (bL t2 (W7 n c)) (pc (bL t2 (W7 n c)) (pc (LR cI 0 t2 (W7 n c)) pn))))))))) ?_;obtain ⟨d,h⟩:=ae h;refine dV a 1 (kp [0,5,8] ++ [(9,.l5 (aec n))] ++ kp [53,54,55]) (kq [0,2,3,4,69,277] ++ [(389,.arz 389 (aec n) (Xu n))]) 421 (pc d.1 (pc (Int.le_refl (av ((av (2 * n))+1))) (pc d.2.1 (pc d.2.2 (pc (lR (VN n) Ap) (pc (lQ (VN n) Ap) (pc (show ∀ zi,zi < (acq n).length->Uf ((fun _=>[(aB false),.nil,(aB false),.nil]) zi) ((Xu n) zi) from (fun e f=>yC bH ab.d ab.d (VN n) e ⟨.inl rfl,.inr ⟨rfl,_,rfl⟩,.inl rfl,.inr ⟨rfl,_,rfl⟩,trivial⟩ f)) pn))))))) <| ax a 2 XJ (kq [0,2,3,4,69,277,389]) 453 <| cY a 2 XJ (kq [0] ++ [(1,.ak 277)] ++ kq [2,3,4] ++ [(5,.ak 69),(6,.ak 389)]) 7 (PW N _ _ _ _ _ _ _ _ _ i N _ _ _ h E a)
  ·obtain ⟨b,h⟩:=ae h;refine dV a 2 (kp [5]) ([(0,.var 0 [.ak,.ak,.ak,.ak,.ak,.ak,.l5 (aec n),.ak,.ak,.ak,.ak,.ak])] ++ kq [1,2,3,4] ++ [(85,.arz 85 (aec n) (Xu n))]) 149 (pc b.1 (pc (Int.le_refl (av ((av (2 * n))+1))) (pc b.2.1 (pc b.2.2 (pc o1 (pc (lR (VN n) Ap) (pc (lQ (VN n) Ap) (pc (show ∀ zi,zi < (acq n).length->Uf ((fun _=>[(aB false),.nil,(aB false),.nil]) zi) ((Xu n) zi) from (fun e f=>yC bH ab.d ab.d (VN n) e ⟨.inl rfl,.inr ⟨rfl,_,rfl⟩,.inl rfl,.inr ⟨rfl,_,rfl⟩,trivial⟩ f)) pn)))))))) <| dV a 2 SE (kq [0,1,2,3,4,85]) 245 (pc o1 pn) <| cY a 2 SE (kq [0,1,2,3,4] ++ [(5,.ak 85)]) 6 (PX N _ _ _ _ _ _ _ N _ _ _ h E a)
theorem PZ (N n l b fuel):SQ N n l b (pT N n l b fuel):=by
 induction fuel with
 | zero=>intro _ _ r h;rw [pT.eq_1] at h;cases h
 | succ fuel d =>
  intro t x r h E a;rw [pT.eq_2] at h;refine ax a 1 (kp [0,1,5,25,26,27]) (kq [0,1]) 18 <| dr 1 27 h (fun e h=>?_) (fun e h=>?_)
  ·refine ax a 4 (kp [0,1,5,6,25,26]) (kq [0,1]) 50 ?_;obtain ⟨c,h⟩:=ae h;refine dV a 0 Sl [(0,.var 0 [.ak,.ak,.ak,.l5 ((t ++ ([x]:List Int)).length),.ak,.ak,.ak,.ak,.ak,.ak,.ak,.ak]),(162,ri 162 cI 0 (t ++ ([x]:List Int)))] 226 (pc o1 (pc (Eq.refl t.length) (pc c (pc (z1 1) (pc (oN [[(aI x)]]) (pc o1 (pc (bL t ([x]:List Int)) (pc (bL t ([x]:List Int)) (pc (LR cI 0 t ([x]:List Int)) pn))))))))) <| ax a 1 Sl (kq [0,162]) 258 <| cY a 1 Sl (kq [0] ++ [(1,.ak 162)]) 2 (d _ _ _ h E a)
  ·obtain ⟨f,h⟩:=ae h;refine dV a 2 nX [(0,.var 0 [.ak,.ak,.ak,.l5 ((Xe t n l).length),.ak,.ak,.ak,.ak,.ak,.ak,.ak,.ak]),(178,ri 178 cI 0 (Xe t n l))] 242 (pc o1 (pc o1 (pc (Eq.refl t.length) (pc f (pc (z1 1) (pc (oN [[(Oi n l)]]) (pc o1 (pc (bL t (acs n l)) (pc (bL t (acs n l)) (pc (LR cI 0 t (acs n l)) pn)))))))))) <| ax a 2 Sp (kq [0,178]) 290 <| cY a 2 Sp [(0,.var 0 [.ak,.ak,.tD 1,.ak,.tD 3,.tD 4,.ak,.ak,.ak,.ak,.ak,.ak]),(1,.nil 1 Om),(2,.ak 178),(3,.nim (mG ([]:List bh))),(4,.nil 4 Ol)] 5 (PY N _ _ _ _ N _ _ _ _ _ h E a)
theorem X6 (N n l r) (h:Jt N n l=some r):Sd 37 [(aI n),(qY l)] [] 0 (.op 0 0 0) [(0,vN 12 [(aI r.HR),(aI r.HS),(RZ r),(R0 r),(.os 3 0 r.f_a.length),(.os 4 0 r.f_b.length),(KP r),(K4 r),(K7 r),(K3 r),(K6 r),(aI r.eY)]),(KS r),(KU r),(KV r),(KW r),(KX r)]:=by
 unfold Jt at h;refine sO Tryz.f37 157 fun E a=>?_;refine ax a 1 (kp [0,1]) [] 16 ?_;obtain ⟨b,c,h⟩:=aW h;refine bK a 1 [(8,oT (aj b))] nX (kq [176]) 208 (pc (eV _ _ _ c) pn) <| ax a 2 Sl (kq [176]) 256 <| cY a 2 Sl [(0,.var 176 [.ak,.ak,.ak,.tD 1,.ak,.ak,.ak,.ak,.ak,.ak,.ak,.ak]),(1,.nil 1 Om)] 2 (PZ N _ _ _ N _ _ _ h E a)
theorem mq (N x r) (h:l8 N x=some r):Sd 71 [(aj x)] [] 0 (aI r) []:=by
 unfold l8 at h;refine sO Tryz.f71 10 fun E a=>?_;refine ax a 1 (kp [1]) (kq [0]) 32 ?_;obtain ⟨dL,b,h⟩:=aW h;obtain ⟨c,d,h⟩:=aW h;obtain ⟨e,f,h⟩:=aW h;refine bK a 1 [(2,oT (aI dL)),(4,oT (dM c)),(5,oT (aI e))] (kp [2]) [] 160 (pc o1 (pc (CU _ _ _ b) (pc o1 (pc (nZ _ _ _ d) (pc (CU _ _ _ f) pn))))) ?_;cases h;exact iG a 0 Tryz.f71 (kp [2]) [] 160
theorem jA (N x r) (h:jv N x=some r):Sd 74 [(aj x)] [] 0 (aB r) []:=by
 unfold jv at h;refine sO Tryz.f74 7 fun E a=>?_;refine ax a 1 (kp [1]) (kq [0]) 32 ?_;obtain ⟨dL,b,h⟩:=aW h;refine bK a 1 [(2,oT (aI dL))] (kp [2]) [] 112 (pc o1 (pc (CU _ _ _ b) pn)) ?_;cases h;exact iG a 0 Tryz.f74 (kp [2]) [] 112
noncomputable abbrev X7:=bt Tryz.f217
def IH (N:Nat) (a:List Int) (b:List Int) (K:(List Int)->Int->Option nf):Prop:=∀ (out:List Int) (x:Int) (r:(List Int)),K out x=some r->∀ E,ba E 0->aK Tryz.prog E 217 67 (bd E [] (fP r)) [.code (X7 116),.inLoop (X7 116),.inBlock 0,.code (X7 15)] ⟨[(1,(di b)),(5,(nF out)),(17,(di a)),(18,(FZ a)),(19,(aI x))],[(0,aU out)],1⟩
def SU (N:Nat) (a:List Int) (b:List Int) (x:Int) (K:(List Int)->Int->Int->Option nf):Prop:=∀ (c:List Int) (carry:Int) (d:Int) (r:(List Int)),K c carry d=some r->∀ E,ba E 0->aK Tryz.prog E 217 67 (bd E [] (fP r)) [.code (X7 119604),.inLoop (X7 119604),.inBlock 2,.code (X7 14951),.inBlock 1,.code (X7 935),.inLoop (X7 116),.inBlock 0,.code (X7 15)] ⟨[(1,(di b)),(5,(nF c)),(6,(aI x)),(7,(a16 (zK a x))),(8,(Mn carry)),(17,(di a)),(18,(FZ a)),(19,(aI x)),(24,(di b)),(25,(FZ b)),(26,(aI d))],[(0,aU c)],1⟩
theorem P0 (N:Nat) (a:List Int) (b:List Int) (x:Int) (g:(List Int)->Int->Option nf) (j:IH N a b g) (fuel:Nat):SU N a b x (pU N a b x g fuel):=by
 induction fuel with
 | zero=>intro _ _ _ r h;rw [pU.eq_1] at h;cases h
 | succ fuel k =>
  intro c carry e r h E d;rw [pU.eq_2] at h;refine ax d 1 (kp [1,5,6,7,8,17,18,19,24,25,26,27]) (kq [0]) 17 <| dr 1 27 h (fun l h=>?_) (fun l h=>?_)
  ·obtain ⟨m,h⟩:=ae h;refine dV d 4 (kp [1,5,6,7,8,9,10,17,18,19,24,25,26]) (kq [0]) 97 (pc m pn) ?_;obtain ⟨f,h⟩:=ae h;refine dV d 1 (kp [1,5,6,7,8,9,17,18,19,24,25,26]) (kq [0]) 353 (pc f (pc (dR f) pn)) <| dV d 1 (kp [1] ++ [(5,.l5 ((aos c x e carry a b).length))] ++ kp [6,7,8,17,18,19,24,25,26]) [(0,ri 0 (cU .u16) 0 (aos c x e carry a b))] 481 (pc f (pc (dR f) (pc (bm c (BZ x e) (aci carry a x b e c)) (pc (bm c (BZ x e) (aci carry a x b e c)) (pc (dK (cU .u16) 0 c (BZ x e) (aci carry a x b e c)) pn))))) <| dV d 0 Sw (kq [0]) 529 (pc (show (0:Int)<=16 by decide) pn) <| ax d 1 Sw (kq [0]) 561 <| cY d 1 Sw (kq [0]) 1 (k _ _ _ _ h E d)
  ·obtain ⟨i,h⟩:=ae h;refine dV d 1 (kp [1] ++ [(5,.l5 ((c.set (ZL x b) (Ik carry)).length))] ++ kp [17,18,19]) [(0,ri 0 (cU .u16) 0 (c.set (ZL x b) (Ik carry)))] 161 (pc i (pc (dR i) (pc (bm c (ZL x b) (Ik carry)) (pc (bm c (ZL x b) (Ik carry)) (pc (dK (cU .u16) 0 c (ZL x b) (Ik carry)) pn))))) <| ax d 1 XO (kq [0]) 193 <| cY d 1 XO (kq [0]) 1 (j _ _ _ h E d)
theorem P2 (N a b fuel):IH N a b (pV N a b fuel):=by
 induction fuel with
 | zero=>intro _ _ r h;rw [pV.eq_1] at h;cases h
 | succ fuel d =>
  intro out x r h E c;rw [pV.eq_2] at h;refine ax c 1 (kp [1,5,17,18,19,20]) (kq [0]) 17 <| dr 1 20 h (fun e h=>?_) (fun e h=>?_)
  ·obtain ⟨f,h⟩:=ae h;refine dV c 4 (kp [1,5,6,7,17,18,19]) (kq [0]) 97 (pc f pn) <| ax c 1 (kp [1,5,6,7,8,17,18,19]) (kq [0]) 113 <| ax c 2 Sw (kq [0]) 161 <| cY c 2 Sw (kq [0]) 1 (P0 N _ _ _ _ d N _ _ _ _ h E c)
  ·obtain ⟨g,i,h⟩:=aW h;refine bK c 2 [(1,⟨[],true,(fP g),[],0,true,none⟩)] (kp [4]) [] 65 (pc (jx _ _ _ i) (pc (z1 out.length) pn)) ?_;obtain rfl:=jS h;exact iG c 0 Tryz.f217 (kp [4]) [] 65
theorem X8 (N a b r) (h:Bu N a b=some r):Sd 217 [(di a),(di b)] [] 0 (fP r) []:=by
 unfold Bu at h;refine sO Tryz.f217 67 fun E d=>?_;refine ax d 1 (kp [0,1]) [] 16 ?_;obtain ⟨c,h⟩:=ae h;refine dV d 1 (kp [0,1] ++ [(5,.l5 ((aiF a b).length))]) [(96,ri 96 (cU .u16) 0 (aiF a b))] 128 (pc c.1 (pc (Int.le_refl (ab7 a b)) (pc c.2.1 (pc c.2.2 (pc (lR (aiy a b) (0:Int)) (pc (lR (aiy a b) (0:Int)) (pc (A5 (cU .u16) 0 0 (aiy a b)) pn))))))) <| ax d 2 XO (kq [96]) 176 <| cY d 2 XO [(0,.ak 96)] 1 (P2 N _ _ N _ _ _ h E d)
theorem vU (N a b r) (h:xq N a b=some r):Sd 159 [(dM a),(dM b)] [] 0 (dM r) []:=by
 unfold xq at h;refine sO Tryz.f159 18 fun E c=>?_;refine ax c 1 iI fU 48 ?_;obtain ⟨e,f,h⟩:=aW h;obtain ⟨g,i,h⟩:=aW h;obtain ⟨j,k,h⟩:=aW h;obtain ⟨d,l,h⟩:=aW h;refine bK c 1 [(7,oT (fP e)),(10,oT (fP g)),(11,oT (fP j)),(12,oT (dM d))] (kp [4]) (kq [32]) 272 (pc o1 (pc o1 (pc o1 (pc (jx _ _ _ f) (pc o1 (pc (jx _ _ _ i) (pc (X8 _ _ _ _ k) (pc (oh _ _ _ _ l) (pc o1 pn))))))))) ?_;obtain rfl:=jS h;exact mh c 0 Tryz.f159 [] (kp [4]) [(16,.ak 32)] 272 pn [16] (pc o1 pn)
noncomputable abbrev UA:=bt Tryz.f214
def UB (N:Nat) (K:(List Int)->(List Int)->Option nf):Prop:=∀ (a:List Int) (b:List Int) (r:(List Int)),K a b=some r->∀ E,ba E 0->aK Tryz.prog E 214 56 (bd E [] (fP r)) [.code (UA 14),.code (UA 15)] ⟨[(0,(di a)),(1,(di b))],[],0⟩
def Kc (N:Nat) (a:List Int) (b:List Int) (K:(List Int)->Int->Int->Option nf):Prop:=∀ (out:List Int) (carry:Int) (x:Int) (r:(List Int)),K out carry x=some r->∀ E,ba E 0->aK Tryz.prog E 214 56 (bd E [] (fP r)) [.code (UA 500),.inLoop (UA 500),.inBlock 0,.code (UA 63)] ⟨[(1,(di b)),(5,(nF out)),(6,(Mn carry)),(20,(di a)),(21,(FZ a)),(22,(aI x))],[(0,aU out)],1⟩
def UC (N:Nat) (a:List Int) (c:List Int) (out:List Int) (x:Int) (K:Int->Option nf):Prop:=∀ (b:Int) (r:(List Int)),K b=some r->∀ E,ba E 0->aK Tryz.prog E 214 56 (bd E [] (fP r)) [.code (UA 128206),.code (UA 128207),.inBlock 1,.code (UA 4007),.inLoop (UA 500),.inBlock 0,.code (UA 63)] ⟨[(1,(di c)),(5,(nF out)),(6,(Mn b)),(20,(di a)),(21,(FZ a)),(22,(aI x))],[(0,aU out)],1⟩
theorem II (N:Nat) (c:List Int) (d:List Int) (out:List Int) (x:Int) (e:(List Int)->Int->Int->Option nf) (f:Kc N c d e):UC N c d out x (wq N c d out x e):=by
 intro a r h E b;unfold wq at h;obtain ⟨g,h⟩:=ae h;refine dV b 0 (kp [1] ++ [(5,.l5 ((adZ out a).length))] ++ kp [6,20,21,22]) [(65,ri 65 (cU .u16) 0 (adZ out a))] 97 (pc (Eq.refl out.length) (pc g (pc (z1 1) (pc (oN [[(aed a)]]) (pc (bL out (K2 a)) (pc (bL out (K2 a)) (pc (LR (cU .u16) 0 out (K2 a)) pn))))))) <| dV b 0 Iu (kq [65]) 145 (pc (show (0:Int)<=16 by decide) pn) <| ax b 1 Iu (kq [65]) 177 <| cY b 1 Iu [(0,.ak 65)] 1 (f _ _ _ _ h E b)
theorem SW (N c d fuel):Kc N c d (n9 N c d fuel):=by
 induction fuel with
 | zero=>intro _ _ _ r h;rw [n9.eq_1] at h;cases h
 | succ fuel e =>
  intro out carry x r h E a;rw [n9.eq_2] at h;refine ax a 1 (kp [1,5,6,20,21,22,23]) (kq [0]) 17 <| dr 1 23 h (fun g h=>?_) (fun g h=>?_)
  ·obtain ⟨i,h⟩:=ae h;refine dV a 4 (kp [1,5,6,7,8,20,21,22]) (kq [0]) 97 (pc i pn) <| ax a 1 (kp [1,5,6,7,20,21,22]) (kq [0]) 177 <| ax a 2 (kp [1,5,6,7,20,21,22,34]) (kq [0]) 241 <| dr 0 34 h (fun j h=>?_) (fun j h=>?_)
   ·obtain ⟨k,h⟩:=ae h;refine dV a 0 Iu (kq [0]) 369 (pc k pn) <| cY a 1 Iu (kq [0]) 1 (II N _ _ _ _ _ e _ _ h E a)
   ·exact cY a 2 Iu (kq [0]) 1 (II N _ _ _ _ _ e _ _ h E a)
  ·obtain ⟨l,h⟩:=ae h;obtain ⟨f,m,h⟩:=aW h;refine bK a 2 [(5,⟨[],true,(fP f),[],0,true,none⟩)] (kp [4]) [] 129 (pc (Eq.refl out.length) (pc l (pc (z1 1) (pc (oN [[(aed carry)]]) (pc (show Sd 208 [(.sl (out.length+1) (fun zi=>((fun b=>if b < out.length then (fun zi=>(cU .u16) (out.getD zi 0)) b else (fun zi=>([[(aed carry)]]:List (List AV)).getD zi []) (b - out.length))) (eu 0 zi)))] [] 0 (fP f) [] from (Sound.conv (jx _ _ _ m) (.cons (Alike.sl (zu rfl rfl) (LR (cU .u16) 0 out (K2 carry))) .nil))) (pc (z1 (out.length+1)) pn)))))) ?_;obtain rfl:=jS h;exact iG a 0 Tryz.f214 (kp [4]) [] 129
theorem IJ (N):UB N (wu N):=by
 intro b d r h E a;unfold wu at h;obtain ⟨c,h⟩:=ae h;refine dV a 0 (kp [0,1] ++ [(5,.l5 ((List.replicate 0 0:List Int).length))]) [(48,ri 48 (cU .u16) 0 (List.replicate 0 0:List Int))] 80 (pc c.1 (pc c.2.2.2 (pc c.2.1 (pc c.2.2.1 (pc (lR 0 (0:Int)) (pc (lR 0 (0:Int)) (pc (A5 (cU .u16) 0 0 0) pn))))))) <| ax a 1 B3 (kq [48]) 96 <| ax a 2 Iu (kq [48]) 144 <| cY a 2 Iu [(0,.ak 48)] 1 (SW N _ _ N _ _ _ _ h E a)
theorem ZO (N a b r) (h:Em N a b=some r):Sd 214 [(di a),(di b)] [] 0 (fP r) []:=by
 unfold Em at h;refine sO Tryz.f214 56 fun E c=>?_;refine ax c 1 (kp [0,1]) [] 16 <| ax c 2 (kp [0,1,13]) [] 96 <| dr 0 13 h (fun d h=>?_) (fun d h=>?_)
 ·refine ax c 0 (kp [0,1]) [] 160 <| cY c 1 (kp [0,1]) [] 0 (IJ N _ _ _ h E c)
 ·exact cY c 2 (kp [0,1]) [] 0 (IJ N _ _ _ h E c)
noncomputable abbrev P3:=bt Tryz.f216
def B8 (N:Nat) (a:List Int) (b:List Int) (K:(List Int)->Int->Int->Option nf):Prop:=∀ (out:List Int) (c:Int) (x:Int) (r:(List Int)),K out c x=some r->∀ E,ba E 0->aK Tryz.prog E 216 50 (bd E [] (fP r)) [.code (P3 244),.inLoop (P3 244),.inBlock 0,.code (P3 31)] ⟨[(1,(di b)),(5,(nF out)),(6,(Mn c)),(13,(di a)),(KT a),(15,(aI x))],[(0,aU out)],1⟩
def SX (N:Nat) (a:List Int) (b:List Int) (out:List Int) (x:Int) (K:Int->Option nf):Prop:=∀ (y:Int) (r:(List Int)),K y=some r->∀ E,ba E 0->aK Tryz.prog E 216 50 (bd E [] (fP r)) [.code (P3 62670),.code (P3 62671),.inBlock 1,.code (P3 1959),.inLoop (P3 244),.inBlock 0,.code (P3 31)] ⟨[(1,(di b)),(5,(nF out)),(7,(aI x)),(8,(a16 (zK a x))),(9,(Mn y)),(13,(di a)),(KT a),(15,(aI x))],[(0,aU out)],1⟩
def SY (N:Nat) (a:List Int) (b:List Int) (out:List Int) (x:Int) (y:Int) (K:Int->Option nf):Prop:=∀ (c:Int) (r:(List Int)),K c=some r->∀ E,ba E 0->aK Tryz.prog E 216 50 (bd E [] (fP r)) [.code (P3 125343),.inBlock 1,.code (P3 1959),.inLoop (P3 244),.inBlock 0,.code (P3 31)] ⟨[(1,(di b)),(5,(nF out)),(6,(Mn c)),(7,(aI x)),(8,(a16 (zK a x))),(9,(Mn y)),(13,(di a)),(KT a),(15,(aI x))],[(0,aU out)],1⟩
theorem G4 (N:Nat) (a:List Int) (b:List Int) (out:List Int) (x:Int) (y:Int) (e:(List Int)->Int->Int->Option nf) (g:B8 N a b e):SY N a b out x y (ui N a b out x y e):=by
 intro c r h E d;unfold ui at h;obtain ⟨f,h⟩:=ae h;refine dV d 0 (kp [1] ++ [(5,.l5 ((aoo out x a c y).length))] ++ kp [6,13,14,15]) [(0,ri 0 (cU .u16) 0 (aoo out x a c y))] 193 (pc (show (0:Int)<=16 by decide) (pc f (pc (dR f) (pc (bm out x.toNat (acj a x c y)) (pc (bm out x.toNat (acj a x c y)) (pc (dK (cU .u16) 0 out x.toNat (acj a x c y)) pn)))))) <| ax d 1 XP (kq [0]) 225 <| cY d 1 XP (kq [0]) 1 (g _ _ _ _ h E d)
theorem G5 (N:Nat) (a:List Int) (b:List Int) (out:List Int) (x:Int) (d:(List Int)->Int->Int->Option nf) (e:B8 N a b d):SX N a b out x (uj N a b out x d):=by
 intro y r h E c;unfold uj at h;refine ax c 0 XQ (kq [0]) 17 <| ax c 2 (kp [1,5,6,7,8,9,13,14,15,35]) (kq [0]) 81 <| dr 0 35 h (fun f h=>?_) (fun f h=>?_)
 ·refine ax c 0 XQ (kq [0]) 97 <| cY c 0 XQ (kq [0]) 1 (G4 N _ _ _ _ _ _ e _ _ h E c)
 ·exact cY c 1 XQ (kq [0]) 1 (G4 N _ _ _ _ _ _ e _ _ h E c)
theorem P4 (N a b fuel):B8 N a b (la N a b fuel):=by
 induction fuel with
 | zero=>intro _ _ _ r h;rw [la.eq_1] at h;cases h
 | succ fuel e =>
  intro out d x r h E c;rw [la.eq_2] at h;refine ax c 1 (kp [1,5,6,13,14,15,16]) (kq [0]) 17 <| dr 1 16 h (fun f h=>?_) (fun f h=>?_)
  ·obtain ⟨g,h⟩:=ae h;refine dV c 4 (kp [1,5,6,7,8,13,14,15]) (kq [0]) 97 (pc g pn) <| ax c 1 XR (kq [0]) 129 <| ax c 2 (kp [1,5,7,8,9,13,14,15,24]) (kq [0]) 193 <| dr 0 24 h (fun i h=>?_) (fun i h=>?_)
   ·obtain ⟨j,h⟩:=ae h;refine dV c 0 XR (kq [0]) 321 (pc j pn) <| cY c 1 XR (kq [0]) 1 (G5 N _ _ _ _ _ e _ _ h E c)
   ·exact cY c 2 XR (kq [0]) 1 (G5 N _ _ _ _ _ e _ _ h E c)
  ·obtain ⟨k,l,h⟩:=aW h;refine bK c 2 [(1,⟨[],true,(fP k),[],0,true,none⟩)] (kp [4]) [] 65 (pc (jx _ _ _ l) (pc (z1 out.length) pn)) ?_;obtain rfl:=jS h;exact iG c 0 Tryz.f216 (kp [4]) [] 65
theorem Mt (N a b r) (h:yE N a b=some r):Sd 216 [(di a),(di b)] [] 0 (fP r) []:=by
 unfold yE at h;refine sO Tryz.f216 50 fun E d=>?_;refine ax d 1 (kp [0,1]) [] 16 ?_;obtain ⟨c,h⟩:=ae h;refine dV d 1 (kp [0,1] ++ [(5,.l5 (aiw a))]) [(48,ri 48 (cU .u16) 0 (Xc a))] 80 (pc c.1 (pc (Int.le_refl (Ao a)) (pc c.2.1 (pc c.2.2 (pc (lR a.length (0:Int)) (pc (lR a.length (0:Int)) (pc (A5 (cU .u16) 0 0 a.length) pn))))))) <| ax d 1 B3 (kq [48]) 96 <| ax d 2 XP (kq [48]) 144 <| cY d 2 XP [(0,.ak 48)] 1 (P4 N _ _ N _ _ _ _ h E d)
theorem acQ (N a b r) (h:Mf N a b=some r):Sd 158 [(dM a),(dM b)] [] 0 (dM r) []:=by
 unfold Mf at h;refine sO Tryz.f158 40 fun E c=>?_;refine ax c 1 iI fU 48 ?_;obtain ⟨f,g,h⟩:=aW h;obtain ⟨i,j,h⟩:=aW h;refine bK c 1 [(2,oT (fP f)),(5,oT (fP i))] uQ fU 176 (pc o1 (pc (jx _ _ _ g) (pc o1 (pc (jx _ _ _ j) pn)))) <| dV c 2 (kp [2,3,4,5,6,17]) fU 256 (pc o1 (pc o1 pn)) <| dr 0 17 h (fun k h=>?_) (fun k h=>?_)
 ·obtain ⟨l,m,h⟩:=aW h;obtain ⟨d,n,h⟩:=aW h;refine bK c 1 [(4,oT (fP l)),(5,oT (dM d))] (kp [4]) (kq [32]) 368 (pc o1 (pc (ZO _ _ _ _ m) (pc (oh _ _ _ _ n) (pc o1 pn)))) ?_;obtain rfl:=jS h;exact mh c 0 Tryz.f158 [] (kp [4]) [(16,.ak 32)] 368 pn [16] (pc o1 pn)
 ·obtain ⟨o,p,h⟩:=aW h;refine bK c 3 [(2,oT (aI o))] (kp [2,3,4,5,6,27]) fU 320 (pc (Iy _ _ _ _ p) pn) <| dr 0 27 h (fun q h=>?_) (fun q h=>?_)
  ·obtain ⟨s,t,h⟩:=aW h;obtain ⟨u,v,h⟩:=aW h;refine bK c 1 [(4,oT (fP s)),(5,oT (dM u))] (kp [4]) (kq [32]) 432 (pc o1 (pc (Mt _ _ _ _ t) (pc (oh _ _ _ _ v) (pc o1 pn)))) ?_;obtain rfl:=jS h;exact mh c 0 Tryz.f158 [] (kp [4]) [(16,.ak 32)] 432 pn [16] (pc o1 pn)
  ·obtain ⟨w,x,h⟩:=aW h;obtain ⟨e,y,h⟩:=aW h;refine bK c 2 [(4,oT (fP w)),(5,oT (dM e))] (kp [4]) (kq [32]) 432 (pc o1 (pc (Mt _ _ _ _ x) (pc (oh _ _ _ _ y) (pc o1 pn)))) ?_;obtain rfl:=jS h;exact mh c 0 Tryz.f158 [] (kp [4]) [(16,.ak 32)] 432 pn [16] (pc o1 pn)
theorem bF (N x y r) (h:bG N x y=some r):Sd 92 [(aj x),(aj y)] [] 0 (aj r) []:=by
 unfold bG at h;refine sO Tryz.f92 32 fun E a=>?_;refine ax a 1 iI fU 48 ?_;obtain ⟨c,d,h⟩:=aW h;refine bK a 2 [(1,oT (aB c))] (kp [2,3,4,8]) fU 80 (pc o1 (pc (jA _ _ _ d) pn)) <| dr 0 8 h (fun e h=>?_) (fun e h=>?_)
 ·obtain ⟨f,g,h⟩:=aW h;refine bK a 1 [(1,oT (aj f))] (kp [4]) (kq [32]) 128 (pc o1 (pc (zc _ _ _ g) (pc o1 pn))) ?_;obtain rfl:=jS h;exact mh a 0 Tryz.f92 [] (kp [4]) [(16,.ak 32)] 128 pn [16] (pc o1 pn)
 ·obtain ⟨i,j,h⟩:=aW h;refine bK a 3 [(1,oT (aB i))] (kp [2,3,4,12]) fU 112 (pc o1 (pc (jA _ _ _ j) pn)) <| dr 0 12 h (fun k h=>?_) (fun k h=>?_)
  ·obtain ⟨l,m,h⟩:=aW h;refine bK a 1 [(1,oT (aj l))] (kp [4]) (kq [32]) 160 (pc o1 (pc (zc _ _ _ m) (pc o1 pn))) ?_;obtain rfl:=jS h;exact mh a 0 Tryz.f92 [] (kp [4]) [(16,.ak 32)] 160 pn [16] (pc o1 pn)
  ·obtain ⟨n,o,h⟩:=aW h;obtain ⟨p,q,h⟩:=aW h;refine bK a 2 [(1,oT (dM n)),(3,oT (dM p))] uQ (kq [0,16,32,176,192]) 240 (pc o1 (pc (nZ _ _ _ o) (pc o1 (pc (nZ _ _ _ q) (pc o1 (pc o1 pn)))))) ?_;obtain ⟨s,t,h⟩:=aW h;obtain ⟨u,v,h⟩:=aW h;obtain ⟨b,w,h⟩:=aW h;obtain ⟨z,A,h⟩:=aW h;obtain ⟨B,C,h⟩:=aW h;refine bK a 1 [(3,oT (dM s)),(7,oT (dM u)),(8,oT (dM b)),(11,oT (dM z)),(12,oT (aj B))] (kp [4]) (kq [32]) 464 (pc o1 (pc o1 (pc (vU _ _ _ _ t) (pc o1 (pc o1 (pc (vU _ _ _ _ v) (pc (acQ _ _ _ _ w) (pc o1 (pc o1 (pc (vU _ _ _ _ A) (pc (pK _ _ _ _ C) (pc o1 pn)))))))))))) ?_;obtain rfl:=jS h;exact mh a 0 Tryz.f92 [] (kp [4]) [(16,.ak 32)] 464 pn [16] (pc o1 pn)
theorem g9 (N x y r) (h:gr N x y=some r):Sd 96 [(aj x),(aj y)] [] 0 (aj r) []:=by
 unfold gr at h;refine sO Tryz.f96 9 fun E a=>?_;refine ax a 1 iI fU 48 ?_;obtain ⟨b,c,h⟩:=aW h;obtain ⟨d,e,h⟩:=aW h;refine bK a 1 [(2,oT (aj b)),(3,oT (aj d))] (kp [4]) (kq [32]) 128 (pc o1 (pc o1 (pc (pL _ _ _ c) (pc (bF _ _ _ _ e) (pc o1 pn))))) ?_;obtain rfl:=jS h;exact mh a 0 Tryz.f96 [] (kp [4]) [(16,.ak 32)] 128 pn [16] (pc o1 pn)
theorem jB (N x y r) (h:iQ N x y=some r):Sd 51 [(aj x),(aj y)] [] 0 (aI r) []:=by
 unfold iQ at h;refine sO Tryz.f51 9 fun E a=>?_;refine ax a 1 (kp [2,3]) jt 48 ?_;obtain ⟨b,c,h⟩:=aW h;obtain ⟨d,e,h⟩:=aW h;refine bK a 1 [(2,oT (aj b)),(3,oT (aI d))] (kp [4]) [] 128 (pc o1 (pc o1 (pc (g9 _ _ _ _ c) (pc (mq _ _ _ e) pn)))) ?_;obtain rfl:=jS h;exact iG a 0 Tryz.f51 (kp [4]) [] 128
theorem zO (N x y r) (h:xt N x y=some r):Sd 156 [(aj x),(aj y)] [] 0 (aj r) []:=by
 unfold xt at h;refine sO Tryz.f156 16 fun E a=>?_;refine ax a 1 iI fU 48 ?_;obtain ⟨b,c,h⟩:=aW h;obtain ⟨d,e,h⟩:=aW h;obtain ⟨f,g,h⟩:=aW h;obtain ⟨i,j,h⟩:=aW h;obtain ⟨k,l,h⟩:=aW h;refine bK a 1 [(3,oT (dM b)),(4,oT (dM d)),(6,oT (dM f)),(9,oT (dM i)),(10,oT (aj k))] (kp [4]) (kq [32]) 240 (pc o1 (pc o1 (pc (nZ _ _ _ c) (pc (vU _ _ _ _ e) (pc o1 (pc (nZ _ _ _ g) (pc o1 (pc (vU _ _ _ _ j) (pc (pK _ _ _ _ l) (pc o1 pn)))))))))) ?_;obtain rfl:=jS h;exact mh a 0 Tryz.f156 [] (kp [4]) [(16,.ak 32)] 240 pn [16] (pc o1 pn)
theorem bN (N x y r) (h:bR N x y=some r):Sd 93 [(aj x),(aj y)] [] 0 (aj r) []:=by
 unfold bR at h;refine sO Tryz.f93 16 fun E a=>?_;refine ax a 1 iI fU 48 ?_;obtain ⟨b,c,h⟩:=aW h;obtain ⟨d,e,h⟩:=aW h;obtain ⟨f,g,h⟩:=aW h;obtain ⟨i,j,h⟩:=aW h;obtain ⟨k,l,h⟩:=aW h;refine bK a 1 [(4,oT (dM b)),(6,oT (dM d)),(8,oT (dM f)),(9,oT (dM i)),(10,oT (aj k))] (kp [4]) (kq [32]) 240 (pc o1 (pc o1 (pc (vU _ _ _ _ c) (pc o1 (pc (nZ _ _ _ e) (pc o1 (pc (nZ _ _ _ g) (pc (vU _ _ _ _ j) (pc (pK _ _ _ _ l) (pc o1 pn)))))))))) ?_;obtain rfl:=jS h;exact mh a 0 Tryz.f93 [] (kp [4]) [(16,.ak 32)] 240 pn [16] (pc o1 pn)
noncomputable abbrev am0:=bt Tryz.f157
def zP (N:Nat) (j:Int) (f:ab) (b:List ab) (K:bh->Int->Option CS):Prop:=∀ (a:List ab) (x:Int) (r:bh),K a x=some r->∀ E,ba E 1->aK Tryz.prog E 157 49 (bd E [(Dq r)] (.tup [])) [.code (am0 28),.inLoop (am0 28),.inBlock 0] ⟨[(1,(.os 0 0 a.length)),(2,(.os 0 0 a.length)),(3,(aI j)),(9,(.op 1 0 0)),(Xn b),(13,(aI x))],[(Ib a),(Oa f)],2⟩
def IK (N:Nat) (j:Int) (f:ab) (b:List ab) (x:Int) (K:bh->Option CS):Prop:=∀ (a:List ab) (r:bh),K a=some r->∀ E,ba E 1->aK Tryz.prog E 157 49 (bd E [(Dq r)] (.tup [])) [.code (am0 231),.inLoop (am0 28),.inBlock 0] ⟨[(1,(.os 0 0 a.length)),(2,(.os 0 0 a.length)),(3,(aI j)),(9,(.op 1 0 0)),(Xn b),(13,(aI x))],[(Ib a),(Oa f)],2⟩
theorem sU (N:Nat) (j:Int) (f:ab) (a:List ab) (x:Int) (c:bh->Int->Option CS) (d:zP N j f a c):IK N j f a x (oQ N j f a x c):=by
 intro e r h E b;unfold oQ at h;refine ax b 0 xK (kq [0,1]) 34 <| cY b 1 xK (kq [0,1]) 2 (d _ _ _ h E b)
theorem Hn (N j f k fuel):zP N j f k (kz N j f k fuel):=by
 induction fuel with
 | zero=>intro _ _ r h;rw [kz.eq_1] at h;cases h
 | succ fuel i =>
  intro a x r h E b;rw [kz.eq_2] at h;refine ax b 1 (kp [1,2,3,9,12,13,14]) (kq [0,1]) 18 <| dr 1 14 h (fun l h=>?_) (fun l h=>?_)
  ·refine ax b 4 (kp [1,2,3,9,10,12,13]) (kq [0,1]) 50 <| ax b 1 (kp [1,2,3,9,10,12,13,18]) (kq [0,1]) 98 <| dr 0 18 h (fun m h=>?_) (fun m h=>?_)
   ·obtain ⟨c,h⟩:=ae h;obtain ⟨d,n,h⟩:=aW h;refine bK b 0 [(7,oT (aj d))] ([(1,.l5 (zL a x d)),(2,.l5 (zL a x d))] ++ kp [3,9,12,13]) ([(Xm a x d)] ++ kq [1]) 258 (pc o1 (pc c (pc (dR c) (pc (bN _ _ _ _ n) (pc c (pc (dR c) (pc (bm a x.toNat d) (pc (bm a x.toNat d) (pc (bm a x.toNat d) (pc (dK bH ab.d a x.toNat d) pn)))))))))) <| cY b 1 xK (kq [0,1]) 2 (sU N _ _ _ _ _ i _ _ h E b)
   ·obtain ⟨e,h⟩:=ae h;obtain ⟨o,p,h⟩:=aW h;refine bK b 1 [(4,oT (aB o))] (kp [1,2,3,9,10,12,13,33]) (kq [0,1]) 194 (pc e (pc (dR e) (pc (jA _ _ _ p) pn))) <| dr 0 33 h (fun q h=>?_) (fun q h=>?_)
    ·obtain ⟨s,t,h⟩:=aW h;obtain ⟨g,u,h⟩:=aW h;refine bK b 0 [(11,oT (aj s)),(12,oT (aj g))] ([(1,.l5 (zL a x g)),(2,.l5 (zL a x g))] ++ kp [3,9,12,13]) ([(Xm a x g)] ++ kq [1]) 434 (pc e (pc (dR e) (pc o1 (pc e (pc (dR e) (pc (bN _ _ _ _ t) (pc (bF _ _ _ _ u) (pc e (pc (dR e) (pc (bm a x.toNat g) (pc (bm a x.toNat g) (pc (bm a x.toNat g) (pc (dK bH ab.d a x.toNat g) pn))))))))))))) <| cY b 1 xK (kq [0,1]) 2 (sU N _ _ _ _ _ i _ _ h E b)
    ·exact cY b 2 xK (kq [0,1]) 2 (sU N _ _ _ _ _ i _ _ h E b)
  ·obtain rfl:=jS h;exact rnF b 1 Tryz.f157 [] [] (kq [0]) 49 pn [] pn
theorem Lj (N j f a r) (h:Ai N j f a=some r):Sd 157 [.qm,(.os 0 0 a.length),(.os 0 0 a.length),(aI j),(aj f)] [(Ib a)] 1 (.tup []) [(Dq r)]:=by
 unfold Ai at h;refine sO Tryz.f157 49 fun E b=>?_;refine ax b 1 (kp [1,2,3,9]) (kq [0,1]) 17 <| ax b 1 xK (kq [0,1]) 65 <| cY b 2 xK (kq [0,1]) 2 (Hn N _ _ _ N _ _ _ h E b)
noncomputable abbrev am1:=bt Tryz.f157
def wF (N:Nat) (j:Int) (f:ab) (c:List ab) (a:List ab) (K:bh->Int->Option CS):Prop:=∀ (b:List ab) (x:Int) (r:bh),K b x=some r->∀ E,ba E 2->aK Tryz.prog E 157 49 (bd E [(Dq r),(vT a)] (.tup [])) [.code (am1 28),.inLoop (am1 28),.inBlock 0] ⟨[(1,(.os 0 0 b.length)),(2,(.os 1 0 a.length)),(3,(aI j)),(9,(.op 2 0 0)),(Xn c),(13,(aI x))],[(Ib b),(vT a),(tS f)],3⟩
def EE (N:Nat) (j:Int) (f:ab) (c:List ab) (a:List ab) (x:Int) (K:bh->Option CS):Prop:=∀ (b:List ab) (r:bh),K b=some r->∀ E,ba E 2->aK Tryz.prog E 157 49 (bd E [(Dq r),(vT a)] (.tup [])) [.code (am1 231),.inLoop (am1 28),.inBlock 0] ⟨[(1,(.os 0 0 b.length)),(2,(.os 1 0 a.length)),(3,(aI j)),(9,(.op 2 0 0)),(Xn c),(13,(aI x))],[(Ib b),(vT a),(tS f)],3⟩
theorem qx (N:Nat) (j:Int) (f:ab) (a:List ab) (b:List ab) (x:Int) (d:bh->Int->Option CS) (e:wF N j f a b d):EE N j f a b x (jW N j f a b x d):=by
 intro g r h E c;unfold jW at h;refine ax c 0 xK fK 35 <| cY c 1 xK fK 3 (e _ _ _ h E c)
theorem DC (N j f l m fuel):wF N j f l m (fB N j f l m fuel):=by
 induction fuel with
 | zero=>intro _ _ r h;rw [fB.eq_1] at h;cases h
 | succ fuel k =>
  intro b x r h E a;rw [fB.eq_2] at h;refine ax a 1 (kp [1,2,3,9,12,13,14]) fK 19 <| dr 1 14 h (fun o h=>?_) (fun o h=>?_)
  ·refine ax a 4 (kp [1,2,3,9,10,12,13]) fK 51 <| ax a 1 (kp [1,2,3,9,10,12,13,18]) fK 99 <| dr 0 18 h (fun p h=>?_) (fun p h=>?_)
   ·obtain ⟨c,h⟩:=ae h;obtain ⟨d,q,h⟩:=aW h;obtain ⟨n,h⟩:=ae h;refine bK a 0 [(7,oT (aj d))] ([(1,.l5 (zL b x d))] ++ kp [2,3,9,12,13]) ([(Xm b x d)] ++ kq [1,2]) 259 (pc o1 (pc c (pc (dR c) (pc (bN _ _ _ _ q) (pc n (pc (dR n) (pc (bm b x.toNat d) (pc (bm b x.toNat d) (pc (dK bH ab.d b x.toNat d) pn))))))))) <| cY a 1 xK fK 3 (qx N _ _ _ _ _ _ k _ _ h E a)
   ·obtain ⟨g,h⟩:=ae h;obtain ⟨s,t,h⟩:=aW h;refine bK a 1 [(4,oT (aB s))] (kp [1,2,3,9,10,12,13,33]) fK 195 (pc g (pc (dR g) (pc (jA _ _ _ t) pn))) <| dr 0 33 h (fun u h=>?_) (fun u h=>?_)
    ·obtain ⟨i,h⟩:=ae h;obtain ⟨v,w,h⟩:=aW h;obtain ⟨e,y,h⟩:=aW h;refine bK a 0 [(11,oT (aj v)),(12,oT (aj e))] ([(1,.l5 (zL b x e))] ++ kp [2,3,9,12,13]) ([(Xm b x e)] ++ kq [1,2]) 435 (pc i (pc (dR i) (pc o1 (pc g (pc (dR g) (pc (bN _ _ _ _ w) (pc (bF _ _ _ _ y) (pc i (pc (dR i) (pc (bm b x.toNat e) (pc (bm b x.toNat e) (pc (dK bH ab.d b x.toNat e) pn)))))))))))) <| cY a 1 xK fK 3 (qx N _ _ _ _ _ _ k _ _ h E a)
    ·exact cY a 2 xK fK 3 (qx N _ _ _ _ _ _ k _ _ h E a)
  ·obtain rfl:=jS h;exact rnF a 1 Tryz.f157 [] [] (kq [0,1]) 50 pn [] pn
theorem sV (N j f c a r) (h:l9 N j f c a=some r):Sd 157 [.qm,(.os 0 0 c.length),(.os 1 0 a.length),(aI j),(aj f)] [(Ib c),(vT a)] 2 (.tup []) [(Dq r),(vT a)]:=by
 unfold l9 at h;refine sO Tryz.f157 49 fun E b=>?_;refine ax b 1 (kp [1,2,3,9]) fK 18 <| ax b 1 xK fK 66 <| cY b 2 xK fK 3 (DC N _ _ _ _ N _ _ _ h E b)
noncomputable abbrev ON:=bt Tryz.f86
def xM (N:Nat) (i:Int) (j:Int) (g:Int) (h:Int) (k:Bool) (l:List Int) (m:Bool) (n:List Int) (o:Int) (c:List Int) (d:List Int) (a:List bh) (e:List ab) (f:List ab) (K:bh->Int->Option K1):Prop:=∀ (b:List ab) (x:Int) (r:re×(List Int)×(List Int)×oV×bh×bh),K b x=some r->∀ E,ba E 6->aK Tryz.prog E 86 194 (bd E [(0,vN 12 [(aI r.1.HR),(aI r.1.HS),(.os 1 0 r.2.1.length),(.os 2 0 r.2.2.1.length),(.os 3 0 r.2.2.2.1.length),(.os 4 0 r.2.2.2.2.1.length),(.os 5 0 r.2.2.2.2.2.length),(aB r.1.bC.fN.fG),(F2 r),(aB r.1.bC.fD.fG),(F1 r),(aI r.1.eY)]),(1,aO 1 cI 0 r.2.1),(2,aO 1 cI 0 r.2.2.1),(FT r),(FU r),(FX r)] (.tup [])) [.code (ON 116),.inLoop (ON 116),.inBlock 0,.code (ON 15)] ⟨[(0,(.op 0 0 0)),(1,(aI i)),(2,(aI j)),(6,(.op 7 0 0)),(7,(qW b)),(30,(aI (((pk a i).length:Nat):Int))),(31,(aI x))],[(jL g h c d a e f k l m n o),(gI c),(iT d),(3,⟨false,1,a.length,false,aJ [(dC i b)] (au a)⟩),(gx e),(ja f),(tT b),(7,vO 4 [(aB ((ad8 a i j).fG)),(eU ((ad8 a i j).fL)),(aB ((ad7 a i j).fG)),(eU ((ad7 a i j).fL))])],8⟩
def F7 (N:Nat) (i:Int) (j:Int) (g:Int) (h:Int) (k:Bool) (l:List Int) (m:Bool) (n:List Int) (o:Int) (c:List Int) (d:List Int) (a:List bh) (e:List ab) (f:List ab) (x:Int) (K:bh->Option K1):Prop:=∀ (b:List ab) (r:re×(List Int)×(List Int)×oV×bh×bh),K b=some r->∀ E,ba E 6->aK Tryz.prog E 86 194 (bd E [(0,vN 12 [(aI r.1.HR),(aI r.1.HS),(.os 1 0 r.2.1.length),(.os 2 0 r.2.2.1.length),(.os 3 0 r.2.2.2.1.length),(.os 4 0 r.2.2.2.2.1.length),(.os 5 0 r.2.2.2.2.2.length),(aB r.1.bC.fN.fG),(F2 r),(aB r.1.bC.fD.fG),(F1 r),(aI r.1.eY)]),(1,aO 1 cI 0 r.2.1),(2,aO 1 cI 0 r.2.2.1),(FT r),(FU r),(FX r)] (.tup [])) [.code (ON 935),.inLoop (ON 116),.inBlock 0,.code (ON 15)] ⟨[(0,(.op 0 0 0)),(1,(aI i)),(2,(aI j)),(6,(.op 7 0 0)),(7,(qW b)),(30,(aI (((pk a i).length:Nat):Int))),(31,(aI x))],[(jL g h c d a e f k l m n o),(gI c),(iT d),(3,⟨false,1,a.length,false,aJ [(dC i b)] (au a)⟩),(gx e),(ja f),(tT b),(7,vO 4 [(aB ((ad8 a i j).fG)),(eU ((ad8 a i j).fL)),(aB ((ad7 a i j).fG)),(eU ((ad7 a i j).fL))])],8⟩
theorem wG (N:Nat) (i:Int) (j:Int) (d:Int) (e:Int) (f:Bool) (g:List Int) (k:Bool) (l:List Int) (m:Int) (n:List Int) (o:List Int) (a:List bh) (p:List ab) (q:List ab) (x:Int) (t:bh->Int->Option K1) (u:xM N i j d e f g k l m n o a p q t):F7 N i j d e f g k l m n o a p q x (mA N i j d e f g k l m n o a p q x t):=by
 intro c r h E s;unfold mA at h;refine dV s 0 Ot (OD a i c) 40 (pc (Eq.refl a.length) (pc (show ∀ b,b < a.length->aJ [(dC i c)] (au a) b=aJ [(dC i c)] (au a) b from (fun _ _=>rfl)) (pc (show ∀ b,b < a.length->gi ((au a) b)=true from (fun _ _=>rfl)) pn))) <| rnW s 1 [] Ot (OD a i c) 8 (pc (Eq.refl a.length) (pc (show ∀ b,b < a.length->aJ [(dC i c)] (au a) b=aJ [(dC i c)] (au a) b from (fun _ _=>rfl)) (pc (show ∀ b,b < a.length->gi ((au a) b)=true from (fun _ _=>rfl)) pn))) (u _ _ _ h E s)
def xN (N:Nat) (i:Int) (j:Int) (h:Int) (k:Int) (l:Bool) (m:List Int) (n:Bool) (o:List Int) (p:Int) (d:List Int) (e:List Int) (q:List bh) (f:List ab) (K:oV->bh->bh->Int->Option K1):Prop:=∀ (a:List bh) (b:List ab) (c:List ab) (g:Int) (r:re×(List Int)×(List Int)×oV×bh×bh),K a b c g=some r->∀ E,ba E 6->aK Tryz.prog E 86 194 (bd E [(0,vN 12 [(aI r.1.HR),(aI r.1.HS),(.os 1 0 r.2.1.length),(.os 2 0 r.2.2.1.length),(.os 3 0 r.2.2.2.1.length),(.os 4 0 r.2.2.2.2.1.length),(.os 5 0 r.2.2.2.2.2.length),(aB r.1.bC.fN.fG),(F2 r),(aB r.1.bC.fD.fG),(F1 r),(aI r.1.eY)]),(1,aO 1 cI 0 r.2.1),(2,aO 1 cI 0 r.2.2.1),(FT r),(FU r),(FX r)] (.tup [])) [.code (ON 1012),.inLoop (ON 1012),.inBlock 2,.code (ON 127)] ⟨[(0,(.op 0 0 0)),(1,(aI i)),(2,(aI j)),(7,(qW b)),(74,(aI (q.length:Int))),(75,(aI g))],[(jL h k d e a c f l m n o p),(gI d),(iT e),(3,⟨false,1,a.length,false,aJ [(dC i b)] (au a)⟩),(gx c),(ja f),(tT b)],7⟩
def F8 (N:Nat) (i:Int) (j:Int) (g:Int) (h:Int) (k:Bool) (l:List Int) (m:Bool) (n:List Int) (o:Int) (d:List Int) (e:List Int) (p:List bh) (f:List ab) (q:Int) (K:oV->bh->bh->Option K1):Prop:=∀ (a:List bh) (b:List ab) (c:List ab) (r:re×(List Int)×(List Int)×oV×bh×bh),K a b c=some r->∀ E,ba E 6->aK Tryz.prog E 86 194 (bd E [(0,vN 12 [(aI r.1.HR),(aI r.1.HS),(.os 1 0 r.2.1.length),(.os 2 0 r.2.2.1.length),(.os 3 0 r.2.2.2.1.length),(.os 4 0 r.2.2.2.2.1.length),(.os 5 0 r.2.2.2.2.2.length),(aB r.1.bC.fN.fG),(F2 r),(aB r.1.bC.fD.fG),(F1 r),(aI r.1.eY)]),(1,aO 1 cI 0 r.2.1),(2,aO 1 cI 0 r.2.2.1),(FT r),(FU r),(FX r)] (.tup [])) [.code (ON 8103),.inLoop (ON 1012),.inBlock 2,.code (ON 127)] ⟨[(0,(.op 0 0 0)),(1,(aI i)),(2,(aI j)),(7,(qW b)),(74,(aI (p.length:Int))),(75,(aI q))],[(jL g h d e a c f k l m n o),(gI d),(iT e),(3,⟨false,1,a.length,false,aJ [(dC i b)] (au a)⟩),(gx c),(ja f),(tT b)],7⟩
theorem kJ (N:Nat) (i:Int) (j:Int) (d:Int) (e:Int) (f:Bool) (g:List Int) (k:Bool) (l:List Int) (m:Int) (n:List Int) (o:List Int) (p:List bh) (q:List ab) (t:Int) (u:oV->bh->bh->Int->Option K1) (v:xN N i j d e f g k l m n o p q u):F8 N i j d e f g k l m n o p q t (gM N i j d e f g k l m n o p q t u):=by
 intro a c w r h E s;unfold gM at h;refine dV s 0 yL (OE a i c) 39 (pc (Eq.refl a.length) (pc (show ∀ b,b < a.length->aJ [(dC i c)] (au a) b=aJ [(dC i c)] (au a) b from (fun _ _=>rfl)) (pc (show ∀ b,b < a.length->gi ((au a) b)=true from (fun _ _=>rfl)) pn))) <| rnW s 1 [] yL (OE a i c) 7 (pc (Eq.refl a.length) (pc (show ∀ b,b < a.length->aJ [(dC i c)] (au a) b=aJ [(dC i c)] (au a) b from (fun _ _=>rfl)) (pc (show ∀ b,b < a.length->gi ((au a) b)=true from (fun _ _=>rfl)) pn))) (v _ _ _ _ _ h E s)
def F9 (N:Nat) (i:Int) (j:Int) (m:Int) (n:Int) (o:Int) (b:List Int) (c:List Int) (d:List bh) (e:List ab) (f:List ab) (K:bh->Bool->(List Int)->Bool->(List Int)->Option K1):Prop:=∀ (a:List ab) (g:Bool) (h:List Int) (k:Bool) (l:List Int) (r:re×(List Int)×(List Int)×oV×bh×bh),K a g h k l=some r->∀ E,ba E 6->aK Tryz.prog E 86 194 (bd E [(0,vN 12 [(aI r.1.HR),(aI r.1.HS),(.os 1 0 r.2.1.length),(.os 2 0 r.2.2.1.length),(.os 3 0 r.2.2.2.1.length),(.os 4 0 r.2.2.2.2.1.length),(.os 5 0 r.2.2.2.2.2.length),(aB r.1.bC.fN.fG),(F2 r),(aB r.1.bC.fD.fG),(F1 r),(aI r.1.eY)]),(1,aO 1 cI 0 r.2.1),(2,aO 1 cI 0 r.2.2.1),(FT r),(FU r),(FX r)] (.tup [])) [.code (ON 255)] ⟨[(0,(.op 0 0 0)),(1,(aI i)),(2,(aI j))],[(0,vN 12 [(aI m),(aI n),(CT b),(Pt c),(.os 3 0 ((d.set i.toNat e).length)),(yI f),(Xf a),(aB g),(di h),(aB k),(di l),(aI o)]),(gI b),(iT c),(3,aM 4 bH ab.d (d.set i.toNat e)),(gx f),(ja a)],6⟩
theorem wH (N i j e f g a b k l m):F9 N i j e f g a b k l m (kF N i j e f g a b k l m):=by
 intro o p q s t r h E n;unfold kF at h;obtain ⟨c,h⟩:=ae h;obtain ⟨d,h⟩:=ae h;refine dV n 0 [] ([(0,.var 0 [.ak,.ak,.l5 ((a.set i.toNat (zK b j)).length),.l5 ((b.set j.toNat (zK a i)).length),.ak,.ak,.ak,.ak,.ak,.ak,.ak,.ak]),(1,ri 1 cI 0 (a.set i.toNat (zK b j))),(2,ri 2 cI 0 (b.set j.toNat (zK a i)))] ++ kq [3,4,5]) 454 (pc o1 (pc o1 (pc o1 (pc c (pc (dR c) (pc o1 (pc d (pc (dR d) (pc d (pc (dR d) (pc c (pc (dR c) (pc (bm a i.toNat (zK b j)) (pc (bm b j.toNat (zK a i)) (pc (bm a i.toNat (zK b j)) (pc (dK cI 0 a i.toNat (zK b j)) (pc (bm b j.toNat (zK a i)) (pc (dK cI 0 b j.toNat (zK a i)) pn)))))))))))))))))) ?_;cases h;exact rnF n 0 Tryz.f86 [] [] fJ 454 pn [] pn
theorem EH (N i j W X Y Z fR gD gu C1 C2 C3 M fuel):xN N i j W X Y Z fR gD gu C1 C2 C3 M (dX N i j W X Y Z fR gD gu C1 C2 C3 M fuel):=by
 induction fuel with
 | zero=>intro _ _ _ _ r h;rw [dX.eq_1] at h;cases h
 | succ fuel A =>
  intro a e p f r h E g;rw [dX.eq_2] at h;refine dV g 1 (kp [0,1,2,7,74,75,76]) (OE a i e) 23 (pc (Eq.refl a.length) (pc (show ∀ b,b < a.length->aJ [(dC i e)] (au a) b=aJ [(dC i e)] (au a) b from (fun _ _=>rfl)) (pc (show ∀ b,b < a.length->gi ((au a) b)=true from (fun _ _=>rfl)) pn))) <| dr 1 76 h (fun rf h=>?_) (fun rf h=>?_)
  ·refine dV g 4 (kp [0,1,2,7,9,74,75]) (OE a i e) 55 (pc (Eq.refl a.length) (pc (show ∀ b,b < a.length->aJ [(dC i e)] (au a) b=aJ [(dC i e)] (au a) b from (fun _ _=>rfl)) (pc (show ∀ b,b < a.length->gi ((au a) b)=true from (fun _ _=>rfl)) pn))) ?_;rcases condSplit h with ⟨w,h⟩ | ⟨w,h⟩
   ·obtain ⟨x,h⟩:=ae h;obtain ⟨X3,h⟩:=ae h;refine bK g 1 [(6,oF (qW e))] Sj (ai5 a i e) 247 (pc o1 (pc x (pc (dR x) (pc (show (aJ [(dC i e)] (au a) f.toNat)[0]?=some (qW e) from (gO (nH w))) (pc X3 (pc (dR X3) (pc o1 (pc (Eq.refl a.length) (pc (show ∀ b,b < a.length->aJ [(dC i e)] (au a) b=aJ [(dC i e)] (au a) b from (fun _ _=>rfl)) (pc (show ∀ b,b < a.length->gi ((au a) b)=true from (fun _ _=>rfl)) pn)))))))))) ?_;obtain ⟨gy,Cs,h⟩:=aW h;refine bK g 1 [(5,oT (aB gy))] aiQ (ai5 a i e) 375 (pc (fun n:(f != i)=true=>(pc o1 pn)) (pc (fun n:(f != i)=true=>(pc (jA _ _ _ (aN Cs n)) (pc n pn))) (pc (fun n:(f != i)=true=>(pc n pn)) (pc (fun hq:(f != i)=true=>(pc hq pn)) (pc (Eq.refl a.length) (pc (show ∀ b,b < a.length->aJ [(dC i e)] (au a) b=aJ [(dC i e)] (au a) b from (fun _ _=>rfl)) (pc (show ∀ b,b < a.length->gi ((au a) b)=true from (fun _ _=>rfl)) pn))))))) <| dr 0 95 h (fun F6 h=>?_) (fun F6 h=>?_)
    ·obtain ⟨L,h⟩:=ae h;obtain ⟨B,h⟩:=ae h;obtain ⟨aP,G1,h⟩:=aW h;obtain ⟨y,Li,h⟩:=aW h;refine bK g 1 [(20,oT (aj aP)),(21,oT (aj y))] Sj ([(0,.var 0 [.ak,.ak,.ak,.ak,.ak,.l5 (zL p f y),.ak,.ak,.ak,.ak,.ak,.ak])] ++ kq [1,2] ++ [(3,.Fm 3 (a.length) [(dC i e)] (au a)),(4,ri 4 bH ab.d (p.set f.toNat y))] ++ kq [5,6,215]) 759 (pc o1 (pc o1 (pc L (pc (dR L) (pc o1 (pc o1 (pc B (pc (dR B) (pc (bN _ _ _ _ G1) (pc (bF _ _ _ _ Li) (pc L (pc (dR L) (pc (bm p f.toNat y) (pc (Eq.refl a.length) (pc (show ∀ b,b < a.length->aJ [(dC i e)] (au a) b=aJ [(dC i e)] (au a) b from (fun _ _=>rfl)) (pc (show ∀ b,b < a.length->gi ((au a) b)=true from (fun _ _=>rfl)) (pc (bm p f.toNat y) (pc (dK bH ab.d p f.toNat y) pn)))))))))))))))))) ?_;rcases condSplit h with ⟨q,h⟩ | ⟨q,h⟩
     ·obtain ⟨u,Av,h⟩:=aW h;obtain ⟨C,h⟩:=ae h;refine bK g 0 [(7,oF (qW e)),(11,⟨[6],false,(.tup []),[(Dq u)],0,false,none⟩)] (kp [0,1,2] ++ [(7,.l5 (u.length))] ++ kp [74,75]) (ai7 a i u) 951 (pc o1 (pc x (pc (dR x) (pc (show (aJ [(dC i e)] (au a) f.toNat)[0]?=some (qW e) from (gO (nH q))) (pc o1 (pc (Lj _ _ _ _ _ Av) (pc (show e.length=u.length from (Eq.symm C)) (pc (Eq.refl a.length) (pc (show ∀ b,b < a.length->aJ [(i.toNat,6,u.length)] (au a) b=aJ [(dC i e)] (au a) b from (fun b _=>(congrArg (fun D=>aJ [(i.toNat,6,D)] (au a) b) (Eq.symm (Eq.symm C))))) (pc (show ∀ b,b < a.length->gi ((au a) b)=true from (fun _ _=>rfl)) pn)))))))))) <| rnW g 1 [] yL (ai7 a i u) 7 (pc (Eq.refl a.length) (pc (show ∀ b,b < a.length->aJ [(i.toNat,6,u.length)] (au a) b=aJ [(i.toNat,6,u.length)] (au a) b from (fun _ _=>rfl)) (pc (show ∀ b,b < a.length->gi ((au a) b)=true from (fun _ _=>rfl)) pn))) (kJ N _ _ _ _ _ _ _ _ _ _ _ _ _ _ _ A _ _ _ _ h E g)
     ·obtain ⟨v,h⟩:=ae h;refine rnO 3 f.toNat 4 (qV a f) (F3 a f) (pc v (pc (show aJ [(dC i e)] (au a) f.toNat=mR 4 bH ab.d (pk a f) from (if_neg (o7 q))) pn)) ?_;obtain ⟨k,B9,h⟩:=aW h;obtain ⟨O,h⟩:=ae h;refine bK g 0 [(7,oF (.os 759 0 (qV a f))),(11,⟨[759,6],false,(.tup []),[(Dq k),(vT e)],0,false,none⟩)] yL (kq [0,1,2] ++ [(3,.Fm 3 (a.length) [(f.toNat,759,k.length),(dC i e)] (au a))] ++ kq [4,5,6,759]) 967 (pc o1 (pc x (pc (dR x) (pc (show (aJ [(f.toNat,759,(pk a f).length),(dC i e)] (au a) f.toNat)[0]?=some (.os 759 0 (qV a f)) from (gO rfl)) (pc o1 (pc (sV _ _ _ _ _ _ B9) (pc (Eq.refl a.length) (pc (show ∀ b,b < a.length->aJ [(f.toNat,759,k.length),(dC i e)] (au a) b=aJ [(f.toNat,759,(pk a f).length),(dC i e)] (au a) b from (fun b _=>(congrArg (fun D=>aJ [(f.toNat,759,D),(dC i e)] (au a) b) (Eq.symm (Eq.symm O))))) (pc (show ∀ b,b < a.length->gi ((au a) b)=true from (fun _ _=>rfl)) pn))))))))) <| rnL 3 759 f.toNat (pc v (pc (show aJ [(f.toNat,759,k.length),(dC i e)] (au a) f.toNat=[.os 759 0 k.length] from if_pos rfl) (pc (show ∀ m,m < k.length->uE (bH (k.getD m ab.d))=true from fun _ _=>rfl) pn))) <| rnX g [] yL ([(0,.var 0 [.ak,.ak,.ak,.ak,.l5 ((a.set f.toNat k).length),.ak,.ak,.ak,.ak,.ak,.ak,.ak])] ++ kq [1,2] ++ [(3,.Fm 3 ((a.set f.toNat k).length) [(dC i e)] (Dt a f k))] ++ kq [4,5,6]) 967 (pc (bm a f.toNat k) (pc (bm a f.toNat k) (pc (Me (sz:=4) (c:=bH) (d:=ab.d) a f.toNat 759 k.length k [(dC i e)] v (neC (Ne.symm (o7 q)) Ro)) (pc (show ∀ b,b < (a.set f.toNat k).length->gi ((Dt a f k) b)=true from fun _ _=>rfl) pn)))) <| rnW g 1 [] yL (ai9 a f k i e) 7 (pc (Eq.refl ((a.set f.toNat k).length)) (pc (show ∀ b,b < (a.set f.toNat k).length->aJ [(dC i e)] (Dt a f k) b=aJ [(dC i e)] (Dt a f k) b from (fun _ _=>rfl)) (pc (show ∀ b,b < (a.set f.toNat k).length->gi ((Dt a f k) b)=true from (fun _ _=>rfl)) pn))) (kJ N _ _ _ _ _ _ _ _ _ _ _ _ _ _ _ A _ _ _ _ h E g)
    ·exact rnW g 2 [] yL (OE a i e) 7 (pc (Eq.refl a.length) (pc (show ∀ b,b < a.length->aJ [(dC i e)] (au a) b=aJ [(dC i e)] (au a) b from (fun _ _=>rfl)) (pc (show ∀ b,b < a.length->gi ((au a) b)=true from (fun _ _=>rfl)) pn))) (kJ N _ _ _ _ _ _ _ _ _ _ _ _ _ _ _ A _ _ _ _ h E g)
   ·obtain ⟨o,h⟩:=ae h;refine rnO 3 f.toNat 4 (qV a f) (F3 a f) (pc o (pc (show aJ [(dC i e)] (au a) f.toNat=mR 4 bH ab.d (pk a f) from (if_neg (o7 w))) pn)) ?_;obtain ⟨s,h⟩:=ae h;obtain ⟨F,h⟩:=ae h;refine bK g 1 [(6,oF (NY a f))] Sj (kq [0,1,2] ++ [(3,.Fm 3 (a.length) [(Kb f a),(dC i e)] (au a))] ++ kq [4,5,6,55,231]) 263 (pc o1 (pc s (pc (dR s) (pc (show (aJ [(Kb f a),(dC i e)] (au a) f.toNat)[0]?=some (NY a f) from (gO rfl)) (pc F (pc (dR F) (pc o1 (pc (Eq.refl a.length) (pc (show ∀ b,b < a.length->aJ [(Kb f a),(dC i e)] (au a) b=aJ [(Kb f a),(dC i e)] (au a) b from (fun _ _=>rfl)) (pc (show ∀ b,b < a.length->gi ((au a) b)=true from (fun _ _=>rfl)) pn)))))))))) <| rnL 3 55 f.toNat (pc o (pc (show aJ [(Kb f a),(dC i e)] (au a) f.toNat=[.os 55 0 (pk a f).length] from if_pos rfl) (pc (show ∀ m,m < (pk a f).length->uE (bH ((pk a f).getD m ab.d))=true from fun _ _=>rfl) pn))) <| rnX g [] Sj (ai6 a i e) 263 (pc (Eq.refl (a.length)) (pc (Eg (sz:=4) (c:=bH) (d:=ab.d) a f.toNat 55 (qV a f) [(dC i e)] (neC (Ne.symm (o7 w)) Ro)) (pc (show ∀ b,b < a.length->gi ((au a) b)=true from fun _ _=>rfl) pn))) ?_
    obtain ⟨BN,Lk,h⟩:=aW h;refine bK g 1 [(5,oT (aB BN))] aiQ (ai6 a i e) 391 (pc (fun n:(f != i)=true=>(pc o1 pn)) (pc (fun n:(f != i)=true=>(pc (jA _ _ _ (aN Lk n)) (pc n pn))) (pc (fun n:(f != i)=true=>(pc n pn)) (pc (fun hq:(f != i)=true=>(pc hq pn)) (pc (Eq.refl a.length) (pc (show ∀ b,b < a.length->aJ [(dC i e)] (au a) b=aJ [(dC i e)] (au a) b from (fun _ _=>rfl)) (pc (show ∀ b,b < a.length->gi ((au a) b)=true from (fun _ _=>rfl)) pn))))))) <| dr 0 95 h (fun X2 h=>?_) (fun X2 h=>?_)
    ·obtain ⟨t,h⟩:=ae h;obtain ⟨G,h⟩:=ae h;obtain ⟨fe,S3,h⟩:=aW h;obtain ⟨z,OO,h⟩:=aW h;refine bK g 1 [(20,oT (aj fe)),(21,oT (aj z))] Sj ([(0,.var 0 [.ak,.ak,.ak,.ak,.ak,.l5 (zL p f z),.ak,.ak,.ak,.ak,.ak,.ak])] ++ kq [1,2] ++ [(3,.Fm 3 (a.length) [(dC i e)] (au a)),(4,ri 4 bH ab.d (p.set f.toNat z))] ++ kq [5,6,231]) 775 (pc o1 (pc o1 (pc t (pc (dR t) (pc o1 (pc o1 (pc G (pc (dR G) (pc (bN _ _ _ _ S3) (pc (bF _ _ _ _ OO) (pc t (pc (dR t) (pc (bm p f.toNat z) (pc (Eq.refl a.length) (pc (show ∀ b,b < a.length->aJ [(dC i e)] (au a) b=aJ [(dC i e)] (au a) b from (fun _ _=>rfl)) (pc (show ∀ b,b < a.length->gi ((au a) b)=true from (fun _ _=>rfl)) (pc (bm p f.toNat z) (pc (dK bH ab.d p f.toNat z) pn)))))))))))))))))) <| rnO 3 f.toNat 4 (qV a f) (F3 a f) (pc o (pc (show aJ [(dC i e)] (au a) f.toNat=mR 4 bH ab.d (pk a f) from (if_neg (o7 w))) pn)) ?_
     obtain ⟨l,X9,h⟩:=aW h;obtain ⟨P,h⟩:=ae h;refine bK g 0 [(7,oF (.os 775 0 (qV a f))),(11,⟨[775,6],false,(.tup []),[(Dq l),(vT e)],0,false,none⟩)] yL (kq [0,1,2] ++ [(3,.Fm 3 (a.length) [(f.toNat,775,l.length),(dC i e)] (au a))] ++ kq [4,5,6,775]) 983 (pc o1 (pc s (pc (dR s) (pc (show (aJ [(f.toNat,775,(pk a f).length),(dC i e)] (au a) f.toNat)[0]?=some (.os 775 0 (qV a f)) from (gO rfl)) (pc o1 (pc (sV _ _ _ _ _ _ X9) (pc (Eq.refl a.length) (pc (show ∀ b,b < a.length->aJ [(f.toNat,775,l.length),(dC i e)] (au a) b=aJ [(f.toNat,775,(pk a f).length),(dC i e)] (au a) b from (fun b _=>(congrArg (fun D=>aJ [(f.toNat,775,D),(dC i e)] (au a) b) (Eq.symm (Eq.symm P))))) (pc (show ∀ b,b < a.length->gi ((au a) b)=true from (fun _ _=>rfl)) pn))))))))) <| rnL 3 775 f.toNat (pc o (pc (show aJ [(f.toNat,775,l.length),(dC i e)] (au a) f.toNat=[.os 775 0 l.length] from if_pos rfl) (pc (show ∀ m,m < l.length->uE (bH (l.getD m ab.d))=true from fun _ _=>rfl) pn))) <| rnX g [] yL ([(0,.var 0 [.ak,.ak,.ak,.ak,.l5 ((a.set f.toNat l).length),.ak,.ak,.ak,.ak,.ak,.ak,.ak])] ++ kq [1,2] ++ [(3,.Fm 3 ((a.set f.toNat l).length) [(dC i e)] (Dt a f l))] ++ kq [4,5,6]) 983 (pc (bm a f.toNat l) (pc (bm a f.toNat l) (pc (Me (sz:=4) (c:=bH) (d:=ab.d) a f.toNat 775 l.length l [(dC i e)] o (neC (Ne.symm (o7 w)) Ro)) (pc (show ∀ b,b < (a.set f.toNat l).length->gi ((Dt a f l) b)=true from fun _ _=>rfl) pn)))) <| rnW g 1 [] yL (ai9 a f l i e) 7 (pc (Eq.refl ((a.set f.toNat l).length)) (pc (show ∀ b,b < (a.set f.toNat l).length->aJ [(dC i e)] (Dt a f l) b=aJ [(dC i e)] (Dt a f l) b from (fun _ _=>rfl)) (pc (show ∀ b,b < (a.set f.toNat l).length->gi ((Dt a f l) b)=true from (fun _ _=>rfl)) pn))) (kJ N _ _ _ _ _ _ _ _ _ _ _ _ _ _ _ A _ _ _ _ h E g)
    ·exact rnW g 2 [] yL (OE a i e) 7 (pc (Eq.refl a.length) (pc (show ∀ b,b < a.length->aJ [(dC i e)] (au a) b=aJ [(dC i e)] (au a) b from (fun _ _=>rfl)) (pc (show ∀ b,b < a.length->gi ((au a) b)=true from (fun _ _=>rfl)) pn))) (kJ N _ _ _ _ _ _ _ _ _ _ _ _ _ _ _ A _ _ _ _ h E g)
  ·obtain ⟨H,h⟩:=ae h;refine dV g 3 (kp [0,1,2,7,11]) (acJ a i e) 167 (pc o1 (pc H (pc (dR H) (pc o1 (pc (Eq.refl a.length) (pc (show ∀ b,b < a.length->aJ [(dC i e)] (au a) b=aJ [(dC i e)] (au a) b from (fun _ _=>rfl)) (pc (show ∀ b,b < a.length->gi ((au a) b)=true from (fun _ _=>rfl)) pn))))))) ?_;obtain ⟨Ru,Ya,h⟩:=aW h;refine bK g 1 [(1,oT (aB Ru))] (kp [0,1,2,7,11,141]) (acJ a i e) 215 (pc o1 (pc (jA _ _ _ Ya) (pc (Eq.refl a.length) (pc (show ∀ b,b < a.length->aJ [(dC i e)] (au a) b=aJ [(dC i e)] (au a) b from (fun _ _=>rfl)) (pc (show ∀ b,b < a.length->gi ((au a) b)=true from (fun _ _=>rfl)) pn))))) <| dr 0 141 h (fun Q h=>?_) (fun Q h=>?_)
   ·obtain ⟨I,h⟩:=ae h;obtain ⟨BO,R,h⟩:=aW h;obtain ⟨jN,S,h⟩:=aW h;refine bK g 1 [(13,oT (aj BO)),(14,oT (aj jN))] (kp [0,1,2,7,11]) (acJ a i e) 503 (pc o1 (pc o1 (pc o1 (pc I (pc (dR I) (pc (bN _ _ _ _ R) (pc (bF _ _ _ _ S) (pc o1 (pc (Eq.refl a.length) (pc (show ∀ b,b < a.length->aJ [(dC i e)] (au a) b=aJ [(dC i e)] (au a) b from (fun _ _=>rfl)) (pc (show ∀ b,b < a.length->gi ((au a) b)=true from (fun _ _=>rfl)) pn))))))))))) ?_;obtain ⟨T,U,h⟩:=aW h;obtain ⟨V,h⟩:=ae h;refine bK g 0 [(8,⟨[5,6],false,(.tup []),[(Dq T),(vT e)],0,false,none⟩)] B2 ([(0,.var 0 [.ak,.ak,.ak,.ak,.ak,.ak,.l5 (T.length),.ak,.ak,.ak,.ak,.ak])] ++ kq [1,2] ++ [(3,.Fm 3 (a.length) [(dC i e)] (au a))] ++ kq [4,5,6]) 647 (pc o1 (pc o1 (pc (sV _ _ _ _ _ _ U) (pc (show M.length=T.length from (Eq.symm V)) (pc (Eq.refl a.length) (pc (show ∀ b,b < a.length->aJ [(dC i e)] (au a) b=aJ [(dC i e)] (au a) b from (fun _ _=>rfl)) (pc (show ∀ b,b < a.length->gi ((au a) b)=true from (fun _ _=>rfl)) pn))))))) ?_;obtain ⟨J,h⟩:=ae h;refine rnL 3 6 i.toNat (pc J (pc (show aJ [(dC i e)] (au a) i.toNat=[.os 6 0 e.length] from if_pos rfl) (pc (show ∀ m,m < e.length->uE (bH (e.getD m ab.d))=true from fun _ _=>rfl) pn))) <| rnX g [] B2 ([(0,.var 0 [.ak,.ak,.ak,.ak,.l5 ((a.set i.toNat e).length),.ak,.ak,.ak,.ak,.ak,.ak,.ak])] ++ kq [1,2] ++ [(3,.Fm 3 ((a.set i.toNat e).length) [] (Xv a i e))] ++ kq [4,5]) 647 (pc (bm a i.toNat e) (pc (bm a i.toNat e) (pc (Me (sz:=4) (c:=bH) (d:=ab.d) a i.toNat 6 e.length e [] J Ro) (pc (show ∀ b,b < (a.set i.toNat e).length->gi ((Xv a i e) b)=true from fun _ _=>rfl) pn)))) <| cY g 0 B2 fJ 6 (wH N _ _ _ _ _ _ _ _ _ _ _ _ _ _ _ _ h E g)
   ·obtain ⟨K,h⟩:=ae h;refine rnL 3 6 i.toNat (pc K (pc (show aJ [(dC i e)] (au a) i.toNat=[.os 6 0 e.length] from if_pos rfl) (pc (show ∀ m,m < e.length->uE (bH (e.getD m ab.d))=true from fun _ _=>rfl) pn))) <| rnX g [] B2 ([(0,.var 0 [.ak,.ak,.ak,.ak,.l5 ((a.set i.toNat e).length),.ak,.ak,.ak,.ak,.ak,.ak,.ak])] ++ kq [1,2] ++ [(3,.Fm 3 ((a.set i.toNat e).length) [] (Xv a i e))] ++ kq [4,5,135]) 215 (pc (bm a i.toNat e) (pc (bm a i.toNat e) (pc (Me (sz:=4) (c:=bH) (d:=ab.d) a i.toNat 6 e.length e [] K Ro) (pc (show ∀ b,b < (a.set i.toNat e).length->gi ((Xv a i e) b)=true from fun _ _=>rfl) pn)))) <| cY g 1 B2 fJ 6 (wH N _ _ _ _ _ _ _ _ _ _ _ _ _ _ _ _ h E g)
theorem EI (N i j p q s t u v w y z a g A fuel):xM N i j p q s t u v w y z a g A (gN N i j p q s t u v w y z a g A fuel):=by
 induction fuel with
 | zero=>intro _ _ r h;rw [gN.eq_1] at h;cases h
 | succ fuel B =>
  intro c x r h E e;rw [gN.eq_2] at h;refine dV e 1 (kp [0,1,2,6,7,30,31,32]) (OD a i c) 24 (pc (Eq.refl a.length) (pc (show ∀ b,b < a.length->aJ [(dC i c)] (au a) b=aJ [(dC i c)] (au a) b from (fun _ _=>rfl)) (pc (show ∀ b,b < a.length->gi ((au a) b)=true from (fun _ _=>rfl)) pn))) <| dr 1 32 h (fun D h=>?_) (fun D h=>?_)
  ·refine dV e 4 (kp [0,1,2,6,7,8,30,31]) (OD a i c) 56 (pc (Eq.refl a.length) (pc (show ∀ b,b < a.length->aJ [(dC i c)] (au a) b=aJ [(dC i c)] (au a) b from (fun _ _=>rfl)) (pc (show ∀ b,b < a.length->gi ((au a) b)=true from (fun _ _=>rfl)) pn))) <| dV e 1 (kp [0,1,2,6,7,8,30,31,36]) (OD a i c) 104 (pc (Eq.refl a.length) (pc (show ∀ b,b < a.length->aJ [(dC i c)] (au a) b=aJ [(dC i c)] (au a) b from (fun _ _=>rfl)) (pc (show ∀ b,b < a.length->gi ((au a) b)=true from (fun _ _=>rfl)) pn))) <| dr 0 36 h (fun F h=>?_) (fun F h=>?_)
   ·obtain ⟨l,h⟩:=ae h;obtain ⟨jC,G,h⟩:=aW h;obtain ⟨f,H,h⟩:=aW h;refine bK e 0 [(7,oT (aj jC)),(8,oT (aj f))] (kp [0,1,2,6] ++ [(7,.l5 (zL c x f))] ++ kp [30,31]) (ai8 a i c x f) 280 (pc l (pc (dR l) (pc o1 (pc (zO _ _ _ _ G) (pc (pL _ _ _ H) (pc l (pc (dR l) (pc (bm c x.toNat f) (pc (Eq.refl a.length) (pc (show ∀ b,b < a.length->aJ [(CR i c x f)] (au a) b=aJ [(dC i c)] (au a) b from (fun b _=>(congrArg (fun n=>aJ [(i.toNat,6,n)] (au a) b) (Eq.symm (dI rfl))))) (pc (show ∀ b,b < a.length->gi ((au a) b)=true from (fun _ _=>rfl)) (pc (bm c x.toNat f) (pc (dK bH ab.d c x.toNat f) pn))))))))))))) <| rnW e 1 [] Ot (kq [0,1,2] ++ [(3,.Fm 3 (a.length) [(CR i c x f)] (au a))] ++ kq [4,5,6,7]) 8 (pc (Eq.refl a.length) (pc (show ∀ b,b < a.length->aJ [(CR i c x f)] (au a) b=aJ [(CR i c x f)] (au a) b from (fun _ _=>rfl)) (pc (show ∀ b,b < a.length->gi ((au a) b)=true from (fun _ _=>rfl)) pn))) (wG N _ _ _ _ _ _ _ _ _ _ _ _ _ _ _ _ B _ _ h E e)
   ·exact rnW e 2 [] Ot (OD a i c) 8 (pc (Eq.refl a.length) (pc (show ∀ b,b < a.length->aJ [(dC i c)] (au a) b=aJ [(dC i c)] (au a) b from (fun _ _=>rfl)) (pc (show ∀ b,b < a.length->gi ((au a) b)=true from (fun _ _=>rfl)) pn))) (wG N _ _ _ _ _ _ _ _ _ _ _ _ _ _ _ _ B _ _ h E e)
  ·obtain ⟨I,J,h⟩:=aW h;obtain ⟨d,K,h⟩:=aW h;obtain ⟨C,h⟩:=ae h;refine bK e 2 [(2,oT (aj I)),(4,oT (aj d))] (kp [0,1,2,6] ++ [(7,.l5 (zL c j d))]) (ai8 a i c j d) 136 (pc (eV _ _ _ J) (pc o1 (pc (zO _ _ _ _ K) (pc C (pc (dR C) (pc (bm c j.toNat d) (pc (Eq.refl a.length) (pc (show ∀ b,b < a.length->aJ [(CR i c j d)] (au a) b=aJ [(dC i c)] (au a) b from (fun b _=>(congrArg (fun n=>aJ [(i.toNat,6,n)] (au a) b) (Eq.symm (dI rfl))))) (pc (show ∀ b,b < a.length->gi ((au a) b)=true from (fun _ _=>rfl)) (pc (bm c j.toNat d) (pc (dK bH ab.d c j.toNat d) pn))))))))))) ?_;obtain ⟨m,h⟩:=ae h;obtain ⟨o,L,h⟩:=aW h;obtain ⟨k,M,h⟩:=aW h;refine bK e 1 [(13,oT (aj o)),(14,oT (aj k))] Sk ([(0,.var 0 [.ak,.ak,.ak,.ak,.ak,.l5 (zL g i k),.ak,.ak,.ak,.ak,.ak,.ak])] ++ kq [1,2] ++ [(3,.Fm 3 (a.length) [(CR i c j d)] (au a)),(4,ri 4 bH ab.d (g.set i.toNat k))] ++ kq [5,6]) 408 (pc o1 (pc o1 (pc m (pc (dR m) (pc o1 (pc (zO _ _ _ _ L) (pc (pL _ _ _ M) (pc m (pc (dR m) (pc (bm g i.toNat k) (pc (Eq.refl a.length) (pc (show ∀ b,b < a.length->aJ [(CR i c j d)] (au a) b=aJ [(CR i c j d)] (au a) b from (fun _ _=>rfl)) (pc (show ∀ b,b < a.length->gi ((au a) b)=true from (fun _ _=>rfl)) (pc (bm g i.toNat k) (pc (dK bH ab.d g i.toNat k) pn))))))))))))))) <| dV e 2 yL (kq [0,1,2] ++ [(3,.Fm 3 (a.length) [(CR i c j d)] (au a))] ++ kq [4,5,6]) 504 (pc o1 (pc (Eq.refl a.length) (pc (show ∀ b,b < a.length->aJ [(CR i c j d)] (au a) b=aJ [(CR i c j d)] (au a) b from (fun _ _=>rfl)) (pc (show ∀ b,b < a.length->gi ((au a) b)=true from (fun _ _=>rfl)) pn)))) <| rnW e 2 [] yL (kq [0,1,2] ++ [(3,.Fm 3 (a.length) [(CR i c j d)] (au a))] ++ kq [4,5,6]) 7 (pc (Eq.refl a.length) (pc (show ∀ b,b < a.length->aJ [(CR i c j d)] (au a) b=aJ [(CR i c j d)] (au a) b from (fun _ _=>rfl)) (pc (show ∀ b,b < a.length->gi ((au a) b)=true from (fun _ _=>rfl)) pn))) (EH N _ _ _ _ _ _ _ _ _ _ _ _ _ N _ _ _ _ _ h E e)
theorem tU (N i j o p q s t u v g k a l m r) (h:mY N i j o p q s t u v g k a l m=some r):Sd 86 [(.op 0 0 0),(aI i),(aI j)] [(jL o p g k a l m q s t u v),(gI g),(iT k),(iH a),(gx l),(ja m)] 6 (.tup []) [(0,vN 12 [(aI r.1.HR),(aI r.1.HS),(.os 1 0 r.2.1.length),(.os 2 0 r.2.2.1.length),(.os 3 0 r.2.2.2.1.length),(.os 4 0 r.2.2.2.2.1.length),(.os 5 0 r.2.2.2.2.2.length),(aB r.1.bC.fN.fG),(F2 r),(aB r.1.bC.fD.fG),(F1 r),(aI r.1.eY)]),(1,aO 1 cI 0 r.2.1),(2,aO 1 cI 0 r.2.2.1),(FT r),(FU r),(FX r)]:=by
 unfold mY at h;refine sO Tryz.f86 194 fun E e=>?_;obtain ⟨n,h⟩:=ae h;refine rnO 3 i.toNat 4 (qV a i) (F3 a i) (pc n (pc (show aJ [] (au a) i.toNat=mR 4 bH ab.d (pk a i) from rfl) pn)) ?_;obtain ⟨f,h⟩:=ae h;obtain ⟨w,h⟩:=ae h;refine bK e 1 [(6,oF (.os 6 0 (qV a i)))] Ar (kq [0,1,2] ++ [(3,.Fm 3 (a.length) [(ZK i a)] (au a))] ++ kq [4,5,6,182]) 214 (pc o1 (pc f (pc (dR f) (pc (show (aJ [(ZK i a)] (au a) i.toNat)[0]?=some (.os 6 0 (qV a i)) from (gO rfl)) (pc w (pc (dR w) (pc o1 (pc (Eq.refl a.length) (pc (show ∀ b,b < a.length->aJ [(ZK i a)] (au a) b=aJ [(ZK i a)] (au a) b from (fun _ _=>rfl)) (pc (show ∀ b,b < a.length->gi ((au a) b)=true from (fun _ _=>rfl)) pn)))))))))) <| rnL 3 6 i.toNat (pc n (pc (show aJ [(ZK i a)] (au a) i.toNat=[.os 6 0 (pk a i).length] from if_pos rfl) (pc (show ∀ x,x < (pk a i).length->uE (bH ((pk a i).getD x ab.d))=true from fun _ _=>rfl) pn))) <| rnX e [] Ar (kq [0,1,2] ++ [(3,.Fm 3 (a.length) [] (au a))] ++ kq [4,5,182]) 214 (pc (Eq.refl (a.length)) (pc (Eg (sz:=4) (c:=bH) (d:=ab.d) a i.toNat 6 (qV a i) [] Ro) (pc (show ∀ b,b < a.length->gi ((au a) b)=true from fun _ _=>rfl) pn))) <| rnO 3 i.toNat 4 (qV a i) (F3 a i) (pc n (pc (show aJ [] (au a) i.toNat=mR 4 bH ab.d (pk a i) from rfl) pn)) <| bK e 1 [(6,oF (.os 214 0 (qV a i)))] Si (ai4 a i) 358 (pc o1 (pc f (pc (dR f) (pc (show (aJ [(Pq i a)] (au a) i.toNat)[0]?=some (.os 214 0 (qV a i)) from (gO rfl)) (pc (Eq.refl a.length) (pc (show ∀ b,b < a.length->aJ [(Pq i a)] (au a) b=aJ [(Pq i a)] (au a) b from (fun _ _=>rfl)) (pc (show ∀ b,b < a.length->gi ((au a) b)=true from (fun _ _=>rfl)) pn))))))) <| dV e 2 Ot (ai4 a i) 406 (pc (Eq.refl a.length) (pc (show ∀ b,b < a.length->aJ [(Pq i a)] (au a) b=aJ [(Pq i a)] (au a) b from (fun _ _=>rfl)) (pc (show ∀ b,b < a.length->gi ((au a) b)=true from (fun _ _=>rfl)) pn))) <| rnW e 2 [] Ot (kq [0,1,2] ++ [(3,.Fm 3 (a.length) [(Pq i a)] (au a))] ++ kq [4,5] ++ [(6,.ak 214),(7,.ak 182)]) 8 (pc (Eq.refl a.length) (pc (show ∀ b,b < a.length->aJ [(Pq i a)] (au a) b=aJ [(Pq i a)] (au a) b from (fun _ _=>rfl)) (pc (show ∀ b,b < a.length->gi ((au a) b)=true from (fun _ _=>rfl)) pn))) (EI N _ _ _ _ _ _ _ _ _ _ _ _ _ _ N _ _ _ h E e)
noncomputable abbrev afP:=bt Tryz.f94
def uF (N:Nat) (f:Int) (g:Int) (h:Bool) (i:List Int) (j:Bool) (k:List Int) (l:Int) (b:List Int) (a:List Int) (c:List bh) (d:List ab) (e:List ab) (K:Int->Int->Option (Int)):Prop:=∀ (m:Int) (x:Int) (r:Int),K m x=some r->∀ E,ba E 6->aK Tryz.prog E 94 46 (bd E [(jL f g b a c d e h i j k l),(gI b),(iT a),(iH c),(gx d),(ja e)] (aI r)) [.code (afP 116),.inLoop (afP 116),.inBlock 0,.code (afP 15)] ⟨[(0,(.op 0 0 0)),(3,(aI m)),(9,(FZ a)),(10,(aI x))],[(jL f g b a c d e h i j k l),(gI b),(iT a),(iH c),(gx d),(ja e)],6⟩
def CA (N:Nat) (f:Int) (g:Int) (h:Bool) (i:List Int) (j:Bool) (k:List Int) (l:Int) (b:List Int) (a:List Int) (c:List bh) (d:List ab) (e:List ab) (x:Int) (K:Int->Option (Int)):Prop:=∀ (m:Int) (r:Int),K m=some r->∀ E,ba E 6->aK Tryz.prog E 94 46 (bd E [(jL f g b a c d e h i j k l),(gI b),(iT a),(iH c),(gx d),(ja e)] (aI r)) [.code (afP 935),.inLoop (afP 116),.inBlock 0,.code (afP 15)] ⟨[(0,(.op 0 0 0)),(3,(aI m)),(9,(FZ a)),(10,(aI x))],[(jL f g b a c d e h i j k l),(gI b),(iT a),(iH c),(gx d),(ja e)],6⟩
theorem tV (N:Nat) (a:Int) (b:Int) (c:Bool) (d:List Int) (e:Bool) (f:List Int) (g:Int) (i:List Int) (j:List Int) (k:List bh) (l:List ab) (m:List ab) (x:Int) (o:Int->Int->Option (Int)) (p:uF N a b c d e f g i j k l m o):CA N a b c d e f g i j k l m x (kG N a b c d e f g i j k l m x o):=by
 intro q r h E n;unfold kG at h;refine ax n 0 Lb fJ 38 <| cY n 1 Lb fJ 6 (p _ _ _ h E n)
theorem Cb (N f g i j k l m n o p q s fuel):uF N f g i j k l m n o p q s (dj N f g i j k l m n o p q s fuel):=by
 induction fuel with
 | zero=>intro _ _ r h;rw [dj.eq_1] at h;cases h
 | succ fuel t =>
  intro d x r h E e;rw [dj.eq_2] at h;refine ax e 1 XH fJ 22 <| dr 1 11 h (fun w h=>?_) (fun w h=>?_)
  ·refine ax e 4 (kp [0,3,4,9,10]) fJ 54 ?_;obtain ⟨c,h⟩:=ae h;obtain ⟨b,y,h⟩:=aW h;obtain ⟨u,h⟩:=ae h;obtain ⟨v,h⟩:=ae h;refine bK e 1 [(7,oT (aI b))] (kp [0,3,4,9,10,42]) fJ 534 (pc o1 (pc c (pc (dR c) (pc (mq _ _ _ y) (pc (fun a:(lp b)=true=>(pc a pn)) (pc (fun a:(GY b d)=true=>(pc a pn)) (pc (fun a:(GY b d)=true=>(pc a pn)) (pc (fun a:(GY b d)=true=>(pc a (pc o1 pn))) (pc (fun a:(GY b d)=true=>(pc a (pc a (pc (u a) pn)))) (pc (fun a:(GY b d)=true=>(pc a (pc (dR (u a)) pn))) (pc (fun a:(GY b d)=true=>(pc a pn)) (pc (fun a:(GY b d)=true=>(pc a pn)) (pc (fun a:(GY b d)=true=>(pc a (pc o1 pn))) (pc (fun a:(GY b d)=true=>(pc a (pc a (pc (v a) pn)))) (pc (fun a:(GY b d)=true=>(pc a (pc (dR (v a)) pn))) (pc (fun a:(GY b d)=true=>(pc a (pc a pn))) (pc (fun a:(lp b)=true=>(pc a (pc a (pc (fun hq:(EA d)=true=>(pc (show (GY b d)=true from (GV a (GV a hq))) pn)) pn)))) (pc (fun hq:(lp b)=true=>(pc hq pn)) pn)))))))))))))))))) <| dr 0 42 h (fun z h=>?_) (fun z h=>?_)
   ·refine ax e 0 Lb fJ 566 <| cY e 1 Lb fJ 6 (tV N _ _ _ _ _ _ _ _ _ _ _ _ _ _ t _ _ h E e)
   ·exact cY e 2 Lb fJ 6 (tV N _ _ _ _ _ _ _ _ _ _ _ _ _ _ t _ _ h E e)
  ·refine ax e 2 (kp [2]) fJ 54 ?_;obtain rfl:=jS h;exact iG e 0 Tryz.f94 (kp [2]) fJ 54
theorem EJ (N g i j k l m n a b c d e r) (h:pY N g i j k l m n a b c d e=some r):Sd 94 [(.op 0 0 0)] [(jL g i a b c d e j k l m n),(gI a),(iT b),(iH c),(gx d),(ja e)] 6 (aI r) [(jL g i a b c d e j k l m n),(gI a),(iT b),(iH c),(gx d),(ja e)]:=by
 unfold pY at h;refine sO Tryz.f94 46 fun E f=>?_;refine ax f 1 (kp [0]) fJ 22 <| ax f 1 (kp [0,3]) fJ 38 <| dV f 2 Lb fJ 134 (pc o1 pn) <| cY f 2 Lb fJ 6 (Cb N _ _ _ _ _ _ _ _ _ _ _ _ N _ _ _ h E f)
noncomputable abbrev S4:=bt Tryz.f95
def qy (N:Nat) (j:Int) (g:Int) (h:Int) (i:Bool) (k:List Int) (l:Bool) (m:List Int) (n:Int) (b:List Int) (c:List Int) (d:List bh) (e:List ab) (f:List ab) (K:Int->ab->Int->Option (Int)):Prop:=∀ (o:Int) (a:ab) (x:Int) (r:Int),K o a x=some r->∀ E,ba E 6->aK Tryz.prog E 95 81 (bd E [(jL g h b c d e f i k l m n),(gI b),(iT c),(iH d),(gx e),(ja f)] (aI r)) [.code (S4 244),.inLoop (S4 244),.inBlock 0,.code (S4 31)] ⟨[(0,(.op 0 0 0)),(1,(aI j)),(5,(aI o)),(6,(.op 6 0 0)),(KT b),(15,(aI x))],[(jL g h b c d e f i k l m n),(gI b),(iT c),(iH d),(gx e),(ja f),(6,vO 4 (xI a))],7⟩
def DD (N:Nat) (j:Int) (f:Int) (g:Int) (h:Bool) (i:List Int) (k:Bool) (l:List Int) (m:Int) (a:List Int) (b:List Int) (c:List bh) (d:List ab) (e:List ab) (x:Int) (K:Int->ab->Option (Int)):Prop:=∀ (n:Int) (o:ab) (r:Int),K n o=some r->∀ E,ba E 6->aK Tryz.prog E 95 81 (bd E [(jL f g a b c d e h i k l m),(gI a),(iT b),(iH c),(gx d),(ja e)] (aI r)) [.code (S4 1959),.inLoop (S4 244),.inBlock 0,.code (S4 31)] ⟨[(0,(.op 0 0 0)),(1,(aI j)),(5,(aI n)),(6,(.op 6 0 0)),(KT a),(15,(aI x))],[(jL f g a b c d e h i k l m),(gI a),(iT b),(iH c),(gx d),(ja e),(6,vO 4 (xI o))],7⟩
theorem pD (N:Nat) (j:Int) (a:Int) (b:Int) (c:Bool) (d:List Int) (e:Bool) (f:List Int) (g:Int) (i:List Int) (k:List Int) (l:List bh) (m:List ab) (n:List ab) (x:Int) (p:Int->ab->Int->Option (Int)) (q:qy N j a b c d e f g i k l m n p):DD N j a b c d e f g i k l m n x (iR N j a b c d e f g i k l m n x p):=by
 intro s t r h E o;unfold iR at h;refine ax o 0 Ir jK 39 <| cY o 1 Ir jK 7 (q _ _ _ _ h E o)
def DE (N:Nat) (j:Int) (g:Int) (h:Int) (i:Bool) (k:List Int) (l:Bool) (m:List Int) (n:Int) (b:List Int) (c:List Int) (d:List bh) (e:List ab) (f:List ab) (p:Int) (a:ab) (x:Int) (jC:ab) (K:Int->Option (Int)):Prop:=∀ (o:Int) (r:Int),K o=some r->∀ E,ba E 6->aK Tryz.prog E 95 81 (bd E [(jL g h b c d e f i k l m n),(gI b),(iT c),(iH d),(gx e),(ja f)] (aI r)) [.code (S4 250686),.code (S4 250687),.inBlock 1,.code (S4 1959),.inLoop (S4 244),.inBlock 0,.code (S4 31)] ⟨[(0,(.op 0 0 0)),(1,(aI j)),(5,(aI p)),(6,(.op 6 0 0)),(7,(aI x)),(8,(.op 7 0 0)),(9,(aI o)),(KT b),(15,(aI x))],[(jL g h b c d e f i k l m n),(gI b),(iT c),(iH d),(gx e),(ja f),(6,vO 4 (xI a)),(7,vO 4 (xI jC))],8⟩
theorem uG (N:Nat) (j:Int) (e:Int) (f:Int) (g:Bool) (i:List Int) (k:Bool) (l:List Int) (m:Int) (n:List Int) (o:List Int) (p:List bh) (q:List ab) (s:List ab) (t:Int) (c:ab) (x:Int) (jC:ab) (u:Int->ab->Int->Option (Int)) (v:qy N j e f g i k l m n o p q s u):DE N j e f g i k l m n o p q s t c x jC (jE N j e f g i k l m n o p q s t c x jC u):=by
 intro b r h E d;unfold jE at h;obtain ⟨w,h⟩:=ae h;obtain ⟨y,h⟩:=ae h;refine dV d 0 (kp [0,1,5,6,7,8,14,15,76]) acH 376 (pc (fun a:(EA b)=true=>(pc a pn)) (pc (fun a:(GX b)=true=>(pc a pn)) (pc (fun a:(GX b)=true=>(pc a pn)) (pc (fun a:(GX b)=true=>(pc a (pc o1 pn))) (pc (fun a:(GX b)=true=>(pc a (pc a (pc (w a) pn)))) (pc (fun a:(GX b)=true=>(pc a (pc (dR (w a)) pn))) (pc (fun a:(GX b)=true=>(pc a pn)) (pc (fun a:(GX b)=true=>(pc a pn)) (pc (fun a:(GX b)=true=>(pc a (pc o1 pn))) (pc (fun a:(GX b)=true=>(pc a (pc a (pc (y a) pn)))) (pc (fun a:(GX b)=true=>(pc a (pc (dR (y a)) pn))) (pc (fun a:(GX b)=true=>(pc a (pc a pn))) (pc (fun a:(EA b)=true=>(pc a (pc a (pc (fun hq:(b == 0)=true=>(pc (show (GX b)=true from (GV a (GV a hq))) pn)) pn)))) (pc (fun hq:(EA b)=true=>(pc hq pn)) pn)))))))))))))) <| dr 0 76 h (fun z h=>?_) (fun z h=>?_)
 ·refine dV d 0 Ir jK 440 (pc o1 (pc o1 pn)) <| cY d 1 Ir jK 7 (pD N _ _ _ _ _ _ _ _ _ _ _ _ _ _ _ v _ _ _ h E d)
 ·exact cY d 2 Ir jK 7 (pD N _ _ _ _ _ _ _ _ _ _ _ _ _ _ _ v _ _ _ h E d)
theorem CC (N j n o p q s t u v w a y z fuel):qy N j n o p q s t u v w a y z (dw N j n o p q s t u v w a y z fuel):=by
 induction fuel with
 | zero=>intro _ _ _ r h;rw [dw.eq_1] at h;cases h
 | succ fuel l =>
  intro M m x r h E e;rw [dw.eq_2] at h;refine ax e 1 (kp [0,1,5,6,14,15,16]) jK 23 <| dr 1 16 h (fun B h=>?_) (fun B h=>?_)
  ·refine ax e 4 (kp [0,1,5,6,7,14,15]) jK 55 ?_;obtain ⟨g,h⟩:=ae h;refine rnO 3 x.toNat 4 (qV a x) (F3 a x) (pc g (pc (show aJ [] (au a) x.toNat=mR 4 bH ab.d (pk a x) from rfl) pn)) ?_;obtain ⟨i,h⟩:=ae h;obtain ⟨k,h⟩:=ae h;obtain ⟨C,D,h⟩:=aW h;refine bK e 2 [(6,oF (NY a x)),(10,oT (aI C))] (kp [0,1,5,6,7,14,15,29]) (kq [0,1,2] ++ [(3,.Fm 3 (a.length) [(Kb x a)] (au a))] ++ kq [4,5,6,55]) 263 (pc o1 (pc i (pc (dR i) (pc (show (aje x a)[0]?=some (NY a x) from (gO rfl)) (pc k (pc (dR k) (pc (mq _ _ _ D) (pc (Eq.refl a.length) (pc (show ∀ b,b < a.length->aJ [(Kb x a)] (au a) b=aJ [(Kb x a)] (au a) b from (fun _ _=>rfl)) (pc (show ∀ b,b < a.length->gi ((au a) b)=true from (fun _ _=>rfl)) pn)))))))))) <| rnL 3 55 x.toNat (pc g (pc (show aJ [(Kb x a)] (au a) x.toNat=[.os 55 0 (pk a x).length] from if_pos rfl) (pc (show ∀ f,f < (pk a x).length->uE (bH ((pk a x).getD f ab.d))=true from fun _ _=>rfl) pn))) <| rnX e [] (kp [0,1,5,6,7,14,15,29]) (kq [0,1,2] ++ [(3,.Fm 3 (a.length) [] (au a))] ++ kq [4,5,6]) 263 (pc (Eq.refl (a.length)) (pc (Eg (sz:=4) (c:=bH) (d:=ab.d) a x.toNat 55 (qV a x) [] Ro) (pc (show ∀ b,b < a.length->gi ((au a) b)=true from fun _ _=>rfl) pn))) <| dr 0 29 h (fun F h=>?_) (fun F h=>?_)
   ·exact cY e 1 Ir jK 7 (pD N _ _ _ _ _ _ _ _ _ _ _ _ _ _ _ l _ _ _ h E e)
   ·refine rnO 3 x.toNat 4 (qV a x) (F3 a x) (pc g (pc (show aJ [] (au a) x.toNat=mR 4 bH ab.d (pk a x) from rfl) pn)) ?_;obtain ⟨A,h⟩:=ae h;obtain ⟨G,H,h⟩:=aW h;obtain ⟨jC,I,h⟩:=aW h;refine bK e 2 [(13,oF (.os 263 0 (qV a x))),(17,oT (aj G)),(18,oT (aj jC))] (kp [0,1,5,6,7,8,14,15]) (kq [0,1,2] ++ [(3,.Fm 3 (a.length) [(ZJ x a)] (au a))] ++ kq [4,5,6,263,583]) 615 (pc o1 (pc A (pc (dR A) (pc o1 (pc i (pc (dR i) (pc (show (aJ [(ZJ x a)] (au a) x.toNat)[0]?=some (.os 263 0 (qV a x)) from (gO rfl)) (pc k (pc (dR k) (pc (pL _ _ _ H) (pc (zO _ _ _ _ I) (pc o1 (pc (Eq.refl a.length) (pc (show ∀ b,b < a.length->aJ [(ZJ x a)] (au a) b=aJ [(ZJ x a)] (au a) b from (fun _ _=>rfl)) (pc (show ∀ b,b < a.length->gi ((au a) b)=true from (fun _ _=>rfl)) pn))))))))))))))) <| rnL 3 263 x.toNat (pc g (pc (show aJ [(ZJ x a)] (au a) x.toNat=[.os 263 0 (pk a x).length] from if_pos rfl) (pc (show ∀ f,f < (pk a x).length->uE (bH ((pk a x).getD f ab.d))=true from fun _ _=>rfl) pn))) <| rnX e [] (kp [0,1,5,6,7,8,14,15]) (kq [0,1,2] ++ [(3,.Fm 3 (a.length) [] (au a))] ++ kq [4,5,6,583]) 615 (pc (Eq.refl (a.length)) (pc (Eg (sz:=4) (c:=bH) (d:=ab.d) a x.toNat 263 (qV a x) [] Ro) (pc (show ∀ b,b < a.length->gi ((au a) b)=true from fun _ _=>rfl) pn))) <| ax e 1 XA acF 631 <| ax e 2 (kp [0,1,5,6,7,8,9,14,15,50]) acF 663 <| dr 0 50 h (fun J h=>?_) (fun J h=>?_)
    ·obtain ⟨K,L,h⟩:=aW h;refine bK e 0 [(2,oT (aI K))] XA acF 727 (pc o1 (pc o1 (pc (jB _ _ _ _ L) pn))) <| cY e 1 XA aiX 8 (uG N _ _ _ _ _ _ _ _ _ _ _ _ _ _ _ _ _ _ l _ _ h E e)
    ·exact cY e 2 XA aiX 8 (uG N _ _ _ _ _ _ _ _ _ _ _ _ _ _ _ _ _ _ l _ _ h E e)
  ·refine ax e 2 (kp [4]) fJ 55 ?_;obtain rfl:=jS h;exact iG e 0 Tryz.f95 (kp [4]) fJ 55
theorem Ga (N j g i k l m n o b c d e f r) (h:qG N j g i k l m n o b c d e f=some r):Sd 95 [(.op 0 0 0),(aI j)] [(jL g i b c d e f k l m n o),(gI b),(iT c),(iH d),(gx e),(ja f)] 6 (aI r) [(jL g i b c d e f k l m n o),(gI b),(iT c),(iH d),(gx e),(ja f)]:=by
 unfold qG at h;refine sO Tryz.f95 81 fun E a=>?_;refine ax a 1 (kp [0,1]) fJ 22 <| ax a 1 nX fJ 38 <| ax a 1 B3 (kq [0,1,2,3,4,5,38]) 54 <| dV a 2 Ir (kq [0,1,2,3,4,5,38]) 150 (pc o1 pn) <| rnW a 2 [] Ir (kq [0,1,2,3,4,5] ++ [(6,.var 38 [.ak,rh (cU .u16) 0 ([]:List Int),.ak,rh (cU .u16) 0 ([]:List Int)])]) 7 (pc (Eq.refl 0) (pc (Eq.refl 0) pn)) (CC N _ _ _ _ _ _ _ _ _ _ _ _ _ N _ _ _ _ h E a)
noncomputable abbrev asA:=bt Tryz.f41
def Gb (N:Nat) (K:Int->Int->(List Int)->(List Int)->oV->bh->bh->Bool->(List Int)->Bool->(List Int)->Int->Option (Int×re×(List Int)×(List Int)×oV×bh×bh)):Prop:=∀ (f:Int) (g:Int) (a:List Int) (b:List Int) (c:List bh) (d:List ab) (e:List ab) (h:Bool) (i:List Int) (j:Bool) (k:List Int) (l:Int) (r:Int×re×(List Int)×(List Int)×oV×bh×bh),K f g a b c d e h i j k l=some r->∀ E,ba E 6->aK Tryz.prog E 41 19 (bd E [(0,vN 12 [(aI r.2.1.HR),(aI r.2.1.HS),(.os 1 0 r.2.2.1.length),(.os 2 0 r.2.2.2.1.length),(.os 3 0 r.2.2.2.2.1.length),(.os 4 0 r.2.2.2.2.2.1.length),(.os 5 0 r.2.2.2.2.2.2.length),(aB r.2.1.bC.fN.fG),(eU r.2.1.bC.fN.fL),(aB r.2.1.bC.fD.fG),(eU r.2.1.bC.fD.fL),(aI r.2.1.eY)]),(1,aO 1 cI 0 r.2.2.1),(2,aO 1 cI 0 r.2.2.2.1),(3,aM 4 bH ab.d r.2.2.2.2.1),(4,aO 4 bH ab.d r.2.2.2.2.2.1),(5,aO 4 bH ab.d r.2.2.2.2.2.2)] (aI r.1)) [.code (asA 12),.inLoop (asA 12),.inBlock 0] ⟨[(0,(.op 0 0 0))],[(jL f g a b c d e h i j k l),(gI a),(iT b),(iH c),(gx d),(ja e)],6⟩
theorem EK (N fuel):Gb N (gP N fuel):=by
 induction fuel with
 | zero=>intro _ _ _ _ _ _ _ _ _ _ _ _ r h;rw [gP.eq_1] at h;cases h
 | succ fuel f =>
  intro o p q s e t u v w x y z r h E b;rw [gP.eq_2] at h;obtain ⟨g,i,h⟩:=aW h;refine bK b 2 [(1,⟨[0,1,2,3,4,5],true,(aI g),[],0,false,none⟩)] (kp [0,3]) fJ 54 (pc (EJ _ _ _ _ _ _ _ _ _ _ _ _ _ _ i) (pc (show ∀ d,d < e.length->gi ((au e) d)=true from (fun _ _=>rfl)) pn)) <| ax b 2 (kp [0,3,8]) fJ 86 <| dr 0 8 h (fun j h=>?_) (fun j h=>?_)
  ·refine ax b 1 (kp [2]) fJ 102 ?_;cases h;exact iG b 0 Tryz.f41 (kp [2]) fJ 102
  ·obtain ⟨k,l,h⟩:=aW h;refine bK b 2 [(2,⟨[0,1,2,3,4,5],true,(aI k),[],0,false,none⟩)] B4 fJ 150 (pc (Ga _ _ _ _ _ _ _ _ _ _ _ _ _ _ _ l) (pc (show ∀ d,d < e.length->gi ((au e) d)=true from (fun _ _=>rfl)) pn)) <| ax b 2 (kp [0,3,4,13]) fJ 182 <| dr 0 13 h (fun m h=>?_) (fun m h=>?_)
   ·refine ax b 1 (kp [2]) fJ 214 ?_;cases h;exact iG b 0 Tryz.f41 (kp [2]) fJ 214
   ·obtain ⟨a,n,h⟩:=aW h;obtain ⟨c,h⟩:=ae h;obtain ⟨A,h⟩:=ae h;obtain ⟨B,h⟩:=ae h;obtain ⟨C,h⟩:=ae h;obtain ⟨D,h⟩:=ae h;refine bK b 1 [(3,⟨[0,1,2,3,4,5],false,(.tup []),[(0,vN 12 [(aI a.1.HR),(aI a.1.HS),(.os 1 0 a.2.1.length),(.os 2 0 a.2.2.1.length),(.os 3 0 a.2.2.2.1.length),(.os 4 0 a.2.2.2.2.1.length),(.os 5 0 a.2.2.2.2.2.length),(aB a.1.bC.fN.fG),(F2 a),(aB a.1.bC.fD.fG),(F1 a),(aI a.1.eY)]),(1,aO 1 cI 0 a.2.1),(2,aO 1 cI 0 a.2.2.1),(FT a),(FU a),(FX a)],0,false,none⟩)] (kp [0]) fJ 246 (pc (tU _ _ _ _ _ _ _ _ _ _ _ _ _ _ _ _ n) pn) <| cY b 2 (kp [0]) fJ 6 (f _ _ _ _ _ _ _ _ _ _ _ _ _ h E b)
theorem IL (N g i j k l m n a b c d e r) (h:xw N g i j k l m n a b c d e=some r):Sd 41 [(.op 0 0 0)] [(jL g i a b c d e j k l m n),(gI a),(iT b),(iH c),(gx d),(ja e)] 6 (aI r.1) [(0,vN 12 [(aI r.2.1.HR),(aI r.2.1.HS),(.os 1 0 r.2.2.1.length),(.os 2 0 r.2.2.2.1.length),(.os 3 0 r.2.2.2.2.1.length),(.os 4 0 r.2.2.2.2.2.1.length),(.os 5 0 r.2.2.2.2.2.2.length),(aB r.2.1.bC.fN.fG),(eU r.2.1.bC.fN.fL),(aB r.2.1.bC.fD.fG),(eU r.2.1.bC.fD.fL),(aI r.2.1.eY)]),(1,aO 1 cI 0 r.2.2.1),(2,aO 1 cI 0 r.2.2.2.1),(3,aM 4 bH ab.d r.2.2.2.2.1),(4,aO 4 bH ab.d r.2.2.2.2.2.1),(5,aO 4 bH ab.d r.2.2.2.2.2.2)]:=by
 unfold xw at h;refine sO Tryz.f41 19 fun E f=>?_;refine ax f 1 (kp [0]) fJ 22 <| cY f 2 (kp [0]) fJ 6 (EK N N _ _ _ _ _ _ _ _ _ _ _ _ _ h E f)
noncomputable abbrev ap4:=bt Tryz.f87
def Be (N:Nat) (s:List Int) (v:Int) (K:Int->Option (Int)):Prop:=∀ (x:Int) (r:Int),K x=some r->∀ E,ba E 0->aK Tryz.prog E 87 19 (bd E [] (aI r)) [.code (ap4 52),.inLoop (ap4 52),.inBlock 0,.code (ap4 7)] ⟨[(yJ s),(1,(aI v)),(7,(FZ s)),(8,(aI x))],[],0⟩
theorem Aw (N s v fuel):Be N s v (ee N s v fuel):=by
 induction fuel with
 | zero=>intro _ r h;rw [ee.eq_1] at h;cases h
 | succ fuel b =>
  intro x r h E a;rw [ee.eq_2] at h;refine ax a 1 Ox [] 16 <| dr 1 9 h (fun d h=>?_) (fun d h=>?_)
  ·refine ax a 4 rT [] 48 ?_;obtain ⟨c,h⟩:=ae h;refine dV a 1 K8 [] 144 (pc c pn) <| dr 0 16 h (fun e h=>?_) (fun e h=>?_)
   ·refine ax a 1 (kp [4]) [] 176 ?_;obtain rfl:=jS h;exact iG a 0 Tryz.f87 (kp [4]) [] 176
   ·refine ax a 2 nY [] 176 <| cY a 1 nY [] 0 (b _ _ h E a)
  ·refine ax a 2 (kp [4]) [] 32 ?_;cases h;exact iG a 0 Tryz.f87 (kp [4]) [] 48
theorem lU (N s v r) (h:iS N s v=some r):Sd 87 [(cA cI 0 s),(aI v)] [] 0 (aI r) []:=by
 unfold iS at h;refine sO Tryz.f87 19 fun E a=>?_;refine ax a 1 (kp [0,1]) [] 16 <| ax a 2 nY [] 64 <| cY a 2 nY [] 0 (Aw N _ _ N _ _ h E a)
theorem EL (N x r) (h:pZ N x=some r):Sd 89 [(aj x)] [] 0 (aB r) []:=by
 unfold pZ at h;refine sO Tryz.f89 6 fun E a=>?_;refine ax a 1 (kp [1]) (kq [0]) 32 ?_;obtain ⟨b,c,h⟩:=aW h;refine bK a 1 [(1,oT (aB b))] (kp [2]) [] 96 (pc o1 (pc (jA _ _ _ c) pn)) ?_;cases h;exact iG a 0 Tryz.f89 (kp [2]) [] 96
noncomputable abbrev ap5:=bt Tryz.f88
def Bf (N:Nat) (s:List ab) (K:Int->Option (Int)):Prop:=∀ (x:Int) (r:Int),K x=some r->∀ E,ba E 0->aK Tryz.prog E 88 19 (bd E [] (aI r)) [.code (ap5 52),.inLoop (ap5 52),.inBlock 0,.code (ap5 7)] ⟨[(Xl s),(1,(.fn (.func 89) [] [])),(7,(Sb s)),(8,(aI x))],[],0⟩
theorem Ax (N s fuel):Bf N s (eh N s fuel):=by
 induction fuel with
 | zero=>intro _ r h;rw [eh.eq_1] at h;cases h
 | succ fuel b =>
  intro x r h E a;rw [eh.eq_2] at h;refine ax a 1 Ox [] 16 <| dr 1 9 h (fun d h=>?_) (fun d h=>?_)
  ·refine ax a 4 rT [] 48 ?_;obtain ⟨c,h⟩:=ae h;obtain ⟨e,f,h⟩:=aW h;refine bK a 1 [(5,oT (aB e))] K8 [] 144 (pc c (pc (EL _ _ _ f) pn)) <| dr 0 16 h (fun g h=>?_) (fun g h=>?_)
   ·refine ax a 1 (kp [4]) [] 176 ?_;obtain rfl:=jS h;exact iG a 0 Tryz.f88 (kp [4]) [] 176
   ·refine ax a 2 nY [] 176 <| cY a 1 nY [] 0 (b _ _ h E a)
  ·refine ax a 2 (kp [4]) [] 32 ?_;cases h;exact iG a 0 Tryz.f88 (kp [4]) [] 48
theorem CD (N s r) (h:nQ N s=some r):Sd 88 [(nW s),(.fn (.func 89) [] [])] [] 0 (aI r) []:=by
 unfold nQ at h;refine sO Tryz.f88 19 fun E a=>?_;refine ax a 1 (kp [0,1]) [] 16 <| ax a 2 nY [] 64 <| cY a 2 nY [] 0 (Ax N _ N _ _ h E a)
theorem Cc (N i j a r) (h:mZ N i j a=some r):Sd 90 [(nF a),(aI i),(aI j)] [(qX a)] 1 (.os 0 0 r.2.length) [(0,aO 1 cI 0 r.2)]:=by
 unfold mZ at h;refine sO Tryz.f90 33 fun E b=>?_;refine ax b 1 B2 (kq [0]) 17 ?_;obtain ⟨c,h⟩:=ae h;refine bK b 1 [(5,oF (.qm))] B2 (kq [0]) 113 (pc c pn) <| ax b 2 (kp [0,1,2,16]) (kq [0]) 161 <| dr 0 16 h (fun l h=>?_) (fun l h=>?_)
 ·refine ax b 1 (kp [6]) (kq [0]) 193 ?_;cases h;exact iG b 0 Tryz.f90 (kp [6]) (kq [0]) 193
 ·refine ax b 2 Sk (kq [0]) 209 ?_;obtain ⟨m,h⟩:=ae h;obtain ⟨n,h⟩:=ae h;obtain ⟨o,h⟩:=ae h;obtain ⟨p,h⟩:=ae h;obtain ⟨e,h⟩:=ae h;obtain ⟨q,h⟩:=ae h;refine bK b 1 [(6,oF (.qm))] (kp [0,7]) [(0,ri 0 cI 0 (wV a i.toNat j.toNat))] 337 (pc m (pc n (pc o (pc p (pc (show 0 < a.length/\(i.toNat - 0)+(a.length - j.toNat)<=a.length by have s:=e;have u:=q;omega) (pc (show j.toNat+(a.length - j.toNat)<=a.length by have s:=e;omega) (pc (show ∀ zi,zi < a.length->AV.xe (cI (a.getD zi 0))=true from (fun _ _=>rfl)) (pc (show a.length=(wV a i.toNat j.toNat).length from (Qq e)) (pc (show ∀ zi,zi < (wV a i.toNat j.toNat).length->(fun zi=>cI ((wV a i.toNat j.toNat).getD zi 0)) zi=((fun d=>if d < (i.toNat - 0) then cI (a.getD d 0) else if d < (i.toNat - 0)+(a.length - j.toNat) then cI (a.getD (eu j.toNat (d - (i.toNat - 0))) 0) else cI (a.getD d 0))) zi from (fun f g=>adS cI 0 a i.toNat j.toNat e f g)) pn))))))))) ?_;obtain ⟨t,h⟩:=ae h;obtain ⟨k,h⟩:=ae h;refine bK b 1 [(4,oF (.qm)),(5,oF (.qm))] [(0,.l5 ((VL a i j).length))] [(0,ri 0 cI 0 (VL a i j))] 433 (pc t (pc (show 0<=(((RU i a j):Nat):Int) from (Int.natCast_nonneg _)) (pc (show 0<=(Ao a) from (Int.natCast_nonneg _)) (pc k (pc (show (RU i a j)=(VL a i j).length from (ND k)) (pc (show (RU i a j)=(VL a i j).length from (ND k)) (pc (show ∀ zi,zi < (VL a i j).length->(fun zi=>cI ((VL a i j).getD zi 0)) zi=(fun zi=>cI ((wV a i.toNat j.toNat).getD zi 0)) zi from (fun f g=>abA cI 0 (wV a i.toNat j.toNat) (RU i a j) f g)) pn))))))) <| ax b 1 (kp [6]) (kq [0]) 465 ?_
  cases h;exact iG b 0 Tryz.f90 (kp [6]) (kq [0]) 465
theorem Gc (N i j a r) (h:qH N i j a=some r):Sd 91 [(.os 0 0 a.length),(aI i),(aI j)] [(Ib a)] 1 (.os 0 0 r.2.length) [(0,aO 4 bH ab.d r.2)]:=by
 unfold qH at h;refine sO Tryz.f91 33 fun E b=>?_;refine ax b 1 B2 (kq [0]) 17 ?_;obtain ⟨c,h⟩:=ae h;refine bK b 1 [(5,oF (.qm))] B2 (kq [0]) 113 (pc c pn) <| ax b 2 (kp [0,1,2,16]) (kq [0]) 161 <| dr 0 16 h (fun l h=>?_) (fun l h=>?_)
 ·refine ax b 1 (kp [6]) (kq [0]) 193 ?_;cases h;exact iG b 0 Tryz.f91 (kp [6]) (kq [0]) 193
 ·refine ax b 2 Sk (kq [0]) 209 ?_;obtain ⟨m,h⟩:=ae h;obtain ⟨n,h⟩:=ae h;obtain ⟨o,h⟩:=ae h;obtain ⟨p,h⟩:=ae h;obtain ⟨e,h⟩:=ae h;obtain ⟨q,h⟩:=ae h;refine bK b 1 [(6,oF (.qm))] (kp [0,7]) [(0,ri 0 bH ab.d (wV a i.toNat j.toNat))] 337 (pc m (pc n (pc o (pc p (pc (show 0 < a.length/\(i.toNat - 0)+(a.length - j.toNat)<=a.length by have s:=e;have u:=q;omega) (pc (show j.toNat+(a.length - j.toNat)<=a.length by have s:=e;omega) (pc (show ∀ zi,zi < a.length->AV.xe (bH (a.getD zi ab.d))=true from (fun _ _=>rfl)) (pc (show a.length=(wV a i.toNat j.toNat).length from (Qq e)) (pc (show ∀ zi,zi < (wV a i.toNat j.toNat).length->(fun zi=>bH ((wV a i.toNat j.toNat).getD zi ab.d)) zi=((fun d=>if d < (i.toNat - 0) then bH (a.getD d ab.d) else if d < (i.toNat - 0)+(a.length - j.toNat) then bH (a.getD (eu j.toNat (d - (i.toNat - 0))) ab.d) else bH (a.getD d ab.d))) zi from (fun f g=>adS bH ab.d a i.toNat j.toNat e f g)) pn))))))))) ?_;obtain ⟨t,h⟩:=ae h;obtain ⟨k,h⟩:=ae h;refine bK b 1 [(4,oF (.qm)),(5,oF (.qm))] [(0,.l5 ((VM a i j).length))] [(0,ri 0 bH ab.d (VM a i j))] 433 (pc t (pc (show 0<=((((i.toNat - 0)+(a.length - j.toNat)):Nat):Int) from (Int.natCast_nonneg _)) (pc (show 0<=(a.length:Int) from (Int.natCast_nonneg _)) (pc k (pc (show ((i.toNat - 0)+(a.length - j.toNat))=(VM a i j).length from (ND k)) (pc (show ((i.toNat - 0)+(a.length - j.toNat))=(VM a i j).length from (ND k)) (pc (show ∀ zi,zi < (VM a i j).length->(fun zi=>bH ((VM a i j).getD zi ab.d)) zi=(fun zi=>bH ((wV a i.toNat j.toNat).getD zi ab.d)) zi from (fun f g=>abA bH ab.d (wV a i.toNat j.toNat) ((i.toNat - 0)+(a.length - j.toNat)) f g)) pn))))))) <| ax b 1 (kp [6]) (kq [0]) 465 ?_
  cases h;exact iG b 0 Tryz.f91 (kp [6]) (kq [0]) 465
noncomputable abbrev IM:=bt Tryz.f38
def wJ (N:Nat) (f:Int) (g:Int) (h:Bool) (i:List Int) (j:Bool) (k:List Int) (l:Int) (b:List Int) (c:List Int) (d:List bh) (a:List ab) (e:List ab) (K:Int->Int->Option KZ):Prop:=∀ (low:Int) (x:Int) (r:Bool×re×(List Int)×(List Int)×oV×bh),K low x=some r->∀ E,ba E 6->aK Tryz.prog E 38 177 (bd E [(0,vN 12 [(aI r.2.1.HR),(aI r.2.1.HS),(.os 1 0 r.2.2.1.length),(.os 2 0 r.2.2.2.1.length),(.os 3 0 r.2.2.2.2.1.length),(.os 4 0 r.2.2.2.2.2.length),(.os 6 0 r.2.1.xg.length),(aB r.2.1.bC.fN.fG),(Ip r),(aB r.2.1.bC.fD.fG),(Im r),(aI r.2.1.eY)]),(1,aO 1 cI 0 r.2.2.1),(2,aO 1 cI 0 r.2.2.2.1),(Ih r),(Ii r),(Ij r)] (aB r.1)) [.code (IM 116),.inLoop (IM 116),.inBlock 0,.code (IM 15)] ⟨[(0,(.op 0 0 0)),(3,(aI low)),(15,(Sb a)),(16,(aI x))],[(0,vN 12 [(aI f),(aI g),(CT b),(Pt c),(B0 d),(yI a),(qW e),(aB h),(di i),(aB j),(di k),(aI l)]),(gI b),(iT c),(iH d),(gx a),(tT e)],7⟩
def EM (N:Nat) (g:Int) (h:Int) (i:Bool) (j:List Int) (k:Bool) (l:List Int) (m:Int) (b:List Int) (c:List Int) (d:List bh) (a:List ab) (e:List ab) (x:Int) (K:Int->Option KZ):Prop:=∀ (f:Int) (r:Bool×re×(List Int)×(List Int)×oV×bh),K f=some r->∀ E,ba E 6->aK Tryz.prog E 38 177 (bd E [(0,vN 12 [(aI r.2.1.HR),(aI r.2.1.HS),(.os 1 0 r.2.2.1.length),(.os 2 0 r.2.2.2.1.length),(.os 3 0 r.2.2.2.2.1.length),(.os 4 0 r.2.2.2.2.2.length),(.os 6 0 r.2.1.xg.length),(aB r.2.1.bC.fN.fG),(Ip r),(aB r.2.1.bC.fD.fG),(Im r),(aI r.2.1.eY)]),(1,aO 1 cI 0 r.2.2.1),(2,aO 1 cI 0 r.2.2.2.1),(Ih r),(Ii r),(Ij r)] (aB r.1)) [.code (IM 935),.inLoop (IM 116),.inBlock 0,.code (IM 15)] ⟨[(0,(.op 0 0 0)),(3,(aI f)),(15,(Sb a)),(16,(aI x))],[(0,vN 12 [(aI g),(aI h),(CT b),(Pt c),(B0 d),(yI a),(qW e),(aB i),(di j),(aB k),(di l),(aI m)]),(gI b),(iT c),(iH d),(gx a),(tT e)],7⟩
theorem u6 (N:Nat) (a:Int) (b:Int) (c:Bool) (d:List Int) (e:Bool) (f:List Int) (g:Int) (i:List Int) (j:List Int) (k:List bh) (l:List ab) (m:List ab) (x:Int) (o:Int->Int->Option KZ) (p:wJ N a b c d e f g i j k l m o):EM N a b c d e f g i j k l m x (lW N a b c d e f g i j k l m x o):=by
 intro q r h E n;unfold lW at h;refine ax n 0 K9 jo 39 <| cY n 1 K9 jo 7 (p _ _ _ h E n)
def EN (N:Nat) (K:Int->Int->(List Int)->(List Int)->oV->bh->bh->Bool->(List Int)->Bool->(List Int)->Int->Option KZ):Prop:=∀ (f:Int) (g:Int) (a:List Int) (b:List Int) (c:List bh) (d:List ab) (e:List ab) (h:Bool) (i:List Int) (j:Bool) (k:List Int) (l:Int) (r:Bool×re×(List Int)×(List Int)×oV×bh),K f g a b c d e h i j k l=some r->∀ E,ba E 6->aK Tryz.prog E 38 177 (bd E [(0,vN 12 [(aI r.2.1.HR),(aI r.2.1.HS),(.os 1 0 r.2.2.1.length),(.os 2 0 r.2.2.2.1.length),(.os 3 0 r.2.2.2.2.1.length),(.os 4 0 r.2.2.2.2.2.length),(.os 6 0 r.2.1.xg.length),(aB r.2.1.bC.fN.fG),(Ip r),(aB r.2.1.bC.fD.fG),(Im r),(aI r.2.1.eY)]),(1,aO 1 cI 0 r.2.2.1),(2,aO 1 cI 0 r.2.2.2.1),(Ih r),(Ii r),(Ij r)] (aB r.1)) [.code (IM 252),.code (IM 253),.code (IM 127)] ⟨[(0,(.op 0 0 0))],[(0,vN 12 [(aI f),(aI g),(CT a),(Pt b),(B0 c),(yI d),(qW e),(aB h),(di i),(aB j),(di k),(aI l)]),(gI a),(iT b),(iH c),(gx d),(tT e)],7⟩
def EO (N:Nat) (K:Int->Int->(List Int)->(List Int)->oV->bh->bh->Bool->(List Int)->Bool->(List Int)->Int->Option KZ):Prop:=∀ (f:Int) (g:Int) (a:List Int) (b:List Int) (c:List bh) (d:List ab) (e:List ab) (h:Bool) (i:List Int) (j:Bool) (k:List Int) (l:Int) (r:Bool×re×(List Int)×(List Int)×oV×bh),K f g a b c d e h i j k l=some r->∀ E,ba E 6->aK Tryz.prog E 38 177 (bd E [(0,vN 12 [(aI r.2.1.HR),(aI r.2.1.HS),(.os 1 0 r.2.2.1.length),(.os 2 0 r.2.2.2.1.length),(.os 3 0 r.2.2.2.2.1.length),(.os 4 0 r.2.2.2.2.2.length),(.os 6 0 r.2.1.xg.length),(aB r.2.1.bC.fN.fG),(Ip r),(aB r.2.1.bC.fD.fG),(Im r),(aI r.2.1.eY)]),(1,aO 1 cI 0 r.2.2.1),(2,aO 1 cI 0 r.2.2.2.1),(Ih r),(Ii r),(Ij r)] (aB r.1)) [.code (IM 254),.code (IM 255)] ⟨[(0,(.op 0 0 0))],[(0,vN 12 [(aI f),(aI g),(CT a),(Pt b),(B0 c),(yI d),(qW e),(aB h),(di i),(aB j),(di k),(aI l)]),(gI a),(iT b),(iH c),(gx d),(tT e)],7⟩
def EP (N:Nat) (g:Int) (h:Int) (b:List Int) (i:List bh) (c:List ab) (d:List ab) (j:Bool) (k:List Int) (l:Bool) (m:List Int) (n:Int) (o:Int) (e:(List Int)×(List Int)) (K:oV->Int->Option KZ):Prop:=∀ (a:List bh) (f:Int) (r:Bool×re×(List Int)×(List Int)×oV×bh),K a f=some r->∀ E,ba E 6->aK Tryz.prog E 38 177 (bd E [(0,vN 12 [(aI r.2.1.HR),(aI r.2.1.HS),(.os 1 0 r.2.2.1.length),(.os 2 0 r.2.2.2.1.length),(.os 3 0 r.2.2.2.2.1.length),(.os 4 0 r.2.2.2.2.2.length),(.os 6 0 r.2.1.xg.length),(aB r.2.1.bC.fN.fG),(Ip r),(aB r.2.1.bC.fD.fG),(Im r),(aI r.2.1.eY)]),(1,aO 1 cI 0 r.2.2.1),(2,aO 1 cI 0 r.2.2.2.1),(Ih r),(Ii r),(Ij r)] (aB r.1)) [.code (IM 8180),.inLoop (IM 8180),.inBlock 2,.code (IM 1023)] ⟨[(0,(.op 0 0 0)),(8,(aI o)),(126,(aI (i.length:Int))),(127,(aI f))],[(0,vN 12 [(aI g),(aI h),(CT b),(.os 2 0 e.2.length),(B0 a),(yI c),(qW d),(aB j),(di k),(aB l),(di m),(aI n)]),(gI b),(2,aO 1 cI 0 e.2),(iH a),(gx c),(tT d)],7⟩
def ER (N:Nat) (g:Int) (h:Int) (c:List Int) (d:List ab) (i:Bool) (j:List Int) (k:Bool) (l:List Int) (m:Int) (a:(List Int)×(List Int)) (e:List bh) (K:bh->Int->Option KZ):Prop:=∀ (b:List ab) (f:Int) (r:Bool×re×(List Int)×(List Int)×oV×bh),K b f=some r->∀ E,ba E 6->aK Tryz.prog E 38 177 (bd E [(0,vN 12 [(aI r.2.1.HR),(aI r.2.1.HS),(.os 1 0 r.2.2.1.length),(.os 2 0 r.2.2.2.1.length),(.os 3 0 r.2.2.2.2.1.length),(.os 4 0 r.2.2.2.2.2.length),(.os 6 0 r.2.1.xg.length),(aB r.2.1.bC.fN.fG),(Ip r),(aB r.2.1.bC.fD.fG),(Im r),(aI r.2.1.eY)]),(1,aO 1 cI 0 r.2.2.1),(2,aO 1 cI 0 r.2.2.2.1),(Ih r),(Ii r),(Ij r)] (aB r.1)) [.code (IM 32756),.inLoop (IM 32756),.inBlock 4,.code (IM 4095)] ⟨[(0,(.op 0 0 0)),(161,(aI (((Xq a).length:Nat):Int))),(162,(aI f))],[(0,vN 12 [(aI g),(aI h),(CT c),(.os 2 0 a.2.length),(B0 e),(yI d),(qW b),(aB i),(di j),(aB k),(di l),(aI m)]),(gI c),(2,aO 1 cI 0 a.2),(iH e),(gx d),(tT b)],7⟩
theorem DG (N g i j k l m n o p q s fuel):ER N g i j k l m n o p q s (ig N g i j k l m n o p q s fuel):=by
 induction fuel with
 | zero=>intro _ _ r h;rw [ig.eq_1] at h;cases h
 | succ fuel t =>
  intro c d r h E a;rw [ig.eq_2] at h;refine ax a 1 (kp [0,161,162,163]) jo 23 <| dr 1 163 h (fun f h=>?_) (fun f h=>?_)
  ·refine ax a 4 (kp [0,10,161,162]) jo 55 ?_;obtain ⟨b,u,h⟩:=aW h;obtain ⟨e,h⟩:=ae h;refine bK a 0 [(5,oT (aj b))] Sn ([(0,.var 0 [.ak,.ak,.ak,.ak,.ak,.ak,.l5 (zL c d b),.ak,.ak,.ak,.ak,.ak])] ++ kq [1,2,3,4] ++ [(XY c d b)]) 183 (pc o1 (pc (eV _ _ _ u) (pc e (pc (dR e) (pc (bm c d.toNat b) (pc (bm c d.toNat b) (pc (dK bH ab.d c d.toNat b) pn))))))) <| ax a 1 Sn jo 215 <| cY a 1 Sn jo 7 (t _ _ _ h E a)
  ·obtain ⟨v,w,h⟩:=aW h;refine bK a 2 [(1,oT (aj v))] [] jo 103 (pc (eV _ _ _ w) (pc o1 pn)) <| ax a 1 (kp [2]) jo 119 ?_
   cases h;exact iG a 0 Tryz.f38 (kp [2]) jo 119
theorem DH (N n o p q s t u v w x y z f fuel):EP N n o p q s t u v w x y z f (ij N n o p q s t u v w x y z f fuel):=by
 induction fuel with
 | zero=>intro _ _ r h;rw [ij.eq_1] at h;cases h
 | succ fuel B =>
  intro a b r h E g;rw [ij.eq_2] at h;refine ax g 1 (kp [0,8,126,127,128]) jo 23 <| dr 1 128 h (fun m h=>?_) (fun m h=>?_)
  ·refine ax g 4 (kp [0,8,9,126,127]) jo 55 ?_;obtain ⟨j,h⟩:=ae h;refine rnO 3 b.toNat 4 (qV a b) (F3 a b) (pc j (pc (show aJ [] (au a) b.toNat=mR 4 bH ab.d (pk a b) from rfl) pn)) ?_;obtain ⟨i,h⟩:=ae h;obtain ⟨e,C,h⟩:=aW h;refine bK g 0 [(11,oF (NY a b)),(15,⟨[55],false,(.os 0 0 e.2.length),[(0,aO 4 bH ab.d e.2)],0,false,none⟩)] OC (kq [0,1,2] ++ [(3,.Fm 3 (a.length) [(b.toNat,55,e.2.length)] (au a))] ++ kq [4,6,55]) 359 (pc o1 (pc o1 (pc i (pc (dR i) (pc (show (aje b a)[0]?=some (NY a b) from (gO rfl)) (pc (Gc _ _ _ _ _ C) (pc i (pc (dR i) (pc (Eq.refl a.length) (pc (show ∀ k,k < a.length->aJ [(b.toNat,55,e.2.length)] (au a) k=if k=(b).toNat then [.os 55 0 e.2.length] else aJ [(Kb b a)] (au a) k from (amK _ _ _ _ _ rfl)) (pc (show ∀ k,k < a.length->gi ((au a) k)=true from (fun _ _=>rfl)) pn))))))))))) <| rnL 3 55 b.toNat (pc j (pc (show aJ [(b.toNat,55,e.2.length)] (au a) b.toNat=[.os 55 0 e.2.length] from if_pos rfl) (pc (show ∀ A,A < e.2.length->uE (bH (e.2.getD A ab.d))=true from fun _ _=>rfl) pn))) <| rnX g [] OC ([(0,.var 0 [.ak,.ak,.ak,.ak,.l5 ((a.set b.toNat e.2).length),.ak,.ak,.ak,.ak,.ak,.ak,.ak])] ++ kq [1,2] ++ [(3,.Fm 3 ((a.set b.toNat e.2).length) [] (mG (a.set b.toNat e.2)))] ++ kq [4,6]) 359 (pc (bm a b.toNat e.2) (pc (bm a b.toNat e.2) (pc (Me (sz:=4) (c:=bH) (d:=ab.d) a b.toNat 55 e.2.length e.2 [] j Ro) (pc (iM (a.set b.toNat e.2)) pn)))) <| ax g 1 OC jo 391 <| cY g 1 OC jo 7 (B _ _ _ h E g)
  ·obtain ⟨l,h⟩:=ae h;refine dV g 2 (kp [0]) ([(0,.var 0 [.ak,.ak,.ak,.ak,.ak,.ak,.l5 ((Xq f).length),.ak,.ak,.ak,.ak,.ak])] ++ kq [1,2,3,4] ++ [(119,.arz 119 ((Xq f).length) (aiM f))]) 183 (pc o1 (pc l.1 (pc (Int.le_refl ((f.2.length:Nat):Int)) (pc l.2.1 (pc l.2.2 (pc o1 (pc (lR f.2.length Ap) (pc (lQ f.2.length Ap) (pc (show ∀ zi,zi < (Xq f).length->Uf ((fun _=>[(aB false),.nil,(aB false),.nil]) zi) ((aiM f) zi) from (fun D F=>yC bH ab.d ab.d f.2.length D ⟨.inl rfl,.inr ⟨rfl,_,rfl⟩,.inl rfl,.inr ⟨rfl,_,rfl⟩,trivial⟩ F)) pn))))))))) <| dV g 2 Sn (kq [0,1,2,3,4,119]) 279 (pc o1 pn) <| cY g 2 Sn (kq [0,1,2,3,4] ++ [(6,.ak 119)]) 7 (DG N _ _ _ _ _ _ _ _ _ _ _ N _ _ _ h E g)
theorem u7 (N):EO N (lX N):=by
 intro g i j c k l m n o p q s r h E a;unfold lX at h;obtain ⟨d,e,h⟩:=aW h;refine bK a 0 [(8,oT (aI d))] (kp [0,8]) jo 167 (pc o1 (pc o1 (pc (lU _ _ _ _ e) (pc (z1 c.length) pn)))) ?_;obtain ⟨b,f,h⟩:=aW h;refine bK a 1 [(8,⟨[2],false,(.os 0 0 b.2.length),[(0,aO 1 cI 0 b.2)],0,false,none⟩)] (kp [0,8]) jo 359 (pc o1 (pc (Cc _ _ _ _ _ f) (pc o1 pn))) <| dV a 2 OC jo 455 (pc o1 pn) <| cY a 2 OC jo 7 (DH N _ _ _ _ _ _ _ _ _ _ _ _ _ N _ _ _ h E a)
theorem u9 (N):EN N (jX N):=by
 intro x y l z a A B C D F G H r h E f;unfold jX at h;obtain ⟨b,m,h⟩:=aW h;refine bK f 0 [(8,oT (aI b))] (kp [0,6]) jo 167 (pc o1 (pc o1 (pc (lU _ _ _ _ m) (pc (z1 l.length) pn)))) <| ax f 1 (kp [0,6,89]) jo 199 <| dr 0 89 h (fun n h=>?_) (fun n h=>?_)
 ·obtain ⟨i,h⟩:=ae h;refine rnO 3 b.toNat 4 (qV a b) (F3 a b) (pc i (pc (show aJ [] (au a) b.toNat=mR 4 bH ab.d (pk a b) from rfl) pn)) ?_;obtain ⟨j,h⟩:=ae h;obtain ⟨o,p,h⟩:=aW h;refine bK f 1 [(6,oF (.os 199 0 (qV a b))),(7,oT (aI o))] (kp [0,6,7]) (kq [0,1,2] ++ [(3,.Fm 3 (a.length) [(ZH b a)] (au a))] ++ kq [4,6,199]) 359 (pc o1 (pc j (pc (dR j) (pc (show (aJ [(ZH b a)] (au a) b.toNat)[0]?=some (.os 199 0 (qV a b)) from (gO rfl)) (pc (CD _ _ _ p) (pc (z1 (qV a b)) (pc (Eq.refl a.length) (pc (show ∀ g,g < a.length->aJ [(ZH b a)] (au a) g=aJ [(ZH b a)] (au a) g from (fun _ _=>rfl)) (pc (show ∀ g,g < a.length->gi ((au a) g)=true from (fun _ _=>rfl)) pn))))))))) <| rnL 3 199 b.toNat (pc i (pc (show aJ [(ZH b a)] (au a) b.toNat=[.os 199 0 (pk a b).length] from if_pos rfl) (pc (show ∀ k,k < (pk a b).length->uE (bH ((pk a b).getD k ab.d))=true from fun _ _=>rfl) pn))) <| rnX f [] (kp [0,6,7]) (kq [0,1,2] ++ [(3,.Fm 3 (a.length) [] (au a))] ++ kq [4,6]) 359 (pc (Eq.refl (a.length)) (pc (Eg (sz:=4) (c:=bH) (d:=ab.d) a b.toNat 199 (qV a b) [] Ro) (pc (show ∀ g,g < a.length->gi ((au a) g)=true from fun _ _=>rfl) pn))) ?_
  obtain ⟨e,q,h⟩:=aW h;obtain ⟨s,h⟩:=ae h;obtain ⟨t,h⟩:=ae h;obtain ⟨u,h⟩:=ae h;obtain ⟨v,h⟩:=ae h;obtain ⟨w,h⟩:=ae h;refine bK f 0 [(3,⟨[0,1,2,3,4,6],false,(.tup []),[(0,vN 12 [(aI e.1.HR),(aI e.1.HS),(.os 1 0 e.2.1.length),(.os 2 0 e.2.2.1.length),(.os 3 0 e.2.2.2.1.length),(.os 4 0 e.2.2.2.2.1.length),(.os 5 0 e.2.2.2.2.2.length),(aB e.1.bC.fN.fG),(F2 e),(aB e.1.bC.fD.fG),(F1 e),(aI e.1.eY)]),(1,aO 1 cI 0 e.2.1),(2,aO 1 cI 0 e.2.2.1),(FT e),(FU e),(FX e)],0,false,none⟩)] (kp [0]) jo 423 (pc (tU _ _ _ _ _ _ _ _ _ _ _ _ _ _ _ _ q) pn) <| cY f 1 (kp [0]) jo 7 (u7 N _ _ _ _ _ _ _ _ _ _ _ _ _ h E f)
 ·exact cY f 2 (kp [0]) jo 7 (u7 N _ _ _ _ _ _ _ _ _ _ _ _ _ h E f)
theorem DI (N k l m n o p q s g t u i fuel):wJ N k l m n o p q s g t u i (cQ N k l m n o p q s g t u i fuel):=by
 induction fuel with
 | zero=>intro _ _ r h;rw [cQ.eq_1] at h;cases h
 | succ fuel v =>
  intro low x r h E b;rw [cQ.eq_2] at h;refine ax b 1 (kp [0,3,15,16,17]) jo 23 <| dr 1 17 h (fun A h=>?_) (fun A h=>?_)
  ·refine ax b 4 (kp [0,3,4,15,16]) jo 55 ?_;obtain ⟨c,h⟩:=ae h;obtain ⟨e,B,h⟩:=aW h;obtain ⟨w,h⟩:=ae h;obtain ⟨y,h⟩:=ae h;obtain ⟨C,D,h⟩:=aW h;refine bK b 1 [(7,oT (aI e)),(27,oT (aI C))] (kp [0,3,4,15,16,49]) jo 551 (pc o1 (pc c (pc (dR c) (pc (mq _ _ _ B) (pc (fun a:(xH e)=true=>(pc a pn)) (pc (fun a:(EC e low)=true=>(pc a pn)) (pc (fun a:(EC e low)=true=>(pc a pn)) (pc (fun a:(EC e low)=true=>(pc a (pc o1 pn))) (pc (fun a:(EC e low)=true=>(pc a (pc a (pc (w a) pn)))) (pc (fun a:(EC e low)=true=>(pc a (pc (dR (w a)) pn))) (pc (fun a:(EC e low)=true=>(pc a pn)) (pc (fun a:(EC e low)=true=>(pc a pn)) (pc (fun a:(EC e low)=true=>(pc a (pc o1 pn))) (pc (fun a:(EC e low)=true=>(pc a (pc a (pc (y a) pn)))) (pc (fun a:(EC e low)=true=>(pc a (pc (dR (y a)) pn))) (pc (fun a:(EC e low)=true=>(pc (jB _ _ _ _ (aN D a)) (pc a (pc a pn)))) (pc (fun a:(EC e low)=true=>(pc a pn)) (pc (fun a:(xH e)=true=>(pc a (pc a (pc (fun hq:(EA low)=true=>(pc (show (EC e low)=true from (GV a (GV a hq))) pn)) pn)))) (pc (fun hq:(xH e)=true=>(pc hq pn)) pn))))))))))))))))))) <| dr 0 49 h (fun F h=>?_) (fun F h=>?_)
   ·refine ax b 0 K9 jo 583 <| cY b 1 K9 jo 7 (u6 N _ _ _ _ _ _ _ _ _ _ _ _ _ _ v _ _ h E b)
   ·exact cY b 2 K9 jo 7 (u6 N _ _ _ _ _ _ _ _ _ _ _ _ _ _ v _ _ h E b)
  ·refine dV b 2 So jo 135 (pc o1 pn) <| ax b 2 (kp [0,3,5,59]) jo 167 <| dr 0 59 h (fun G h=>?_) (fun G h=>?_)
   ·obtain ⟨j,H,h⟩:=aW h;obtain ⟨z,h⟩:=ae h;refine bK b 1 [(5,oT (aj j))] So ([(0,.var 0 [.ak,.ak,.ak,.ak,.ak,.ak,.l5 ((i.set (Mm g) j).length),.ak,.ak,.ak,.ak,.ak])] ++ kq [1,2,3,4] ++ [(6,ri 6 bH ab.d (i.set (Mm g) j))]) 295 (pc o1 (pc (eV _ _ _ H) (pc z (pc (dR z) (pc (bm i (Mm g) j) (pc (bm i (Mm g) j) (pc (dK bH ab.d i (Mm g) j) pn))))))) ?_;obtain ⟨f,I,h⟩:=aW h;obtain ⟨R,h⟩:=ae h;obtain ⟨S,h⟩:=ae h;obtain ⟨T,h⟩:=ae h;obtain ⟨U,h⟩:=ae h;obtain ⟨V,h⟩:=ae h;refine bK b 1 [(3,⟨[0,1,2,3,4,6],false,(.tup []),[(0,vN 12 [(aI f.1.HR),(aI f.1.HS),(.os 1 0 f.2.1.length),(.os 2 0 f.2.2.1.length),(.os 3 0 f.2.2.2.1.length),(.os 4 0 f.2.2.2.2.1.length),(.os 5 0 f.2.2.2.2.2.length),(aB f.1.bC.fN.fG),(F2 f),(aB f.1.bC.fD.fG),(F1 f),(aI f.1.eY)]),(1,aO 1 cI 0 f.2.1),(2,aO 1 cI 0 f.2.2.1),(FT f),(FU f),(FX f)],0,false,none⟩)] (kp [0]) jo 359 (pc (tU _ _ _ _ _ _ _ _ _ _ _ _ _ _ _ _ I) pn) ?_;obtain ⟨d,J,h⟩:=aW h;obtain ⟨W,h⟩:=ae h;obtain ⟨X,h⟩:=ae h;obtain ⟨K,h⟩:=ae h;obtain ⟨L,h⟩:=ae h;obtain ⟨M,h⟩:=ae h;refine bK b 1 [(1,⟨[0,1,2,3,4,6],false,(aI d.1),[(0,vN 12 [(aI d.2.1.HR),(aI d.2.1.HS),(.os 1 0 d.2.2.1.length),(.os 2 0 d.2.2.2.1.length),(.os 3 0 d.2.2.2.2.1.length),(.os 4 0 d.2.2.2.2.2.1.length),(.os 5 0 d.2.2.2.2.2.2.length),(aB d.2.1.bC.fN.fG),(eU d.2.1.bC.fN.fL),(aB d.2.1.bC.fD.fG),(eU d.2.1.bC.fD.fL),(aI d.2.1.eY)]),(1,aO 1 cI 0 d.2.2.1),(2,aO 1 cI 0 d.2.2.2.1),(3,aM 4 bH ab.d d.2.2.2.2.1),(4,aO 4 bH ab.d d.2.2.2.2.2.1),(5,aO 4 bH ab.d d.2.2.2.2.2.2)],0,false,none⟩)] (kp [0]) jo 391 (pc (IL _ _ _ _ _ _ _ _ _ _ _ _ _ _ J) pn) ?_;obtain ⟨O,P,h⟩:=aW h;refine bK b 1 [(4,oT (aB O))] (kp [0,78]) jo 487 (pc o1 (pc (jA _ _ _ P) pn)) <| dr 0 78 h (fun Q h=>?_) (fun Q h=>?_)
    ·refine ax b 1 (kp [2]) jo 503 ?_;cases h;exact iG b 0 Tryz.f38 (kp [2]) jo 503
    ·exact cY b 3 (kp [0]) jo 7 (u9 N _ _ _ _ _ _ _ _ _ _ _ _ _ h E b)
   ·exact cY b 3 (kp [0]) jo 7 (u9 N _ _ _ _ _ _ _ _ _ _ _ _ _ h E b)
theorem Ho (N g i j k l m n b c d e f r) (h:rN N g i j k l m n b c d e f=some r):Sd 38 [(.op 0 0 0)] [(jL g i b c d e f j k l m n),(gI b),(iT c),(iH d),(gx e),(ja f)] 6 (aB r.1) [(0,vN 12 [(aI r.2.1.HR),(aI r.2.1.HS),(.os 1 0 r.2.2.1.length),(.os 2 0 r.2.2.2.1.length),(.os 3 0 r.2.2.2.2.1.length),(.os 4 0 r.2.2.2.2.2.length),(.os 6 0 r.2.1.xg.length),(aB r.2.1.bC.fN.fG),(Ip r),(aB r.2.1.bC.fD.fG),(Im r),(aI r.2.1.eY)]),(1,aO 1 cI 0 r.2.2.1),(2,aO 1 cI 0 r.2.2.2.1),(Ih r),(Ii r),(Ij r)]:=by
 unfold rN at h;refine sO Tryz.f38 177 fun E a=>?_;refine ax a 1 (kp [0]) fJ 22 <| ax a 1 (kp [0,3]) fJ 38 <| dV a 2 K9 fJ 134 (pc o1 pn) <| cY a 2 K9 (kq [0,1,2,3,4] ++ [(6,.ak 5)]) 7 (DI N _ _ _ _ _ _ _ _ _ _ _ _ N _ _ _ h E a)
noncomputable abbrev afQ:=bt Tryz.f39
def sD (N:Nat) (g:Int) (f:Int) (h:Bool) (i:List Int) (j:Bool) (k:List Int) (l:Int) (a:List Int) (b:List Int) (c:List bh) (d:List ab) (e:List ab) (K:bh->Int->Option CS):Prop:=∀ (out:List ab) (x:Int) (r:bh),K out x=some r->∀ E,ba E 6->aK Tryz.prog E 39 47 (bd E [(jL g f a b c d e h i j k l),(gI a),(iT b),(iH c),(gx d),(ja e),(KY r)] (.os 6 0 r.length)) [.code (afQ 116),.inLoop (afQ 116),.inBlock 0,.code (afQ 15)] ⟨[(0,(.op 0 0 0)),(3,(qW out)),(aiE f),(13,(aI x))],[(jL g f a b c d e h i j k l),(gI a),(iT b),(iH c),(gx d),(ja e),(tT out)],7⟩
def Ay (N:Nat) (h:Int) (f:Int) (i:Bool) (j:List Int) (k:Bool) (l:List Int) (m:Int) (a:List Int) (b:List Int) (c:List bh) (d:List ab) (e:List ab) (x:Int) (K:bh->Option CS):Prop:=∀ (g:List ab) (r:bh),K g=some r->∀ E,ba E 6->aK Tryz.prog E 39 47 (bd E [(jL h f a b c d e i j k l m),(gI a),(iT b),(iH c),(gx d),(ja e),(KY r)] (.os 6 0 r.length)) [.code (afQ 935),.inLoop (afQ 116),.inBlock 0,.code (afQ 15)] ⟨[(0,(.op 0 0 0)),(3,(qW g)),(aiE f),(13,(aI x))],[(jL h f a b c d e i j k l m),(gI a),(iT b),(iH c),(gx d),(ja e),(tT g)],7⟩
theorem rE (N:Nat) (a:Int) (b:Int) (c:Bool) (d:List Int) (e:Bool) (f:List Int) (g:Int) (i:List Int) (j:List Int) (k:List bh) (l:List ab) (m:List ab) (x:Int) (o:bh->Int->Option CS) (p:sD N a b c d e f g i j k l m o):Ay N a b c d e f g i j k l m x (jw N a b c d e f g i j k l m x o):=by
 intro q r h E n;unfold jw at h;refine ax n 0 OA jK 39 <| cY n 1 OA jK 7 (p _ _ _ h E n)
theorem zR (N e f g i j k l m d n o p fuel):sD N e f g i j k l m d n o p (du N e f g i j k l m d n o p fuel):=by
 induction fuel with
 | zero=>intro _ _ r h;rw [du.eq_1] at h;cases h
 | succ fuel q =>
  intro out x r h E a;rw [du.eq_2] at h;refine ax a 1 (kp [0,3,12,13,14]) jK 23 <| dr 1 14 h (fun v h=>?_) (fun v h=>?_)
  ·refine ax a 4 (kp [0,3,4,12,13]) jK 55 ?_;obtain ⟨b,w,h⟩:=aW h;obtain ⟨s,h⟩:=ae h;refine bK a 1 [(2,oT (aj b))] (kp [0] ++ [(3,.l5 (zL out x b))] ++ kp [4,12,13]) (kq [0,1,2,3,4,5] ++ [(XY out x b)]) 135 (pc (eV _ _ _ w) (pc s (pc (dR s) (pc (bm out x.toNat b) (pc (bm out x.toNat b) (pc (dK bH ab.d out x.toNat b) pn)))))) ?_;obtain ⟨y,z,h⟩:=aW h;refine bK a 1 [(11,oT (aI y))] (kp [0,3,4,5,12,13]) jK 343 (pc o1 (pc o1 (pc (lU _ _ _ _ z) (pc (z1 d.length) pn)))) <| ax a 1 (kp [0,3,4,5,12,13,33]) jK 375 <| dr 0 33 h (fun A h=>?_) (fun A h=>?_)
   ·obtain ⟨t,h⟩:=ae h;obtain ⟨c,B,h⟩:=aW h;obtain ⟨u,h⟩:=ae h;refine bK a 0 [(9,oT (aj c))] (kp [0] ++ [(3,.l5 (((out.set x.toNat b).set x.toNat c).length))] ++ kp [12,13]) (kq [0,1,2,3,4,5] ++ [(6,ri 6 bH ab.d ((out.set x.toNat b).set x.toNat c))]) 567 (pc o1 (pc t (pc (dR t) (pc (pL _ _ _ B) (pc u (pc (dR u) (pc (bm (out.set x.toNat b) x.toNat c) (pc (bm (out.set x.toNat b) x.toNat c) (pc (dK bH ab.d (out.set x.toNat b) x.toNat c) pn))))))))) <| cY a 1 OA jK 7 (rE N _ _ _ _ _ _ _ _ _ _ _ _ _ _ q _ _ h E a)
   ·exact cY a 2 OA jK 7 (rE N _ _ _ _ _ _ _ _ _ _ _ _ _ _ q _ _ h E a)
  ·refine ax a 2 (kp [2]) jK 55 ?_;obtain rfl:=jS h;exact iG a 0 Tryz.f39 (kp [2]) jK 55
theorem Cd (N j a k l m n o b d e f g r) (h:m6 N j a k l m n o b d e f g=some r):Sd 39 [(.op 0 0 0)] [(jL j a b d e f g k l m n o),(gI b),(iT d),(iH e),(gx f),(ja g)] 6 (.os 6 0 r.length) [(jL j a b d e f g k l m n o),(gI b),(iT d),(iH e),(gx f),(ja g),(KY r)]:=by
 unfold m6 at h;refine sO Tryz.f39 47 fun E i=>?_;refine ax i 1 (kp [0]) fJ 22 ?_;obtain ⟨c,h⟩:=ae h;refine dV i 1 (kp [0] ++ [(3,.l5 (aeb a))]) (ai2 a) 118 (pc o1 (pc c.1 (pc (Int.le_refl a) (pc c.2.1 (pc c.2.2 (pc (lR a.toNat Ap) (pc (lQ a.toNat Ap) (pc (show ∀ zi,zi < (acp a).length->Uf ((fun _=>[(aB false),.nil,(aB false),.nil]) zi) ((Xt a) zi) from (fun p q=>yC bH ab.d ab.d a.toNat p ⟨.inl rfl,.inr ⟨rfl,_,rfl⟩,.inl rfl,.inr ⟨rfl,_,rfl⟩,trivial⟩ q)) pn)))))))) <| ax i 2 OA (kq [0,1,2,3,4,5,86]) 166 <| cY i 2 OA ai1 7 (zR N _ _ _ _ _ _ _ _ _ _ _ _ N _ _ _ h E i)
theorem CV (N p i j k l m n o b d e f g r) (h:tL N p i j k l m n o b d e f g=some r):Sd 44 [(.op 0 0 0),(aI p)] [(jL i j b d e f g k l m n o),(gI b),(iT d),(iH e),(gx f),(ja g)] 6 (aj r) [(jL i j b d e f g k l m n o),(gI b),(iT d),(iH e),(gx f),(ja g)]:=by
 unfold tL at h;refine sO Tryz.f44 22 fun E a=>?_;refine ax a 1 Iq jK 22 ?_;obtain ⟨q,s,h⟩:=aW h;refine bK a 2 [(5,oT (aI q))] OB jK 134 (pc o1 (pc (lU _ _ _ _ s) (pc (z1 b.length) pn))) <| ax a 1 (kp [0,4,5,13]) jK 166 <| dr 0 13 h (fun t h=>?_) (fun t h=>?_)
 ·obtain ⟨c,h⟩:=ae h;refine dV a 1 (kp [4]) jK 294 (pc o1 (pc c (pc (dR c) (pc o1 pn)))) ?_;cases h;exact mh a 0 Tryz.f44 [] (kp [4]) aiZ 294 pn [22] (pc o1 pn)
 ·obtain ⟨u,v,h⟩:=aW h;refine bK a 2 [(0,oT (aj u))] (kp [4]) jK 198 (pc (eV _ _ _ v) (pc o1 pn)) ?_;obtain rfl:=jS h;exact mh a 0 Tryz.f44 [] (kp [4]) aiZ 198 pn [22] (pc o1 pn)
noncomputable abbrev ap6:=bt Tryz.f42
def Gd (N:Nat) (f:Int) (g:Int) (h:Bool) (i:List Int) (j:Bool) (k:List Int) (l:Int) (a:List Int) (b:List Int) (c:List bh) (d:List ab) (e:List ab) (K:bh->Int->Option CS):Prop:=∀ (out:List ab) (x:Int) (r:bh),K out x=some r->∀ E,ba E 6->aK Tryz.prog E 42 34 (bd E [(jL f g a b c d e h i j k l),(gI a),(iT b),(iH c),(gx d),(ja e),(KY r)] (.os 6 0 r.length)) [.code (ap6 116),.inLoop (ap6 116),.inBlock 0,.code (ap6 15)] ⟨[(0,(.op 0 0 0)),(1,(.fn (.func 44) [(.op 0 0 0)] [])),(5,(qW out)),(13,(aiK f)),(14,(aI x))],[(jL f g a b c d e h i j k l),(gI a),(iT b),(iH c),(gx d),(ja e),(tT out)],7⟩
theorem ES (N f g i j k l m n o b p q fuel):Gd N f g i j k l m n o b p q (iK N f g i j k l m n o b p q fuel):=by
 induction fuel with
 | zero=>intro _ _ r h;rw [iK.eq_1] at h;cases h
 | succ fuel t =>
  intro out x r h E a;rw [iK.eq_2] at h;refine ax a 1 (kp [0,1,5,13,14,15]) jK 23 <| dr 1 15 h (fun u h=>?_) (fun u h=>?_)
  ·refine ax a 4 (kp [0,1,5,6,13,14]) jK 55 ?_;obtain ⟨rat,v,h⟩:=aW h;obtain ⟨e,w,h⟩:=aW h;obtain ⟨c,y,h⟩:=aW h;obtain ⟨s,h⟩:=ae h;refine bK a 0 [(4,⟨[0,1,2,3,4,5],true,(aj rat),[],0,false,none⟩),(12,⟨[0,1,2,3,4,5],true,(aj e),[],0,false,none⟩),(13,oT (aj c))] (kp [0,1] ++ [(5,.l5 (zL out x c))] ++ kp [13,14]) (kq [0,1,2,3,4,5] ++ [(XY out x c)]) 311 (pc (CV _ _ _ _ _ _ _ _ _ _ _ _ _ _ _ v) (pc (show ∀ d,d < b.length->gi ((au b) d)=true from (fun _ _=>rfl)) (pc o1 (pc (CV _ _ _ _ _ _ _ _ _ _ _ _ _ _ _ w) (pc (show ∀ d,d < b.length->gi ((au b) d)=true from (fun _ _=>rfl)) (pc (g9 _ _ _ _ y) (pc s (pc (dR s) (pc (bm out x.toNat c) (pc (bm out x.toNat c) (pc (dK bH ab.d out x.toNat c) pn))))))))))) <| ax a 1 Xz jK 343 <| cY a 1 Xz jK 7 (t _ _ _ h E a)
  ·refine ax a 2 (kp [4]) jK 55 ?_;obtain rfl:=jS h;exact iG a 0 Tryz.f42 (kp [4]) jK 55
theorem IP (N a j k l m n o b d e f g r) (h:s9 N a j k l m n o b d e f g=some r):Sd 42 [(.op 0 0 0),(.fn (.func 44) [(.op 0 0 0)] [])] [(jL a j b d e f g k l m n o),(gI b),(iT d),(iH e),(gx f),(ja g)] 6 (.os 6 0 r.length) [(jL a j b d e f g k l m n o),(gI b),(iT d),(iH e),(gx f),(ja g),(KY r)]:=by
 unfold s9 at h;refine sO Tryz.f42 34 fun E i=>?_;refine ax i 1 (kp [0,1]) fJ 22 ?_;obtain ⟨c,h⟩:=ae h;refine dV i 1 (kp [0,1] ++ [(5,.l5 (aeb a))]) (ai2 a) 118 (pc o1 (pc c.1 (pc (Int.le_refl a) (pc c.2.1 (pc c.2.2 (pc (lR a.toNat Ap) (pc (lQ a.toNat Ap) (pc (show ∀ zi,zi < (acp a).length->Uf ((fun _=>[(aB false),.nil,(aB false),.nil]) zi) ((Xt a) zi) from (fun p q=>yC bH ab.d ab.d a.toNat p ⟨.inl rfl,.inr ⟨rfl,_,rfl⟩,.inl rfl,.inr ⟨rfl,_,rfl⟩,trivial⟩ q)) pn)))))))) <| ax i 2 Xz (kq [0,1,2,3,4,5,86]) 166 <| cY i 2 Xz ai1 7 (ES N _ _ _ _ _ _ _ _ _ _ _ _ N _ _ _ h E i)
theorem P5 (N n l r) (h:xy N n l=some r):Sd 20 [(aI n),(qY l)] [] 0 (.tup [(cA bH ab.d r.1),(cA bH ab.d r.2.1),(aI r.2.2)]) []:=by
 unfold xy at h;refine sO Tryz.f20 27 fun E d=>?_;refine ax d 1 (kp [0,1]) [] 48 ?_;obtain ⟨g,i,h⟩:=aW h;refine bK d 2 [(2,oT (aI g))] (kp [0,1,7]) [] 112 (pc (yN _ _ _ _ i) pn) <| ax d 1 (kp [0,1,7,13]) [] 144 <| dr 0 13 h (fun j h=>?_) (fun j h=>?_)
 ·refine ax d 1 SD [] 208 ?_;cases h;exact mh d 0 Tryz.f20 [] ([(4,rh bH ab.d ([]:List ab)),(5,rh bH ab.d ([]:List ab))] ++ kp [6]) [] 208 (pc (Eq.refl 0) (pc (Eq.refl 0) pn)) [] pn
 ·obtain ⟨b,k,h⟩:=aW h;refine bK d 2 [(2,⟨[],true,(.op 0 0 0),[(0,vN 12 [(aI b.HR),(aI b.HS),(RZ b),(R0 b),(.os 3 0 b.f_a.length),(.os 4 0 b.f_b.length),(KP b),(K4 b),(K7 b),(K3 b),(K6 b),(aI b.eY)]),(KS b),(KU b),(KV b),(KW b),(KX b)],0,false,none⟩)] (kp [8]) (kq [176,177,178,179,180,181]) 208 (pc (X6 _ _ _ _ k) pn) ?_;obtain ⟨a,m,h⟩:=aW h;obtain ⟨c,h⟩:=ae h;obtain ⟨s,h⟩:=ae h;obtain ⟨t,h⟩:=ae h;refine bK d 2 [(1,⟨[176,177,178,179,180,181],false,(aB a.1),[(0,vN 12 [(aI a.2.1.HR),(aI a.2.1.HS),(.os 1 0 a.2.2.1.length),(.os 2 0 a.2.2.2.1.length),(.os 3 0 a.2.2.2.2.1.length),(.os 4 0 a.2.2.2.2.2.length),(.os 6 0 a.2.1.xg.length),(aB a.2.1.bC.fN.fG),(Ip a),(aB a.2.1.bC.fD.fG),(Im a),(aI a.2.1.eY)]),(1,aO 1 cI 0 a.2.2.1),(2,aO 1 cI 0 a.2.2.2.1),(Ih a),(Ii a),(Ij a)],0,false,none⟩)] (kp [8,20]) (kq [176,177,178,179,180,224]) 256 (pc (Ho _ _ _ _ _ _ _ _ _ _ _ _ _ _ m) pn) <| dr 0 20 h (fun o h=>?_) (fun o h=>?_)
  ·obtain ⟨e,p,h⟩:=aW h;refine bK d 1 [(1,⟨[176,177,178,179,180,224],true,(.os 6 0 e.length),[(KY e)],0,false,none⟩)] SD (kq [272]) 336 (pc (Cd _ _ _ _ _ _ _ _ _ _ _ _ _ _ p) (pc (iM a.2.2.2.2.1) pn)) ?_;cases h;exact mh d 0 Tryz.f20 [272] ([(4,rh bH ab.d ([]:List ab)),(5,rh bH ab.d e)] ++ kp [6]) [] 336 (pc (Eq.refl 0) (pc (Eq.refl e.length) (pc (z1 e.length) (pc (eZ bH ab.d e) pn)))) [] pn
  ·obtain ⟨f,q,h⟩:=aW h;refine bK d 2 [(3,⟨[176,177,178,179,180,224],true,(.os 6 0 f.length),[(KY f)],0,false,none⟩)] SD (kq [304]) 368 (pc (IP _ _ _ _ _ _ _ _ _ _ _ _ _ _ q) (pc (iM a.2.2.2.2.1) pn)) ?_;cases h;exact mh d 0 Tryz.f20 [304] ([(4,rh bH ab.d f),(5,rh bH ab.d ([]:List ab))] ++ kp [6]) [] 368 (pc (Eq.refl f.length) (pc (z1 f.length) (pc (eZ bH ab.d f) (pc (Eq.refl 0) pn)))) [] pn
noncomputable abbrev ap7:=bt Tryz.f80
def S5 (N:Nat) (K:Int->(List Int)->Option nf):Prop:=∀ (a:Int) (out:List Int) (r:(List Int)),K a out=some r->∀ E,ba E 0->aK Tryz.prog E 80 15 (bd E [] (fP r)) [.code (ap7 56),.inLoop (ap7 56),.inBlock 0,.code (ap7 15)] ⟨[(0,(wD a)),(3,(nF out))],[(0,aU out)],1⟩
theorem P6 (N fuel):S5 N (rO N fuel):=by
 induction fuel with
 | zero=>intro _ _ r h;rw [rO.eq_1] at h;cases h
 | succ fuel d =>
  intro b out r h E a;rw [rO.eq_2] at h;refine ax a 2 So (kq [0]) 33 <| dr 0 5 h (fun e h=>?_) (fun e h=>?_)
  ·obtain ⟨c,h⟩:=ae h;refine dV a 3 (kp [0] ++ [(3,.l5 ((out ++ (R6 b)).length))]) [(113,ri 113 (cU .u16) 0 (out ++ (R6 b)))] 145 (pc (Eq.refl out.length) (pc c (pc (z1 1) (pc (oN [[(a16 (IntKind.u16.wrap ((Zw .u64 b 65535))))]]) (pc (bL out (R6 b)) (pc (bL out (R6 b)) (pc (LR (cU .u16) 0 out (R6 b)) pn))))))) <| dV a 1 (kp [0,3]) (kq [113]) 193 (pc (show (0:Int)<=16 by decide) pn) <| cY a 1 (kp [0,3]) [(0,.ak 113)] 1 (d _ _ _ h E a)
  ·refine ax a 2 (kp [2]) (kq [0]) 65 ?_;obtain rfl:=jS h;exact mh a 0 Tryz.f80 [0] [(2,rh (cU .u16) 0 out)] [] 65 (pc (Eq.refl out.length) (pc (z1 out.length) (pc (eZ (cU .u16) 0 out) pn))) [] pn
theorem Mv (N n r) (h:Bw N n=some r):Sd 80 [(wD n)] [] 0 (fP r) []:=by
 unfold Bw at h;refine sO Tryz.f80 15 fun E a=>?_;refine ax a 1 (kp [0]) [] 16 <| ax a 1 (kp [0,3]) [] 32 <| cY a 3 (kp [0] ++ [(3,.tD 0)]) [(0,.nil 1 (fun zi=>(cU .u16) (([]:List Int).getD zi 0)))] 1 (P6 N N _ _ _ h E a)
theorem ZP (N n r) (h:VC N n=some r):Sd 35 [(aI n)] [] 0 (dM r) []:=by
 unfold VC at h;refine sO Tryz.f35 16 fun E a=>?_;refine ax a 1 (kp [0,2]) (kq [0]) 16 <| ax a 2 XF (kq [0]) 48 <| dr 0 4 h (fun c h=>?_) (fun c h=>?_)
 ·obtain ⟨b,d,h⟩:=aW h;refine bK a 1 [(5,oT (fP b))] (kp [2]) (kq [0]) 176 (pc (Mv _ _ _ d) (pc o1 pn)) ?_;cases h;exact mh a 0 Tryz.f35 [] (kp [2]) [(16,.ak 0)] 176 pn [16] (pc o1 pn)
 ·obtain ⟨e,f,h⟩:=aW h;refine bK a 2 [(2,oT (fP e))] (kp [2]) (kq [0]) 128 (pc (Mv _ _ _ f) (pc o1 pn)) ?_;cases h;exact mh a 0 Tryz.f35 [] (kp [2]) [(16,.ak 0)] 128 pn [16] (pc o1 pn)
theorem kK (N n r) (h:sm N n=some r):Sd 9 [(aI n)] [] 0 (aj r) []:=by
 unfold sm at h;refine sO Tryz.f9 7 fun E a=>?_;refine ax a 1 (kp [0,2]) (kq [0]) 16 ?_;obtain ⟨c,d,h⟩:=aW h;obtain ⟨b,e,h⟩:=aW h;refine bK a 1 [(1,oT (dM c)),(2,oT (dM b))] (kp [2]) (kq [0]) 96 (pc (ZP _ _ _ d) (pc (ZP _ _ _ e) (pc o1 pn))) ?_;cases h;exact mh a 0 Tryz.f9 [] (kp [2]) [(16,.ak 0)] 96 pn [16] (pc o1 pn)
noncomputable abbrev ap8:=bt Tryz.f54
def ZQ (N:Nat) (l:List Int) (K:bh->Int->Option CS):Prop:=∀ (out:List ab) (i:Int) (r:bh),K out i=some r->∀ E,ba E 0->aK Tryz.prog E 54 20 (bd E [] (yK r)) [.code (ap8 116),.inLoop (ap8 116),.inBlock 0,.code (ap8 15)] ⟨[(yJ l),(3,(.os 0 0 out.length)),(4,(aI i))],[(Ib out)],1⟩
theorem Yb (N l fuel):ZQ N l (wv N l fuel):=by
 induction fuel with
 | zero=>intro _ _ r h;rw [wv.eq_1] at h;cases h
 | succ fuel d =>
  intro out i r h E b;rw [wv.eq_2] at h;refine ax b 2 (kp [0,3,4,8]) (kq [0]) 65 <| dr 0 8 h (fun e h=>?_) (fun e h=>?_)
  ·obtain ⟨c,h⟩:=ae h;obtain ⟨a,f,h⟩:=aW h;obtain ⟨g,h⟩:=ae h;refine bK b 3 [(5,oT (aj a))] (kp [0] ++ [(3,.l5 (Ml out a))] ++ kp [4]) [(177,ri 177 bH ab.d (Mk out a))] 209 (pc c (pc (kK _ _ _ f) (pc (Eq.refl out.length) (pc g (pc (z1 1) (pc (oN [[(kU a),(kW a),(kT a),(kV a)]]) (pc (bL out (mc a)) (pc (bL out (mc a)) (pc (LR bH ab.d out (mc a)) pn))))))))) <| ax b 1 B4 (kq [177]) 257 <| cY b 1 B4 [(0,.ak 177)] 1 (d _ _ _ h E b)
  ·refine ax b 2 (kp [2]) (kq [0]) 97 ?_;obtain rfl:=jS h;exact mh b 0 Tryz.f54 [0] [(2,rh bH ab.d out)] [] 97 (pc (Eq.refl out.length) (pc (z1 out.length) (pc (eZ bH ab.d out) pn))) [] pn
end Go.Den
