/- Each function of the program does what its Lean function computes (part 1). No conditions. -/
import Derived.Test.YtkejjbiabpdhjaaGreatTopCriticalPathDen
import Derived.Test.YtkejjbiabpdhjaaGreatProg
set_option linter.unusedVariables false
set_option maxRecDepth 100000
namespace Go.Den
open Go.Ab Go.Proofs Go.Ab.ar
abbrev Sd:=Sound Tryz.prog
abbrev eU (a:List Int):AV:=bJ (cU .u16) 0 a
abbrev aU (a:List Int):Ob:=aO 1 (cU .u16) 0 a
abbrev a64 (x:Int):AV:=.atom (.int .u64 x)
abbrev a32 (x:Int):AV:=.atom (.int .u32 x)
abbrev a16 (x:Int):AV:=.atom (.int .u16 x)
abbrev oT (x:AV):qE:=⟨[],true,x,[],0,false,none⟩
abbrev oF (x:AV):qE:=⟨[],false,x,[],0,false,none⟩
abbrev aZ (n:Nat) (g:Nat->List AV):∀ i,i < n->g i=g (da 0 i):=fun _ _=>rfl
abbrev mG (C:List (List aa)):Nat->List AV:=fun a=>mR 4 dY aa.d (C.getD a [])
theorem mC (C:List (List aa)) (l:List (Nat×Nat×Nat)):∀ a,a < C.length->au l (mG C) a=au l (mG C) a:=fun _ _=>rfl
theorem iM (C:List (List aa)):∀ a,a < C.length->dA (mG C a)=true:=fun _ _=>rfl
theorem lk {α:Type} {a b:α} (h:some a=some b):a=b:=Option.some.inj h
def aqr (p:Nat->Prop):Nat->Prop
 | 0=>True
 | n+1=>aqr p n/\p n
theorem js {p:Nat->Prop}:{n:Nat}->aqr p n->∀ i,i < n->p i
 | 0,_,_,h=>absurd h (dX _)
 | n+1,h,i,hi=>if e:i=n then e ▸ h.2 else js h.1 i (Nat.lt_of_le_of_ne (Nat.le_of_lt_succ hi) e)
theorem se {P:Program} {E:Env} {fn:FuncId} {nt:Nat} {a:Value->World->Prop} {k:List Item} {st:St} (n t:Nat) (b:ar P E fn nt a (.code (cdX (vu (nK n k))) :: XU (nK n k)) st) (c:Gh n k=true:=by kernel_rfl)
  (d:vu (nK n k)=.cond (.tmp t) (cdX (vu (nK n k))) (cdY (vu (nK n k))):=by kernel_rfl) (e:Bh st.tm (.tmp t)=.atom (.bool true):=by kernel_rfl):ar P E fn nt a k st :=
 b9 n t (q:=true) (x:=()) (y:=()) rfl (fun _ _=>b) (fun h=>by cases h) c d e
theorem ig {P:Program} {E:Env} {fn:FuncId} {nt:Nat} {a:Value->World->Prop} {k:List Item} {st:St} (n t:Nat) (b:ar P E fn nt a (.code (cdY (vu (nK n k))) :: XU (nK n k)) st) (c:Gh n k=true:=by kernel_rfl)
  (d:vu (nK n k)=.cond (.tmp t) (cdX (vu (nK n k))) (cdY (vu (nK n k))):=by kernel_rfl) (e:Bh st.tm (.tmp t)=.atom (.bool false):=by kernel_rfl):ar P E fn nt a k st :=
 b9 n t (q:=false) (x:=()) (y:=()) rfl (fun h=>by cases h) (fun _ _=>b) c d e
abbrev agK (a:uT) (b:List aa):=!((a.oI.length:Int) != (b.length:Int))
abbrev ak9 (a:(List Int)):=!((a.length:Int) != 1)
abbrev Im (a:Bool) (b:Bool):=!(cond (!a) true (!b))
abbrev BS (a:aq):=(a.ab.length:Int)
abbrev ala (a:Bool) (b:aq):=!(cond (!a) true ((BS b) == 0))
abbrev X5 (a:Bool) (b:Bool) (c:Bool):=!(cond (cond (!a) true (!b)) true (!c))
abbrev alb (b:Bool) (a:aq):=!(cond (cond (!b) true ((BS a) == 0)) true (decide ((BS a) > 5)))
abbrev agL (a:(List aa)×aa×Bool) (b:Bool) (c:Int):=!(cond (cond (!a.2.2) true (!b)) true (c != 0))
abbrev alc (a:uT×Int) (b:(List Int)×Int×Int) (c:dH×Int):=!(cond (cond (a.2 != 0) true (b.2.2 != 0)) true (c.2 != 0))
abbrev Vl (a:aq):=(a.bu.length:Int)
abbrev agM (a:aq):=cond (decide ((Vl a) > 8)) true (decide ((a.bm.length:Int) > 14))
abbrev agN (a:aq):=cond (agM a) true (decide ((a.bK.length:Int) > 32))
abbrev agO (a:aq):=cond (agN a) true (decide ((a.cO.length:Int) > 22))
abbrev ald (a:aq) (b:Int):=!(cond (agO a) true (cond (decide ((BS a) > b)) (decide ((BS a)<=40)) false))
abbrev Vm (a:aq) (b:Int):=a.ab.getD b.toNat bq.d
abbrev Vn (a:aq) (b:Int):=(Vm a b).cl
abbrev agP (a:aq) (b:Int):=cond (decide ((((Vn a b).size:Nat):Int) > 40)) true (decide (((((Vm a b).eO).size:Nat):Int) > 40))
abbrev agQ (a:aq) (b:Int):=cond (agP a b) true (decide (((((Vm a b).gn).size:Nat):Int) > 40))
abbrev QE (a:aq) (b:Int):=Vm a b
abbrev agR (a:aq) (b:Int):=cond (agQ a b) true (decide (((((QE a b).aP).length:Nat):Int) > 6))
abbrev ale (a:aq) (b:Int):=!(cond (agR a b) true (decide (((((QE a b).a9).length:Nat):Int) > 12)))
abbrev aav (a:aq):=!(agO a)
abbrev X6 (a:aq):=aav a
abbrev acC (a:aq) (b:Int):=!(agR a b)
abbrev acD (a:aq):=!(agN a)
abbrev acE (a:aq) (b:Int):=!(agQ a b)
abbrev agS (a:ByteArray) (b:Int):=cond (decide ((zA a b)>=97)) (decide ((zA a b)<=122)) false
abbrev Vo (a:ByteArray) (b:Int):=decide ((zA a b)>=65)
abbrev aaw (a:ByteArray) (b:Int):=!(cond (agS a b) true (cond (Vo a b) (decide ((zA a b)<=90)) false))
abbrev Ue (a:ByteArray) (b:Int):=aaw a b
abbrev acF (a:bq) (b:Int):=!(cond (decide ((a.aP.getD b.toNat eV.d).fg < 1)) true (decide ((a.aP.getD b.toNat eV.d).fg > 60)))
abbrev acG (a:aq):=!(agM a)
abbrev acH (a:aq) (b:Int):=!(agP a b)
abbrev agT (a:aq) (b:Int):=decide (((((a.bm.getD b.toNat dj.d).cl).size:Nat):Int) > 40)
abbrev QF (a:aq) (b:Int):=!(cond (agT a b) true (decide (((((a.bm.getD b.toNat dj.d).jg).length:Nat):Int) > 20)))
abbrev aax (a:ByteArray) (b:Int):=!(agS a b)
abbrev Uf (a:ByteArray) (b:Int):=aax a b
abbrev Vp (a:dH×Int):=dZ a.1.eO ByteArray.empty
abbrev agU (a:dH×Int) (b:(List Int)×Int×Int):=!(cond (Vp a) (a.1.fg != b.2.1) false)
abbrev Jb (a:List Int):=(a.length:Int)
abbrev QG (a:Int) (b:List Int):=decide (a < (Jb b))
abbrev X7 (a:Int) (b:List Int):=!(QG a b)
abbrev agV (a:bq) (b:Int):=!(decide ((a.aP.getD b.toNat eV.d).fg < 1))
abbrev NM (a:bq):=!(decide ((a.aP.length:Int) < 1))
abbrev acI (a:aq):=!(decide ((Vl a) > 8))
abbrev Ug (a:ByteArray):=!(decide ((a.size:Int) < 1))
abbrev acJ (a:aq) (b:Int):=!(decide ((((Vn a b).size:Nat):Int) > 40))
abbrev QH (a:aq) (b:Int):=!(agT a b)
abbrev Gu (a:bq):=!(dZ a.gn ByteArray.empty)
abbrev aay (a:aq) (b:Int):=([(QE a b).cl]:List ByteArray)
abbrev agW (a:List ByteArray) (b:aq) (c:Int):=a ++ (aay b c)
abbrev acK (a:List Int) (b:Int):=a ++ ([(IntKind.u16.wrap b)]:List Int)
abbrev Vq (a:Int) (b:Int):=([(aR ((aR (2 * a))+b))]:List Int)
abbrev Uh (a:List Int) (b:Int) (c:Int):=a ++ (Vq b c)
abbrev aaz (a:aq):=aR ((a.ab.length:Int)+1)
abbrev agX (a:aq):=(List.replicate ((aaz a).toNat) aa.d:List aa)
abbrev agY (a:aq) (b:Int) (c:aa):=(agX a).set b.toNat c
abbrev agZ (a:aq) (b:Int) (c:aa):=agY a b c
abbrev ag0 (a:aq) (b:Int) (c:aa) (d:aa):=(agY a b c).set a.ab.length d
abbrev ag1 (b:aq) (c:Int) (d:aa) (e:aa) (f:aa) (g:aa) (a:aa):=([(⟨(agZ b c d),e⟩:a8),(⟨(ag0 b c f g),a⟩:a8)]:List a8)
abbrev amy (c:List a8) (d:aq) (e:Int) (f:aa) (g:aa) (h:aa) (a:aa) (b:aa):=c ++ (ag1 d e f g h a b)
abbrev wY (a:List Int) (b:Int):=a.getD b.toNat 0
abbrev wM (a:List Int) (b:Int):=wY a b
abbrev vW (a:List (List aa)) (b:Int):=a.getD b.toNat []
abbrev kR (a:List (List aa)) (b:Int):=vW a b
abbrev vX (a:List (List Int)) (b:Int):=a.getD b.toNat []
abbrev X8 (a:List (List Int)) (b:Int) (c:Int):=a.set b.toNat ((vX a b) ++ ([c]:List Int))
abbrev Mi (a:List Int) (b:Int):=IntKind.u32.wrap ((wY a b))
abbrev ag2 (a:List Int) (b:Int) (c:Int) (d:Int):=IntKind.u16.wrap ((IntKind.u32.wrap ((IntKind.u32.wrap ((Mi a b)+(BP .u32 c 16))) - d)))
abbrev amz (b:List Int) (a:Int) (c:List Int) (d:Int) (e:Int):=b.set a.toNat (ag2 c a d e)
abbrev ag3 (a:Int) (b:List Int) (c:Int) (d:Int):=IntKind.u16.wrap ((IntKind.u32.wrap ((Tc .u32 (BP .u32 a 16) (Mi b c)).tdiv (IntKind.u32.wrap d))))
abbrev amA (b:List Int) (a:Int) (c:Int) (d:List Int) (e:Int):=b.set a.toNat (ag3 c d a e)
abbrev ag4 (a:List Int) (b:Int) (c:Int):=IntKind.u16.wrap ((zY .u32 (Tc .u32 (Mi a b) (BP .u32 (IntKind.u32.wrap ((a.getD ((aR (b+1)).toNat) 0))) 16)) c))
abbrev amB (b:List Int) (a:Int) (c:List Int) (d:Int):=b.set a.toNat (ag4 c a d)
abbrev Vr (a:List Int) (b:Int) (c:Int):=BP .u32 (IntKind.u32.wrap ((wY a b))) c
abbrev ag5 (b:List Int) (a:Int) (c:List Int) (d:Int):=b.set a.toNat (Tc .u16 (wY b a) (IntKind.u16.wrap ((Vr c a d))))
abbrev X9 (a:List Int) (b:Int) (c:List Int) (d:Int):=ag5 a b c d
abbrev Gw (a:(List Int)) (b:Int):=(a.getD b.toNat 0).toNat
abbrev ag6 (a:List Int) (d:(List (List Int))) (b:(List Int)) (c:Int) (e:Int) (f:Int×Int):=if (aR ((a.getD (((d.getD (Gw b c) []).getD e.toNat 0).toNat) 0)+f.1)) > (a.getD (Gw b c) 0) then (aR ((a.getD (((d.getD (Gw b c) []).getD e.toNat 0).toNat) 0)+f.1)) else (a.getD (Gw b c) 0)
abbrev amC (a:List Int) (b:(List Int)) (c:Int) (d:(List (List Int))) (e:Int) (f:Int×Int):=a.set (Gw b c) (ag6 a d b c e f)
abbrev uA (a:Int) (b:Int):=(aR (a+b)).toNat
abbrev ag7 (c:Int) (d:List Int) (a:Int) (e:List Int) (b:Int) (f:List Int):=IntKind.u16.wrap ((IntKind.u32.wrap (c+(IntKind.u32.wrap ((IntKind.u32.wrap ((Mi d a) * (Mi e b)))+(IntKind.u32.wrap ((f.getD ((aR (a+b)).toNat) 0))))))))
abbrev amD (a:List Int) (b:Int) (c:Int) (d:Int) (e:List Int) (f:List Int):=a.set (uA b c) (ag7 d e b f c a)
abbrev wN (a:List aa) (b:Int) (c:aa):=a.set ((aR (2 * b)).toNat) c
abbrev acL (a:aq) (b:Int):=(aav a) && ((aav a) && (decide ((BS a) > b)))
abbrev aaA (b:ByteArray) (a:Int):=(aaw b a) && ((aaw b a) && (!(a == 0)))
abbrev Ui (a:ByteArray) (b:Int):=aaA a b
abbrev acM (a:ByteArray) (b:Int):=(aax a b) && ((aax a b) && (Vo a b))
abbrev yl (a:Int):=!(decide (a < 0))
abbrev Fj (a:Int):=(yl a) && ((yl a) && (a == 0))
abbrev ag8 (a:List ByteArray) (b:aq) (c:Int):=(a ++ (aay b c)).length
abbrev Ya (a:Int) (b:List (List aa)):=(a.toNat,199,(vW b a).length)
abbrev NN (a:Int) (b:List (List aa)):=(a.toNat,214,(vW b a).length)
abbrev ag9 (a:Int) (b:List (List Int)) (c:Int):=(a.toNat,241,((vX b a) ++ ([c]:List Int)).length)
abbrev Yb (a:Int) (b:List (List aa)):=(a.toNat,263,(vW b a).length)
abbrev Yc (a:Int) (b:List (List aa)):=(a.toNat,312,(vW b a).length)
abbrev Br (a:Int) (b:List (List aa)):=(a.toNat,55,(vW b a).length)
abbrev cG (a:Int) (b:List aa):=(a.toNat,6,b.length)
abbrev Yd (a:Int) (b:List (List aa)):=(a.toNat,6,(vW b a).length)
abbrev Bs (a:Int) (b:List aa) (c:Int) (d:aa):=(a.toNat,6,(b.set c.toNat d).length)
abbrev NO (a:(List Int)) (b:Int):=Gw a b
abbrev NP (a:List (List Int)) (b:Int) (c:Int):=(vX a b) ++ ([c]:List Int)
abbrev mN (a:List (List aa)) (b:Int):=(vW a b).length
abbrev u5 (a:List aa) (b:Int) (c:aa):=(a.set b.toNat c).length
abbrev acN (a:List Int) (b:Int) (c:Int):=(a.set b.toNat (wY a c)).set c.toNat (wY a b)
abbrev amE (d:List Int) (a:Int) (b:List Int) (c:Int):=(ag5 d a b c).set ((aR (a+1)).toNat) (IntKind.u16.wrap ((zY .u32 (Vr b a c) 16)))
abbrev aaB (a:ByteArray) (b:Int):=(aaA a b) && ((aaA a b) && ((zA a b) != 45))
abbrev Uj (a:ByteArray) (b:Int):=aaB a b
abbrev acO (a:List (List aa)) (b:Int) (c:Int):=((vW a b).getD c.toNat aa.d).fD
abbrev acP (a:List (List aa)) (b:Int) (c:Int):=((vW a b).getD c.toNat aa.d).fN
abbrev acQ (a:ByteArray) (b:Int):=(aaB a b) && ((aaB a b) && (!(decide ((zA a b) < 48))))
abbrev aha (a:aq) (b:Int) (c:aa) (d:aa):=ag0 a b c d
abbrev amF (a:aq) (b:Int) (c:aa) (d:aa):=(aha a b c d).length
abbrev ahb (a:aq):=agX a
abbrev ahc (a:aq) (b:aa):=(ahb a).set a.ab.length b
abbrev ahd (a:aq) (b:aa):=(ahc a b).length
abbrev Vs (a:aq) (b:Int) (c:aa):=agZ a b c
abbrev amG (a:aq) (b:Int) (c:aa):=(Vs a b c).length
abbrev NQ (a:aq) (b:Int) (c:aa) (d:aa):=aha a b c d
abbrev IG (a:aq) (b:Int) (c:aa) (d:Int) (e:aa):=(Vs a b c).set d.toNat e
abbrev ahe (a:List Int) (b:Int):=(([]:List Int) ++ ((a.take b.toNat).drop 0)).length
abbrev Fk:=(List ByteArray)
abbrev QI:=(List Int)×(List Int)
abbrev acR:=(List Int)×Int
abbrev kI:=(List Int)
abbrev Jc:=List aa
abbrev acS:=Jc×aa×Bool
abbrev Gx:=Jc
abbrev Vt (a:List Int):=(List.replicate a.length 0:List Int)
abbrev ahf (a:List Int):=(Vt a).length
abbrev Vu (a:Int):=(List.replicate a.toNat aa.d:List aa)
abbrev aaC (a:Int):=(Vu a).length
abbrev acT (a:Int):=aaC a
abbrev aaD (a:aq):=ahb a
abbrev NR (a:aq):=(aaD a).length
abbrev ahg (a:aq) (b:aa):=ahc a b
abbrev NS (a:aq) (b:Int) (c:aa):=Vs a b c
abbrev aaE (a:Int):=(List.replicate ((aR ((aR (2 * a))+1)).toNat) aa.d:List aa)
abbrev acU (a:Int):=(aaE a).length
abbrev NT (a:List Int):=([]:List Int) ++ a
abbrev QJ (a:List Int) (b:Int):=([]:List Int) ++ ((a.take b.toNat).drop 0)
abbrev CY (a:Int) (b:Int):=(decide (a < 0)) && ((decide (a < 0)) && (yl b))
abbrev CZ (a:Int) (b:Int):=(decide (a < 65536)) && ((decide (a < 65536)) && (!(decide (b > 65535))))
abbrev Fl (a:Int) (b:Int):=(decide (a > 0)) && ((decide (a > 0)) && (yl b))
abbrev Uk (a:List aa) (b:Int) (c:Int):=(vv a b.toNat c.toNat).take ((b.toNat - 0)+(a.length - c.toNat))
abbrev QK (a:Int) (b:List Int) (c:Int):=(a.toNat - 0)+(b.length - c.toNat)
abbrev Ul (a:List Int) (b:Int) (c:Int):=(vv a b.toNat c.toNat).take (QK b a c)
abbrev wZ (a:List Int):=Jb a
abbrev Ye (a:Int) (b:List Int):=(aR (a+(wZ b))).toNat
abbrev KB (a:Int):=(aR (a+1)).toNat
abbrev Fm (a:aq):=(aaz a).toNat
abbrev aaF (a:List Int) (b:List Int):=aR ((Jb a)+(Jb b))
abbrev ahh (a:List Int) (b:List Int):=(aaF a b).toNat
abbrev QL (a:List Int):=aR ((Jb a)+1)
abbrev ahi (a:List Int):=(QL a).toNat
abbrev QM (a:List Int):=(((a.length - 0):Nat):Int)
abbrev aaG (a:(List Int)) (b:List Int):=aR ((a.length:Int) - (QM b))
abbrev ahj (a:(List Int)) (b:List Int):=(aaG a b).toNat
abbrev KC (a:List Int):=(aR ((wZ a) - 1)).toNat
abbrev Yf (b:List Int) (a:Int) (c:Int) (d:List Int) (e:Int) (f:Int):=(aR ((aR ((b.getD (uA a c) 0)+(aR ((wY d a) * e))))+f)).tmod 65536
abbrev aaH (a:List Int) (b:List Int):=aR ((aR ((Jb a)+(Jb b)))+1)
abbrev aaI (a:List Int) (b:List Int):=(aaH a b).toNat
abbrev Mj (a:Int):=(aR ((aR (2 * a))+1)).toNat
abbrev QN (a:dH):AV:=.agg (dH.cells a)
abbrev bO (a:eN):AV:=.agg (TIc a)
abbrev aA (a:aa):AV:=.agg (dY a)
abbrev mJ (a:aq):AV:=.agg (aq.cells a)
abbrev Gy (a:Int×(List Int)):AV:=.atom (.int .u16 a.1)
abbrev Vv (a:Int):AV:=.atom (.int .u16 (IntKind.u16.wrap a))
abbrev Ef (a:Int):AV:=.atom (.int .u32 a)
abbrev uB (a:Int):AV:=.atom (.int .u64 a)
abbrev nb (a:List Int):AV:=.os 0 0 a.length
abbrev Jd (a:ml):AV:=.os 1 0 a.H0.length
abbrev mK (a:List Int):AV:=.os 1 0 a.length
abbrev Je (a:ml):AV:=.os 2 0 a.Qi.length
abbrev uC (a:List Int):AV:=.os 2 0 a.length
abbrev Vw (a:List Int) (b:Int) (c:List a8):=a ++ ([(aR ((aR (2 * b))+(c.length:Int)))]:List Int)
abbrev Vx (a:List Int) (b:Int) (c:List a8):AV:=.os 2 0 ((Vw a b c).length)
abbrev tq (a:List (List aa)):AV:=.os 3 0 a.length
abbrev sf (a:List aa):AV:=.os 4 0 a.length
abbrev Jf (a:ml):AV:=.os 5 0 a.rP.length
abbrev Mk (a:List aa):AV:=.os 5 0 a.length
abbrev Gz (a:List (List aa)) (b:Int):AV:=.os 55 0 ((vW a b).length)
abbrev po (a:List aa):AV:=.os 6 0 a.length
abbrev aaJ (a:Int) (b:List ByteArray):AV:=.sl (a.toNat - 0) (fun zi=>cS (b.getD (da 0 zi) ByteArray.empty))
abbrev Vy (a:dH×Int):AV:=.tup [(.agg (dH.cells a.1)),(aI a.2)]
abbrev Vz (a:Int×Bool):AV:=.tup [(a64 a.1),(aB a.2)]
abbrev Jg (a:Int×Int):AV:=.tup [(aI a.1),(aI a.2)]
abbrev aaK (a:(List Int)×Int):AV:=.tup [(eU a.1),(a16 a.2)]
abbrev Ml (a:(List Int)×(List Int)):AV:=.tup [(eU a.1),(eU a.2)]
abbrev QO (a:(List aa)×aa×Bool):AV:=.tup [(bJ dY aa.d a.1),(.agg (dY a.2.1)),(aB a.2.2)]
abbrev VA (a:(List Int)×Int):AV:=.tup [(bJ cI 0 a.1),(aI a.2)]
abbrev Jh (a:(List Int)×(List Int)):AV:=.tup [(bJ cI 0 a.1),(bJ cI 0 a.2)]
abbrev uD (a:List Int):=(0,(bJ cI 0 a))
abbrev Ji (a:List ByteArray):=(0,(bJ cS ByteArray.empty a))
abbrev Jj (a:List aa):=(0,aO 4 dY aa.d a)
abbrev BT (a:(List aa)):=(0,aO 4 dY aa.d a)
abbrev VC (a:List aa) (b:Int) (c:aa):=(0,ru 0 dY aa.d (a.set b.toNat c))
abbrev vY (a:Int):=(0,vO 1 [(aI a)])
abbrev GA (a:List aa):=(0,vO 1 [(bJ dY aa.d a)])
abbrev GB (a:List ByteArray):=(0,vO 1 [(bJ cS ByteArray.empty a)])
abbrev eI (a:aq):=(0,vO 9 (aq.cells a))
abbrev Ad (a:List Int):=(1,(bJ cI 0 a))
abbrev ba (a:List Int):=(1,aO 1 cI 0 a)
abbrev Jk (a:ml):=(1,aO 1 cI 0 a.H0)
abbrev ym (a:List aa):=(1,aO 4 dY aa.d a)
abbrev yn (a:List ByteArray):=(1,vO 1 [(bJ cS ByteArray.empty a)])
abbrev Jl (a:List aa):=(12,(aI (a.length:Int)))
abbrev aaL (a:Int):=aI (((Vu a).length:Nat):Int)
abbrev ahk (a:Int):=(12,(aaL a))
abbrev ahl (a:Int):=(13,(aaL a))
abbrev Jm (a:List Int):=(14,(aI (wZ a)))
abbrev aaM (a:List ByteArray) (b:ByteArray):=(161,ru 161 cS ByteArray.empty (a ++ ([b]:List ByteArray)))
abbrev dL (a:List Int):=(2,aO 1 cI 0 a)
abbrev Jn (a:ml):=(2,aO 1 cI 0 a.Qi)
abbrev VD (a:List Int) (b:Int) (c:List a8):=(2,aO 1 cI 0 (Vw a b c))
abbrev QP (a:(List Int)):=(22,(aI (a.length:Int)))
abbrev QQ:=fun x=>[bJ cI 0 x]
abbrev QR (a:(List (List Int))):=(3,(bJ QQ [] a))
abbrev dQ (a:List (List aa)):=(3,aM 4 dY aa.d a)
abbrev Eg (a:ml×(List Int)×(List Int)×(List (List aa))×(List aa)×(List aa)):=(3,aM 4 dY aa.d a.2.2.2.1)
abbrev Eh (a:Bool×ml×(List Int)×(List Int)×(List (List aa))×(List aa)):=(3,aM 4 dY aa.d a.2.2.2.2.1)
abbrev Jo (a:ml):=(3,aM 4 dY aa.d a.f_a)
abbrev QS (a:(List (List Int))):=(4,(bJ QQ [] a))
abbrev dn (a:List aa):=(4,aO 4 dY aa.d a)
abbrev Ei (a:ml×(List Int)×(List Int)×(List (List aa))×(List aa)×(List aa)):=(4,aO 4 dY aa.d a.2.2.2.2.1)
abbrev Ej (a:Bool×ml×(List Int)×(List Int)×(List (List aa))×(List aa)):=(4,aO 4 dY aa.d a.2.2.2.2.2)
abbrev Jp (a:ml):=(4,aO 4 dY aa.d a.f_b)
abbrev VE (a:List Int):=(5,(aI (wZ a)))
abbrev fa (a:List aa):=(5,aO 4 dY aa.d a)
abbrev QT (a:ml×(List aa)):=(5,aO 4 dY aa.d a.2)
abbrev Ek (a:ml×(List Int)×(List Int)×(List (List aa))×(List aa)×(List aa)):=(5,aO 4 dY aa.d a.2.2.2.2.2)
abbrev Jq (a:ml):=(5,aO 4 dY aa.d a.rP)
abbrev si (a:List aa):=(6,aO 4 dY aa.d a)
abbrev GC (a:(List aa)):=(6,aO 4 dY aa.d a)
abbrev GD (a:Bool×ml×(List Int)×(List Int)×(List (List aa))×(List aa)):=(6,aO 4 dY aa.d a.2.1.rP)
abbrev VF (a:List Int):=(7,(aI (wZ a)))
abbrev aaN:=List (List aa)
abbrev Jr:=Bool×ml×(List Int)×(List Int)×aaN×Jc
abbrev Mm:=Int×(List Int)
abbrev VG:=Int×aa
abbrev QU:=VG
abbrev GF (a:Int):=IntKind.u16.wrap a
abbrev aaO (b:Int) (c:List Int) (d:Nat) (a:Int) (e:List Int):=IntKind.u16.wrap ((IntKind.u32.wrap (b+(IntKind.u32.wrap ((IntKind.u32.wrap ((c.getD (da d a.toNat) 0)))+(Mi e a))))))
abbrev aaP (a:Int) (b:List Int) (c:Int) (d:List Int) (e:Int) (f:List Int):=ag7 a b c d e f
abbrev aaQ (a:List Int) (b:Int) (c:Int) (d:Int):=ag2 a b c d
abbrev aaR (a:Int) (b:List Int) (c:Int) (d:Int):=ag3 a b c d
abbrev aaS (a:List Int) (b:Int) (c:Int):=ag4 a b c
abbrev aaT (a:List Int) (b:Int) (c:Int):=IntKind.u16.wrap ((zY .u32 (Vr a b c) 16))
abbrev aaU (a:List Int) (b:Nat) (c:Int) (d:Int) (e:Int):=IntKind.u16.wrap ((aR ((aR ((aR ((a.getD (da b c.toNat) 0))) - (aR ((XT .u64 d 65535)))))+e)))
abbrev n6:=List (List Int)
abbrev n7:=aaN
abbrev qy:=List ByteArray
abbrev aN:=Jc
abbrev GG:=List a8
abbrev VH (a:(List Int)×(List Int)):=(List.replicate a.2.length aa.d:List aa)
abbrev VI (a:(List (List Int))):=(List.replicate a.length 0:List Int)
abbrev VJ (a:(List ByteArray)):=(List.replicate a.length []:List (List Int))
abbrev VK (a:Int):=Vu a
abbrev tu (a:aq):=aaD a
abbrev ahm (a:List Int) (b:List Int):=(List.replicate ((aaF a b).toNat) 0:List Int)
abbrev ahn (a:List Int):=(List.replicate ((QL a).toNat) 0:List Int)
abbrev aho (a:(List Int)) (b:List Int):=(List.replicate ((aaG a b).toNat) 0:List Int)
abbrev ahp (a:List Int) (b:List Int):=(List.replicate ((aaH a b).toNat) 0:List Int)
abbrev aaV (a:Int):=aaE a
abbrev BU (a:bq):=bq.cells a
abbrev yp (a:aa):=dY a
abbrev oz:=(aa.d:aa)
abbrev Js:=ml×(List Int)×(List Int)×aaN×Jc×Jc
abbrev Mn:=ml×Jc
abbrev GH:=ml
abbrev El (a:ByteArray):=([a]:List ByteArray)
abbrev rf (a:Int):=([a]:List Int)
abbrev Mo (a:aq) (b:Int):=aay a b
abbrev QV (a:Int) (b:Int) (c:Int):=([((aR ((aR (a+b))+c)).tmod 65536)]:List Int)
abbrev Jt (a:Int):=([(IntKind.u16.wrap a)]:List Int)
abbrev QW (a:List Int) (b:Int):=([(IntKind.u16.wrap ((wY a b)))]:List Int)
abbrev QX (a:Int):=([(IntKind.u16.wrap ((XT .u64 a 65535)))]:List Int)
abbrev QY (a:List Int) (b:Int):=([(aR ((wY a b)))]:List Int)
abbrev QZ (a:Int):=([(aR ((a.tmod 65536)))]:List Int)
abbrev aaW (a:Int) (b:List a8):=([(aR ((aR (2 * a))+(b.length:Int)))]:List Int)
abbrev Q1 (a:aq) (b:Int) (c:aa) (d:Int) (e:aa) (f:aa):=([(⟨((Vs a b c).set d.toNat e),f⟩:a8)]:List a8)
abbrev aaX (b:aq) (c:Int) (d:aa) (e:aa) (f:aa) (g:aa) (a:aa):=ag1 b c d e f g a
abbrev Ju (a:ml):=aB a.ax.fD.fG
abbrev Jv (a:ml):=aB a.ax.fN.fG
abbrev Mp (a:aq):=aI (BS a)
abbrev Q2 (a:List ByteArray):=aI (a.length:Int)
abbrev yq (a:List a8):=aI (a.length:Int)
abbrev GI (a:List Int):=aI (wZ a)
abbrev Q3 (a:List aa):=aI (a.length:Int)
abbrev Mq (a:Int) (b:List a8):=aI (aR ((aR (2 * a))+(b.length:Int)))
abbrev aaY:=aS (⟨#[119]⟩:ByteArray)
abbrev eS:=aaY
abbrev aaZ:=aS (⟨#[97]⟩:ByteArray)
abbrev fh:=aaZ
abbrev fj:=aS ByteArray.empty
abbrev BV (a:Int):=decide (a>=0)
abbrev Jw (a:List Int):=decide ((wZ a) > 0)
abbrev VL (a:ByteArray) (b:Int):=decide ((zA a b)>=97)
abbrev eJ (a:(List Int)):=eU a
abbrev b8 (a:List Int):=eU a
abbrev Q4 (a:ml×(List aa)):=eU a.1.ax.fD.fL
abbrev Em (a:ml×(List Int)×(List Int)×(List (List aa))×(List aa)×(List aa)):=eU a.1.ax.fD.fL
abbrev En (a:ml×(List Int)×(List Int)×(List (List aa))×(List aa)×(List aa)):=eU a.1.ax.fN.fL
abbrev Q5 (a:ml×(List aa)):=eU a.1.ax.fN.fL
abbrev GJ (a:Bool×ml×(List Int)×(List Int)×(List (List aa))×(List aa)):=eU a.2.1.ax.fD.fL
abbrev GK (a:Bool×ml×(List Int)×(List Int)×(List (List aa))×(List aa)):=eU a.2.1.ax.fN.fL
abbrev BW (a:aa):=eU a.fD.fL
abbrev BX (a:aa):=eU a.fN.fL
abbrev Jx (a:ml):=eU a.ax.fD.fL
abbrev Jy (a:ml):=eU a.ax.fN.fL
abbrev VM (a:List (List Int)):=bJ QQ [] a
abbrev Jz (a:(List (List Int))):=bJ QQ [] a
abbrev VN (a:aq):=bJ bq.cells bq.d a.ab
abbrev rh (a:List aa):=bJ dY aa.d a
abbrev VO (a:(List a8)):=bJ Zv a8.d a
abbrev qz (a:List a8):=bJ Zv a8.d a
abbrev uE (a:List ByteArray):=bJ cS ByteArray.empty a
abbrev mb (a:(List ByteArray)):=bJ cS ByteArray.empty a
abbrev ahq:=CJ aI (fun x=>.agg (dY x)) ([]:List VG)
abbrev aa0 (a:Int) (b:aa):=D7 (fun c zb=>c == zb) ([]:List VG) a b
abbrev aa1 (a:Int) (b:aa):=CJ aI (fun x=>.agg (dY x)) (aa0 a b)
abbrev aa2 (a:Int) (b:Int) (c:aa):=D7 (fun d zb=>d == zb) ([]:List VG) (aR (a+b)) c
abbrev aa3 (a:Int) (b:Int) (c:aa):=CJ aI (fun x=>.agg (dY x)) (aa2 a b c)
abbrev ahr (a:Int) (b:aa) (c:Int) (d:aa):=CJ aI (fun x=>.agg (dY x)) (D7 (fun e zb=>e == zb) (aa0 a b) (aR (c+a)) d)
abbrev ahs (b:Int) (a:Int) (c:aa) (d:aa):=CJ aI (fun x=>.agg (dY x)) (D7 (fun e zb=>e == zb) (aa2 b a c) a d)
abbrev Mr:=QQ
abbrev aa4:=fun zi=>([[(aI 0),(aI 0),(aB false)]]:List (List AV)).getD zi []
abbrev tv:=aa4
abbrev aht:=fun zi=>([[(aI 0),(aI 1),(aB true)]]:List (List AV)).getD zi []
abbrev n8:=aht
abbrev ahu:=fun zi=>([[(aI 0)]]:List (List AV)).getD zi []
abbrev yr:=ahu
abbrev gk:=fun zi=>([[(aI 3),(aI 1)]]:List (List AV)).getD zi []
abbrev iW:=fun zi=>([[aaY,(aI 1),(aI 0)]]:List (List AV)).getD zi []
abbrev n9:=fun zi=>([[aaY]]:List (List AV)).getD zi []
abbrev Q6:=fun zi=>([[aaZ,(aI 0),(aI 1)]]:List (List AV)).getD zi []
abbrev kJ:=fun zi=>([[aaZ]]:List (List AV)).getD zi []
abbrev Ms:=fun zi=>([]:List (List AV)).getD zi []
abbrev dW:=Ms
abbrev Ae (a:List (List aa)) (b:Int):=fun zi=>dY ((vW a b).getD zi aa.d)
abbrev ahv (a:(List Int)×(List Int)):=fun zi=>dY ((List.replicate a.2.length aa.d:List aa).getD zi aa.d)
abbrev ahw (a:Int):=fun zi=>dY ((Vu a).getD zi aa.d)
abbrev Mt (a:Int):=ahw a
abbrev GL (a:aq):=fun zi=>dY ((aaD a).getD zi aa.d)
abbrev VP (a:Int):=fun zi=>dY ((aaE a).getD zi aa.d)
abbrev ahx:=fun zi=>cI (([]:List Int).getD zi 0)
abbrev GM:=ahx
abbrev Q7:=fun zi=>cS (([]:List ByteArray).getD zi ByteArray.empty)
abbrev aa5 (a:List (List Int)):=fun zi b=>cI ((a.getD zi []).getD b 0)
abbrev GN (a:List (List Int)):=fun b=>mR 1 cI 0 (a.getD b [])
abbrev VQ (a:Int×ml×(List Int)×(List Int)×(List (List aa))×(List aa)×(List aa)):=fun b=>mR 4 dY aa.d (a.2.2.2.2.1.getD b [])
abbrev Af (a:List (List aa)):=fun b=>mR 4 dY aa.d (a.getD b [])
abbrev ai (a:List (List aa)):=Af a
abbrev Eo (a:List (List aa)) (b:List aa) (c:Int) (d:aa):=a ++ [(b.set ((aR (2 * c)).toNat) d)]
abbrev Mv (a:List (List aa)) (b:List aa) (c:Int) (d:aa):=fun e=>mR 4 dY aa.d ((Eo a b c d).getD e [])
abbrev BZ (a:List (List aa)) (b:Int) (c:(List aa)):=fun d=>mR 4 dY aa.d ((a.set b.toNat c).getD d [])
abbrev VR (a:List (List aa)) (b:Int) (c:List aa):=fun d=>mR 4 dY aa.d ((a.set b.toNat c).getD d [])
abbrev aa6 (a:List Int) (b:(List (List Int))) (c:(List Int)) (d:Int) (e:Int) (f:Int×Int):=ag6 a b c d e f
abbrev Mw:=kp [0,1,2,6,7,30,31]
abbrev w5:=kp [0,1,2,7,74,75]
abbrev ahy:=kp [0,1,2,7,9,10,74,75,95]
abbrev Q8:=kp [0,1,2,7,9,10,74,75]
abbrev VS:=kp [0,1,2,7]
abbrev qA:=kp [0,1,2]
abbrev Mx:=kp [0,1,4]
abbrev GO:=kp [0,1,5,13,14]
abbrev Q9:=kp [0,1,5,25,26]
abbrev GP:=kp [0,1,5,6,14,15]
abbrev VT:=kp [0,1,5,6,7,8,9,14,15]
abbrev B0:=kp [0,1,5,6,7,8]
abbrev GQ:=kp [0,1,5,6,7]
abbrev Ag:=kp [0,1,5,6]
abbrev VU:=kp [0,1,5,7,10,11,12,84,85]
abbrev My:=kp [0,1,5,7,14,126,127]
abbrev vZ:=kp [0,1,5,7,8,16]
abbrev oa:=kp [0,1,5,7,8]
abbrev Ra:=kp [0,1,5,7,9,10,84,85]
abbrev mL:=kp [0,1,5]
abbrev Mz:=kp [0,1,6,7,8,9,10]
abbrev w6:=kp [0,1,6,7,8]
abbrev ri:=kp [0,1,7,8,9]
abbrev eD:=kp [0,1,7,8]
abbrev JA:=kp [0,11,12,13,31]
abbrev VV:=kp [0,11,12,13]
abbrev Rb:=kp [0,15,16,17]
abbrev aa7:=kp [0,15,16,53]
abbrev GR:=kp [0,15,16]
abbrev Rc:=kp [0,161,162]
abbrev ahz:=kp [0,1] ++ [(5,.xE 0)] ++ kp [6,7]
abbrev ahA (a:Int):=kp [0,1] ++ [(5,.mM (aaC a))]
abbrev MA:=kp [0,2,13]
abbrev GS:=kp [0,2,14,15,16,17]
abbrev sj:=kp [0,2,14,15,16]
abbrev VW:=kp [0,2,3,4]
abbrev Rd:=kp [0,2,3]
abbrev Re:=kp [0,2,7,14,15,16,28]
abbrev Rf:=kp [0,2,7,8,14,15,16,23]
abbrev Rg:=kp [0,2,7,8,14,15,16]
abbrev Rh:=kp [0,2,9,14,15,16,33]
abbrev Ri:=kp [0,2,9,14,15,16]
abbrev ahB:=kp [0,2] ++ [(3,.xE 1)] ++ kp [4]
abbrev MB:=kp [0,3,12,13]
abbrev B1:=kp [0,3,15,16]
abbrev VX:=kp [0,3,4,15,16]
abbrev aa8:=kp [0,3,4,5,15,16]
abbrev Rj:=kp [0,3,4]
abbrev VY:=kp [0,3,5]
abbrev JB:=kp [0,3,9,10]
abbrev MC:=kp [0,4,5]
abbrev Rk:=kp [0,5,53,54,55]
abbrev aa9:=kp [0,5,8,53,54,55]
abbrev VZ:=kp [0,5,8,9,10,11,53,54,55,77,78]
abbrev V2:=kp [0,5,8,9,53,54,55,77,78]
abbrev MD:=kp [0,7,9,11,12,13,31,87,88]
abbrev ME:=kp [0,8,126,127]
abbrev V3:=kp [0,9,70,71]
abbrev Rl:=kp [1,12,13,14]
abbrev Rm:=kp [1,2,3,4,5,19,20,21]
abbrev V4:=kp [1,2,3,4,5,8,9,12]
abbrev MF:=kp [1,2,3,4,5,8,9]
abbrev v5:=kp [1,2,3,9,12,13]
abbrev JC:=kp [1,2,5,18,19,20]
abbrev aba:=kp [1,2,5,7,8,10,12,13,14,23]
abbrev abb:=kp [1,2,5,7,8,12,13,14,23,25]
abbrev V5:=kp [1,2,5,7,8,12,13,14,23]
abbrev qB:=kp [1,2,5]
abbrev V6:=kp [1,2,7,9,19,20]
abbrev V7:=kp [1,3,4,21,22,23]
abbrev Rn:=kp [1,3,4,5,6,7]
abbrev V8:=kp [1,3,4,5,8]
abbrev uF:=kp [1,3,4,5]
abbrev JD:=kp [1,3,4,7,8,21,22,23,28,29]
abbrev B2:=kp [1,3,4]
abbrev Ro:=kp [1,4,5,6,21,22,23]
abbrev V9:=kp [1,4,5,6,8,21,22,23,30,31,32]
abbrev MG:=kp [1,4,5,6]
abbrev Rp:=kp [1,4,5,9,10,11]
abbrev Wa:=kp [1,5,13,14,15]
abbrev Wb:=kp [1,5,17,18,19]
abbrev Wc:=kp [1,5,6,13,14,15]
abbrev GU:=kp [1,5,6,20,21,22]
abbrev Rq:=kp [1,5,6,7,8,17,18,19,24,25,26]
abbrev We:=kp [1,5,6,7,8,9,13,14,15]
abbrev Rr:=kp [1,5,7,8,9,10]
abbrev Wf:=kp [1,5,7,8,9,13,14,15]
abbrev GV:=kp [1,5,8,9,10,11]
abbrev tw:=kp [1,5,8,9,10]
abbrev abc:=kp [1] ++ [(5,.xE 0)] ++ kp [8,9,10]
abbrev abd (a:List ByteArray) (b:ByteArray):=kp [1] ++ [(5,.mM ((a ++ ([b]:List ByteArray)).length))] ++ kp [8,9,10]
abbrev Rs:=kp [2,3,23,24,25]
abbrev abe:=kp [2,3,4,5,6,7]
abbrev GW:=kp [2,3,4,5,6]
abbrev abf:=kp [2,3,4,7,30,31,32,33]
abbrev MH:=kp [2,3,4,7,30,31,32]
abbrev ahC:=kp [2,3,4,7,9,30,31,32,49]
abbrev sm:=kp [2,3,4]
abbrev Wg:=kp [2,3,5,6]
abbrev Wh:=kp [2,3,7,9,10,11,13,14,15,40]
abbrev JE:=kp [2,3,7,9,10,11,13,14,15]
abbrev Wi:=kp [2,3,8]
abbrev Rt:=kp [2,4,91,92,93]
abbrev abg:=kp [2,5,6,7,8,9,10]
abbrev MI:=kp [2,5,8,9,10,11]
abbrev JF:=kp [2,5,8,9,10]
abbrev Ru:=kp [2,6,8,10,20,21,22]
abbrev MJ:=kp [2,6,8,20,21,22,23]
abbrev Ah:=kp [2,6,8,20,21,22]
abbrev abh:=kp [2,7,8,28,29,30]
abbrev Wj:=kp [2,7,9,11,12,13,29,30,31,44,45,46]
abbrev Rv:=kp [2,7,9,11,29,30,31]
abbrev abi:=kp [3,4,15,16,17,18]
abbrev MK:=kp [3,4,15,16,17]
abbrev ahD:=kp [3,4,5,15,16,17,23,24,25,26]
abbrev ML:=kp [3,4,5,15,16,17,23,24,25]
abbrev GX:=kp [3,4,5]
abbrev JG:=kp [3,5,11,12,13]
abbrev Wk:=kp [4,5,8,9,81,82]
abbrev Wl:=kp [4,8,9,10,11,12]
abbrev Rx:=kp [40,41,42]
abbrev Ry:=kp [5,144,145]
abbrev abj:=kq [0,1,2,3,4,5,6,583]
abbrev yu:=kq [0,1,2,3,4,5,6,7,8]
abbrev abk:=kq [0,1,2,3,4,5,6,71]
abbrev abl:=kq [0,1,2,3,4,5,6,7] ++ [(24,.aj 8)]
abbrev ahE:=kq [0,1,2,3,4,5,6] ++ [(7,.aj 583)]
abbrev ahF:=kq [0,1,2,3,4,5,6] ++ [(7,.aj 71)]
abbrev iu:=kq [0,1,2,3,4,5,6]
abbrev GY:=kq [0,1,2,3,4,5,86]
abbrev ahG:=kq [0,1,2,3,4,5] ++ [(22,.aj 6)]
abbrev abm:=kq [0,1,2,3,4,5] ++ [(6,.aj 86)]
abbrev ahH (a:Int):=kq [0,1,2,3,4,5] ++ [(86,.arz 86 (aaC a) (ahw a))]
abbrev dp:=kq [0,1,2,3,4,5]
abbrev iv:=kq [0,1,2,3,4,6]
abbrev Ep:=kq [0,1,2,3,4]
abbrev Wm:=kq [0,1,2,4,181]
abbrev ahI (a:List (List aa)) (b:Int):=kq [0,1,2] ++ [(3,.AO 3 (a.length) [(b.toNat,214,(vW a b).length)] (Af a))] ++ kq [4,5,182,214]
abbrev abn (a:List (List aa)) (b:Int) (c:List aa):=kq [0,1,2] ++ [(3,.AO 3 (a.length) [(b.toNat,6,c.length)] (Af a))] ++ kq [4,5,6,135]
abbrev ahJ (a:List (List aa)) (b:Int) (c:List aa):=kq [0,1,2] ++ [(3,.AO 3 (a.length) [(b.toNat,6,c.length)] (Af a))] ++ kq [4,5,6,215]
abbrev ahK (a:List (List aa)) (b:Int) (c:List aa):=kq [0,1,2] ++ [(3,.AO 3 (a.length) [(b.toNat,6,c.length)] (Af a))] ++ kq [4,5,6,231]
abbrev MM (a:List (List aa)) (b:Int) (c:List aa):=kq [0,1,2] ++ [(3,.AO 3 (a.length) [(b.toNat,6,c.length)] (Af a))] ++ kq [4,5,6,7]
abbrev MN (a:List (List aa)) (b:Int) (c:List aa):=kq [0,1,2] ++ [(3,.AO 3 (a.length) [(b.toNat,6,c.length)] (Af a))] ++ kq [4,5,6]
abbrev ahL (a:List (List aa)) (b:Int) (c:(List aa)):=kq [0,1,2] ++ [(3,.AO 3 (a.length) [(b.toNat,6,c.length)] (Af a))] ++ kq [4,5,6]
abbrev Wn (a:List aa) (b:Int) (c:aa):=(6,ru 6 dY aa.d (a.set b.toNat c))
abbrev ahM (a:List (List aa)) (e:Int) (b:List aa) (c:Int) (d:aa):=kq [0,1,2] ++ [(3,.AO 3 (a.length) [(e.toNat,6,(b.set c.toNat d).length)] (Af a))] ++ kq [4,5] ++ [(Wn b c d)] ++ kq [7]
abbrev ahN (a:List (List aa)):=kq [0,1,2] ++ [(3,.AO 3 (a.length) [] (Af a))] ++ kq [4,5,6]
abbrev ahO (a:List (List aa)) (b:Int) (c:(List aa)) (d:Int) (e:List aa):=kq [0,1,2] ++ [(3,.AO 3 ((a.set b.toNat c).length) [(d.toNat,6,e.length)] (mG (a.set b.toNat c)))] ++ kq [4,5,6]
abbrev cJ:=kq [0,1,2]
abbrev jU:=kq [0,16,32]
abbrev rj:=kq [0,160]
abbrev Ai:=kq [0,161]
abbrev gS:=kq [0,16]
abbrev Wo:=kq [0,192,193,194,195,196,240]
abbrev w7:=kq [0,32,176,304]
abbrev JH:=kq [0,32]
abbrev MO:=kq [0,49]
abbrev ahP:=kq [0] ++ [(1,.aj 16),(2,.aj 32)]
abbrev ahQ:=kq [0] ++ [(1,.nil 1 ahx)]
abbrev abo:=kq [0] ++ [(1168,.arr 1168 0 Ms)]
abbrev abp:=kq [0] ++ [(1408,.arr 1408 0 Ms)]
abbrev Rz:=kq [0] ++ [(304,.arr 304 1 aa4)] ++ kq [432]
abbrev abq:=kq [0] ++ [(304,.arr 304 1 aa4)]
abbrev abr:=kq [0] ++ [(304,.arr 304 1 aht)]
abbrev abt:=kq [0] ++ [(448,.arr 448 0 Ms)]
abbrev abu:=kq [0] ++ [(688,.arr 688 0 Ms)]
abbrev abv:=kq [0] ++ [(928,.arr 928 0 Ms)]
abbrev ahR:=kq [80] ++ [(432,.arr 432 1 ahu)]
abbrev abw (a:Int) (b:List (List aa)):=au [(a.toNat,55,(vW b a).length)] (Af b) a.toNat
abbrev ahS (a:(List ByteArray)):=au [] (fun b=>mR 1 cI 0 ((List.replicate a.length []:List (List Int)).getD b []))
abbrev abx (b:List Int) (a:Int) (c:List Int) (d:Int):=Tc .u16 (wY b a) (IntKind.u16.wrap ((Vr c a d)))
abbrev Wp (a:aq):=aaz a
abbrev jI (a:List Int):=(0,vN 1 [(mK a)])
abbrev fP (g:Int) (h:Int) (i:List Int) (j:List Int) (k:List (List aa)) (l:List aa) (a:List aa) (b:Bool) (c:List Int) (d:Bool) (e:List Int) (f:Int):=(0,vN 12 [(aI g),(aI h),(mK i),(uC j),(tq k),(sf l),(Mk a),(aB b),(b8 c),(aB d),(b8 e),(aI f)])
theorem JI (N c a r) (h:uh N c a=some r):Sd 82 [(.agg (Zv c)),(.op 0 0 0)] [(vY a)] 1 (aB r) [(vY a)]:=by
 unfold uh at h;refine sO Tryz.f82 9 fun E b=>?_;refine ah b 1 (kp [1,2]) (kq [0,1]) 33 <| bD b 1 (kp [3]) (kq [0]) 129 (pc o1 (pc o1 pn)) ?_
 cases h;exact dN b 0 Tryz.f82 (kp [3]) (kq [0]) 129
noncomputable abbrev C_3:=bt Tryz.f151
def zh (N:Nat) (s:List a8) (a:Int) (K:Int->Option (Int)):Prop:=∀ (x:Int) (r:Int),K x=some r->∀ E,aG E 1->ar Tryz.prog E 151 19 (aH E [(vY a)] (aI r)) [.code (C_3 52),.inLoop (C_3 52),.inBlock 0,.code (C_3 7)] ⟨[(0,(qz s)),(1,(.fn (.func 82) [] [(.op 0 0 0)])),(7,(yq s)),(8,(aI x))],[(vY a)],1⟩
theorem yw (N s b fuel):zh N s b (dD N s b fuel):=by
 induction fuel with
 | zero=>intro _ r h;rw [dD.eq_1] at h;cases h
 | succ fuel d =>
  intro x r h E a;rw [dD.eq_2] at h;refine ah a 1 ri (kq [0]) 17 <| b9 1 9 h (fun e h=>?_) (fun e h=>?_)
  ·refine ah a 4 oa (kq [0]) 49 ?_;obtain ⟨c,h⟩:=ae h;obtain ⟨f,g,h⟩:=a7 h;refine bc a 1 [(5,⟨[0],true,(aB f),[],0,false,none⟩)] vZ (kq [0]) 145 (pc c (pc (JI _ _ _ _ g) pn)) <| b9 0 16 h (fun i h=>?_) (fun i h=>?_)
   ·refine ah a 1 (kp [4]) (kq [0]) 177 ?_;obtain rfl:=lk h;exact dN a 0 Tryz.f151 (kp [4]) (kq [0]) 177
   ·refine ah a 2 eD (kq [0]) 177 <| cd a 1 eD (kq [0]) 1 (d _ _ h E a)
  ·refine ah a 2 (kp [4]) (kq [0]) 33 ?_;cases h;exact dN a 0 Tryz.f151 (kp [4]) (kq [0]) 49
theorem AQ (N s b r) (h:qj N s b=some r):Sd 151 [(qz s),(.fn (.func 82) [] [(.op 0 0 0)])] [(vY b)] 1 (aI r) [(vY b)]:=by
 unfold qj at h;refine sO Tryz.f151 19 fun E a=>?_;refine ah a 1 (kp [0,1]) (kq [0]) 17 <| ah a 2 eD (kq [0]) 65 <| cd a 2 eD (kq [0]) 1 (yw N _ _ N _ _ h E a)
theorem yx (N s a r) (h:ow N s a=some r):Sd 81 [(qz s),(.fn (.func 82) [] [(.op 0 0 0)])] [(vY a)] 1 (aB r) [(vY a)]:=by
 unfold ow at h;refine sO Tryz.f81 9 fun E b=>?_;refine ah b 1 (kp [0,1]) (kq [0]) 17 ?_;obtain ⟨c,d,h⟩:=a7 h;refine bc b 1 [(2,⟨[0],true,(aI c),[],0,false,none⟩)] (kp [4]) (kq [0]) 97 (pc (AQ _ _ _ _ d) pn) ?_;cases h;exact dN b 0 Tryz.f81 (kp [4]) (kq [0]) 97
theorem C8 (N n l r) (h:ph N n l=some r):Sd 36 [(aI n),(qz l)] [] 0 (aI r) []:=by
 unfold ph at h;refine sO Tryz.f36 17 fun E a=>?_;refine ah a 1 (kp [1,2]) (kq [0]) 32 <| bD a 2 (kp [1,2,10]) (kq [0]) 128 (pc o1 (pc (fun b:(yl n)=true=>(pc o1 pn)) (pc (fun b:(yl n)=true=>(pc b pn)) (pc (fun c:(yl n)=true=>(pc c pn)) pn)))) <| b9 0 10 h (fun d h=>?_) (fun d h=>?_)
 ·refine ah a 1 (kp [4]) [] 144 ?_;cases h;exact dN a 0 Tryz.f36 (kp [4]) [] 144
 ·refine ah a 3 (kp [1,2,13]) (kq [0]) 176 <| b9 0 13 h (fun e h=>?_) (fun e h=>?_)
  ·refine ah a 1 (kp [4]) [] 192 ?_;cases h;exact dN a 0 Tryz.f36 (kp [4]) [] 192
  ·obtain ⟨f,g,h⟩:=a7 h;refine bc a 3 [(2,⟨[0],true,(aB f),[],0,false,none⟩)] (kp [16]) [] 224 (pc (yx _ _ _ _ g) pn) <| b9 0 16 h (fun i h=>?_) (fun i h=>?_)
   ·refine ah a 1 (kp [4]) [] 240 ?_;cases h;exact dN a 0 Tryz.f36 (kp [4]) [] 240
   ·refine ah a 2 (kp [4]) [] 240 ?_;cases h;exact dN a 0 Tryz.f36 (kp [4]) [] 240
noncomputable abbrev C_8:=bt Tryz.f211
def MP (N:Nat) (K:Int->(List Int)->Option kI):Prop:=∀ (a:Int) (out:List Int) (r:(List Int)),K a out=some r->∀ E,aG E 0->ar Tryz.prog E 211 14 (aH E [] (eJ r)) [.code (C_8 56),.inLoop (C_8 56),.inBlock 0,.code (C_8 15)] ⟨[(0,(uB a)),(3,(nb out))],[(0,aU out)],1⟩
theorem KD (N fuel):MP N (nW N fuel):=by
 induction fuel with
 | zero=>intro _ _ r h;rw [nW.eq_1] at h;cases h
 | succ fuel d =>
  intro b out r h E a;rw [nW.eq_2] at h;refine ah a 2 VY (kq [0]) 33 <| b9 0 5 h (fun e h=>?_) (fun e h=>?_)
  ·obtain ⟨c,h⟩:=ae h;refine bD a 3 (kp [0] ++ [(3,.mM ((acK out b).length))]) [(97,ru 97 (cU .u16) 0 (acK out b))] 129 (pc (Eq.refl out.length) (pc c (pc (z1 1) (pc (oN [[(Vv b)]]) (pc (cj out (Jt b)) (pc (cj out (Jt b)) (pc (S5 (cU .u16) 0 out (Jt b)) pn))))))) <| bD a 1 (kp [0,3]) (kq [97]) 177 (pc (show (0:Int)<=16 by decide) pn) <| cd a 1 (kp [0,3]) [(0,.aj 97)] 1 (d _ _ _ h E a)
  ·refine ah a 2 (kp [2]) (kq [0]) 65 ?_;obtain rfl:=lk h;exact ki a 0 Tryz.f211 [0] [(2,Cx (cU .u16) 0 out)] [] 65 (pc (Eq.refl out.length) (pc (z1 out.length) (pc (eZ (cU .u16) 0 out) pn))) [] pn
theorem Aj (N n r) (h:rQ N n=some r):Sd 211 [(uB n)] [] 0 (eJ r) []:=by
 unfold rQ at h;refine sO Tryz.f211 14 fun E a=>?_;refine ah a 1 (kp [0]) [] 16 <| ah a 1 (kp [0,3]) [] 32 <| cd a 3 (kp [0] ++ [(3,.xE 0)]) [(0,.nil 1 (fun zi=>(cU .u16) (([]:List Int).getD zi 0)))] 1 (KD N N _ _ _ h E a)
noncomputable abbrev an1:=bt Tryz.f208
def Th (N:Nat) (K:(List Int)->Option kI):Prop:=∀ (a:List Int) (r:(List Int)),K a=some r->∀ E,aG E 0->ar Tryz.prog E 208 21 (aH E [] (eJ r)) [.code (an1 24),.inLoop (an1 24),.inBlock 0,.code (an1 7)] ⟨[(0,(b8 a))],[],0⟩
theorem RA (N fuel):Th N (rR N fuel):=by
 induction fuel with
 | zero=>intro _ r h;rw [rR.eq_1] at h;cases h
 | succ fuel f =>
  intro a r h E d;rw [rR.eq_2] at h;obtain ⟨c,h⟩:=ae h;refine bD d 2 (kp [0,14]) [] 192 (pc (fun b:(Jw a)=true=>(pc b pn)) (pc (fun b:(Jw a)=true=>(pc b pn)) (pc (fun b:(Jw a)=true=>(pc b (pc b (pc (c b) pn)))) (pc (fun b:(Jw a)=true=>(pc b pn)) (pc (fun b:(Jw a)=true=>(pc b pn)) (pc (fun g:(Jw a)=true=>(pc g pn)) pn)))))) <| b9 0 14 h (fun i h=>?_) (fun i h=>?_)
  ·obtain ⟨e,h⟩:=ae h;obtain ⟨j,h⟩:=ae h;refine bD d 2 [(0,Cx (cU .u16) 0 ((a.take (KC a)).drop 0))] [] 288 (pc e (pc j (pc (show (aR ((wZ a) - 1)).toNat - 0=((a.take (KC a)).drop 0).length from (vL a 0 (KC a) e)) (pc (Bk (cU .u16) 0 a 0 (KC a)) pn)))) <| cd d 2 (kp [0]) [] 0 (f _ _ h E d)
  ·refine ah d 2 (kp [2]) [] 224 ?_;obtain rfl:=lk h;exact dN d 0 Tryz.f208 (kp [2]) [] 224
theorem iX (N n r) (h:ku N n=some r):Sd 208 [(b8 n)] [] 0 (eJ r) []:=by
 unfold ku at h;refine sO Tryz.f208 21 fun E a=>?_;refine ah a 1 (kp [0]) [] 16 <| cd a 3 (kp [0]) [] 0 (RA N N _ _ h E a)
noncomputable abbrev alf:=bt Tryz.f235
theorem pE (N s r) (h:fw N s=some r):Sd 235 [(b8 s)] [] 0 (eJ r) []:=by
 unfold fw at h;refine sO Tryz.f235 8 fun E a=>?_;refine ah a 1 (kp [0]) [] 16 <| ah a 2 (kp [0,4]) [] 48 <| sA 0 [.code (alf 13),.code (alf 7)] <| ar.anG (o:=.tmp 4) (x:=alf 26) (y:=alf 27) (n:=s.length) (by kernel_rfl) (by kernel_rfl) (fun b=>?_) ?_
 ·replace b:=List.length_eq_zero_iff.1 b;replace h:(some ([]:List Int))=some r:=by rw [b] at h;simpa using h
  refine ah a 1 (kp [2]) [] 64 ?_;cases h;exact ki a 0 Tryz.f235 [] [(2,Cx (cU .u16) 0 ([]:List Int))] [] 64 (pc (Eq.refl 0) pn) [] pn
 ·obtain ⟨c,h⟩:=ae h;refine bD a 2 [(2,.mM ((NT s).length))] [(80,ru 80 (cU .u16) 0 (NT s))] 112 (pc (Eq.refl 0) (pc c (pc (show ∀ zi,zi < s.length->AV.vH ((fun zi=>(cU .u16) (s.getD zi 0)) zi)=true from (fun _ _=>rfl)) (pc (cj ([]:List Int) s) (pc (cj ([]:List Int) s) (pc (show ∀ zi,zi < (NT s).length->(fun zi=>(cU .u16) ((NT s).getD zi 0)) zi=((fun d=>if d < 0 then (fun _=>[]) d else (fun zi=>(cU .u16) (s.getD zi 0)) (d - 0))) zi from (Bl (cU .u16) 0 ([]:List Int) s rfl (fun f e=>absurd e (dX _)) (fun _ _=>rfl))) pn)))))) ?_;cases h;exact ki a 0 Tryz.f235 [80] [(2,Cx (cU .u16) 0 (NT s))] [] 112 (pc (Eq.refl ((NT s).length)) (pc (z1 ((NT s).length)) (pc (eZ (cU .u16) 0 (NT s)) pn))) [] pn
theorem nC (N neg n r) (h:mE N neg n=some r):Sd 210 [(aB neg),(b8 n)] [] 0 (bO r) []:=by
 unfold mE at h;refine sO Tryz.f210 15 fun E a=>?_;refine ah a 1 Mx (kq [0]) 16 ?_;obtain ⟨b,c,h⟩:=a7 h;refine bc a 1 [(1,oT (eJ b))] Mx (kq [0]) 64 (pc (iX _ _ _ c) pn) <| ah a 2 (kp [0,1,4,9]) (kq [0]) 112 <| b9 0 9 h (fun d h=>?_) (fun d h=>?_)
 ·refine bD a 1 (kp [4]) (kq [0]) 144 (pc o1 pn) ?_;cases h;exact ki a 0 Tryz.f210 [] (kp [4]) [(16,.var 0 [.aj,Cx (cU .u16) 0 ([]:List Int)])] 144 (pc (Eq.refl 0) pn) [16] (pc o1 pn)
 ·obtain ⟨e,f,h⟩:=a7 h;refine bc a 2 [(2,oT (eJ e))] (kp [4]) (kq [0]) 192 (pc (pE _ _ _ f) (pc o1 pn)) ?_;cases h;exact ki a 0 Tryz.f210 [] (kp [4]) [(16,.aj 0)] 192 pn [16] (pc o1 pn)
theorem aem (N n r) (h:Ql N n=some r):Sd 153 [(aI n)] [] 0 (bO r) []:=by
 unfold Ql at h;refine sO Tryz.f153 14 fun E a=>?_;refine ah a 1 (kp [0,2]) (kq [0]) 16 <| ah a 2 (kp [0,2,4]) (kq [0]) 48 <| b9 0 4 h (fun c h=>?_) (fun c h=>?_)
 ·obtain ⟨d,e,h⟩:=a7 h;obtain ⟨b,f,h⟩:=a7 h;refine bc a 1 [(3,oT (eJ d)),(4,oT (bO b))] (kp [2]) (kq [0]) 144 (pc (Aj _ _ _ e) (pc (nC _ _ _ _ f) (pc o1 pn))) ?_;obtain rfl:=lk h;exact ki a 0 Tryz.f153 [] (kp [2]) [(16,.aj 0)] 144 pn [16] (pc o1 pn)
 ·obtain ⟨g,i,h⟩:=a7 h;obtain ⟨j,k,h⟩:=a7 h;refine bc a 2 [(2,oT (eJ g)),(3,oT (bO j))] (kp [2]) (kq [0]) 128 (pc (Aj _ _ _ i) (pc (nC _ _ _ _ k) (pc o1 pn))) ?_;obtain rfl:=lk h;exact ki a 0 Tryz.f153 [] (kp [2]) [(16,.aj 0)] 128 pn [16] (pc o1 pn)
noncomputable abbrev an2:=bt Tryz.f236
def Ti (N:Nat) (n:List Int) (K:Int->Int->Option (Int×Bool)):Prop:=∀ (out:Int) (i:Int) (r:Int×Bool),K out i=some r->∀ E,aG E 0->ar Tryz.prog E 236 25 (aH E [] (Vz r)) [.code (an2 244),.inLoop (an2 244),.inBlock 0,.code (an2 31)] ⟨[(0,(b8 n)),(4,(uB out)),(5,(aI i))],[],0⟩
theorem RC (N n fuel):Ti N n (p7 N n fuel):=by
 induction fuel with
 | zero=>intro _ _ r h;rw [p7.eq_1] at h;cases h
 | succ fuel b =>
  intro out i r h E a;rw [p7.eq_2] at h;refine ah a 2 (kp [0,4,5,13]) [] 32 <| b9 0 13 h (fun d h=>?_) (fun d h=>?_)
  ·obtain ⟨c,h⟩:=ae h;refine bD a 3 MC [] 176 (pc (show (0:Int)<=16 by decide) (pc c pn)) <| ah a 1 MC [] 224 <| cd a 1 MC [] 0 (b _ _ _ h E a)
  ·refine ah a 2 (kp [2,3]) [] 80 ?_;cases h;exact dN a 0 Tryz.f236 (kp [2,3]) [] 80
theorem NU (N n r) (h:CK N n=some r):Sd 236 [(b8 n)] [] 0 (Vz r) []:=by
 unfold CK at h;refine sO Tryz.f236 25 fun E a=>?_;refine ah a 1 (kp [0]) [] 32 <| ah a 2 (kp [0,8]) [] 80 <| b9 0 8 h (fun b h=>?_) (fun b h=>?_)
 ·refine ah a 1 (kp [2,3]) [] 112 ?_;cases h;exact dN a 0 Tryz.f236 (kp [2,3]) [] 112
 ·refine ah a 2 (kp [0,4]) [] 96 <| ah a 2 MC [] 160 <| cd a 2 MC [] 0 (RC N _ N _ _ _ h E a)
noncomputable abbrev an3:=bt Tryz.f215
def MQ (N:Nat) (a:List Int) (b:List Int) (K:Int->Option (Int)):Prop:=∀ (i:Int) (r:Int),K i=some r->∀ E,aG E 0->ar Tryz.prog E 215 43 (aH E [] (aI r)) [.code (an3 116),.inLoop (an3 116),.inBlock 0,.code (an3 15)] ⟨[(0,(b8 a)),(1,(b8 b)),(5,(aI i))],[],0⟩
theorem KE (N a b fuel):MQ N a b (lM N a b fuel):=by
 induction fuel with
 | zero=>intro _ r h;rw [lM.eq_1] at h;cases h
 | succ fuel f =>
  intro i r h E d;rw [lM.eq_2] at h;refine ah d 2 (kp [0,1,5,20]) [] 32 <| b9 0 20 h (fun g h=>?_) (fun g h=>?_)
  ·obtain ⟨c,h⟩:=ae h;obtain ⟨e,h⟩:=ae h;refine bD d 4 (kp [0,1,5,31]) [] 176 (pc c (pc e pn)) <| b9 0 31 h (fun j h=>?_) (fun j h=>?_)
   ·refine bD d 1 (kp [4]) [] 368 (pc c (pc e pn)) ?_;cases h;exact dN d 0 Tryz.f215 (kp [4]) [] 368
   ·refine ah d 2 mL [] 224 <| cd d 1 mL [] 0 (f _ _ h E d)
  ·refine ah d 2 (kp [4]) [] 48 ?_;cases h;exact dN d 0 Tryz.f215 (kp [4]) [] 48
theorem G0 (N a b r) (h:rS N a b=some r):Sd 215 [(b8 a),(b8 b)] [] 0 (aI r) []:=by
 unfold rS at h;refine sO Tryz.f215 43 fun E c=>?_;refine ah c 1 (kp [0,1]) [] 16 <| ah c 2 (kp [0,1,10]) [] 96 <| b9 0 10 h (fun d h=>?_) (fun d h=>?_)
 ·refine ah c 1 (kp [4]) [] 192 ?_;cases h;exact dN c 0 Tryz.f215 (kp [4]) [] 192
 ·refine ah c 3 mL [] 160 <| cd c 2 mL [] 0 (KE N _ _ N _ _ h E c)
noncomputable abbrev an4:=bt Tryz.f237
def RE (N:Nat) (a:List Int) (b:Int) (K:(List Int)->Int->Int->Option acR):Prop:=∀ (q:List Int) (rest:Int) (i:Int) (r:(List Int)×Int),K q rest i=some r->∀ E,aG E 0->ar Tryz.prog E 237 43 (aH E [] (aaK r)) [.code (an4 244),.inLoop (an4 244),.inBlock 0,.code (an4 31)] ⟨[(0,(b8 a)),(1,(a16 b)),(6,(nb q)),(7,(Ef rest)),(8,(aI i))],[(0,aU q)],1⟩
theorem Oo (N a b fuel):RE N a b (oJ N a b fuel):=by
 induction fuel with
 | zero=>intro _ _ _ r h;rw [oJ.eq_1] at h;cases h
 | succ fuel f =>
  intro q rest i r h E c;rw [oJ.eq_2] at h;refine ah c 2 (kp [0,1,6,7,8,16]) (kq [0]) 33 <| b9 0 16 h (fun g h=>?_) (fun g h=>?_)
  ·obtain ⟨j,h⟩:=ae h;refine bD c 4 w6 (kq [0]) 177 (pc (show (0:Int)<=16 by decide) (pc j pn)) ?_;obtain ⟨d,h⟩:=ae h;obtain ⟨e,h⟩:=ae h;refine bD c 1 (kp [0,1] ++ [(6,.mM ((amA q i rest a b).length))] ++ kp [7,8]) [(0,ru 0 (cU .u16) 0 (amA q i rest a b))] 321 (pc d (pc e (pc (dz e) (pc (aF q i.toNat (aaR rest a i b)) (pc (aF q i.toNat (aaR rest a i b)) (pc (cn (cU .u16) 0 q i.toNat (aaR rest a i b)) pn)))))) <| bD c 0 w6 (kq [0]) 401 (pc d pn) <| ah c 1 w6 (kq [0]) 449 <| cd c 1 w6 (kq [0]) 1 (f _ _ _ _ h E c)
  ·obtain ⟨k,l,h⟩:=a7 h;refine bc c 2 [(1,⟨[],true,(eJ k),[],0,true,none⟩)] (kp [4,5]) [] 129 (pc (iX _ _ _ l) (pc (z1 q.length) pn)) ?_;cases h;exact dN c 0 Tryz.f237 (kp [4,5]) [] 129
theorem Wq (N a b r) (h:CL N a b=some r):Sd 237 [(b8 a),(a16 b)] [] 0 (aaK r) []:=by
 unfold CL at h;refine sO Tryz.f237 43 fun E d=>?_;refine ah d 1 (kp [0,1]) [] 32 ?_;obtain ⟨c,h⟩:=ae h;refine bD d 1 (kp [0,1] ++ [(6,.mM (ahf a))]) [(64,ru 64 (cU .u16) 0 (Vt a))] 96 (pc c.1 (pc (Int.le_refl (wZ a)) (pc c.2.1 (pc c.2.2 (pc (lR a.length (0:Int)) (pc (lR a.length (0:Int)) (pc (vK (cU .u16) 0 0 a.length) pn))))))) <| ah d 1 (kp [0,1,6,7]) (kq [64]) 112 <| ah d 2 w6 (kq [64]) 176 <| cd d 2 w6 [(0,.aj 64)] 1 (Oo N _ _ N _ _ _ _ h E d)
noncomputable abbrev aqs:=bt Tryz.f249
def Er (N:Nat) (K:Int->Int->Option (Int)):Prop:=∀ (a:Int) (n:Int) (r:Int),K a n=some r->∀ E,aG E 0->ar Tryz.prog E 249 13 (aH E [] (aI r)) [.code (aqs 14),.code (aqs 15)] ⟨[(0,(a16 a)),(2,(aI n))],[],0⟩
theorem u6 (N):Er N (dV N):=by
 intro b n r h E a;unfold dV at h;obtain ⟨c,h⟩:=ae h;refine bD a 0 (kp [2]) [] 112 (pc c pn) ?_;cases h;exact dN a 0 Tryz.f249 (kp [2]) [] 112
theorem G1 (N x r) (h:oK N x=some r):Sd 249 [(a16 x)] [] 0 (aI r) []:=by
 unfold oK at h;refine sO Tryz.f249 13 fun E a=>?_;refine ah a 1 (kp [0,2]) [] 16 <| ah a 2 (kp [0,2,4]) [] 48 <| b9 0 4 h (fun b h=>?_) (fun b h=>?_)
 ·refine bD a 1 (kp [0]) [] 96 (pc (show (0:Int)<=8 by decide) pn) <| ah a 0 (kp [0,2]) [] 112 <| cd a 1 (kp [0,2]) [] 0 (u6 N _ _ _ h E a)
 ·exact cd a 2 (kp [0,2]) [] 0 (u6 N _ _ _ h E a)
theorem xQ (N x r) (h:iK N x=some r):Sd 238 [(a16 x)] [] 0 (aI r) []:=by
 unfold iK at h;refine sO Tryz.f238 6 fun E a=>?_;refine ah a 1 (kp [0]) [] 16 ?_;obtain ⟨b,c,h⟩:=a7 h;refine bc a 1 [(1,oT (aI b))] (kp [2]) [] 80 (pc (G1 _ _ _ c) pn) ?_;cases h;exact dN a 0 Tryz.f238 (kp [2]) [] 80
noncomputable abbrev an5:=bt Tryz.f239
def MR (N:Nat) (a:List Int) (b:Int) (K:(List Int)->Int->Option kI):Prop:=∀ (out:List Int) (x:Int) (r:(List Int)),K out x=some r->∀ E,aG E 0->ar Tryz.prog E 239 41 (aH E [(0,aU r)] (.os 0 0 r.length)) [.code (an5 116),.inLoop (an5 116),.inBlock 0,.code (an5 15)] ⟨[(1,(aI b)),(5,(nb out)),(13,(b8 a)),(Jm a),(15,(aI x))],[(0,aU out)],1⟩
theorem KF (N a b fuel):MR N a b (lN N a b fuel):=by
 induction fuel with
 | zero=>intro _ _ r h;rw [lN.eq_1] at h;cases h
 | succ fuel f =>
  intro out x r h E c;rw [lN.eq_2] at h;refine ah c 1 (kp [1,5,13,14,15,16]) (kq [0]) 17 <| b9 1 16 h (fun g h=>?_) (fun g h=>?_)
  ·obtain ⟨i,h⟩:=ae h;refine bD c 4 (kp [1,5,6,7,13,14,15]) (kq [0]) 97 (pc i pn) ?_;obtain ⟨j,h⟩:=ae h;refine bD c 1 (kp [1,5,6,8,13,14,15]) (kq [0]) 177 (pc j pn) ?_;obtain ⟨d,h⟩:=ae h;refine bD c 1 (kp [1] ++ [(5,.mM ((X9 out x a b).length))] ++ kp [6,8,13,14,15]) [(0,ru 0 (cU .u16) 0 (X9 out x a b))] 321 (pc d (pc (dz d) (pc d (pc (dz d) (pc (aF out x.toNat (abx out x a b)) (pc (aF out x.toNat (abx out x a b)) (pc (cn (cU .u16) 0 out x.toNat (abx out x a b)) pn))))))) ?_;obtain ⟨e,h⟩:=ae h;refine bD c 0 (kp [1] ++ [(5,.mM ((amE out x a b).length))] ++ kp [13,14,15]) [(0,ru 0 (cU .u16) 0 (amE out x a b))] 449 (pc (show (0:Int)<=16 by decide) (pc e (pc (dz e) (pc (aF (X9 out x a b) (KB x) (aaT a x b)) (pc (aF (X9 out x a b) (KB x) (aaT a x b)) (pc (cn (cU .u16) 0 (X9 out x a b) (KB x) (aaT a x b)) pn)))))) <| ah c 1 Wa (kq [0]) 481 <| cd c 1 Wa (kq [0]) 1 (f _ _ _ h E c)
  ·refine ah c 2 (kp [4]) (kq [0]) 49 ?_;obtain rfl:=lk h;exact dN c 0 Tryz.f239 (kp [4]) (kq [0]) 49
theorem G2 (N a d r) (h:uU N a d=some r):Sd 239 [(b8 a),(aI d)] [] 0 (.os 0 0 r.length) [(0,aU r)]:=by
 unfold uU at h;refine sO Tryz.f239 41 fun E b=>?_;refine ah b 1 (kp [0,1]) [] 16 ?_;obtain ⟨c,h⟩:=ae h;refine bD b 1 (kp [0,1] ++ [(5,.mM ((ahn a).length))]) [(64,ru 64 (cU .u16) 0 (ahn a))] 96 (pc c.1 (pc (Int.le_refl (QL a)) (pc c.2.1 (pc c.2.2 (pc (lR (ahi a) (0:Int)) (pc (lR (ahi a) (0:Int)) (pc (vK (cU .u16) 0 0 (ahi a)) pn))))))) <| ah b 2 Wa (kq [64]) 144 <| cd b 2 Wa [(0,.aj 64)] 1 (KF N _ _ N _ _ _ h E b)
noncomputable abbrev G3:=bt Tryz.f240
def RF (N:Nat) (a:Nat) (un:Nat) (v:List Int) (b:List Int) (K:Int->Int->Option Mm):Prop:=∀ (q:Int) (rest:Int) (r:Int×(List Int)),K q rest=some r->∀ E,aG E 1->ar Tryz.prog E 240 161 (aH E [(0,aU r.2)] (Gy r)) [.code (G3 248),.inLoop (G3 248),.inBlock 0,.code (G3 63)] ⟨[(0,(.os 0 a un)),(1,(b8 v)),(VE v),(7,(uB q)),(8,(uB rest))],[(0,aU b)],1⟩
def G4 (N:Nat) (d:Nat) (un:Nat) (v:List Int) (q:Int) (K:(List Int)->Int->Int->Int->Option Mm):Prop:=∀ (c:List Int) (b:Int) (a:Int) (x:Int) (r:Int×(List Int)),K c b a x=some r->∀ E,aG E 1->ar Tryz.prog E 240 161 (aH E [(0,aU r.2)] (Gy r)) [.code (G3 2036),.inLoop (G3 2036),.inBlock 2,.code (G3 255)] ⟨[(0,(.os 0 d un)),(1,(b8 v)),(VE v),(7,(uB q)),(9,(uB b)),(10,(aI a)),(84,(aI (QL v))),(85,(aI x))],[(0,aU c)],1⟩
def RG (N:Nat) (c:Nat) (un:Nat) (v:List Int) (q:Int) (d:List Int) (a:Int) (x:Int) (K:Int->Option Mm):Prop:=∀ (b:Int) (r:Int×(List Int)),K b=some r->∀ E,aG E 1->ar Tryz.prog E 240 161 (aH E [(0,aU r.2)] (Gy r)) [.code (G3 521422),.code (G3 521423),.inBlock 3,.code (G3 16295),.inLoop (G3 2036),.inBlock 2,.code (G3 255)] ⟨[(0,(.os 0 c un)),(1,(b8 v)),(VE v),(7,(uB q)),(10,(aI a)),(11,(aI x)),(12,(uB b)),(84,(aI (QL v))),(85,(aI x))],[(0,aU d)],1⟩
theorem Fo (N:Nat) (b:Nat) (un:Nat) (v:List Int) (q:Int) (c:List Int) (a:Int) (x:Int) (i:(List Int)->Int->Int->Int->Option Mm) (j:G4 N b un v q i):RG N b un v q c a x (sQ N b un v q c a x i):=by
 intro g r h E d;unfold sQ at h;refine bD d 0 (kp [0,1,5,7,9,10,11,12,84,85]) (kq [0]) 49 (pc (show (0:Int)<=16 by decide) pn) ?_;obtain ⟨f,h⟩:=ae h;obtain ⟨e,h⟩:=ae h;refine bD d 1 (kp [0,1,5,7,9,11,13,84,85]) (kq [0]) 241 (pc f (pc (show (da b x.toNat) < c.length by have h1:=f;have h2:=e;simp only [fk];omega) pn)) <| bD d 1 (kp [0,1,5,7,9,13,84,85]) [(0,ru 0 (cU .u16) 0 (c.set (da b x.toNat) (aaU c b x g a)))] 337 (pc f (pc (show (da b x.toNat) < c.length by have h1:=f;have h2:=e;simp only [fk];omega) (pc (aF c (da b x.toNat) (aaU c b x g a)) (pc (cn (cU .u16) 0 c (da b x.toNat) (aaU c b x g a)) pn)))) <| bD d 0 Ra (kq [0]) 385 (pc (show (0:Int)<=16 by decide) pn) <| ah d 1 Ra (kq [0]) 417 <| cd d 1 Ra (kq [0]) 1 (j _ _ _ _ _ h E d)
def RH (N:Nat) (d:Nat) (un:Nat) (v:List Int) (q:Int) (K:(List Int)->Int->Int->Option Mm):Prop:=∀ (a:List Int) (b:Int) (c:Int) (r:Int×(List Int)),K a b c=some r->∀ E,aG E 1->ar Tryz.prog E 240 161 (aH E [(0,aU r.2)] (Gy r)) [.code (G3 130740),.inLoop (G3 130740),.inBlock 4,.code (G3 16343),.code (G3 511)] ⟨[(0,(.os 0 d un)),(1,(b8 v)),(VE v),(7,(a64 (IntKind.u64.wrap (q - 1)))),(14,(Ef b)),(126,(GI v)),(127,(aI c))],[(0,aU a)],1⟩
def RI (N:Nat) (K:(List Int)->Int->Option Mm):Prop:=∀ (a:List Int) (b:Int) (r:Int×(List Int)),K a b=some r->∀ E,aG E 1->ar Tryz.prog E 240 161 (aH E [(0,aU r.2)] (Gy r)) [.code (G3 1022),.code (G3 1023)] ⟨[(7,(uB b))],[(0,aU a)],1⟩
theorem Fp (N):RI N (oL N):=by
 intro b c r h E a;unfold oL at h;refine ah a 0 (kp [4]) (kq [0]) 49 ?_;cases h;exact dN a 0 Tryz.f240 (kp [4]) (kq [0]) 49
theorem Ot (N a un v q fuel):RH N a un v q (ly N a un v q fuel):=by
 induction fuel with
 | zero=>intro _ _ _ r h;rw [ly.eq_1] at h;cases h
 | succ fuel l =>
  intro b g f r h E c;rw [ly.eq_2] at h;refine ah c 1 (kp [0,1,5,7,14,126,127,128]) (kq [0]) 17 <| b9 1 128 h (fun m h=>?_) (fun m h=>?_)
  ·refine ah c 4 (kp [0,1,5,7,14,15,126,127]) (kq [0]) 49 ?_;obtain ⟨d,h⟩:=ae h;obtain ⟨i,h⟩:=ae h;obtain ⟨k,h⟩:=ae h;refine bD c 1 (kp [0,1,5,7,14,15,126,127]) (kq [0]) 273 (pc d (pc (show (da a f.toNat) < b.length by have h1:=d;have h2:=i;simp only [fk];omega) (pc k pn))) <| bD c 1 My [(0,ru 0 (cU .u16) 0 (b.set (da a f.toNat) (aaO g b a f v)))] 369 (pc d (pc (show (da a f.toNat) < b.length by have h1:=d;have h2:=i;simp only [fk];omega) (pc (aF b (da a f.toNat) (aaO g b a f v)) (pc (cn (cU .u16) 0 b (da a f.toNat) (aaO g b a f v)) pn)))) <| bD c 0 My (kq [0]) 417 (pc (show (0:Int)<=16 by decide) pn) <| ah c 1 My (kq [0]) 449 <| cd c 1 My (kq [0]) 1 (l _ _ _ _ h E c)
  ·obtain ⟨e,h⟩:=ae h;obtain ⟨j,h⟩:=ae h;refine bD c 1 (kp [7]) [(0,ru 0 (cU .u16) 0 (b.set (da a v.length) (IntKind.u16.wrap ((b.getD (da a v.length) 0)+(GF g)))))] 161 (pc e (pc (show (da a v.length) < b.length by have h1:=e;have h2:=j;simp only [fk];omega) (pc e (pc (show (da a v.length) < b.length by have h1:=e;have h2:=j;simp only [fk];omega) (pc (aF b (da a v.length) (IntKind.u16.wrap ((b.getD (da a v.length) 0)+(GF g)))) (pc (cn (cU .u16) 0 b (da a v.length) (IntKind.u16.wrap ((b.getD (da a v.length) 0)+(GF g)))) pn)))))) <| cd c 1 (kp [7]) (kq [0]) 1 (Fp N _ _ _ h E c)
theorem Ou (N e un v q fuel):G4 N e un v q (jK N e un v q fuel):=by
 induction fuel with
 | zero=>intro _ _ _ _ r h;rw [jK.eq_1] at h;cases h
 | succ fuel f =>
  intro k c b x r h E a;rw [jK.eq_2] at h;refine ah a 1 (kp [0,1,5,7,9,10,84,85,86]) (kq [0]) 17 <| b9 1 86 h (fun g h=>?_) (fun g h=>?_)
  ·refine ah a 4 (kp [0,1,5,7,9,10,11,84,85]) (kq [0]) 49 <| ah a 1 VU (kq [0]) 81 <| ah a 2 (kp [0,1,5,7,10,11,12,84,85,91]) (kq [0]) 129 <| b9 0 91 h (fun i h=>?_) (fun i h=>?_)
   ·obtain ⟨d,h⟩:=ae h;refine bD a 0 VU (kq [0]) 289 (pc d pn) <| cd a 1 VU (kq [0]) 1 (Fo N _ _ _ _ _ _ _ _ f _ _ h E a)
   ·exact cd a 2 VU (kq [0]) 1 (Fo N _ _ _ _ _ _ _ _ f _ _ h E a)
  ·refine ah a 3 (kp [0,1,5,7,123]) (kq [0]) 49 <| b9 0 123 h (fun j h=>?_) (fun j h=>?_)
   ·refine ah a 1 (kp [0,1,5,7]) (kq [0]) 97 <| ah a 1 (kp [0,1,5,7,14]) (kq [0]) 113 <| ah a 2 My (kq [0]) 145 <| cd a 2 My (kq [0]) 1 (Ot N _ _ _ _ N _ _ _ _ h E a)
   ·exact cd a 2 (kp [7]) (kq [0]) 1 (Fp N _ _ _ h E a)
theorem Ov (N c un v d fuel):RF N c un v d (oM N c un v d fuel):=by
 induction fuel with
 | zero=>intro _ _ r h;rw [oM.eq_1] at h;cases h
 | succ fuel g =>
  intro q rest r h E b;rw [oM.eq_2] at h;obtain ⟨i,h⟩:=ae h;obtain ⟨f,h⟩:=ae h;obtain ⟨j,h⟩:=ae h;refine bD b 2 (kp [0,1,5,7,8,72]) (kq [0]) 417 (pc (fun a:(decide (rest < 65536))=true=>(pc a pn)) (pc (fun a:(CZ rest q)=true=>(pc a pn)) (pc (fun a:(CZ rest q)=true=>(pc a (pc a (pc (i a) pn)))) (pc (fun a:(CZ rest q)=true=>(pc a pn)) (pc (fun a:(CZ rest q)=true=>(pc a pn)) (pc (fun a:(CZ rest q)=true=>(pc a (pc a pn))) (pc (fun a:(CZ rest q)=true=>(pc a (pc (show (0:Int)<=16 by decide) pn))) (pc (fun a:(CZ rest q)=true=>(pc a pn)) (pc (fun a:(CZ rest q)=true=>(pc a (pc a (pc (f a) pn)))) (pc (fun a:(CZ rest q)=true=>(pc a (pc (show (da c (aR ((v.length:Int) - 2)).toNat) < d.length by have h1:=(f a);have h2:=(j a);simp only [fk];omega) pn))) (pc (fun a:(CZ rest q)=true=>(pc a pn)) (pc (fun a:(CZ rest q)=true=>(pc a (pc a pn))) (pc (fun a:(CZ rest q)=true=>(pc a (pc a pn))) (pc (fun a:(decide (rest < 65536))=true=>(pc a (pc a (pc (fun e:(!(decide (q > 65535)))=true=>(pc (show (CZ rest q)=true from (pZ a (pZ a e))) pn)) pn)))) (pc (fun e:(decide (rest < 65536))=true=>(pc e pn)) pn))))))))))))))) <| b9 0 72 h (fun k h=>?_) (fun k h=>?_)
  ·refine ah b 3 oa (kq [0]) 465 ?_;obtain ⟨l,h⟩:=ae h;refine bD b 0 oa (kq [0]) 609 (pc l pn) <| cd b 2 oa (kq [0]) 1 (g _ _ _ h E b)
  ·refine ah b 2 (kp [0,1,5,7,9,10]) (kq [0]) 449 <| ah b 2 Ra (kq [0]) 497 <| cd b 2 Ra (kq [0]) 1 (Ou N _ _ _ _ N _ _ _ _ _ h E b)
theorem Wr (N b un v d r) (h:CM N b un v d=some r):Sd 240 [(.os 0 b un),(b8 v)] [(0,aU d)] 1 (Gy r) [(0,aU r.2)]:=by
 unfold CM at h;refine sO Tryz.f240 161 fun E a=>?_;refine ah a 1 (kp [0,1]) (kq [0]) 17 <| ah a 1 mL (kq [0]) 65 ?_
 obtain ⟨c,h⟩:=ae h;obtain ⟨e,h⟩:=ae h;obtain ⟨f,h⟩:=ae h;refine bD a 1 Ag (kq [0]) 289 (pc c (pc (show (da b v.length) < d.length by have h1:=c;have h2:=e;simp only [fk];omega) (pc (show (0:Int)<=16 by decide) (pc f (pc (show (da b (aR ((v.length:Int) - 1)).toNat) < d.length by have h1:=f;have h2:=e;simp only [fk];omega) pn))))) ?_;obtain ⟨g,h⟩:=ae h;obtain ⟨i,h⟩:=ae h;refine bD a 1 oa (kq [0]) 577 (pc g (pc i (pc g (pc i pn)))) <| cd a 3 oa (kq [0]) 1 (Ov N _ _ _ _ N _ _ _ h E a)
noncomputable abbrev aeo:=bt Tryz.f213
def Ow (N:Nat) (b:List Int) (a:Int) (c:(List Int)) (K:(List Int)->(List Int)->Int->Option QI):Prop:=∀ (q:List Int) (u:List Int) (j:Int) (r:(List Int)×(List Int)),K q u j=some r->∀ E,aG E 0->ar Tryz.prog E 213 109 (aH E [] (Ml r)) [.code (aeo 4084),.inLoop (aeo 4084),.inBlock 0,.code (aeo 511)] ⟨[(4,(nb q)),(8,(aI a)),(9,(mK u)),(10,(.os 2 0 (b.length - 0))),(11,(aI (QM b))),(12,(aI j))],[(0,aU q),(1,aU u),(2,aU c)],3⟩
def Ox (N:Nat) (b:List Int) (c:Int) (q:List Int) (u:List Int) (K:(List Int)->Int->Option QI):Prop:=∀ (a:List Int) (x:Int) (r:(List Int)×(List Int)),K a x=some r->∀ E,aG E 0->ar Tryz.prog E 213 109 (aH E [] (Ml r)) [.code (aeo 16372),.inLoop (aeo 16372),.inBlock 2,.code (aeo 2047)] ⟨[(4,(nb q)),(5,(mK a)),(8,(aI c)),(9,(uC u)),(81,(aI (QM b))),(82,(aI x))],[(0,aU q),(1,aU a),(2,aU u)],3⟩
theorem MT (N b c q u fuel):Ox N b c q u (nj N b c q u fuel):=by
 induction fuel with
 | zero=>intro _ _ r h;rw [nj.eq_1] at h;cases h
 | succ fuel k =>
  intro d x r h E a;rw [nj.eq_2] at h;refine ah a 1 (kp [4,5,8,9,81,82,83]) cJ 19 <| b9 1 83 h (fun l h=>?_) (fun l h=>?_)
  ·refine ah a 4 (kp [4,5,8,9,13,81,82]) cJ 51 ?_;obtain ⟨e,h⟩:=ae h;obtain ⟨f,h⟩:=ae h;obtain ⟨i,h⟩:=ae h;obtain ⟨g,h⟩:=ae h;refine bD a 0 (kp [4] ++ [(5,.mM ((amB d x u c).length))] ++ kp [8,9,81,82]) (kq [0] ++ [(1,ru 1 (cU .u16) 0 (amB d x u c))] ++ kq [2]) 371 (pc e (pc (dz e) (pc f (pc (dz f) (pc (show (0:Int)<=16 by decide) (pc i (pc g (pc (dz g) (pc (aF d x.toNat (aaS u x c)) (pc (aF d x.toNat (aaS u x c)) (pc (cn (cU .u16) 0 d x.toNat (aaS u x c)) pn))))))))))) <| ah a 1 Wk cJ 403 <| cd a 1 Wk cJ 3 (k _ _ _ h E a)
  ·obtain ⟨m,n,h⟩:=a7 h;obtain ⟨j,o,h⟩:=a7 h;refine bc a 2 [(1,⟨[],true,(eJ m),[],0,true,none⟩),(3,⟨[],true,(eJ j),[],0,true,none⟩)] (kp [4,5]) [] 115 (pc (iX _ _ _ n) (pc (z1 q.length) (pc (iX _ _ _ o) (pc (z1 d.length) pn)))) ?_;cases h;exact dN a 0 Tryz.f213 (kp [4,5]) [] 115
theorem MU (N b g d fuel):Ow N b g d (np N b g d fuel):=by
 induction fuel with
 | zero=>intro _ _ _ r h;rw [np.eq_1] at h;cases h
 | succ fuel k =>
  intro q u j r h E c;rw [np.eq_2] at h;refine ah c 2 (kp [4,8,9,10,11,12,64]) cJ 35 <| b9 0 64 h (fun l h=>?_) (fun l h=>?_)
  ·obtain ⟨m,h⟩:=ae h;obtain ⟨n,h⟩:=ae h;obtain ⟨o,h⟩:=ae h;obtain ⟨i,h⟩:=ae h;obtain ⟨a,p,h⟩:=a7 h;obtain ⟨s,h⟩:=ae h;obtain ⟨e,h⟩:=ae h;refine bc c 3 [(10,⟨[1],false,(Gy a),[(0,aU a.2)],0,false,none⟩)] ([(4,.mM ((q.set j.toNat a.1).length))] ++ kp [8] ++ [(9,.mM (a.2.length))] ++ kp [10,11,12]) ([(0,ru 0 (cU .u16) 0 (q.set j.toNat a.1))] ++ kq [1,2]) 243 (pc m (pc n (pc o (pc (show Sd 240 [(.os 0 j.toNat ((aR ((aR (j+(QM b)))+1)).toNat - j.toNat)),(.sl (b.length - 0) (fun zi=>(cU .u16) (d.getD (da 0 zi) 0)))] [(0,aU u)] 1 (Gy a) [(0,aU a.2)] from (Sound.conv (Wr _ _ _ _ _ _ p) (.cons (Alike.refl _) (.cons (Alike.sl (vL d 0 b.length i) (Bk (cU .u16) 0 d 0 b.length)) .nil)))) (pc (fL (cU .u16) 0 a.2) (pc (show 0+(b.length - 0)<=d.length by have:=i;omega) (pc e (pc (dz e) (pc (aF q j.toNat a.1) (pc (show u.length=a.2.length from (Eq.symm s)) (pc (aF q j.toNat a.1) (pc (cn (cU .u16) 0 q j.toNat a.1) pn)))))))))))) <| ah c 1 Wl cJ 291 <| cd c 1 Wl cJ 3 (k _ _ _ _ h E c)
  ·obtain ⟨f,h⟩:=ae h;refine bD c 2 (kp [4] ++ [(5,.mM ((List.replicate (b.length - 0) 0:List Int).length))] ++ kp [8,9,11]) (kq [0,1] ++ [(51,ru 51 (cU .u16) 0 (List.replicate (b.length - 0) 0:List Int))]) 83 (pc f.1 (pc (Int.le_refl (QM b)) (pc f.2.1 (pc f.2.2 (pc (lR (b.length - 0) (0:Int)) (pc (lR (b.length - 0) (0:Int)) (pc (vK (cU .u16) 0 0 (b.length - 0)) pn))))))) <| ah c 2 Wk (kq [0,1,51]) 115 <| cd c 2 Wk (kq [0] ++ [(1,.aj 51),(2,.aj 1)]) 3 (MT N _ _ _ _ N _ _ _ h E c)
theorem B3 (N a b r) (h:ux N a b=some r):Sd 213 [(b8 a),(b8 b)] [] 0 (Ml r) []:=by
 unfold ux at h;refine sO Tryz.f213 109 fun E d=>?_;refine ah d 1 (kp [0,1]) [] 32 ?_;obtain ⟨k,l,h⟩:=a7 h;refine bc d 2 [(2,oT (aI k))] (kp [0,1,17]) [] 96 (pc (G0 _ _ _ _ l) pn) <| b9 0 17 h (fun m h=>?_) (fun m h=>?_)
 ·obtain ⟨n,o,h⟩:=a7 h;refine bc d 1 [(1,oT (eJ n))] (kp [4,5]) [] 160 (pc (pE _ _ _ o) pn) ?_;cases h;exact ki d 0 Tryz.f213 [] ([(4,Cx (cU .u16) 0 ([]:List Int))] ++ kp [5]) [] 160 (pc (Eq.refl 0) pn) [] pn
 ·refine ah d 3 (kp [0,1,22]) [] 144 <| b9 0 22 h (fun p h=>?_) (fun p h=>?_)
  ·obtain ⟨c,h⟩:=ae h;obtain ⟨f,q,h⟩:=a7 h;refine bc d 1 [(4,oT (aaK f))] (kp [6,7]) [] 304 (pc c (pc (Wq _ _ _ _ q) pn)) ?_;obtain ⟨i,s,h⟩:=a7 h;refine bc d 1 [(3,⟨[],true,(eJ i),[],0,true,none⟩)] (kp [4,5]) [] 400 (pc (show Sd 208 [(.sl 1 (fun zi=>(fun zi=>([[(a16 f.2)]]:List (List AV)).getD zi []) (da 0 zi)))] [] 0 (eJ i) [] from (Sound.conv (iX _ _ _ s) (.cons (Alike.sl rfl (wV (cU .u16) 0 ([f.2]:List Int))) .nil))) (pc (z1 1) pn)) ?_;cases h;exact dN d 0 Tryz.f213 (kp [4,5]) [] 400
  ·obtain ⟨t,h⟩:=ae h;obtain ⟨u,v,h⟩:=a7 h;refine bc d 2 [(6,oT (aI u))] (kp [0,1,8]) [] 272 (pc t (pc (xQ _ _ _ v) pn)) ?_;obtain ⟨e,w,h⟩:=a7 h;obtain ⟨j,x,h⟩:=a7 h;obtain ⟨y,h⟩:=ae h;refine bc d 1 [(2,⟨[],true,(.os 0 0 e.length),[(0,aU e)],0,false,none⟩),(5,⟨[],true,(.os 0 0 j.length),[(0,aU j)],0,false,none⟩)] (kp [8,9,10]) (kq [304,352]) 448 (pc (G2 _ _ _ _ w) (pc (G2 _ _ _ _ x) (pc y (pc (show 0<=(wZ b) from (Int.natCast_nonneg _)) pn)))) <| ah d 1 (kp [8,9,10,11]) (kq [304,352]) 496 ?_
   obtain ⟨g,h⟩:=ae h;refine bD d 1 ([(4,.mM ((aho e b).length))] ++ kp [8,9,10,11]) (kq [304,352] ++ [(560,ru 560 (cU .u16) 0 (aho e b))]) 592 (pc g.1 (pc (Int.le_refl (aaG e b)) (pc g.2.1 (pc g.2.2 (pc (lR (ahj e b) (0:Int)) (pc (lR (ahj e b) (0:Int)) (pc (vK (cU .u16) 0 0 (ahj e b)) pn))))))) <| ah d 2 Wl (kq [304,352,560]) 688 <| cd d 2 Wl [(0,.aj 560),(1,.aj 304),(2,.aj 352)] 3 (MU N _ _ _ N _ _ _ _ h E d)
noncomputable abbrev Ws:=bt Tryz.f212
def Fq (N:Nat) (K:(List Int)->(List Int)->Option kI):Prop:=∀ (a:List Int) (b:List Int) (r:(List Int)),K a b=some r->∀ E,aG E 0->ar Tryz.prog E 212 45 (aH E [] (eJ r)) [.code (Ws 24),.inLoop (Ws 24),.inBlock 0,.code (Ws 7)] ⟨[(0,(b8 a)),(1,(b8 b))],[],0⟩
def Oz (N:Nat) (K:Int->Int->Option kI):Prop:=∀ (x:Int) (y:Int) (r:(List Int)),K x y=some r->∀ E,aG E 0->ar Tryz.prog E 212 45 (aH E [] (eJ r)) [.code (Ws 25296),.inLoop (Ws 25296),.inBlock 2,.code (Ws 6325),.code (Ws 791),.inBlock 1,.inLoop (Ws 24),.inBlock 0,.code (Ws 7)] ⟨[(5,(uB x)),(7,(uB y))],[],0⟩
theorem MW (N:Nat) (b:(List Int)->(List Int)->Option kI) (d:Fq N b) (fuel:Nat):Oz N (pj N b fuel):=by
 induction fuel with
 | zero=>intro _ _ r h;rw [pj.eq_1] at h;cases h
 | succ fuel e =>
  intro x y r h E a;rw [pj.eq_2] at h;refine ah a 2 (kp [5,7,29]) [] 32 <| b9 0 29 h (fun f h=>?_) (fun f h=>?_)
  ·obtain ⟨c,h⟩:=ae h;refine bD a 2 (kp [5,7]) [] 128 (pc c pn) <| cd a 2 (kp [5,7]) [] 0 (e _ _ _ h E a)
  ·obtain ⟨g,i,h⟩:=a7 h;refine bc a 2 [(1,oT (eJ g))] (kp [4]) [] 80 (pc (Aj _ _ _ i) pn) ?_;obtain rfl:=lk h;exact dN a 0 Tryz.f212 (kp [4]) [] 80
theorem MY (N fuel):Fq N (nr N fuel):=by
 induction fuel with
 | zero=>intro _ _ r h;rw [nr.eq_1] at h;cases h
 | succ fuel b =>
  intro m n r h E a;rw [nr.eq_2] at h;refine ah a 2 (kp [0,1,13]) [] 48 <| b9 0 13 h (fun d h=>?_) (fun d h=>?_)
  ·obtain ⟨c,e,h⟩:=a7 h;refine bc a 3 [(1,oT (Vz c))] Ag [] 160 (pc (NU _ _ _ e) pn) ?_;obtain ⟨f,g,h⟩:=a7 h;refine bc a 1 [(1,oT (Vz f))] B0 [] 272 (pc (NU _ _ _ g) pn) <| bD a 2 (kp [0,1,5,7,27]) [] 336 (pc (fun i:c.2=true=>(pc i pn)) pn) <| b9 0 27 h (fun j h=>?_) (fun j h=>?_)
   ·exact cd a 3 (kp [5,7]) [] 0 (MW N _ b N _ _ _ h E a)
   ·obtain ⟨k,l,h⟩:=a7 h;refine bc a 2 [(2,oT (Ml k))] (kp [1,10]) [] 464 (pc (B3 _ _ _ _ l) pn) <| ah a 0 (kp [0,1]) [] 528 <| cd a 2 (kp [0,1]) [] 0 (b _ _ _ h E a)
  ·refine ah a 2 (kp [4]) [] 80 ?_;obtain rfl:=lk h;exact dN a 0 Tryz.f212 (kp [4]) [] 80
theorem Tj (N a b r) (h:Ea N a b=some r):Sd 212 [(b8 a),(b8 b)] [] 0 (eJ r) []:=by
 unfold Ea at h;refine sO Tryz.f212 45 fun E c=>?_;refine ah c 1 (kp [0,1]) [] 16 <| cd c 3 (kp [0,1]) [] 0 (MY N N _ _ _ h E c)
noncomputable abbrev aqt:=bt Tryz.f154
def KG (N:Nat) (a:eN) (b:eN) (K:(List Int)->(List Int)->Option (aa)):Prop:=∀ (x:List Int) (y:List Int) (r:aa),K x y=some r->∀ E,aG E 0->ar Tryz.prog E 154 48 (aH E [] (aA r)) [.code (aqt 62),.code (aqt 63)] ⟨[(2,(.op 0 0 0)),(3,(.op 1 0 0)),(4,(.op 2 0 0)),(5,(b8 x)),(6,(b8 y))],[(0,vO 2 (TIc a)),(1,vO 2 (TIc b)),(2,vO 4 [(aB false),.nil,(aB false),.nil])],3⟩
theorem Al (N a b):KG N a b (qI N a b):=by
 intro x y r h E d;unfold qI at h;obtain ⟨c,e,h⟩:=a7 h;obtain ⟨f,g,h⟩:=a7 h;refine bc d 0 [(6,oT (bO c)),(8,oT (bO f))] (kp [4]) (kq [2]) 179 (pc o1 (pc o1 (pc (nC _ _ _ _ e) (pc (nC _ _ _ _ g) (pc o1 pn))))) ?_;cases h;exact ki d 0 Tryz.f154 [] (kp [4]) [(16,.aj 2)] 179 pn [16] (pc o1 pn)
theorem oD (N a b r) (h:mS N a b=some r):Sd 154 [(bO a),(bO b)] [] 0 (aA r) []:=by
 unfold mS at h;refine sO Tryz.f154 48 fun E d=>?_;refine ah d 1 sm jU 48 ?_;obtain ⟨g,i,h⟩:=a7 h;obtain ⟨j,k,h⟩:=a7 h;refine bc d 1 [(2,oT (eJ g)),(5,oT (eJ j))] GW jU 176 (pc o1 (pc (iX _ _ _ i) (pc o1 (pc (iX _ _ _ k) pn)))) ?_;obtain ⟨f,l,h⟩:=a7 h;refine bc d 1 [(2,oT (eJ f))] abe jU 240 (pc (Tj _ _ _ _ l) pn) ?_;obtain ⟨c,h⟩:=ae h;refine bD d 2 (kp [2,3,4,5,6,7,25]) jU 384 (pc (fun e:(ak9 f)=true=>(pc e (pc (c e) pn))) (pc (fun e:(ak9 f)=true=>(pc e pn)) (pc (fun e:(ak9 f)=true=>(pc e pn)) (pc (fun m:(ak9 f)=true=>(pc m pn)) pn)))) <| b9 0 25 h (fun n h=>?_) (fun n h=>?_)
 ·obtain ⟨o,p,h⟩:=a7 h;refine bc d 1 [(2,oT (Ml o))] abe jU 496 (pc (B3 _ _ _ _ p) pn) ?_;obtain ⟨q,s,h⟩:=a7 h;refine bc d 0 [(2,oT (Ml q))] GW jU 608 (pc (B3 _ _ _ _ s) pn) <| cd d 1 GW ahP 3 (Al N _ _ _ _ _ h E d)
 ·exact cd d 2 GW ahP 3 (Al N _ _ _ _ _ h E d)
theorem Wt (N a r) (h:H2 N a=some r):Sd 152 [(bO a)] [] 0 (aA r) []:=by
 unfold H2 at h;refine sO Tryz.f152 7 fun E b=>?_;refine ah b 1 (kp [1,2]) gS 32 ?_;obtain ⟨c,d,h⟩:=a7 h;refine bc b 1 [(3,⟨[],true,(aA c),[],0,true,none⟩)] (kp [2]) (kq [16]) 112 (pc o1 (pc (show Sd 154 [(bO a),(.agg [(aB false),(.sl 1 (fun zi=>(fun zi=>([[(a16 1)]]:List (List AV)).getD zi []) (da 0 zi)))])] [] 0 (aA c) [] from (Sound.conv (oD _ _ _ _ d) (.cons (Alike.refl _) (.cons (Alike.agg (.cons (Alike.refl _) (.cons (Alike.sl rfl (wV (cU .u16) 0 ([1]:List Int))) .nil))) .nil)))) (pc (z1 1) (pc o1 pn)))) ?_;obtain rfl:=lk h;exact ki b 0 Tryz.f152 [] (kp [2]) (kq [16]) 112 pn [16] (pc o1 pn)
theorem fQ (N n r) (h:gf N n=some r):Sd 83 [(aI n)] [] 0 (aA r) []:=by
 unfold gf at h;refine sO Tryz.f83 6 fun E a=>?_;refine ah a 1 (kp [0,2]) (kq [0]) 16 ?_;obtain ⟨rOf,c,h⟩:=a7 h;obtain ⟨b,d,h⟩:=a7 h;refine bc a 1 [(1,oT (bO rOf)),(2,oT (aA b))] (kp [2]) (kq [0]) 80 (pc (aem _ _ _ c) (pc (Wt _ _ _ d) (pc o1 pn))) ?_;obtain rfl:=lk h;exact ki a 0 Tryz.f83 [] (kp [2]) [(16,.aj 0)] 80 pn [16] (pc o1 pn)
theorem Bt (N a r) (h:z4 N a=some r):Sd 146 [(bO a)] [] 0 (aI r) []:=by
 unfold z4 at h;refine sO Tryz.f146 12 fun E b=>?_;refine ah b 1 (kp [1]) (kq [0]) 32 ?_;obtain ⟨c,d,h⟩:=a7 h;refine bc b 3 [(2,oT (eJ c))] (kp [1,3]) (kq [0]) 128 (pc o1 (pc (iX _ _ _ d) pn)) <| b9 0 3 h (fun e h=>?_) (fun e h=>?_)
 ·refine ah b 1 (kp [2]) [] 144 ?_;cases h;exact dN b 0 Tryz.f146 (kp [2]) [] 144
 ·refine bD b 1 (kp [9]) [] 176 (pc o1 pn) <| b9 0 9 h (fun f h=>?_) (fun f h=>?_)
  ·refine ah b 1 (kp [2]) [] 192 ?_;cases h;exact dN b 0 Tryz.f146 (kp [2]) [] 192
  ·refine ah b 3 (kp [2]) [] 192 ?_;cases h;exact dN b 0 Tryz.f146 (kp [2]) [] 192
theorem nf (N x r) (h:oC N x=some r):Sd 147 [(aA x)] [] 0 (bO r) []:=by
 unfold oC at h;refine sO Tryz.f147 11 fun E a=>?_;refine ah a 1 (kp [1,2]) gS 32 ?_;obtain ⟨CN,b,h⟩:=a7 h;refine bc a 2 [(2,oT (aI CN))] (kp [1,2,6]) gS 96 (pc o1 (pc (Bt _ _ _ b) pn)) <| b9 0 6 h (fun c h=>?_) (fun c h=>?_)
 ·refine bD a 1 (kp [2]) [(16,.var 16 [.aj,.mM (([1]:List Int).length)]),(96,ru 96 (cU .u16) 0 ([1]:List Int))] 144 (pc o1 (pc (Eq.refl 1) (pc (Eq.refl 1) (pc (wV (cU .u16) 0 ([1]:List Int)) pn)))) ?_;cases h;exact ki a 0 Tryz.f147 [96] (kp [2]) [(16,.var 16 [.aj,Cx (cU .u16) 0 ([1]:List Int)])] 144 (pc (Eq.refl (([1]:List Int).length)) (pc (z1 (([1]:List Int).length)) (pc (eZ (cU .u16) 0 ([1]:List Int)) pn))) [16] (pc o1 pn)
 ·refine bD a 2 (kp [2]) (kq [16]) 144 (pc o1 (pc o1 pn)) ?_;cases h;exact ki a 0 Tryz.f147 [] (kp [2]) (kq [16]) 144 pn [16] (pc o1 pn)
theorem qX (N x r) (h:mF N x=some r):Sd 84 [(aA x)] [] 0 (aA r) []:=by
 unfold mF at h;refine sO Tryz.f84 8 fun E a=>?_;refine ah a 1 (kp [1,2]) gS 32 ?_;obtain ⟨b,c,h⟩:=a7 h;obtain ⟨d,e,h⟩:=a7 h;refine bc a 1 [(3,oT (bO b)),(4,oT (aA d))] (kp [2]) (kq [16]) 128 (pc o1 (pc o1 (pc (nf _ _ _ c) (pc (oD _ _ _ _ e) (pc o1 pn))))) ?_;obtain rfl:=lk h;exact ki a 0 Tryz.f84 [] (kp [2]) (kq [16]) 128 pn [16] (pc o1 pn)
theorem OA (N a r) (h:yW N a=some r):Sd 155 [(bO a)] [] 0 (bO r) []:=by
 unfold yW at h;refine sO Tryz.f155 9 fun E b=>?_;refine ah b 1 (kp [1,2]) gS 32 <| bD b 1 (kp [2]) (kq [16]) 144 (pc o1 (pc o1 (pc o1 pn))) ?_
 cases h;exact ki b 0 Tryz.f155 [] (kp [2]) (kq [16]) 144 pn [16] (pc o1 pn)
theorem kS (N x r) (h:gK N x=some r):Sd 85 [(aA x)] [] 0 (aA r) []:=by
 unfold gK at h;refine sO Tryz.f85 9 fun E a=>?_;refine ah a 1 (kp [1,2]) gS 32 ?_;obtain ⟨b,c,h⟩:=a7 h;obtain ⟨d,e,h⟩:=a7 h;obtain ⟨f,g,h⟩:=a7 h;refine bc a 1 [(2,oT (bO b)),(4,oT (bO d)),(5,oT (aA f))] (kp [2]) (kq [16]) 144 (pc o1 (pc (OA _ _ _ c) (pc o1 (pc (nf _ _ _ e) (pc (oD _ _ _ _ g) (pc o1 pn)))))) ?_;obtain rfl:=lk h;exact ki a 0 Tryz.f85 [] (kp [2]) (kq [16]) 144 pn [16] (pc o1 pn)
noncomputable abbrev S6:=bt Tryz.f37
def RJ (N:Nat) (n:Int) (l:List a8) (a:aa) (K:(List Int)->Int->Option GH):Prop:=∀ (t:List Int) (x:Int) (r:ml),K t x=some r->∀ E,aG E 0->ar Tryz.prog E 37 157 (aH E [(0,vN 12 [(aI r.zN),(aI r.zO),(Jd r),(Je r),(.os 3 0 r.f_a.length),(.os 4 0 r.f_b.length),(Jf r),(Jv r),(Jy r),(Ju r),(Jx r),(aI r.b5)]),(Jk r),(Jn r),(Jo r),(Jp r),(Jq r)] (.op 0 0 0)) [.code (S6 116),.inLoop (S6 116),.inBlock 0,.code (S6 15)] ⟨[(0,(aI n)),(1,(qz l)),(5,(.op 0 0 0)),(25,(aI (aR (2 * n)))),(26,(aI x))],[(0,vN 12 [(aI n),(yq l),.nil,(mK t),.nil,.nil,.nil,(aB a.fN.fG),(BX a),(aB a.fD.fG),(BW a),(Mq n l)]),(ba t)],2⟩
def Am (N:Nat) (n:Int) (l:List a8) (a:aa) (t:List Int) (K:(List Int)->n7->aN->Int->Option GH):Prop:=∀ (t2:List Int) (b:List aN) (c:List aa) (d:Int) (r:ml),K t2 b c d=some r->∀ E,aG E 0->ar Tryz.prog E 37 157 (aH E [(0,vN 12 [(aI r.zN),(aI r.zO),(Jd r),(Je r),(.os 3 0 r.f_a.length),(.os 4 0 r.f_b.length),(Jf r),(Jv r),(Jy r),(Ju r),(Jx r),(aI r.b5)]),(Jk r),(Jn r),(Jo r),(Jp r),(Jq r)] (.op 0 0 0)) [.code (S6 500),.inLoop (S6 500),.inBlock 2,.code (S6 63)] ⟨[(0,(aI n)),(5,(.op 0 0 0)),(53,(qz l)),(54,(yq l)),(55,(aI d))],[(0,vN 12 [(aI n),(yq l),(mK t2),(Vx t n l),(tq b),(sf c),.nil,(aB a.fN.fG),(BX a),(aB a.fD.fG),(BW a),(Mq n l)]),(ba t2),(VD t n l),(dQ b),(dn c)],5⟩
def G5 (N:Nat) (n:Int) (l:List a8) (a:aa) (t:List Int) (t2:List Int) (c:List aN) (d:List aa) (b:Int) (K:aN->Int->Option GH):Prop:=∀ (row:List aa) (e:Int) (r:ml),K row e=some r->∀ E,aG E 0->ar Tryz.prog E 37 157 (aH E [(0,vN 12 [(aI r.zN),(aI r.zO),(Jd r),(Je r),(.os 3 0 r.f_a.length),(.os 4 0 r.f_b.length),(Jf r),(Jv r),(Jy r),(Ju r),(Jx r),(aI r.b5)]),(Jk r),(Jn r),(Jo r),(Jp r),(Jq r)] (.op 0 0 0)) [.code (S6 1025652),.inLoop (S6 1025652),.inBlock 4,.code (S6 128207),.inBlock 3,.code (S6 4007),.inLoop (S6 500),.inBlock 2,.code (S6 63)] ⟨[(0,(aI n)),(5,(.op 0 0 0)),(8,(.op 5 0 0)),(9,(po row)),(53,(qz l)),(54,(yq l)),(55,(aI b)),(77,(aI n)),(78,(aI e))],[(0,vN 12 [(aI n),(yq l),(.os 1 0 ((Uh t2 n b).length)),(Vx t n l),(tq c),(sf d),.nil,(aB a.fN.fG),(BX a),(aB a.fD.fG),(BW a),(Mq n l)]),(1,aO 1 cI 0 (Uh t2 n b)),(VD t n l),(dQ c),(dn d),(5,vO 5 (Zv (l.getD b.toNat a8.d))),(si row)],7⟩
def RK (N:Nat) (n:Int) (l:List a8) (a:aa) (t:List Int) (t2:List Int) (c:List aN) (d:List aa) (b:Int) (row:List aa) (e:Int) (K:aa->Option GH):Prop:=∀ (f:aa) (r:ml),K f=some r->∀ E,aG E 0->ar Tryz.prog E 37 157 (aH E [(0,vN 12 [(aI r.zN),(aI r.zO),(Jd r),(Je r),(.os 3 0 r.f_a.length),(.os 4 0 r.f_b.length),(Jf r),(Jv r),(Jy r),(Ju r),(Jx r),(aI r.b5)]),(Jk r),(Jn r),(Jo r),(Jp r),(Jq r)] (.op 0 0 0)) [.code (S6 131283559),.inBlock 5,.code (S6 8205223),.inLoop (S6 1025652),.inBlock 4,.code (S6 128207),.inBlock 3,.code (S6 4007),.inLoop (S6 500),.inBlock 2,.code (S6 63)] ⟨[(0,(aI n)),(5,(.op 0 0 0)),(8,(.op 5 0 0)),(9,(po row)),(10,(aI e)),(11,(.op 7 0 0)),(53,(qz l)),(54,(yq l)),(55,(aI b)),(77,(aI n)),(78,(aI e))],[(0,vN 12 [(aI n),(yq l),(.os 1 0 ((Uh t2 n b).length)),(Vx t n l),(tq c),(sf d),.nil,(aB a.fN.fG),(BX a),(aB a.fD.fG),(BW a),(Mq n l)]),(1,aO 1 cI 0 (Uh t2 n b)),(VD t n l),(dQ c),(dn d),(5,vO 5 (Zv (l.getD b.toNat a8.d))),(si row),(7,vO 4 (yp f))],8⟩
theorem Fs (N:Nat) (n:Int) (l:List a8) (d:aa) (t:List Int) (t2:List Int) (f:List aN) (g:List aa) (i:Int) (row:List aa) (a:Int) (j:aN->Int->Option GH) (k:(List Int)->n7->aN->Int->Option GH) (p:G5 N n l d t t2 f g i j) (s:Am N n l d t k):RK N n l d t t2 f g i row a (sR N n l d t t2 f g i row a j k):=by
 intro c r h E e;unfold sR at h;obtain ⟨b,q,h⟩:=a7 h;obtain ⟨m,h⟩:=ae h;obtain ⟨o,h⟩:=ae h;refine bc e 0 [(7,oT (aA b))] (kp [0,5,8] ++ [(9,.mM (((row.set a.toNat b).set (uA n a) c).length))] ++ kp [53,54,55,77,78]) (kq [0,1,2,3,4,5] ++ [(6,ru 6 dY aa.d ((row.set a.toNat b).set (uA n a) c))]) 216 (pc o1 (pc (kS _ _ _ q) (pc o1 (pc m (pc (dz m) (pc o (pc (dz o) (pc (show row.length=((row.set a.toNat b).set (uA n a) c).length from (fz (fz rfl))) (pc (show row.length=((row.set a.toNat b).set (uA n a) c).length from (fz (fz rfl))) (pc (xH dY aa.d (row.set a.toNat b) (uA n a) c (cn dY aa.d row a.toNat b)) pn)))))))))) <| ah e 1 V2 iu 248 <| cd e 1 V2 iu 7 (p _ _ _ h E e)
theorem OC (N:Nat) (n:Int) (l:List a8) (m:aa) (t:List Int) (t2:List Int) (e:List aN) (j:List aa) (q:Int) (s:(List Int)->n7->aN->Int->Option GH) (o:Am N n l m t s) (fuel:Nat):G5 N n l m t t2 e j q (jL N n l m t t2 e j q s fuel):=by
 induction fuel with
 | zero=>intro _ _ r h;rw [jL.eq_1] at h;cases h
 | succ fuel u =>
  intro row H r h E f;rw [jL.eq_2] at h;refine ah f 1 (kp [0,5,8,9,53,54,55,77,78,79]) iu 23 <| b9 1 79 h (fun w h=>?_) (fun w h=>?_)
  ·refine ah f 4 (kp [0,5,8,9,10,53,54,55,77,78]) iu 55 ?_;obtain ⟨x,y,h⟩:=a7 h;refine bc f 1 [(0,oT (aA x))] VZ abk 103 (pc (fQ _ _ _ y) (pc o1 pn)) <| bD f 2 (kp [0,5,8,9,10,11,53,54,55,77,78,86]) abk 183 (pc o1 pn) <| b9 0 86 h (fun z h=>?_) (fun z h=>?_)
   ·obtain ⟨A,h⟩:=ae h;obtain ⟨B,C,h⟩:=a7 h;refine bc f 0 [(5,oT (aA B))] VZ abk 295 (pc o1 (pc A (pc (qX _ _ _ C) (pc o1 pn)))) <| cd f 0 VZ ahF 8 (Fs N _ _ _ _ _ _ _ _ _ _ _ _ u o _ _ h E f)
   ·exact cd f 1 VZ ahF 8 (Fs N _ _ _ _ _ _ _ _ _ _ _ _ u o _ _ h E f)
  ·obtain ⟨a,D,h⟩:=a7 h;obtain ⟨k,h⟩:=ae h;refine bc f 2 [(3,oT (aA a))] (kp [0,5,8] ++ [(9,.mM ((wN row n a).length))] ++ kp [53,54,55]) (kq [0,1,2,3,4,5] ++ [(6,ru 6 dY aa.d (wN row n a))]) 119 (pc (fQ _ _ _ D) (pc k (pc (dz k) (pc (aF row ((aR (2 * n)).toNat) a) (pc (aF row ((aR (2 * n)).toNat) a) (pc (cn dY aa.d row ((aR (2 * n)).toNat) a) pn)))))) ?_;obtain ⟨F,h⟩:=ae h;refine bD f 1 aa9 ([(0,.var 0 [.aj,.aj,.aj,.aj,.mM ((Eo e row n a).length),.aj,.aj,.aj,.aj,.aj,.aj,.aj])] ++ kq [1,2,4,5,6] ++ [(231,.AO 231 ((Eo e row n a).length) [(e.length,6,(wN row n a).length)] (Mv e row n a))]) 295 (pc o1 (pc (Eq.refl e.length) (pc F (pc (show 0+1<=1 from (aV _)) (pc (oN [[(.os 6 0 ((wN row n a).length))]]) (pc o1 (pc (cj e [(wN row n a)]) (pc (cj e [(wN row n a)]) (pc (show ∀ g,g < (Eo e row n a).length->au [(e.length,6,(wN row n a).length)] (Mv e row n a) g=if g < e.length then (ai e) g else (fun zi=>([[(.os 6 0 ((wN row n a).length))]]:List (List AV)).getD zi []) (g - e.length) from (ak0 (b:=fun zi=>([[(.os 6 0 ((wN row n a).length))]]:List (List AV)).getD zi []) e (wN row n a) rfl rfl)) (pc (show ∀ g,g < (Eo e row n a).length->dA ((Mv e row n a) g)=true from (fun _ _=>rfl)) pn)))))))))) <| rnL 231 6 e.length (pc (anH e (wN row n a)) (pc (show au [(e.length,6,(wN row n a).length)] (Mv e row n a) e.length=[.os 6 0 (wN row n a).length] from if_pos rfl) (pc (show ∀ v,v < (wN row n a).length->qF (dY ((wN row n a).getD v aa.d))=true from fun _ _=>rfl) pn))) <| Lo f [] aa9 (kq [0,1,2,4,5] ++ [(231,.AO 231 ((Eo e row n a).length) [] (Mv e row n a))]) 295 (pc (Eq.refl ((Eo e row n a).length)) (pc (ags (sz:=4) (c:=dY) (d:=aa.d) (Eo e row n a) e.length 6 ((wN row n a).length) (wN row n a) [] (xJ e (wN row n a)) Kr) (pc (show ∀ g,g < (Eo e row n a).length->dA ((Mv e row n a) g)=true from fun _ _=>rfl) pn))) ?_
   obtain ⟨i,G,h⟩:=a7 h;obtain ⟨p,h⟩:=ae h;refine bc f 0 [(7,oT (aA i))] Rk ([(0,.var 0 [.aj,.aj,.aj,.aj,.aj,.mM ((j ++ ([i]:List aa)).length),.aj,.aj,.aj,.aj,.aj,.aj])] ++ kq [1,2,231] ++ [(439,ru 439 dY aa.d (j ++ ([i]:List aa)))]) 503 (pc o1 (pc o1 (pc (qX _ _ _ G) (pc (Eq.refl j.length) (pc p (pc (z1 1) (pc (oN [[(aB i.fN.fG),(BX i),(aB i.fD.fG),(BW i)]]) (pc o1 (pc (cj j ([i]:List aa)) (pc (cj j ([i]:List aa)) (pc (S5 dY aa.d j ([i]:List aa)) pn))))))))))) <| ah f 1 Rk (kq [0,1,2,231,439]) 535 <| cd f 1 Rk (kq [0,1,2] ++ [(3,.aj 231),(4,.aj 439)]) 5 (o _ _ _ _ _ h E f)
def RM (N:Nat) (n:Int) (l:List a8) (a:aa) (t:List Int) (t2:List Int) (c:List aN) (d:List aa) (K:aN->Int->Option GH):Prop:=∀ (b:List aa) (e:Int) (r:ml),K b e=some r->∀ E,aG E 0->ar Tryz.prog E 37 157 (aH E [(0,vN 12 [(aI r.zN),(aI r.zO),(Jd r),(Je r),(.os 3 0 r.f_a.length),(.os 4 0 r.f_b.length),(Jf r),(Jv r),(Jy r),(Ju r),(Jx r),(aI r.b5)]),(Jk r),(Jn r),(Jo r),(Jp r),(Jq r)] (.op 0 0 0)) [.code (S6 2036),.inLoop (S6 2036),.inBlock 6,.code (S6 255)] ⟨[(5,(.op 0 0 0)),(144,(aI (((aaV n).length:Nat):Int))),(145,(aI e))],[(0,vN 12 [(aI n),(yq l),(mK t2),(Vx t n l),(tq c),(sf d),(Mk b),(aB a.fN.fG),(BX a),(aB a.fD.fG),(BW a),(Mq n l)]),(ba t2),(VD t n l),(dQ c),(dn d),(fa b)],6⟩
theorem OD (N n l f t t2 t3 t4 fuel):RM N n l f t t2 t3 t4 (oO N n l f t t2 t3 t4 fuel):=by
 induction fuel with
 | zero=>intro _ _ r h;rw [oO.eq_1] at h;cases h
 | succ fuel g =>
  intro c d r h E a;rw [oO.eq_2] at h;refine ah a 1 (kp [5,144,145,146]) dp 22 <| b9 1 146 h (fun i h=>?_) (fun i h=>?_)
  ·refine ah a 4 (kp [5,12,144,145]) dp 54 ?_;obtain ⟨b,j,h⟩:=a7 h;obtain ⟨e,h⟩:=ae h;refine bc a 0 [(5,oT (aA b))] Ry ([(0,.var 0 [.aj,.aj,.aj,.aj,.aj,.aj,.mM (u5 c d b),.aj,.aj,.aj,.aj,.aj])] ++ kq [1,2,3,4] ++ [(5,ru 5 dY aa.d (c.set d.toNat b))]) 182 (pc o1 (pc (fQ _ _ _ j) (pc e (pc (dz e) (pc (aF c d.toNat b) (pc (aF c d.toNat b) (pc (cn dY aa.d c d.toNat b) pn))))))) <| ah a 1 Ry dp 214 <| cd a 1 Ry dp 6 (g _ _ _ h E a)
  ·refine ah a 2 (kp [4]) dp 54 ?_;cases h;exact dN a 0 Tryz.f37 (kp [4]) dp 54
theorem OE (N n l g t fuel):Am N n l g t (mV N n l g t fuel):=by
 induction fuel with
 | zero=>intro _ _ _ _ r h;rw [mV.eq_1] at h;cases h
 | succ fuel i =>
  intro t2 o p c r h E a;rw [mV.eq_2] at h;refine ah a 1 (kp [0,5,53,54,55,56]) Ep 21 <| b9 1 56 h (fun j h=>?_) (fun j h=>?_)
  ·obtain ⟨k,h⟩:=ae h;refine bD a 4 (kp [0,5,7,8,53,54,55]) (kq [0,1,2,3,4,69]) 117 (pc k (pc o1 pn)) ?_;obtain ⟨m,h⟩:=ae h;refine bD a 1 aa9 ([(0,.var 0 [.aj,.aj,.mM ((Uh t2 n c).length),.aj,.aj,.aj,.aj,.aj,.aj,.aj,.aj,.aj])] ++ kq [2,3,4,69] ++ [(277,ru 277 cI 0 (Uh t2 n c))]) 341 (pc o1 (pc (Eq.refl t2.length) (pc m (pc (z1 1) (pc (oN [[(aI (aR ((aR (2 * n))+c)))]]) (pc o1 (pc (cj t2 (Vq n c)) (pc (cj t2 (Vq n c)) (pc (S5 cI 0 t2 (Vq n c)) pn))))))))) ?_;obtain ⟨d,h⟩:=ae h;refine bD a 1 (kp [0,5,8] ++ [(9,.mM (acU n))] ++ kp [53,54,55]) (kq [0,2,3,4,69,277] ++ [(389,.arz 389 (acU n) (VP n))]) 421 (pc d.1 (pc (Int.le_refl (aR ((aR (2 * n))+1))) (pc d.2.1 (pc d.2.2 (pc (lR (Mj n) oz) (pc (lQ (Mj n) oz) (pc (show ∀ zi,zi < (aaV n).length->S4 ((fun _=>[(aB false),.nil,(aB false),.nil]) zi) ((VP n) zi) from (fun e f=>nU dY aa.d aa.d (Mj n) e ⟨.inl rfl,.inr ⟨rfl,_,rfl⟩,.inl rfl,.inr ⟨rfl,_,rfl⟩,trivial⟩ f)) pn))))))) <| ah a 2 V2 (kq [0,2,3,4,69,277,389]) 453 <| cd a 2 V2 (kq [0] ++ [(1,.aj 277)] ++ kq [2,3,4] ++ [(5,.aj 69),(6,.aj 389)]) 7 (OC N _ _ _ _ _ _ _ _ _ i N _ _ _ h E a)
  ·obtain ⟨b,h⟩:=ae h;refine bD a 2 (kp [5]) ([(0,.var 0 [.aj,.aj,.aj,.aj,.aj,.aj,.mM (acU n),.aj,.aj,.aj,.aj,.aj])] ++ kq [1,2,3,4] ++ [(85,.arz 85 (acU n) (VP n))]) 149 (pc b.1 (pc (Int.le_refl (aR ((aR (2 * n))+1))) (pc b.2.1 (pc b.2.2 (pc o1 (pc (lR (Mj n) oz) (pc (lQ (Mj n) oz) (pc (show ∀ zi,zi < (aaV n).length->S4 ((fun _=>[(aB false),.nil,(aB false),.nil]) zi) ((VP n) zi) from (fun e f=>nU dY aa.d aa.d (Mj n) e ⟨.inl rfl,.inr ⟨rfl,_,rfl⟩,.inl rfl,.inr ⟨rfl,_,rfl⟩,trivial⟩ f)) pn)))))))) <| bD a 2 Ry (kq [0,1,2,3,4,85]) 245 (pc o1 pn) <| cd a 2 Ry (kq [0,1,2,3,4] ++ [(5,.aj 85)]) 6 (OD N _ _ _ _ _ _ _ N _ _ _ h E a)
theorem OF (N n l b fuel):RJ N n l b (oP N n l b fuel):=by
 induction fuel with
 | zero=>intro _ _ r h;rw [oP.eq_1] at h;cases h
 | succ fuel d =>
  intro t x r h E a;rw [oP.eq_2] at h;refine ah a 1 (kp [0,1,5,25,26,27]) (kq [0,1]) 18 <| b9 1 27 h (fun e h=>?_) (fun e h=>?_)
  ·refine ah a 4 (kp [0,1,5,6,25,26]) (kq [0,1]) 50 ?_;obtain ⟨c,h⟩:=ae h;refine bD a 0 Q9 [(0,.var 0 [.aj,.aj,.aj,.mM ((t ++ (rf x)).length),.aj,.aj,.aj,.aj,.aj,.aj,.aj,.aj]),(162,ru 162 cI 0 (t ++ (rf x)))] 226 (pc o1 (pc (Eq.refl t.length) (pc c (pc (z1 1) (pc (oN [[(aI x)]]) (pc o1 (pc (cj t (rf x)) (pc (cj t (rf x)) (pc (S5 cI 0 t (rf x)) pn))))))))) <| ah a 1 Q9 (kq [0,162]) 258 <| cd a 1 Q9 (kq [0] ++ [(1,.aj 162)]) 2 (d _ _ _ h E a)
  ·obtain ⟨f,h⟩:=ae h;refine bD a 2 mL [(0,.var 0 [.aj,.aj,.aj,.mM ((Vw t n l).length),.aj,.aj,.aj,.aj,.aj,.aj,.aj,.aj]),(178,ru 178 cI 0 (Vw t n l))] 242 (pc o1 (pc o1 (pc (Eq.refl t.length) (pc f (pc (z1 1) (pc (oN [[(Mq n l)]]) (pc o1 (pc (cj t (aaW n l)) (pc (cj t (aaW n l)) (pc (S5 cI 0 t (aaW n l)) pn)))))))))) <| ah a 2 Rk (kq [0,178]) 290 <| cd a 2 Rk [(0,.var 0 [.aj,.aj,.xE 1,.aj,.xE 3,.xE 4,.aj,.aj,.aj,.aj,.aj,.aj]),(1,.nil 1 GM),(2,.aj 178),(3,.nim (mG ([]:List aN))),(4,.nil 4 (fun zi=>dY (([]:List aa).getD zi aa.d)))] 5 (OE N _ _ _ _ N _ _ _ _ _ h E a)
theorem Wu (N n l r) (h:CO N n l=some r):Sd 37 [(aI n),(qz l)] [] 0 (.op 0 0 0) [(0,vN 12 [(aI r.zN),(aI r.zO),(Jd r),(Je r),(.os 3 0 r.f_a.length),(.os 4 0 r.f_b.length),(Jf r),(Jv r),(Jy r),(Ju r),(Jx r),(aI r.b5)]),(Jk r),(Jn r),(Jo r),(Jp r),(Jq r)]:=by
 unfold CO at h;refine sO Tryz.f37 157 fun E a=>?_;refine ah a 1 (kp [0,1]) [] 16 ?_;obtain ⟨b,c,h⟩:=a7 h;refine bc a 1 [(8,oT (aA b))] mL (kq [176]) 208 (pc (fQ _ _ _ c) pn) <| ah a 2 Q9 (kq [176]) 256 <| cd a 2 Q9 [(0,.var 176 [.aj,.aj,.aj,.xE 1,.aj,.aj,.aj,.aj,.aj,.aj,.aj,.aj]),(1,.nil 1 GM)] 2 (OF N _ _ _ N _ _ _ h E a)
theorem tH (N x r) (h:qk N x=some r):Sd 71 [(aA x)] [] 0 (aI r) []:=by
 unfold qk at h;refine sO Tryz.f71 10 fun E a=>?_;refine ah a 1 (kp [1]) (kq [0]) 32 ?_;obtain ⟨CN,c,h⟩:=a7 h;obtain ⟨d,e,h⟩:=a7 h;obtain ⟨b,f,h⟩:=a7 h;refine bc a 1 [(2,oT (aI CN)),(4,oT (bO d)),(5,oT (aI b))] (kp [2]) [] 160 (pc o1 (pc (Bt _ _ _ c) (pc o1 (pc (nf _ _ _ e) (pc (Bt _ _ _ f) pn))))) ?_;cases h;exact dN a 0 Tryz.f71 (kp [2]) [] 160
theorem lH (N x r) (h:kx N x=some r):Sd 74 [(aA x)] [] 0 (aB r) []:=by
 unfold kx at h;refine sO Tryz.f74 7 fun E a=>?_;refine ah a 1 (kp [1]) (kq [0]) 32 ?_;obtain ⟨CN,b,h⟩:=a7 h;refine bc a 1 [(2,oT (aI CN))] (kp [2]) [] 112 (pc o1 (pc (Bt _ _ _ b) pn)) ?_;cases h;exact dN a 0 Tryz.f74 (kp [2]) [] 112
noncomputable abbrev Wv:=bt Tryz.f217
def G6 (N:Nat) (a:List Int) (b:List Int) (K:(List Int)->Int->Option kI):Prop:=∀ (out:List Int) (x:Int) (r:(List Int)),K out x=some r->∀ E,aG E 0->ar Tryz.prog E 217 67 (aH E [] (eJ r)) [.code (Wv 116),.inLoop (Wv 116),.inBlock 0,.code (Wv 15)] ⟨[(1,(b8 b)),(5,(nb out)),(17,(b8 a)),(18,(GI a)),(19,(aI x))],[(0,aU out)],1⟩
def RN (N:Nat) (a:List Int) (b:List Int) (x:Int) (K:(List Int)->Int->Int->Option kI):Prop:=∀ (d:List Int) (c:Int) (e:Int) (r:(List Int)),K d c e=some r->∀ E,aG E 0->ar Tryz.prog E 217 67 (aH E [] (eJ r)) [.code (Wv 119604),.inLoop (Wv 119604),.inBlock 2,.code (Wv 14951),.inBlock 1,.code (Wv 935),.inLoop (Wv 116),.inBlock 0,.code (Wv 15)] ⟨[(1,(b8 b)),(5,(nb d)),(6,(aI x)),(7,(a16 (wM a x))),(8,(Ef c)),(17,(b8 a)),(18,(GI a)),(19,(aI x)),(24,(b8 b)),(25,(GI b)),(26,(aI e))],[(0,aU d)],1⟩
theorem OG (N:Nat) (a:List Int) (b:List Int) (x:Int) (i:(List Int)->Int->Option kI) (k:G6 N a b i) (fuel:Nat):RN N a b x (oQ N a b x i fuel):=by
 induction fuel with
 | zero=>intro _ _ _ r h;rw [oQ.eq_1] at h;cases h
 | succ fuel l =>
  intro d c f r h E e;rw [oQ.eq_2] at h;refine ah e 1 (kp [1,5,6,7,8,17,18,19,24,25,26,27]) (kq [0]) 17 <| b9 1 27 h (fun m h=>?_) (fun m h=>?_)
  ·obtain ⟨n,h⟩:=ae h;refine bD e 4 (kp [1,5,6,7,8,9,10,17,18,19,24,25,26]) (kq [0]) 97 (pc n pn) ?_;obtain ⟨g,h⟩:=ae h;refine bD e 1 (kp [1,5,6,7,8,9,17,18,19,24,25,26]) (kq [0]) 353 (pc g (pc (dz g) pn)) <| bD e 1 (kp [1] ++ [(5,.mM ((amD d x f c a b).length))] ++ kp [6,7,8,17,18,19,24,25,26]) [(0,ru 0 (cU .u16) 0 (amD d x f c a b))] 481 (pc g (pc (dz g) (pc (aF d (uA x f) (aaP c a x b f d)) (pc (aF d (uA x f) (aaP c a x b f d)) (pc (cn (cU .u16) 0 d (uA x f) (aaP c a x b f d)) pn))))) <| bD e 0 Rq (kq [0]) 529 (pc (show (0:Int)<=16 by decide) pn) <| ah e 1 Rq (kq [0]) 561 <| cd e 1 Rq (kq [0]) 1 (l _ _ _ _ h E e)
  ·obtain ⟨j,h⟩:=ae h;refine bD e 1 (kp [1] ++ [(5,.mM ((d.set (Ye x b) (GF c)).length))] ++ kp [17,18,19]) [(0,ru 0 (cU .u16) 0 (d.set (Ye x b) (GF c)))] 161 (pc j (pc (dz j) (pc (aF d (Ye x b) (GF c)) (pc (aF d (Ye x b) (GF c)) (pc (cn (cU .u16) 0 d (Ye x b) (GF c)) pn))))) <| ah e 1 Wb (kq [0]) 193 <| cd e 1 Wb (kq [0]) 1 (k _ _ _ h E e)
theorem OI (N a b fuel):G6 N a b (oS N a b fuel):=by
 induction fuel with
 | zero=>intro _ _ r h;rw [oS.eq_1] at h;cases h
 | succ fuel d =>
  intro out x r h E c;rw [oS.eq_2] at h;refine ah c 1 (kp [1,5,17,18,19,20]) (kq [0]) 17 <| b9 1 20 h (fun e h=>?_) (fun e h=>?_)
  ·obtain ⟨f,h⟩:=ae h;refine bD c 4 (kp [1,5,6,7,17,18,19]) (kq [0]) 97 (pc f pn) <| ah c 1 (kp [1,5,6,7,8,17,18,19]) (kq [0]) 113 <| ah c 2 Rq (kq [0]) 161 <| cd c 2 Rq (kq [0]) 1 (OG N _ _ _ _ d N _ _ _ _ h E c)
  ·obtain ⟨g,i,h⟩:=a7 h;refine bc c 2 [(1,⟨[],true,(eJ g),[],0,true,none⟩)] (kp [4]) [] 65 (pc (iX _ _ _ i) (pc (z1 out.length) pn)) ?_;obtain rfl:=lk h;exact dN c 0 Tryz.f217 (kp [4]) [] 65
theorem Ww (N a b r) (h:zP N a b=some r):Sd 217 [(b8 a),(b8 b)] [] 0 (eJ r) []:=by
 unfold zP at h;refine sO Tryz.f217 67 fun E d=>?_;refine ah d 1 (kp [0,1]) [] 16 ?_;obtain ⟨c,h⟩:=ae h;refine bD d 1 (kp [0,1] ++ [(5,.mM ((ahm a b).length))]) [(96,ru 96 (cU .u16) 0 (ahm a b))] 128 (pc c.1 (pc (Int.le_refl (aaF a b)) (pc c.2.1 (pc c.2.2 (pc (lR (ahh a b) (0:Int)) (pc (lR (ahh a b) (0:Int)) (pc (vK (cU .u16) 0 0 (ahh a b)) pn))))))) <| ah d 2 Wb (kq [96]) 176 <| cd d 2 Wb [(0,.aj 96)] 1 (OI N _ _ N _ _ _ h E d)
theorem uG (N a b r) (h:vQ N a b=some r):Sd 159 [(bO a),(bO b)] [] 0 (bO r) []:=by
 unfold vQ at h;refine sO Tryz.f159 18 fun E c=>?_;refine ah c 1 sm jU 48 ?_;obtain ⟨e,f,h⟩:=a7 h;obtain ⟨g,i,h⟩:=a7 h;obtain ⟨j,k,h⟩:=a7 h;obtain ⟨d,l,h⟩:=a7 h;refine bc c 1 [(7,oT (eJ e)),(10,oT (eJ g)),(11,oT (eJ j)),(12,oT (bO d))] (kp [4]) (kq [32]) 272 (pc o1 (pc o1 (pc o1 (pc (iX _ _ _ f) (pc o1 (pc (iX _ _ _ i) (pc (Ww _ _ _ _ k) (pc (nC _ _ _ _ l) (pc o1 pn))))))))) ?_;obtain rfl:=lk h;exact ki c 0 Tryz.f159 [] (kp [4]) [(16,.aj 32)] 272 pn [16] (pc o1 pn)
noncomputable abbrev Tk:=bt Tryz.f214
def Tl (N:Nat) (K:(List Int)->(List Int)->Option kI):Prop:=∀ (a:List Int) (b:List Int) (r:(List Int)),K a b=some r->∀ E,aG E 0->ar Tryz.prog E 214 56 (aH E [] (eJ r)) [.code (Tk 14),.code (Tk 15)] ⟨[(0,(b8 a)),(1,(b8 b))],[],0⟩
def IH (N:Nat) (b:List Int) (c:List Int) (K:(List Int)->Int->Int->Option kI):Prop:=∀ (out:List Int) (a:Int) (x:Int) (r:(List Int)),K out a x=some r->∀ E,aG E 0->ar Tryz.prog E 214 56 (aH E [] (eJ r)) [.code (Tk 500),.inLoop (Tk 500),.inBlock 0,.code (Tk 63)] ⟨[(1,(b8 c)),(5,(nb out)),(6,(Ef a)),(20,(b8 b)),(21,(GI b)),(22,(aI x))],[(0,aU out)],1⟩
def Tm (N:Nat) (a:List Int) (c:List Int) (out:List Int) (x:Int) (K:Int->Option kI):Prop:=∀ (b:Int) (r:(List Int)),K b=some r->∀ E,aG E 0->ar Tryz.prog E 214 56 (aH E [] (eJ r)) [.code (Tk 128206),.code (Tk 128207),.inBlock 1,.code (Tk 4007),.inLoop (Tk 500),.inBlock 0,.code (Tk 63)] ⟨[(1,(b8 c)),(5,(nb out)),(6,(Ef b)),(20,(b8 a)),(21,(GI a)),(22,(aI x))],[(0,aU out)],1⟩
theorem G7 (N:Nat) (c:List Int) (d:List Int) (out:List Int) (x:Int) (e:(List Int)->Int->Int->Option kI) (f:IH N c d e):Tm N c d out x (uV N c d out x e):=by
 intro a r h E b;unfold uV at h;obtain ⟨g,h⟩:=ae h;refine bD b 0 (kp [1] ++ [(5,.mM ((acK out a).length))] ++ kp [6,20,21,22]) [(65,ru 65 (cU .u16) 0 (acK out a))] 97 (pc (Eq.refl out.length) (pc g (pc (z1 1) (pc (oN [[(Vv a)]]) (pc (cj out (Jt a)) (pc (cj out (Jt a)) (pc (S5 (cU .u16) 0 out (Jt a)) pn))))))) <| bD b 0 GU (kq [65]) 145 (pc (show (0:Int)<=16 by decide) pn) <| ah b 1 GU (kq [65]) 177 <| cd b 1 GU [(0,.aj 65)] 1 (f _ _ _ _ h E b)
theorem RP (N d e fuel):IH N d e (nu N d e fuel):=by
 induction fuel with
 | zero=>intro _ _ _ r h;rw [nu.eq_1] at h;cases h
 | succ fuel f =>
  intro out a x r h E b;rw [nu.eq_2] at h;refine ah b 1 (kp [1,5,6,20,21,22,23]) (kq [0]) 17 <| b9 1 23 h (fun i h=>?_) (fun i h=>?_)
  ·obtain ⟨j,h⟩:=ae h;refine bD b 4 (kp [1,5,6,7,8,20,21,22]) (kq [0]) 97 (pc j pn) <| ah b 1 (kp [1,5,6,7,20,21,22]) (kq [0]) 177 <| ah b 2 (kp [1,5,6,7,20,21,22,34]) (kq [0]) 241 <| b9 0 34 h (fun k h=>?_) (fun k h=>?_)
   ·obtain ⟨l,h⟩:=ae h;refine bD b 0 GU (kq [0]) 369 (pc l pn) <| cd b 1 GU (kq [0]) 1 (G7 N _ _ _ _ _ f _ _ h E b)
   ·exact cd b 2 GU (kq [0]) 1 (G7 N _ _ _ _ _ f _ _ h E b)
  ·obtain ⟨m,h⟩:=ae h;obtain ⟨g,n,h⟩:=a7 h;refine bc b 2 [(5,⟨[],true,(eJ g),[],0,true,none⟩)] (kp [4]) [] 129 (pc (Eq.refl out.length) (pc m (pc (z1 1) (pc (oN [[(Vv a)]]) (pc (show Sd 208 [(.sl (out.length+1) (fun zi=>((fun c=>if c < out.length then (fun zi=>(cU .u16) (out.getD zi 0)) c else (fun zi=>([[(Vv a)]]:List (List AV)).getD zi []) (c - out.length))) (da 0 zi)))] [] 0 (eJ g) [] from (Sound.conv (iX _ _ _ n) (.cons (Alike.sl (uS rfl rfl) (S5 (cU .u16) 0 out (Jt a))) .nil))) (pc (z1 (out.length+1)) pn)))))) ?_;obtain rfl:=lk h;exact dN b 0 Tryz.f214 (kp [4]) [] 129
theorem G8 (N):Tl N (uW N):=by
 intro b d r h E a;unfold uW at h;obtain ⟨c,h⟩:=ae h;refine bD a 0 (kp [0,1] ++ [(5,.mM ((List.replicate 0 0:List Int).length))]) [(48,ru 48 (cU .u16) 0 (List.replicate 0 0:List Int))] 80 (pc c.1 (pc c.2.2.2 (pc c.2.1 (pc c.2.2.1 (pc (lR 0 (0:Int)) (pc (lR 0 (0:Int)) (pc (vK (cU .u16) 0 0 0) pn))))))) <| ah a 1 Ag (kq [48]) 96 <| ah a 2 GU (kq [48]) 144 <| cd a 2 GU [(0,.aj 48)] 1 (RP N _ _ N _ _ _ _ h E a)
theorem Yg (N a b r) (h:CP N a b=some r):Sd 214 [(b8 a),(b8 b)] [] 0 (eJ r) []:=by
 unfold CP at h;refine sO Tryz.f214 56 fun E c=>?_;refine ah c 1 (kp [0,1]) [] 16 <| ah c 2 (kp [0,1,13]) [] 96 <| b9 0 13 h (fun d h=>?_) (fun d h=>?_)
 ·refine ah c 0 (kp [0,1]) [] 160 <| cd c 1 (kp [0,1]) [] 0 (G8 N _ _ _ h E c)
 ·exact cd c 2 (kp [0,1]) [] 0 (G8 N _ _ _ h E c)
noncomputable abbrev OJ:=bt Tryz.f216
def An (N:Nat) (a:List Int) (b:List Int) (K:(List Int)->Int->Int->Option kI):Prop:=∀ (out:List Int) (c:Int) (x:Int) (r:(List Int)),K out c x=some r->∀ E,aG E 0->ar Tryz.prog E 216 50 (aH E [] (eJ r)) [.code (OJ 244),.inLoop (OJ 244),.inBlock 0,.code (OJ 31)] ⟨[(1,(b8 b)),(5,(nb out)),(6,(Ef c)),(13,(b8 a)),(Jm a),(15,(aI x))],[(0,aU out)],1⟩
def RR (N:Nat) (a:List Int) (b:List Int) (out:List Int) (x:Int) (K:Int->Option kI):Prop:=∀ (y:Int) (r:(List Int)),K y=some r->∀ E,aG E 0->ar Tryz.prog E 216 50 (aH E [] (eJ r)) [.code (OJ 62670),.code (OJ 62671),.inBlock 1,.code (OJ 1959),.inLoop (OJ 244),.inBlock 0,.code (OJ 31)] ⟨[(1,(b8 b)),(5,(nb out)),(7,(aI x)),(8,(a16 (wM a x))),(9,(Ef y)),(13,(b8 a)),(Jm a),(15,(aI x))],[(0,aU out)],1⟩
def RU (N:Nat) (a:List Int) (b:List Int) (out:List Int) (x:Int) (y:Int) (K:Int->Option kI):Prop:=∀ (c:Int) (r:(List Int)),K c=some r->∀ E,aG E 0->ar Tryz.prog E 216 50 (aH E [] (eJ r)) [.code (OJ 125343),.inBlock 1,.code (OJ 1959),.inLoop (OJ 244),.inBlock 0,.code (OJ 31)] ⟨[(1,(b8 b)),(5,(nb out)),(6,(Ef c)),(7,(aI x)),(8,(a16 (wM a x))),(9,(Ef y)),(13,(b8 a)),(Jm a),(15,(aI x))],[(0,aU out)],1⟩
theorem Ft (N:Nat) (a:List Int) (b:List Int) (out:List Int) (x:Int) (y:Int) (e:(List Int)->Int->Int->Option kI) (g:An N a b e):RU N a b out x y (sS N a b out x y e):=by
 intro c r h E d;unfold sS at h;obtain ⟨f,h⟩:=ae h;refine bD d 0 (kp [1] ++ [(5,.mM ((amz out x a c y).length))] ++ kp [6,13,14,15]) [(0,ru 0 (cU .u16) 0 (amz out x a c y))] 193 (pc (show (0:Int)<=16 by decide) (pc f (pc (dz f) (pc (aF out x.toNat (aaQ a x c y)) (pc (aF out x.toNat (aaQ a x c y)) (pc (cn (cU .u16) 0 out x.toNat (aaQ a x c y)) pn)))))) <| ah d 1 Wc (kq [0]) 225 <| cd d 1 Wc (kq [0]) 1 (g _ _ _ _ h E d)
theorem Fu (N:Nat) (a:List Int) (b:List Int) (out:List Int) (x:Int) (d:(List Int)->Int->Int->Option kI) (e:An N a b d):RR N a b out x (sU N a b out x d):=by
 intro y r h E c;unfold sU at h;refine ah c 0 We (kq [0]) 17 <| ah c 2 (kp [1,5,6,7,8,9,13,14,15,35]) (kq [0]) 81 <| b9 0 35 h (fun f h=>?_) (fun f h=>?_)
 ·refine ah c 0 We (kq [0]) 97 <| cd c 0 We (kq [0]) 1 (Ft N _ _ _ _ _ _ e _ _ h E c)
 ·exact cd c 1 We (kq [0]) 1 (Ft N _ _ _ _ _ _ e _ _ h E c)
theorem OK (N a b fuel):An N a b (ky N a b fuel):=by
 induction fuel with
 | zero=>intro _ _ _ r h;rw [ky.eq_1] at h;cases h
 | succ fuel e =>
  intro out d x r h E c;rw [ky.eq_2] at h;refine ah c 1 (kp [1,5,6,13,14,15,16]) (kq [0]) 17 <| b9 1 16 h (fun f h=>?_) (fun f h=>?_)
  ·obtain ⟨g,h⟩:=ae h;refine bD c 4 (kp [1,5,6,7,8,13,14,15]) (kq [0]) 97 (pc g pn) <| ah c 1 Wf (kq [0]) 129 <| ah c 2 (kp [1,5,7,8,9,13,14,15,24]) (kq [0]) 193 <| b9 0 24 h (fun i h=>?_) (fun i h=>?_)
   ·obtain ⟨j,h⟩:=ae h;refine bD c 0 Wf (kq [0]) 321 (pc j pn) <| cd c 1 Wf (kq [0]) 1 (Fu N _ _ _ _ _ e _ _ h E c)
   ·exact cd c 2 Wf (kq [0]) 1 (Fu N _ _ _ _ _ e _ _ h E c)
  ·obtain ⟨k,l,h⟩:=a7 h;refine bc c 2 [(1,⟨[],true,(eJ k),[],0,true,none⟩)] (kp [4]) [] 65 (pc (iX _ _ _ l) (pc (z1 out.length) pn)) ?_;obtain rfl:=lk h;exact dN c 0 Tryz.f216 (kp [4]) [] 65
theorem KH (N a b r) (h:wW N a b=some r):Sd 216 [(b8 a),(b8 b)] [] 0 (eJ r) []:=by
 unfold wW at h;refine sO Tryz.f216 50 fun E d=>?_;refine ah d 1 (kp [0,1]) [] 16 ?_;obtain ⟨c,h⟩:=ae h;refine bD d 1 (kp [0,1] ++ [(5,.mM (ahf a))]) [(48,ru 48 (cU .u16) 0 (Vt a))] 80 (pc c.1 (pc (Int.le_refl (wZ a)) (pc c.2.1 (pc c.2.2 (pc (lR a.length (0:Int)) (pc (lR a.length (0:Int)) (pc (vK (cU .u16) 0 0 a.length) pn))))))) <| ah d 1 Ag (kq [48]) 96 <| ah d 2 Wc (kq [48]) 144 <| cd d 2 Wc [(0,.aj 48)] 1 (OK N _ _ N _ _ _ _ h E d)
theorem abz (N a b r) (h:Kx N a b=some r):Sd 158 [(bO a),(bO b)] [] 0 (bO r) []:=by
 unfold Kx at h;refine sO Tryz.f158 40 fun E c=>?_;refine ah c 1 sm jU 48 ?_;obtain ⟨f,g,h⟩:=a7 h;obtain ⟨i,j,h⟩:=a7 h;refine bc c 1 [(2,oT (eJ f)),(5,oT (eJ i))] GW jU 176 (pc o1 (pc (iX _ _ _ g) (pc o1 (pc (iX _ _ _ j) pn)))) <| bD c 2 (kp [2,3,4,5,6,17]) jU 256 (pc o1 (pc o1 pn)) <| b9 0 17 h (fun k h=>?_) (fun k h=>?_)
 ·obtain ⟨l,m,h⟩:=a7 h;obtain ⟨d,n,h⟩:=a7 h;refine bc c 1 [(4,oT (eJ l)),(5,oT (bO d))] (kp [4]) (kq [32]) 368 (pc o1 (pc (Yg _ _ _ _ m) (pc (nC _ _ _ _ n) (pc o1 pn)))) ?_;obtain rfl:=lk h;exact ki c 0 Tryz.f158 [] (kp [4]) [(16,.aj 32)] 368 pn [16] (pc o1 pn)
 ·obtain ⟨o,p,h⟩:=a7 h;refine bc c 3 [(2,oT (aI o))] (kp [2,3,4,5,6,27]) jU 320 (pc (G0 _ _ _ _ p) pn) <| b9 0 27 h (fun q h=>?_) (fun q h=>?_)
  ·obtain ⟨s,t,h⟩:=a7 h;obtain ⟨u,v,h⟩:=a7 h;refine bc c 1 [(4,oT (eJ s)),(5,oT (bO u))] (kp [4]) (kq [32]) 432 (pc o1 (pc (KH _ _ _ _ t) (pc (nC _ _ _ _ v) (pc o1 pn)))) ?_;obtain rfl:=lk h;exact ki c 0 Tryz.f158 [] (kp [4]) [(16,.aj 32)] 432 pn [16] (pc o1 pn)
  ·obtain ⟨w,x,h⟩:=a7 h;obtain ⟨e,y,h⟩:=a7 h;refine bc c 2 [(4,oT (eJ w)),(5,oT (bO e))] (kp [4]) (kq [32]) 432 (pc o1 (pc (KH _ _ _ _ x) (pc (nC _ _ _ _ y) (pc o1 pn)))) ?_;obtain rfl:=lk h;exact ki c 0 Tryz.f158 [] (kp [4]) [(16,.aj 32)] 432 pn [16] (pc o1 pn)
theorem iZ (N x y r) (h:fq N x y=some r):Sd 92 [(aA x),(aA y)] [] 0 (aA r) []:=by
 unfold fq at h;refine sO Tryz.f92 32 fun E a=>?_;refine ah a 1 sm jU 48 ?_;obtain ⟨c,d,h⟩:=a7 h;refine bc a 2 [(1,oT (aB c))] (kp [2,3,4,8]) jU 80 (pc o1 (pc (lH _ _ _ d) pn)) <| b9 0 8 h (fun e h=>?_) (fun e h=>?_)
 ·obtain ⟨f,g,h⟩:=a7 h;refine bc a 1 [(1,oT (aA f))] (kp [4]) (kq [32]) 128 (pc o1 (pc (qX _ _ _ g) (pc o1 pn))) ?_;obtain rfl:=lk h;exact ki a 0 Tryz.f92 [] (kp [4]) [(16,.aj 32)] 128 pn [16] (pc o1 pn)
 ·obtain ⟨i,j,h⟩:=a7 h;refine bc a 3 [(1,oT (aB i))] (kp [2,3,4,12]) jU 112 (pc o1 (pc (lH _ _ _ j) pn)) <| b9 0 12 h (fun k h=>?_) (fun k h=>?_)
  ·obtain ⟨l,m,h⟩:=a7 h;refine bc a 1 [(1,oT (aA l))] (kp [4]) (kq [32]) 160 (pc o1 (pc (qX _ _ _ m) (pc o1 pn))) ?_;obtain rfl:=lk h;exact ki a 0 Tryz.f92 [] (kp [4]) [(16,.aj 32)] 160 pn [16] (pc o1 pn)
  ·obtain ⟨n,o,h⟩:=a7 h;obtain ⟨p,q,h⟩:=a7 h;refine bc a 2 [(1,oT (bO n)),(3,oT (bO p))] GW (kq [0,16,32,176,192]) 240 (pc o1 (pc (nf _ _ _ o) (pc o1 (pc (nf _ _ _ q) (pc o1 (pc o1 pn)))))) ?_;obtain ⟨s,t,h⟩:=a7 h;obtain ⟨u,v,h⟩:=a7 h;obtain ⟨b,w,h⟩:=a7 h;obtain ⟨z,A,h⟩:=a7 h;obtain ⟨B,C,h⟩:=a7 h;refine bc a 1 [(3,oT (bO s)),(7,oT (bO u)),(8,oT (bO b)),(11,oT (bO z)),(12,oT (aA B))] (kp [4]) (kq [32]) 464 (pc o1 (pc o1 (pc (uG _ _ _ _ t) (pc o1 (pc o1 (pc (uG _ _ _ _ v) (pc (abz _ _ _ _ w) (pc o1 (pc o1 (pc (uG _ _ _ _ A) (pc (oD _ _ _ _ C) (pc o1 pn)))))))))))) ?_;obtain rfl:=lk h;exact ki a 0 Tryz.f92 [] (kp [4]) [(16,.aj 32)] 464 pn [16] (pc o1 pn)
theorem B4 (N x y r) (h:uy N x y=some r):Sd 96 [(aA x),(aA y)] [] 0 (aA r) []:=by
 unfold uy at h;refine sO Tryz.f96 9 fun E a=>?_;refine ah a 1 sm jU 48 ?_;obtain ⟨b,c,h⟩:=a7 h;obtain ⟨d,e,h⟩:=a7 h;refine bc a 1 [(2,oT (aA b)),(3,oT (aA d))] (kp [4]) (kq [32]) 128 (pc o1 (pc o1 (pc (kS _ _ _ c) (pc (iZ _ _ _ _ e) (pc o1 pn))))) ?_;obtain rfl:=lk h;exact ki a 0 Tryz.f96 [] (kp [4]) [(16,.aj 32)] 128 pn [16] (pc o1 pn)
theorem qY (N x y r) (h:mH N x y=some r):Sd 51 [(aA x),(aA y)] [] 0 (aI r) []:=by
 unfold mH at h;refine sO Tryz.f51 9 fun E a=>?_;refine ah a 1 (kp [2,3]) gS 48 ?_;obtain ⟨b,c,h⟩:=a7 h;obtain ⟨d,e,h⟩:=a7 h;refine bc a 1 [(2,oT (aA b)),(3,oT (aI d))] (kp [4]) [] 128 (pc o1 (pc o1 (pc (B4 _ _ _ _ c) (pc (tH _ _ _ e) pn)))) ?_;obtain rfl:=lk h;exact dN a 0 Tryz.f51 (kp [4]) [] 128
theorem Bu (N x y r) (h:xM N x y=some r):Sd 156 [(aA x),(aA y)] [] 0 (aA r) []:=by
 unfold xM at h;refine sO Tryz.f156 16 fun E a=>?_;refine ah a 1 sm jU 48 ?_;obtain ⟨b,c,h⟩:=a7 h;obtain ⟨d,e,h⟩:=a7 h;obtain ⟨f,g,h⟩:=a7 h;obtain ⟨i,j,h⟩:=a7 h;obtain ⟨k,l,h⟩:=a7 h;refine bc a 1 [(3,oT (bO b)),(4,oT (bO d)),(6,oT (bO f)),(9,oT (bO i)),(10,oT (aA k))] (kp [4]) (kq [32]) 240 (pc o1 (pc o1 (pc (nf _ _ _ c) (pc (uG _ _ _ _ e) (pc o1 (pc (nf _ _ _ g) (pc o1 (pc (uG _ _ _ _ j) (pc (oD _ _ _ _ l) (pc o1 pn)))))))))) ?_;obtain rfl:=lk h;exact ki a 0 Tryz.f156 [] (kp [4]) [(16,.aj 32)] 240 pn [16] (pc o1 pn)
theorem ja (N x y r) (h:fO N x y=some r):Sd 93 [(aA x),(aA y)] [] 0 (aA r) []:=by
 unfold fO at h;refine sO Tryz.f93 16 fun E a=>?_;refine ah a 1 sm jU 48 ?_;obtain ⟨b,c,h⟩:=a7 h;obtain ⟨d,e,h⟩:=a7 h;obtain ⟨f,g,h⟩:=a7 h;obtain ⟨i,j,h⟩:=a7 h;obtain ⟨k,l,h⟩:=a7 h;refine bc a 1 [(4,oT (bO b)),(6,oT (bO d)),(8,oT (bO f)),(9,oT (bO i)),(10,oT (aA k))] (kp [4]) (kq [32]) 240 (pc o1 (pc o1 (pc (uG _ _ _ _ c) (pc o1 (pc (nf _ _ _ e) (pc o1 (pc (nf _ _ _ g) (pc (uG _ _ _ _ j) (pc (oD _ _ _ _ l) (pc o1 pn)))))))))) ?_;obtain rfl:=lk h;exact ki a 0 Tryz.f93 [] (kp [4]) [(16,.aj 32)] 240 pn [16] (pc o1 pn)
noncomputable abbrev alg:=bt Tryz.f157
def xR (N:Nat) (j:Int) (f:aa) (b:List aa) (K:aN->Int->Option Gx):Prop:=∀ (a:List aa) (x:Int) (r:aN),K a x=some r->∀ E,aG E 1->ar Tryz.prog E 157 49 (aH E [(BT r)] (.tup [])) [.code (alg 28),.inLoop (alg 28),.inBlock 0] ⟨[(1,(.os 0 0 a.length)),(2,(.os 0 0 a.length)),(3,(aI j)),(9,(.op 1 0 0)),(Jl b),(13,(aI x))],[(Jj a),(1,vO 4 (yp f))],2⟩
def G9 (N:Nat) (j:Int) (f:aa) (b:List aa) (x:Int) (K:aN->Option Gx):Prop:=∀ (a:List aa) (r:aN),K a=some r->∀ E,aG E 1->ar Tryz.prog E 157 49 (aH E [(BT r)] (.tup [])) [.code (alg 231),.inLoop (alg 28),.inBlock 0] ⟨[(1,(.os 0 0 a.length)),(2,(.os 0 0 a.length)),(3,(aI j)),(9,(.op 1 0 0)),(Jl b),(13,(aI x))],[(Jj a),(1,vO 4 (yp f))],2⟩
theorem rk (N:Nat) (j:Int) (f:aa) (a:List aa) (x:Int) (c:aN->Int->Option Gx) (d:xR N j f a c):G9 N j f a x (n4 N j f a x c):=by
 intro e r h E b;unfold n4 at h;refine ah b 0 v5 (kq [0,1]) 34 <| cd b 1 v5 (kq [0,1]) 2 (d _ _ _ h E b)
theorem FF (N j f k fuel):xR N j f k (jS N j f k fuel):=by
 induction fuel with
 | zero=>intro _ _ r h;rw [jS.eq_1] at h;cases h
 | succ fuel i =>
  intro a x r h E b;rw [jS.eq_2] at h;refine ah b 1 (kp [1,2,3,9,12,13,14]) (kq [0,1]) 18 <| b9 1 14 h (fun l h=>?_) (fun l h=>?_)
  ·refine ah b 4 (kp [1,2,3,9,10,12,13]) (kq [0,1]) 50 <| ah b 1 (kp [1,2,3,9,10,12,13,18]) (kq [0,1]) 98 <| b9 0 18 h (fun m h=>?_) (fun m h=>?_)
   ·obtain ⟨c,h⟩:=ae h;obtain ⟨d,n,h⟩:=a7 h;refine bc b 0 [(7,oT (aA d))] ([(1,.mM (u5 a x d)),(2,.mM (u5 a x d))] ++ kp [3,9,12,13]) ([(VC a x d)] ++ kq [1]) 258 (pc o1 (pc c (pc (dz c) (pc (ja _ _ _ _ n) (pc c (pc (dz c) (pc (aF a x.toNat d) (pc (aF a x.toNat d) (pc (aF a x.toNat d) (pc (cn dY aa.d a x.toNat d) pn)))))))))) <| cd b 1 v5 (kq [0,1]) 2 (rk N _ _ _ _ _ i _ _ h E b)
   ·obtain ⟨e,h⟩:=ae h;obtain ⟨o,p,h⟩:=a7 h;refine bc b 1 [(4,oT (aB o))] (kp [1,2,3,9,10,12,13,33]) (kq [0,1]) 194 (pc e (pc (dz e) (pc (lH _ _ _ p) pn))) <| b9 0 33 h (fun q h=>?_) (fun q h=>?_)
    ·obtain ⟨s,t,h⟩:=a7 h;obtain ⟨g,u,h⟩:=a7 h;refine bc b 0 [(11,oT (aA s)),(12,oT (aA g))] ([(1,.mM (u5 a x g)),(2,.mM (u5 a x g))] ++ kp [3,9,12,13]) ([(VC a x g)] ++ kq [1]) 434 (pc e (pc (dz e) (pc o1 (pc e (pc (dz e) (pc (ja _ _ _ _ t) (pc (iZ _ _ _ _ u) (pc e (pc (dz e) (pc (aF a x.toNat g) (pc (aF a x.toNat g) (pc (aF a x.toNat g) (pc (cn dY aa.d a x.toNat g) pn))))))))))))) <| cd b 1 v5 (kq [0,1]) 2 (rk N _ _ _ _ _ i _ _ h E b)
    ·exact cd b 2 v5 (kq [0,1]) 2 (rk N _ _ _ _ _ i _ _ h E b)
  ·obtain rfl:=lk h;exact rnF b 1 Tryz.f157 [] [] (kq [0]) 49 pn [] pn
theorem JK (N j f a r) (h:yg N j f a=some r):Sd 157 [.il,(.os 0 0 a.length),(.os 0 0 a.length),(aI j),(aA f)] [(Jj a)] 1 (.tup []) [(BT r)]:=by
 unfold yg at h;refine sO Tryz.f157 49 fun E b=>?_;refine ah b 1 (kp [1,2,3,9]) (kq [0,1]) 17 <| ah b 1 v5 (kq [0,1]) 65 <| cd b 2 v5 (kq [0,1]) 2 (FF N _ _ _ N _ _ _ h E b)
noncomputable abbrev alh:=bt Tryz.f157
def u7 (N:Nat) (j:Int) (f:aa) (c:List aa) (a:List aa) (K:aN->Int->Option Gx):Prop:=∀ (b:List aa) (x:Int) (r:aN),K b x=some r->∀ E,aG E 2->ar Tryz.prog E 157 49 (aH E [(BT r),(ym a)] (.tup [])) [.code (alh 28),.inLoop (alh 28),.inBlock 0] ⟨[(1,(.os 0 0 b.length)),(2,(.os 1 0 a.length)),(3,(aI j)),(9,(.op 2 0 0)),(Jl c),(13,(aI x))],[(Jj b),(ym a),(2,vO 4 (yp f))],3⟩
def C9 (N:Nat) (j:Int) (f:aa) (c:List aa) (a:List aa) (x:Int) (K:aN->Option Gx):Prop:=∀ (b:List aa) (r:aN),K b=some r->∀ E,aG E 2->ar Tryz.prog E 157 49 (aH E [(BT r),(ym a)] (.tup [])) [.code (alh 231),.inLoop (alh 28),.inBlock 0] ⟨[(1,(.os 0 0 b.length)),(2,(.os 1 0 a.length)),(3,(aI j)),(9,(.op 2 0 0)),(Jl c),(13,(aI x))],[(Jj b),(ym a),(2,vO 4 (yp f))],3⟩
theorem px (N:Nat) (j:Int) (f:aa) (a:List aa) (b:List aa) (x:Int) (d:aN->Int->Option Gx) (e:u7 N j f a b d):C9 N j f a b x (ju N j f a b x d):=by
 intro g r h E c;unfold ju at h;refine ah c 0 v5 cJ 35 <| cd c 1 v5 cJ 3 (e _ _ _ h E c)
theorem B6 (N j f l m fuel):u7 N j f l m (eh N j f l m fuel):=by
 induction fuel with
 | zero=>intro _ _ r h;rw [eh.eq_1] at h;cases h
 | succ fuel k =>
  intro b x r h E a;rw [eh.eq_2] at h;refine ah a 1 (kp [1,2,3,9,12,13,14]) cJ 19 <| b9 1 14 h (fun o h=>?_) (fun o h=>?_)
  ·refine ah a 4 (kp [1,2,3,9,10,12,13]) cJ 51 <| ah a 1 (kp [1,2,3,9,10,12,13,18]) cJ 99 <| b9 0 18 h (fun p h=>?_) (fun p h=>?_)
   ·obtain ⟨c,h⟩:=ae h;obtain ⟨d,q,h⟩:=a7 h;obtain ⟨n,h⟩:=ae h;refine bc a 0 [(7,oT (aA d))] ([(1,.mM (u5 b x d))] ++ kp [2,3,9,12,13]) ([(VC b x d)] ++ kq [1,2]) 259 (pc o1 (pc c (pc (dz c) (pc (ja _ _ _ _ q) (pc n (pc (dz n) (pc (aF b x.toNat d) (pc (aF b x.toNat d) (pc (cn dY aa.d b x.toNat d) pn))))))))) <| cd a 1 v5 cJ 3 (px N _ _ _ _ _ _ k _ _ h E a)
   ·obtain ⟨g,h⟩:=ae h;obtain ⟨s,t,h⟩:=a7 h;refine bc a 1 [(4,oT (aB s))] (kp [1,2,3,9,10,12,13,33]) cJ 195 (pc g (pc (dz g) (pc (lH _ _ _ t) pn))) <| b9 0 33 h (fun u h=>?_) (fun u h=>?_)
    ·obtain ⟨i,h⟩:=ae h;obtain ⟨v,w,h⟩:=a7 h;obtain ⟨e,y,h⟩:=a7 h;refine bc a 0 [(11,oT (aA v)),(12,oT (aA e))] ([(1,.mM (u5 b x e))] ++ kp [2,3,9,12,13]) ([(VC b x e)] ++ kq [1,2]) 435 (pc i (pc (dz i) (pc o1 (pc g (pc (dz g) (pc (ja _ _ _ _ w) (pc (iZ _ _ _ _ y) (pc i (pc (dz i) (pc (aF b x.toNat e) (pc (aF b x.toNat e) (pc (cn dY aa.d b x.toNat e) pn)))))))))))) <| cd a 1 v5 cJ 3 (px N _ _ _ _ _ _ k _ _ h E a)
    ·exact cd a 2 v5 cJ 3 (px N _ _ _ _ _ _ k _ _ h E a)
  ·obtain rfl:=lk h;exact rnF a 1 Tryz.f157 [] [] (kq [0,1]) 50 pn [] pn
theorem rl (N j f c a r) (h:lp N j f c a=some r):Sd 157 [.il,(.os 0 0 c.length),(.os 1 0 a.length),(aI j),(aA f)] [(Jj c),(ym a)] 2 (.tup []) [(BT r),(ym a)]:=by
 unfold lp at h;refine sO Tryz.f157 49 fun E b=>?_;refine ah b 1 (kp [1,2,3,9]) cJ 18 <| ah b 1 v5 cJ 66 <| cd b 2 v5 cJ 3 (B6 N _ _ _ _ N _ _ _ h E b)
noncomputable abbrev M0:=bt Tryz.f86
def v7 (N:Nat) (i:Int) (j:Int) (g:Int) (h:Int) (k:Bool) (l:List Int) (m:Bool) (n:List Int) (o:Int) (c:List Int) (d:List Int) (a:List aN) (e:List aa) (f:List aa) (K:aN->Int->Option Js):Prop:=∀ (b:List aa) (x:Int) (r:ml×(List Int)×(List Int)×n7×aN×aN),K b x=some r->∀ E,aG E 6->ar Tryz.prog E 86 194 (aH E [(0,vN 12 [(aI r.1.zN),(aI r.1.zO),(.os 1 0 r.2.1.length),(.os 2 0 r.2.2.1.length),(.os 3 0 r.2.2.2.1.length),(.os 4 0 r.2.2.2.2.1.length),(.os 5 0 r.2.2.2.2.2.length),(aB r.1.ax.fN.fG),(En r),(aB r.1.ax.fD.fG),(Em r),(aI r.1.b5)]),(1,aO 1 cI 0 r.2.1),(2,aO 1 cI 0 r.2.2.1),(Eg r),(Ei r),(Ek r)] (.tup [])) [.code (M0 116),.inLoop (M0 116),.inBlock 0,.code (M0 15)] ⟨[(0,(.op 0 0 0)),(1,(aI i)),(2,(aI j)),(6,(.op 7 0 0)),(7,(po b)),(30,(aI (((kR a i).length:Nat):Int))),(31,(aI x))],[(fP g h c d a e f k l m n o),(ba c),(dL d),(3,⟨false,1,a.length,false,au [(cG i b)] (ai a)⟩),(dn e),(fa f),(si b),(7,vO 4 [(aB ((acP a i j).fG)),(eU ((acP a i j).fL)),(aB ((acO a i j).fG)),(eU ((acO a i j).fL))])],8⟩
def Eu (N:Nat) (i:Int) (j:Int) (g:Int) (h:Int) (k:Bool) (l:List Int) (m:Bool) (n:List Int) (o:Int) (c:List Int) (d:List Int) (a:List aN) (e:List aa) (f:List aa) (x:Int) (K:aN->Option Js):Prop:=∀ (b:List aa) (r:ml×(List Int)×(List Int)×n7×aN×aN),K b=some r->∀ E,aG E 6->ar Tryz.prog E 86 194 (aH E [(0,vN 12 [(aI r.1.zN),(aI r.1.zO),(.os 1 0 r.2.1.length),(.os 2 0 r.2.2.1.length),(.os 3 0 r.2.2.2.1.length),(.os 4 0 r.2.2.2.2.1.length),(.os 5 0 r.2.2.2.2.2.length),(aB r.1.ax.fN.fG),(En r),(aB r.1.ax.fD.fG),(Em r),(aI r.1.b5)]),(1,aO 1 cI 0 r.2.1),(2,aO 1 cI 0 r.2.2.1),(Eg r),(Ei r),(Ek r)] (.tup [])) [.code (M0 935),.inLoop (M0 116),.inBlock 0,.code (M0 15)] ⟨[(0,(.op 0 0 0)),(1,(aI i)),(2,(aI j)),(6,(.op 7 0 0)),(7,(po b)),(30,(aI (((kR a i).length:Nat):Int))),(31,(aI x))],[(fP g h c d a e f k l m n o),(ba c),(dL d),(3,⟨false,1,a.length,false,au [(cG i b)] (ai a)⟩),(dn e),(fa f),(si b),(7,vO 4 [(aB ((acP a i j).fG)),(eU ((acP a i j).fL)),(aB ((acO a i j).fG)),(eU ((acO a i j).fL))])],8⟩
theorem u9 (N:Nat) (i:Int) (j:Int) (d:Int) (e:Int) (f:Bool) (g:List Int) (k:Bool) (l:List Int) (m:Int) (n:List Int) (o:List Int) (a:List aN) (p:List aa) (q:List aa) (x:Int) (t:aN->Int->Option Js) (u:v7 N i j d e f g k l m n o a p q t):Eu N i j d e f g k l m n o a p q x (lP N i j d e f g k l m n o a p q x t):=by
 intro c r h E s;unfold lP at h;refine bD s 0 Mw (MM a i c) 40 (pc (Eq.refl a.length) (pc (show ∀ b,b < a.length->au [(cG i c)] (ai a) b=au [(cG i c)] (ai a) b from (fun _ _=>rfl)) (pc (show ∀ b,b < a.length->dA ((ai a) b)=true from (fun _ _=>rfl)) pn))) <| Z3 s 1 [] Mw (MM a i c) 8 (pc (Eq.refl a.length) (pc (show ∀ b,b < a.length->au [(cG i c)] (ai a) b=au [(cG i c)] (ai a) b from (fun _ _=>rfl)) (pc (show ∀ b,b < a.length->dA ((ai a) b)=true from (fun _ _=>rfl)) pn))) (u _ _ _ h E s)
def v8 (N:Nat) (i:Int) (j:Int) (h:Int) (k:Int) (l:Bool) (m:List Int) (n:Bool) (o:List Int) (p:Int) (d:List Int) (e:List Int) (q:List aN) (f:List aa) (K:n7->aN->aN->Int->Option Js):Prop:=∀ (a:List aN) (b:List aa) (c:List aa) (g:Int) (r:ml×(List Int)×(List Int)×n7×aN×aN),K a b c g=some r->∀ E,aG E 6->ar Tryz.prog E 86 194 (aH E [(0,vN 12 [(aI r.1.zN),(aI r.1.zO),(.os 1 0 r.2.1.length),(.os 2 0 r.2.2.1.length),(.os 3 0 r.2.2.2.1.length),(.os 4 0 r.2.2.2.2.1.length),(.os 5 0 r.2.2.2.2.2.length),(aB r.1.ax.fN.fG),(En r),(aB r.1.ax.fD.fG),(Em r),(aI r.1.b5)]),(1,aO 1 cI 0 r.2.1),(2,aO 1 cI 0 r.2.2.1),(Eg r),(Ei r),(Ek r)] (.tup [])) [.code (M0 1012),.inLoop (M0 1012),.inBlock 2,.code (M0 127)] ⟨[(0,(.op 0 0 0)),(1,(aI i)),(2,(aI j)),(7,(po b)),(74,(aI (q.length:Int))),(75,(aI g))],[(fP h k d e a c f l m n o p),(ba d),(dL e),(3,⟨false,1,a.length,false,au [(cG i b)] (ai a)⟩),(dn c),(fa f),(si b)],7⟩
def Ew (N:Nat) (i:Int) (j:Int) (g:Int) (h:Int) (k:Bool) (l:List Int) (m:Bool) (n:List Int) (o:Int) (d:List Int) (e:List Int) (p:List aN) (f:List aa) (q:Int) (K:n7->aN->aN->Option Js):Prop:=∀ (a:List aN) (b:List aa) (c:List aa) (r:ml×(List Int)×(List Int)×n7×aN×aN),K a b c=some r->∀ E,aG E 6->ar Tryz.prog E 86 194 (aH E [(0,vN 12 [(aI r.1.zN),(aI r.1.zO),(.os 1 0 r.2.1.length),(.os 2 0 r.2.2.1.length),(.os 3 0 r.2.2.2.1.length),(.os 4 0 r.2.2.2.2.1.length),(.os 5 0 r.2.2.2.2.2.length),(aB r.1.ax.fN.fG),(En r),(aB r.1.ax.fD.fG),(Em r),(aI r.1.b5)]),(1,aO 1 cI 0 r.2.1),(2,aO 1 cI 0 r.2.2.1),(Eg r),(Ei r),(Ek r)] (.tup [])) [.code (M0 8103),.inLoop (M0 1012),.inBlock 2,.code (M0 127)] ⟨[(0,(.op 0 0 0)),(1,(aI i)),(2,(aI j)),(7,(po b)),(74,(aI (p.length:Int))),(75,(aI q))],[(fP g h d e a c f k l m n o),(ba d),(dL e),(3,⟨false,1,a.length,false,au [(cG i b)] (ai a)⟩),(dn c),(fa f),(si b)],7⟩
theorem j9 (N:Nat) (i:Int) (j:Int) (d:Int) (e:Int) (f:Bool) (g:List Int) (k:Bool) (l:List Int) (m:Int) (n:List Int) (o:List Int) (p:List aN) (q:List aa) (t:Int) (u:n7->aN->aN->Int->Option Js) (v:v8 N i j d e f g k l m n o p q u):Ew N i j d e f g k l m n o p q t (fA N i j d e f g k l m n o p q t u):=by
 intro a c w r h E s;unfold fA at h;refine bD s 0 w5 (MN a i c) 39 (pc (Eq.refl a.length) (pc (show ∀ b,b < a.length->au [(cG i c)] (ai a) b=au [(cG i c)] (ai a) b from (fun _ _=>rfl)) (pc (show ∀ b,b < a.length->dA ((ai a) b)=true from (fun _ _=>rfl)) pn))) <| Z3 s 1 [] w5 (MN a i c) 7 (pc (Eq.refl a.length) (pc (show ∀ b,b < a.length->au [(cG i c)] (ai a) b=au [(cG i c)] (ai a) b from (fun _ _=>rfl)) (pc (show ∀ b,b < a.length->dA ((ai a) b)=true from (fun _ _=>rfl)) pn))) (v _ _ _ _ _ h E s)
def Ex (N:Nat) (i:Int) (j:Int) (m:Int) (n:Int) (o:Int) (b:List Int) (c:List Int) (d:List aN) (e:List aa) (f:List aa) (K:aN->Bool->(List Int)->Bool->(List Int)->Option Js):Prop:=∀ (a:List aa) (g:Bool) (h:List Int) (k:Bool) (l:List Int) (r:ml×(List Int)×(List Int)×n7×aN×aN),K a g h k l=some r->∀ E,aG E 6->ar Tryz.prog E 86 194 (aH E [(0,vN 12 [(aI r.1.zN),(aI r.1.zO),(.os 1 0 r.2.1.length),(.os 2 0 r.2.2.1.length),(.os 3 0 r.2.2.2.1.length),(.os 4 0 r.2.2.2.2.1.length),(.os 5 0 r.2.2.2.2.2.length),(aB r.1.ax.fN.fG),(En r),(aB r.1.ax.fD.fG),(Em r),(aI r.1.b5)]),(1,aO 1 cI 0 r.2.1),(2,aO 1 cI 0 r.2.2.1),(Eg r),(Ei r),(Ek r)] (.tup [])) [.code (M0 255)] ⟨[(0,(.op 0 0 0)),(1,(aI i)),(2,(aI j))],[(0,vN 12 [(aI m),(aI n),(mK b),(uC c),(.os 3 0 ((d.set i.toNat e).length)),(sf f),(Mk a),(aB g),(b8 h),(aB k),(b8 l),(aI o)]),(ba b),(dL c),(3,aM 4 dY aa.d (d.set i.toNat e)),(dn f),(fa a)],6⟩
theorem vb (N i j e f g a b k l m):Ex N i j e f g a b k l m (jX N i j e f g a b k l m):=by
 intro o p q s t r h E n;unfold jX at h;obtain ⟨c,h⟩:=ae h;obtain ⟨d,h⟩:=ae h;refine bD n 0 [] ([(0,.var 0 [.aj,.aj,.mM ((a.set i.toNat (wM b j)).length),.mM ((b.set j.toNat (wM a i)).length),.aj,.aj,.aj,.aj,.aj,.aj,.aj,.aj]),(1,ru 1 cI 0 (a.set i.toNat (wM b j))),(2,ru 2 cI 0 (b.set j.toNat (wM a i)))] ++ kq [3,4,5]) 454 (pc o1 (pc o1 (pc o1 (pc c (pc (dz c) (pc o1 (pc d (pc (dz d) (pc d (pc (dz d) (pc c (pc (dz c) (pc (aF a i.toNat (wM b j)) (pc (aF b j.toNat (wM a i)) (pc (aF a i.toNat (wM b j)) (pc (cn cI 0 a i.toNat (wM b j)) (pc (aF b j.toNat (wM a i)) (pc (cn cI 0 b j.toNat (wM a i)) pn)))))))))))))))))) ?_;cases h;exact rnF n 0 Tryz.f86 [] [] dp 454 pn [] pn
theorem Dc (N i j C0 bk cL dR eb ec cW C1 C2 C3 O fuel):v8 N i j C0 bk cL dR eb ec cW C1 C2 C3 O (du N i j C0 bk cL dR eb ec cW C1 C2 C3 O fuel):=by
 induction fuel with
 | zero=>intro _ _ _ _ r h;rw [du.eq_1] at h;cases h
 | succ fuel A =>
  intro a e p f r h E g;rw [du.eq_2] at h;refine bD g 1 (kp [0,1,2,7,74,75,76]) (MN a i e) 23 (pc (Eq.refl a.length) (pc (show ∀ b,b < a.length->au [(cG i e)] (ai a) b=au [(cG i e)] (ai a) b from (fun _ _=>rfl)) (pc (show ∀ b,b < a.length->dA ((ai a) b)=true from (fun _ _=>rfl)) pn))) <| b9 1 76 h (fun qN h=>?_) (fun qN h=>?_)
  ·refine bD g 4 (kp [0,1,2,7,9,74,75]) (MN a i e) 55 (pc (Eq.refl a.length) (pc (show ∀ b,b < a.length->au [(cG i e)] (ai a) b=au [(cG i e)] (ai a) b from (fun _ _=>rfl)) (pc (show ∀ b,b < a.length->dA ((ai a) b)=true from (fun _ _=>rfl)) pn))) ?_;rcases condSplit h with ⟨w,h⟩ | ⟨w,h⟩
   ·obtain ⟨x,h⟩:=ae h;obtain ⟨B,h⟩:=ae h;refine bc g 1 [(6,oF (po e))] Q8 (ahJ a i e) 247 (pc o1 (pc x (pc (dz x) (pc (show (au [(cG i e)] (ai a) f.toNat)[0]?=some (po e) from (gO (xl w))) (pc B (pc (dz B) (pc o1 (pc (Eq.refl a.length) (pc (show ∀ b,b < a.length->au [(cG i e)] (ai a) b=au [(cG i e)] (ai a) b from (fun _ _=>rfl)) (pc (show ∀ b,b < a.length->dA ((ai a) b)=true from (fun _ _=>rfl)) pn)))))))))) ?_;obtain ⟨jM,Et,h⟩:=a7 h;refine bc g 1 [(5,oT (aB jM))] ahy (ahJ a i e) 375 (pc (fun n:(f != i)=true=>(pc o1 pn)) (pc (fun n:(f != i)=true=>(pc (lH _ _ _ (aW Et n)) (pc n pn))) (pc (fun n:(f != i)=true=>(pc n pn)) (pc (fun P:(f != i)=true=>(pc P pn)) (pc (Eq.refl a.length) (pc (show ∀ b,b < a.length->au [(cG i e)] (ai a) b=au [(cG i e)] (ai a) b from (fun _ _=>rfl)) (pc (show ∀ b,b < a.length->dA ((ai a) b)=true from (fun _ _=>rfl)) pn))))))) <| b9 0 95 h (fun Ak h=>?_) (fun Ak h=>?_)
    ·obtain ⟨M,h⟩:=ae h;obtain ⟨C,h⟩:=ae h;obtain ⟨fm,MV,h⟩:=a7 h;obtain ⟨y,Oy,h⟩:=a7 h;refine bc g 1 [(20,oT (aA fm)),(21,oT (aA y))] Q8 ([(0,.var 0 [.aj,.aj,.aj,.aj,.aj,.mM (u5 p f y),.aj,.aj,.aj,.aj,.aj,.aj])] ++ kq [1,2] ++ [(3,.AO 3 (a.length) [(cG i e)] (ai a)),(4,ru 4 dY aa.d (p.set f.toNat y))] ++ kq [5,6,215]) 759 (pc o1 (pc o1 (pc M (pc (dz M) (pc o1 (pc o1 (pc C (pc (dz C) (pc (ja _ _ _ _ MV) (pc (iZ _ _ _ _ Oy) (pc M (pc (dz M) (pc (aF p f.toNat y) (pc (Eq.refl a.length) (pc (show ∀ b,b < a.length->au [(cG i e)] (ai a) b=au [(cG i e)] (ai a) b from (fun _ _=>rfl)) (pc (show ∀ b,b < a.length->dA ((ai a) b)=true from (fun _ _=>rfl)) (pc (aF p f.toNat y) (pc (cn dY aa.d p f.toNat y) pn)))))))))))))))))) ?_;rcases condSplit h with ⟨q,h⟩ | ⟨q,h⟩
     ·obtain ⟨u,Es,h⟩:=a7 h;obtain ⟨D,h⟩:=ae h;refine bc g 0 [(7,oF (po e)),(11,⟨[6],false,(.tup []),[(BT u)],0,false,none⟩)] (kp [0,1,2] ++ [(7,.mM (u.length))] ++ kp [74,75]) (ahL a i u) 951 (pc o1 (pc x (pc (dz x) (pc (show (au [(cG i e)] (ai a) f.toNat)[0]?=some (po e) from (gO (xl q))) (pc o1 (pc (JK _ _ _ _ _ Es) (pc (show e.length=u.length from (Eq.symm D)) (pc (Eq.refl a.length) (pc (show ∀ b,b < a.length->au [(i.toNat,6,u.length)] (ai a) b=au [(cG i e)] (ai a) b from (fun b _=>(congrArg (fun F=>au [(i.toNat,6,F)] (ai a) b) (Eq.symm (Eq.symm D))))) (pc (show ∀ b,b < a.length->dA ((ai a) b)=true from (fun _ _=>rfl)) pn)))))))))) <| Z3 g 1 [] w5 (ahL a i u) 7 (pc (Eq.refl a.length) (pc (show ∀ b,b < a.length->au [(i.toNat,6,u.length)] (ai a) b=au [(i.toNat,6,u.length)] (ai a) b from (fun _ _=>rfl)) (pc (show ∀ b,b < a.length->dA ((ai a) b)=true from (fun _ _=>rfl)) pn))) (j9 N _ _ _ _ _ _ _ _ _ _ _ _ _ _ _ A _ _ _ _ h E g)
     ·obtain ⟨v,h⟩:=ae h;refine rnO 3 f.toNat 4 (mN a f) (Ae a f) (pc v (pc (show au [(cG i e)] (ai a) f.toNat=mR 4 dY aa.d (kR a f) from (if_neg (yQ q))) pn)) ?_;obtain ⟨k,MZ,h⟩:=a7 h;obtain ⟨Q,h⟩:=ae h;refine bc g 0 [(7,oF (.os 759 0 (mN a f))),(11,⟨[759,6],false,(.tup []),[(BT k),(ym e)],0,false,none⟩)] w5 (kq [0,1,2] ++ [(3,.AO 3 (a.length) [(f.toNat,759,k.length),(cG i e)] (ai a))] ++ kq [4,5,6,759]) 967 (pc o1 (pc x (pc (dz x) (pc (show (au [(f.toNat,759,(kR a f).length),(cG i e)] (ai a) f.toNat)[0]?=some (.os 759 0 (mN a f)) from (gO rfl)) (pc o1 (pc (rl _ _ _ _ _ _ MZ) (pc (Eq.refl a.length) (pc (show ∀ b,b < a.length->au [(f.toNat,759,k.length),(cG i e)] (ai a) b=au [(f.toNat,759,(kR a f).length),(cG i e)] (ai a) b from (fun b _=>(congrArg (fun F=>au [(f.toNat,759,F),(cG i e)] (ai a) b) (Eq.symm (Eq.symm Q))))) (pc (show ∀ b,b < a.length->dA ((ai a) b)=true from (fun _ _=>rfl)) pn))))))))) <| rnL 3 759 f.toNat (pc v (pc (show au [(f.toNat,759,k.length),(cG i e)] (ai a) f.toNat=[.os 759 0 k.length] from if_pos rfl) (pc (show ∀ m,m < k.length->qF (dY (k.getD m aa.d))=true from fun _ _=>rfl) pn))) <| Lo g [] w5 ([(0,.var 0 [.aj,.aj,.aj,.aj,.mM ((a.set f.toNat k).length),.aj,.aj,.aj,.aj,.aj,.aj,.aj])] ++ kq [1,2] ++ [(3,.AO 3 ((a.set f.toNat k).length) [(cG i e)] (BZ a f k))] ++ kq [4,5,6]) 967 (pc (aF a f.toNat k) (pc (aF a f.toNat k) (pc (HX (sz:=4) (c:=dY) (d:=aa.d) a f.toNat 759 k.length k [(cG i e)] v (neC (Ne.symm (yQ q)) Kr)) (pc (show ∀ b,b < (a.set f.toNat k).length->dA ((BZ a f k) b)=true from fun _ _=>rfl) pn)))) <| Z3 g 1 [] w5 (ahO a f k i e) 7 (pc (Eq.refl ((a.set f.toNat k).length)) (pc (show ∀ b,b < (a.set f.toNat k).length->au [(cG i e)] (BZ a f k) b=au [(cG i e)] (BZ a f k) b from (fun _ _=>rfl)) (pc (show ∀ b,b < (a.set f.toNat k).length->dA ((BZ a f k) b)=true from (fun _ _=>rfl)) pn))) (j9 N _ _ _ _ _ _ _ _ _ _ _ _ _ _ _ A _ _ _ _ h E g)
    ·exact Z3 g 2 [] w5 (MN a i e) 7 (pc (Eq.refl a.length) (pc (show ∀ b,b < a.length->au [(cG i e)] (ai a) b=au [(cG i e)] (ai a) b from (fun _ _=>rfl)) (pc (show ∀ b,b < a.length->dA ((ai a) b)=true from (fun _ _=>rfl)) pn))) (j9 N _ _ _ _ _ _ _ _ _ _ _ _ _ _ _ A _ _ _ _ h E g)
   ·obtain ⟨o,h⟩:=ae h;refine rnO 3 f.toNat 4 (mN a f) (Ae a f) (pc o (pc (show au [(cG i e)] (ai a) f.toNat=mR 4 dY aa.d (kR a f) from (if_neg (yQ w))) pn)) ?_;obtain ⟨s,h⟩:=ae h;obtain ⟨G,h⟩:=ae h;refine bc g 1 [(6,oF (Gz a f))] Q8 (kq [0,1,2] ++ [(3,.AO 3 (a.length) [(Br f a),(cG i e)] (ai a))] ++ kq [4,5,6,55,231]) 263 (pc o1 (pc s (pc (dz s) (pc (show (au [(Br f a),(cG i e)] (ai a) f.toNat)[0]?=some (Gz a f) from (gO rfl)) (pc G (pc (dz G) (pc o1 (pc (Eq.refl a.length) (pc (show ∀ b,b < a.length->au [(Br f a),(cG i e)] (ai a) b=au [(Br f a),(cG i e)] (ai a) b from (fun _ _=>rfl)) (pc (show ∀ b,b < a.length->dA ((ai a) b)=true from (fun _ _=>rfl)) pn)))))))))) <| rnL 3 55 f.toNat (pc o (pc (show au [(Br f a),(cG i e)] (ai a) f.toNat=[.os 55 0 (kR a f).length] from if_pos rfl) (pc (show ∀ m,m < (kR a f).length->qF (dY ((kR a f).getD m aa.d))=true from fun _ _=>rfl) pn))) <| Lo g [] Q8 (ahK a i e) 263 (pc (Eq.refl (a.length)) (pc (xI (sz:=4) (c:=dY) (d:=aa.d) a f.toNat 55 (mN a f) [(cG i e)] (neC (Ne.symm (yQ w)) Kr)) (pc (show ∀ b,b < a.length->dA ((ai a) b)=true from fun _ _=>rfl) pn))) ?_
    obtain ⟨z6,R,h⟩:=a7 h;refine bc g 1 [(5,oT (aB z6))] ahy (ahK a i e) 391 (pc (fun n:(f != i)=true=>(pc o1 pn)) (pc (fun n:(f != i)=true=>(pc (lH _ _ _ (aW R n)) (pc n pn))) (pc (fun n:(f != i)=true=>(pc n pn)) (pc (fun P:(f != i)=true=>(pc P pn)) (pc (Eq.refl a.length) (pc (show ∀ b,b < a.length->au [(cG i e)] (ai a) b=au [(cG i e)] (ai a) b from (fun _ _=>rfl)) (pc (show ∀ b,b < a.length->dA ((ai a) b)=true from (fun _ _=>rfl)) pn))))))) <| b9 0 95 h (fun JJ h=>?_) (fun JJ h=>?_)
    ·obtain ⟨t,h⟩:=ae h;obtain ⟨H,h⟩:=ae h;obtain ⟨kz,S,h⟩:=a7 h;obtain ⟨z,T,h⟩:=a7 h;refine bc g 1 [(20,oT (aA kz)),(21,oT (aA z))] Q8 ([(0,.var 0 [.aj,.aj,.aj,.aj,.aj,.mM (u5 p f z),.aj,.aj,.aj,.aj,.aj,.aj])] ++ kq [1,2] ++ [(3,.AO 3 (a.length) [(cG i e)] (ai a)),(4,ru 4 dY aa.d (p.set f.toNat z))] ++ kq [5,6,231]) 775 (pc o1 (pc o1 (pc t (pc (dz t) (pc o1 (pc o1 (pc H (pc (dz H) (pc (ja _ _ _ _ S) (pc (iZ _ _ _ _ T) (pc t (pc (dz t) (pc (aF p f.toNat z) (pc (Eq.refl a.length) (pc (show ∀ b,b < a.length->au [(cG i e)] (ai a) b=au [(cG i e)] (ai a) b from (fun _ _=>rfl)) (pc (show ∀ b,b < a.length->dA ((ai a) b)=true from (fun _ _=>rfl)) (pc (aF p f.toNat z) (pc (cn dY aa.d p f.toNat z) pn)))))))))))))))))) <| rnO 3 f.toNat 4 (mN a f) (Ae a f) (pc o (pc (show au [(cG i e)] (ai a) f.toNat=mR 4 dY aa.d (kR a f) from (if_neg (yQ w))) pn)) ?_
     obtain ⟨l,U,h⟩:=a7 h;obtain ⟨V,h⟩:=ae h;refine bc g 0 [(7,oF (.os 775 0 (mN a f))),(11,⟨[775,6],false,(.tup []),[(BT l),(ym e)],0,false,none⟩)] w5 (kq [0,1,2] ++ [(3,.AO 3 (a.length) [(f.toNat,775,l.length),(cG i e)] (ai a))] ++ kq [4,5,6,775]) 983 (pc o1 (pc s (pc (dz s) (pc (show (au [(f.toNat,775,(kR a f).length),(cG i e)] (ai a) f.toNat)[0]?=some (.os 775 0 (mN a f)) from (gO rfl)) (pc o1 (pc (rl _ _ _ _ _ _ U) (pc (Eq.refl a.length) (pc (show ∀ b,b < a.length->au [(f.toNat,775,l.length),(cG i e)] (ai a) b=au [(f.toNat,775,(kR a f).length),(cG i e)] (ai a) b from (fun b _=>(congrArg (fun F=>au [(f.toNat,775,F),(cG i e)] (ai a) b) (Eq.symm (Eq.symm V))))) (pc (show ∀ b,b < a.length->dA ((ai a) b)=true from (fun _ _=>rfl)) pn))))))))) <| rnL 3 775 f.toNat (pc o (pc (show au [(f.toNat,775,l.length),(cG i e)] (ai a) f.toNat=[.os 775 0 l.length] from if_pos rfl) (pc (show ∀ m,m < l.length->qF (dY (l.getD m aa.d))=true from fun _ _=>rfl) pn))) <| Lo g [] w5 ([(0,.var 0 [.aj,.aj,.aj,.aj,.mM ((a.set f.toNat l).length),.aj,.aj,.aj,.aj,.aj,.aj,.aj])] ++ kq [1,2] ++ [(3,.AO 3 ((a.set f.toNat l).length) [(cG i e)] (BZ a f l))] ++ kq [4,5,6]) 983 (pc (aF a f.toNat l) (pc (aF a f.toNat l) (pc (HX (sz:=4) (c:=dY) (d:=aa.d) a f.toNat 775 l.length l [(cG i e)] o (neC (Ne.symm (yQ w)) Kr)) (pc (show ∀ b,b < (a.set f.toNat l).length->dA ((BZ a f l) b)=true from fun _ _=>rfl) pn)))) <| Z3 g 1 [] w5 (ahO a f l i e) 7 (pc (Eq.refl ((a.set f.toNat l).length)) (pc (show ∀ b,b < (a.set f.toNat l).length->au [(cG i e)] (BZ a f l) b=au [(cG i e)] (BZ a f l) b from (fun _ _=>rfl)) (pc (show ∀ b,b < (a.set f.toNat l).length->dA ((BZ a f l) b)=true from (fun _ _=>rfl)) pn))) (j9 N _ _ _ _ _ _ _ _ _ _ _ _ _ _ _ A _ _ _ _ h E g)
    ·exact Z3 g 2 [] w5 (MN a i e) 7 (pc (Eq.refl a.length) (pc (show ∀ b,b < a.length->au [(cG i e)] (ai a) b=au [(cG i e)] (ai a) b from (fun _ _=>rfl)) (pc (show ∀ b,b < a.length->dA ((ai a) b)=true from (fun _ _=>rfl)) pn))) (j9 N _ _ _ _ _ _ _ _ _ _ _ _ _ _ _ A _ _ _ _ h E g)
  ·obtain ⟨I,h⟩:=ae h;refine bD g 3 (kp [0,1,2,7,11]) (abn a i e) 167 (pc o1 (pc I (pc (dz I) (pc o1 (pc (Eq.refl a.length) (pc (show ∀ b,b < a.length->au [(cG i e)] (ai a) b=au [(cG i e)] (ai a) b from (fun _ _=>rfl)) (pc (show ∀ b,b < a.length->dA ((ai a) b)=true from (fun _ _=>rfl)) pn))))))) ?_;obtain ⟨Qr,W,h⟩:=a7 h;refine bc g 1 [(1,oT (aB Qr))] (kp [0,1,2,7,11,141]) (abn a i e) 215 (pc o1 (pc (lH _ _ _ W) (pc (Eq.refl a.length) (pc (show ∀ b,b < a.length->au [(cG i e)] (ai a) b=au [(cG i e)] (ai a) b from (fun _ _=>rfl)) (pc (show ∀ b,b < a.length->dA ((ai a) b)=true from (fun _ _=>rfl)) pn))))) <| b9 0 141 h (fun Yh h=>?_) (fun Yh h=>?_)
   ·obtain ⟨J,h⟩:=ae h;obtain ⟨Qs,X,h⟩:=a7 h;obtain ⟨n5,Y,h⟩:=a7 h;refine bc g 1 [(13,oT (aA Qs)),(14,oT (aA n5))] (kp [0,1,2,7,11]) (abn a i e) 503 (pc o1 (pc o1 (pc o1 (pc J (pc (dz J) (pc (ja _ _ _ _ X) (pc (iZ _ _ _ _ Y) (pc o1 (pc (Eq.refl a.length) (pc (show ∀ b,b < a.length->au [(cG i e)] (ai a) b=au [(cG i e)] (ai a) b from (fun _ _=>rfl)) (pc (show ∀ b,b < a.length->dA ((ai a) b)=true from (fun _ _=>rfl)) pn))))))))))) ?_;obtain ⟨Z,ato,h⟩:=a7 h;obtain ⟨c25,h⟩:=ae h;refine bc g 0 [(8,⟨[5,6],false,(.tup []),[(BT Z),(ym e)],0,false,none⟩)] qA ([(0,.var 0 [.aj,.aj,.aj,.aj,.aj,.aj,.mM (Z.length),.aj,.aj,.aj,.aj,.aj])] ++ kq [1,2] ++ [(3,.AO 3 (a.length) [(cG i e)] (ai a))] ++ kq [4,5,6]) 647 (pc o1 (pc o1 (pc (rl _ _ _ _ _ _ ato) (pc (show O.length=Z.length from (Eq.symm c25)) (pc (Eq.refl a.length) (pc (show ∀ b,b < a.length->au [(cG i e)] (ai a) b=au [(cG i e)] (ai a) b from (fun _ _=>rfl)) (pc (show ∀ b,b < a.length->dA ((ai a) b)=true from (fun _ _=>rfl)) pn))))))) ?_;obtain ⟨K,h⟩:=ae h;refine rnL 3 6 i.toNat (pc K (pc (show au [(cG i e)] (ai a) i.toNat=[.os 6 0 e.length] from if_pos rfl) (pc (show ∀ m,m < e.length->qF (dY (e.getD m aa.d))=true from fun _ _=>rfl) pn))) <| Lo g [] qA ([(0,.var 0 [.aj,.aj,.aj,.aj,.mM ((a.set i.toNat e).length),.aj,.aj,.aj,.aj,.aj,.aj,.aj])] ++ kq [1,2] ++ [(3,.AO 3 ((a.set i.toNat e).length) [] (VR a i e))] ++ kq [4,5]) 647 (pc (aF a i.toNat e) (pc (aF a i.toNat e) (pc (HX (sz:=4) (c:=dY) (d:=aa.d) a i.toNat 6 e.length e [] K Kr) (pc (show ∀ b,b < (a.set i.toNat e).length->dA ((VR a i e) b)=true from fun _ _=>rfl) pn)))) <| cd g 0 qA dp 6 (vb N _ _ _ _ _ _ _ _ _ _ _ _ _ _ _ _ h E g)
   ·obtain ⟨L,h⟩:=ae h;refine rnL 3 6 i.toNat (pc L (pc (show au [(cG i e)] (ai a) i.toNat=[.os 6 0 e.length] from if_pos rfl) (pc (show ∀ m,m < e.length->qF (dY (e.getD m aa.d))=true from fun _ _=>rfl) pn))) <| Lo g [] qA ([(0,.var 0 [.aj,.aj,.aj,.aj,.mM ((a.set i.toNat e).length),.aj,.aj,.aj,.aj,.aj,.aj,.aj])] ++ kq [1,2] ++ [(3,.AO 3 ((a.set i.toNat e).length) [] (VR a i e))] ++ kq [4,5,135]) 215 (pc (aF a i.toNat e) (pc (aF a i.toNat e) (pc (HX (sz:=4) (c:=dY) (d:=aa.d) a i.toNat 6 e.length e [] L Kr) (pc (show ∀ b,b < (a.set i.toNat e).length->dA ((VR a i e) b)=true from fun _ _=>rfl) pn)))) <| cd g 1 qA dp 6 (vb N _ _ _ _ _ _ _ _ _ _ _ _ _ _ _ _ h E g)
theorem Dd (N i j p q s t u v w y z a g A fuel):v7 N i j p q s t u v w y z a g A (fB N i j p q s t u v w y z a g A fuel):=by
 induction fuel with
 | zero=>intro _ _ r h;rw [fB.eq_1] at h;cases h
 | succ fuel B =>
  intro c x r h E e;rw [fB.eq_2] at h;refine bD e 1 (kp [0,1,2,6,7,30,31,32]) (MM a i c) 24 (pc (Eq.refl a.length) (pc (show ∀ b,b < a.length->au [(cG i c)] (ai a) b=au [(cG i c)] (ai a) b from (fun _ _=>rfl)) (pc (show ∀ b,b < a.length->dA ((ai a) b)=true from (fun _ _=>rfl)) pn))) <| b9 1 32 h (fun D h=>?_) (fun D h=>?_)
  ·refine bD e 4 (kp [0,1,2,6,7,8,30,31]) (MM a i c) 56 (pc (Eq.refl a.length) (pc (show ∀ b,b < a.length->au [(cG i c)] (ai a) b=au [(cG i c)] (ai a) b from (fun _ _=>rfl)) (pc (show ∀ b,b < a.length->dA ((ai a) b)=true from (fun _ _=>rfl)) pn))) <| bD e 1 (kp [0,1,2,6,7,8,30,31,36]) (MM a i c) 104 (pc (Eq.refl a.length) (pc (show ∀ b,b < a.length->au [(cG i c)] (ai a) b=au [(cG i c)] (ai a) b from (fun _ _=>rfl)) (pc (show ∀ b,b < a.length->dA ((ai a) b)=true from (fun _ _=>rfl)) pn))) <| b9 0 36 h (fun F h=>?_) (fun F h=>?_)
   ·obtain ⟨l,h⟩:=ae h;obtain ⟨pR,G,h⟩:=a7 h;obtain ⟨f,H,h⟩:=a7 h;refine bc e 0 [(7,oT (aA pR)),(8,oT (aA f))] (kp [0,1,2,6] ++ [(7,.mM (u5 c x f))] ++ kp [30,31]) (ahM a i c x f) 280 (pc l (pc (dz l) (pc o1 (pc (Bu _ _ _ _ G) (pc (kS _ _ _ H) (pc l (pc (dz l) (pc (aF c x.toNat f) (pc (Eq.refl a.length) (pc (show ∀ b,b < a.length->au [(Bs i c x f)] (ai a) b=au [(cG i c)] (ai a) b from (fun b _=>(congrArg (fun n=>au [(i.toNat,6,n)] (ai a) b) (Eq.symm (fz rfl))))) (pc (show ∀ b,b < a.length->dA ((ai a) b)=true from (fun _ _=>rfl)) (pc (aF c x.toNat f) (pc (cn dY aa.d c x.toNat f) pn))))))))))))) <| Z3 e 1 [] Mw (kq [0,1,2] ++ [(3,.AO 3 (a.length) [(Bs i c x f)] (ai a))] ++ kq [4,5,6,7]) 8 (pc (Eq.refl a.length) (pc (show ∀ b,b < a.length->au [(Bs i c x f)] (ai a) b=au [(Bs i c x f)] (ai a) b from (fun _ _=>rfl)) (pc (show ∀ b,b < a.length->dA ((ai a) b)=true from (fun _ _=>rfl)) pn))) (u9 N _ _ _ _ _ _ _ _ _ _ _ _ _ _ _ _ B _ _ h E e)
   ·exact Z3 e 2 [] Mw (MM a i c) 8 (pc (Eq.refl a.length) (pc (show ∀ b,b < a.length->au [(cG i c)] (ai a) b=au [(cG i c)] (ai a) b from (fun _ _=>rfl)) (pc (show ∀ b,b < a.length->dA ((ai a) b)=true from (fun _ _=>rfl)) pn))) (u9 N _ _ _ _ _ _ _ _ _ _ _ _ _ _ _ _ B _ _ h E e)
  ·obtain ⟨I,J,h⟩:=a7 h;obtain ⟨d,K,h⟩:=a7 h;obtain ⟨C,h⟩:=ae h;refine bc e 2 [(2,oT (aA I)),(4,oT (aA d))] (kp [0,1,2,6] ++ [(7,.mM (u5 c j d))]) (ahM a i c j d) 136 (pc (fQ _ _ _ J) (pc o1 (pc (Bu _ _ _ _ K) (pc C (pc (dz C) (pc (aF c j.toNat d) (pc (Eq.refl a.length) (pc (show ∀ b,b < a.length->au [(Bs i c j d)] (ai a) b=au [(cG i c)] (ai a) b from (fun b _=>(congrArg (fun n=>au [(i.toNat,6,n)] (ai a) b) (Eq.symm (fz rfl))))) (pc (show ∀ b,b < a.length->dA ((ai a) b)=true from (fun _ _=>rfl)) (pc (aF c j.toNat d) (pc (cn dY aa.d c j.toNat d) pn))))))))))) ?_;obtain ⟨m,h⟩:=ae h;obtain ⟨o,L,h⟩:=a7 h;obtain ⟨k,M,h⟩:=a7 h;refine bc e 1 [(13,oT (aA o)),(14,oT (aA k))] VS ([(0,.var 0 [.aj,.aj,.aj,.aj,.aj,.mM (u5 g i k),.aj,.aj,.aj,.aj,.aj,.aj])] ++ kq [1,2] ++ [(3,.AO 3 (a.length) [(Bs i c j d)] (ai a)),(4,ru 4 dY aa.d (g.set i.toNat k))] ++ kq [5,6]) 408 (pc o1 (pc o1 (pc m (pc (dz m) (pc o1 (pc (Bu _ _ _ _ L) (pc (kS _ _ _ M) (pc m (pc (dz m) (pc (aF g i.toNat k) (pc (Eq.refl a.length) (pc (show ∀ b,b < a.length->au [(Bs i c j d)] (ai a) b=au [(Bs i c j d)] (ai a) b from (fun _ _=>rfl)) (pc (show ∀ b,b < a.length->dA ((ai a) b)=true from (fun _ _=>rfl)) (pc (aF g i.toNat k) (pc (cn dY aa.d g i.toNat k) pn))))))))))))))) <| bD e 2 w5 (kq [0,1,2] ++ [(3,.AO 3 (a.length) [(Bs i c j d)] (ai a))] ++ kq [4,5,6]) 504 (pc o1 (pc (Eq.refl a.length) (pc (show ∀ b,b < a.length->au [(Bs i c j d)] (ai a) b=au [(Bs i c j d)] (ai a) b from (fun _ _=>rfl)) (pc (show ∀ b,b < a.length->dA ((ai a) b)=true from (fun _ _=>rfl)) pn)))) <| Z3 e 2 [] w5 (kq [0,1,2] ++ [(3,.AO 3 (a.length) [(Bs i c j d)] (ai a))] ++ kq [4,5,6]) 7 (pc (Eq.refl a.length) (pc (show ∀ b,b < a.length->au [(Bs i c j d)] (ai a) b=au [(Bs i c j d)] (ai a) b from (fun _ _=>rfl)) (pc (show ∀ b,b < a.length->dA ((ai a) b)=true from (fun _ _=>rfl)) pn))) (Dc N _ _ _ _ _ _ _ _ _ _ _ _ _ N _ _ _ _ _ h E e)
theorem sq (N i j o p q s t u v g k a l m r) (h:mn N i j o p q s t u v g k a l m=some r):Sd 86 [(.op 0 0 0),(aI i),(aI j)] [(fP o p g k a l m q s t u v),(ba g),(dL k),(dQ a),(dn l),(fa m)] 6 (.tup []) [(0,vN 12 [(aI r.1.zN),(aI r.1.zO),(.os 1 0 r.2.1.length),(.os 2 0 r.2.2.1.length),(.os 3 0 r.2.2.2.1.length),(.os 4 0 r.2.2.2.2.1.length),(.os 5 0 r.2.2.2.2.2.length),(aB r.1.ax.fN.fG),(En r),(aB r.1.ax.fD.fG),(Em r),(aI r.1.b5)]),(1,aO 1 cI 0 r.2.1),(2,aO 1 cI 0 r.2.2.1),(Eg r),(Ei r),(Ek r)]:=by
 unfold mn at h;refine sO Tryz.f86 194 fun E e=>?_;obtain ⟨n,h⟩:=ae h;refine rnO 3 i.toNat 4 (mN a i) (Ae a i) (pc n (pc (show au [] (ai a) i.toNat=mR 4 dY aa.d (kR a i) from rfl) pn)) ?_;obtain ⟨f,h⟩:=ae h;obtain ⟨w,h⟩:=ae h;refine bc e 1 [(6,oF (.os 6 0 (mN a i)))] (kp [0,1,2,6]) (kq [0,1,2] ++ [(3,.AO 3 (a.length) [(Yd i a)] (ai a))] ++ kq [4,5,6,182]) 214 (pc o1 (pc f (pc (dz f) (pc (show (au [(Yd i a)] (ai a) i.toNat)[0]?=some (.os 6 0 (mN a i)) from (gO rfl)) (pc w (pc (dz w) (pc o1 (pc (Eq.refl a.length) (pc (show ∀ b,b < a.length->au [(Yd i a)] (ai a) b=au [(Yd i a)] (ai a) b from (fun _ _=>rfl)) (pc (show ∀ b,b < a.length->dA ((ai a) b)=true from (fun _ _=>rfl)) pn)))))))))) <| rnL 3 6 i.toNat (pc n (pc (show au [(Yd i a)] (ai a) i.toNat=[.os 6 0 (kR a i).length] from if_pos rfl) (pc (show ∀ x,x < (kR a i).length->qF (dY ((kR a i).getD x aa.d))=true from fun _ _=>rfl) pn))) <| Lo e [] (kp [0,1,2,6]) (kq [0,1,2] ++ [(3,.AO 3 (a.length) [] (ai a))] ++ kq [4,5,182]) 214 (pc (Eq.refl (a.length)) (pc (xI (sz:=4) (c:=dY) (d:=aa.d) a i.toNat 6 (mN a i) [] Kr) (pc (show ∀ b,b < a.length->dA ((ai a) b)=true from fun _ _=>rfl) pn))) <| rnO 3 i.toNat 4 (mN a i) (Ae a i) (pc n (pc (show au [] (ai a) i.toNat=mR 4 dY aa.d (kR a i) from rfl) pn)) <| bc e 1 [(6,oF (.os 214 0 (mN a i)))] (kp [0,1,2,6,7]) (ahI a i) 358 (pc o1 (pc f (pc (dz f) (pc (show (au [(NN i a)] (ai a) i.toNat)[0]?=some (.os 214 0 (mN a i)) from (gO rfl)) (pc (Eq.refl a.length) (pc (show ∀ b,b < a.length->au [(NN i a)] (ai a) b=au [(NN i a)] (ai a) b from (fun _ _=>rfl)) (pc (show ∀ b,b < a.length->dA ((ai a) b)=true from (fun _ _=>rfl)) pn))))))) <| bD e 2 Mw (ahI a i) 406 (pc (Eq.refl a.length) (pc (show ∀ b,b < a.length->au [(NN i a)] (ai a) b=au [(NN i a)] (ai a) b from (fun _ _=>rfl)) (pc (show ∀ b,b < a.length->dA ((ai a) b)=true from (fun _ _=>rfl)) pn))) <| Z3 e 2 [] Mw (kq [0,1,2] ++ [(3,.AO 3 (a.length) [(NN i a)] (ai a))] ++ kq [4,5] ++ [(6,.aj 214),(7,.aj 182)]) 8 (pc (Eq.refl a.length) (pc (show ∀ b,b < a.length->au [(NN i a)] (ai a) b=au [(NN i a)] (ai a) b from (fun _ _=>rfl)) (pc (show ∀ b,b < a.length->dA ((ai a) b)=true from (fun _ _=>rfl)) pn))) (Dd N _ _ _ _ _ _ _ _ _ _ _ _ _ _ N _ _ _ h E e)
noncomputable abbrev aeq:=bt Tryz.f94
def tf (N:Nat) (f:Int) (g:Int) (h:Bool) (i:List Int) (j:Bool) (k:List Int) (l:Int) (b:List Int) (a:List Int) (c:List aN) (d:List aa) (e:List aa) (K:Int->Int->Option (Int)):Prop:=∀ (m:Int) (x:Int) (r:Int),K m x=some r->∀ E,aG E 6->ar Tryz.prog E 94 46 (aH E [(fP f g b a c d e h i j k l),(ba b),(dL a),(dQ c),(dn d),(fa e)] (aI r)) [.code (aeq 116),.inLoop (aeq 116),.inBlock 0,.code (aeq 15)] ⟨[(0,(.op 0 0 0)),(3,(aI m)),(9,(GI a)),(10,(aI x))],[(fP f g b a c d e h i j k l),(ba b),(dL a),(dQ c),(dn d),(fa e)],6⟩
def AS (N:Nat) (f:Int) (g:Int) (h:Bool) (i:List Int) (j:Bool) (k:List Int) (l:Int) (b:List Int) (a:List Int) (c:List aN) (d:List aa) (e:List aa) (x:Int) (K:Int->Option (Int)):Prop:=∀ (m:Int) (r:Int),K m=some r->∀ E,aG E 6->ar Tryz.prog E 94 46 (aH E [(fP f g b a c d e h i j k l),(ba b),(dL a),(dQ c),(dn d),(fa e)] (aI r)) [.code (aeq 935),.inLoop (aeq 116),.inBlock 0,.code (aeq 15)] ⟨[(0,(.op 0 0 0)),(3,(aI m)),(9,(GI a)),(10,(aI x))],[(fP f g b a c d e h i j k l),(ba b),(dL a),(dQ c),(dn d),(fa e)],6⟩
theorem ss (N:Nat) (a:Int) (b:Int) (c:Bool) (d:List Int) (e:Bool) (f:List Int) (g:Int) (i:List Int) (j:List Int) (k:List aN) (l:List aa) (m:List aa) (x:Int) (o:Int->Int->Option (Int)) (p:tf N a b c d e f g i j k l m o):AS N a b c d e f g i j k l m x (jY N a b c d e f g i j k l m x o):=by
 intro q r h E n;unfold jY at h;refine ah n 0 JB dp 38 <| cd n 1 JB dp 6 (p _ _ _ h E n)
theorem Ap (N g i j k l m n o p q s t fuel):tf N g i j k l m n o p q s t (cm N g i j k l m n o p q s t fuel):=by
 induction fuel with
 | zero=>intro _ _ r h;rw [cm.eq_1] at h;cases h
 | succ fuel u =>
  intro d x r h E e;rw [cm.eq_2] at h;refine ah e 1 (kp [0,3,9,10,11]) dp 22 <| b9 1 11 h (fun y h=>?_) (fun y h=>?_)
  ·refine ah e 4 (kp [0,3,4,9,10]) dp 54 ?_;obtain ⟨c,h⟩:=ae h;obtain ⟨b,z,h⟩:=a7 h;obtain ⟨v,h⟩:=ae h;obtain ⟨w,h⟩:=ae h;refine bc e 1 [(7,oT (aI b))] (kp [0,3,4,9,10,42]) dp 534 (pc o1 (pc c (pc (dz c) (pc (tH _ _ _ z) (pc (fun a:(decide (b > 0))=true=>(pc a pn)) (pc (fun a:(Fl b d)=true=>(pc a pn)) (pc (fun a:(Fl b d)=true=>(pc a pn)) (pc (fun a:(Fl b d)=true=>(pc a (pc o1 pn))) (pc (fun a:(Fl b d)=true=>(pc a (pc a (pc (v a) pn)))) (pc (fun a:(Fl b d)=true=>(pc a (pc (dz (v a)) pn))) (pc (fun a:(Fl b d)=true=>(pc a pn)) (pc (fun a:(Fl b d)=true=>(pc a pn)) (pc (fun a:(Fl b d)=true=>(pc a (pc o1 pn))) (pc (fun a:(Fl b d)=true=>(pc a (pc a (pc (w a) pn)))) (pc (fun a:(Fl b d)=true=>(pc a (pc (dz (w a)) pn))) (pc (fun a:(Fl b d)=true=>(pc a (pc a pn))) (pc (fun a:(decide (b > 0))=true=>(pc a (pc a (pc (fun f:(yl d)=true=>(pc (show (Fl b d)=true from (pZ a (pZ a f))) pn)) pn)))) (pc (fun f:(decide (b > 0))=true=>(pc f pn)) pn)))))))))))))))))) <| b9 0 42 h (fun A h=>?_) (fun A h=>?_)
   ·refine ah e 0 JB dp 566 <| cd e 1 JB dp 6 (ss N _ _ _ _ _ _ _ _ _ _ _ _ _ _ u _ _ h E e)
   ·exact cd e 2 JB dp 6 (ss N _ _ _ _ _ _ _ _ _ _ _ _ _ _ u _ _ h E e)
  ·refine ah e 2 (kp [2]) dp 54 ?_;obtain rfl:=lk h;exact dN e 0 Tryz.f94 (kp [2]) dp 54
theorem De (N g i j k l m n a b c d e r) (h:oW N g i j k l m n a b c d e=some r):Sd 94 [(.op 0 0 0)] [(fP g i a b c d e j k l m n),(ba a),(dL b),(dQ c),(dn d),(fa e)] 6 (aI r) [(fP g i a b c d e j k l m n),(ba a),(dL b),(dQ c),(dn d),(fa e)]:=by
 unfold oW at h;refine sO Tryz.f94 46 fun E f=>?_;refine ah f 1 (kp [0]) dp 22 <| ah f 1 (kp [0,3]) dp 38 <| bD f 2 JB dp 134 (pc o1 pn) <| cd f 2 JB dp 6 (Ap N _ _ _ _ _ _ _ _ _ _ _ _ N _ _ _ h E f)
noncomputable abbrev RV:=bt Tryz.f95
def py (N:Nat) (j:Int) (g:Int) (h:Int) (i:Bool) (k:List Int) (l:Bool) (m:List Int) (n:Int) (b:List Int) (c:List Int) (d:List aN) (e:List aa) (f:List aa) (K:Int->aa->Int->Option (Int)):Prop:=∀ (o:Int) (a:aa) (x:Int) (r:Int),K o a x=some r->∀ E,aG E 6->ar Tryz.prog E 95 81 (aH E [(fP g h b c d e f i k l m n),(ba b),(dL c),(dQ d),(dn e),(fa f)] (aI r)) [.code (RV 244),.inLoop (RV 244),.inBlock 0,.code (RV 31)] ⟨[(0,(.op 0 0 0)),(1,(aI j)),(5,(aI o)),(6,(.op 6 0 0)),(Jm b),(15,(aI x))],[(fP g h b c d e f i k l m n),(ba b),(dL c),(dQ d),(dn e),(fa f),(6,vO 4 (yp a))],7⟩
def B7 (N:Nat) (j:Int) (f:Int) (g:Int) (h:Bool) (i:List Int) (k:Bool) (l:List Int) (m:Int) (a:List Int) (b:List Int) (c:List aN) (d:List aa) (e:List aa) (x:Int) (K:Int->aa->Option (Int)):Prop:=∀ (n:Int) (o:aa) (r:Int),K n o=some r->∀ E,aG E 6->ar Tryz.prog E 95 81 (aH E [(fP f g a b c d e h i k l m),(ba a),(dL b),(dQ c),(dn d),(fa e)] (aI r)) [.code (RV 1959),.inLoop (RV 244),.inBlock 0,.code (RV 31)] ⟨[(0,(.op 0 0 0)),(1,(aI j)),(5,(aI n)),(6,(.op 6 0 0)),(Jm a),(15,(aI x))],[(fP f g a b c d e h i k l m),(ba a),(dL b),(dQ c),(dn d),(fa e),(6,vO 4 (yp o))],7⟩
theorem oA (N:Nat) (j:Int) (a:Int) (b:Int) (c:Bool) (d:List Int) (e:Bool) (f:List Int) (g:Int) (i:List Int) (k:List Int) (l:List aN) (m:List aa) (n:List aa) (x:Int) (p:Int->aa->Int->Option (Int)) (q:py N j a b c d e f g i k l m n p):B7 N j a b c d e f g i k l m n x (gL N j a b c d e f g i k l m n x p):=by
 intro s t r h E o;unfold gL at h;refine ah o 0 GP iu 39 <| cd o 1 GP iu 7 (q _ _ _ _ h E o)
def B8 (N:Nat) (j:Int) (g:Int) (h:Int) (i:Bool) (k:List Int) (l:Bool) (m:List Int) (n:Int) (b:List Int) (c:List Int) (d:List aN) (e:List aa) (f:List aa) (p:Int) (a:aa) (x:Int) (pR:aa) (K:Int->Option (Int)):Prop:=∀ (o:Int) (r:Int),K o=some r->∀ E,aG E 6->ar Tryz.prog E 95 81 (aH E [(fP g h b c d e f i k l m n),(ba b),(dL c),(dQ d),(dn e),(fa f)] (aI r)) [.code (RV 250686),.code (RV 250687),.inBlock 1,.code (RV 1959),.inLoop (RV 244),.inBlock 0,.code (RV 31)] ⟨[(0,(.op 0 0 0)),(1,(aI j)),(5,(aI p)),(6,(.op 6 0 0)),(7,(aI x)),(8,(.op 7 0 0)),(9,(aI o)),(Jm b),(15,(aI x))],[(fP g h b c d e f i k l m n),(ba b),(dL c),(dQ d),(dn e),(fa f),(6,vO 4 (yp a)),(7,vO 4 (yp pR))],8⟩
theorem tg (N:Nat) (j:Int) (e:Int) (f:Int) (g:Bool) (i:List Int) (k:Bool) (l:List Int) (m:Int) (n:List Int) (o:List Int) (p:List aN) (q:List aa) (s:List aa) (u:Int) (c:aa) (x:Int) (pR:aa) (v:Int->aa->Int->Option (Int)) (w:py N j e f g i k l m n o p q s v):B8 N j e f g i k l m n o p q s u c x pR (jc N j e f g i k l m n o p q s u c x pR v):=by
 intro b r h E d;unfold jc at h;obtain ⟨y,h⟩:=ae h;obtain ⟨z,h⟩:=ae h;refine bD d 0 (kp [0,1,5,6,7,8,14,15,76]) (kq [0,1,2,3,4,5,6,7]) 376 (pc (fun a:(yl b)=true=>(pc a pn)) (pc (fun a:(Fj b)=true=>(pc a pn)) (pc (fun a:(Fj b)=true=>(pc a pn)) (pc (fun a:(Fj b)=true=>(pc a (pc o1 pn))) (pc (fun a:(Fj b)=true=>(pc a (pc a (pc (y a) pn)))) (pc (fun a:(Fj b)=true=>(pc a (pc (dz (y a)) pn))) (pc (fun a:(Fj b)=true=>(pc a pn)) (pc (fun a:(Fj b)=true=>(pc a pn)) (pc (fun a:(Fj b)=true=>(pc a (pc o1 pn))) (pc (fun a:(Fj b)=true=>(pc a (pc a (pc (z a) pn)))) (pc (fun a:(Fj b)=true=>(pc a (pc (dz (z a)) pn))) (pc (fun a:(Fj b)=true=>(pc a (pc a pn))) (pc (fun a:(yl b)=true=>(pc a (pc a (pc (fun t:(b == 0)=true=>(pc (show (Fj b)=true from (pZ a (pZ a t))) pn)) pn)))) (pc (fun t:(yl b)=true=>(pc t pn)) pn)))))))))))))) <| b9 0 76 h (fun A h=>?_) (fun A h=>?_)
 ·refine bD d 0 GP iu 440 (pc o1 (pc o1 pn)) <| cd d 1 GP iu 7 (oA N _ _ _ _ _ _ _ _ _ _ _ _ _ _ _ w _ _ _ h E d)
 ·exact cd d 2 GP iu 7 (oA N _ _ _ _ _ _ _ _ _ _ _ _ _ _ _ w _ _ _ h E d)
theorem AU (N j n o p q s t u v w a y z fuel):py N j n o p q s t u v w a y z (cC N j n o p q s t u v w a y z fuel):=by
 induction fuel with
 | zero=>intro _ _ _ r h;rw [cC.eq_1] at h;cases h
 | succ fuel l =>
  intro M m x r h E e;rw [cC.eq_2] at h;refine ah e 1 (kp [0,1,5,6,14,15,16]) iu 23 <| b9 1 16 h (fun B h=>?_) (fun B h=>?_)
  ·refine ah e 4 (kp [0,1,5,6,7,14,15]) iu 55 ?_;obtain ⟨g,h⟩:=ae h;refine rnO 3 x.toNat 4 (mN a x) (Ae a x) (pc g (pc (show au [] (ai a) x.toNat=mR 4 dY aa.d (kR a x) from rfl) pn)) ?_;obtain ⟨i,h⟩:=ae h;obtain ⟨k,h⟩:=ae h;obtain ⟨C,D,h⟩:=a7 h;refine bc e 2 [(6,oF (Gz a x)),(10,oT (aI C))] (kp [0,1,5,6,7,14,15,29]) (kq [0,1,2] ++ [(3,.AO 3 (a.length) [(Br x a)] (ai a))] ++ kq [4,5,6,55]) 263 (pc o1 (pc i (pc (dz i) (pc (show (abw x a)[0]?=some (Gz a x) from (gO rfl)) (pc k (pc (dz k) (pc (tH _ _ _ D) (pc (Eq.refl a.length) (pc (show ∀ b,b < a.length->au [(Br x a)] (ai a) b=au [(Br x a)] (ai a) b from (fun _ _=>rfl)) (pc (show ∀ b,b < a.length->dA ((ai a) b)=true from (fun _ _=>rfl)) pn)))))))))) <| rnL 3 55 x.toNat (pc g (pc (show au [(Br x a)] (ai a) x.toNat=[.os 55 0 (kR a x).length] from if_pos rfl) (pc (show ∀ f,f < (kR a x).length->qF (dY ((kR a x).getD f aa.d))=true from fun _ _=>rfl) pn))) <| Lo e [] (kp [0,1,5,6,7,14,15,29]) (ahN a) 263 (pc (Eq.refl (a.length)) (pc (xI (sz:=4) (c:=dY) (d:=aa.d) a x.toNat 55 (mN a x) [] Kr) (pc (show ∀ b,b < a.length->dA ((ai a) b)=true from fun _ _=>rfl) pn))) <| b9 0 29 h (fun F h=>?_) (fun F h=>?_)
   ·exact cd e 1 GP iu 7 (oA N _ _ _ _ _ _ _ _ _ _ _ _ _ _ _ l _ _ _ h E e)
   ·refine rnO 3 x.toNat 4 (mN a x) (Ae a x) (pc g (pc (show au [] (ai a) x.toNat=mR 4 dY aa.d (kR a x) from rfl) pn)) ?_;obtain ⟨A,h⟩:=ae h;obtain ⟨G,H,h⟩:=a7 h;obtain ⟨pR,I,h⟩:=a7 h;refine bc e 2 [(13,oF (.os 263 0 (mN a x))),(17,oT (aA G)),(18,oT (aA pR))] (kp [0,1,5,6,7,8,14,15]) (kq [0,1,2] ++ [(3,.AO 3 (a.length) [(Yb x a)] (ai a))] ++ kq [4,5,6,263,583]) 615 (pc o1 (pc A (pc (dz A) (pc o1 (pc i (pc (dz i) (pc (show (au [(Yb x a)] (ai a) x.toNat)[0]?=some (.os 263 0 (mN a x)) from (gO rfl)) (pc k (pc (dz k) (pc (kS _ _ _ H) (pc (Bu _ _ _ _ I) (pc o1 (pc (Eq.refl a.length) (pc (show ∀ b,b < a.length->au [(Yb x a)] (ai a) b=au [(Yb x a)] (ai a) b from (fun _ _=>rfl)) (pc (show ∀ b,b < a.length->dA ((ai a) b)=true from (fun _ _=>rfl)) pn))))))))))))))) <| rnL 3 263 x.toNat (pc g (pc (show au [(Yb x a)] (ai a) x.toNat=[.os 263 0 (kR a x).length] from if_pos rfl) (pc (show ∀ f,f < (kR a x).length->qF (dY ((kR a x).getD f aa.d))=true from fun _ _=>rfl) pn))) <| Lo e [] (kp [0,1,5,6,7,8,14,15]) (kq [0,1,2] ++ [(3,.AO 3 (a.length) [] (ai a))] ++ kq [4,5,6,583]) 615 (pc (Eq.refl (a.length)) (pc (xI (sz:=4) (c:=dY) (d:=aa.d) a x.toNat 263 (mN a x) [] Kr) (pc (show ∀ b,b < a.length->dA ((ai a) b)=true from fun _ _=>rfl) pn))) <| ah e 1 VT abj 631 <| ah e 2 (kp [0,1,5,6,7,8,9,14,15,50]) abj 663 <| b9 0 50 h (fun J h=>?_) (fun J h=>?_)
    ·obtain ⟨K,L,h⟩:=a7 h;refine bc e 0 [(2,oT (aI K))] VT abj 727 (pc o1 (pc o1 (pc (qY _ _ _ _ L) pn))) <| cd e 1 VT ahE 8 (tg N _ _ _ _ _ _ _ _ _ _ _ _ _ _ _ _ _ _ l _ _ h E e)
    ·exact cd e 2 VT ahE 8 (tg N _ _ _ _ _ _ _ _ _ _ _ _ _ _ _ _ _ _ l _ _ h E e)
  ·refine ah e 2 (kp [4]) dp 55 ?_;obtain rfl:=lk h;exact dN e 0 Tryz.f95 (kp [4]) dp 55
theorem Ey (N j g i k l m n o b c d e f r) (h:pF N j g i k l m n o b c d e f=some r):Sd 95 [(.op 0 0 0),(aI j)] [(fP g i b c d e f k l m n o),(ba b),(dL c),(dQ d),(dn e),(fa f)] 6 (aI r) [(fP g i b c d e f k l m n o),(ba b),(dL c),(dQ d),(dn e),(fa f)]:=by
 unfold pF at h;refine sO Tryz.f95 81 fun E a=>?_;refine ah a 1 (kp [0,1]) dp 22 <| ah a 1 mL dp 38 <| ah a 1 Ag (kq [0,1,2,3,4,5,38]) 54 <| bD a 2 GP (kq [0,1,2,3,4,5,38]) 150 (pc o1 pn) <| Z3 a 2 [] GP (kq [0,1,2,3,4,5] ++ [(6,.var 38 [.aj,Cx (cU .u16) 0 ([]:List Int),.aj,Cx (cU .u16) 0 ([]:List Int)])]) 7 (pc (Eq.refl 0) (pc (Eq.refl 0) pn)) (AU N _ _ _ _ _ _ _ _ _ _ _ _ _ N _ _ _ _ h E a)
noncomputable abbrev aqw:=bt Tryz.f41
def Ez (N:Nat) (K:Int->Int->(List Int)->(List Int)->n7->aN->aN->Bool->(List Int)->Bool->(List Int)->Int->Option (Int×ml×(List Int)×(List Int)×n7×aN×aN)):Prop:=∀ (f:Int) (g:Int) (a:List Int) (b:List Int) (c:List aN) (d:List aa) (e:List aa) (h:Bool) (i:List Int) (j:Bool) (k:List Int) (l:Int) (r:Int×ml×(List Int)×(List Int)×n7×aN×aN),K f g a b c d e h i j k l=some r->∀ E,aG E 6->ar Tryz.prog E 41 19 (aH E [(0,vN 12 [(aI r.2.1.zN),(aI r.2.1.zO),(.os 1 0 r.2.2.1.length),(.os 2 0 r.2.2.2.1.length),(.os 3 0 r.2.2.2.2.1.length),(.os 4 0 r.2.2.2.2.2.1.length),(.os 5 0 r.2.2.2.2.2.2.length),(aB r.2.1.ax.fN.fG),(eU r.2.1.ax.fN.fL),(aB r.2.1.ax.fD.fG),(eU r.2.1.ax.fD.fL),(aI r.2.1.b5)]),(1,aO 1 cI 0 r.2.2.1),(2,aO 1 cI 0 r.2.2.2.1),(3,aM 4 dY aa.d r.2.2.2.2.1),(4,aO 4 dY aa.d r.2.2.2.2.2.1),(5,aO 4 dY aa.d r.2.2.2.2.2.2)] (aI r.1)) [.code (aqw 12),.inLoop (aqw 12),.inBlock 0] ⟨[(0,(.op 0 0 0))],[(fP f g a b c d e h i j k l),(ba a),(dL b),(dQ c),(dn d),(fa e)],6⟩
theorem Df (N fuel):Ez N (fC N fuel):=by
 induction fuel with
 | zero=>intro _ _ _ _ _ _ _ _ _ _ _ _ r h;rw [fC.eq_1] at h;cases h
 | succ fuel f =>
  intro o p q s e t u v w x y z r h E b;rw [fC.eq_2] at h;obtain ⟨g,i,h⟩:=a7 h;refine bc b 2 [(1,⟨[0,1,2,3,4,5],true,(aI g),[],0,false,none⟩)] (kp [0,3]) dp 54 (pc (De _ _ _ _ _ _ _ _ _ _ _ _ _ _ i) (pc (show ∀ d,d < e.length->dA ((ai e) d)=true from (fun _ _=>rfl)) pn)) <| ah b 2 (kp [0,3,8]) dp 86 <| b9 0 8 h (fun j h=>?_) (fun j h=>?_)
  ·refine ah b 1 (kp [2]) dp 102 ?_;cases h;exact dN b 0 Tryz.f41 (kp [2]) dp 102
  ·obtain ⟨k,l,h⟩:=a7 h;refine bc b 2 [(2,⟨[0,1,2,3,4,5],true,(aI k),[],0,false,none⟩)] Rj dp 150 (pc (Ey _ _ _ _ _ _ _ _ _ _ _ _ _ _ _ l) (pc (show ∀ d,d < e.length->dA ((ai e) d)=true from (fun _ _=>rfl)) pn)) <| ah b 2 (kp [0,3,4,13]) dp 182 <| b9 0 13 h (fun m h=>?_) (fun m h=>?_)
   ·refine ah b 1 (kp [2]) dp 214 ?_;cases h;exact dN b 0 Tryz.f41 (kp [2]) dp 214
   ·obtain ⟨a,n,h⟩:=a7 h;obtain ⟨c,h⟩:=ae h;obtain ⟨A,h⟩:=ae h;obtain ⟨B,h⟩:=ae h;obtain ⟨C,h⟩:=ae h;obtain ⟨D,h⟩:=ae h;refine bc b 1 [(3,⟨[0,1,2,3,4,5],false,(.tup []),[(0,vN 12 [(aI a.1.zN),(aI a.1.zO),(.os 1 0 a.2.1.length),(.os 2 0 a.2.2.1.length),(.os 3 0 a.2.2.2.1.length),(.os 4 0 a.2.2.2.2.1.length),(.os 5 0 a.2.2.2.2.2.length),(aB a.1.ax.fN.fG),(En a),(aB a.1.ax.fD.fG),(Em a),(aI a.1.b5)]),(1,aO 1 cI 0 a.2.1),(2,aO 1 cI 0 a.2.2.1),(Eg a),(Ei a),(Ek a)],0,false,none⟩)] (kp [0]) dp 246 (pc (sq _ _ _ _ _ _ _ _ _ _ _ _ _ _ _ _ n) pn) <| cd b 2 (kp [0]) dp 6 (f _ _ _ _ _ _ _ _ _ _ _ _ _ h E b)
theorem xS (N g i j k l m n a b c d e r) (h:rB N g i j k l m n a b c d e=some r):Sd 41 [(.op 0 0 0)] [(fP g i a b c d e j k l m n),(ba a),(dL b),(dQ c),(dn d),(fa e)] 6 (aI r.1) [(0,vN 12 [(aI r.2.1.zN),(aI r.2.1.zO),(.os 1 0 r.2.2.1.length),(.os 2 0 r.2.2.2.1.length),(.os 3 0 r.2.2.2.2.1.length),(.os 4 0 r.2.2.2.2.2.1.length),(.os 5 0 r.2.2.2.2.2.2.length),(aB r.2.1.ax.fN.fG),(eU r.2.1.ax.fN.fL),(aB r.2.1.ax.fD.fG),(eU r.2.1.ax.fD.fL),(aI r.2.1.b5)]),(1,aO 1 cI 0 r.2.2.1),(2,aO 1 cI 0 r.2.2.2.1),(3,aM 4 dY aa.d r.2.2.2.2.1),(4,aO 4 dY aa.d r.2.2.2.2.2.1),(5,aO 4 dY aa.d r.2.2.2.2.2.2)]:=by
 unfold rB at h;refine sO Tryz.f41 19 fun E f=>?_;refine ah f 1 (kp [0]) dp 22 <| cd f 2 (kp [0]) dp 6 (Df N N _ _ _ _ _ _ _ _ _ _ _ _ _ h E f)
noncomputable abbrev aob:=bt Tryz.f87
def zk (N:Nat) (s:List Int) (v:Int) (K:Int->Option (Int)):Prop:=∀ (x:Int) (r:Int),K x=some r->∀ E,aG E 0->ar Tryz.prog E 87 19 (aH E [] (aI r)) [.code (aob 52),.inLoop (aob 52),.inBlock 0,.code (aob 7)] ⟨[(uD s),(1,(aI v)),(VF s),(8,(aI x))],[],0⟩
theorem yz (N s v fuel):zk N s v (bV N s v fuel):=by
 induction fuel with
 | zero=>intro _ r h;rw [bV.eq_1] at h;cases h
 | succ fuel b =>
  intro x r h E a;rw [bV.eq_2] at h;refine ah a 1 ri [] 16 <| b9 1 9 h (fun d h=>?_) (fun d h=>?_)
  ·refine ah a 4 oa [] 48 ?_;obtain ⟨c,h⟩:=ae h;refine bD a 1 vZ [] 144 (pc c pn) <| b9 0 16 h (fun e h=>?_) (fun e h=>?_)
   ·refine ah a 1 (kp [4]) [] 176 ?_;obtain rfl:=lk h;exact dN a 0 Tryz.f87 (kp [4]) [] 176
   ·refine ah a 2 eD [] 176 <| cd a 1 eD [] 0 (b _ _ h E a)
  ·refine ah a 2 (kp [4]) [] 32 ?_;cases h;exact dN a 0 Tryz.f87 (kp [4]) [] 48
theorem cN (N s v r) (h:bp N s v=some r):Sd 87 [(bJ cI 0 s),(aI v)] [] 0 (aI r) []:=by
 unfold bp at h;refine sO Tryz.f87 19 fun E a=>?_;refine ah a 1 (kp [0,1]) [] 16 <| ah a 2 eD [] 64 <| cd a 2 eD [] 0 (yz N _ _ N _ _ h E a)
theorem Dg (N x r) (h:oX N x=some r):Sd 89 [(aA x)] [] 0 (aB r) []:=by
 unfold oX at h;refine sO Tryz.f89 6 fun E a=>?_;refine ah a 1 (kp [1]) (kq [0]) 32 ?_;obtain ⟨b,c,h⟩:=a7 h;refine bc a 1 [(1,oT (aB b))] (kp [2]) [] 96 (pc o1 (pc (lH _ _ _ c) pn)) ?_;cases h;exact dN a 0 Tryz.f89 (kp [2]) [] 96
noncomputable abbrev aoc:=bt Tryz.f88
def zl (N:Nat) (s:List aa) (K:Int->Option (Int)):Prop:=∀ (x:Int) (r:Int),K x=some r->∀ E,aG E 0->ar Tryz.prog E 88 19 (aH E [] (aI r)) [.code (aoc 52),.inLoop (aoc 52),.inBlock 0,.code (aoc 7)] ⟨[(0,(rh s)),(1,(.fn (.func 89) [] [])),(7,(Q3 s)),(8,(aI x))],[],0⟩
theorem yA (N s fuel):zl N s (dE N s fuel):=by
 induction fuel with
 | zero=>intro _ r h;rw [dE.eq_1] at h;cases h
 | succ fuel b =>
  intro x r h E a;rw [dE.eq_2] at h;refine ah a 1 ri [] 16 <| b9 1 9 h (fun d h=>?_) (fun d h=>?_)
  ·refine ah a 4 oa [] 48 ?_;obtain ⟨c,h⟩:=ae h;obtain ⟨e,f,h⟩:=a7 h;refine bc a 1 [(5,oT (aB e))] vZ [] 144 (pc c (pc (Dg _ _ _ f) pn)) <| b9 0 16 h (fun g h=>?_) (fun g h=>?_)
   ·refine ah a 1 (kp [4]) [] 176 ?_;obtain rfl:=lk h;exact dN a 0 Tryz.f88 (kp [4]) [] 176
   ·refine ah a 2 eD [] 176 <| cd a 1 eD [] 0 (b _ _ h E a)
  ·refine ah a 2 (kp [4]) [] 32 ?_;cases h;exact dN a 0 Tryz.f88 (kp [4]) [] 48
theorem AW (N s r) (h:mY N s=some r):Sd 88 [(rh s),(.fn (.func 89) [] [])] [] 0 (aI r) []:=by
 unfold mY at h;refine sO Tryz.f88 19 fun E a=>?_;refine ah a 1 (kp [0,1]) [] 16 <| ah a 2 eD [] 64 <| cd a 2 eD [] 0 (yA N _ N _ _ h E a)
theorem Aq (N i j a r) (h:mo N i j a=some r):Sd 90 [(nb a),(aI i),(aI j)] [(0,aO 1 cI 0 a)] 1 (.os 0 0 r.2.length) [(0,aO 1 cI 0 r.2)]:=by
 unfold mo at h;refine sO Tryz.f90 33 fun E b=>?_;refine ah b 1 qA (kq [0]) 17 ?_;obtain ⟨c,h⟩:=ae h;refine bc b 1 [(5,oF (.il))] qA (kq [0]) 113 (pc c pn) <| ah b 2 (kp [0,1,2,16]) (kq [0]) 161 <| b9 0 16 h (fun l h=>?_) (fun l h=>?_)
 ·refine ah b 1 (kp [6]) (kq [0]) 193 ?_;cases h;exact dN b 0 Tryz.f90 (kp [6]) (kq [0]) 193
 ·refine ah b 2 VS (kq [0]) 209 ?_;obtain ⟨m,h⟩:=ae h;obtain ⟨n,h⟩:=ae h;obtain ⟨o,h⟩:=ae h;obtain ⟨p,h⟩:=ae h;obtain ⟨e,h⟩:=ae h;obtain ⟨q,h⟩:=ae h;refine bc b 1 [(6,oF (.il))] (kp [0,7]) [(0,ru 0 cI 0 (vv a i.toNat j.toNat))] 337 (pc m (pc n (pc o (pc p (pc (show 0 < a.length/\(i.toNat - 0)+(a.length - j.toNat)<=a.length by have h1:=e;have h2:=q;omega) (pc (show j.toNat+(a.length - j.toNat)<=a.length by have h1:=e;omega) (pc (show ∀ zi,zi < a.length->AV.vH (cI (a.getD zi 0))=true from (fun _ _=>rfl)) (pc (show a.length=(vv a i.toNat j.toNat).length from (Pa e)) (pc (show ∀ zi,zi < (vv a i.toNat j.toNat).length->(fun zi=>cI ((vv a i.toNat j.toNat).getD zi 0)) zi=((fun d=>if d < (i.toNat - 0) then cI (a.getD d 0) else if d < (i.toNat - 0)+(a.length - j.toNat) then cI (a.getD (da j.toNat (d - (i.toNat - 0))) 0) else cI (a.getD d 0))) zi from (fun f g=>acp cI 0 a i.toNat j.toNat e f g)) pn))))))))) ?_;obtain ⟨s,h⟩:=ae h;obtain ⟨k,h⟩:=ae h;refine bc b 1 [(4,oF (.il)),(5,oF (.il))] [(0,.mM ((Ul a i j).length))] [(0,ru 0 cI 0 (Ul a i j))] 433 (pc s (pc (show 0<=(((QK i a j):Nat):Int) from (Int.natCast_nonneg _)) (pc (show 0<=(wZ a) from (Int.natCast_nonneg _)) (pc k (pc (show (QK i a j)=(Ul a i j).length from (U5 k)) (pc (show (QK i a j)=(Ul a i j).length from (U5 k)) (pc (show ∀ zi,zi < (Ul a i j).length->(fun zi=>cI ((Ul a i j).getD zi 0)) zi=(fun zi=>cI ((vv a i.toNat j.toNat).getD zi 0)) zi from (fun f g=>agt cI 0 (vv a i.toNat j.toNat) (QK i a j) f g)) pn))))))) <| ah b 1 (kp [6]) (kq [0]) 465 ?_
  cases h;exact dN b 0 Tryz.f90 (kp [6]) (kq [0]) 465
theorem EA (N i j a r) (h:pG N i j a=some r):Sd 91 [(.os 0 0 a.length),(aI i),(aI j)] [(Jj a)] 1 (.os 0 0 r.2.length) [(0,aO 4 dY aa.d r.2)]:=by
 unfold pG at h;refine sO Tryz.f91 33 fun E b=>?_;refine ah b 1 qA (kq [0]) 17 ?_;obtain ⟨c,h⟩:=ae h;refine bc b 1 [(5,oF (.il))] qA (kq [0]) 113 (pc c pn) <| ah b 2 (kp [0,1,2,16]) (kq [0]) 161 <| b9 0 16 h (fun l h=>?_) (fun l h=>?_)
 ·refine ah b 1 (kp [6]) (kq [0]) 193 ?_;cases h;exact dN b 0 Tryz.f91 (kp [6]) (kq [0]) 193
 ·refine ah b 2 VS (kq [0]) 209 ?_;obtain ⟨m,h⟩:=ae h;obtain ⟨n,h⟩:=ae h;obtain ⟨o,h⟩:=ae h;obtain ⟨p,h⟩:=ae h;obtain ⟨e,h⟩:=ae h;obtain ⟨q,h⟩:=ae h;refine bc b 1 [(6,oF (.il))] (kp [0,7]) [(0,ru 0 dY aa.d (vv a i.toNat j.toNat))] 337 (pc m (pc n (pc o (pc p (pc (show 0 < a.length/\(i.toNat - 0)+(a.length - j.toNat)<=a.length by have h1:=e;have h2:=q;omega) (pc (show j.toNat+(a.length - j.toNat)<=a.length by have h1:=e;omega) (pc (show ∀ zi,zi < a.length->AV.vH (dY (a.getD zi aa.d))=true from (fun _ _=>rfl)) (pc (show a.length=(vv a i.toNat j.toNat).length from (Pa e)) (pc (show ∀ zi,zi < (vv a i.toNat j.toNat).length->(fun zi=>dY ((vv a i.toNat j.toNat).getD zi aa.d)) zi=((fun d=>if d < (i.toNat - 0) then dY (a.getD d aa.d) else if d < (i.toNat - 0)+(a.length - j.toNat) then dY (a.getD (da j.toNat (d - (i.toNat - 0))) aa.d) else dY (a.getD d aa.d))) zi from (fun f g=>acp dY aa.d a i.toNat j.toNat e f g)) pn))))))))) ?_;obtain ⟨s,h⟩:=ae h;obtain ⟨k,h⟩:=ae h;refine bc b 1 [(4,oF (.il)),(5,oF (.il))] [(0,.mM ((Uk a i j).length))] [(0,ru 0 dY aa.d (Uk a i j))] 433 (pc s (pc (show 0<=((((i.toNat - 0)+(a.length - j.toNat)):Nat):Int) from (Int.natCast_nonneg _)) (pc (show 0<=(a.length:Int) from (Int.natCast_nonneg _)) (pc k (pc (show ((i.toNat - 0)+(a.length - j.toNat))=(Uk a i j).length from (U5 k)) (pc (show ((i.toNat - 0)+(a.length - j.toNat))=(Uk a i j).length from (U5 k)) (pc (show ∀ zi,zi < (Uk a i j).length->(fun zi=>dY ((Uk a i j).getD zi aa.d)) zi=(fun zi=>dY ((vv a i.toNat j.toNat).getD zi aa.d)) zi from (fun f g=>agt dY aa.d (vv a i.toNat j.toNat) ((i.toNat - 0)+(a.length - j.toNat)) f g)) pn))))))) <| ah b 1 (kp [6]) (kq [0]) 465 ?_
  cases h;exact dN b 0 Tryz.f91 (kp [6]) (kq [0]) 465
noncomputable abbrev Ha:=bt Tryz.f38
def vd (N:Nat) (f:Int) (g:Int) (h:Bool) (i:List Int) (j:Bool) (k:List Int) (l:Int) (b:List Int) (c:List Int) (d:List aN) (a:List aa) (e:List aa) (K:Int->Int->Option Jr):Prop:=∀ (low:Int) (x:Int) (r:Bool×ml×(List Int)×(List Int)×n7×aN),K low x=some r->∀ E,aG E 6->ar Tryz.prog E 38 177 (aH E [(0,vN 12 [(aI r.2.1.zN),(aI r.2.1.zO),(.os 1 0 r.2.2.1.length),(.os 2 0 r.2.2.2.1.length),(.os 3 0 r.2.2.2.2.1.length),(.os 4 0 r.2.2.2.2.2.length),(.os 6 0 r.2.1.rP.length),(aB r.2.1.ax.fN.fG),(GK r),(aB r.2.1.ax.fD.fG),(GJ r),(aI r.2.1.b5)]),(1,aO 1 cI 0 r.2.2.1),(2,aO 1 cI 0 r.2.2.2.1),(Eh r),(Ej r),(GD r)] (aB r.1)) [.code (Ha 116),.inLoop (Ha 116),.inBlock 0,.code (Ha 15)] ⟨[(0,(.op 0 0 0)),(3,(aI low)),(15,(Q3 a)),(16,(aI x))],[(0,vN 12 [(aI f),(aI g),(mK b),(uC c),(tq d),(sf a),(po e),(aB h),(b8 i),(aB j),(b8 k),(aI l)]),(ba b),(dL c),(dQ d),(dn a),(si e)],7⟩
def Dh (N:Nat) (g:Int) (h:Int) (i:Bool) (j:List Int) (k:Bool) (l:List Int) (m:Int) (c:List Int) (d:List Int) (e:List aN) (b:List aa) (f:List aa) (x:Int) (K:Int->Option Jr):Prop:=∀ (a:Int) (r:Bool×ml×(List Int)×(List Int)×n7×aN),K a=some r->∀ E,aG E 6->ar Tryz.prog E 38 177 (aH E [(0,vN 12 [(aI r.2.1.zN),(aI r.2.1.zO),(.os 1 0 r.2.2.1.length),(.os 2 0 r.2.2.2.1.length),(.os 3 0 r.2.2.2.2.1.length),(.os 4 0 r.2.2.2.2.2.length),(.os 6 0 r.2.1.rP.length),(aB r.2.1.ax.fN.fG),(GK r),(aB r.2.1.ax.fD.fG),(GJ r),(aI r.2.1.b5)]),(1,aO 1 cI 0 r.2.2.1),(2,aO 1 cI 0 r.2.2.2.1),(Eh r),(Ej r),(GD r)] (aB r.1)) [.code (Ha 935),.inLoop (Ha 116),.inBlock 0,.code (Ha 15)] ⟨[(0,(.op 0 0 0)),(3,(aI a)),(15,(Q3 b)),(16,(aI x))],[(0,vN 12 [(aI g),(aI h),(mK c),(uC d),(tq e),(sf b),(po f),(aB i),(b8 j),(aB k),(b8 l),(aI m)]),(ba c),(dL d),(dQ e),(dn b),(si f)],7⟩
theorem tI (N:Nat) (a:Int) (b:Int) (c:Bool) (d:List Int) (e:Bool) (f:List Int) (g:Int) (i:List Int) (j:List Int) (k:List aN) (l:List aa) (m:List aa) (x:Int) (o:Int->Int->Option Jr) (p:vd N a b c d e f g i j k l m o):Dh N a b c d e f g i j k l m x (ld N a b c d e f g i j k l m x o):=by
 intro q r h E n;unfold ld at h;refine ah n 0 B1 iv 39 <| cd n 1 B1 iv 7 (p _ _ _ h E n)
def Di (N:Nat) (K:Int->Int->(List Int)->(List Int)->n7->aN->aN->Bool->(List Int)->Bool->(List Int)->Int->Option Jr):Prop:=∀ (f:Int) (g:Int) (a:List Int) (b:List Int) (c:List aN) (d:List aa) (e:List aa) (h:Bool) (i:List Int) (j:Bool) (k:List Int) (l:Int) (r:Bool×ml×(List Int)×(List Int)×n7×aN),K f g a b c d e h i j k l=some r->∀ E,aG E 6->ar Tryz.prog E 38 177 (aH E [(0,vN 12 [(aI r.2.1.zN),(aI r.2.1.zO),(.os 1 0 r.2.2.1.length),(.os 2 0 r.2.2.2.1.length),(.os 3 0 r.2.2.2.2.1.length),(.os 4 0 r.2.2.2.2.2.length),(.os 6 0 r.2.1.rP.length),(aB r.2.1.ax.fN.fG),(GK r),(aB r.2.1.ax.fD.fG),(GJ r),(aI r.2.1.b5)]),(1,aO 1 cI 0 r.2.2.1),(2,aO 1 cI 0 r.2.2.2.1),(Eh r),(Ej r),(GD r)] (aB r.1)) [.code (Ha 252),.code (Ha 253),.code (Ha 127)] ⟨[(0,(.op 0 0 0))],[(0,vN 12 [(aI f),(aI g),(mK a),(uC b),(tq c),(sf d),(po e),(aB h),(b8 i),(aB j),(b8 k),(aI l)]),(ba a),(dL b),(dQ c),(dn d),(si e)],7⟩
def Dj (N:Nat) (K:Int->Int->(List Int)->(List Int)->n7->aN->aN->Bool->(List Int)->Bool->(List Int)->Int->Option Jr):Prop:=∀ (f:Int) (g:Int) (a:List Int) (b:List Int) (c:List aN) (d:List aa) (e:List aa) (h:Bool) (i:List Int) (j:Bool) (k:List Int) (l:Int) (r:Bool×ml×(List Int)×(List Int)×n7×aN),K f g a b c d e h i j k l=some r->∀ E,aG E 6->ar Tryz.prog E 38 177 (aH E [(0,vN 12 [(aI r.2.1.zN),(aI r.2.1.zO),(.os 1 0 r.2.2.1.length),(.os 2 0 r.2.2.2.1.length),(.os 3 0 r.2.2.2.2.1.length),(.os 4 0 r.2.2.2.2.2.length),(.os 6 0 r.2.1.rP.length),(aB r.2.1.ax.fN.fG),(GK r),(aB r.2.1.ax.fD.fG),(GJ r),(aI r.2.1.b5)]),(1,aO 1 cI 0 r.2.2.1),(2,aO 1 cI 0 r.2.2.2.1),(Eh r),(Ej r),(GD r)] (aB r.1)) [.code (Ha 254),.code (Ha 255)] ⟨[(0,(.op 0 0 0))],[(0,vN 12 [(aI f),(aI g),(mK a),(uC b),(tq c),(sf d),(po e),(aB h),(b8 i),(aB j),(b8 k),(aI l)]),(ba a),(dL b),(dQ c),(dn d),(si e)],7⟩
def Dk (N:Nat) (g:Int) (h:Int) (b:List Int) (i:List aN) (c:List aa) (d:List aa) (j:Bool) (k:List Int) (l:Bool) (m:List Int) (n:Int) (o:Int) (e:(List Int)×(List Int)) (K:n7->Int->Option Jr):Prop:=∀ (a:List aN) (f:Int) (r:Bool×ml×(List Int)×(List Int)×n7×aN),K a f=some r->∀ E,aG E 6->ar Tryz.prog E 38 177 (aH E [(0,vN 12 [(aI r.2.1.zN),(aI r.2.1.zO),(.os 1 0 r.2.2.1.length),(.os 2 0 r.2.2.2.1.length),(.os 3 0 r.2.2.2.2.1.length),(.os 4 0 r.2.2.2.2.2.length),(.os 6 0 r.2.1.rP.length),(aB r.2.1.ax.fN.fG),(GK r),(aB r.2.1.ax.fD.fG),(GJ r),(aI r.2.1.b5)]),(1,aO 1 cI 0 r.2.2.1),(2,aO 1 cI 0 r.2.2.2.1),(Eh r),(Ej r),(GD r)] (aB r.1)) [.code (Ha 8180),.inLoop (Ha 8180),.inBlock 2,.code (Ha 1023)] ⟨[(0,(.op 0 0 0)),(8,(aI o)),(126,(aI (i.length:Int))),(127,(aI f))],[(0,vN 12 [(aI g),(aI h),(mK b),(.os 2 0 e.2.length),(tq a),(sf c),(po d),(aB j),(b8 k),(aB l),(b8 m),(aI n)]),(ba b),(2,aO 1 cI 0 e.2),(dQ a),(dn c),(si d)],7⟩
def Dl (N:Nat) (g:Int) (h:Int) (c:List Int) (d:List aa) (i:Bool) (j:List Int) (k:Bool) (l:List Int) (m:Int) (a:(List Int)×(List Int)) (e:List aN) (K:aN->Int->Option Jr):Prop:=∀ (b:List aa) (f:Int) (r:Bool×ml×(List Int)×(List Int)×n7×aN),K b f=some r->∀ E,aG E 6->ar Tryz.prog E 38 177 (aH E [(0,vN 12 [(aI r.2.1.zN),(aI r.2.1.zO),(.os 1 0 r.2.2.1.length),(.os 2 0 r.2.2.2.1.length),(.os 3 0 r.2.2.2.2.1.length),(.os 4 0 r.2.2.2.2.2.length),(.os 6 0 r.2.1.rP.length),(aB r.2.1.ax.fN.fG),(GK r),(aB r.2.1.ax.fD.fG),(GJ r),(aI r.2.1.b5)]),(1,aO 1 cI 0 r.2.2.1),(2,aO 1 cI 0 r.2.2.2.1),(Eh r),(Ej r),(GD r)] (aB r.1)) [.code (Ha 32756),.inLoop (Ha 32756),.inBlock 4,.code (Ha 4095)] ⟨[(0,(.op 0 0 0)),(161,(aI (((VH a).length:Nat):Int))),(162,(aI f))],[(0,vN 12 [(aI g),(aI h),(mK c),(.os 2 0 a.2.length),(tq e),(sf d),(po b),(aB i),(b8 j),(aB k),(b8 l),(aI m)]),(ba c),(2,aO 1 cI 0 a.2),(dQ e),(dn d),(si b)],7⟩
theorem Ca (N j k l m n o p q s t u fuel):Dl N j k l m n o p q s t u (fR N j k l m n o p q s t u fuel):=by
 induction fuel with
 | zero=>intro _ _ r h;rw [fR.eq_1] at h;cases h
 | succ fuel v =>
  intro c d r h E a;rw [fR.eq_2] at h;refine ah a 1 (kp [0,161,162,163]) iv 23 <| b9 1 163 h (fun f h=>?_) (fun f h=>?_)
  ·refine ah a 4 (kp [0,10,161,162]) iv 55 ?_;obtain ⟨b,g,h⟩:=a7 h;obtain ⟨e,h⟩:=ae h;refine bc a 0 [(5,oT (aA b))] Rc ([(0,.var 0 [.aj,.aj,.aj,.aj,.aj,.aj,.mM (u5 c d b),.aj,.aj,.aj,.aj,.aj])] ++ kq [1,2,3,4] ++ [(Wn c d b)]) 183 (pc o1 (pc (fQ _ _ _ g) (pc e (pc (dz e) (pc (aF c d.toNat b) (pc (aF c d.toNat b) (pc (cn dY aa.d c d.toNat b) pn))))))) <| ah a 1 Rc iv 215 <| cd a 1 Rc iv 7 (v _ _ _ h E a)
  ·obtain ⟨w,i,h⟩:=a7 h;refine bc a 2 [(1,oT (aA w))] [] iv 103 (pc (fQ _ _ _ i) (pc o1 pn)) <| ah a 1 (kp [2]) iv 119 ?_
   cases h;exact dN a 0 Tryz.f38 (kp [2]) iv 119
theorem Cb (N n o p q s t u v w x y z f fuel):Dk N n o p q s t u v w x y z f (fS N n o p q s t u v w x y z f fuel):=by
 induction fuel with
 | zero=>intro _ _ r h;rw [fS.eq_1] at h;cases h
 | succ fuel B =>
  intro a b r h E g;rw [fS.eq_2] at h;refine ah g 1 (kp [0,8,126,127,128]) iv 23 <| b9 1 128 h (fun C h=>?_) (fun C h=>?_)
  ·refine ah g 4 (kp [0,8,9,126,127]) iv 55 ?_;obtain ⟨j,h⟩:=ae h;refine rnO 3 b.toNat 4 (mN a b) (Ae a b) (pc j (pc (show au [] (ai a) b.toNat=mR 4 dY aa.d (kR a b) from rfl) pn)) ?_;obtain ⟨i,h⟩:=ae h;obtain ⟨e,m,h⟩:=a7 h;refine bc g 0 [(11,oF (Gz a b)),(15,⟨[55],false,(.os 0 0 e.2.length),[(0,aO 4 dY aa.d e.2)],0,false,none⟩)] ME (kq [0,1,2] ++ [(3,.AO 3 (a.length) [(b.toNat,55,e.2.length)] (ai a))] ++ kq [4,6,55]) 359 (pc o1 (pc o1 (pc i (pc (dz i) (pc (show (abw b a)[0]?=some (Gz a b) from (gO rfl)) (pc (EA _ _ _ _ _ m) (pc i (pc (dz i) (pc (Eq.refl a.length) (pc (show ∀ k,k < a.length->au [(b.toNat,55,e.2.length)] (ai a) k=if k=(b).toNat then [.os 55 0 e.2.length] else au [(Br b a)] (ai a) k from (ak1 _ _ _ _ _ rfl)) (pc (show ∀ k,k < a.length->dA ((ai a) k)=true from (fun _ _=>rfl)) pn))))))))))) <| rnL 3 55 b.toNat (pc j (pc (show au [(b.toNat,55,e.2.length)] (ai a) b.toNat=[.os 55 0 e.2.length] from if_pos rfl) (pc (show ∀ A,A < e.2.length->qF (dY (e.2.getD A aa.d))=true from fun _ _=>rfl) pn))) <| Lo g [] ME ([(0,.var 0 [.aj,.aj,.aj,.aj,.mM ((a.set b.toNat e.2).length),.aj,.aj,.aj,.aj,.aj,.aj,.aj])] ++ kq [1,2] ++ [(3,.AO 3 ((a.set b.toNat e.2).length) [] (mG (a.set b.toNat e.2)))] ++ kq [4,6]) 359 (pc (aF a b.toNat e.2) (pc (aF a b.toNat e.2) (pc (HX (sz:=4) (c:=dY) (d:=aa.d) a b.toNat 55 e.2.length e.2 [] j Kr) (pc (iM (a.set b.toNat e.2)) pn)))) <| ah g 1 ME iv 391 <| cd g 1 ME iv 7 (B _ _ _ h E g)
  ·obtain ⟨l,h⟩:=ae h;refine bD g 2 (kp [0]) ([(0,.var 0 [.aj,.aj,.aj,.aj,.aj,.aj,.mM ((VH f).length),.aj,.aj,.aj,.aj,.aj])] ++ kq [1,2,3,4] ++ [(119,.arz 119 ((VH f).length) (ahv f))]) 183 (pc o1 (pc l.1 (pc (Int.le_refl ((f.2.length:Nat):Int)) (pc l.2.1 (pc l.2.2 (pc o1 (pc (lR f.2.length oz) (pc (lQ f.2.length oz) (pc (show ∀ zi,zi < (VH f).length->S4 ((fun _=>[(aB false),.nil,(aB false),.nil]) zi) ((ahv f) zi) from (fun D F=>nU dY aa.d aa.d f.2.length D ⟨.inl rfl,.inr ⟨rfl,_,rfl⟩,.inl rfl,.inr ⟨rfl,_,rfl⟩,trivial⟩ F)) pn))))))))) <| bD g 2 Rc (kq [0,1,2,3,4,119]) 279 (pc o1 pn) <| cd g 2 Rc (kq [0,1,2,3,4] ++ [(6,.aj 119)]) 7 (Ca N _ _ _ _ _ _ _ _ _ _ _ N _ _ _ h E g)
theorem tJ (N):Dj N (lg N):=by
 intro g i j c k l m n o p q s r h E a;unfold lg at h;obtain ⟨d,e,h⟩:=a7 h;refine bc a 0 [(8,oT (aI d))] (kp [0,8]) iv 167 (pc o1 (pc o1 (pc (cN _ _ _ _ e) (pc (z1 c.length) pn)))) ?_;obtain ⟨b,f,h⟩:=a7 h;refine bc a 1 [(8,⟨[2],false,(.os 0 0 b.2.length),[(0,aO 1 cI 0 b.2)],0,false,none⟩)] (kp [0,8]) iv 359 (pc o1 (pc (Aq _ _ _ _ _ f) (pc o1 pn))) <| bD a 2 ME iv 455 (pc o1 pn) <| cd a 2 ME iv 7 (Cb N _ _ _ _ _ _ _ _ _ _ _ _ _ N _ _ _ h E a)
theorem tK (N):Di N (jv N):=by
 intro x y m z a A B C D F G H r h E f;unfold jv at h;obtain ⟨b,n,h⟩:=a7 h;refine bc f 0 [(8,oT (aI b))] (kp [0,6]) iv 167 (pc o1 (pc o1 (pc (cN _ _ _ _ n) (pc (z1 m.length) pn)))) <| ah f 1 (kp [0,6,89]) iv 199 <| b9 0 89 h (fun o h=>?_) (fun o h=>?_)
 ·obtain ⟨i,h⟩:=ae h;refine rnO 3 b.toNat 4 (mN a b) (Ae a b) (pc i (pc (show au [] (ai a) b.toNat=mR 4 dY aa.d (kR a b) from rfl) pn)) ?_;obtain ⟨j,h⟩:=ae h;obtain ⟨k,p,h⟩:=a7 h;refine bc f 1 [(6,oF (.os 199 0 (mN a b))),(7,oT (aI k))] (kp [0,6,7]) (kq [0,1,2] ++ [(3,.AO 3 (a.length) [(Ya b a)] (ai a))] ++ kq [4,6,199]) 359 (pc o1 (pc j (pc (dz j) (pc (show (au [(Ya b a)] (ai a) b.toNat)[0]?=some (.os 199 0 (mN a b)) from (gO rfl)) (pc (AW _ _ _ p) (pc (z1 (mN a b)) (pc (Eq.refl a.length) (pc (show ∀ g,g < a.length->au [(Ya b a)] (ai a) g=au [(Ya b a)] (ai a) g from (fun _ _=>rfl)) (pc (show ∀ g,g < a.length->dA ((ai a) g)=true from (fun _ _=>rfl)) pn))))))))) <| rnL 3 199 b.toNat (pc i (pc (show au [(Ya b a)] (ai a) b.toNat=[.os 199 0 (kR a b).length] from if_pos rfl) (pc (show ∀ l,l < (kR a b).length->qF (dY ((kR a b).getD l aa.d))=true from fun _ _=>rfl) pn))) <| Lo f [] (kp [0,6,7]) (kq [0,1,2] ++ [(3,.AO 3 (a.length) [] (ai a))] ++ kq [4,6]) 359 (pc (Eq.refl (a.length)) (pc (xI (sz:=4) (c:=dY) (d:=aa.d) a b.toNat 199 (mN a b) [] Kr) (pc (show ∀ g,g < a.length->dA ((ai a) g)=true from fun _ _=>rfl) pn))) ?_
  obtain ⟨e,q,h⟩:=a7 h;obtain ⟨s,h⟩:=ae h;obtain ⟨t,h⟩:=ae h;obtain ⟨u,h⟩:=ae h;obtain ⟨v,h⟩:=ae h;obtain ⟨w,h⟩:=ae h;refine bc f 0 [(3,⟨[0,1,2,3,4,6],false,(.tup []),[(0,vN 12 [(aI e.1.zN),(aI e.1.zO),(.os 1 0 e.2.1.length),(.os 2 0 e.2.2.1.length),(.os 3 0 e.2.2.2.1.length),(.os 4 0 e.2.2.2.2.1.length),(.os 5 0 e.2.2.2.2.2.length),(aB e.1.ax.fN.fG),(En e),(aB e.1.ax.fD.fG),(Em e),(aI e.1.b5)]),(1,aO 1 cI 0 e.2.1),(2,aO 1 cI 0 e.2.2.1),(Eg e),(Ei e),(Ek e)],0,false,none⟩)] (kp [0]) iv 423 (pc (sq _ _ _ _ _ _ _ _ _ _ _ _ _ _ _ _ q) pn) <| cd f 1 (kp [0]) iv 7 (tJ N _ _ _ _ _ _ _ _ _ _ _ _ _ h E f)
 ·exact cd f 2 (kp [0]) iv 7 (tJ N _ _ _ _ _ _ _ _ _ _ _ _ _ h E f)
theorem Cc (N l m n o p q s t g u v i fuel):vd N l m n o p q s t g u v i (bQ N l m n o p q s t g u v i fuel):=by
 induction fuel with
 | zero=>intro _ _ r h;rw [bQ.eq_1] at h;cases h
 | succ fuel w =>
  intro low x r h E b;rw [bQ.eq_2] at h;refine ah b 1 (kp [0,3,15,16,17]) iv 23 <| b9 1 17 h (fun B h=>?_) (fun B h=>?_)
  ·refine ah b 4 VX iv 55 ?_;obtain ⟨c,h⟩:=ae h;obtain ⟨e,C,h⟩:=a7 h;obtain ⟨y,h⟩:=ae h;obtain ⟨z,h⟩:=ae h;obtain ⟨D,F,h⟩:=a7 h;refine bc b 1 [(7,oT (aI e)),(27,oT (aI D))] (kp [0,3,4,15,16,49]) iv 551 (pc o1 (pc c (pc (dz c) (pc (tH _ _ _ C) (pc (fun a:(decide (e < 0))=true=>(pc a pn)) (pc (fun a:(CY e low)=true=>(pc a pn)) (pc (fun a:(CY e low)=true=>(pc a pn)) (pc (fun a:(CY e low)=true=>(pc a (pc o1 pn))) (pc (fun a:(CY e low)=true=>(pc a (pc a (pc (y a) pn)))) (pc (fun a:(CY e low)=true=>(pc a (pc (dz (y a)) pn))) (pc (fun a:(CY e low)=true=>(pc a pn)) (pc (fun a:(CY e low)=true=>(pc a pn)) (pc (fun a:(CY e low)=true=>(pc a (pc o1 pn))) (pc (fun a:(CY e low)=true=>(pc a (pc a (pc (z a) pn)))) (pc (fun a:(CY e low)=true=>(pc a (pc (dz (z a)) pn))) (pc (fun a:(CY e low)=true=>(pc (qY _ _ _ _ (aW F a)) (pc a (pc a pn)))) (pc (fun a:(CY e low)=true=>(pc a pn)) (pc (fun a:(decide (e < 0))=true=>(pc a (pc a (pc (fun k:(yl low)=true=>(pc (show (CY e low)=true from (pZ a (pZ a k))) pn)) pn)))) (pc (fun k:(decide (e < 0))=true=>(pc k pn)) pn))))))))))))))))))) <| b9 0 49 h (fun G h=>?_) (fun G h=>?_)
   ·refine ah b 0 B1 iv 583 <| cd b 1 B1 iv 7 (tI N _ _ _ _ _ _ _ _ _ _ _ _ _ _ w _ _ h E b)
   ·exact cd b 2 B1 iv 7 (tI N _ _ _ _ _ _ _ _ _ _ _ _ _ _ w _ _ h E b)
  ·refine bD b 2 VY iv 135 (pc o1 pn) <| ah b 2 (kp [0,3,5,59]) iv 167 <| b9 0 59 h (fun H h=>?_) (fun H h=>?_)
   ·obtain ⟨j,I,h⟩:=a7 h;obtain ⟨A,h⟩:=ae h;refine bc b 1 [(5,oT (aA j))] VY ([(0,.var 0 [.aj,.aj,.aj,.aj,.aj,.aj,.mM ((i.set (KC g) j).length),.aj,.aj,.aj,.aj,.aj])] ++ kq [1,2,3,4] ++ [(6,ru 6 dY aa.d (i.set (KC g) j))]) 295 (pc o1 (pc (fQ _ _ _ I) (pc A (pc (dz A) (pc (aF i (KC g) j) (pc (aF i (KC g) j) (pc (cn dY aa.d i (KC g) j) pn))))))) ?_;obtain ⟨f,J,h⟩:=a7 h;obtain ⟨T,h⟩:=ae h;obtain ⟨U,h⟩:=ae h;obtain ⟨V,h⟩:=ae h;obtain ⟨W,h⟩:=ae h;obtain ⟨X,h⟩:=ae h;refine bc b 1 [(3,⟨[0,1,2,3,4,6],false,(.tup []),[(0,vN 12 [(aI f.1.zN),(aI f.1.zO),(.os 1 0 f.2.1.length),(.os 2 0 f.2.2.1.length),(.os 3 0 f.2.2.2.1.length),(.os 4 0 f.2.2.2.2.1.length),(.os 5 0 f.2.2.2.2.2.length),(aB f.1.ax.fN.fG),(En f),(aB f.1.ax.fD.fG),(Em f),(aI f.1.b5)]),(1,aO 1 cI 0 f.2.1),(2,aO 1 cI 0 f.2.2.1),(Eg f),(Ei f),(Ek f)],0,false,none⟩)] (kp [0]) iv 359 (pc (sq _ _ _ _ _ _ _ _ _ _ _ _ _ _ _ _ J) pn) ?_;obtain ⟨d,K,h⟩:=a7 h;obtain ⟨L,h⟩:=ae h;obtain ⟨Y,h⟩:=ae h;obtain ⟨M,h⟩:=ae h;obtain ⟨O,h⟩:=ae h;obtain ⟨P,h⟩:=ae h;refine bc b 1 [(1,⟨[0,1,2,3,4,6],false,(aI d.1),[(0,vN 12 [(aI d.2.1.zN),(aI d.2.1.zO),(.os 1 0 d.2.2.1.length),(.os 2 0 d.2.2.2.1.length),(.os 3 0 d.2.2.2.2.1.length),(.os 4 0 d.2.2.2.2.2.1.length),(.os 5 0 d.2.2.2.2.2.2.length),(aB d.2.1.ax.fN.fG),(eU d.2.1.ax.fN.fL),(aB d.2.1.ax.fD.fG),(eU d.2.1.ax.fD.fL),(aI d.2.1.b5)]),(1,aO 1 cI 0 d.2.2.1),(2,aO 1 cI 0 d.2.2.2.1),(3,aM 4 dY aa.d d.2.2.2.2.1),(4,aO 4 dY aa.d d.2.2.2.2.2.1),(5,aO 4 dY aa.d d.2.2.2.2.2.2)],0,false,none⟩)] (kp [0]) iv 391 (pc (xS _ _ _ _ _ _ _ _ _ _ _ _ _ _ K) pn) ?_;obtain ⟨Q,R,h⟩:=a7 h;refine bc b 1 [(4,oT (aB Q))] (kp [0,78]) iv 487 (pc o1 (pc (lH _ _ _ R) pn)) <| b9 0 78 h (fun S h=>?_) (fun S h=>?_)
    ·refine ah b 1 (kp [2]) iv 503 ?_;cases h;exact dN b 0 Tryz.f38 (kp [2]) iv 503
    ·exact cd b 3 (kp [0]) iv 7 (tK N _ _ _ _ _ _ _ _ _ _ _ _ _ h E b)
   ·exact cd b 3 (kp [0]) iv 7 (tK N _ _ _ _ _ _ _ _ _ _ _ _ _ h E b)
theorem FG (N g i j k l m n b c d e f r) (h:ql N g i j k l m n b c d e f=some r):Sd 38 [(.op 0 0 0)] [(fP g i b c d e f j k l m n),(ba b),(dL c),(dQ d),(dn e),(fa f)] 6 (aB r.1) [(0,vN 12 [(aI r.2.1.zN),(aI r.2.1.zO),(.os 1 0 r.2.2.1.length),(.os 2 0 r.2.2.2.1.length),(.os 3 0 r.2.2.2.2.1.length),(.os 4 0 r.2.2.2.2.2.length),(.os 6 0 r.2.1.rP.length),(aB r.2.1.ax.fN.fG),(GK r),(aB r.2.1.ax.fD.fG),(GJ r),(aI r.2.1.b5)]),(1,aO 1 cI 0 r.2.2.1),(2,aO 1 cI 0 r.2.2.2.1),(Eh r),(Ej r),(GD r)]:=by
 unfold ql at h;refine sO Tryz.f38 177 fun E a=>?_;refine ah a 1 (kp [0]) dp 22 <| ah a 1 (kp [0,3]) dp 38 <| bD a 2 B1 dp 134 (pc o1 pn) <| cd a 2 B1 (kq [0,1,2,3,4] ++ [(6,.aj 5)]) 7 (Cc N _ _ _ _ _ _ _ _ _ _ _ _ N _ _ _ h E a)
noncomputable abbrev aes:=bt Tryz.f39
def qO (N:Nat) (g:Int) (f:Int) (h:Bool) (i:List Int) (j:Bool) (k:List Int) (l:Int) (a:List Int) (b:List Int) (c:List aN) (d:List aa) (e:List aa) (K:aN->Int->Option Gx):Prop:=∀ (out:List aa) (x:Int) (r:aN),K out x=some r->∀ E,aG E 6->ar Tryz.prog E 39 47 (aH E [(fP g f a b c d e h i j k l),(ba a),(dL b),(dQ c),(dn d),(fa e),(GC r)] (.os 6 0 r.length)) [.code (aes 116),.inLoop (aes 116),.inBlock 0,.code (aes 15)] ⟨[(0,(.op 0 0 0)),(3,(po out)),(ahk f),(13,(aI x))],[(fP g f a b c d e h i j k l),(ba a),(dL b),(dQ c),(dn d),(fa e),(si out)],7⟩
def yB (N:Nat) (h:Int) (f:Int) (i:Bool) (j:List Int) (k:Bool) (l:List Int) (m:Int) (a:List Int) (b:List Int) (c:List aN) (d:List aa) (e:List aa) (x:Int) (K:aN->Option Gx):Prop:=∀ (g:List aa) (r:aN),K g=some r->∀ E,aG E 6->ar Tryz.prog E 39 47 (aH E [(fP h f a b c d e i j k l m),(ba a),(dL b),(dQ c),(dn d),(fa e),(GC r)] (.os 6 0 r.length)) [.code (aes 935),.inLoop (aes 116),.inBlock 0,.code (aes 15)] ⟨[(0,(.op 0 0 0)),(3,(po g)),(ahk f),(13,(aI x))],[(fP h f a b c d e i j k l m),(ba a),(dL b),(dQ c),(dn d),(fa e),(si g)],7⟩
theorem qe (N:Nat) (a:Int) (b:Int) (c:Bool) (d:List Int) (e:Bool) (f:List Int) (g:Int) (i:List Int) (j:List Int) (k:List aN) (l:List aa) (m:List aa) (x:Int) (o:aN->Int->Option Gx) (p:qO N a b c d e f g i j k l m o):yB N a b c d e f g i j k l m x (iL N a b c d e f g i j k l m x o):=by
 intro q r h E n;unfold iL at h;refine ah n 0 MB iu 39 <| cd n 1 MB iu 7 (p _ _ _ h E n)
theorem xU (N e f g i j k l m d n o p fuel):qO N e f g i j k l m d n o p (cy N e f g i j k l m d n o p fuel):=by
 induction fuel with
 | zero=>intro _ _ r h;rw [cy.eq_1] at h;cases h
 | succ fuel q =>
  intro out x r h E a;rw [cy.eq_2] at h;refine ah a 1 (kp [0,3,12,13,14]) iu 23 <| b9 1 14 h (fun v h=>?_) (fun v h=>?_)
  ·refine ah a 4 (kp [0,3,4,12,13]) iu 55 ?_;obtain ⟨b,w,h⟩:=a7 h;obtain ⟨s,h⟩:=ae h;refine bc a 1 [(2,oT (aA b))] (kp [0] ++ [(3,.mM (u5 out x b))] ++ kp [4,12,13]) (kq [0,1,2,3,4,5] ++ [(Wn out x b)]) 135 (pc (fQ _ _ _ w) (pc s (pc (dz s) (pc (aF out x.toNat b) (pc (aF out x.toNat b) (pc (cn dY aa.d out x.toNat b) pn)))))) ?_;obtain ⟨y,z,h⟩:=a7 h;refine bc a 1 [(11,oT (aI y))] (kp [0,3,4,5,12,13]) iu 343 (pc o1 (pc o1 (pc (cN _ _ _ _ z) (pc (z1 d.length) pn)))) <| ah a 1 (kp [0,3,4,5,12,13,33]) iu 375 <| b9 0 33 h (fun A h=>?_) (fun A h=>?_)
   ·obtain ⟨t,h⟩:=ae h;obtain ⟨c,B,h⟩:=a7 h;obtain ⟨u,h⟩:=ae h;refine bc a 0 [(9,oT (aA c))] (kp [0] ++ [(3,.mM (((out.set x.toNat b).set x.toNat c).length))] ++ kp [12,13]) (kq [0,1,2,3,4,5] ++ [(6,ru 6 dY aa.d ((out.set x.toNat b).set x.toNat c))]) 567 (pc o1 (pc t (pc (dz t) (pc (kS _ _ _ B) (pc u (pc (dz u) (pc (aF (out.set x.toNat b) x.toNat c) (pc (aF (out.set x.toNat b) x.toNat c) (pc (cn dY aa.d (out.set x.toNat b) x.toNat c) pn))))))))) <| cd a 1 MB iu 7 (qe N _ _ _ _ _ _ _ _ _ _ _ _ _ _ q _ _ h E a)
   ·exact cd a 2 MB iu 7 (qe N _ _ _ _ _ _ _ _ _ _ _ _ _ _ q _ _ h E a)
  ·refine ah a 2 (kp [2]) iu 55 ?_;obtain rfl:=lk h;exact dN a 0 Tryz.f39 (kp [2]) iu 55
theorem su (N j a k l m n o b d e f g r) (h:jZ N j a k l m n o b d e f g=some r):Sd 39 [(.op 0 0 0)] [(fP j a b d e f g k l m n o),(ba b),(dL d),(dQ e),(dn f),(fa g)] 6 (.os 6 0 r.length) [(fP j a b d e f g k l m n o),(ba b),(dL d),(dQ e),(dn f),(fa g),(GC r)]:=by
 unfold jZ at h;refine sO Tryz.f39 47 fun E i=>?_;refine ah i 1 (kp [0]) dp 22 ?_;obtain ⟨c,h⟩:=ae h;refine bD i 1 (kp [0] ++ [(3,.mM (acT a))]) (ahH a) 118 (pc o1 (pc c.1 (pc (Int.le_refl a) (pc c.2.1 (pc c.2.2 (pc (lR a.toNat oz) (pc (lQ a.toNat oz) (pc (show ∀ zi,zi < (VK a).length->S4 ((fun _=>[(aB false),.nil,(aB false),.nil]) zi) ((Mt a) zi) from (fun p q=>nU dY aa.d aa.d a.toNat p ⟨.inl rfl,.inr ⟨rfl,_,rfl⟩,.inl rfl,.inr ⟨rfl,_,rfl⟩,trivial⟩ q)) pn)))))))) <| ah i 2 MB GY 166 <| cd i 2 MB abm 7 (xU N _ _ _ _ _ _ _ _ _ _ _ _ N _ _ _ h E i)
theorem Bv (N p i j k l m n o b d e f g r) (h:rX N p i j k l m n o b d e f g=some r):Sd 44 [(.op 0 0 0),(aI p)] [(fP i j b d e f g k l m n o),(ba b),(dL d),(dQ e),(dn f),(fa g)] 6 (aA r) [(fP i j b d e f g k l m n o),(ba b),(dL d),(dQ e),(dn f),(fa g)]:=by
 unfold rX at h;refine sO Tryz.f44 22 fun E a=>?_;refine ah a 1 Mx iu 22 ?_;obtain ⟨q,s,h⟩:=a7 h;refine bc a 2 [(5,oT (aI q))] MC iu 134 (pc o1 (pc (cN _ _ _ _ s) (pc (z1 b.length) pn))) <| ah a 1 (kp [0,4,5,13]) iu 166 <| b9 0 13 h (fun t h=>?_) (fun t h=>?_)
 ·obtain ⟨c,h⟩:=ae h;refine bD a 1 (kp [4]) iu 294 (pc o1 (pc c (pc (dz c) (pc o1 pn)))) ?_;cases h;exact ki a 0 Tryz.f44 [] (kp [4]) ahG 294 pn [22] (pc o1 pn)
 ·obtain ⟨u,v,h⟩:=a7 h;refine bc a 2 [(0,oT (aA u))] (kp [4]) iu 198 (pc (fQ _ _ _ v) (pc o1 pn)) ?_;obtain rfl:=lk h;exact ki a 0 Tryz.f44 [] (kp [4]) ahG 198 pn [22] (pc o1 pn)
noncomputable abbrev aod:=bt Tryz.f42
def EB (N:Nat) (f:Int) (g:Int) (h:Bool) (i:List Int) (j:Bool) (k:List Int) (l:Int) (a:List Int) (b:List Int) (c:List aN) (d:List aa) (e:List aa) (K:aN->Int->Option Gx):Prop:=∀ (out:List aa) (x:Int) (r:aN),K out x=some r->∀ E,aG E 6->ar Tryz.prog E 42 34 (aH E [(fP f g a b c d e h i j k l),(ba a),(dL b),(dQ c),(dn d),(fa e),(GC r)] (.os 6 0 r.length)) [.code (aod 116),.inLoop (aod 116),.inBlock 0,.code (aod 15)] ⟨[(0,(.op 0 0 0)),(1,(.fn (.func 44) [(.op 0 0 0)] [])),(5,(po out)),(ahl f),(14,(aI x))],[(fP f g a b c d e h i j k l),(ba a),(dL b),(dQ c),(dn d),(fa e),(si out)],7⟩
theorem Dm (N f g i j k l m n o b p q fuel):EB N f g i j k l m n o b p q (gr N f g i j k l m n o b p q fuel):=by
 induction fuel with
 | zero=>intro _ _ r h;rw [gr.eq_1] at h;cases h
 | succ fuel t =>
  intro out x r h E a;rw [gr.eq_2] at h;refine ah a 1 (kp [0,1,5,13,14,15]) iu 23 <| b9 1 15 h (fun u h=>?_) (fun u h=>?_)
  ·refine ah a 4 (kp [0,1,5,6,13,14]) iu 55 ?_;obtain ⟨rat,v,h⟩:=a7 h;obtain ⟨e,w,h⟩:=a7 h;obtain ⟨c,y,h⟩:=a7 h;obtain ⟨s,h⟩:=ae h;refine bc a 0 [(4,⟨[0,1,2,3,4,5],true,(aA rat),[],0,false,none⟩),(12,⟨[0,1,2,3,4,5],true,(aA e),[],0,false,none⟩),(13,oT (aA c))] (kp [0,1] ++ [(5,.mM (u5 out x c))] ++ kp [13,14]) (kq [0,1,2,3,4,5] ++ [(Wn out x c)]) 311 (pc (Bv _ _ _ _ _ _ _ _ _ _ _ _ _ _ _ v) (pc (show ∀ d,d < b.length->dA ((ai b) d)=true from (fun _ _=>rfl)) (pc o1 (pc (Bv _ _ _ _ _ _ _ _ _ _ _ _ _ _ _ w) (pc (show ∀ d,d < b.length->dA ((ai b) d)=true from (fun _ _=>rfl)) (pc (B4 _ _ _ _ y) (pc s (pc (dz s) (pc (aF out x.toNat c) (pc (aF out x.toNat c) (pc (cn dY aa.d out x.toNat c) pn))))))))))) <| ah a 1 GO iu 343 <| cd a 1 GO iu 7 (t _ _ _ h E a)
  ·refine ah a 2 (kp [4]) iu 55 ?_;obtain rfl:=lk h;exact dN a 0 Tryz.f42 (kp [4]) iu 55
theorem Hb (N a j k l m n o b d e f g r) (h:rC N a j k l m n o b d e f g=some r):Sd 42 [(.op 0 0 0),(.fn (.func 44) [(.op 0 0 0)] [])] [(fP a j b d e f g k l m n o),(ba b),(dL d),(dQ e),(dn f),(fa g)] 6 (.os 6 0 r.length) [(fP a j b d e f g k l m n o),(ba b),(dL d),(dQ e),(dn f),(fa g),(GC r)]:=by
 unfold rC at h;refine sO Tryz.f42 34 fun E i=>?_;refine ah i 1 (kp [0,1]) dp 22 ?_;obtain ⟨c,h⟩:=ae h;refine bD i 1 (ahA a) (ahH a) 118 (pc o1 (pc c.1 (pc (Int.le_refl a) (pc c.2.1 (pc c.2.2 (pc (lR a.toNat oz) (pc (lQ a.toNat oz) (pc (show ∀ zi,zi < (VK a).length->S4 ((fun _=>[(aB false),.nil,(aB false),.nil]) zi) ((Mt a) zi) from (fun p q=>nU dY aa.d aa.d a.toNat p ⟨.inl rfl,.inr ⟨rfl,_,rfl⟩,.inl rfl,.inr ⟨rfl,_,rfl⟩,trivial⟩ q)) pn)))))))) <| ah i 2 GO GY 166 <| cd i 2 GO abm 7 (Dm N _ _ _ _ _ _ _ _ _ _ _ _ N _ _ _ h E i)
noncomputable abbrev aoe:=bt Tryz.f25
def M1 (N:Nat) (l:List ByteArray) (K:Int->Option (Bool)):Prop:=∀ (i:Int) (r:Bool),K i=some r->∀ E,aG E 0->ar Tryz.prog E 25 16 (aH E [] (aB r)) [.code (aoe 52),.inLoop (aoe 52),.inBlock 0,.code (aoe 7)] ⟨[(Ji l),(3,(aI i))],[],0⟩
theorem KI (N l fuel):M1 N l (lS N l fuel):=by
 induction fuel with
 | zero=>intro _ r h;rw [lS.eq_1] at h;cases h
 | succ fuel b =>
  intro i r h E a;rw [lS.eq_2] at h;refine ah a 2 (kp [0,3,7]) [] 64 <| b9 0 7 h (fun d h=>?_) (fun d h=>?_)
  ·obtain ⟨c,h⟩:=ae h;refine bD a 4 (kp [0,3,15]) [] 160 (pc c pn) <| b9 0 15 h (fun e h=>?_) (fun e h=>?_)
   ·refine ah a 1 (kp [2]) [] 176 ?_;obtain rfl:=lk h;exact dN a 0 Tryz.f25 (kp [2]) [] 176
   ·refine ah a 2 (kp [0,3]) [] 208 <| cd a 1 (kp [0,3]) [] 0 (b _ _ h E a)
  ·refine ah a 2 (kp [2]) [] 80 ?_;obtain rfl:=lk h;exact dN a 0 Tryz.f25 (kp [2]) [] 80
theorem Hc (N l r) (h:uX N l=some r):Sd 25 [(uE l)] [] 0 (aB r) []:=by
 unfold uX at h;refine sO Tryz.f25 16 fun E a=>?_;refine ah a 1 (kp [0]) [] 16 <| ah a 2 (kp [0,3]) [] 32 <| cd a 2 (kp [0,3]) [] 0 (KI N _ N _ _ h E a)
noncomputable abbrev Wx:=bt Tryz.f5
def M3 (N:Nat) (w:aq) (K:Int->Option (Bool)):Prop:=∀ (i:Int) (r:Bool),K i=some r->∀ E,aG E 0->ar Tryz.prog E 5 146 (aH E [] (aB r)) [.code (Wx 116),.inLoop (Wx 116),.inBlock 0,.code (Wx 15)] ⟨[(2,(.op 0 0 0)),(5,(aI i))],[(eI w)],1⟩
def M4 (N:Nat) (w:aq) (K:Int->Option (Bool)):Prop:=∀ (a:Int) (r:Bool),K a=some r->∀ E,aG E 0->ar Tryz.prog E 5 146 (aH E [] (aB r)) [.code (Wx 244),.inLoop (Wx 244),.inBlock 2,.code (Wx 31)] ⟨[(2,(.op 0 0 0)),(6,(aI a))],[(eI w)],1⟩
def M5 (N:Nat) (w:aq) (K:Int->Option (Bool)):Prop:=∀ (a:Int) (r:Bool),K a=some r->∀ E,aG E 0->ar Tryz.prog E 5 146 (aH E [] (aB r)) [.code (Wx 500),.inLoop (Wx 500),.inBlock 4,.code (Wx 63)] ⟨[(2,(.op 0 0 0)),(7,(aI a))],[(eI w)],1⟩
end Go.Den
