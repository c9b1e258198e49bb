/- Each function of the program does what its Lean function computes (part 1). No conditions. -/
import Derived.Test.YthnmoifahladaaaGreatTopBallastRowsDen
import Derived.Test.YthnmoifahladaaaGreatProg
set_option linter.unusedVariables false
set_option maxRecDepth 100000
namespace Go.Den
open Go.Ab Go.Proofs Go.Ab.ay
abbrev Sd:=Sound Tryz.prog
abbrev eU (a:List Int):AV:=b5 (cU .u16) 0 a
abbrev aU (a:List Int):Ob:=aO 1 (cU .u16) 0 a
abbrev a64 (x:Int):AV:=.atom (.int .u64 x)
abbrev a32 (x:Int):AV:=.atom (.int .u32 x)
abbrev Zk (x:Int):AV:=.atom (.int .u16 x)
abbrev oT (x:AV):rS:=⟨[],true,x,[],0,false,none⟩
abbrev oF (x:AV):rS:=⟨[],false,x,[],0,false,none⟩
abbrev aZ (n:Nat) (g:Nat->List AV):∀ i,i < n->g i=g (bB 0 i):=fun _ _=>rfl
abbrev mG (C:List (List aa)):Nat->List AV:=fun zm=>mR 4 eT aa.d (C.getD zm [])
theorem mC (C:List (List aa)) (l:List (Nat×Nat×Nat)):∀ zm,zm < C.length->an l (mG C) zm=an l (mG C) zm:=fun _ _=>rfl
theorem iM (C:List (List aa)):∀ zm,zm < C.length->dT (mG C zm)=true:=fun _ _=>rfl
theorem kR {α:Type} {a b:α} (h:some a=some b):a=b:=Option.some.inj h
abbrev Xq (ai:(List Int)):=!(((ai.length:Nat):Int) != 1)
abbrev uS (ai:Bool) (bu:Bool):=!(cond (!ai) true (!bu))
abbrev Nl (ai:Bool) (bu:Bool) (gW:Bool):=!(cond (cond (!ai) true (!bu)) true (!gW))
abbrev Xr (ai:Bool) (bu:Bool) (gW:Bool) (s6:Bool):=!(cond (cond (cond (!ai) true (!bu)) true (!gW)) true (!s6))
abbrev afS (ai:dM):=cond (decide (((ai.qh.pZ.length:Nat):Int) > 20)) true (decide (((ai.qh.dh.length:Nat):Int) > 3))
abbrev afT (ai:dM):=cond (afS ai) true (decide (((ai.zy.a8.length:Nat):Int) > 10))
abbrev akg (ai:dM) (bu:Int):=!(cond (afT ai) true (bu != 0))
abbrev adi (ai:dM):=!(afT ai)
abbrev afU (ai:ByteArray) (bu:Int):=cond (decide ((zB ai bu)>=97)) (decide ((zB ai bu)<=122)) false
abbrev EZ (ai:ByteArray) (bu:Int):=(rT ai).getD ((bu).toNat) 0
abbrev Zl (ai:ByteArray) (bu:Int):=!(cond (afU ai bu) true (cond (decide ((EZ ai bu)>=65)) (decide ((EZ ai bu)<=90)) false))
abbrev amZ (ai:ByteArray) (bu:Int):=Zl ai bu
abbrev afV (ai:ByteArray) (bu:Int):=cond (decide ((zA ai bu)>=97)) (decide ((zA ai bu)<=122)) false
abbrev Zm (ai:ByteArray) (bu:Int):=!(cond (afV ai bu) true (cond (decide ((zA ai bu)>=65)) (decide ((zA ai bu)<=90)) false))
abbrev am0 (ai:ByteArray) (bu:Int):=Zm ai bu
abbrev afW (ai:dM):=!(afS ai)
abbrev Zn (ai:ByteArray) (bu:Int):=!(afU ai bu)
abbrev am1 (ai:ByteArray) (bu:Int):=Zn ai bu
abbrev Zo (ai:ByteArray) (bu:Int):=!(afV ai bu)
abbrev afX (ai:ByteArray) (bu:Int):=Zo ai bu
abbrev Ib (ai:List Int):=((ai.length:Nat):Int)
abbrev PL (ai:Int) (bu:List Int):=decide (ai < (Ib bu))
abbrev Xs (ai:Int) (bu:List Int):=!(PL ai bu)
abbrev UH (ai:j8):=((ai.fT.length:Nat):Int)
abbrev afY (ai:j8):=!(decide (ai.Td<=(ai.fT.getD ((aE ((UH ai) - 1)).toNat) lV.d).wY))
abbrev Xt (ai:dM):=!(decide (((ai.qh.pZ.length:Nat):Int) > 20))
abbrev MY (ai:List aa) (bu:aa):=ai ++ ([bu]:List aa)
abbrev abt (ai:List Int) (bu:Int):=ai ++ ([(IntKind.u16.wrap (bu))]:List Int)
abbrev UI (ai:Int) (bu:Int):=([(aE ((aE (2 * ai))+bu))]:List Int)
abbrev Tk (ai:List Int) (bu:Int) (gW:Int):=ai ++ (UI bu gW)
abbrev Ic (ai:cQ) (bu:Int):=ai.dh.getD ((bu).toNat) cL.d
abbrev vt (ai:List Int) (bu:Int):=ai.getD ((bu).toNat) 0
abbrev afZ (ai:cQ) (bu:Int) (gW:List Int):=([(⟨(Ic ai bu).zD,(Ic ai bu).D4,(aE ((vt gW bu) * (Ic ai bu).wU))⟩:fy)]:List fy)
abbrev aly (ai:List fy) (bu:cQ) (gW:Int) (s6:List Int):=ai ++ (afZ bu gW s6)
abbrev UJ (ai:cQ) (bu:Int) (gW:aa):=(List.replicate ai.dh.length aa.d:List aa).set ((bu).toNat) gW
abbrev af0 (ai:cQ) (bu:Int) (gW:aa) (s6:aa) (JO:aa) (Zp:aa):=([(⟨(UJ ai bu gW),s6⟩:aV),(⟨(UJ ai bu JO),Zp⟩:aV)]:List aV)
abbrev alz (ai:List aV) (bu:cQ) (gW:Int) (s6:aa) (JO:aa) (Zp:aa) (xq6:aa):=ai ++ (af0 bu gW s6 JO Zp xq6)
abbrev xH (ai:List Int) (bu:Int):=vt ai bu
abbrev Hy (ai:(List fy)) (bu:Int):=ai.getD ((bu).toNat) fy.d
abbrev vu (ai:List (List aa)) (bu:Int):=ai.getD ((bu).toNat) []
abbrev mS (ai:List (List aa)) (bu:Int):=vu ai bu
abbrev Tl (ai:List ab) (bu:Nat):=ai.getD (bB bu 0) ab.d
abbrev PM (ai:List Int) (bu:Int):=IntKind.u32.wrap ((vt ai bu))
abbrev af1 (ai:List Int) (bu:Int) (gW:Int) (s6:Int):=IntKind.u16.wrap ((IntKind.u32.wrap ((IntKind.u32.wrap ((PM ai bu)+(AF .u32 gW 16))) - s6)))
abbrev alA (ai:List Int) (bu:Int) (gW:List Int) (s6:Int) (JO:Int):=ai.set ((bu).toNat) (af1 gW bu s6 JO)
abbrev af2 (ai:Int) (bu:List Int) (gW:Int) (s6:Int):=IntKind.u16.wrap ((IntKind.u32.wrap ((Nj .u32 (AF .u32 ai 16) (PM bu gW)).tdiv (IntKind.u32.wrap (s6)))))
abbrev alB (ai:List Int) (bu:Int) (gW:Int) (s6:List Int) (JO:Int):=ai.set ((bu).toNat) (af2 gW s6 bu JO)
abbrev UK (ai:List Int) (bu:Int) (gW:Int):=AF .u32 (IntKind.u32.wrap ((vt ai bu))) gW
abbrev af3 (ai:List Int) (bu:Int) (gW:List Int) (s6:Int):=ai.set ((bu).toNat) (Nj .u16 (vt ai bu) (IntKind.u16.wrap ((UK gW bu s6))))
abbrev Xu (ai:List Int) (bu:Int) (gW:List Int) (s6:Int):=af3 ai bu gW s6
abbrev tl (ai:Int) (bu:Int):=(aE (ai+bu)).toNat
abbrev af4 (ai:Int) (bu:List Int) (gW:Int) (s6:List Int) (JO:Int) (Zp:List Int):=IntKind.u16.wrap ((IntKind.u32.wrap (ai+(IntKind.u32.wrap ((IntKind.u32.wrap ((PM bu gW) * (PM s6 JO)))+(IntKind.u32.wrap ((Zp.getD ((aE (gW+JO)).toNat) 0))))))))
abbrev alC (ai:List Int) (bu:Int) (gW:Int) (s6:Int) (JO:List Int) (Zp:List Int):=ai.set (tl bu gW) (af4 s6 JO bu Zp gW ai)
abbrev uZ (ai:List aa) (bu:Int) (gW:aa):=ai.set ((aE (2 * bu)).toNat) gW
abbrev Zq (ai:ByteArray) (bu:Int):=(Zl ai bu) && ((Zl ai bu) && (!(bu == 0)))
abbrev af5 (ai:ByteArray) (bu:Int):=Zq ai bu
abbrev Zr (ai:ByteArray) (bu:Int):=(Zm ai bu) && ((Zm ai bu) && (!(bu == 0)))
abbrev af6 (ai:ByteArray) (bu:Int):=Zr ai bu
abbrev alD (ai:ByteArray) (bu:Int):=(Zn ai bu) && ((Zn ai bu) && (decide ((EZ ai bu)>=65)))
abbrev alE (ai:ByteArray) (bu:Int):=(Zo ai bu) && ((Zo ai bu) && (decide ((zA ai bu)>=65)))
abbrev w9 (ai:Int):=!(decide (ai < 0))
abbrev DD (ai:Int):=(w9 ai) && ((w9 ai) && (ai == 0))
abbrev Xv (ai:Int) (bu:List (List aa)):=((ai).toNat,199,(vu bu ai).length)
abbrev MZ (ai:Int) (bu:List (List aa)):=((ai).toNat,214,(vu bu ai).length)
abbrev Xw (ai:Int) (bu:List (List aa)):=((ai).toNat,263,(vu bu ai).length)
abbrev Hz (ai:Int) (bu:List (List aa)):=((ai).toNat,55,(vu bu ai).length)
abbrev cr (ai:Int) (bu:List aa):=((ai).toNat,6,bu.length)
abbrev Xx (ai:Int) (bu:List (List aa)):=((ai).toNat,6,(vu bu ai).length)
abbrev z6 (ai:Int) (bu:List aa) (gW:Int) (s6:aa):=((ai).toNat,6,(bu.set ((gW).toNat) s6).length)
abbrev Tm (ai:List ab) (bu:Nat) (gW:ab×Bool):=(ai.drop bu) ++ ([gW.1]:List ab)
abbrev oQ (ai:List (List aa)) (bu:Int):=(vu ai bu).length
abbrev E0 (ai:List Int):=Ib ai
abbrev Tn (ai:List Int):=E0 ai
abbrev wC (ai:List aa) (bu:Int) (gW:aa):=(ai.set ((bu).toNat) gW).length
abbrev abu (ai:List av) (bu:Int) (gW:Int):=(ai.set ((bu).toNat) (ai.getD ((gW).toNat) av.d)).set ((gW).toNat) (ai.getD ((bu).toNat) av.d)
abbrev alF (ai:List Int) (bu:Int) (gW:List Int) (s6:Int):=(af3 ai bu gW s6).set ((aE (bu+1)).toNat) (IntKind.u16.wrap ((wX .u32 (UK gW bu s6) 16)))
abbrev Zs (ai:ByteArray) (bu:Int):=(Zq ai bu) && ((Zq ai bu) && ((EZ ai bu) != 45))
abbrev af7 (ai:ByteArray) (bu:Int):=Zs ai bu
abbrev Zt (ai:ByteArray) (bu:Int):=(Zr ai bu) && ((Zr ai bu) && ((zA ai bu) != 45))
abbrev af8 (ai:ByteArray) (bu:Int):=Zt ai bu
abbrev abv (ai:List (List aa)) (bu:Int) (gW:Int):=((vu ai bu).getD ((gW).toNat) aa.d).fD
abbrev abw (ai:List (List aa)) (bu:Int) (gW:Int):=((vu ai bu).getD ((gW).toNat) aa.d).fN
abbrev alG (ai:ByteArray) (bu:Int):=(Zs ai bu) && ((Zs ai bu) && (!(decide ((EZ ai bu) < 48))))
abbrev alH (ai:ByteArray) (bu:Int):=(Zt ai bu) && ((Zt ai bu) && (!(decide ((zA ai bu) < 48))))
abbrev abx (ai:cQ) (bu:Int) (gW:aa):=(UJ ai bu gW).length
abbrev aby (ai:List Int):=(([]:List Int) ++ ai).length
abbrev af9 (ai:List Int) (bu:Int):=(([]:List Int) ++ ((ai.take ((bu).toNat)).drop 0)).length
abbrev abz:=(List ByteArray)×Int
abbrev JP:=(List Int)×(List Int)
abbrev l8:=(List Int)
abbrev HA:=(List av)×Int
abbrev Ls:=List aa
abbrev abA:=Ls×aa×Bool
abbrev E1:=Ls
abbrev Zu (ai:cQ):=(List.replicate ai.dh.length 0:List Int)
abbrev aga (ai:cQ):=(Zu ai).length
abbrev agb (ai:cQ) (bu:Int):=(Zu ai).set ((bu).toNat) 1
abbrev Zv (ai:cQ):=(List.replicate ai.dh.length aa.d:List aa)
abbrev abB (ai:cQ):=(Zv ai).length
abbrev DE (ai:cQ) (bu:Int) (gW:aa):=UJ ai bu gW
abbrev UL (ai:List Int):=(List.replicate ai.length 0:List Int)
abbrev agc (ai:List Int):=(UL ai).length
abbrev UM (ai:Int):=(List.replicate ((ai).toNat) aa.d:List aa)
abbrev agd (ai:Int):=(UM ai).length
abbrev abC (ai:Int):=agd ai
abbrev Zw (ai:Int):=(List.replicate ((aE ((aE (2 * ai))+1)).toNat) aa.d:List aa)
abbrev abD (ai:Int):=(Zw ai).length
abbrev M0 (ai:List Int):=([]:List Int) ++ ai
abbrev PN (ai:List Int) (bu:Int):=([]:List Int) ++ ((ai.take ((bu).toNat)).drop 0)
abbrev abE (ai:cQ):=([]:List fy) ++ ai.pZ
abbrev BQ (ai:Int) (bu:Int):=(decide (ai < 0)) && ((decide (ai < 0)) && (w9 bu))
abbrev BR (ai:Int) (bu:Int):=(decide (ai < 65536)) && ((decide (ai < 65536)) && (!(decide (bu > 65535))))
abbrev DF (ai:Int) (bu:Int):=(decide (ai > 0)) && ((decide (ai > 0)) && (w9 bu))
abbrev To (ai:List aa) (bu:Int) (gW:Int):=(ub ai ((bu).toNat) ((gW).toNat)).take (((bu).toNat - 0)+(ai.length - (gW).toNat))
abbrev PO (ai:Int) (bu:List Int) (gW:Int):=((ai).toNat - 0)+(bu.length - (gW).toNat)
abbrev Tp (ai:List Int) (bu:Int) (gW:Int):=(ub ai ((bu).toNat) ((gW).toNat)).take (PO bu ai gW)
abbrev Xy (ai:Int) (bu:List Int):=(aE (ai+(E0 bu))).toNat
abbrev Zx (ai:List Int) (bu:List Int):=aE ((Ib ai)+(Ib bu))
abbrev age (ai:List Int) (bu:List Int):=(Zx ai bu).toNat
abbrev PQ (ai:List Int):=aE ((Ib ai)+1)
abbrev agf (ai:List Int):=(PQ ai).toNat
abbrev PR (ai:List Int):=(((ai.length - 0):Nat):Int)
abbrev UN (ai:(List Int)) (bu:List Int):=aE (((ai.length:Nat):Int) - (PR bu))
abbrev Tr (ai:(List Int)) (bu:List Int):=(UN ai bu).toNat
abbrev JQ (ai:List Int):=(aE ((E0 ai) - 1)).toNat
abbrev Xz (ai:List Int) (bu:Int) (gW:Int) (s6:List Int) (JO:Int) (Zp:Int):=(aE ((aE ((ai.getD (tl bu gW) 0)+(aE ((vt s6 bu) * JO))))+Zp)).tmod 65536
abbrev Zy (ai:List Int) (bu:List Int):=aE ((aE ((Ib ai)+(Ib bu)))+1)
abbrev agh (ai:List Int) (bu:List Int):=(Zy ai bu).toNat
abbrev Ts (ai:Int):=(aE ((aE (2 * ai))+1)).toNat
abbrev XA (ai:j8):AV:=.agg (j8.cells ai)
abbrev ba (ai:cX):AV:=.agg (TIc ai)
abbrev JR (ai:bF):AV:=.agg (bF.cells ai)
abbrev sH (ai:cQ):AV:=.agg (cQ.cells ai)
abbrev ao (ai:aa):AV:=.agg (eT ai)
abbrev E2 (ai:aV):AV:=.agg (TWc ai)
abbrev XB (ai:da):AV:=.agg (da.cells ai)
abbrev M1 (ai:ab):AV:=.agg (ab.cells ai)
abbrev XC (ai:eH):AV:=.agg (eH.cells ai)
abbrev E3 (ai:cX):AV:=.agg [(aB ai.fG),(.os 0 0 ai.fL.length)]
abbrev jr (ai:aa):AV:=.agg [(aB ai.fN.fG),(.os 0 0 ai.fN.fL.length),(aB ai.fD.fG),(.os 1 0 ai.fD.fL.length)]
abbrev abF (ai:aa):AV:=.agg [(aB ai.fN.fG),(.os 1 0 ai.fN.fL.length),(aB ai.fD.fG),(.os 2 0 ai.fD.fL.length)]
abbrev HC (ai:Int×(List Int)):AV:=.atom (.int .u16 ai.1)
abbrev abG (ai:Int):AV:=.atom (.int .u16 (IntKind.u16.wrap (ai)))
abbrev JS (ai:Int):AV:=.atom (.int .u32 ai)
abbrev wD (ai:Int):AV:=.atom (.int .u64 ai)
abbrev agi (ai:Int) (bu:List Int):AV:=.os 0 ((ai).toNat) ((aE ((aE (ai+(PR bu)))+1)).toNat - (ai).toNat)
abbrev lN (ai:List Int):AV:=.os 0 0 ai.length
abbrev Ie (ai:ow):AV:=.os 1 0 ai.Gy.length
abbrev rX (ai:List Int):AV:=.os 1 0 ai.length
abbrev Ig (ai:ow):AV:=.os 2 0 ai.Pq.length
abbrev AK (ai:List Int):AV:=.os 2 0 ai.length
abbrev UO (ai:List Int) (bu:Int) (gW:List aV):=ai ++ ([(aE ((aE (2 * bu))+((gW.length:Nat):Int)))]:List Int)
abbrev UP (ai:List Int) (bu:Int) (gW:List aV):AV:=.os 2 0 ((UO ai bu gW).length)
abbrev yS (ai:List (List aa)):AV:=.os 3 0 ai.length
abbrev xa (ai:List aa):AV:=.os 4 0 ai.length
abbrev Ih (ai:ow):AV:=.os 5 0 ai.rU.length
abbrev Zz (ai:List aa):AV:=.os 5 0 ai.length
abbrev Lv (ai:List (List aa)) (bu:Int):AV:=.os 55 0 ((vu ai bu).length)
abbrev pL (ai:List aa):AV:=.os 6 0 ai.length
abbrev agj (ai:(List Int)×Int):AV:=.sl 1 (fun zi=>(fun zi=>([[(Zk ai.2)]]:List (List AV)).getD zi []) (bB 0 zi))
abbrev agk (ai:Int):AV:=.sl 1 (fun zi=>(fun zi=>([[(aI ai)]]:List (List AV)).getD zi []) (bB 0 zi))
abbrev ZA (ai:cX×cX×Int):AV:=.tup [(.agg (TIc ai.1)),(.agg (TIc ai.2.1)),(aI ai.2.2)]
abbrev Lw (ai:aa×(List aa)):AV:=.tup [(.agg (eT ai.1)),(b5 eT aa.d ai.2)]
abbrev Lx (ai:ab×Bool):AV:=.tup [(.agg (ab.cells ai.1)),(aB ai.2)]
abbrev UQ (ai:ab×Int):AV:=.tup [(.agg (ab.cells ai.1)),(aI ai.2)]
abbrev agl (ai:aa×Int):AV:=.tup [(.agg [(aB ai.1.fN.fG),(.os 0 0 ai.1.fN.fL.length),(aB ai.1.fD.fG),(.os 1 0 ai.1.fD.fL.length)]),(aI ai.2)]
abbrev Ii (ai:Int×Bool):AV:=.tup [(a64 ai.1),(aB ai.2)]
abbrev Ij (ai:Int×Int):AV:=.tup [(aI ai.1),(aI ai.2)]
abbrev UR (ai:(List Int)×Int):AV:=.tup [(eU ai.1),(Zk ai.2)]
abbrev vv (ai:(List Int)×(List Int)):AV:=.tup [(eU ai.1),(eU ai.2)]
abbrev Ly (ai:(List av)×Int):AV:=.tup [(b5 av.cells av.d ai.1),(aI ai.2)]
abbrev PS (ai:(List aa)×aa×Bool):AV:=.tup [(b5 eT aa.d ai.1),(.agg (eT ai.2.1)),(aB ai.2.2)]
abbrev Ik (ai:(List Int)×(List Int)):AV:=.tup [(b5 cI 0 ai.1),(b5 cI 0 ai.2)]
abbrev Il (ai:(List ByteArray)×Int):AV:=.tup [(b5 cS ByteArray.empty ai.1),(aI ai.2)]
abbrev vw (ai:List Int):=(0,(b5 cI 0 ai))
abbrev AL (ai:(List aa)):=(0,aO 4 eT aa.d ai)
abbrev E4 (ai:List aa):=(0,aO 4 eT aa.d ai)
abbrev US (ai:List aa) (bu:Int) (gW:aa):=(0,pY 0 eT aa.d (ai.set ((bu).toNat) gW))
abbrev E5 (ai:List aa):=(0,vO 1 [(b5 eT aa.d ai)])
abbrev Lz (ai:cR):=(0,vO 16 (cR.cells ai))
abbrev jQ (ai:cQ):=(0,vO 5 (cQ.cells ai))
abbrev vz (ai:List Int):=(1,(b5 cI 0 ai))
abbrev ey (ai:List Int):=(1,aO 1 cI 0 ai)
abbrev Im (ai:ow):=(1,aO 1 cI 0 ai.Gy)
abbrev vA (ai:List aa):=(1,aO 4 eT aa.d ai)
abbrev UT (ai:cg×Int):=(1,vO 18 (cg.cells ai.1))
abbrev UU (ai:List aa):=(12,(aI ((ai.length:Nat):Int)))
abbrev agm (ai:Int):=aI (((UM ai).length:Nat):Int)
abbrev agn (ai:Int):=(12,(agm ai))
abbrev Ip (ai:List Int):=(14,(aI (E0 ai)))
abbrev fF (ai:List Int):=(2,aO 1 cI 0 ai)
abbrev Iq (ai:ow):=(2,aO 1 cI 0 ai.Pq)
abbrev UW (ai:List Int) (bu:Int) (gW:List aV):=(2,aO 1 cI 0 (UO ai bu gW))
abbrev LC (ai:aa):=(2,vO 4 (eT ai))
abbrev fx (ai:List (List aa)):=(3,aM 4 eT aa.d ai)
abbrev CS (ai:ow×(List Int)×(List Int)×(List (List aa))×(List aa)×(List aa)):=(3,aM 4 eT aa.d ai.2.2.2.1)
abbrev E6 (ai:Bool×ow×(List Int)×(List Int)×(List (List aa))×(List aa)):=(3,aM 4 eT aa.d ai.2.2.2.2.1)
abbrev Ir (ai:ow):=(3,aM 4 eT aa.d ai.f_a)
abbrev UX (ai:List ab):=(3,aO 6 ab.cells ab.d ai)
abbrev eA (ai:List aa):=(4,aO 4 eT aa.d ai)
abbrev CT (ai:ow×(List Int)×(List Int)×(List (List aa))×(List aa)×(List aa)):=(4,aO 4 eT aa.d ai.2.2.2.2.1)
abbrev E7 (ai:Bool×ow×(List Int)×(List Int)×(List (List aa))×(List aa)):=(4,aO 4 eT aa.d ai.2.2.2.2.2)
abbrev Is (ai:ow):=(4,aO 4 eT aa.d ai.Tb)
abbrev ZC (ai:List ab) (bu:Nat):=(4,vO 6 (ab.cells (ai.getD (bB bu 0) ab.d)))
abbrev UY (ai:List Int):=(5,(aI (E0 ai)))
abbrev gx (ai:List aa):=(5,aO 4 eT aa.d ai)
abbrev CU (ai:ow×(List Int)×(List Int)×(List (List aa))×(List aa)×(List aa)):=(5,aO 4 eT aa.d ai.2.2.2.2.2)
abbrev It (ai:ow):=(5,aO 4 eT aa.d ai.rU)
abbrev Iu (ai:(List aa)):=(6,aO 4 eT aa.d ai)
abbrev tn (ai:List aa):=(6,aO 4 eT aa.d ai)
abbrev E8 (ai:Bool×ow×(List Int)×(List Int)×(List (List aa))×(List aa)):=(6,aO 4 eT aa.d ai.2.1.rU)
abbrev PT (ai:cQ):=((ai.dh.length:Nat):Int)
abbrev UZ (ai:cQ):=aI (PT ai)
abbrev ZD (ai:cQ):=(64,(UZ ai))
abbrev ZE:=List (List aa)
abbrev Iv:=Bool×ow×(List Int)×(List Int)×ZE×Ls
abbrev LD:=Int×(List Int)
abbrev Fa (ai:Int):=IntKind.u16.wrap (ai)
abbrev ZF (ai:Int) (bu:List Int) (gW:Nat) (s6:Int) (JO:List Int):=IntKind.u16.wrap ((IntKind.u32.wrap (ai+(IntKind.u32.wrap ((IntKind.u32.wrap ((bu.getD (bB gW (s6).toNat) 0)))+(PM JO s6))))))
abbrev ZG (ai:Int) (bu:List Int) (gW:Int) (s6:List Int) (JO:Int) (Zp:List Int):=af4 ai bu gW s6 JO Zp
abbrev ZH (ai:List Int) (bu:Int) (gW:Int) (s6:Int):=af1 ai bu gW s6
abbrev ZJ (ai:Int) (bu:List Int) (gW:Int) (s6:Int):=af2 ai bu gW s6
abbrev ago (ai:List Int) (bu:Int) (gW:Int):=IntKind.u16.wrap ((wX .u32 (Nj .u32 (IntKind.u32.wrap ((vt ai bu))) (AF .u32 (IntKind.u32.wrap ((ai.getD ((aE (bu+1)).toNat) 0))) 16)) gW))
abbrev LF (ai:List Int) (bu:Int) (gW:Int):=ago ai bu gW
abbrev ZK (ai:List Int) (bu:Int) (gW:Int):=IntKind.u16.wrap ((wX .u32 (UK ai bu gW) 16))
abbrev ZL (ai:List Int) (bu:Nat) (gW:Int) (s6:Int) (JO:Int):=IntKind.u16.wrap ((aE ((aE ((aE ((ai.getD (bB bu (gW).toNat) 0))) - (aE ((JF .u64 s6 65535)))))+JO)))
abbrev mF:=ZE
abbrev AM:=List (ab×ar)
abbrev tp:=List ByteArray
abbrev AN:=List av
abbrev U0:=List fy
abbrev aK:=Ls
abbrev U1:=List aV
abbrev AO:=List ab
abbrev U2 (ai:(List Int)×(List Int)):=(List.replicate ai.2.length aa.d:List aa)
abbrev PU (ai:cQ):=Zu ai
abbrev Fb (ai:cQ):=Zv ai
abbrev ZM (ai:Int):=UM ai
abbrev agp (ai:List Int) (bu:List Int):=(List.replicate ((Zx ai bu).toNat) 0:List Int)
abbrev agq (ai:List Int):=(List.replicate ((PQ ai).toNat) 0:List Int)
abbrev agr (ai:List Int) (bu:List Int):=(List.replicate ((Zy ai bu).toNat) 0:List Int)
abbrev ZN (ai:Int):=Zw ai
abbrev xc (ai:aa):=eT ai
abbrev rY:=(aa.d:aa)
abbrev Iw:=ow×(List Int)×(List Int)×ZE×Ls×Ls
abbrev Fc:=ow
abbrev Fe:=ab×ar
abbrev Ix (ai:ab):=ab.cells ai
abbrev CV (ai:eH):=eH.cells ai
abbrev LG (ai:ab×Bool):=([ai.1]:List ab)
abbrev xd (ai:aa):=([ai]:List aa)
abbrev PV (ai:(List ByteArray)) (bu:Int):=([(ai.getD ((bu).toNat) ByteArray.empty)]:List ByteArray)
abbrev PW (ai:Int) (bu:Int) (gW:Int):=([((aE ((aE (ai+bu))+gW)).tmod 65536)]:List Int)
abbrev ags (ai:(List Int)) (bu:List Int):=(List.replicate ((UN ai bu).toNat) 0:List Int)
abbrev agt (ai:(List Int)) (bu:List Int):=[(4,.lx ((ags ai bu).length))] ++ kp [8,9,10,11]
abbrev Iy (ai:Int):=([(IntKind.u16.wrap (ai))]:List Int)
abbrev PX (ai:List Int) (bu:Int):=([(IntKind.u16.wrap ((vt ai bu)))]:List Int)
abbrev PY (ai:Int):=([(IntKind.u16.wrap ((JF .u64 ai 65535)))]:List Int)
abbrev PZ (ai:List Int) (bu:Int):=([(aE ((vt ai bu)))]:List Int)
abbrev P0 (ai:Int):=([(aE ((ai.tmod 65536)))]:List Int)
abbrev ZO (ai:Int) (bu:List aV):=([(aE ((aE (2 * ai))+((bu.length:Nat):Int)))]:List Int)
abbrev ZP (ai:cQ) (bu:Int) (gW:List Int):=afZ ai bu gW
abbrev ZQ (ai:cQ) (bu:Int) (gW:aa) (s6:aa) (JO:aa) (Zp:aa):=af0 ai bu gW s6 JO Zp
abbrev agu (ai:ab×Bool):=([[(aI ai.1.e0),(aI ai.1.e1),(aI ai.1.e2),(aI ai.1.e3),(aI ai.1.e4),(aI ai.1.e5)]]:List (List AV))
abbrev agv (ai:ab×Bool):=agu ai
abbrev yT (ai:aa):=aB ai.fD.fG
abbrev yU (ai:aa):=aB ai.fN.fG
abbrev Iz (ai:ow):=aB ai.aJ.fD.fG
abbrev IA (ai:ow):=aB ai.aJ.fN.fG
abbrev yV (ai:List Int):=aI (E0 ai)
abbrev xe (ai:List aV):=aI ((ai.length:Nat):Int)
abbrev P1 (ai:List aa):=aI ((ai.length:Nat):Int)
abbrev U3 (ai:List Int):=aI (PR ai)
abbrev agw (ai:Int):=agm ai
abbrev LH (ai:Int) (bu:List aV):=aI (aE ((aE (2 * ai))+((bu.length:Nat):Int)))
abbrev U4 (ai:Int) (bu:(List ByteArray)×Int):=cond (ai == 0) (decide (((bu.1.length:Nat):Int) > 0)) false
abbrev r7 (ai:Int):=decide (ai > 0)
abbrev IC (ai:List Int):=decide ((E0 ai) > 0)
abbrev bw (ai:List Int):=eU ai
abbrev bD (ai:(List Int)):=eU ai
abbrev CW (ai:ow×(List Int)×(List Int)×(List (List aa))×(List aa)×(List aa)):=eU ai.1.aJ.fD.fL
abbrev CX (ai:ow×(List Int)×(List Int)×(List (List aa))×(List aa)×(List aa)):=eU ai.1.aJ.fN.fL
abbrev Ff (ai:Bool×ow×(List Int)×(List Int)×(List (List aa))×(List aa)):=eU ai.2.1.aJ.fD.fL
abbrev Fg (ai:Bool×ow×(List Int)×(List Int)×(List (List aa))×(List aa)):=eU ai.2.1.aJ.fN.fL
abbrev yW (ai:aa):=eU ai.fD.fL
abbrev yX (ai:aa):=eU ai.fN.fL
abbrev IE (ai:ow):=eU ai.aJ.fD.fL
abbrev IG (ai:ow):=eU ai.aJ.fN.fL
abbrev ZR (ai:j8):=b5 lV.cells lV.d ai.fT
abbrev U5 (ai:(List fy)):=b5 fy.cells fy.d ai
abbrev pM (ai:List aa):=b5 eT aa.d ai
abbrev oS (ai:List aV):=b5 TWc aV.d ai
abbrev U6 (ai:(List aV)):=b5 TWc aV.d ai
abbrev ZS (ai:cQ):=b5 cL.cells cL.d ai.dh
abbrev CY (ai:(List ByteArray)):=b5 cS ByteArray.empty ai
abbrev ZT (ai:List (ab×ar)):=vj (fun x=>.agg (ab.cells x)) (fun x=>.agg (ar.cells x)) ai
abbrev agx (ai:ab×Bool):=fun zi=>(agu ai).getD zi []
abbrev agy:=fun zi=>(fun zi=>([[(aI 12000000000)],[(aI 1000)]]:List (List AV)).getD zi []) (bB 0 zi)
abbrev CZ (ai:List (List aa)) (bu:Int):=fun zi=>eT ((vu ai bu).getD zi aa.d)
abbrev agz (ai:(List Int)×(List Int)):=fun zi=>eT ((List.replicate ai.2.length aa.d:List aa).getD zi aa.d)
abbrev U7 (ai:cQ):=fun zi=>eT ((Zv ai).getD zi aa.d)
abbrev agA (ai:Int):=fun zi=>eT ((UM ai).getD zi aa.d)
abbrev U8 (ai:Int):=agA ai
abbrev U9 (ai:Int):=fun zi=>eT ((Zw ai).getD zi aa.d)
abbrev Va:=fun zi=>eT (([]:List aa).getD zi aa.d)
abbrev agB:=fun zi=>cI (([]:List Int).getD zi 0)
abbrev P2:=agB
abbrev AP (ai:List (List aa)):=fun zm=>mR 4 eT aa.d (ai.getD zm [])
abbrev ah (ai:List (List aa)):=AP ai
abbrev C6 (ai:List (List aa)) (bu:List aa) (gW:Int) (s6:aa):=ai ++ [(bu.set ((aE (2 * gW)).toNat) s6)]
abbrev LI (ai:List (List aa)) (bu:List aa) (gW:Int) (s6:aa):=fun zm=>mR 4 eT aa.d ((C6 ai bu gW s6).getD zm [])
abbrev Vb (ai:List (List aa)) (bu:Int) (gW:List aa):=fun zm=>mR 4 eT aa.d ((ai.set ((bu).toNat) gW).getD zm [])
abbrev AQ (ai:List (List aa)) (bu:Int) (gW:(List aa)):=fun zm=>mR 4 eT aa.d ((ai.set ((bu).toNat) gW).getD zm [])
abbrev LJ:=kp [0,1,2,6,7,30,31]
abbrev vB:=kp [0,1,2,7,74,75]
abbrev agC:=kp [0,1,2,7,9,10,74,75,95]
abbrev P3:=kp [0,1,2,7,9,10,74,75]
abbrev P4:=kp [0,1,2,7]
abbrev vC:=kp [0,1,2]
abbrev IH:=kp [0,1,4]
abbrev Vc:=kp [0,1,5,13,14]
abbrev P5:=kp [0,1,5,25,26]
abbrev Fh:=kp [0,1,5,6,14,15]
abbrev Vd:=kp [0,1,5,6,7,8,9,14,15]
abbrev yY:=kp [0,1,5,6,7,8]
abbrev Fi:=kp [0,1,5,6,7]
abbrev tq:=kp [0,1,5,6]
abbrev Ve:=kp [0,1,5,7,10,11,12,84,85]
abbrev LK:=kp [0,1,5,7,14,126,127]
abbrev P6:=kp [0,1,5,7,8,16]
abbrev vD:=kp [0,1,5,7,8]
abbrev P7:=kp [0,1,5,7,9,10,84,85]
abbrev r9:=kp [0,1,5]
abbrev LL:=kp [0,1,6,7,8,9,10]
abbrev vE:=kp [0,1,6,7,8]
abbrev P8:=kp [0,1,7,8,9]
abbrev oU:=kp [0,1,7,8]
abbrev P9:=kp [0,161,162]
abbrev agD:=kp [0,1] ++ [(5,.sC 0)] ++ kp [6,7]
abbrev C7:=kp [0,2,3,4]
abbrev Fj:=kp [0,2,3]
abbrev Vf:=kp [0,2,4]
abbrev agE:=kp [0,2] ++ [(3,.sC 1)] ++ kp [4]
abbrev LO:=kp [0,3,12,13]
abbrev II:=kp [0,3,15,16]
abbrev Qa:=kp [0,3,4]
abbrev Vg:=kp [0,3,5]
abbrev Qb:=kp [0,3,6,7,8]
abbrev IJ:=kp [0,3,9,10]
abbrev LP:=kp [0,4,5]
abbrev Qc:=kp [0,5,53,54,55]
abbrev ZU:=kp [0,5,8,53,54,55]
abbrev Vh:=kp [0,5,8,9,10,11,53,54,55,77,78]
abbrev Vi:=kp [0,5,8,9,53,54,55,77,78]
abbrev LR:=kp [0,6,7]
abbrev LS:=kp [0,8,126,127]
abbrev Vj:=kp [1,11,12,13]
abbrev uA:=kp [1,2,3,9,12,13]
abbrev ZV:=kp [1,2,4,7,8,9]
abbrev IK:=kp [1,2,4]
abbrev Qd:=kp [1,2,5,10,11,12]
abbrev C8:=kp [1,2,5,6]
abbrev ZW:=kp [1,2,5,7,8,10,11,12]
abbrev LU:=kp [1,2,5]
abbrev Vk:=kp [1,2,7,9,19,20]
abbrev Vl:=kp [1,3,29,30,31]
abbrev ZX:=kp [1,3,4,5,6,7]
abbrev Qe:=kp [1,4,5,6]
abbrev Qf:=kp [1,4,5,9,10,11]
abbrev Vm:=kp [1,5,13,14,15]
abbrev Vn:=kp [1,5,17,18,19]
abbrev Vo:=kp [1,5,6,13,14,15]
abbrev Fk:=kp [1,5,6,20,21,22]
abbrev Qg:=kp [1,5,6,7,8,17,18,19,24,25,26]
abbrev Vp:=kp [1,5,6,7,8,9,13,14,15]
abbrev Vq:=kp [1,5,6,7]
abbrev Vr:=kp [1,5,7,8,9,13,14,15]
abbrev IL:=kp [12,13,14]
abbrev Vs:=kp [2,13,14]
abbrev Qh:=kp [2,3,4,5,6,13,14,15]
abbrev ZY:=kp [2,3,4,5,6,17]
abbrev Z0:=kp [2,3,4,5,6,27]
abbrev LV:=kp [2,3,4,5,6,7]
abbrev tu:=kp [2,3,4,5,6]
abbrev Z1:=kp [2,3,4,5,9,10]
abbrev kg:=kp [2,3,4]
abbrev Qi:=kp [2,3,8,9,10]
abbrev Vt:=kp [2,3,9,17,18]
abbrev Fl:=kp [2,4,5,6,7,8,9,10]
abbrev Qj:=kp [2,4,6,16,17,18]
abbrev Vu:=kp [2,7,9,11,12,13,29,30,31,44,45,46]
abbrev Qk:=kp [2,7,9,11,29,30,31]
abbrev Vv:=kp [2,8,9,10,11]
abbrev Ql:=kp [3,4,5,6,29,30,31]
abbrev LW:=kp [3,4,5,6]
abbrev AR:=kp [3,4,7,8]
abbrev Qm:=kp [3,4,9,10,11]
abbrev Qn:=kp [3,7,8,9]
abbrev IM:=kp [3,8,10,11,12,13,64,65,68,69,70]
abbrev Vw:=kp [3,8,10,11,12,64,65]
abbrev AS:=kp [4,5,6]
abbrev Fm:=kp [4,5,8,9,81,82]
abbrev Fo:=kp [4,8,9,10,11,12]
abbrev agF (ai:List Int) (bu:Int) (gW:List Int) (s6:Int):=ai.set ((bu).toNat) (ago gW bu s6)
abbrev agG (ai:List Int) (bu:Int) (gW:List Int) (s6:Int):=kp [4] ++ [(5,.lx ((agF ai bu gW s6).length))] ++ kp [8,9,81,82]
abbrev agH (ai:List Int):=kp [4] ++ [(5,.lx ((List.replicate (ai.length - 0) 0:List Int).length))] ++ kp [8,9,11]
abbrev Qo:=kp [5,144,145]
abbrev Z2:=kq [0,1,2,3,100]
abbrev Z3:=kq [0,1,2,3,4,5,118,262]
abbrev Z4:=kq [0,1,2,3,4,5,6,583]
abbrev Z5:=kq [0,1,2,3,4,5,6,71]
abbrev agI:=kq [0,1,2,3,4,5,6] ++ [(7,.af 583)]
abbrev agJ:=kq [0,1,2,3,4,5,6] ++ [(7,.af 71)]
abbrev hO:=kq [0,1,2,3,4,5,6]
abbrev agK:=kq [0,1,2,3,4,5] ++ [(22,.af 6)]
abbrev agL:=kq [0,1,2,3,4,5] ++ [(6,.af 86)]
abbrev agM (ai:Int):=kq [0,1,2,3,4,5] ++ [(86,.arz 86 (agd ai) (agA ai))]
abbrev cY:=kq [0,1,2,3,4,5]
abbrev gl:=kq [0,1,2,3,4,6]
abbrev Qp:=kq [0,1,2,3,4]
abbrev sa:=kq [0,1,2,3]
abbrev Vx:=kq [0,1,2,67]
abbrev agN (ai:List (List aa)) (bu:Int):=kq [0,1,2] ++ [(3,.Cr 3 (ai.length) [((bu).toNat,214,(vu ai bu).length)] (AP ai))] ++ kq [4,5,182,214]
abbrev Z6 (ai:List (List aa)) (bu:Int) (gW:List aa):=kq [0,1,2] ++ [(3,.Cr 3 (ai.length) [((bu).toNat,6,gW.length)] (AP ai))] ++ kq [4,5,6,135]
abbrev agO (ai:List (List aa)) (bu:Int) (gW:List aa):=kq [0,1,2] ++ [(3,.Cr 3 (ai.length) [((bu).toNat,6,gW.length)] (AP ai))] ++ kq [4,5,6,215]
abbrev agP (ai:List (List aa)) (bu:Int) (gW:List aa):=kq [0,1,2] ++ [(3,.Cr 3 (ai.length) [((bu).toNat,6,gW.length)] (AP ai))] ++ kq [4,5,6,231]
abbrev LX (ai:List (List aa)) (bu:Int) (gW:List aa):=kq [0,1,2] ++ [(3,.Cr 3 (ai.length) [((bu).toNat,6,gW.length)] (AP ai))] ++ kq [4,5,6,7]
abbrev agQ (ai:List (List aa)) (bu:Int) (gW:(List aa)):=kq [0,1,2] ++ [(3,.Cr 3 (ai.length) [((bu).toNat,6,gW.length)] (AP ai))] ++ kq [4,5,6]
abbrev LY (ai:List (List aa)) (bu:Int) (gW:List aa):=kq [0,1,2] ++ [(3,.Cr 3 (ai.length) [((bu).toNat,6,gW.length)] (AP ai))] ++ kq [4,5,6]
abbrev Vy (ai:List aa) (bu:Int) (gW:aa):=(6,pY 6 eT aa.d (ai.set ((bu).toNat) gW))
abbrev agR (ai:List (List aa)) (bu:Int) (gW:List aa) (s6:Int) (JO:aa):=kq [0,1,2] ++ [(3,.Cr 3 (ai.length) [((bu).toNat,6,(gW.set ((s6).toNat) JO).length)] (AP ai))] ++ kq [4,5] ++ [(Vy gW s6 JO)] ++ kq [7]
abbrev agS (ai:List (List aa)) (bu:Int) (gW:(List aa)) (s6:Int) (JO:List aa):=kq [0,1,2] ++ [(3,.Cr 3 ((ai.set ((bu).toNat) gW).length) [((s6).toNat,6,JO.length)] (mG (ai.set ((bu).toNat) gW)))] ++ kq [4,5,6]
abbrev cH:=kq [0,1,2]
abbrev Vz:=kq [0,1,66]
abbrev VA:=kq [0,16,112]
abbrev Z7:=kq [0,16,32,48,352]
abbrev pN:=kq [0,16,32,48]
abbrev cC:=kq [0,16,32]
abbrev Z8:=kq [0,16,96,112,128,144]
abbrev fH:=kq [0,16]
abbrev agT (ai:List Int):=kq [0,1] ++ [(51,pY 51 (cU .u16) 0 (List.replicate (ai.length - 0) 0:List Int))]
abbrev AU:=kq [0,32]
abbrev LZ:=kq [0,65]
abbrev agU:=kq [0] ++ [(1,.af 16),(2,.af 112)]
abbrev Qq:=kq [0] ++ [(1,.af 16),(2,.af 32),(3,.af 48)]
abbrev VC:=kq [0] ++ [(1,.af 16),(2,.af 32)]
abbrev Z9:=kq [0] ++ [(1,.af 32)]
abbrev agV:=kq [0] ++ [(1,.af 51),(2,.af 1)]
abbrev agW:=kq [0] ++ [(1,.nil 1 agB)]
abbrev agX (ai:List Int) (bu:Int) (gW:List Int) (s6:Int):=kq [0] ++ [(1,pY 1 (cU .u16) 0 (agF ai bu gW s6))] ++ kq [2]
abbrev agY (ai:(List Int)) (bu:List Int):=kq [304,352] ++ [(560,pY 560 (cU .u16) 0 (ags ai bu))]
abbrev VD:=kq [304,352]
abbrev agZ (ai:Int) (bu:List (List aa)):=an [((ai).toNat,55,(vu bu ai).length)] (AP bu) ((ai).toNat)
abbrev ag0:=ofConst (.agg #[.int .i64 0,.int .i64 0,.int .i64 0,.int .i64 0,.int .i64 0,.int .i64 0,.int .i64 0,.bool false])
abbrev aaa (ai:List Int) (bu:Int) (gW:List Int) (s6:Int):=Nj .u16 (vt ai bu) (IntKind.u16.wrap ((UK gW bu s6)))
abbrev aab (ai:cR) (bu:Int):=Jp [ai.e0,ai.e1,ai.e2,ai.e3,ai.e4,ai.e5,ai.e6,ai.e7,ai.e8,ai.e9,ai.e10,ai.e11,ai.e12,ai.e13,ai.e14,ai.e15] ((bu).toNat)
abbrev aac (ai:List ab) (bu:Nat) (gW:Int) (s6:Int):=(⟨(ai.getD (bB bu 0) ab.d),(⟨gW,(([true,false]:List Bool).getD ((s6).toNat) false)⟩:av)⟩:ar)
abbrev gP (ai:Int) (bu:Int) (gW:List Int) (s6:List Int) (JO:List (List aa)) (Zp:List aa) (xq6:List aa) (xq7:Bool) (xq8:List Int) (xq9:Bool) (arK:List Int) (arL:Int):=(0,vN 12 [(aI ai),(aI bu),(rX gW),(AK s6),(yS JO),(xa Zp),(Zz xq6),(aB xq7),(bw xq8),(aB xq9),(bw arK),(aI arL)])
theorem IP (N vr C0 r) (h:sU N vr C0=some r):Sd 92 [(E2 vr),(.op 0 0 0)] [(0,vO 1 [(aI C0)])] 1 (aB r) [(0,vO 1 [(aI C0)])]:=by
 unfold sU at h
 refine sO Tryz.f92 9 fun E hE=>?_
 refine aj hE 1 (kp [1,2]) (kq [0,1]) 33 <| cd hE 1 (kp [3]) (kq [0]) 129 (pc o1 (pc o1 pn)) ?_
 cases h
 exact fw hE 0 Tryz.f92 (kp [3]) (kq [0]) 129
noncomputable abbrev C_3:=bt Tryz.f130
def x5 (N:Nat) (s:List aV) (C0:Int) (K:Int->Option (Int)):Prop:=∀ (x:Int) (r:Int),K x=some r->∀ E,aP E 1->ay Tryz.prog E 130 19 (aQ E [(0,vO 1 [(aI C0)])] (aI r)) [.code (C_3 52),.inLoop (C_3 52),.inBlock 0,.code (C_3 7)] ⟨[(0,(oS s)),(1,(.fn (.func 92) [] [(.op 0 0 0)])),(7,(xe s)),(8,(aI x))],[(0,vO 1 [(aI C0)])],1⟩
theorem xf (N s C0 fuel):x5 N s C0 (de N s C0 fuel):=by
 induction fuel with
 | zero=>intro _ r h;rw [de.eq_1] at h;cases h
 | succ fuel ih =>
  intro x r h E hE
  rw [de.eq_2] at h
  refine aj hE 1 P8 (kq [0]) 17 <| cx 1 9 h (fun cP h=>?_) (fun cP h=>?_)
  ·refine aj hE 4 vD (kq [0]) 49 ?_
   obtain ⟨c,h⟩:=ae h
   obtain ⟨EJ,hr,h⟩:=ax h
   refine bc hE 1 [(5,⟨[0],true,(aB EJ),[],0,false,none⟩)] P6 (kq [0]) 145 (pc c (pc (IP _ _ _ _ hr) pn)) <| cx 0 16 h (fun gX h=>?_) (fun gX h=>?_)
   ·refine aj hE 1 (kp [4]) (kq [0]) 177 ?_
    obtain rfl:=kR h
    exact fw hE 0 Tryz.f130 (kp [4]) (kq [0]) 177
   ·refine aj hE 2 oU (kq [0]) 177 <| cy hE 1 oU (kq [0]) 1 (ih _ _ h E hE)
  ·refine aj hE 2 (kp [4]) (kq [0]) 33 ?_
   cases h
   exact fw hE 0 Tryz.f130 (kp [4]) (kq [0]) 49
theorem zI (N s C0 r) (h:pz N s C0=some r):Sd 130 [(oS s),(.fn (.func 92) [] [(.op 0 0 0)])] [(0,vO 1 [(aI C0)])] 1 (aI r) [(0,vO 1 [(aI C0)])]:=by
 unfold pz at h
 refine sO Tryz.f130 19 fun E hE=>?_
 refine aj hE 1 (kp [0,1]) (kq [0]) 17 <| aj hE 2 oU (kq [0]) 65 <| cy hE 2 oU (kq [0]) 1 (xf N _ _ N _ _ h E hE)
theorem xg (N s C0 r) (h:mU N s C0=some r):Sd 91 [(oS s),(.fn (.func 92) [] [(.op 0 0 0)])] [(0,vO 1 [(aI C0)])] 1 (aB r) [(0,vO 1 [(aI C0)])]:=by
 unfold mU at h
 refine sO Tryz.f91 9 fun E hE=>?_
 refine aj hE 1 (kp [0,1]) (kq [0]) 17 ?_
 obtain ⟨H0,hr,h⟩:=ax h
 refine bc hE 1 [(2,⟨[0],true,(aI H0),[],0,false,none⟩)] (kp [4]) (kq [0]) 97 (pc (zI _ _ _ _ hr) pn) ?_
 cases h
 exact fw hE 0 Tryz.f91 (kp [4]) (kq [0]) 97
theorem vF (N n l r) (h:nZ N n l=some r):Sd 47 [(aI n),(oS l)] [] 0 (aI r) []:=by
 unfold nZ at h
 refine sO Tryz.f47 17 fun E hE=>?_
 refine aj hE 1 (kp [1,2]) (kq [0]) 32 <| cd hE 2 (kp [1,2,10]) (kq [0]) 128 (pc o1 (pc (fun hg:(w9 n)=true=>(pc o1 pn)) (pc (fun hg:(w9 n)=true=>(pc hg pn)) (pc (fun hq:(w9 n)=true=>(pc hq pn)) pn)))) <| cx 0 10 h (fun cP h=>?_) (fun cP h=>?_)
 ·refine aj hE 1 (kp [4]) [] 144 ?_
  cases h
  exact fw hE 0 Tryz.f47 (kp [4]) [] 144
 ·refine aj hE 3 (kp [1,2,13]) (kq [0]) 176 <| cx 0 13 h (fun gX h=>?_) (fun gX h=>?_)
  ·refine aj hE 1 (kp [4]) [] 192 ?_
   cases h
   exact fw hE 0 Tryz.f47 (kp [4]) [] 192
  ·obtain ⟨H0,hr,h⟩:=ax h
   refine bc hE 3 [(2,⟨[0],true,(aB H0),[],0,false,none⟩)] (kp [16]) [] 224 (pc (xg _ _ _ _ hr) pn) <| cx 0 16 h (fun sb h=>?_) (fun sb h=>?_)
   ·refine aj hE 1 (kp [4]) [] 240 ?_
    cases h
    exact fw hE 0 Tryz.f47 (kp [4]) [] 240
   ·refine aj hE 2 (kp [4]) [] 240 ?_
    cases h
    exact fw hE 0 Tryz.f47 (kp [4]) [] 240
noncomputable abbrev C_8:=bt Tryz.f141
def L0 (N:Nat) (K:Int->(List Int)->Option l8):Prop:=∀ (n2:Int) (out:List Int) (r:(List Int)),K n2 out=some r->∀ E,aP E 0->ay Tryz.prog E 141 14 (aQ E [] (bD r)) [.code (C_8 56),.inLoop (C_8 56),.inBlock 0,.code (C_8 15)] ⟨[(0,(wD n2)),(3,(lN out))],[(0,aU out)],1⟩
theorem JT (N fuel):L0 N (mm N fuel):=by
 induction fuel with
 | zero=>intro _ _ r h;rw [mm.eq_1] at h;cases h
 | succ fuel ih =>
  intro n2 out r h E hE
  rw [mm.eq_2] at h
  refine aj hE 2 Vg (kq [0]) 33 <| cx 0 5 h (fun cP h=>?_) (fun cP h=>?_)
  ·obtain ⟨c,h⟩:=ae h
   refine cd hE 3 (kp [0] ++ [(3,.lx ((abt out n2).length))]) [(97,pY 97 (cU .u16) 0 (abt out n2))] 129 (pc (Eq.refl out.length) (pc c (pc (z1 1) (pc (oN [[(abG n2)]]) (pc (bT out (Iy n2)) (pc (bT out (Iy n2)) (pc (Ta (cU .u16) 0 out (Iy n2)) pn))))))) <| cd hE 1 (kp [0,3]) (kq [97]) 177 (pc (show (0:Int)<=16 by decide) pn) <| cy hE 1 (kp [0,3]) [(0,.af 97)] 1 (ih _ _ _ h E hE)
  ·refine aj hE 2 (kp [2]) (kq [0]) 65 ?_
   obtain rfl:=kR h
   exact jn hE 0 Tryz.f141 [0] [(2,rM (cU .u16) 0 out)] [] 65 (pc (Eq.refl out.length) (pc (z1 out.length) (pc (eZ (cU .u16) 0 out) pn))) [] pn
theorem oV (N n r) (h:qJ N n=some r):Sd 141 [(wD n)] [] 0 (bD r) []:=by
 unfold qJ at h
 refine sO Tryz.f141 14 fun E hE=>?_
 refine aj hE 1 (kp [0]) [] 16 <| aj hE 1 (kp [0,3]) [] 32 <| cy hE 3 (kp [0] ++ [(3,.sC 0)]) [(0,.nil 1 (fun zi=>(cU .u16) (([]:List Int).getD zi 0)))] 1 (JT N N _ _ _ h E hE)
noncomputable abbrev am2:=bt Tryz.f139
def R5 (N:Nat) (K:(List Int)->Option l8):Prop:=∀ (n2:List Int) (r:(List Int)),K n2=some r->∀ E,aP E 0->ay Tryz.prog E 139 21 (aQ E [] (bD r)) [.code (am2 24),.inLoop (am2 24),.inBlock 0,.code (am2 7)] ⟨[(0,(bw n2))],[],0⟩
theorem Qr (N fuel):R5 N (qK N fuel):=by
 induction fuel with
 | zero=>intro _ r h;rw [qK.eq_1] at h;cases h
 | succ fuel ih =>
  intro n2 r h E hE
  rw [qK.eq_2] at h
  obtain ⟨c,h⟩:=ae h
  refine cd hE 2 (kp [0,14]) [] 192 (pc (fun hg:(IC n2)=true=>(pc hg pn)) (pc (fun hg:(IC n2)=true=>(pc hg pn)) (pc (fun hg:(IC n2)=true=>(pc hg (pc hg (pc (c hg) pn)))) (pc (fun hg:(IC n2)=true=>(pc hg pn)) (pc (fun hg:(IC n2)=true=>(pc hg pn)) (pc (fun hq:(IC n2)=true=>(pc hq pn)) pn)))))) <| cx 0 14 h (fun cP h=>?_) (fun cP h=>?_)
  ·obtain ⟨c2,h⟩:=ae h
   obtain ⟨c3,h⟩:=ae h
   refine cd hE 2 [(0,rM (cU .u16) 0 ((n2.take (JQ n2)).drop 0))] [] 288 (pc c2 (pc c3 (pc (show (aE ((E0 n2) - 1)).toNat - 0=((n2.take (JQ n2)).drop 0).length from (EF n2 0 (JQ n2) c2)) (pc (Ok (cU .u16) 0 n2 0 (JQ n2)) pn)))) <| cy hE 2 (kp [0]) [] 0 (ih _ _ h E hE)
  ·refine aj hE 2 (kp [2]) [] 224 ?_
   obtain rfl:=kR h
   exact fw hE 0 Tryz.f139 (kp [2]) [] 224
theorem ca (N n r) (h:gU N n=some r):Sd 139 [(bw n)] [] 0 (bD r) []:=by
 unfold gU at h
 refine sO Tryz.f139 21 fun E hE=>?_
 refine aj hE 1 (kp [0]) [] 16 <| cy hE 3 (kp [0]) [] 0 (Qr N N _ _ h E hE)
noncomputable abbrev akh:=bt Tryz.f159
theorem ou (N s r) (h:cT N s=some r):Sd 159 [(bw s)] [] 0 (bD r) []:=by
 unfold cT at h
 refine sO Tryz.f159 8 fun E hE=>?_
 refine aj hE 1 (kp [0]) [] 16 <| aj hE 2 (kp [0,4]) [] 48 <| sA 0 [.code (akh 13),.code (akh 7)] <| ay.afC (o:=.tmp 4) (x:=akh 26) (y:=akh 27) (n:=s.length) (by kernel_rfl) (by kernel_rfl) (fun cP=>?_) ?_
 ·replace cP:=List.length_eq_zero_iff.1 cP
  replace h:(some ([]:List Int))=some r:=by rw [cP] at h;simpa using h
  refine aj hE 1 (kp [2]) [] 64 ?_
  cases h
  exact jn hE 0 Tryz.f159 [] [(2,rM (cU .u16) 0 ([]:List Int))] [] 64 (pc (Eq.refl 0) pn) [] pn
 ·obtain ⟨c,h⟩:=ae h
  refine cd hE 2 [(2,.lx (aby s))] [(80,pY 80 (cU .u16) 0 (M0 s))] 112 (pc (Eq.refl 0) (pc c (pc (show ∀ zi,zi < s.length->AV.su ((fun zi=>(cU .u16) (s.getD zi 0)) zi)=true from (fun _ _=>rfl)) (pc (bT ([]:List Int) s) (pc (bT ([]:List Int) s) (pc (show ∀ zi,zi < (M0 s).length->(fun zi=>(cU .u16) ((M0 s).getD zi 0)) zi=((fun zm=>if zm < 0 then (fun _=>[]) zm else (fun zi=>(cU .u16) (s.getD zi 0)) (zm - 0))) zi from (tK (cU .u16) 0 ([]:List Int) s rfl (fun zq D6=>absurd D6 (fj _)) (fun _ _=>rfl))) pn)))))) ?_
  cases h
  exact jn hE 0 Tryz.f159 [80] [(2,rM (cU .u16) 0 (M0 s))] [] 112 (pc (Eq.refl (aby s)) (pc (z1 (aby s)) (pc (eZ (cU .u16) 0 (M0 s)) pn))) [] pn
theorem l9 (N neg n r) (h:gZ N neg n=some r):Sd 140 [(aB neg),(bw n)] [] 0 (ba r) []:=by
 unfold gZ at h
 refine sO Tryz.f140 15 fun E hE=>?_
 refine aj hE 1 IH (kq [0]) 16 ?_
 obtain ⟨bJ,hr,h⟩:=ax h
 refine bc hE 1 [(1,oT (bD bJ))] IH (kq [0]) 64 (pc (ca _ _ _ hr) pn) <| aj hE 2 (kp [0,1,4,9]) (kq [0]) 112 <| cx 0 9 h (fun cP h=>?_) (fun cP h=>?_)
 ·refine cd hE 1 (kp [4]) (kq [0]) 144 (pc o1 pn) ?_
  cases h
  exact jn hE 0 Tryz.f140 [] (kp [4]) [(16,.var 0 [.af,rM (cU .u16) 0 ([]:List Int)])] 144 (pc (Eq.refl 0) pn) [16] (pc o1 pn)
 ·obtain ⟨qL,dy,h⟩:=ax h
  refine bc hE 2 [(2,oT (bD qL))] (kp [4]) (kq [0]) 192 (pc (ou _ _ _ dy) (pc o1 pn)) ?_
  cases h
  exact jn hE 0 Tryz.f140 [] (kp [4]) [(16,.af 0)] 192 pn [16] (pc o1 pn)
theorem adj (N n r) (h:yG N n=some r):Sd 113 [(aI n)] [] 0 (ba r) []:=by
 unfold yG at h
 refine sO Tryz.f113 14 fun E hE=>?_
 refine aj hE 1 (kp [0,2]) (kq [0]) 16 <| aj hE 2 Vf (kq [0]) 48 <| cx 0 4 h (fun cP h=>?_) (fun cP h=>?_)
 ·obtain ⟨qM,hr,h⟩:=ax h
  obtain ⟨yp,dy,h⟩:=ax h
  refine bc hE 1 [(3,oT (bD qM)),(4,oT (ba yp))] (kp [2]) (kq [0]) 144 (pc (oV _ _ _ hr) (pc (l9 _ _ _ _ dy) (pc o1 pn))) ?_
  obtain rfl:=kR h
  exact jn hE 0 Tryz.f113 [] (kp [2]) [(16,.af 0)] 144 pn [16] (pc o1 pn)
 ·obtain ⟨Bz,ia,h⟩:=ax h
  obtain ⟨qt,kT,h⟩:=ax h
  refine bc hE 2 [(2,oT (bD Bz)),(3,oT (ba qt))] (kp [2]) (kq [0]) 128 (pc (oV _ _ _ ia) (pc (l9 _ _ _ _ kT) (pc o1 pn))) ?_
  obtain rfl:=kR h
  exact jn hE 0 Tryz.f113 [] (kp [2]) [(16,.af 0)] 128 pn [16] (pc o1 pn)
noncomputable abbrev am3:=bt Tryz.f151
def R6 (N:Nat) (n:List Int) (K:Int->Int->Option (Int×Bool)):Prop:=∀ (out:Int) (i:Int) (r:Int×Bool),K out i=some r->∀ E,aP E 0->ay Tryz.prog E 151 25 (aQ E [] (Ii r)) [.code (am3 244),.inLoop (am3 244),.inBlock 0,.code (am3 31)] ⟨[(0,(bw n)),(4,(wD out)),(5,(aI i))],[],0⟩
theorem Qs (N n fuel):R6 N n (o6 N n fuel):=by
 induction fuel with
 | zero=>intro _ _ r h;rw [o6.eq_1] at h;cases h
 | succ fuel ih =>
  intro out i r h E hE
  rw [o6.eq_2] at h
  refine aj hE 2 (kp [0,4,5,13]) [] 32 <| cx 0 13 h (fun gX h=>?_) (fun gX h=>?_)
  ·obtain ⟨c,h⟩:=ae h
   refine cd hE 3 LP [] 176 (pc (show (0:Int)<=16 by decide) (pc c pn)) <| aj hE 1 LP [] 224 <| cy hE 1 LP [] 0 (ih _ _ _ h E hE)
  ·refine aj hE 2 (kp [2,3]) [] 80 ?_
   cases h
   exact fw hE 0 Tryz.f151 (kp [2,3]) [] 80
theorem wE (N n r) (h:yH N n=some r):Sd 151 [(bw n)] [] 0 (Ii r) []:=by
 unfold yH at h
 refine sO Tryz.f151 25 fun E hE=>?_
 refine aj hE 1 (kp [0]) [] 32 <| aj hE 2 (kp [0,8]) [] 80 <| cx 0 8 h (fun cP h=>?_) (fun cP h=>?_)
 ·refine aj hE 1 (kp [2,3]) [] 112 ?_
  cases h
  exact fw hE 0 Tryz.f151 (kp [2,3]) [] 112
 ·refine aj hE 2 (kp [0,4]) [] 96 <| aj hE 2 LP [] 160 <| cy hE 2 LP [] 0 (Qs N _ N _ _ _ h E hE)
noncomputable abbrev am4:=bt Tryz.f156
def L1 (N:Nat) (a:List Int) (b:List Int) (K:Int->Option (Int)):Prop:=∀ (i:Int) (r:Int),K i=some r->∀ E,aP E 0->ay Tryz.prog E 156 43 (aQ E [] (aI r)) [.code (am4 116),.inLoop (am4 116),.inBlock 0,.code (am4 15)] ⟨[(0,(bw a)),(1,(bw b)),(5,(aI i))],[],0⟩
theorem JU (N a b fuel):L1 N a b (kI N a b fuel):=by
 induction fuel with
 | zero=>intro _ r h;rw [kI.eq_1] at h;cases h
 | succ fuel ih =>
  intro i r h E hE
  rw [kI.eq_2] at h
  refine aj hE 2 (kp [0,1,5,20]) [] 32 <| cx 0 20 h (fun gX h=>?_) (fun gX h=>?_)
  ·obtain ⟨c,h⟩:=ae h
   obtain ⟨c2,h⟩:=ae h
   refine cd hE 4 (kp [0,1,5,31]) [] 176 (pc c (pc c2 pn)) <| cx 0 31 h (fun sb h=>?_) (fun sb h=>?_)
   ·refine cd hE 1 (kp [4]) [] 368 (pc c (pc c2 pn)) ?_
    cases h
    exact fw hE 0 Tryz.f156 (kp [4]) [] 368
   ·refine aj hE 2 r9 [] 224 <| cy hE 1 r9 [] 0 (ih _ _ h E hE)
  ·refine aj hE 2 (kp [4]) [] 48 ?_
   cases h
   exact fw hE 0 Tryz.f156 (kp [4]) [] 48
theorem uB (N a b r) (h:qN N a b=some r):Sd 156 [(bw a),(bw b)] [] 0 (aI r) []:=by
 unfold qN at h
 refine sO Tryz.f156 43 fun E hE=>?_
 refine aj hE 1 (kp [0,1]) [] 16 <| aj hE 2 (kp [0,1,10]) [] 96 <| cx 0 10 h (fun cP h=>?_) (fun cP h=>?_)
 ·refine aj hE 1 (kp [4]) [] 192 ?_
  cases h
  exact fw hE 0 Tryz.f156 (kp [4]) [] 192
 ·refine aj hE 3 r9 [] 160 <| cy hE 2 r9 [] 0 (JU N _ _ N _ _ h E hE)
noncomputable abbrev am5:=bt Tryz.f166
def Qt (N:Nat) (a:List Int) (b:Int) (K:(List Int)->Int->Int->Option ((List Int)×Int)):Prop:=∀ (q:List Int) (rest:Int) (i:Int) (r:(List Int)×Int),K q rest i=some r->∀ E,aP E 0->ay Tryz.prog E 166 43 (aQ E [] (UR r)) [.code (am5 244),.inLoop (am5 244),.inBlock 0,.code (am5 31)] ⟨[(0,(bw a)),(1,(Zk b)),(6,(lN q)),(7,(JS rest)),(8,(aI i))],[(0,aU q)],1⟩
theorem Nm (N a b fuel):Qt N a b (np N a b fuel):=by
 induction fuel with
 | zero=>intro _ _ _ r h;rw [np.eq_1] at h;cases h
 | succ fuel ih =>
  intro q rest i r h E hE
  rw [np.eq_2] at h
  refine aj hE 2 (kp [0,1,6,7,8,16]) (kq [0]) 33 <| cx 0 16 h (fun cP h=>?_) (fun cP h=>?_)
  ·obtain ⟨c2,h⟩:=ae h
   refine cd hE 4 vE (kq [0]) 177 (pc (show (0:Int)<=16 by decide) (pc c2 pn)) ?_
   obtain ⟨c3,h⟩:=ae h
   obtain ⟨c4,h⟩:=ae h
   refine cd hE 1 (kp [0,1] ++ [(6,.lx ((alB q i rest a b).length))] ++ kp [7,8]) [(0,pY 0 (cU .u16) 0 (alB q i rest a b))] 321 (pc c3 (pc c4 (pc (dV c4) (pc (az q ((i).toNat) (ZJ rest a i b)) (pc (az q ((i).toNat) (ZJ rest a i b)) (pc (cF (cU .u16) 0 q ((i).toNat) (ZJ rest a i b)) pn)))))) <| cd hE 0 vE (kq [0]) 401 (pc c3 pn) <| aj hE 1 vE (kq [0]) 449 <| cy hE 1 vE (kq [0]) 1 (ih _ _ _ _ h E hE)
  ·obtain ⟨bJ,hr,h⟩:=ax h
   refine bc hE 2 [(1,⟨[],true,(bD bJ),[],0,true,none⟩)] (kp [4,5]) [] 129 (pc (ca _ _ _ hr) (pc (z1 q.length) pn)) ?_
   cases h
   exact fw hE 0 Tryz.f166 (kp [4,5]) [] 129
theorem JV (N a b r) (h:BA N a b=some r):Sd 166 [(bw a),(Zk b)] [] 0 (UR r) []:=by
 unfold BA at h
 refine sO Tryz.f166 43 fun E hE=>?_
 refine aj hE 1 (kp [0,1]) [] 32 ?_
 obtain ⟨c,h⟩:=ae h
 refine cd hE 1 (kp [0,1] ++ [(6,.lx (agc a))]) [(64,pY 64 (cU .u16) 0 (UL a))] 96 (pc c.1 (pc (Int.le_refl (Tn a)) (pc c.2.1 (pc c.2.2 (pc (lR a.length (0:Int)) (pc (lR a.length (0:Int)) (pc (ru (cU .u16) 0 0 a.length) pn))))))) <| aj hE 1 (kp [0,1,6,7]) (kq [64]) 112 <| aj hE 2 vE (kq [64]) 176 <| cy hE 2 vE [(0,.af 64)] 1 (Nm N _ _ N _ _ _ _ h E hE)
noncomputable abbrev apw:=bt Tryz.f170
def C9 (N:Nat) (K:Int->Int->Option (Int)):Prop:=∀ (x2:Int) (n:Int) (r:Int),K x2 n=some r->∀ E,aP E 0->ay Tryz.prog E 170 13 (aQ E [] (aI r)) [.code (apw 14),.code (apw 15)] ⟨[(0,(Zk x2)),(2,(aI n))],[],0⟩
theorem tS (N):C9 N (du N):=by
 intro x2 n r h E hE
 unfold du at h
 obtain ⟨c,h⟩:=ae h
 refine cd hE 0 (kp [2]) [] 112 (pc c pn) ?_
 cases h
 exact fw hE 0 Tryz.f170 (kp [2]) [] 112
theorem Fp (N x r) (h:nr N x=some r):Sd 170 [(Zk x)] [] 0 (aI r) []:=by
 unfold nr at h
 refine sO Tryz.f170 13 fun E hE=>?_
 refine aj hE 1 (kp [0,2]) [] 16 <| aj hE 2 Vf [] 48 <| cx 0 4 h (fun cP h=>?_) (fun cP h=>?_)
 ·refine cd hE 1 (kp [0]) [] 96 (pc (show (0:Int)<=8 by decide) pn) <| aj hE 0 (kp [0,2]) [] 112 <| cy hE 1 (kp [0,2]) [] 0 (tS N _ _ _ h E hE)
 ·exact cy hE 2 (kp [0,2]) [] 0 (tS N _ _ _ h E hE)
theorem ph (N x r) (h:gy N x=some r):Sd 167 [(Zk x)] [] 0 (aI r) []:=by
 unfold gy at h
 refine sO Tryz.f167 6 fun E hE=>?_
 refine aj hE 1 (kp [0]) [] 16 ?_
 obtain ⟨Zb,hr,h⟩:=ax h
 refine bc hE 1 [(1,oT (aI Zb))] (kp [2]) [] 80 (pc (Fp _ _ _ hr) pn) ?_
 cases h
 exact fw hE 0 Tryz.f167 (kp [2]) [] 80
noncomputable abbrev am6:=bt Tryz.f168
def L3 (N:Nat) (a:List Int) (Gz:Int) (K:(List Int)->Int->Option l8):Prop:=∀ (out:List Int) (x:Int) (r:(List Int)),K out x=some r->∀ E,aP E 0->ay Tryz.prog E 168 41 (aQ E [(0,aU r)] (.os 0 0 r.length)) [.code (am6 116),.inLoop (am6 116),.inBlock 0,.code (am6 15)] ⟨[(1,(aI Gz)),(5,(lN out)),(13,(bw a)),(Ip a),(15,(aI x))],[(0,aU out)],1⟩
theorem JW (N a Gz fuel):L3 N a Gz (kJ N a Gz fuel):=by
 induction fuel with
 | zero=>intro _ _ r h;rw [kJ.eq_1] at h;cases h
 | succ fuel ih =>
  intro out x r h E hE
  rw [kJ.eq_2] at h
  refine aj hE 1 (kp [1,5,13,14,15,16]) (kq [0]) 17 <| cx 1 16 h (fun cP h=>?_) (fun cP h=>?_)
  ·obtain ⟨c2,h⟩:=ae h
   refine cd hE 4 (kp [1,5,6,7,13,14,15]) (kq [0]) 97 (pc c2 pn) ?_
   obtain ⟨c3,h⟩:=ae h
   refine cd hE 1 (kp [1,5,6,8,13,14,15]) (kq [0]) 177 (pc c3 pn) ?_
   obtain ⟨c4,h⟩:=ae h
   refine cd hE 1 (kp [1] ++ [(5,.lx ((Xu out x a Gz).length))] ++ kp [6,8,13,14,15]) [(0,pY 0 (cU .u16) 0 (Xu out x a Gz))] 321 (pc c4 (pc (dV c4) (pc c4 (pc (dV c4) (pc (az out ((x).toNat) (aaa out x a Gz)) (pc (az out ((x).toNat) (aaa out x a Gz)) (pc (cF (cU .u16) 0 out ((x).toNat) (aaa out x a Gz)) pn))))))) ?_
   obtain ⟨c5,h⟩:=ae h
   refine cd hE 0 (kp [1] ++ [(5,.lx ((alF out x a Gz).length))] ++ kp [13,14,15]) [(0,pY 0 (cU .u16) 0 (alF out x a Gz))] 449 (pc (show (0:Int)<=16 by decide) (pc c5 (pc (dV c5) (pc (az (Xu out x a Gz) ((aE (x+1)).toNat) (ZK a x Gz)) (pc (az (Xu out x a Gz) ((aE (x+1)).toNat) (ZK a x Gz)) (pc (cF (cU .u16) 0 (Xu out x a Gz) ((aE (x+1)).toNat) (ZK a x Gz)) pn)))))) <| aj hE 1 Vm (kq [0]) 481 <| cy hE 1 Vm (kq [0]) 1 (ih _ _ _ h E hE)
  ·refine aj hE 2 (kp [4]) (kq [0]) 49 ?_
   obtain rfl:=kR h
   exact fw hE 0 Tryz.f168 (kp [4]) (kq [0]) 49
theorem uC (N a Gz r) (h:tL N a Gz=some r):Sd 168 [(bw a),(aI Gz)] [] 0 (.os 0 0 r.length) [(0,aU r)]:=by
 unfold tL at h
 refine sO Tryz.f168 41 fun E hE=>?_
 refine aj hE 1 (kp [0,1]) [] 16 ?_
 obtain ⟨c,h⟩:=ae h
 refine cd hE 1 (kp [0,1] ++ [(5,.lx ((agq a).length))]) [(64,pY 64 (cU .u16) 0 (agq a))] 96 (pc c.1 (pc (Int.le_refl (PQ a)) (pc c.2.1 (pc c.2.2 (pc (lR (agf a) (0:Int)) (pc (lR (agf a) (0:Int)) (pc (ru (cU .u16) 0 0 (agf a)) pn))))))) <| aj hE 2 Vm (kq [64]) 144 <| cy hE 2 Vm [(0,.af 64)] 1 (JW N _ _ N _ _ _ h E hE)
noncomputable abbrev Fq:=bt Tryz.f169
def Qu (N:Nat) (uo:Nat) (un:Nat) (v:List Int) (C0:List Int) (K:Int->Int->Option LD):Prop:=∀ (q:Int) (rest:Int) (r:Int×(List Int)),K q rest=some r->∀ E,aP E 1->ay Tryz.prog E 169 161 (aQ E [(0,aU r.2)] (HC r)) [.code (Fq 248),.inLoop (Fq 248),.inBlock 0,.code (Fq 63)] ⟨[(0,(.os 0 uo un)),(1,(bw v)),(UY v),(7,(wD q)),(8,(wD rest))],[(0,aU C0)],1⟩
def Fs (N:Nat) (uo:Nat) (un:Nat) (v:List Int) (q:Int) (K:(List Int)->Int->Int->Int->Option LD):Prop:=∀ (bC:List Int) (carry:Int) (borrow:Int) (x:Int) (r:Int×(List Int)),K bC carry borrow x=some r->∀ E,aP E 1->ay Tryz.prog E 169 161 (aQ E [(0,aU r.2)] (HC r)) [.code (Fq 2036),.inLoop (Fq 2036),.inBlock 2,.code (Fq 255)] ⟨[(0,(.os 0 uo un)),(1,(bw v)),(UY v),(7,(wD q)),(9,(wD carry)),(10,(aI borrow)),(84,(aI (PQ v))),(85,(aI x))],[(0,aU bC)],1⟩
def Qv (N:Nat) (uo:Nat) (un:Nat) (v:List Int) (q:Int) (bC:List Int) (borrow:Int) (x:Int) (K:Int->Option LD):Prop:=∀ (x2:Int) (r:Int×(List Int)),K x2=some r->∀ E,aP E 1->ay Tryz.prog E 169 161 (aQ E [(0,aU r.2)] (HC r)) [.code (Fq 521422),.code (Fq 521423),.inBlock 3,.code (Fq 16295),.inLoop (Fq 2036),.inBlock 2,.code (Fq 255)] ⟨[(0,(.os 0 uo un)),(1,(bw v)),(UY v),(7,(wD q)),(10,(aI borrow)),(11,(aI x)),(12,(wD x2)),(84,(aI (PQ v))),(85,(aI x))],[(0,aU bC)],1⟩
theorem DG (N:Nat) (uo:Nat) (un:Nat) (v:List Int) (q:Int) (bC:List Int) (borrow:Int) (x:Int) (uj:(List Int)->Int->Int->Int->Option LD) (Nn:Fs N uo un v q uj):Qv N uo un v q bC borrow x (rv N uo un v q bC borrow x uj):=by
 intro x2 r h E hE
 unfold rv at h
 refine cd hE 0 (kp [0,1,5,7,9,10,11,12,84,85]) (kq [0]) 49 (pc (show (0:Int)<=16 by decide) pn) ?_
 obtain ⟨Tt,h⟩:=ae h
 obtain ⟨c12,h⟩:=ae h
 refine cd hE 1 (kp [0,1,5,7,9,11,13,84,85]) (kq [0]) 241 (pc Tt (pc (show (bB uo (x).toNat) < bC.length by have h1:=Tt;have h2:=c12;simp only [dc];omega) pn)) <| cd hE 1 (kp [0,1,5,7,9,13,84,85]) [(0,pY 0 (cU .u16) 0 (bC.set (bB uo (x).toNat) (ZL bC uo x x2 borrow)))] 337 (pc Tt (pc (show (bB uo (x).toNat) < bC.length by have h1:=Tt;have h2:=c12;simp only [dc];omega) (pc (az bC (bB uo (x).toNat) (ZL bC uo x x2 borrow)) (pc (cF (cU .u16) 0 bC (bB uo (x).toNat) (ZL bC uo x x2 borrow)) pn)))) <| cd hE 0 P7 (kq [0]) 385 (pc (show (0:Int)<=16 by decide) pn) <| aj hE 1 P7 (kq [0]) 417 <| cy hE 1 P7 (kq [0]) 1 (Nn _ _ _ _ _ h E hE)
def Qw (N:Nat) (uo:Nat) (un:Nat) (v:List Int) (q:Int) (K:(List Int)->Int->Int->Option LD):Prop:=∀ (dk:List Int) (kK:Int) (x3:Int) (r:Int×(List Int)),K dk kK x3=some r->∀ E,aP E 1->ay Tryz.prog E 169 161 (aQ E [(0,aU r.2)] (HC r)) [.code (Fq 130740),.inLoop (Fq 130740),.inBlock 4,.code (Fq 16343),.code (Fq 511)] ⟨[(0,(.os 0 uo un)),(1,(bw v)),(UY v),(7,(a64 (IntKind.u64.wrap (q - 1)))),(14,(JS kK)),(126,(yV v)),(127,(aI x3))],[(0,aU dk)],1⟩
def Qx (N:Nat) (K:(List Int)->Int->Option LD):Prop:=∀ (eb:List Int) (q2:Int) (r:Int×(List Int)),K eb q2=some r->∀ E,aP E 1->ay Tryz.prog E 169 161 (aQ E [(0,aU r.2)] (HC r)) [.code (Fq 1022),.code (Fq 1023)] ⟨[(7,(wD q2))],[(0,aU eb)],1⟩
theorem DH (N):Qx N (nu N):=by
 intro eb q2 r h E hE
 unfold nu at h
 refine aj hE 0 (kp [4]) (kq [0]) 49 ?_
 cases h
 exact fw hE 0 Tryz.f169 (kp [4]) (kq [0]) 49
theorem No (N uo un v q fuel):Qw N uo un v q (ku N uo un v q fuel):=by
 induction fuel with
 | zero=>intro _ _ _ r h;rw [ku.eq_1] at h;cases h
 | succ fuel ih =>
  intro dk kK x3 r h E hE
  rw [ku.eq_2] at h
  refine aj hE 1 (kp [0,1,5,7,14,126,127,128]) (kq [0]) 17 <| cx 1 128 h (fun VE h=>?_) (fun VE h=>?_)
  ·refine aj hE 4 (kp [0,1,5,7,14,15,126,127]) (kq [0]) 49 ?_
   obtain ⟨Wx,h⟩:=ae h
   obtain ⟨c14,h⟩:=ae h
   obtain ⟨c15,h⟩:=ae h
   refine cd hE 1 (kp [0,1,5,7,14,15,126,127]) (kq [0]) 273 (pc Wx (pc (show (bB uo (x3).toNat) < dk.length by have h1:=Wx;have h2:=c14;simp only [dc];omega) (pc c15 pn))) <| cd hE 1 LK [(0,pY 0 (cU .u16) 0 (dk.set (bB uo (x3).toNat) (ZF kK dk uo x3 v)))] 369 (pc Wx (pc (show (bB uo (x3).toNat) < dk.length by have h1:=Wx;have h2:=c14;simp only [dc];omega) (pc (az dk (bB uo (x3).toNat) (ZF kK dk uo x3 v)) (pc (cF (cU .u16) 0 dk (bB uo (x3).toNat) (ZF kK dk uo x3 v)) pn)))) <| cd hE 0 LK (kq [0]) 417 (pc (show (0:Int)<=16 by decide) pn) <| aj hE 1 LK (kq [0]) 449 <| cy hE 1 LK (kq [0]) 1 (ih _ _ _ _ h E hE)
  ·obtain ⟨c16,h⟩:=ae h
   obtain ⟨c17,h⟩:=ae h
   refine cd hE 1 (kp [7]) [(0,pY 0 (cU .u16) 0 (dk.set (bB uo v.length) (IntKind.u16.wrap ((dk.getD (bB uo v.length) 0)+(Fa kK)))))] 161 (pc c16 (pc (show (bB uo v.length) < dk.length by have h1:=c16;have h2:=c17;simp only [dc];omega) (pc c16 (pc (show (bB uo v.length) < dk.length by have h1:=c16;have h2:=c17;simp only [dc];omega) (pc (az dk (bB uo v.length) (IntKind.u16.wrap ((dk.getD (bB uo v.length) 0)+(Fa kK)))) (pc (cF (cU .u16) 0 dk (bB uo v.length) (IntKind.u16.wrap ((dk.getD (bB uo v.length) 0)+(Fa kK)))) pn)))))) <| cy hE 1 (kp [7]) (kq [0]) 1 (DH N _ _ _ h E hE)
theorem Np (N uo un v q fuel):Fs N uo un v q (iH N uo un v q fuel):=by
 induction fuel with
 | zero=>intro _ _ _ _ r h;rw [iH.eq_1] at h;cases h
 | succ fuel ih =>
  intro bC carry borrow x r h E hE
  rw [iH.eq_2] at h
  refine aj hE 1 (kp [0,1,5,7,9,10,84,85,86]) (kq [0]) 17 <| cx 1 86 h (fun gX h=>?_) (fun gX h=>?_)
  ·refine aj hE 4 (kp [0,1,5,7,9,10,11,84,85]) (kq [0]) 49 <| aj hE 1 Ve (kq [0]) 81 <| aj hE 2 (kp [0,1,5,7,10,11,12,84,85,91]) (kq [0]) 129 <| cx 0 91 h (fun sb h=>?_) (fun sb h=>?_)
   ·obtain ⟨c10,h⟩:=ae h
    refine cd hE 0 Ve (kq [0]) 289 (pc c10 pn) <| cy hE 1 Ve (kq [0]) 1 (DG N _ _ _ _ _ _ _ _ ih _ _ h E hE)
   ·exact cy hE 2 Ve (kq [0]) 1 (DG N _ _ _ _ _ _ _ _ ih _ _ h E hE)
  ·refine aj hE 3 (kp [0,1,5,7,123]) (kq [0]) 49 <| cx 0 123 h (fun Ft h=>?_) (fun Ft h=>?_)
   ·refine aj hE 1 (kp [0,1,5,7]) (kq [0]) 97 <| aj hE 1 (kp [0,1,5,7,14]) (kq [0]) 113 <| aj hE 2 LK (kq [0]) 145 <| cy hE 2 LK (kq [0]) 1 (No N _ _ _ _ N _ _ _ _ h E hE)
   ·exact cy hE 2 (kp [7]) (kq [0]) 1 (DH N _ _ _ h E hE)
theorem Nq (N uo un v C0 fuel):Qu N uo un v C0 (nv N uo un v C0 fuel):=by
 induction fuel with
 | zero=>intro _ _ r h;rw [nv.eq_1] at h;cases h
 | succ fuel ih =>
  intro q rest r h E hE
  rw [nv.eq_2] at h
  obtain ⟨c6,h⟩:=ae h
  obtain ⟨c7,h⟩:=ae h
  obtain ⟨c8,h⟩:=ae h
  refine cd hE 2 (kp [0,1,5,7,8,72]) (kq [0]) 417 (pc (fun hg:(decide (rest < 65536))=true=>(pc hg pn)) (pc (fun hg:(BR rest q)=true=>(pc hg pn)) (pc (fun hg:(BR rest q)=true=>(pc hg (pc hg (pc (c6 hg) pn)))) (pc (fun hg:(BR rest q)=true=>(pc hg pn)) (pc (fun hg:(BR rest q)=true=>(pc hg pn)) (pc (fun hg:(BR rest q)=true=>(pc hg (pc hg pn))) (pc (fun hg:(BR rest q)=true=>(pc hg (pc (show (0:Int)<=16 by decide) pn))) (pc (fun hg:(BR rest q)=true=>(pc hg pn)) (pc (fun hg:(BR rest q)=true=>(pc hg (pc hg (pc (c7 hg) pn)))) (pc (fun hg:(BR rest q)=true=>(pc hg (pc (show (bB uo (aE (((v.length:Nat):Int) - 2)).toNat) < C0.length by have h1:=(c7 hg);have h2:=(c8 hg);simp only [dc];omega) pn))) (pc (fun hg:(BR rest q)=true=>(pc hg pn)) (pc (fun hg:(BR rest q)=true=>(pc hg (pc hg pn))) (pc (fun hg:(BR rest q)=true=>(pc hg (pc hg pn))) (pc (fun hg:(decide (rest < 65536))=true=>(pc hg (pc hg (pc (fun hq:(!(decide (q > 65535)))=true=>(pc (show (BR rest q)=true from (o5 hg (o5 hg hq))) pn)) pn)))) (pc (fun hq:(decide (rest < 65536))=true=>(pc hq pn)) pn))))))))))))))) <| cx 0 72 h (fun cP h=>?_) (fun cP h=>?_)
  ·refine aj hE 3 vD (kq [0]) 465 ?_
   obtain ⟨c9,h⟩:=ae h
   refine cd hE 0 vD (kq [0]) 609 (pc c9 pn) <| cy hE 2 vD (kq [0]) 1 (ih _ _ _ h E hE)
  ·refine aj hE 2 (kp [0,1,5,7,9,10]) (kq [0]) 449 <| aj hE 2 P7 (kq [0]) 497 <| cy hE 2 P7 (kq [0]) 1 (Np N _ _ _ _ N _ _ _ _ _ h E hE)
theorem JX (N uo un v C0 r) (h:BB N uo un v C0=some r):Sd 169 [(.os 0 uo un),(bw v)] [(0,aU C0)] 1 (HC r) [(0,aU r.2)]:=by
 unfold BB at h
 refine sO Tryz.f169 161 fun E hE=>?_
 refine aj hE 1 (kp [0,1]) (kq [0]) 17 <| aj hE 1 r9 (kq [0]) 65 ?_
 obtain ⟨c,h⟩:=ae h
 obtain ⟨c2,h⟩:=ae h
 obtain ⟨c3,h⟩:=ae h
 refine cd hE 1 tq (kq [0]) 289 (pc c (pc (show (bB uo v.length) < C0.length by have h1:=c;have h2:=c2;simp only [dc];omega) (pc (show (0:Int)<=16 by decide) (pc c3 (pc (show (bB uo (aE (((v.length:Nat):Int) - 1)).toNat) < C0.length by have h1:=c3;have h2:=c2;simp only [dc];omega) pn))))) ?_
 obtain ⟨c4,h⟩:=ae h
 obtain ⟨c5,h⟩:=ae h
 refine cd hE 1 vD (kq [0]) 577 (pc c4 (pc c5 (pc c4 (pc c5 pn)))) <| cy hE 3 vD (kq [0]) 1 (Nq N _ _ _ _ N _ _ _ h E hE)
noncomputable abbrev adk:=bt Tryz.f154
def Nr (N:Nat) (b:List Int) (aD:Int) (dr:(List Int)) (K:(List Int)->(List Int)->Int->Option JP):Prop:=∀ (q:List Int) (u:List Int) (j:Int) (r:(List Int)×(List Int)),K q u j=some r->∀ E,aP E 0->ay Tryz.prog E 154 109 (aQ E [] (vv r)) [.code (adk 4084),.inLoop (adk 4084),.inBlock 0,.code (adk 511)] ⟨[(4,(lN q)),(8,(aI aD)),(9,(rX u)),(10,(.os 2 0 (b.length - 0))),(11,(U3 b)),(12,(aI j))],[(0,aU q),(1,aU u),(2,aU dr)],3⟩
def Ns (N:Nat) (b:List Int) (aD:Int) (q:List Int) (u:List Int) (K:(List Int)->Int->Option JP):Prop:=∀ (vr:List Int) (x:Int) (r:(List Int)×(List Int)),K vr x=some r->∀ E,aP E 0->ay Tryz.prog E 154 109 (aQ E [] (vv r)) [.code (adk 16372),.inLoop (adk 16372),.inBlock 2,.code (adk 2047)] ⟨[(4,(lN q)),(5,(rX vr)),(8,(aI aD)),(9,(AK u)),(81,(U3 b)),(82,(aI x))],[(0,aU q),(1,aU vr),(2,aU u)],3⟩
theorem L4 (N b aD q u fuel):Ns N b aD q u (iA N b aD q u fuel):=by
 induction fuel with
 | zero=>intro _ _ r h;rw [iA.eq_1] at h;cases h
 | succ fuel ih =>
  intro vr x r h E hE
  rw [iA.eq_2] at h
  refine aj hE 1 (kp [4,5,8,9,81,82,83]) cH 19 <| cx 1 83 h (fun Ft h=>?_) (fun Ft h=>?_)
  ·refine aj hE 4 (kp [4,5,8,9,13,81,82]) cH 51 ?_
   obtain ⟨c12,h⟩:=ae h
   obtain ⟨Wx,h⟩:=ae h
   obtain ⟨c14,h⟩:=ae h
   obtain ⟨c15,h⟩:=ae h
   refine cd hE 0 (agG vr x u aD) (agX vr x u aD) 371 (pc c12 (pc (dV c12) (pc Wx (pc (dV Wx) (pc (show (0:Int)<=16 by decide) (pc c14 (pc c15 (pc (dV c15) (pc (az vr ((x).toNat) (LF u x aD)) (pc (az vr ((x).toNat) (LF u x aD)) (pc (cF (cU .u16) 0 vr ((x).toNat) (LF u x aD)) pn))))))))))) <| aj hE 1 Fm cH 403 <| cy hE 1 Fm cH 3 (ih _ _ _ h E hE)
  ·obtain ⟨fJ,IQ,h⟩:=ax h
   obtain ⟨Pr,Da,h⟩:=ax h
   refine bc hE 2 [(1,⟨[],true,(bD fJ),[],0,true,none⟩),(3,⟨[],true,(bD Pr),[],0,true,none⟩)] (kp [4,5]) [] 115 (pc (ca _ _ _ IQ) (pc (z1 q.length) (pc (ca _ _ _ Da) (pc (z1 vr.length) pn)))) ?_
   cases h
   exact fw hE 0 Tryz.f154 (kp [4,5]) [] 115
theorem L5 (N b aD dr fuel):Nr N b aD dr (iB N b aD dr fuel):=by
 induction fuel with
 | zero=>intro _ _ _ r h;rw [iB.eq_1] at h;cases h
 | succ fuel ih =>
  intro q u j r h E hE
  rw [iB.eq_2] at h
  refine aj hE 2 (kp [4,8,9,10,11,12,64]) cH 35 <| cx 0 64 h (fun sb h=>?_) (fun sb h=>?_)
  ·obtain ⟨c5,h⟩:=ae h
   obtain ⟨c6,h⟩:=ae h
   obtain ⟨c7,h⟩:=ae h
   obtain ⟨c8,h⟩:=ae h
   obtain ⟨dm,IS,h⟩:=ax h
   obtain ⟨c9,h⟩:=ae h
   obtain ⟨c10,h⟩:=ae h
   refine bc hE 3 [(10,⟨[1],false,(HC dm),[(0,aU dm.2)],0,false,none⟩)] ([(4,.lx ((q.set ((j).toNat) dm.1).length))] ++ kp [8] ++ [(9,.lx (dm.2.length))] ++ kp [10,11,12]) ([(0,pY 0 (cU .u16) 0 (q.set ((j).toNat) dm.1))] ++ kq [1,2]) 243 (pc c5 (pc c6 (pc c7 (pc (show Sd 169 [(agi j b),(.sl (b.length - 0) (fun zi=>(cU .u16) (dr.getD (bB 0 zi) 0)))] [(0,aU u)] 1 (HC dm) [(0,aU dm.2)] from (Sound.conv (JX _ _ _ _ _ _ IS) (.cons (Alike.refl _) (.cons (Alike.sl (EF dr 0 b.length c8) (Ok (cU .u16) 0 dr 0 b.length)) .nil)))) (pc (fL (cU .u16) 0 dm.2) (pc (show 0+(b.length - 0)<=dr.length by have:=c8;omega) (pc c10 (pc (dV c10) (pc (az q ((j).toNat) dm.1) (pc (show u.length=dm.2.length from (Eq.symm c9)) (pc (az q ((j).toNat) dm.1) (pc (cF (cU .u16) 0 q ((j).toNat) dm.1) pn)))))))))))) <| aj hE 1 Fo cH 291 <| cy hE 1 Fo cH 3 (ih _ _ _ _ h E hE)
  ·obtain ⟨Tt,h⟩:=ae h
   refine cd hE 2 (agH b) (agT b) 83 (pc Tt.1 (pc (Int.le_refl (PR b)) (pc Tt.2.1 (pc Tt.2.2 (pc (lR (b.length - 0) (0:Int)) (pc (lR (b.length - 0) (0:Int)) (pc (ru (cU .u16) 0 0 (b.length - 0)) pn))))))) <| aj hE 2 Fm (kq [0,1,51]) 115 <| cy hE 2 Fm agV 3 (L4 N _ _ _ _ N _ _ _ h E hE)
theorem AW (N a b r) (h:n6 N a b=some r):Sd 154 [(bw a),(bw b)] [] 0 (vv r) []:=by
 unfold n6 at h
 refine sO Tryz.f154 109 fun E hE=>?_
 refine aj hE 1 (kp [0,1]) [] 32 ?_
 obtain ⟨jx,hr,h⟩:=ax h
 refine bc hE 2 [(2,oT (aI jx))] (kp [0,1,17]) [] 96 (pc (uB _ _ _ _ hr) pn) <| cx 0 17 h (fun cP h=>?_) (fun cP h=>?_)
 ·obtain ⟨qL,dy,h⟩:=ax h
  refine bc hE 1 [(1,oT (bD qL))] (kp [4,5]) [] 160 (pc (ou _ _ _ dy) pn) ?_
  cases h
  exact jn hE 0 Tryz.f154 [] ([(4,rM (cU .u16) 0 ([]:List Int))] ++ kp [5]) [] 160 (pc (Eq.refl 0) pn) [] pn
 ·refine aj hE 3 (kp [0,1,22]) [] 144 <| cx 0 22 h (fun gX h=>?_) (fun gX h=>?_)
  ·obtain ⟨c,h⟩:=ae h
   obtain ⟨AG,ia,h⟩:=ax h
   refine bc hE 1 [(4,oT (UR AG))] (kp [6,7]) [] 304 (pc c (pc (JV _ _ _ _ ia) pn)) ?_
   obtain ⟨bJ,kT,h⟩:=ax h
   refine bc hE 1 [(3,⟨[],true,(bD bJ),[],0,true,none⟩)] (kp [4,5]) [] 400 (pc (show Sd 139 [(agj AG)] [] 0 (bD bJ) [] from (Sound.conv (ca _ _ _ kT) (.cons (Alike.sl rfl (dJ (cU .u16) 0 ([AG.2]:List Int))) .nil))) (pc (z1 1) pn)) ?_
   cases h
   exact fw hE 0 Tryz.f154 (kp [4,5]) [] 400
  ·obtain ⟨c2,h⟩:=ae h
   obtain ⟨aD,oW,h⟩:=ax h
   refine bc hE 2 [(6,oT (aI aD))] (kp [0,1,8]) [] 272 (pc c2 (pc (ph _ _ _ oW) pn)) ?_
   obtain ⟨gp,vG,h⟩:=ax h
   obtain ⟨dr,x6,h⟩:=ax h
   obtain ⟨c3,h⟩:=ae h
   refine bc hE 1 [(2,⟨[],true,(.os 0 0 gp.length),[(0,aU gp)],0,false,none⟩),(5,⟨[],true,(.os 0 0 dr.length),[(0,aU dr)],0,false,none⟩)] (kp [8,9,10]) VD 448 (pc (uC _ _ _ _ vG) (pc (uC _ _ _ _ x6) (pc c3 (pc (show 0<=(Tn b) from (Int.natCast_nonneg _)) pn)))) <| aj hE 1 (kp [8,9,10,11]) VD 496 ?_
   obtain ⟨c4,h⟩:=ae h
   refine cd hE 1 (agt gp b) (agY gp b) 592 (pc c4.1 (pc (Int.le_refl (UN gp b)) (pc c4.2.1 (pc c4.2.2 (pc (lR (Tr gp b) (0:Int)) (pc (lR (Tr gp b) (0:Int)) (pc (ru (cU .u16) 0 0 (Tr gp b)) pn))))))) <| aj hE 2 Fo (kq [304,352,560]) 688 <| cy hE 2 Fo [(0,.af 560),(1,.af 304),(2,.af 352)] 3 (L5 N _ _ _ N _ _ _ _ h E hE)
noncomputable abbrev VF:=bt Tryz.f153
def DI (N:Nat) (K:(List Int)->(List Int)->Option l8):Prop:=∀ (a2:List Int) (b2:List Int) (r:(List Int)),K a2 b2=some r->∀ E,aP E 0->ay Tryz.prog E 153 45 (aQ E [] (bD r)) [.code (VF 24),.inLoop (VF 24),.inBlock 0,.code (VF 7)] ⟨[(0,(bw a2)),(1,(bw b2))],[],0⟩
def Nt (N:Nat) (K:Int->Int->Option l8):Prop:=∀ (x:Int) (y:Int) (r:(List Int)),K x y=some r->∀ E,aP E 0->ay Tryz.prog E 153 45 (aQ E [] (bD r)) [.code (VF 25296),.inLoop (VF 25296),.inBlock 2,.code (VF 6325),.code (VF 791),.inBlock 1,.inLoop (VF 24),.inBlock 0,.code (VF 7)] ⟨[(5,(wD x)),(7,(wD y))],[],0⟩
theorem L6 (N:Nat) (sV:(List Int)->(List Int)->Option l8) (adl:DI N sV) (fuel:Nat):Nt N (js N sV fuel):=by
 induction fuel with
 | zero=>intro _ _ r h;rw [js.eq_1] at h;cases h
 | succ fuel ih =>
  intro x y r h E hE
  rw [js.eq_2] at h
  refine aj hE 2 (kp [5,7,29]) [] 32 <| cx 0 29 h (fun sb h=>?_) (fun sb h=>?_)
  ·obtain ⟨c,h⟩:=ae h
   refine cd hE 2 (kp [5,7]) [] 128 (pc c pn) <| cy hE 2 (kp [5,7]) [] 0 (ih _ _ _ h E hE)
  ·obtain ⟨qM,ia,h⟩:=ax h
   refine bc hE 2 [(1,oT (bD qM))] (kp [4]) [] 80 (pc (oV _ _ _ ia) pn) ?_
   obtain rfl:=kR h
   exact fw hE 0 Tryz.f153 (kp [4]) [] 80
theorem L7 (N fuel):DI N (iC N fuel):=by
 induction fuel with
 | zero=>intro _ _ r h;rw [iC.eq_1] at h;cases h
 | succ fuel ih =>
  intro a2 b2 r h E hE
  rw [iC.eq_2] at h
  refine aj hE 2 (kp [0,1,13]) [] 48 <| cx 0 13 h (fun cP h=>?_) (fun cP h=>?_)
  ·obtain ⟨xF,hr,h⟩:=ax h
   refine bc hE 3 [(1,oT (Ii xF))] tq [] 160 (pc (wE _ _ _ hr) pn) ?_
   obtain ⟨K9,dy,h⟩:=ax h
   refine bc hE 1 [(1,oT (Ii K9))] yY [] 272 (pc (wE _ _ _ dy) pn) <| cd hE 2 (kp [0,1,5,7,27]) [] 336 (pc (fun hq:xF.2=true=>(pc hq pn)) pn) <| cx 0 27 h (fun gX h=>?_) (fun gX h=>?_)
   ·exact cy hE 3 (kp [5,7]) [] 0 (L6 N _ ih N _ _ _ h E hE)
   ·obtain ⟨kW,kT,h⟩:=ax h
    refine bc hE 2 [(2,oT (vv kW))] (kp [1,10]) [] 464 (pc (AW _ _ _ _ kT) pn) <| aj hE 0 (kp [0,1]) [] 528 <| cy hE 2 (kp [0,1]) [] 0 (ih _ _ _ h E hE)
  ·refine aj hE 2 (kp [4]) [] 80 ?_
   obtain rfl:=kR h
   exact fw hE 0 Tryz.f153 (kp [4]) [] 80
theorem R7 (N a b r) (h:vn N a b=some r):Sd 153 [(bw a),(bw b)] [] 0 (bD r) []:=by
 unfold vn at h
 refine sO Tryz.f153 45 fun E hE=>?_
 refine aj hE 1 (kp [0,1]) [] 16 <| cy hE 3 (kp [0,1]) [] 0 (L7 N N _ _ _ h E hE)
noncomputable abbrev apx:=bt Tryz.f131
def JY (N:Nat) (a:cX) (b:cX) (K:(List Int)->(List Int)->Option (aa)):Prop:=∀ (x:List Int) (y:List Int) (r:aa),K x y=some r->∀ E,aP E 0->ay Tryz.prog E 131 48 (aQ E [] (ao r)) [.code (apx 62),.code (apx 63)] ⟨[(2,(.op 0 0 0)),(3,(.op 1 0 0)),(4,(.op 2 0 0)),(5,(bw x)),(6,(bw y))],[(0,vO 2 (TIc a)),(1,vO 2 (TIc b)),(2,vO 4 [(aB false),.nil,(aB false),.nil])],3⟩
theorem yZ (N a b):JY N a b (lg N a b):=by
 intro x y r h E hE
 unfold lg at h
 obtain ⟨yp,vG,h⟩:=ax h
 obtain ⟨qt,x6,h⟩:=ax h
 refine bc hE 0 [(6,oT (ba yp)),(8,oT (ba qt))] (kp [4]) (kq [2]) 179 (pc o1 (pc o1 (pc (l9 _ _ _ _ vG) (pc (l9 _ _ _ _ x6) (pc o1 pn))))) ?_
 cases h
 exact jn hE 0 Tryz.f131 [] (kp [4]) [(16,.af 2)] 179 pn [16] (pc o1 pn)
theorem m9 (N a b r) (h:jy N a b=some r):Sd 131 [(ba a),(ba b)] [] 0 (ao r) []:=by
 unfold jy at h
 refine sO Tryz.f131 48 fun E hE=>?_
 refine aj hE 1 kg cC 48 ?_
 obtain ⟨bJ,hr,h⟩:=ax h
 obtain ⟨fJ,dy,h⟩:=ax h
 refine bc hE 1 [(2,oT (bD bJ)),(5,oT (bD fJ))] tu cC 176 (pc o1 (pc (ca _ _ _ hr) (pc o1 (pc (ca _ _ _ dy) pn)))) ?_
 obtain ⟨mM,ia,h⟩:=ax h
 refine bc hE 1 [(2,oT (bD mM))] LV cC 240 (pc (R7 _ _ _ _ ia) pn) ?_
 obtain ⟨c,h⟩:=ae h
 refine cd hE 2 (kp [2,3,4,5,6,7,25]) cC 384 (pc (fun hg:(Xq mM)=true=>(pc hg (pc (c hg) pn))) (pc (fun hg:(Xq mM)=true=>(pc hg pn)) (pc (fun hg:(Xq mM)=true=>(pc hg pn)) (pc (fun hq:(Xq mM)=true=>(pc hq pn)) pn)))) <| cx 0 25 h (fun cP h=>?_) (fun cP h=>?_)
 ·obtain ⟨kW,kT,h⟩:=ax h
  refine bc hE 1 [(2,oT (vv kW))] LV cC 496 (pc (AW _ _ _ _ kT) pn) ?_
  obtain ⟨EK,oW,h⟩:=ax h
  refine bc hE 0 [(2,oT (vv EK))] tu cC 608 (pc (AW _ _ _ _ oW) pn) <| cy hE 1 tu VC 3 (yZ N _ _ _ _ _ h E hE)
 ·exact cy hE 2 tu VC 3 (yZ N _ _ _ _ _ h E hE)
theorem VG (N a r) (h:oG N a=some r):Sd 112 [(ba a)] [] 0 (ao r) []:=by
 unfold oG at h
 refine sO Tryz.f112 7 fun E hE=>?_
 refine aj hE 1 (kp [1,2]) fH 32 ?_
 obtain ⟨p6,hr,h⟩:=ax h
 refine bc hE 1 [(3,⟨[],true,(ao p6),[],0,true,none⟩)] (kp [2]) (kq [16]) 112 (pc o1 (pc (show Sd 131 [(ba a),(.agg [(aB false),(.sl 1 (fun zi=>(fun zi=>([[(Zk 1)]]:List (List AV)).getD zi []) (bB 0 zi)))])] [] 0 (ao p6) [] from (Sound.conv (m9 _ _ _ _ hr) (.cons (Alike.refl _) (.cons (Alike.agg (.cons (Alike.refl _) (.cons (Alike.sl rfl (dJ (cU .u16) 0 ([1]:List Int))) .nil))) .nil)))) (pc (z1 1) (pc o1 pn)))) ?_
 obtain rfl:=kR h
 exact jn hE 0 Tryz.f112 [] (kp [2]) (kq [16]) 112 pn [16] (pc o1 pn)
theorem ju (N n r) (h:fo N n=some r):Sd 96 [(aI n)] [] 0 (ao r) []:=by
 unfold fo at h
 refine sO Tryz.f96 6 fun E hE=>?_
 refine aj hE 1 (kp [0,2]) (kq [0]) 16 ?_
 obtain ⟨Te,hr,h⟩:=ax h
 obtain ⟨lI,dy,h⟩:=ax h
 refine bc hE 1 [(1,oT (ba Te)),(2,oT (ao lI))] (kp [2]) (kq [0]) 80 (pc (adj _ _ _ hr) (pc (VG _ _ _ dy) (pc o1 pn))) ?_
 obtain rfl:=kR h
 exact jn hE 0 Tryz.f96 [] (kp [2]) [(16,.af 0)] 80 pn [16] (pc o1 pn)
theorem z7 (N a r) (h:yI N a=some r):Sd 108 [(ba a)] [] 0 (aI r) []:=by
 unfold yI at h
 refine sO Tryz.f108 12 fun E hE=>?_
 refine aj hE 1 (kp [1]) (kq [0]) 32 ?_
 obtain ⟨bJ,hr,h⟩:=ax h
 refine bc hE 3 [(2,oT (bD bJ))] (kp [1,3]) (kq [0]) 128 (pc o1 (pc (ca _ _ _ hr) pn)) <| cx 0 3 h (fun cP h=>?_) (fun cP h=>?_)
 ·refine aj hE 1 (kp [2]) [] 144 ?_
  cases h
  exact fw hE 0 Tryz.f108 (kp [2]) [] 144
 ·refine cd hE 1 (kp [9]) [] 176 (pc o1 pn) <| cx 0 9 h (fun gX h=>?_) (fun gX h=>?_)
  ·refine aj hE 1 (kp [2]) [] 192 ?_
   cases h
   exact fw hE 0 Tryz.f108 (kp [2]) [] 192
  ·refine aj hE 3 (kp [2]) [] 192 ?_
   cases h
   exact fw hE 0 Tryz.f108 (kp [2]) [] 192
theorem eP (N x r) (h:m6 N x=some r):Sd 109 [(ao x)] [] 0 (ba r) []:=by
 unfold m6 at h
 refine sO Tryz.f109 11 fun E hE=>?_
 refine aj hE 1 (kp [1,2]) fH 32 ?_
 obtain ⟨EL,hr,h⟩:=ax h
 refine bc hE 2 [(2,oT (aI EL))] (kp [1,2,6]) fH 96 (pc o1 (pc (z7 _ _ _ hr) pn)) <| cx 0 6 h (fun cP h=>?_) (fun cP h=>?_)
 ·refine cd hE 1 (kp [2]) [(16,.var 16 [.af,.lx (([1]:List Int).length)]),(96,pY 96 (cU .u16) 0 ([1]:List Int))] 144 (pc o1 (pc (Eq.refl 1) (pc (Eq.refl 1) (pc (dJ (cU .u16) 0 ([1]:List Int)) pn)))) ?_
  cases h
  exact jn hE 0 Tryz.f109 [96] (kp [2]) [(16,.var 16 [.af,rM (cU .u16) 0 ([1]:List Int)])] 144 (pc (Eq.refl (([1]:List Int).length)) (pc (z1 (([1]:List Int).length)) (pc (eZ (cU .u16) 0 ([1]:List Int)) pn))) [16] (pc o1 pn)
 ·refine cd hE 2 (kp [2]) (kq [16]) 144 (pc o1 (pc o1 pn)) ?_
  cases h
  exact jn hE 0 Tryz.f109 [] (kp [2]) (kq [16]) 144 pn [16] (pc o1 pn)
theorem v5 (N x r) (h:j9 N x=some r):Sd 97 [(ao x)] [] 0 (ao r) []:=by
 unfold j9 at h
 refine sO Tryz.f97 8 fun E hE=>?_
 refine aj hE 1 (kp [1,2]) fH 32 ?_
 obtain ⟨gK,hr,h⟩:=ax h
 obtain ⟨p6,dy,h⟩:=ax h
 refine bc hE 1 [(3,oT (ba gK)),(4,oT (ao p6))] (kp [2]) (kq [16]) 128 (pc o1 (pc o1 (pc (eP _ _ _ hr) (pc (m9 _ _ _ _ dy) (pc o1 pn))))) ?_
 obtain rfl:=kR h
 exact jn hE 0 Tryz.f97 [] (kp [2]) (kq [16]) 128 pn [16] (pc o1 pn)
theorem DJ (N a r) (h:xT N a=some r):Sd 132 [(ba a)] [] 0 (ba r) []:=by
 unfold xT at h
 refine sO Tryz.f132 9 fun E hE=>?_
 refine aj hE 1 (kp [1,2]) fH 32 <| cd hE 1 (kp [2]) (kq [16]) 144 (pc o1 (pc o1 (pc o1 pn))) ?_
 cases h
 exact jn hE 0 Tryz.f132 [] (kp [2]) (kq [16]) 144 pn [16] (pc o1 pn)
theorem na (N x r) (h:gq N x=some r):Sd 98 [(ao x)] [] 0 (ao r) []:=by
 unfold gq at h
 refine sO Tryz.f98 9 fun E hE=>?_
 refine aj hE 1 (kp [1,2]) fH 32 ?_
 obtain ⟨BC,hr,h⟩:=ax h
 obtain ⟨gK,dy,h⟩:=ax h
 obtain ⟨p6,ia,h⟩:=ax h
 refine bc hE 1 [(2,oT (ba BC)),(4,oT (ba gK)),(5,oT (ao p6))] (kp [2]) (kq [16]) 144 (pc o1 (pc (DJ _ _ _ hr) (pc o1 (pc (eP _ _ _ dy) (pc (m9 _ _ _ _ ia) (pc o1 pn)))))) ?_
 obtain rfl:=kR h
 exact jn hE 0 Tryz.f98 [] (kp [2]) (kq [16]) 144 pn [16] (pc o1 pn)
noncomputable abbrev RP:=bt Tryz.f49
def Qy (N:Nat) (n:Int) (l:List aV) (aw:aa) (K:(List Int)->Int->Option Fc):Prop:=∀ (t:List Int) (x:Int) (r:ow),K t x=some r->∀ E,aP E 0->ay Tryz.prog E 49 157 (aQ E [(0,vN 12 [(aI r.D2),(aI r.D3),(Ie r),(Ig r),(.os 3 0 r.f_a.length),(.os 4 0 r.Tb.length),(Ih r),(IA r),(IG r),(Iz r),(IE r),(aI r.di)]),(Im r),(Iq r),(Ir r),(Is r),(It r)] (.op 0 0 0)) [.code (RP 116),.inLoop (RP 116),.inBlock 0,.code (RP 15)] ⟨[(0,(aI n)),(1,(oS l)),(5,(.op 0 0 0)),(25,(aI (aE (2 * n)))),(26,(aI x))],[(0,vN 12 [(aI n),(xe l),.nil,(rX t),.nil,.nil,.nil,(yU aw),(yX aw),(yT aw),(yW aw),(LH n l)]),(ey t)],2⟩
def y5 (N:Nat) (n:Int) (l:List aV) (aw:aa) (t:List Int) (K:(List Int)->mF->aK->Int->Option Fc):Prop:=∀ (t2:List Int) (t3:List aK) (t4:List aa) (x2:Int) (r:ow),K t2 t3 t4 x2=some r->∀ E,aP E 0->ay Tryz.prog E 49 157 (aQ E [(0,vN 12 [(aI r.D2),(aI r.D3),(Ie r),(Ig r),(.os 3 0 r.f_a.length),(.os 4 0 r.Tb.length),(Ih r),(IA r),(IG r),(Iz r),(IE r),(aI r.di)]),(Im r),(Iq r),(Ir r),(Is r),(It r)] (.op 0 0 0)) [.code (RP 500),.inLoop (RP 500),.inBlock 2,.code (RP 63)] ⟨[(0,(aI n)),(5,(.op 0 0 0)),(53,(oS l)),(54,(xe l)),(55,(aI x2))],[(0,vN 12 [(aI n),(xe l),(rX t2),(UP t n l),(yS t3),(xa t4),.nil,(yU aw),(yX aw),(yT aw),(yW aw),(LH n l)]),(ey t2),(UW t n l),(fx t3),(eA t4)],5⟩
def Fu (N:Nat) (n:Int) (l:List aV) (aw:aa) (t:List Int) (t2:List Int) (t3:List aK) (t4:List aa) (x2:Int) (K:aK->Int->Option Fc):Prop:=∀ (row:List aa) (x3:Int) (r:ow),K row x3=some r->∀ E,aP E 0->ay Tryz.prog E 49 157 (aQ E [(0,vN 12 [(aI r.D2),(aI r.D3),(Ie r),(Ig r),(.os 3 0 r.f_a.length),(.os 4 0 r.Tb.length),(Ih r),(IA r),(IG r),(Iz r),(IE r),(aI r.di)]),(Im r),(Iq r),(Ir r),(Is r),(It r)] (.op 0 0 0)) [.code (RP 1025652),.inLoop (RP 1025652),.inBlock 4,.code (RP 128207),.inBlock 3,.code (RP 4007),.inLoop (RP 500),.inBlock 2,.code (RP 63)] ⟨[(0,(aI n)),(5,(.op 0 0 0)),(8,(.op 5 0 0)),(9,(pL row)),(53,(oS l)),(54,(xe l)),(55,(aI x2)),(77,(aI n)),(78,(aI x3))],[(0,vN 12 [(aI n),(xe l),(.os 1 0 ((Tk t2 n x2).length)),(UP t n l),(yS t3),(xa t4),.nil,(yU aw),(yX aw),(yT aw),(yW aw),(LH n l)]),(1,aO 1 cI 0 (Tk t2 n x2)),(UW t n l),(fx t3),(eA t4),(5,vO 5 (TWc (l.getD ((x2).toNat) aV.d))),(tn row)],7⟩
def Qz (N:Nat) (n:Int) (l:List aV) (aw:aa) (t:List Int) (t2:List Int) (t3:List aK) (t4:List aa) (x2:Int) (row:List aa) (x3:Int) (K:aa->Option Fc):Prop:=∀ (c7:aa) (r:ow),K c7=some r->∀ E,aP E 0->ay Tryz.prog E 49 157 (aQ E [(0,vN 12 [(aI r.D2),(aI r.D3),(Ie r),(Ig r),(.os 3 0 r.f_a.length),(.os 4 0 r.Tb.length),(Ih r),(IA r),(IG r),(Iz r),(IE r),(aI r.di)]),(Im r),(Iq r),(Ir r),(Is r),(It r)] (.op 0 0 0)) [.code (RP 131283559),.inBlock 5,.code (RP 8205223),.inLoop (RP 1025652),.inBlock 4,.code (RP 128207),.inBlock 3,.code (RP 4007),.inLoop (RP 500),.inBlock 2,.code (RP 63)] ⟨[(0,(aI n)),(5,(.op 0 0 0)),(8,(.op 5 0 0)),(9,(pL row)),(10,(aI x3)),(11,(.op 7 0 0)),(53,(oS l)),(54,(xe l)),(55,(aI x2)),(77,(aI n)),(78,(aI x3))],[(0,vN 12 [(aI n),(xe l),(.os 1 0 ((Tk t2 n x2).length)),(UP t n l),(yS t3),(xa t4),.nil,(yU aw),(yX aw),(yT aw),(yW aw),(LH n l)]),(1,aO 1 cI 0 (Tk t2 n x2)),(UW t n l),(fx t3),(eA t4),(5,vO 5 (TWc (l.getD ((x2).toNat) aV.d))),(tn row),(7,vO 4 (xc c7))],8⟩
theorem DK (N:Nat) (n:Int) (l:List aV) (aw:aa) (t:List Int) (t2:List Int) (t3:List aK) (t4:List aa) (x2:Int) (row:List aa) (x3:Int) (uk:aK->Int->Option Fc) (fK:(List Int)->mF->aK->Int->Option Fc) (Nu:Fu N n l aw t t2 t3 t4 x2 uk) (s7:y5 N n l aw t fK):Qz N n l aw t t2 t3 t4 x2 row x3 (ry N n l aw t t2 t3 t4 x2 row x3 uk fK):=by
 intro c7 r h E hE
 unfold ry at h
 obtain ⟨bO,kT,h⟩:=ax h
 obtain ⟨c8,h⟩:=ae h
 obtain ⟨c9,h⟩:=ae h
 refine bc hE 0 [(7,oT (ao bO))] (kp [0,5,8] ++ [(9,.lx (((row.set ((x3).toNat) bO).set (tl n x3) c7).length))] ++ kp [53,54,55,77,78]) (kq [0,1,2,3,4,5] ++ [(6,pY 6 eT aa.d ((row.set ((x3).toNat) bO).set (tl n x3) c7))]) 216 (pc o1 (pc (na _ _ _ kT) (pc o1 (pc c8 (pc (dV c8) (pc c9 (pc (dV c9) (pc (show row.length=((row.set ((x3).toNat) bO).set (tl n x3) c7).length from (kH (kH rfl))) (pc (show row.length=((row.set ((x3).toNat) bO).set (tl n x3) c7).length from (kH (kH rfl))) (pc (EG eT aa.d (row.set ((x3).toNat) bO) (tl n x3) c7 (cF eT aa.d row ((x3).toNat) bO)) pn)))))))))) <| aj hE 1 Vi hO 248 <| cy hE 1 Vi hO 7 (Nu _ _ _ h E hE)
theorem Nv (N:Nat) (n:Int) (l:List aV) (aw:aa) (t:List Int) (t2:List Int) (t3:List aK) (t4:List aa) (x2:Int) (fK:(List Int)->mF->aK->Int->Option Fc) (s7:y5 N n l aw t fK) (fuel:Nat):Fu N n l aw t t2 t3 t4 x2 (iI N n l aw t t2 t3 t4 x2 fK fuel):=by
 induction fuel with
 | zero=>intro _ _ r h;rw [iI.eq_1] at h;cases h
 | succ fuel ih =>
  intro row x3 r h E hE
  rw [iI.eq_2] at h
  refine aj hE 1 (kp [0,5,8,9,53,54,55,77,78,79]) hO 23 <| cx 1 79 h (fun sb h=>?_) (fun sb h=>?_)
  ·refine aj hE 4 (kp [0,5,8,9,10,53,54,55,77,78]) hO 55 ?_
   obtain ⟨ly,dy,h⟩:=ax h
   refine bc hE 1 [(0,oT (ao ly))] Vh Z5 103 (pc (ju _ _ _ dy) (pc o1 pn)) <| cd hE 2 (kp [0,5,8,9,10,11,53,54,55,77,78,86]) Z5 183 (pc o1 pn) <| cx 0 86 h (fun Ft h=>?_) (fun Ft h=>?_)
   ·obtain ⟨c6,h⟩:=ae h
    obtain ⟨qB,ia,h⟩:=ax h
    refine bc hE 0 [(5,oT (ao qB))] Vh Z5 295 (pc o1 (pc c6 (pc (v5 _ _ _ ia) (pc o1 pn)))) <| cy hE 0 Vh agJ 8 (DK N _ _ _ _ _ _ _ _ _ _ _ _ ih s7 _ _ h E hE)
   ·exact cy hE 1 Vh agJ 8 (DK N _ _ _ _ _ _ _ _ _ _ _ _ ih s7 _ _ h E hE)
  ·obtain ⟨cn,oW,h⟩:=ax h
   obtain ⟨c10,h⟩:=ae h
   refine bc hE 2 [(3,oT (ao cn))] (kp [0,5,8] ++ [(9,.lx ((uZ row n cn).length))] ++ kp [53,54,55]) (kq [0,1,2,3,4,5] ++ [(6,pY 6 eT aa.d (uZ row n cn))]) 119 (pc (ju _ _ _ oW) (pc c10 (pc (dV c10) (pc (az row ((aE (2 * n)).toNat) cn) (pc (az row ((aE (2 * n)).toNat) cn) (pc (cF eT aa.d row ((aE (2 * n)).toNat) cn) pn)))))) ?_
   obtain ⟨Tt,h⟩:=ae h
   refine cd hE 1 ZU ([(0,.var 0 [.af,.af,.af,.af,.lx ((C6 t3 row n cn).length),.af,.af,.af,.af,.af,.af,.af])] ++ kq [1,2,4,5,6] ++ [(231,.Cr 231 ((C6 t3 row n cn).length) [(t3.length,6,(uZ row n cn).length)] (LI t3 row n cn))]) 295 (pc o1 (pc (Eq.refl t3.length) (pc Tt (pc (show 0+1<=1 from (aN _)) (pc (oN [[(.os 6 0 ((uZ row n cn).length))]]) (pc o1 (pc (bT t3 [(uZ row n cn)]) (pc (bT t3 [(uZ row n cn)]) (pc (show ∀ zm,zm < (C6 t3 row n cn).length->an [(t3.length,6,(uZ row n cn).length)] (LI t3 row n cn) zm=if zm < t3.length then (ah t3) zm else (fun zi=>([[(.os 6 0 ((uZ row n cn).length))]]:List (List AV)).getD zi []) (zm - t3.length) from (aka (b:=fun zi=>([[(.os 6 0 ((uZ row n cn).length))]]:List (List AV)).getD zi []) t3 (uZ row n cn) rfl rfl)) (pc (show ∀ zm,zm < (C6 t3 row n cn).length->dT ((LI t3 row n cn) zm)=true from (fun _ _=>rfl)) pn)))))))))) <| rnL 231 6 t3.length (pc (amO t3 (uZ row n cn)) (pc (show an [(t3.length,6,(uZ row n cn).length)] (LI t3 row n cn) t3.length=[.os 6 0 (uZ row n cn).length] from if_pos rfl) (pc (show ∀ zj,zj < (uZ row n cn).length->oZ (eT ((uZ row n cn).getD zj aa.d))=true from fun _ _=>rfl) pn))) <| rnX hE [] ZU (kq [0,1,2,4,5] ++ [(231,.Cr 231 ((C6 t3 row n cn).length) [] (LI t3 row n cn))]) 295 (pc (Eq.refl ((C6 t3 row n cn).length)) (pc (afF (sz:=4) (c:=eT) (d:=aa.d) (C6 t3 row n cn) t3.length 6 ((uZ row n cn).length) (uZ row n cn) [] (wq t3 (uZ row n cn)) Po) (pc (show ∀ zm,zm < (C6 t3 row n cn).length->dT ((LI t3 row n cn) zm)=true from fun _ _=>rfl) pn))) ?_
   obtain ⟨jY,vG,h⟩:=ax h
   obtain ⟨c12,h⟩:=ae h
   refine bc hE 0 [(7,oT (ao jY))] Qc ([(0,.var 0 [.af,.af,.af,.af,.af,.lx ((MY t4 jY).length),.af,.af,.af,.af,.af,.af])] ++ kq [1,2,231] ++ [(439,pY 439 eT aa.d (MY t4 jY))]) 503 (pc o1 (pc o1 (pc (v5 _ _ _ vG) (pc (Eq.refl t4.length) (pc c12 (pc (z1 1) (pc (oN [[(yU jY),(yX jY),(yT jY),(yW jY)]]) (pc o1 (pc (bT t4 (xd jY)) (pc (bT t4 (xd jY)) (pc (Ta eT aa.d t4 (xd jY)) pn))))))))))) <| aj hE 1 Qc (kq [0,1,2,231,439]) 535 <| cy hE 1 Qc (kq [0,1,2] ++ [(3,.af 231),(4,.af 439)]) 5 (s7 _ _ _ _ _ h E hE)
def QA (N:Nat) (n:Int) (l:List aV) (aw:aa) (t:List Int) (t2:List Int) (t3:List aK) (t4:List aa) (K:aK->Int->Option Fc):Prop:=∀ (t5:List aa) (x4:Int) (r:ow),K t5 x4=some r->∀ E,aP E 0->ay Tryz.prog E 49 157 (aQ E [(0,vN 12 [(aI r.D2),(aI r.D3),(Ie r),(Ig r),(.os 3 0 r.f_a.length),(.os 4 0 r.Tb.length),(Ih r),(IA r),(IG r),(Iz r),(IE r),(aI r.di)]),(Im r),(Iq r),(Ir r),(Is r),(It r)] (.op 0 0 0)) [.code (RP 2036),.inLoop (RP 2036),.inBlock 6,.code (RP 255)] ⟨[(5,(.op 0 0 0)),(144,(aI (((ZN n).length:Nat):Int))),(145,(aI x4))],[(0,vN 12 [(aI n),(xe l),(rX t2),(UP t n l),(yS t3),(xa t4),(Zz t5),(yU aw),(yX aw),(yT aw),(yW aw),(LH n l)]),(ey t2),(UW t n l),(fx t3),(eA t4),(gx t5)],6⟩
theorem Nw (N n l aw t t2 t3 t4 fuel):QA N n l aw t t2 t3 t4 (nw N n l aw t t2 t3 t4 fuel):=by
 induction fuel with
 | zero=>intro _ _ r h;rw [nw.eq_1] at h;cases h
 | succ fuel ih =>
  intro t5 x4 r h E hE
  rw [nw.eq_2] at h
  refine aj hE 1 (kp [5,144,145,146]) cY 22 <| cx 1 146 h (fun VE h=>?_) (fun VE h=>?_)
  ·refine aj hE 4 (kp [5,12,144,145]) cY 54 ?_
   obtain ⟨wu,x6,h⟩:=ax h
   obtain ⟨c14,h⟩:=ae h
   refine bc hE 0 [(5,oT (ao wu))] Qo ([(0,.var 0 [.af,.af,.af,.af,.af,.af,.lx (wC t5 x4 wu),.af,.af,.af,.af,.af])] ++ kq [1,2,3,4] ++ [(5,pY 5 eT aa.d (t5.set ((x4).toNat) wu))]) 182 (pc o1 (pc (ju _ _ _ x6) (pc c14 (pc (dV c14) (pc (az t5 ((x4).toNat) wu) (pc (az t5 ((x4).toNat) wu) (pc (cF eT aa.d t5 ((x4).toNat) wu) pn))))))) <| aj hE 1 Qo cY 214 <| cy hE 1 Qo cY 6 (ih _ _ _ h E hE)
  ·refine aj hE 2 (kp [4]) cY 54 ?_
   cases h
   exact fw hE 0 Tryz.f49 (kp [4]) cY 54
theorem Nx (N n l aw t fuel):y5 N n l aw t (lJ N n l aw t fuel):=by
 induction fuel with
 | zero=>intro _ _ _ _ r h;rw [lJ.eq_1] at h;cases h
 | succ fuel ih =>
  intro t2 t3 t4 x2 r h E hE
  rw [lJ.eq_2] at h
  refine aj hE 1 (kp [0,5,53,54,55,56]) Qp 21 <| cx 1 56 h (fun gX h=>?_) (fun gX h=>?_)
  ·obtain ⟨c3,h⟩:=ae h
   refine cd hE 4 (kp [0,5,7,8,53,54,55]) (kq [0,1,2,3,4,69]) 117 (pc c3 (pc o1 pn)) ?_
   obtain ⟨c4,h⟩:=ae h
   refine cd hE 1 ZU ([(0,.var 0 [.af,.af,.lx ((Tk t2 n x2).length),.af,.af,.af,.af,.af,.af,.af,.af,.af])] ++ kq [2,3,4,69] ++ [(277,pY 277 cI 0 (Tk t2 n x2))]) 341 (pc o1 (pc (Eq.refl t2.length) (pc c4 (pc (z1 1) (pc (oN [[(aI (aE ((aE (2 * n))+x2)))]]) (pc o1 (pc (bT t2 (UI n x2)) (pc (bT t2 (UI n x2)) (pc (Ta cI 0 t2 (UI n x2)) pn))))))))) ?_
   obtain ⟨c5,h⟩:=ae h
   refine cd hE 1 (kp [0,5,8] ++ [(9,.lx (abD n))] ++ kp [53,54,55]) (kq [0,2,3,4,69,277] ++ [(389,.arz 389 (abD n) (U9 n))]) 421 (pc c5.1 (pc (Int.le_refl (aE ((aE (2 * n))+1))) (pc c5.2.1 (pc c5.2.2 (pc (lR (Ts n) rY) (pc (lQ (Ts n) rY) (pc (show ∀ zi,zi < (ZN n).length->Uj ((fun _=>[(aB false),.nil,(aB false),.nil]) zi) ((U9 n) zi) from (fun zq D6=>qI eT aa.d aa.d (Ts n) zq ⟨.inl rfl,.inr ⟨rfl,_,rfl⟩,.inl rfl,.inr ⟨rfl,_,rfl⟩,trivial⟩ D6)) pn))))))) <| aj hE 2 Vi (kq [0,2,3,4,69,277,389]) 453 <| cy hE 2 Vi (kq [0] ++ [(1,.af 277)] ++ kq [2,3,4] ++ [(5,.af 69),(6,.af 389)]) 7 (Nv N _ _ _ _ _ _ _ _ _ ih N _ _ _ h E hE)
  ·obtain ⟨Wx,h⟩:=ae h
   refine cd hE 2 (kp [5]) ([(0,.var 0 [.af,.af,.af,.af,.af,.af,.lx (abD n),.af,.af,.af,.af,.af])] ++ kq [1,2,3,4] ++ [(85,.arz 85 (abD n) (U9 n))]) 149 (pc Wx.1 (pc (Int.le_refl (aE ((aE (2 * n))+1))) (pc Wx.2.1 (pc Wx.2.2 (pc o1 (pc (lR (Ts n) rY) (pc (lQ (Ts n) rY) (pc (show ∀ zi,zi < (ZN n).length->Uj ((fun _=>[(aB false),.nil,(aB false),.nil]) zi) ((U9 n) zi) from (fun zq D6=>qI eT aa.d aa.d (Ts n) zq ⟨.inl rfl,.inr ⟨rfl,_,rfl⟩,.inl rfl,.inr ⟨rfl,_,rfl⟩,trivial⟩ D6)) pn)))))))) <| cd hE 2 Qo (kq [0,1,2,3,4,85]) 245 (pc o1 pn) <| cy hE 2 Qo (kq [0,1,2,3,4] ++ [(5,.af 85)]) 6 (Nw N _ _ _ _ _ _ _ N _ _ _ h E hE)
theorem Ny (N n l aw fuel):Qy N n l aw (ny N n l aw fuel):=by
 induction fuel with
 | zero=>intro _ _ r h;rw [ny.eq_1] at h;cases h
 | succ fuel ih =>
  intro t x r h E hE
  rw [ny.eq_2] at h
  refine aj hE 1 (kp [0,1,5,25,26,27]) (kq [0,1]) 18 <| cx 1 27 h (fun cP h=>?_) (fun cP h=>?_)
  ·refine aj hE 4 (kp [0,1,5,6,25,26]) (kq [0,1]) 50 ?_
   obtain ⟨c,h⟩:=ae h
   refine cd hE 0 P5 [(0,.var 0 [.af,.af,.af,.lx ((t ++ ([x]:List Int)).length),.af,.af,.af,.af,.af,.af,.af,.af]),(162,pY 162 cI 0 (t ++ ([x]:List Int)))] 226 (pc o1 (pc (Eq.refl t.length) (pc c (pc (z1 1) (pc (oN [[(aI x)]]) (pc o1 (pc (bT t ([x]:List Int)) (pc (bT t ([x]:List Int)) (pc (Ta cI 0 t ([x]:List Int)) pn))))))))) <| aj hE 1 P5 (kq [0,162]) 258 <| cy hE 1 P5 (kq [0] ++ [(1,.af 162)]) 2 (ih _ _ _ h E hE)
  ·obtain ⟨c2,h⟩:=ae h
   refine cd hE 2 r9 [(0,.var 0 [.af,.af,.af,.lx ((UO t n l).length),.af,.af,.af,.af,.af,.af,.af,.af]),(178,pY 178 cI 0 (UO t n l))] 242 (pc o1 (pc o1 (pc (Eq.refl t.length) (pc c2 (pc (z1 1) (pc (oN [[(LH n l)]]) (pc o1 (pc (bT t (ZO n l)) (pc (bT t (ZO n l)) (pc (Ta cI 0 t (ZO n l)) pn)))))))))) <| aj hE 2 Qc (kq [0,178]) 290 <| cy hE 2 Qc [(0,.var 0 [.af,.af,.sC 1,.af,.sC 3,.sC 4,.af,.af,.af,.af,.af,.af]),(1,.nil 1 P2),(2,.af 178),(3,.nim (mG ([]:List aK))),(4,.nil 4 Va)] 5 (Nx N _ _ _ _ N _ _ _ _ _ h E hE)
theorem VH (N n l r) (h:GA N n l=some r):Sd 49 [(aI n),(oS l)] [] 0 (.op 0 0 0) [(0,vN 12 [(aI r.D2),(aI r.D3),(Ie r),(Ig r),(.os 3 0 r.f_a.length),(.os 4 0 r.Tb.length),(Ih r),(IA r),(IG r),(Iz r),(IE r),(aI r.di)]),(Im r),(Iq r),(Ir r),(Is r),(It r)]:=by
 unfold GA at h
 refine sO Tryz.f49 157 fun E hE=>?_
 refine aj hE 1 (kp [0,1]) [] 16 ?_
 obtain ⟨aw,hr,h⟩:=ax h
 refine bc hE 1 [(8,oT (ao aw))] r9 (kq [176]) 208 (pc (ju _ _ _ hr) pn) <| aj hE 2 P5 (kq [176]) 256 <| cy hE 2 P5 [(0,.var 176 [.af,.af,.af,.sC 1,.af,.af,.af,.af,.af,.af,.af,.af]),(1,.nil 1 P2)] 2 (Ny N _ _ _ N _ _ _ h E hE)
theorem n9 (N x r) (h:n7 N x=some r):Sd 57 [(ao x)] [] 0 (aI r) []:=by
 unfold n7 at h
 refine sO Tryz.f57 10 fun E hE=>?_
 refine aj hE 1 (kp [1]) (kq [0]) 32 ?_
 obtain ⟨EL,hr,h⟩:=ax h
 obtain ⟨gK,dy,h⟩:=ax h
 obtain ⟨Zc,ia,h⟩:=ax h
 refine bc hE 1 [(2,oT (aI EL)),(4,oT (ba gK)),(5,oT (aI Zc))] (kp [2]) [] 160 (pc o1 (pc (z7 _ _ _ hr) (pc o1 (pc (eP _ _ _ dy) (pc (z7 _ _ _ ia) pn))))) ?_
 cases h
 exact fw hE 0 Tryz.f57 (kp [2]) [] 160
theorem fV (N x r) (h:g7 N x=some r):Sd 60 [(ao x)] [] 0 (aB r) []:=by
 unfold g7 at h
 refine sO Tryz.f60 7 fun E hE=>?_
 refine aj hE 1 (kp [1]) (kq [0]) 32 ?_
 obtain ⟨EL,hr,h⟩:=ax h
 refine bc hE 1 [(2,oT (aI EL))] (kp [2]) [] 112 (pc o1 (pc (z7 _ _ _ hr) pn)) ?_
 cases h
 exact fw hE 0 Tryz.f60 (kp [2]) [] 112
noncomputable abbrev VI:=bt Tryz.f158
def Fv (N:Nat) (a:List Int) (b:List Int) (K:(List Int)->Int->Option l8):Prop:=∀ (out:List Int) (x:Int) (r:(List Int)),K out x=some r->∀ E,aP E 0->ay Tryz.prog E 158 67 (aQ E [] (bD r)) [.code (VI 116),.inLoop (VI 116),.inBlock 0,.code (VI 15)] ⟨[(1,(bw b)),(5,(lN out)),(17,(bw a)),(18,(yV a)),(19,(aI x))],[(0,aU out)],1⟩
def QB (N:Nat) (a:List Int) (b:List Int) (x:Int) (K:(List Int)->Int->Int->Option l8):Prop:=∀ (eY:List Int) (carry:Int) (x2:Int) (r:(List Int)),K eY carry x2=some r->∀ E,aP E 0->ay Tryz.prog E 158 67 (aQ E [] (bD r)) [.code (VI 119604),.inLoop (VI 119604),.inBlock 2,.code (VI 14951),.inBlock 1,.code (VI 935),.inLoop (VI 116),.inBlock 0,.code (VI 15)] ⟨[(1,(bw b)),(5,(lN eY)),(6,(aI x)),(7,(Zk (xH a x))),(8,(JS carry)),(17,(bw a)),(18,(yV a)),(19,(aI x)),(24,(bw b)),(25,(yV b)),(26,(aI x2))],[(0,aU eY)],1⟩
theorem Nz (N:Nat) (a:List Int) (b:List Int) (x:Int) (qO:(List Int)->Int->Option l8) (NA:Fv N a b qO) (fuel:Nat):QB N a b x (nz N a b x qO fuel):=by
 induction fuel with
 | zero=>intro _ _ _ r h;rw [nz.eq_1] at h;cases h
 | succ fuel ih =>
  intro eY carry x2 r h E hE
  rw [nz.eq_2] at h
  refine aj hE 1 (kp [1,5,6,7,8,17,18,19,24,25,26,27]) (kq [0]) 17 <| cx 1 27 h (fun gX h=>?_) (fun gX h=>?_)
  ·obtain ⟨c3,h⟩:=ae h
   refine cd hE 4 (kp [1,5,6,7,8,9,10,17,18,19,24,25,26]) (kq [0]) 97 (pc c3 pn) ?_
   obtain ⟨c4,h⟩:=ae h
   refine cd hE 1 (kp [1,5,6,7,8,9,17,18,19,24,25,26]) (kq [0]) 353 (pc c4 (pc (dV c4) pn)) <| cd hE 1 (kp [1] ++ [(5,.lx ((alC eY x x2 carry a b).length))] ++ kp [6,7,8,17,18,19,24,25,26]) [(0,pY 0 (cU .u16) 0 (alC eY x x2 carry a b))] 481 (pc c4 (pc (dV c4) (pc (az eY (tl x x2) (ZG carry a x b x2 eY)) (pc (az eY (tl x x2) (ZG carry a x b x2 eY)) (pc (cF (cU .u16) 0 eY (tl x x2) (ZG carry a x b x2 eY)) pn))))) <| cd hE 0 Qg (kq [0]) 529 (pc (show (0:Int)<=16 by decide) pn) <| aj hE 1 Qg (kq [0]) 561 <| cy hE 1 Qg (kq [0]) 1 (ih _ _ _ _ h E hE)
  ·obtain ⟨c5,h⟩:=ae h
   refine cd hE 1 (kp [1] ++ [(5,.lx ((eY.set (Xy x b) (Fa carry)).length))] ++ kp [17,18,19]) [(0,pY 0 (cU .u16) 0 (eY.set (Xy x b) (Fa carry)))] 161 (pc c5 (pc (dV c5) (pc (az eY (Xy x b) (Fa carry)) (pc (az eY (Xy x b) (Fa carry)) (pc (cF (cU .u16) 0 eY (Xy x b) (Fa carry)) pn))))) <| aj hE 1 Vn (kq [0]) 193 <| cy hE 1 Vn (kq [0]) 1 (NA _ _ _ h E hE)
theorem NB (N a b fuel):Fv N a b (nA N a b fuel):=by
 induction fuel with
 | zero=>intro _ _ r h;rw [nA.eq_1] at h;cases h
 | succ fuel ih =>
  intro out x r h E hE
  rw [nA.eq_2] at h
  refine aj hE 1 (kp [1,5,17,18,19,20]) (kq [0]) 17 <| cx 1 20 h (fun cP h=>?_) (fun cP h=>?_)
  ·obtain ⟨c2,h⟩:=ae h
   refine cd hE 4 (kp [1,5,6,7,17,18,19]) (kq [0]) 97 (pc c2 pn) <| aj hE 1 (kp [1,5,6,7,8,17,18,19]) (kq [0]) 113 <| aj hE 2 Qg (kq [0]) 161 <| cy hE 2 Qg (kq [0]) 1 (Nz N _ _ _ _ ih N _ _ _ _ h E hE)
  ·obtain ⟨bJ,hr,h⟩:=ax h
   refine bc hE 2 [(1,⟨[],true,(bD bJ),[],0,true,none⟩)] (kp [4]) [] 65 (pc (ca _ _ _ hr) (pc (z1 out.length) pn)) ?_
   obtain rfl:=kR h
   exact fw hE 0 Tryz.f158 (kp [4]) [] 65
theorem JZ (N a b r) (h:yq N a b=some r):Sd 158 [(bw a),(bw b)] [] 0 (bD r) []:=by
 unfold yq at h
 refine sO Tryz.f158 67 fun E hE=>?_
 refine aj hE 1 (kp [0,1]) [] 16 ?_
 obtain ⟨c,h⟩:=ae h
 refine cd hE 1 (kp [0,1] ++ [(5,.lx ((agp a b).length))]) [(96,pY 96 (cU .u16) 0 (agp a b))] 128 (pc c.1 (pc (Int.le_refl (Zx a b)) (pc c.2.1 (pc c.2.2 (pc (lR (age a b) (0:Int)) (pc (lR (age a b) (0:Int)) (pc (ru (cU .u16) 0 0 (age a b)) pn))))))) <| aj hE 2 Vn (kq [96]) 176 <| cy hE 2 Vn [(0,.af 96)] 1 (NB N _ _ N _ _ _ h E hE)
theorem tv (N a b r) (h:rz N a b=some r):Sd 138 [(ba a),(ba b)] [] 0 (ba r) []:=by
 unfold rz at h
 refine sO Tryz.f138 18 fun E hE=>?_
 refine aj hE 1 kg cC 48 ?_
 obtain ⟨bJ,hr,h⟩:=ax h
 obtain ⟨fJ,dy,h⟩:=ax h
 obtain ⟨qu,ia,h⟩:=ax h
 obtain ⟨yp,kT,h⟩:=ax h
 refine bc hE 1 [(7,oT (bD bJ)),(10,oT (bD fJ)),(11,oT (bD qu)),(12,oT (ba yp))] (kp [4]) (kq [32]) 272 (pc o1 (pc o1 (pc o1 (pc (ca _ _ _ hr) (pc o1 (pc (ca _ _ _ dy) (pc (JZ _ _ _ _ ia) (pc (l9 _ _ _ _ kT) (pc o1 pn))))))))) ?_
 obtain rfl:=kR h
 exact jn hE 0 Tryz.f138 [] (kp [4]) [(16,.af 32)] 272 pn [16] (pc o1 pn)
noncomputable abbrev R8:=bt Tryz.f155
def R9 (N:Nat) (K:(List Int)->(List Int)->Option l8):Prop:=∀ (a2:List Int) (b2:List Int) (r:(List Int)),K a2 b2=some r->∀ E,aP E 0->ay Tryz.prog E 155 56 (aQ E [] (bD r)) [.code (R8 14),.code (R8 15)] ⟨[(0,(bw a2)),(1,(bw b2))],[],0⟩
def HD (N:Nat) (a2:List Int) (b2:List Int) (K:(List Int)->Int->Int->Option l8):Prop:=∀ (out:List Int) (carry:Int) (x:Int) (r:(List Int)),K out carry x=some r->∀ E,aP E 0->ay Tryz.prog E 155 56 (aQ E [] (bD r)) [.code (R8 500),.inLoop (R8 500),.inBlock 0,.code (R8 63)] ⟨[(1,(bw b2)),(5,(lN out)),(6,(JS carry)),(20,(bw a2)),(21,(yV a2)),(22,(aI x))],[(0,aU out)],1⟩
def Sa (N:Nat) (a2:List Int) (b2:List Int) (out:List Int) (x:Int) (K:Int->Option l8):Prop:=∀ (kK:Int) (r:(List Int)),K kK=some r->∀ E,aP E 0->ay Tryz.prog E 155 56 (aQ E [] (bD r)) [.code (R8 128206),.code (R8 128207),.inBlock 1,.code (R8 4007),.inLoop (R8 500),.inBlock 0,.code (R8 63)] ⟨[(1,(bw b2)),(5,(lN out)),(6,(JS kK)),(20,(bw a2)),(21,(yV a2)),(22,(aI x))],[(0,aU out)],1⟩
theorem Fw (N:Nat) (a2:List Int) (b2:List Int) (out:List Int) (x:Int) (vR:(List Int)->Int->Int->Option l8) (QC:HD N a2 b2 vR):Sa N a2 b2 out x (tM N a2 b2 out x vR):=by
 intro kK r h E hE
 unfold tM at h
 obtain ⟨c4,h⟩:=ae h
 refine cd hE 0 (kp [1] ++ [(5,.lx ((abt out kK).length))] ++ kp [6,20,21,22]) [(65,pY 65 (cU .u16) 0 (abt out kK))] 97 (pc (Eq.refl out.length) (pc c4 (pc (z1 1) (pc (oN [[(abG kK)]]) (pc (bT out (Iy kK)) (pc (bT out (Iy kK)) (pc (Ta (cU .u16) 0 out (Iy kK)) pn))))))) <| cd hE 0 Fk (kq [65]) 145 (pc (show (0:Int)<=16 by decide) pn) <| aj hE 1 Fk (kq [65]) 177 <| cy hE 1 Fk [(0,.af 65)] 1 (QC _ _ _ _ h E hE)
theorem QD (N a2 b2 fuel):HD N a2 b2 (lW N a2 b2 fuel):=by
 induction fuel with
 | zero=>intro _ _ _ r h;rw [lW.eq_1] at h;cases h
 | succ fuel ih =>
  intro out carry x r h E hE
  rw [lW.eq_2] at h
  refine aj hE 1 (kp [1,5,6,20,21,22,23]) (kq [0]) 17 <| cx 1 23 h (fun gX h=>?_) (fun gX h=>?_)
  ·obtain ⟨c2,h⟩:=ae h
   refine cd hE 4 (kp [1,5,6,7,8,20,21,22]) (kq [0]) 97 (pc c2 pn) <| aj hE 1 (kp [1,5,6,7,20,21,22]) (kq [0]) 177 <| aj hE 2 (kp [1,5,6,7,20,21,22,34]) (kq [0]) 241 <| cx 0 34 h (fun sb h=>?_) (fun sb h=>?_)
   ·obtain ⟨c3,h⟩:=ae h
    refine cd hE 0 Fk (kq [0]) 369 (pc c3 pn) <| cy hE 1 Fk (kq [0]) 1 (Fw N _ _ _ _ _ ih _ _ h E hE)
   ·exact cy hE 2 Fk (kq [0]) 1 (Fw N _ _ _ _ _ ih _ _ h E hE)
  ·obtain ⟨c5,h⟩:=ae h
   obtain ⟨bJ,hr,h⟩:=ax h
   refine bc hE 2 [(5,⟨[],true,(bD bJ),[],0,true,none⟩)] (kp [4]) [] 129 (pc (Eq.refl out.length) (pc c5 (pc (z1 1) (pc (oN [[(abG carry)]]) (pc (show Sd 139 [(.sl (out.length+1) (fun zi=>((fun zm=>if zm < out.length then (fun zi=>(cU .u16) (out.getD zi 0)) zm else (fun zi=>([[(abG carry)]]:List (List AV)).getD zi []) (zm - out.length))) (bB 0 zi)))] [] 0 (bD bJ) [] from (Sound.conv (ca _ _ _ hr) (.cons (Alike.sl (wo rfl rfl) (Ta (cU .u16) 0 out (Iy carry))) .nil))) (pc (z1 (out.length+1)) pn)))))) ?_
   obtain rfl:=kR h
   exact fw hE 0 Tryz.f155 (kp [4]) [] 129
theorem Fx (N):R9 N (tN N):=by
 intro a2 b2 r h E hE
 unfold tN at h
 obtain ⟨c,h⟩:=ae h
 refine cd hE 0 (kp [0,1] ++ [(5,.lx ((List.replicate 0 0:List Int).length))]) [(48,pY 48 (cU .u16) 0 (List.replicate 0 0:List Int))] 80 (pc c.1 (pc c.2.2.2 (pc c.2.1 (pc c.2.2.1 (pc (lR 0 (0:Int)) (pc (lR 0 (0:Int)) (pc (ru (cU .u16) 0 0 0) pn))))))) <| aj hE 1 tq (kq [48]) 96 <| aj hE 2 Fk (kq [48]) 144 <| cy hE 2 Fk [(0,.af 48)] 1 (QD N _ _ N _ _ _ _ h E hE)
theorem Fy (N a b r) (h:yJ N a b=some r):Sd 155 [(bw a),(bw b)] [] 0 (bD r) []:=by
 unfold yJ at h
 refine sO Tryz.f155 56 fun E hE=>?_
 refine aj hE 1 (kp [0,1]) [] 16 <| aj hE 2 (kp [0,1,13]) [] 96 <| cx 0 13 h (fun cP h=>?_) (fun cP h=>?_)
 ·refine aj hE 0 (kp [0,1]) [] 160 <| cy hE 1 (kp [0,1]) [] 0 (Fx N _ _ _ h E hE)
 ·exact cy hE 2 (kp [0,1]) [] 0 (Fx N _ _ _ h E hE)
noncomputable abbrev NC:=bt Tryz.f157
def y6 (N:Nat) (a:List Int) (b:List Int) (K:(List Int)->Int->Int->Option l8):Prop:=∀ (out:List Int) (borrow:Int) (x:Int) (r:(List Int)),K out borrow x=some r->∀ E,aP E 0->ay Tryz.prog E 157 50 (aQ E [] (bD r)) [.code (NC 244),.inLoop (NC 244),.inBlock 0,.code (NC 31)] ⟨[(1,(bw b)),(5,(lN out)),(6,(JS borrow)),(13,(bw a)),(Ip a),(15,(aI x))],[(0,aU out)],1⟩
def QE (N:Nat) (a:List Int) (b:List Int) (out:List Int) (x:Int) (K:Int->Option l8):Prop:=∀ (y:Int) (r:(List Int)),K y=some r->∀ E,aP E 0->ay Tryz.prog E 157 50 (aQ E [] (bD r)) [.code (NC 62670),.code (NC 62671),.inBlock 1,.code (NC 1959),.inLoop (NC 244),.inBlock 0,.code (NC 31)] ⟨[(1,(bw b)),(5,(lN out)),(7,(aI x)),(8,(Zk (xH a x))),(9,(JS y)),(13,(bw a)),(Ip a),(15,(aI x))],[(0,aU out)],1⟩
def QF (N:Nat) (a:List Int) (b:List Int) (out:List Int) (x:Int) (y:Int) (K:Int->Option l8):Prop:=∀ (nB:Int) (r:(List Int)),K nB=some r->∀ E,aP E 0->ay Tryz.prog E 157 50 (aQ E [] (bD r)) [.code (NC 125343),.inBlock 1,.code (NC 1959),.inLoop (NC 244),.inBlock 0,.code (NC 31)] ⟨[(1,(bw b)),(5,(lN out)),(6,(JS nB)),(7,(aI x)),(8,(Zk (xH a x))),(9,(JS y)),(13,(bw a)),(Ip a),(15,(aI x))],[(0,aU out)],1⟩
theorem DL (N:Nat) (a:List Int) (b:List Int) (out:List Int) (x:Int) (y:Int) (iE:(List Int)->Int->Int->Option l8) (s8:y6 N a b iE):QF N a b out x y (rA N a b out x y iE):=by
 intro nB r h E hE
 unfold rA at h
 obtain ⟨c4,h⟩:=ae h
 refine cd hE 0 (kp [1] ++ [(5,.lx ((alA out x a nB y).length))] ++ kp [6,13,14,15]) [(0,pY 0 (cU .u16) 0 (alA out x a nB y))] 193 (pc (show (0:Int)<=16 by decide) (pc c4 (pc (dV c4) (pc (az out ((x).toNat) (ZH a x nB y)) (pc (az out ((x).toNat) (ZH a x nB y)) (pc (cF (cU .u16) 0 out ((x).toNat) (ZH a x nB y)) pn)))))) <| aj hE 1 Vo (kq [0]) 225 <| cy hE 1 Vo (kq [0]) 1 (s8 _ _ _ _ h E hE)
theorem DM (N:Nat) (a:List Int) (b:List Int) (out:List Int) (x:Int) (iE:(List Int)->Int->Int->Option l8) (s8:y6 N a b iE):QE N a b out x (rB N a b out x iE):=by
 intro y r h E hE
 unfold rB at h
 refine aj hE 0 Vp (kq [0]) 17 <| aj hE 2 (kp [1,5,6,7,8,9,13,14,15,35]) (kq [0]) 81 <| cx 0 35 h (fun sb h=>?_) (fun sb h=>?_)
 ·refine aj hE 0 Vp (kq [0]) 97 <| cy hE 0 Vp (kq [0]) 1 (DL N _ _ _ _ _ _ s8 _ _ h E hE)
 ·exact cy hE 1 Vp (kq [0]) 1 (DL N _ _ _ _ _ _ s8 _ _ h E hE)
theorem ND (N a b fuel):y6 N a b (jz N a b fuel):=by
 induction fuel with
 | zero=>intro _ _ _ r h;rw [jz.eq_1] at h;cases h
 | succ fuel ih =>
  intro out borrow x r h E hE
  rw [jz.eq_2] at h
  refine aj hE 1 (kp [1,5,6,13,14,15,16]) (kq [0]) 17 <| cx 1 16 h (fun cP h=>?_) (fun cP h=>?_)
  ·obtain ⟨c2,h⟩:=ae h
   refine cd hE 4 (kp [1,5,6,7,8,13,14,15]) (kq [0]) 97 (pc c2 pn) <| aj hE 1 Vr (kq [0]) 129 <| aj hE 2 (kp [1,5,7,8,9,13,14,15,24]) (kq [0]) 193 <| cx 0 24 h (fun gX h=>?_) (fun gX h=>?_)
   ·obtain ⟨c3,h⟩:=ae h
    refine cd hE 0 Vr (kq [0]) 321 (pc c3 pn) <| cy hE 1 Vr (kq [0]) 1 (DM N _ _ _ _ _ ih _ _ h E hE)
   ·exact cy hE 2 Vr (kq [0]) 1 (DM N _ _ _ _ _ ih _ _ h E hE)
  ·obtain ⟨bJ,hr,h⟩:=ax h
   refine bc hE 2 [(1,⟨[],true,(bD bJ),[],0,true,none⟩)] (kp [4]) [] 65 (pc (ca _ _ _ hr) (pc (z1 out.length) pn)) ?_
   obtain rfl:=kR h
   exact fw hE 0 Tryz.f157 (kp [4]) [] 65
theorem uD (N a b r) (h:tO N a b=some r):Sd 157 [(bw a),(bw b)] [] 0 (bD r) []:=by
 unfold tO at h
 refine sO Tryz.f157 50 fun E hE=>?_
 refine aj hE 1 (kp [0,1]) [] 16 ?_
 obtain ⟨c,h⟩:=ae h
 refine cd hE 1 (kp [0,1] ++ [(5,.lx (agc a))]) [(48,pY 48 (cU .u16) 0 (UL a))] 80 (pc c.1 (pc (Int.le_refl (Tn a)) (pc c.2.1 (pc c.2.2 (pc (lR a.length (0:Int)) (pc (lR a.length (0:Int)) (pc (ru (cU .u16) 0 0 a.length) pn))))))) <| aj hE 1 tq (kq [48]) 96 <| aj hE 2 Vo (kq [48]) 144 <| cy hE 2 Vo [(0,.af 48)] 1 (ND N _ _ N _ _ _ _ h E hE)
theorem aad (N a b r) (h:CI N a b=some r):Sd 137 [(ba a),(ba b)] [] 0 (ba r) []:=by
 unfold CI at h
 refine sO Tryz.f137 40 fun E hE=>?_
 refine aj hE 1 kg cC 48 ?_
 obtain ⟨bJ,hr,h⟩:=ax h
 obtain ⟨fJ,dy,h⟩:=ax h
 refine bc hE 1 [(2,oT (bD bJ)),(5,oT (bD fJ))] tu cC 176 (pc o1 (pc (ca _ _ _ hr) (pc o1 (pc (ca _ _ _ dy) pn)))) <| cd hE 2 ZY cC 256 (pc o1 (pc o1 pn)) <| cx 0 17 h (fun cP h=>?_) (fun cP h=>?_)
 ·obtain ⟨zW,ia,h⟩:=ax h
  obtain ⟨yp,kT,h⟩:=ax h
  refine bc hE 1 [(4,oT (bD zW)),(5,oT (ba yp))] (kp [4]) (kq [32]) 368 (pc o1 (pc (Fy _ _ _ _ ia) (pc (l9 _ _ _ _ kT) (pc o1 pn)))) ?_
  obtain rfl:=kR h
  exact jn hE 0 Tryz.f137 [] (kp [4]) [(16,.af 32)] 368 pn [16] (pc o1 pn)
 ·obtain ⟨jx,oW,h⟩:=ax h
  refine bc hE 3 [(2,oT (aI jx))] Z0 cC 320 (pc (uB _ _ _ _ oW) pn) <| cx 0 27 h (fun gX h=>?_) (fun gX h=>?_)
  ·obtain ⟨qP,vG,h⟩:=ax h
   obtain ⟨qt,x6,h⟩:=ax h
   refine bc hE 1 [(4,oT (bD qP)),(5,oT (ba qt))] (kp [4]) (kq [32]) 432 (pc o1 (pc (uD _ _ _ _ vG) (pc (l9 _ _ _ _ x6) (pc o1 pn)))) ?_
   obtain rfl:=kR h
   exact jn hE 0 Tryz.f137 [] (kp [4]) [(16,.af 32)] 432 pn [16] (pc o1 pn)
  ·obtain ⟨xU,IS,h⟩:=ax h
   obtain ⟨R4,IQ,h⟩:=ax h
   refine bc hE 2 [(4,oT (bD xU)),(5,oT (ba R4))] (kp [4]) (kq [32]) 432 (pc o1 (pc (uD _ _ _ _ IS) (pc (l9 _ _ _ _ IQ) (pc o1 pn)))) ?_
   obtain rfl:=kR h
   exact jn hE 0 Tryz.f137 [] (kp [4]) [(16,.af 32)] 432 pn [16] (pc o1 pn)
theorem qn (N x y r) (h:g8 N x y=some r):Sd 106 [(ao x),(ao y)] [] 0 (ao r) []:=by
 unfold g8 at h
 refine sO Tryz.f106 32 fun E hE=>?_
 refine aj hE 1 kg cC 48 ?_
 obtain ⟨eI,hr,h⟩:=ax h
 refine bc hE 2 [(1,oT (aB eI))] (kp [2,3,4,8]) cC 80 (pc o1 (pc (fV _ _ _ hr) pn)) <| cx 0 8 h (fun cP h=>?_) (fun cP h=>?_)
 ·obtain ⟨qB,dy,h⟩:=ax h
  refine bc hE 1 [(1,oT (ao qB))] (kp [4]) (kq [32]) 128 (pc o1 (pc (v5 _ _ _ dy) (pc o1 pn))) ?_
  obtain rfl:=kR h
  exact jn hE 0 Tryz.f106 [] (kp [4]) [(16,.af 32)] 128 pn [16] (pc o1 pn)
 ·obtain ⟨um,ia,h⟩:=ax h
  refine bc hE 3 [(1,oT (aB um))] (kp [2,3,4,12]) cC 112 (pc o1 (pc (fV _ _ _ ia) pn)) <| cx 0 12 h (fun gX h=>?_) (fun gX h=>?_)
  ·obtain ⟨jY,kT,h⟩:=ax h
   refine bc hE 1 [(1,oT (ao jY))] (kp [4]) (kq [32]) 160 (pc o1 (pc (v5 _ _ _ kT) (pc o1 pn))) ?_
   obtain rfl:=kR h
   exact jn hE 0 Tryz.f106 [] (kp [4]) [(16,.af 32)] 160 pn [16] (pc o1 pn)
  ·obtain ⟨gK,oW,h⟩:=ax h
   obtain ⟨mN,vG,h⟩:=ax h
   refine bc hE 2 [(1,oT (ba gK)),(3,oT (ba mN))] tu (kq [0,16,32,176,192]) 240 (pc o1 (pc (eP _ _ _ oW) (pc o1 (pc (eP _ _ _ vG) (pc o1 (pc o1 pn)))))) ?_
   obtain ⟨uq,x6,h⟩:=ax h
   obtain ⟨nC,IS,h⟩:=ax h
   obtain ⟨Uw,IQ,h⟩:=ax h
   obtain ⟨JK,Da,h⟩:=ax h
   obtain ⟨p6,IT,h⟩:=ax h
   refine bc hE 1 [(3,oT (ba uq)),(7,oT (ba nC)),(8,oT (ba Uw)),(11,oT (ba JK)),(12,oT (ao p6))] (kp [4]) (kq [32]) 464 (pc o1 (pc o1 (pc (tv _ _ _ _ x6) (pc o1 (pc o1 (pc (tv _ _ _ _ IS) (pc (aad _ _ _ _ IQ) (pc o1 (pc o1 (pc (tv _ _ _ _ Da) (pc (m9 _ _ _ _ IT) (pc o1 pn)))))))))))) ?_
   obtain rfl:=kR h
   exact jn hE 0 Tryz.f106 [] (kp [4]) [(16,.af 32)] 464 pn [16] (pc o1 pn)
theorem HE (N x y r) (h:qQ N x y=some r):Sd 64 [(ao x),(ao y)] [] 0 (ao r) []:=by
 unfold qQ at h
 refine sO Tryz.f64 9 fun E hE=>?_
 refine aj hE 1 kg cC 48 ?_
 obtain ⟨bO,hr,h⟩:=ax h
 obtain ⟨bQ,dy,h⟩:=ax h
 refine bc hE 1 [(2,oT (ao bO)),(3,oT (ao bQ))] (kp [4]) (kq [32]) 128 (pc o1 (pc o1 (pc (na _ _ _ hr) (pc (qn _ _ _ _ dy) (pc o1 pn))))) ?_
 obtain rfl:=kR h
 exact jn hE 0 Tryz.f64 [] (kp [4]) [(16,.af 32)] 128 pn [16] (pc o1 pn)
theorem HF (N x y r) (h:mn N x y=some r):Sd 94 [(ao x),(ao y)] [] 0 (aI r) []:=by
 unfold mn at h
 refine sO Tryz.f94 9 fun E hE=>?_
 refine aj hE 1 (kp [2,3]) fH 48 ?_
 obtain ⟨eJ,hr,h⟩:=ax h
 obtain ⟨bg,dy,h⟩:=ax h
 refine bc hE 1 [(2,oT (ao eJ)),(3,oT (aI bg))] (kp [4]) [] 128 (pc o1 (pc o1 (pc (HE _ _ _ _ hr) (pc (n9 _ _ _ dy) pn)))) ?_
 obtain rfl:=kR h
 exact fw hE 0 Tryz.f94 (kp [4]) [] 128
theorem z9 (N x y r) (h:qR N x y=some r):Sd 133 [(ao x),(ao y)] [] 0 (ao r) []:=by
 unfold qR at h
 refine sO Tryz.f133 16 fun E hE=>?_
 refine aj hE 1 kg cC 48 ?_
 obtain ⟨gK,hr,h⟩:=ax h
 obtain ⟨uq,dy,h⟩:=ax h
 obtain ⟨mN,ia,h⟩:=ax h
 obtain ⟨nC,kT,h⟩:=ax h
 obtain ⟨p6,oW,h⟩:=ax h
 refine bc hE 1 [(3,oT (ba gK)),(4,oT (ba uq)),(6,oT (ba mN)),(9,oT (ba nC)),(10,oT (ao p6))] (kp [4]) (kq [32]) 240 (pc o1 (pc o1 (pc (eP _ _ _ hr) (pc (tv _ _ _ _ dy) (pc o1 (pc (eP _ _ _ ia) (pc o1 (pc (tv _ _ _ _ kT) (pc (m9 _ _ _ _ oW) (pc o1 pn)))))))))) ?_
 obtain rfl:=kR h
 exact jn hE 0 Tryz.f133 [] (kp [4]) [(16,.af 32)] 240 pn [16] (pc o1 pn)
theorem oa (N x y r) (h:fq N x y=some r):Sd 107 [(ao x),(ao y)] [] 0 (ao r) []:=by
 unfold fq at h
 refine sO Tryz.f107 16 fun E hE=>?_
 refine aj hE 1 kg cC 48 ?_
 obtain ⟨uq,hr,h⟩:=ax h
 obtain ⟨gK,dy,h⟩:=ax h
 obtain ⟨mN,ia,h⟩:=ax h
 obtain ⟨nC,kT,h⟩:=ax h
 obtain ⟨p6,oW,h⟩:=ax h
 refine bc hE 1 [(4,oT (ba uq)),(6,oT (ba gK)),(8,oT (ba mN)),(9,oT (ba nC)),(10,oT (ao p6))] (kp [4]) (kq [32]) 240 (pc o1 (pc o1 (pc (tv _ _ _ _ hr) (pc o1 (pc (eP _ _ _ dy) (pc o1 (pc (eP _ _ _ ia) (pc (tv _ _ _ _ kT) (pc (m9 _ _ _ _ oW) (pc o1 pn)))))))))) ?_
 obtain rfl:=kR h
 exact jn hE 0 Tryz.f107 [] (kp [4]) [(16,.af 32)] 240 pn [16] (pc o1 pn)
noncomputable abbrev akj:=bt Tryz.f134
def wF (N:Nat) (j:Int) (f:aa) (C0:List aa) (K:aK->Int->Option E1):Prop:=∀ (bC:List aa) (x:Int) (r:aK),K bC x=some r->∀ E,aP E 1->ay Tryz.prog E 134 49 (aQ E [(AL r)] (.tup [])) [.code (akj 28),.inLoop (akj 28),.inBlock 0] ⟨[(1,(.os 0 0 bC.length)),(2,(.os 0 0 bC.length)),(3,(aI j)),(9,(.op 1 0 0)),(UU C0),(13,(aI x))],[(E4 bC),(1,vO 4 (xc f))],2⟩
def Fz (N:Nat) (j:Int) (f:aa) (C0:List aa) (x:Int) (K:aK->Option E1):Prop:=∀ (dk:List aa) (r:aK),K dk=some r->∀ E,aP E 1->ay Tryz.prog E 134 49 (aQ E [(AL r)] (.tup [])) [.code (akj 231),.inLoop (akj 28),.inBlock 0] ⟨[(1,(.os 0 0 dk.length)),(2,(.os 0 0 dk.length)),(3,(aI j)),(9,(.op 1 0 0)),(UU C0),(13,(aI x))],[(E4 dk),(1,vO 4 (xc f))],2⟩
theorem qw (N:Nat) (j:Int) (f:aa) (C0:List aa) (x:Int) (nD:aK->Int->Option E1) (D7:wF N j f C0 nD):Fz N j f C0 x (mo N j f C0 x nD):=by
 intro dk r h E hE
 unfold mo at h
 refine aj hE 0 uA (kq [0,1]) 34 <| cy hE 1 uA (kq [0,1]) 2 (D7 _ _ _ h E hE)
theorem D8 (N j f C0 fuel):wF N j f C0 (iS N j f C0 fuel):=by
 induction fuel with
 | zero=>intro _ _ r h;rw [iS.eq_1] at h;cases h
 | succ fuel ih =>
  intro bC x r h E hE
  rw [iS.eq_2] at h
  refine aj hE 1 (kp [1,2,3,9,12,13,14]) (kq [0,1]) 18 <| cx 1 14 h (fun cP h=>?_) (fun cP h=>?_)
  ·refine aj hE 4 (kp [1,2,3,9,10,12,13]) (kq [0,1]) 50 <| aj hE 1 (kp [1,2,3,9,10,12,13,18]) (kq [0,1]) 98 <| cx 0 18 h (fun gX h=>?_) (fun gX h=>?_)
   ·obtain ⟨c,h⟩:=ae h
    obtain ⟨aY,hr,h⟩:=ax h
    refine bc hE 0 [(7,oT (ao aY))] ([(1,.lx (wC bC x aY)),(2,.lx (wC bC x aY))] ++ kp [3,9,12,13]) ([(US bC x aY)] ++ kq [1]) 258 (pc o1 (pc c (pc (dV c) (pc (oa _ _ _ _ hr) (pc c (pc (dV c) (pc (az bC ((x).toNat) aY) (pc (az bC ((x).toNat) aY) (pc (az bC ((x).toNat) aY) (pc (cF eT aa.d bC ((x).toNat) aY) pn)))))))))) <| cy hE 1 uA (kq [0,1]) 2 (qw N _ _ _ _ _ ih _ _ h E hE)
   ·obtain ⟨c2,h⟩:=ae h
    obtain ⟨eI,dy,h⟩:=ax h
    refine bc hE 1 [(4,oT (aB eI))] (kp [1,2,3,9,10,12,13,33]) (kq [0,1]) 194 (pc c2 (pc (dV c2) (pc (fV _ _ _ dy) pn))) <| cx 0 33 h (fun sb h=>?_) (fun sb h=>?_)
    ·obtain ⟨gr,ia,h⟩:=ax h
     obtain ⟨bQ,kT,h⟩:=ax h
     refine bc hE 0 [(11,oT (ao gr)),(12,oT (ao bQ))] ([(1,.lx (wC bC x bQ)),(2,.lx (wC bC x bQ))] ++ kp [3,9,12,13]) ([(US bC x bQ)] ++ kq [1]) 434 (pc c2 (pc (dV c2) (pc o1 (pc c2 (pc (dV c2) (pc (oa _ _ _ _ ia) (pc (qn _ _ _ _ kT) (pc c2 (pc (dV c2) (pc (az bC ((x).toNat) bQ) (pc (az bC ((x).toNat) bQ) (pc (az bC ((x).toNat) bQ) (pc (cF eT aa.d bC ((x).toNat) bQ) pn))))))))))))) <| cy hE 1 uA (kq [0,1]) 2 (qw N _ _ _ _ _ ih _ _ h E hE)
    ·exact cy hE 2 uA (kq [0,1]) 2 (qw N _ _ _ _ _ ih _ _ h E hE)
  ·obtain rfl:=kR h
   exact rnF hE 1 Tryz.f134 [] [] (kq [0]) 49 pn [] pn
theorem IU (N j f C0 r) (h:wZ N j f C0=some r):Sd 134 [.rk,(.os 0 0 C0.length),(.os 0 0 C0.length),(aI j),(ao f)] [(E4 C0)] 1 (.tup []) [(AL r)]:=by
 unfold wZ at h
 refine sO Tryz.f134 49 fun E hE=>?_
 refine aj hE 1 (kp [1,2,3,9]) (kq [0,1]) 17 <| aj hE 1 uA (kq [0,1]) 65 <| cy hE 2 uA (kq [0,1]) 2 (D8 N _ _ _ N _ _ _ h E hE)
noncomputable abbrev akk:=bt Tryz.f134
def tT (N:Nat) (j:Int) (f:aa) (C0:List aa) (C1:List aa) (K:aK->Int->Option E1):Prop:=∀ (bC:List aa) (x:Int) (r:aK),K bC x=some r->∀ E,aP E 2->ay Tryz.prog E 134 49 (aQ E [(AL r),(vA C1)] (.tup [])) [.code (akk 28),.inLoop (akk 28),.inBlock 0] ⟨[(1,(.os 0 0 bC.length)),(2,(.os 1 0 C1.length)),(3,(aI j)),(9,(.op 2 0 0)),(UU C0),(13,(aI x))],[(E4 bC),(vA C1),(LC f)],3⟩
def BS (N:Nat) (j:Int) (f:aa) (C0:List aa) (C1:List aa) (x:Int) (K:aK->Option E1):Prop:=∀ (dk:List aa) (r:aK),K dk=some r->∀ E,aP E 2->ay Tryz.prog E 134 49 (aQ E [(AL r),(vA C1)] (.tup [])) [.code (akk 231),.inLoop (akk 28),.inBlock 0] ⟨[(1,(.os 0 0 dk.length)),(2,(.os 1 0 C1.length)),(3,(aI j)),(9,(.op 2 0 0)),(UU C0),(13,(aI x))],[(E4 dk),(vA C1),(LC f)],3⟩
theorem oc (N:Nat) (j:Int) (f:aa) (C0:List aa) (C1:List aa) (x:Int) (kX:aK->Int->Option E1) (AX:tT N j f C0 C1 kX):BS N j f C0 C1 x (iq N j f C0 C1 x kX):=by
 intro dk r h E hE
 unfold iq at h
 refine aj hE 0 uA cH 35 <| cy hE 1 uA cH 3 (AX _ _ _ h E hE)
theorem AY (N j f C0 C1 fuel):tT N j f C0 C1 (dB N j f C0 C1 fuel):=by
 induction fuel with
 | zero=>intro _ _ r h;rw [dB.eq_1] at h;cases h
 | succ fuel ih =>
  intro bC x r h E hE
  rw [dB.eq_2] at h
  refine aj hE 1 (kp [1,2,3,9,12,13,14]) cH 19 <| cx 1 14 h (fun cP h=>?_) (fun cP h=>?_)
  ·refine aj hE 4 (kp [1,2,3,9,10,12,13]) cH 51 <| aj hE 1 (kp [1,2,3,9,10,12,13,18]) cH 99 <| cx 0 18 h (fun gX h=>?_) (fun gX h=>?_)
   ·obtain ⟨c,h⟩:=ae h
    obtain ⟨aY,hr,h⟩:=ax h
    obtain ⟨c2,h⟩:=ae h
    refine bc hE 0 [(7,oT (ao aY))] ([(1,.lx (wC bC x aY))] ++ kp [2,3,9,12,13]) ([(US bC x aY)] ++ kq [1,2]) 259 (pc o1 (pc c (pc (dV c) (pc (oa _ _ _ _ hr) (pc c2 (pc (dV c2) (pc (az bC ((x).toNat) aY) (pc (az bC ((x).toNat) aY) (pc (cF eT aa.d bC ((x).toNat) aY) pn))))))))) <| cy hE 1 uA cH 3 (oc N _ _ _ _ _ _ ih _ _ h E hE)
   ·obtain ⟨c3,h⟩:=ae h
    obtain ⟨eI,dy,h⟩:=ax h
    refine bc hE 1 [(4,oT (aB eI))] (kp [1,2,3,9,10,12,13,33]) cH 195 (pc c3 (pc (dV c3) (pc (fV _ _ _ dy) pn))) <| cx 0 33 h (fun sb h=>?_) (fun sb h=>?_)
    ·obtain ⟨c4,h⟩:=ae h
     obtain ⟨gr,ia,h⟩:=ax h
     obtain ⟨bQ,kT,h⟩:=ax h
     refine bc hE 0 [(11,oT (ao gr)),(12,oT (ao bQ))] ([(1,.lx (wC bC x bQ))] ++ kp [2,3,9,12,13]) ([(US bC x bQ)] ++ kq [1,2]) 435 (pc c4 (pc (dV c4) (pc o1 (pc c3 (pc (dV c3) (pc (oa _ _ _ _ ia) (pc (qn _ _ _ _ kT) (pc c4 (pc (dV c4) (pc (az bC ((x).toNat) bQ) (pc (az bC ((x).toNat) bQ) (pc (cF eT aa.d bC ((x).toNat) bQ) pn)))))))))))) <| cy hE 1 uA cH 3 (oc N _ _ _ _ _ _ ih _ _ h E hE)
    ·exact cy hE 2 uA cH 3 (oc N _ _ _ _ _ _ ih _ _ h E hE)
  ·obtain rfl:=kR h
   exact rnF hE 1 Tryz.f134 [] [] (kq [0,1]) 50 pn [] pn
theorem qx (N j f C0 C1 r) (h:kb N j f C0 C1=some r):Sd 134 [.rk,(.os 0 0 C0.length),(.os 1 0 C1.length),(aI j),(ao f)] [(E4 C0),(vA C1)] 2 (.tup []) [(AL r),(vA C1)]:=by
 unfold kb at h
 refine sO Tryz.f134 49 fun E hE=>?_
 refine aj hE 1 (kp [1,2,3,9]) cH 18 <| aj hE 1 uA cH 66 <| cy hE 2 uA cH 3 (AY N _ _ _ _ N _ _ _ h E hE)
noncomputable abbrev L8:=bt Tryz.f99
def uE (N:Nat) (i:Int) (j:Int) (C0:Int) (bC:Int) (dk:Bool) (eb:List Int) (ek:Bool) (en:List Int) (dY:Int) (C1:List Int) (C2:List Int) (C3:List aK) (C4:List aa) (C5:List aa) (K:aK->Int->Option Iw):Prop:=∀ (w5:List aa) (x:Int) (r:ow×(List Int)×(List Int)×mF×aK×aK),K w5 x=some r->∀ E,aP E 6->ay Tryz.prog E 99 194 (aQ E [(0,vN 12 [(aI r.1.D2),(aI r.1.D3),(.os 1 0 r.2.1.length),(.os 2 0 r.2.2.1.length),(.os 3 0 r.2.2.2.1.length),(.os 4 0 r.2.2.2.2.1.length),(.os 5 0 r.2.2.2.2.2.length),(aB r.1.aJ.fN.fG),(CX r),(aB r.1.aJ.fD.fG),(CW r),(aI r.1.di)]),(1,aO 1 cI 0 r.2.1),(2,aO 1 cI 0 r.2.2.1),(CS r),(CT r),(CU r)] (.tup [])) [.code (L8 116),.inLoop (L8 116),.inBlock 0,.code (L8 15)] ⟨[(0,(.op 0 0 0)),(1,(aI i)),(2,(aI j)),(6,(.op 7 0 0)),(7,(pL w5)),(30,(aI (((mS C3 i).length:Nat):Int))),(31,(aI x))],[(gP C0 bC C1 C2 C3 C4 C5 dk eb ek en dY),(ey C1),(fF C2),(3,⟨false,1,C3.length,false,an [(cr i w5)] (ah C3)⟩),(eA C4),(gx C5),(tn w5),(7,vO 4 [(aB ((abw C3 i j).fG)),(eU ((abw C3 i j).fL)),(aB ((abv C3 i j).fG)),(eU ((abv C3 i j).fL))])],8⟩
def Db (N:Nat) (i:Int) (j:Int) (C0:Int) (bC:Int) (dk:Bool) (eb:List Int) (ek:Bool) (en:List Int) (dY:Int) (C1:List Int) (C2:List Int) (C3:List aK) (C4:List aa) (C5:List aa) (x:Int) (K:aK->Option Iw):Prop:=∀ (La:List aa) (r:ow×(List Int)×(List Int)×mF×aK×aK),K La=some r->∀ E,aP E 6->ay Tryz.prog E 99 194 (aQ E [(0,vN 12 [(aI r.1.D2),(aI r.1.D3),(.os 1 0 r.2.1.length),(.os 2 0 r.2.2.1.length),(.os 3 0 r.2.2.2.1.length),(.os 4 0 r.2.2.2.2.1.length),(.os 5 0 r.2.2.2.2.2.length),(aB r.1.aJ.fN.fG),(CX r),(aB r.1.aJ.fD.fG),(CW r),(aI r.1.di)]),(1,aO 1 cI 0 r.2.1),(2,aO 1 cI 0 r.2.2.1),(CS r),(CT r),(CU r)] (.tup [])) [.code (L8 935),.inLoop (L8 116),.inBlock 0,.code (L8 15)] ⟨[(0,(.op 0 0 0)),(1,(aI i)),(2,(aI j)),(6,(.op 7 0 0)),(7,(pL La)),(30,(aI (((mS C3 i).length:Nat):Int))),(31,(aI x))],[(gP C0 bC C1 C2 C3 C4 C5 dk eb ek en dY),(ey C1),(fF C2),(3,⟨false,1,C3.length,false,an [(cr i La)] (ah C3)⟩),(eA C4),(gx C5),(tn La),(7,vO 4 [(aB ((abw C3 i j).fG)),(eU ((abw C3 i j).fL)),(aB ((abv C3 i j).fG)),(eU ((abv C3 i j).fL))])],8⟩
theorem tU (N:Nat) (i:Int) (j:Int) (C0:Int) (bC:Int) (dk:Bool) (eb:List Int) (ek:Bool) (en:List Int) (dY:Int) (C1:List Int) (C2:List Int) (C3:List aK) (C4:List aa) (C5:List aa) (x:Int) (lK:aK->Int->Option Iw) (BT:uE N i j C0 bC dk eb ek en dY C1 C2 C3 C4 C5 lK):Db N i j C0 bC dk eb ek en dY C1 C2 C3 C4 C5 x (kL N i j C0 bC dk eb ek en dY C1 C2 C3 C4 C5 x lK):=by
 intro La r h E hE
 unfold kL at h
 refine cd hE 0 LJ (LX C3 i La) 40 (pc (Eq.refl C3.length) (pc (show ∀ zm,zm < C3.length->an [(cr i La)] (ah C3) zm=an [(cr i La)] (ah C3) zm from (fun _ _=>rfl)) (pc (show ∀ zm,zm < C3.length->dT ((ah C3) zm)=true from (fun _ _=>rfl)) pn))) <| rnW hE 1 [] LJ (LX C3 i La) 8 (pc (Eq.refl C3.length) (pc (show ∀ zm,zm < C3.length->an [(cr i La)] (ah C3) zm=an [(cr i La)] (ah C3) zm from (fun _ _=>rfl)) (pc (show ∀ zm,zm < C3.length->dT ((ah C3) zm)=true from (fun _ _=>rfl)) pn))) (BT _ _ _ h E hE)
def uF (N:Nat) (i:Int) (j:Int) (C0:Int) (bC:Int) (dk:Bool) (eb:List Int) (ek:Bool) (en:List Int) (dY:Int) (C1:List Int) (C2:List Int) (C3:List aK) (C5:List aa) (K:mF->aK->aK->Int->Option Iw):Prop:=∀ (bR:List aK) (bP:List aa) (tj:List aa) (x2:Int) (r:ow×(List Int)×(List Int)×mF×aK×aK),K bR bP tj x2=some r->∀ E,aP E 6->ay Tryz.prog E 99 194 (aQ E [(0,vN 12 [(aI r.1.D2),(aI r.1.D3),(.os 1 0 r.2.1.length),(.os 2 0 r.2.2.1.length),(.os 3 0 r.2.2.2.1.length),(.os 4 0 r.2.2.2.2.1.length),(.os 5 0 r.2.2.2.2.2.length),(aB r.1.aJ.fN.fG),(CX r),(aB r.1.aJ.fD.fG),(CW r),(aI r.1.di)]),(1,aO 1 cI 0 r.2.1),(2,aO 1 cI 0 r.2.2.1),(CS r),(CT r),(CU r)] (.tup [])) [.code (L8 1012),.inLoop (L8 1012),.inBlock 2,.code (L8 127)] ⟨[(0,(.op 0 0 0)),(1,(aI i)),(2,(aI j)),(7,(pL bP)),(74,(aI ((C3.length:Nat):Int))),(75,(aI x2))],[(gP C0 bC C1 C2 bR tj C5 dk eb ek en dY),(ey C1),(fF C2),(3,⟨false,1,bR.length,false,an [(cr i bP)] (ah bR)⟩),(eA tj),(gx C5),(tn bP)],7⟩
def Dc (N:Nat) (i:Int) (j:Int) (C0:Int) (bC:Int) (dk:Bool) (eb:List Int) (ek:Bool) (en:List Int) (dY:Int) (C1:List Int) (C2:List Int) (C3:List aK) (C5:List aa) (x2:Int) (K:mF->aK->aK->Option Iw):Prop:=∀ (mP:List aK) (Lb:List aa) (ur:List aa) (r:ow×(List Int)×(List Int)×mF×aK×aK),K mP Lb ur=some r->∀ E,aP E 6->ay Tryz.prog E 99 194 (aQ E [(0,vN 12 [(aI r.1.D2),(aI r.1.D3),(.os 1 0 r.2.1.length),(.os 2 0 r.2.2.1.length),(.os 3 0 r.2.2.2.1.length),(.os 4 0 r.2.2.2.2.1.length),(.os 5 0 r.2.2.2.2.2.length),(aB r.1.aJ.fN.fG),(CX r),(aB r.1.aJ.fD.fG),(CW r),(aI r.1.di)]),(1,aO 1 cI 0 r.2.1),(2,aO 1 cI 0 r.2.2.1),(CS r),(CT r),(CU r)] (.tup [])) [.code (L8 8103),.inLoop (L8 1012),.inBlock 2,.code (L8 127)] ⟨[(0,(.op 0 0 0)),(1,(aI i)),(2,(aI j)),(7,(pL Lb)),(74,(aI ((C3.length:Nat):Int))),(75,(aI x2))],[(gP C0 bC C1 C2 mP ur C5 dk eb ek en dY),(ey C1),(fF C2),(3,⟨false,1,mP.length,false,an [(cr i Lb)] (ah mP)⟩),(eA ur),(gx C5),(tn Lb)],7⟩
theorem je (N:Nat) (i:Int) (j:Int) (C0:Int) (bC:Int) (dk:Bool) (eb:List Int) (ek:Bool) (en:List Int) (dY:Int) (C1:List Int) (C2:List Int) (C3:List aK) (C5:List aa) (x2:Int) (lL:mF->aK->aK->Int->Option Iw) (BU:uF N i j C0 bC dk eb ek en dY C1 C2 C3 C5 lL):Dc N i j C0 bC dk eb ek en dY C1 C2 C3 C5 x2 (eK N i j C0 bC dk eb ek en dY C1 C2 C3 C5 x2 lL):=by
 intro mP Lb ur r h E hE
 unfold eK at h
 refine cd hE 0 vB (LY mP i Lb) 39 (pc (Eq.refl mP.length) (pc (show ∀ zm,zm < mP.length->an [(cr i Lb)] (ah mP) zm=an [(cr i Lb)] (ah mP) zm from (fun _ _=>rfl)) (pc (show ∀ zm,zm < mP.length->dT ((ah mP) zm)=true from (fun _ _=>rfl)) pn))) <| rnW hE 1 [] vB (LY mP i Lb) 7 (pc (Eq.refl mP.length) (pc (show ∀ zm,zm < mP.length->an [(cr i Lb)] (ah mP) zm=an [(cr i Lb)] (ah mP) zm from (fun _ _=>rfl)) (pc (show ∀ zm,zm < mP.length->dT ((ah mP) zm)=true from (fun _ _=>rfl)) pn))) (BU _ _ _ _ _ h E hE)
def Dd (N:Nat) (i:Int) (j:Int) (C0:Int) (bC:Int) (dY:Int) (C1:List Int) (C2:List Int) (bR:List aK) (bP:List aa) (tj:List aa) (K:aK->Bool->(List Int)->Bool->(List Int)->Option Iw):Prop:=∀ (gL:List aa) (uQ:Bool) (uR:List Int) (zE:Bool) (zF:List Int) (r:ow×(List Int)×(List Int)×mF×aK×aK),K gL uQ uR zE zF=some r->∀ E,aP E 6->ay Tryz.prog E 99 194 (aQ E [(0,vN 12 [(aI r.1.D2),(aI r.1.D3),(.os 1 0 r.2.1.length),(.os 2 0 r.2.2.1.length),(.os 3 0 r.2.2.2.1.length),(.os 4 0 r.2.2.2.2.1.length),(.os 5 0 r.2.2.2.2.2.length),(aB r.1.aJ.fN.fG),(CX r),(aB r.1.aJ.fD.fG),(CW r),(aI r.1.di)]),(1,aO 1 cI 0 r.2.1),(2,aO 1 cI 0 r.2.2.1),(CS r),(CT r),(CU r)] (.tup [])) [.code (L8 255)] ⟨[(0,(.op 0 0 0)),(1,(aI i)),(2,(aI j))],[(0,vN 12 [(aI C0),(aI bC),(rX C1),(AK C2),(.os 3 0 ((bR.set ((i).toNat) bP).length)),(xa tj),(Zz gL),(aB uQ),(bw uR),(aB zE),(bw zF),(aI dY)]),(ey C1),(fF C2),(3,aM 4 eT aa.d (bR.set ((i).toNat) bP)),(eA tj),(gx gL)],6⟩
theorem tV (N i j C0 bC dY C1 C2 bR bP tj):Dd N i j C0 bC dY C1 C2 bR bP tj (iX N i j C0 bC dY C1 C2 bR bP tj):=by
 intro gL uQ uR zE zF r h E hE
 unfold iX at h
 obtain ⟨c27,h⟩:=ae h
 obtain ⟨c28,h⟩:=ae h
 refine cd hE 0 [] ([(0,.var 0 [.af,.af,.lx ((C1.set ((i).toNat) (xH C2 j)).length),.lx ((C2.set ((j).toNat) (xH C1 i)).length),.af,.af,.af,.af,.af,.af,.af,.af]),(1,pY 1 cI 0 (C1.set ((i).toNat) (xH C2 j))),(2,pY 2 cI 0 (C2.set ((j).toNat) (xH C1 i)))] ++ kq [3,4,5]) 454 (pc o1 (pc o1 (pc o1 (pc c27 (pc (dV c27) (pc o1 (pc c28 (pc (dV c28) (pc c28 (pc (dV c28) (pc c27 (pc (dV c27) (pc (az C1 ((i).toNat) (xH C2 j)) (pc (az C2 ((j).toNat) (xH C1 i)) (pc (az C1 ((i).toNat) (xH C2 j)) (pc (cF cI 0 C1 ((i).toNat) (xH C2 j)) (pc (az C2 ((j).toNat) (xH C1 i)) (pc (cF cI 0 C2 ((j).toNat) (xH C1 i)) pn)))))))))))))))))) ?_
 cases h
 exact rnF hE 0 Tryz.f99 [] [] cY 454 pn [] pn
theorem BV (N i j C0 bC dk eb ek en dY C1 C2 C3 C5 fuel):uF N i j C0 bC dk eb ek en dY C1 C2 C3 C5 (cV N i j C0 bC dk eb ek en dY C1 C2 C3 C5 fuel):=by
 induction fuel with
 | zero=>intro _ _ _ _ r h;rw [cV.eq_1] at h;cases h
 | succ fuel ih =>
  intro bR bP tj x2 r h E hE
  rw [cV.eq_2] at h
  refine cd hE 1 (kp [0,1,2,7,74,75,76]) (LY bR i bP) 23 (pc (Eq.refl bR.length) (pc (show ∀ zm,zm < bR.length->an [(cr i bP)] (ah bR) zm=an [(cr i bP)] (ah bR) zm from (fun _ _=>rfl)) (pc (show ∀ zm,zm < bR.length->dT ((ah bR) zm)=true from (fun _ _=>rfl)) pn))) <| cx 1 76 h (fun sb h=>?_) (fun sb h=>?_)
  ·refine cd hE 4 (kp [0,1,2,7,9,74,75]) (LY bR i bP) 55 (pc (Eq.refl bR.length) (pc (show ∀ zm,zm < bR.length->an [(cr i bP)] (ah bR) zm=an [(cr i bP)] (ah bR) zm from (fun _ _=>rfl)) (pc (show ∀ zm,zm < bR.length->dT ((ah bR) zm)=true from (fun _ _=>rfl)) pn))) ?_
   rcases condSplit h with ⟨hA,h⟩ | ⟨hA,h⟩
   ·obtain ⟨c9,h⟩:=ae h
    obtain ⟨c10,h⟩:=ae h
    refine bc hE 1 [(6,oF (pL bP))] P3 (agO bR i bP) 247 (pc o1 (pc c9 (pc (dV c9) (pc (show (an [(cr i bP)] (ah bR) ((x2).toNat))[0]?=some (pL bP) from (gO (xM hA))) (pc c10 (pc (dV c10) (pc o1 (pc (Eq.refl bR.length) (pc (show ∀ zm,zm < bR.length->an [(cr i bP)] (ah bR) zm=an [(cr i bP)] (ah bR) zm from (fun _ _=>rfl)) (pc (show ∀ zm,zm < bR.length->dT ((ah bR) zm)=true from (fun _ _=>rfl)) pn)))))))))) ?_
    obtain ⟨eI,x6,h⟩:=ax h
    refine bc hE 1 [(5,oT (aB eI))] agC (agO bR i bP) 375 (pc (fun hg:(x2 != i)=true=>(pc o1 pn)) (pc (fun hg:(x2 != i)=true=>(pc (fV _ _ _ (aR x6 hg)) (pc hg pn))) (pc (fun hg:(x2 != i)=true=>(pc hg pn)) (pc (fun hq:(x2 != i)=true=>(pc hq pn)) (pc (Eq.refl bR.length) (pc (show ∀ zm,zm < bR.length->an [(cr i bP)] (ah bR) zm=an [(cr i bP)] (ah bR) zm from (fun _ _=>rfl)) (pc (show ∀ zm,zm < bR.length->dT ((ah bR) zm)=true from (fun _ _=>rfl)) pn))))))) <| cx 0 95 h (fun Ft h=>?_) (fun Ft h=>?_)
    ·obtain ⟨Tt,h⟩:=ae h
     obtain ⟨c12,h⟩:=ae h
     obtain ⟨aY,IS,h⟩:=ax h
     obtain ⟨bQ,IQ,h⟩:=ax h
     refine bc hE 1 [(20,oT (ao aY)),(21,oT (ao bQ))] P3 ([(0,.var 0 [.af,.af,.af,.af,.af,.lx (wC tj x2 bQ),.af,.af,.af,.af,.af,.af])] ++ kq [1,2] ++ [(3,.Cr 3 (bR.length) [(cr i bP)] (ah bR)),(4,pY 4 eT aa.d (tj.set ((x2).toNat) bQ))] ++ kq [5,6,215]) 759 (pc o1 (pc o1 (pc Tt (pc (dV Tt) (pc o1 (pc o1 (pc c12 (pc (dV c12) (pc (oa _ _ _ _ IS) (pc (qn _ _ _ _ IQ) (pc Tt (pc (dV Tt) (pc (az tj ((x2).toNat) bQ) (pc (Eq.refl bR.length) (pc (show ∀ zm,zm < bR.length->an [(cr i bP)] (ah bR) zm=an [(cr i bP)] (ah bR) zm from (fun _ _=>rfl)) (pc (show ∀ zm,zm < bR.length->dT ((ah bR) zm)=true from (fun _ _=>rfl)) (pc (az tj ((x2).toNat) bQ) (pc (cF eT aa.d tj ((x2).toNat) bQ) pn)))))))))))))))))) ?_
     rcases condSplit h with ⟨hA2,h⟩ | ⟨hA2,h⟩
     ·obtain ⟨Ps,Da,h⟩:=ax h
      obtain ⟨Wx,h⟩:=ae h
      refine bc hE 0 [(7,oF (pL bP)),(11,⟨[6],false,(.tup []),[(AL Ps)],0,false,none⟩)] (kp [0,1,2] ++ [(7,.lx (Ps.length))] ++ kp [74,75]) (agQ bR i Ps) 951 (pc o1 (pc c9 (pc (dV c9) (pc (show (an [(cr i bP)] (ah bR) ((x2).toNat))[0]?=some (pL bP) from (gO (xM hA2))) (pc o1 (pc (IU _ _ _ _ _ Da) (pc (show bP.length=Ps.length from (Eq.symm Wx)) (pc (Eq.refl bR.length) (pc (show ∀ zm,zm < bR.length->an [((i).toNat,6,Ps.length)] (ah bR) zm=an [(cr i bP)] (ah bR) zm from (fun zm _=>(congrArg (fun zn=>an [((i).toNat,6,zn)] (ah bR) zm) (Eq.symm (Eq.symm Wx))))) (pc (show ∀ zm,zm < bR.length->dT ((ah bR) zm)=true from (fun _ _=>rfl)) pn)))))))))) <| rnW hE 1 [] vB (agQ bR i Ps) 7 (pc (Eq.refl bR.length) (pc (show ∀ zm,zm < bR.length->an [((i).toNat,6,Ps.length)] (ah bR) zm=an [((i).toNat,6,Ps.length)] (ah bR) zm from (fun _ _=>rfl)) (pc (show ∀ zm,zm < bR.length->dT ((ah bR) zm)=true from (fun _ _=>rfl)) pn))) (je N _ _ _ _ _ _ _ _ _ _ _ _ _ _ _ ih _ _ _ _ h E hE)
     ·obtain ⟨c14,h⟩:=ae h
      refine rnO 3 ((x2).toNat) 4 (oQ bR x2) (CZ bR x2) (pc c14 (pc (show an [(cr i bP)] (ah bR) ((x2).toNat)=mR 4 eT aa.d (mS bR x2) from (if_neg (xN hA2))) pn)) ?_
      obtain ⟨o7,IT,h⟩:=ax h
      obtain ⟨c15,h⟩:=ae h
      refine bc hE 0 [(7,oF (.os 759 0 (oQ bR x2))),(11,⟨[759,6],false,(.tup []),[(AL o7),(vA bP)],0,false,none⟩)] vB (kq [0,1,2] ++ [(3,.Cr 3 (bR.length) [((x2).toNat,759,o7.length),(cr i bP)] (ah bR))] ++ kq [4,5,6,759]) 967 (pc o1 (pc c9 (pc (dV c9) (pc (show (an [((x2).toNat,759,(mS bR x2).length),(cr i bP)] (ah bR) ((x2).toNat))[0]?=some (.os 759 0 (oQ bR x2)) from (gO rfl)) (pc o1 (pc (qx _ _ _ _ _ _ IT) (pc (Eq.refl bR.length) (pc (show ∀ zm,zm < bR.length->an [((x2).toNat,759,o7.length),(cr i bP)] (ah bR) zm=an [((x2).toNat,759,(mS bR x2).length),(cr i bP)] (ah bR) zm from (fun zm _=>(congrArg (fun zn=>an [((x2).toNat,759,zn),(cr i bP)] (ah bR) zm) (Eq.symm (Eq.symm c15))))) (pc (show ∀ zm,zm < bR.length->dT ((ah bR) zm)=true from (fun _ _=>rfl)) pn))))))))) <| rnL 3 759 ((x2).toNat) (pc c14 (pc (show an [((x2).toNat,759,o7.length),(cr i bP)] (ah bR) ((x2).toNat)=[.os 759 0 o7.length] from if_pos rfl) (pc (show ∀ zj,zj < o7.length->oZ (eT (o7.getD zj aa.d))=true from fun _ _=>rfl) pn))) <| rnX hE [] vB ([(0,.var 0 [.af,.af,.af,.af,.lx ((bR.set ((x2).toNat) o7).length),.af,.af,.af,.af,.af,.af,.af])] ++ kq [1,2] ++ [(3,.Cr 3 ((bR.set ((x2).toNat) o7).length) [(cr i bP)] (AQ bR x2 o7))] ++ kq [4,5,6]) 967 (pc (az bR ((x2).toNat) o7) (pc (az bR ((x2).toNat) o7) (pc (JG (sz:=4) (c:=eT) (d:=aa.d) bR ((x2).toNat) 759 o7.length o7 [(cr i bP)] c14 (neC (Ne.symm (xN hA2)) Po)) (pc (show ∀ zm,zm < (bR.set ((x2).toNat) o7).length->dT ((AQ bR x2 o7) zm)=true from fun _ _=>rfl) pn)))) <| rnW hE 1 [] vB (agS bR x2 o7 i bP) 7 (pc (Eq.refl ((bR.set ((x2).toNat) o7).length)) (pc (show ∀ zm,zm < (bR.set ((x2).toNat) o7).length->an [(cr i bP)] (AQ bR x2 o7) zm=an [(cr i bP)] (AQ bR x2 o7) zm from (fun _ _=>rfl)) (pc (show ∀ zm,zm < (bR.set ((x2).toNat) o7).length->dT ((AQ bR x2 o7) zm)=true from (fun _ _=>rfl)) pn))) (je N _ _ _ _ _ _ _ _ _ _ _ _ _ _ _ ih _ _ _ _ h E hE)
    ·exact rnW hE 2 [] vB (LY bR i bP) 7 (pc (Eq.refl bR.length) (pc (show ∀ zm,zm < bR.length->an [(cr i bP)] (ah bR) zm=an [(cr i bP)] (ah bR) zm from (fun _ _=>rfl)) (pc (show ∀ zm,zm < bR.length->dT ((ah bR) zm)=true from (fun _ _=>rfl)) pn))) (je N _ _ _ _ _ _ _ _ _ _ _ _ _ _ _ ih _ _ _ _ h E hE)
   ·obtain ⟨c17,h⟩:=ae h
    refine rnO 3 ((x2).toNat) 4 (oQ bR x2) (CZ bR x2) (pc c17 (pc (show an [(cr i bP)] (ah bR) ((x2).toNat)=mR 4 eT aa.d (mS bR x2) from (if_neg (xN hA))) pn)) ?_
    obtain ⟨c18,h⟩:=ae h
    obtain ⟨c19,h⟩:=ae h
    refine bc hE 1 [(6,oF (Lv bR x2))] P3 (kq [0,1,2] ++ [(3,.Cr 3 (bR.length) [(Hz x2 bR),(cr i bP)] (ah bR))] ++ kq [4,5,6,55,231]) 263 (pc o1 (pc c18 (pc (dV c18) (pc (show (an [(Hz x2 bR),(cr i bP)] (ah bR) ((x2).toNat))[0]?=some (Lv bR x2) from (gO rfl)) (pc c19 (pc (dV c19) (pc o1 (pc (Eq.refl bR.length) (pc (show ∀ zm,zm < bR.length->an [(Hz x2 bR),(cr i bP)] (ah bR) zm=an [(Hz x2 bR),(cr i bP)] (ah bR) zm from (fun _ _=>rfl)) (pc (show ∀ zm,zm < bR.length->dT ((ah bR) zm)=true from (fun _ _=>rfl)) pn)))))))))) <| rnL 3 55 ((x2).toNat) (pc c17 (pc (show an [(Hz x2 bR),(cr i bP)] (ah bR) ((x2).toNat)=[.os 55 0 (mS bR x2).length] from if_pos rfl) (pc (show ∀ zj,zj < (mS bR x2).length->oZ (eT ((mS bR x2).getD zj aa.d))=true from fun _ _=>rfl) pn))) <| rnX hE [] P3 (agP bR i bP) 263 (pc (Eq.refl (bR.length)) (pc (Bw (sz:=4) (c:=eT) (d:=aa.d) bR ((x2).toNat) 55 (oQ bR x2) [(cr i bP)] (neC (Ne.symm (xN hA)) Po)) (pc (show ∀ zm,zm < bR.length->dT ((ah bR) zm)=true from fun _ _=>rfl) pn))) ?_
    obtain ⟨um,VJ,h⟩:=ax h
    refine bc hE 1 [(5,oT (aB um))] agC (agP bR i bP) 391 (pc (fun hg:(x2 != i)=true=>(pc o1 pn)) (pc (fun hg:(x2 != i)=true=>(pc (fV _ _ _ (aR VJ hg)) (pc hg pn))) (pc (fun hg:(x2 != i)=true=>(pc hg pn)) (pc (fun hq:(x2 != i)=true=>(pc hq pn)) (pc (Eq.refl bR.length) (pc (show ∀ zm,zm < bR.length->an [(cr i bP)] (ah bR) zm=an [(cr i bP)] (ah bR) zm from (fun _ _=>rfl)) (pc (show ∀ zm,zm < bR.length->dT ((ah bR) zm)=true from (fun _ _=>rfl)) pn))))))) <| cx 0 95 h (fun VE h=>?_) (fun VE h=>?_)
    ·obtain ⟨c20,h⟩:=ae h
     obtain ⟨c21,h⟩:=ae h
     obtain ⟨gr,VK,h⟩:=ax h
     obtain ⟨lz,aae,h⟩:=ax h
     refine bc hE 1 [(20,oT (ao gr)),(21,oT (ao lz))] P3 ([(0,.var 0 [.af,.af,.af,.af,.af,.lx (wC tj x2 lz),.af,.af,.af,.af,.af,.af])] ++ kq [1,2] ++ [(3,.Cr 3 (bR.length) [(cr i bP)] (ah bR)),(4,pY 4 eT aa.d (tj.set ((x2).toNat) lz))] ++ kq [5,6,231]) 775 (pc o1 (pc o1 (pc c20 (pc (dV c20) (pc o1 (pc o1 (pc c21 (pc (dV c21) (pc (oa _ _ _ _ VK) (pc (qn _ _ _ _ aae) (pc c20 (pc (dV c20) (pc (az tj ((x2).toNat) lz) (pc (Eq.refl bR.length) (pc (show ∀ zm,zm < bR.length->an [(cr i bP)] (ah bR) zm=an [(cr i bP)] (ah bR) zm from (fun _ _=>rfl)) (pc (show ∀ zm,zm < bR.length->dT ((ah bR) zm)=true from (fun _ _=>rfl)) (pc (az tj ((x2).toNat) lz) (pc (cF eT aa.d tj ((x2).toNat) lz) pn)))))))))))))))))) <| rnO 3 ((x2).toNat) 4 (oQ bR x2) (CZ bR x2) (pc c17 (pc (show an [(cr i bP)] (ah bR) ((x2).toNat)=mR 4 eT aa.d (mS bR x2) from (if_neg (xN hA))) pn)) ?_
     obtain ⟨o8,ag2,h⟩:=ax h
     obtain ⟨c22,h⟩:=ae h
     refine bc hE 0 [(7,oF (.os 775 0 (oQ bR x2))),(11,⟨[775,6],false,(.tup []),[(AL o8),(vA bP)],0,false,none⟩)] vB (kq [0,1,2] ++ [(3,.Cr 3 (bR.length) [((x2).toNat,775,o8.length),(cr i bP)] (ah bR))] ++ kq [4,5,6,775]) 983 (pc o1 (pc c18 (pc (dV c18) (pc (show (an [((x2).toNat,775,(mS bR x2).length),(cr i bP)] (ah bR) ((x2).toNat))[0]?=some (.os 775 0 (oQ bR x2)) from (gO rfl)) (pc o1 (pc (qx _ _ _ _ _ _ ag2) (pc (Eq.refl bR.length) (pc (show ∀ zm,zm < bR.length->an [((x2).toNat,775,o8.length),(cr i bP)] (ah bR) zm=an [((x2).toNat,775,(mS bR x2).length),(cr i bP)] (ah bR) zm from (fun zm _=>(congrArg (fun zn=>an [((x2).toNat,775,zn),(cr i bP)] (ah bR) zm) (Eq.symm (Eq.symm c22))))) (pc (show ∀ zm,zm < bR.length->dT ((ah bR) zm)=true from (fun _ _=>rfl)) pn))))))))) <| rnL 3 775 ((x2).toNat) (pc c17 (pc (show an [((x2).toNat,775,o8.length),(cr i bP)] (ah bR) ((x2).toNat)=[.os 775 0 o8.length] from if_pos rfl) (pc (show ∀ zj,zj < o8.length->oZ (eT (o8.getD zj aa.d))=true from fun _ _=>rfl) pn))) <| rnX hE [] vB ([(0,.var 0 [.af,.af,.af,.af,.lx ((bR.set ((x2).toNat) o8).length),.af,.af,.af,.af,.af,.af,.af])] ++ kq [1,2] ++ [(3,.Cr 3 ((bR.set ((x2).toNat) o8).length) [(cr i bP)] (AQ bR x2 o8))] ++ kq [4,5,6]) 983 (pc (az bR ((x2).toNat) o8) (pc (az bR ((x2).toNat) o8) (pc (JG (sz:=4) (c:=eT) (d:=aa.d) bR ((x2).toNat) 775 o8.length o8 [(cr i bP)] c17 (neC (Ne.symm (xN hA)) Po)) (pc (show ∀ zm,zm < (bR.set ((x2).toNat) o8).length->dT ((AQ bR x2 o8) zm)=true from fun _ _=>rfl) pn)))) <| rnW hE 1 [] vB (agS bR x2 o8 i bP) 7 (pc (Eq.refl ((bR.set ((x2).toNat) o8).length)) (pc (show ∀ zm,zm < (bR.set ((x2).toNat) o8).length->an [(cr i bP)] (AQ bR x2 o8) zm=an [(cr i bP)] (AQ bR x2 o8) zm from (fun _ _=>rfl)) (pc (show ∀ zm,zm < (bR.set ((x2).toNat) o8).length->dT ((AQ bR x2 o8) zm)=true from (fun _ _=>rfl)) pn))) (je N _ _ _ _ _ _ _ _ _ _ _ _ _ _ _ ih _ _ _ _ h E hE)
    ·exact rnW hE 2 [] vB (LY bR i bP) 7 (pc (Eq.refl bR.length) (pc (show ∀ zm,zm < bR.length->an [(cr i bP)] (ah bR) zm=an [(cr i bP)] (ah bR) zm from (fun _ _=>rfl)) (pc (show ∀ zm,zm < bR.length->dT ((ah bR) zm)=true from (fun _ _=>rfl)) pn))) (je N _ _ _ _ _ _ _ _ _ _ _ _ _ _ _ ih _ _ _ _ h E hE)
  ·obtain ⟨c23,h⟩:=ae h
   refine cd hE 3 (kp [0,1,2,7,11]) (Z6 bR i bP) 167 (pc o1 (pc c23 (pc (dV c23) (pc o1 (pc (Eq.refl bR.length) (pc (show ∀ zm,zm < bR.length->an [(cr i bP)] (ah bR) zm=an [(cr i bP)] (ah bR) zm from (fun _ _=>rfl)) (pc (show ∀ zm,zm < bR.length->dT ((ah bR) zm)=true from (fun _ _=>rfl)) pn))))))) ?_
   obtain ⟨Pt,ag3,h⟩:=ax h
   refine bc hE 1 [(1,oT (aB Pt))] (kp [0,1,2,7,11,141]) (Z6 bR i bP) 215 (pc o1 (pc (fV _ _ _ ag3) (pc (Eq.refl bR.length) (pc (show ∀ zm,zm < bR.length->an [(cr i bP)] (ah bR) zm=an [(cr i bP)] (ah bR) zm from (fun _ _=>rfl)) (pc (show ∀ zm,zm < bR.length->dT ((ah bR) zm)=true from (fun _ _=>rfl)) pn))))) <| cx 0 141 h (fun hq7 h=>?_) (fun hq7 h=>?_)
   ·obtain ⟨c24,h⟩:=ae h
    obtain ⟨yK,ana,h⟩:=ax h
    obtain ⟨sE,anb,h⟩:=ax h
    refine bc hE 1 [(13,oT (ao yK)),(14,oT (ao sE))] (kp [0,1,2,7,11]) (Z6 bR i bP) 503 (pc o1 (pc o1 (pc o1 (pc c24 (pc (dV c24) (pc (oa _ _ _ _ ana) (pc (qn _ _ _ _ anb) (pc o1 (pc (Eq.refl bR.length) (pc (show ∀ zm,zm < bR.length->an [(cr i bP)] (ah bR) zm=an [(cr i bP)] (ah bR) zm from (fun _ _=>rfl)) (pc (show ∀ zm,zm < bR.length->dT ((ah bR) zm)=true from (fun _ _=>rfl)) pn))))))))))) ?_
    obtain ⟨Tf,anc,h⟩:=ax h
    obtain ⟨c25,h⟩:=ae h
    refine bc hE 0 [(8,⟨[5,6],false,(.tup []),[(AL Tf),(vA bP)],0,false,none⟩)] vC ([(0,.var 0 [.af,.af,.af,.af,.af,.af,.lx (Tf.length),.af,.af,.af,.af,.af])] ++ kq [1,2] ++ [(3,.Cr 3 (bR.length) [(cr i bP)] (ah bR))] ++ kq [4,5,6]) 647 (pc o1 (pc o1 (pc (qx _ _ _ _ _ _ anc) (pc (show C5.length=Tf.length from (Eq.symm c25)) (pc (Eq.refl bR.length) (pc (show ∀ zm,zm < bR.length->an [(cr i bP)] (ah bR) zm=an [(cr i bP)] (ah bR) zm from (fun _ _=>rfl)) (pc (show ∀ zm,zm < bR.length->dT ((ah bR) zm)=true from (fun _ _=>rfl)) pn))))))) ?_
    obtain ⟨c26,h⟩:=ae h
    refine rnL 3 6 ((i).toNat) (pc c26 (pc (show an [(cr i bP)] (ah bR) ((i).toNat)=[.os 6 0 bP.length] from if_pos rfl) (pc (show ∀ zj,zj < bP.length->oZ (eT (bP.getD zj aa.d))=true from fun _ _=>rfl) pn))) <| rnX hE [] vC ([(0,.var 0 [.af,.af,.af,.af,.lx ((bR.set ((i).toNat) bP).length),.af,.af,.af,.af,.af,.af,.af])] ++ kq [1,2] ++ [(3,.Cr 3 ((bR.set ((i).toNat) bP).length) [] (Vb bR i bP))] ++ kq [4,5]) 647 (pc (az bR ((i).toNat) bP) (pc (az bR ((i).toNat) bP) (pc (JG (sz:=4) (c:=eT) (d:=aa.d) bR ((i).toNat) 6 bP.length bP [] c26 Po) (pc (show ∀ zm,zm < (bR.set ((i).toNat) bP).length->dT ((Vb bR i bP) zm)=true from fun _ _=>rfl) pn)))) <| cy hE 0 vC cY 6 (tV N _ _ _ _ _ _ _ _ _ _ _ _ _ _ _ _ h E hE)
   ·obtain ⟨c29,h⟩:=ae h
    refine rnL 3 6 ((i).toNat) (pc c29 (pc (show an [(cr i bP)] (ah bR) ((i).toNat)=[.os 6 0 bP.length] from if_pos rfl) (pc (show ∀ zj,zj < bP.length->oZ (eT (bP.getD zj aa.d))=true from fun _ _=>rfl) pn))) <| rnX hE [] vC ([(0,.var 0 [.af,.af,.af,.af,.lx ((bR.set ((i).toNat) bP).length),.af,.af,.af,.af,.af,.af,.af])] ++ kq [1,2] ++ [(3,.Cr 3 ((bR.set ((i).toNat) bP).length) [] (Vb bR i bP))] ++ kq [4,5,135]) 215 (pc (az bR ((i).toNat) bP) (pc (az bR ((i).toNat) bP) (pc (JG (sz:=4) (c:=eT) (d:=aa.d) bR ((i).toNat) 6 bP.length bP [] c29 Po) (pc (show ∀ zm,zm < (bR.set ((i).toNat) bP).length->dT ((Vb bR i bP) zm)=true from fun _ _=>rfl) pn)))) <| cy hE 1 vC cY 6 (tV N _ _ _ _ _ _ _ _ _ _ _ _ _ _ _ _ h E hE)
theorem BW (N i j C0 bC dk eb ek en dY C1 C2 C3 C4 C5 fuel):uE N i j C0 bC dk eb ek en dY C1 C2 C3 C4 C5 (eM N i j C0 bC dk eb ek en dY C1 C2 C3 C4 C5 fuel):=by
 induction fuel with
 | zero=>intro _ _ r h;rw [eM.eq_1] at h;cases h
 | succ fuel ih =>
  intro w5 x r h E hE
  rw [eM.eq_2] at h
  refine cd hE 1 (kp [0,1,2,6,7,30,31,32]) (LX C3 i w5) 24 (pc (Eq.refl C3.length) (pc (show ∀ zm,zm < C3.length->an [(cr i w5)] (ah C3) zm=an [(cr i w5)] (ah C3) zm from (fun _ _=>rfl)) (pc (show ∀ zm,zm < C3.length->dT ((ah C3) zm)=true from (fun _ _=>rfl)) pn))) <| cx 1 32 h (fun cP h=>?_) (fun cP h=>?_)
  ·refine cd hE 4 (kp [0,1,2,6,7,8,30,31]) (LX C3 i w5) 56 (pc (Eq.refl C3.length) (pc (show ∀ zm,zm < C3.length->an [(cr i w5)] (ah C3) zm=an [(cr i w5)] (ah C3) zm from (fun _ _=>rfl)) (pc (show ∀ zm,zm < C3.length->dT ((ah C3) zm)=true from (fun _ _=>rfl)) pn))) <| cd hE 1 (kp [0,1,2,6,7,8,30,31,36]) (LX C3 i w5) 104 (pc (Eq.refl C3.length) (pc (show ∀ zm,zm < C3.length->an [(cr i w5)] (ah C3) zm=an [(cr i w5)] (ah C3) zm from (fun _ _=>rfl)) (pc (show ∀ zm,zm < C3.length->dT ((ah C3) zm)=true from (fun _ _=>rfl)) pn))) <| cx 0 36 h (fun gX h=>?_) (fun gX h=>?_)
   ·obtain ⟨c5,h⟩:=ae h
    obtain ⟨ko,hr,h⟩:=ax h
    obtain ⟨bO,dy,h⟩:=ax h
    refine bc hE 0 [(7,oT (ao ko)),(8,oT (ao bO))] (kp [0,1,2,6] ++ [(7,.lx (wC w5 x bO))] ++ kp [30,31]) (agR C3 i w5 x bO) 280 (pc c5 (pc (dV c5) (pc o1 (pc (z9 _ _ _ _ hr) (pc (na _ _ _ dy) (pc c5 (pc (dV c5) (pc (az w5 ((x).toNat) bO) (pc (Eq.refl C3.length) (pc (show ∀ zm,zm < C3.length->an [(z6 i w5 x bO)] (ah C3) zm=an [(cr i w5)] (ah C3) zm from (fun zm _=>(congrArg (fun zn=>an [((i).toNat,6,zn)] (ah C3) zm) (Eq.symm (kH rfl))))) (pc (show ∀ zm,zm < C3.length->dT ((ah C3) zm)=true from (fun _ _=>rfl)) (pc (az w5 ((x).toNat) bO) (pc (cF eT aa.d w5 ((x).toNat) bO) pn))))))))))))) <| rnW hE 1 [] LJ (kq [0,1,2] ++ [(3,.Cr 3 (C3.length) [(z6 i w5 x bO)] (ah C3))] ++ kq [4,5,6,7]) 8 (pc (Eq.refl C3.length) (pc (show ∀ zm,zm < C3.length->an [(z6 i w5 x bO)] (ah C3) zm=an [(z6 i w5 x bO)] (ah C3) zm from (fun _ _=>rfl)) (pc (show ∀ zm,zm < C3.length->dT ((ah C3) zm)=true from (fun _ _=>rfl)) pn))) (tU N _ _ _ _ _ _ _ _ _ _ _ _ _ _ _ _ ih _ _ h E hE)
   ·exact rnW hE 2 [] LJ (LX C3 i w5) 8 (pc (Eq.refl C3.length) (pc (show ∀ zm,zm < C3.length->an [(cr i w5)] (ah C3) zm=an [(cr i w5)] (ah C3) zm from (fun _ _=>rfl)) (pc (show ∀ zm,zm < C3.length->dT ((ah C3) zm)=true from (fun _ _=>rfl)) pn))) (tU N _ _ _ _ _ _ _ _ _ _ _ _ _ _ _ _ ih _ _ h E hE)
  ·obtain ⟨aw,ia,h⟩:=ax h
   obtain ⟨mV,kT,h⟩:=ax h
   obtain ⟨c6,h⟩:=ae h
   refine bc hE 2 [(2,oT (ao aw)),(4,oT (ao mV))] (kp [0,1,2,6] ++ [(7,.lx (wC w5 j mV))]) (agR C3 i w5 j mV) 136 (pc (ju _ _ _ ia) (pc o1 (pc (z9 _ _ _ _ kT) (pc c6 (pc (dV c6) (pc (az w5 ((j).toNat) mV) (pc (Eq.refl C3.length) (pc (show ∀ zm,zm < C3.length->an [(z6 i w5 j mV)] (ah C3) zm=an [(cr i w5)] (ah C3) zm from (fun zm _=>(congrArg (fun zn=>an [((i).toNat,6,zn)] (ah C3) zm) (Eq.symm (kH rfl))))) (pc (show ∀ zm,zm < C3.length->dT ((ah C3) zm)=true from (fun _ _=>rfl)) (pc (az w5 ((j).toNat) mV) (pc (cF eT aa.d w5 ((j).toNat) mV) pn))))))))))) ?_
   obtain ⟨c7,h⟩:=ae h
   obtain ⟨Zd,oW,h⟩:=ax h
   obtain ⟨qS,vG,h⟩:=ax h
   refine bc hE 1 [(13,oT (ao Zd)),(14,oT (ao qS))] P4 ([(0,.var 0 [.af,.af,.af,.af,.af,.lx (wC C4 i qS),.af,.af,.af,.af,.af,.af])] ++ kq [1,2] ++ [(3,.Cr 3 (C3.length) [(z6 i w5 j mV)] (ah C3)),(4,pY 4 eT aa.d (C4.set ((i).toNat) qS))] ++ kq [5,6]) 408 (pc o1 (pc o1 (pc c7 (pc (dV c7) (pc o1 (pc (z9 _ _ _ _ oW) (pc (na _ _ _ vG) (pc c7 (pc (dV c7) (pc (az C4 ((i).toNat) qS) (pc (Eq.refl C3.length) (pc (show ∀ zm,zm < C3.length->an [(z6 i w5 j mV)] (ah C3) zm=an [(z6 i w5 j mV)] (ah C3) zm from (fun _ _=>rfl)) (pc (show ∀ zm,zm < C3.length->dT ((ah C3) zm)=true from (fun _ _=>rfl)) (pc (az C4 ((i).toNat) qS) (pc (cF eT aa.d C4 ((i).toNat) qS) pn))))))))))))))) <| cd hE 2 vB (kq [0,1,2] ++ [(3,.Cr 3 (C3.length) [(z6 i w5 j mV)] (ah C3))] ++ kq [4,5,6]) 504 (pc o1 (pc (Eq.refl C3.length) (pc (show ∀ zm,zm < C3.length->an [(z6 i w5 j mV)] (ah C3) zm=an [(z6 i w5 j mV)] (ah C3) zm from (fun _ _=>rfl)) (pc (show ∀ zm,zm < C3.length->dT ((ah C3) zm)=true from (fun _ _=>rfl)) pn)))) <| rnW hE 2 [] vB (kq [0,1,2] ++ [(3,.Cr 3 (C3.length) [(z6 i w5 j mV)] (ah C3))] ++ kq [4,5,6]) 7 (pc (Eq.refl C3.length) (pc (show ∀ zm,zm < C3.length->an [(z6 i w5 j mV)] (ah C3) zm=an [(z6 i w5 j mV)] (ah C3) zm from (fun _ _=>rfl)) (pc (show ∀ zm,zm < C3.length->dT ((ah C3) zm)=true from (fun _ _=>rfl)) pn))) (BV N _ _ _ _ _ _ _ _ _ _ _ _ _ N _ _ _ _ _ h E hE)
theorem ra (N i j C0 bC dk eb ek en dY C1 C2 C3 C4 C5 r) (h:kY N i j C0 bC dk eb ek en dY C1 C2 C3 C4 C5=some r):Sd 99 [(.op 0 0 0),(aI i),(aI j)] [(gP C0 bC C1 C2 C3 C4 C5 dk eb ek en dY),(ey C1),(fF C2),(fx C3),(eA C4),(gx C5)] 6 (.tup []) [(0,vN 12 [(aI r.1.D2),(aI r.1.D3),(.os 1 0 r.2.1.length),(.os 2 0 r.2.2.1.length),(.os 3 0 r.2.2.2.1.length),(.os 4 0 r.2.2.2.2.1.length),(.os 5 0 r.2.2.2.2.2.length),(aB r.1.aJ.fN.fG),(CX r),(aB r.1.aJ.fD.fG),(CW r),(aI r.1.di)]),(1,aO 1 cI 0 r.2.1),(2,aO 1 cI 0 r.2.2.1),(CS r),(CT r),(CU r)]:=by
 unfold kY at h
 refine sO Tryz.f99 194 fun E hE=>?_
 obtain ⟨c2,h⟩:=ae h
 refine rnO 3 ((i).toNat) 4 (oQ C3 i) (CZ C3 i) (pc c2 (pc (show an [] (ah C3) ((i).toNat)=mR 4 eT aa.d (mS C3 i) from rfl) pn)) ?_
 obtain ⟨c3,h⟩:=ae h
 obtain ⟨c4,h⟩:=ae h
 refine bc hE 1 [(6,oF (.os 6 0 (oQ C3 i)))] (kp [0,1,2,6]) (kq [0,1,2] ++ [(3,.Cr 3 (C3.length) [(Xx i C3)] (ah C3))] ++ kq [4,5,6,182]) 214 (pc o1 (pc c3 (pc (dV c3) (pc (show (an [(Xx i C3)] (ah C3) ((i).toNat))[0]?=some (.os 6 0 (oQ C3 i)) from (gO rfl)) (pc c4 (pc (dV c4) (pc o1 (pc (Eq.refl C3.length) (pc (show ∀ zm,zm < C3.length->an [(Xx i C3)] (ah C3) zm=an [(Xx i C3)] (ah C3) zm from (fun _ _=>rfl)) (pc (show ∀ zm,zm < C3.length->dT ((ah C3) zm)=true from (fun _ _=>rfl)) pn)))))))))) <| rnL 3 6 ((i).toNat) (pc c2 (pc (show an [(Xx i C3)] (ah C3) ((i).toNat)=[.os 6 0 (mS C3 i).length] from if_pos rfl) (pc (show ∀ zj,zj < (mS C3 i).length->oZ (eT ((mS C3 i).getD zj aa.d))=true from fun _ _=>rfl) pn))) <| rnX hE [] (kp [0,1,2,6]) (kq [0,1,2] ++ [(3,.Cr 3 (C3.length) [] (ah C3))] ++ kq [4,5,182]) 214 (pc (Eq.refl (C3.length)) (pc (Bw (sz:=4) (c:=eT) (d:=aa.d) C3 ((i).toNat) 6 (oQ C3 i) [] Po) (pc (show ∀ zm,zm < C3.length->dT ((ah C3) zm)=true from fun _ _=>rfl) pn))) <| rnO 3 ((i).toNat) 4 (oQ C3 i) (CZ C3 i) (pc c2 (pc (show an [] (ah C3) ((i).toNat)=mR 4 eT aa.d (mS C3 i) from rfl) pn)) <| bc hE 1 [(6,oF (.os 214 0 (oQ C3 i)))] (kp [0,1,2,6,7]) (agN C3 i) 358 (pc o1 (pc c3 (pc (dV c3) (pc (show (an [(MZ i C3)] (ah C3) ((i).toNat))[0]?=some (.os 214 0 (oQ C3 i)) from (gO rfl)) (pc (Eq.refl C3.length) (pc (show ∀ zm,zm < C3.length->an [(MZ i C3)] (ah C3) zm=an [(MZ i C3)] (ah C3) zm from (fun _ _=>rfl)) (pc (show ∀ zm,zm < C3.length->dT ((ah C3) zm)=true from (fun _ _=>rfl)) pn))))))) <| cd hE 2 LJ (agN C3 i) 406 (pc (Eq.refl C3.length) (pc (show ∀ zm,zm < C3.length->an [(MZ i C3)] (ah C3) zm=an [(MZ i C3)] (ah C3) zm from (fun _ _=>rfl)) (pc (show ∀ zm,zm < C3.length->dT ((ah C3) zm)=true from (fun _ _=>rfl)) pn))) <| rnW hE 2 [] LJ (kq [0,1,2] ++ [(3,.Cr 3 (C3.length) [(MZ i C3)] (ah C3))] ++ kq [4,5] ++ [(6,.af 214),(7,.af 182)]) 8 (pc (Eq.refl C3.length) (pc (show ∀ zm,zm < C3.length->an [(MZ i C3)] (ah C3) zm=an [(MZ i C3)] (ah C3) zm from (fun _ _=>rfl)) (pc (show ∀ zm,zm < C3.length->dT ((ah C3) zm)=true from (fun _ _=>rfl)) pn))) (BW N _ _ _ _ _ _ _ _ _ _ _ _ _ _ N _ _ _ h E hE)
noncomputable abbrev adn:=bt Tryz.f135
def rO (N:Nat) (C0:Int) (bC:Int) (dk:Bool) (eb:List Int) (ek:Bool) (en:List Int) (dY:Int) (C1:List Int) (C2:List Int) (C3:List aK) (C4:List aa) (C5:List aa) (K:Int->Int->Option (Int)):Prop:=∀ (eV:Int) (x:Int) (r:Int),K eV x=some r->∀ E,aP E 6->ay Tryz.prog E 135 46 (aQ E [(gP C0 bC C1 C2 C3 C4 C5 dk eb ek en dY),(ey C1),(fF C2),(fx C3),(eA C4),(gx C5)] (aI r)) [.code (adn 116),.inLoop (adn 116),.inBlock 0,.code (adn 15)] ⟨[(0,(.op 0 0 0)),(3,(aI eV)),(9,(yV C2)),(10,(aI x))],[(gP C0 bC C1 C2 C3 C4 C5 dk eb ek en dY),(ey C1),(fF C2),(fx C3),(eA C4),(gx C5)],6⟩
def zJ (N:Nat) (C0:Int) (bC:Int) (dk:Bool) (eb:List Int) (ek:Bool) (en:List Int) (dY:Int) (C1:List Int) (C2:List Int) (C3:List aK) (C4:List aa) (C5:List aa) (x:Int) (K:Int->Option (Int)):Prop:=∀ (EM:Int) (r:Int),K EM=some r->∀ E,aP E 6->ay Tryz.prog E 135 46 (aQ E [(gP C0 bC C1 C2 C3 C4 C5 dk eb ek en dY),(ey C1),(fF C2),(fx C3),(eA C4),(gx C5)] (aI r)) [.code (adn 935),.inLoop (adn 116),.inBlock 0,.code (adn 15)] ⟨[(0,(.op 0 0 0)),(3,(aI EM)),(9,(yV C2)),(10,(aI x))],[(gP C0 bC C1 C2 C3 C4 C5 dk eb ek en dY),(ey C1),(fF C2),(fx C3),(eA C4),(gx C5)],6⟩
theorem re (N:Nat) (C0:Int) (bC:Int) (dk:Bool) (eb:List Int) (ek:Bool) (en:List Int) (dY:Int) (C1:List Int) (C2:List Int) (C3:List aK) (C4:List aa) (C5:List aa) (x:Int) (jU:Int->Int->Option (Int)) (y7:rO N C0 bC dk eb ek en dY C1 C2 C3 C4 C5 jU):zJ N C0 bC dk eb ek en dY C1 C2 C3 C4 C5 x (iY N C0 bC dk eb ek en dY C1 C2 C3 C4 C5 x jU):=by
 intro EM r h E hE
 unfold iY at h
 refine aj hE 0 IJ cY 38 <| cy hE 1 IJ cY 6 (y7 _ _ _ h E hE)
theorem y8 (N C0 bC dk eb ek en dY C1 C2 C3 C4 C5 fuel):rO N C0 bC dk eb ek en dY C1 C2 C3 C4 C5 (b6 N C0 bC dk eb ek en dY C1 C2 C3 C4 C5 fuel):=by
 induction fuel with
 | zero=>intro _ _ r h;rw [b6.eq_1] at h;cases h
 | succ fuel ih =>
  intro eV x r h E hE
  rw [b6.eq_2] at h
  refine aj hE 1 (kp [0,3,9,10,11]) cY 22 <| cx 1 11 h (fun cP h=>?_) (fun cP h=>?_)
  ·refine aj hE 4 (kp [0,3,4,9,10]) cY 54 ?_
   obtain ⟨c,h⟩:=ae h
   obtain ⟨bg,hr,h⟩:=ax h
   obtain ⟨c2,h⟩:=ae h
   obtain ⟨c3,h⟩:=ae h
   refine bc hE 1 [(7,oT (aI bg))] (kp [0,3,4,9,10,42]) cY 534 (pc o1 (pc c (pc (dV c) (pc (n9 _ _ _ hr) (pc (fun hg:(r7 bg)=true=>(pc hg pn)) (pc (fun hg:(DF bg eV)=true=>(pc hg pn)) (pc (fun hg:(DF bg eV)=true=>(pc hg pn)) (pc (fun hg:(DF bg eV)=true=>(pc hg (pc o1 pn))) (pc (fun hg:(DF bg eV)=true=>(pc hg (pc hg (pc (c2 hg) pn)))) (pc (fun hg:(DF bg eV)=true=>(pc hg (pc (dV (c2 hg)) pn))) (pc (fun hg:(DF bg eV)=true=>(pc hg pn)) (pc (fun hg:(DF bg eV)=true=>(pc hg pn)) (pc (fun hg:(DF bg eV)=true=>(pc hg (pc o1 pn))) (pc (fun hg:(DF bg eV)=true=>(pc hg (pc hg (pc (c3 hg) pn)))) (pc (fun hg:(DF bg eV)=true=>(pc hg (pc (dV (c3 hg)) pn))) (pc (fun hg:(DF bg eV)=true=>(pc hg (pc hg pn))) (pc (fun hg:(r7 bg)=true=>(pc hg (pc hg (pc (fun hq:(w9 eV)=true=>(pc (show (DF bg eV)=true from (o5 hg (o5 hg hq))) pn)) pn)))) (pc (fun hq:(r7 bg)=true=>(pc hq pn)) pn)))))))))))))))))) <| cx 0 42 h (fun gX h=>?_) (fun gX h=>?_)
   ·refine aj hE 0 IJ cY 566 <| cy hE 1 IJ cY 6 (re N _ _ _ _ _ _ _ _ _ _ _ _ _ _ ih _ _ h E hE)
   ·exact cy hE 2 IJ cY 6 (re N _ _ _ _ _ _ _ _ _ _ _ _ _ _ ih _ _ h E hE)
  ·refine aj hE 2 (kp [2]) cY 54 ?_
   obtain rfl:=kR h
   exact fw hE 0 Tryz.f135 (kp [2]) cY 54
theorem BX (N C0 bC dk eb ek en dY C1 C2 C3 C4 C5 r) (h:nF N C0 bC dk eb ek en dY C1 C2 C3 C4 C5=some r):Sd 135 [(.op 0 0 0)] [(gP C0 bC C1 C2 C3 C4 C5 dk eb ek en dY),(ey C1),(fF C2),(fx C3),(eA C4),(gx C5)] 6 (aI r) [(gP C0 bC C1 C2 C3 C4 C5 dk eb ek en dY),(ey C1),(fF C2),(fx C3),(eA C4),(gx C5)]:=by
 unfold nF at h
 refine sO Tryz.f135 46 fun E hE=>?_
 refine aj hE 1 (kp [0]) cY 22 <| aj hE 1 (kp [0,3]) cY 38 <| cd hE 2 IJ cY 134 (pc o1 pn) <| cy hE 2 IJ cY 6 (y8 N _ _ _ _ _ _ _ _ _ _ _ _ N _ _ _ h E hE)
noncomputable abbrev QG:=bt Tryz.f136
def oe (N:Nat) (j:Int) (C0:Int) (bC:Int) (dk:Bool) (eb:List Int) (ek:Bool) (en:List Int) (dY:Int) (C1:List Int) (C2:List Int) (C3:List aK) (C4:List aa) (C5:List aa) (K:Int->aa->Int->Option (Int)):Prop:=∀ (eV:Int) (least:aa) (x:Int) (r:Int),K eV least x=some r->∀ E,aP E 6->ay Tryz.prog E 136 81 (aQ E [(gP C0 bC C1 C2 C3 C4 C5 dk eb ek en dY),(ey C1),(fF C2),(fx C3),(eA C4),(gx C5)] (aI r)) [.code (QG 244),.inLoop (QG 244),.inBlock 0,.code (QG 31)] ⟨[(0,(.op 0 0 0)),(1,(aI j)),(5,(aI eV)),(6,(.op 6 0 0)),(Ip C1),(15,(aI x))],[(gP C0 bC C1 C2 C3 C4 C5 dk eb ek en dY),(ey C1),(fF C2),(fx C3),(eA C4),(gx C5),(6,vO 4 (xc least))],7⟩
def AZ (N:Nat) (j:Int) (C0:Int) (bC:Int) (dk:Bool) (eb:List Int) (ek:Bool) (en:List Int) (dY:Int) (C1:List Int) (C2:List Int) (C3:List aK) (C4:List aa) (C5:List aa) (x:Int) (K:Int->aa->Option (Int)):Prop:=∀ (EM:Int) (Pu:aa) (r:Int),K EM Pu=some r->∀ E,aP E 6->ay Tryz.prog E 136 81 (aQ E [(gP C0 bC C1 C2 C3 C4 C5 dk eb ek en dY),(ey C1),(fF C2),(fx C3),(eA C4),(gx C5)] (aI r)) [.code (QG 1959),.inLoop (QG 244),.inBlock 0,.code (QG 31)] ⟨[(0,(.op 0 0 0)),(1,(aI j)),(5,(aI EM)),(6,(.op 6 0 0)),(Ip C1),(15,(aI x))],[(gP C0 bC C1 C2 C3 C4 C5 dk eb ek en dY),(ey C1),(fF C2),(fx C3),(eA C4),(gx C5),(6,vO 4 (xc Pu))],7⟩
theorem mY (N:Nat) (j:Int) (C0:Int) (bC:Int) (dk:Bool) (eb:List Int) (ek:Bool) (en:List Int) (dY:Int) (C1:List Int) (C2:List Int) (C3:List aK) (C4:List aa) (C5:List aa) (x:Int) (cJ:Int->aa->Int->Option (Int)) (jW:oe N j C0 bC dk eb ek en dY C1 C2 C3 C4 C5 cJ):AZ N j C0 bC dk eb ek en dY C1 C2 C3 C4 C5 x (fC N j C0 bC dk eb ek en dY C1 C2 C3 C4 C5 x cJ):=by
 intro EM Pu r h E hE
 unfold fC at h
 refine aj hE 0 Fh hO 39 <| cy hE 1 Fh hO 7 (jW _ _ _ _ h E hE)
def A1 (N:Nat) (j:Int) (C0:Int) (bC:Int) (dk:Bool) (eb:List Int) (ek:Bool) (en:List Int) (dY:Int) (C1:List Int) (C2:List Int) (C3:List aK) (C4:List aa) (C5:List aa) (eV:Int) (least:aa) (x:Int) (ko:aa) (K:Int->Option (Int)):Prop:=∀ (c7:Int) (r:Int),K c7=some r->∀ E,aP E 6->ay Tryz.prog E 136 81 (aQ E [(gP C0 bC C1 C2 C3 C4 C5 dk eb ek en dY),(ey C1),(fF C2),(fx C3),(eA C4),(gx C5)] (aI r)) [.code (QG 250686),.code (QG 250687),.inBlock 1,.code (QG 1959),.inLoop (QG 244),.inBlock 0,.code (QG 31)] ⟨[(0,(.op 0 0 0)),(1,(aI j)),(5,(aI eV)),(6,(.op 6 0 0)),(7,(aI x)),(8,(.op 7 0 0)),(9,(aI c7)),(Ip C1),(15,(aI x))],[(gP C0 bC C1 C2 C3 C4 C5 dk eb ek en dY),(ey C1),(fF C2),(fx C3),(eA C4),(gx C5),(6,vO 4 (xc least)),(7,vO 4 (xc ko))],8⟩
theorem rP (N:Nat) (j:Int) (C0:Int) (bC:Int) (dk:Bool) (eb:List Int) (ek:Bool) (en:List Int) (dY:Int) (C1:List Int) (C2:List Int) (C3:List aK) (C4:List aa) (C5:List aa) (eV:Int) (least:aa) (x:Int) (ko:aa) (cJ:Int->aa->Int->Option (Int)) (jW:oe N j C0 bC dk eb ek en dY C1 C2 C3 C4 C5 cJ):A1 N j C0 bC dk eb ek en dY C1 C2 C3 C4 C5 eV least x ko (gM N j C0 bC dk eb ek en dY C1 C2 C3 C4 C5 eV least x ko cJ):=by
 intro c7 r h E hE
 unfold gM at h
 obtain ⟨c8,h⟩:=ae h
 obtain ⟨c9,h⟩:=ae h
 refine cd hE 0 (kp [0,1,5,6,7,8,14,15,76]) (kq [0,1,2,3,4,5,6,7]) 376 (pc (fun hg:(w9 c7)=true=>(pc hg pn)) (pc (fun hg:(DD c7)=true=>(pc hg pn)) (pc (fun hg:(DD c7)=true=>(pc hg pn)) (pc (fun hg:(DD c7)=true=>(pc hg (pc o1 pn))) (pc (fun hg:(DD c7)=true=>(pc hg (pc hg (pc (c8 hg) pn)))) (pc (fun hg:(DD c7)=true=>(pc hg (pc (dV (c8 hg)) pn))) (pc (fun hg:(DD c7)=true=>(pc hg pn)) (pc (fun hg:(DD c7)=true=>(pc hg pn)) (pc (fun hg:(DD c7)=true=>(pc hg (pc o1 pn))) (pc (fun hg:(DD c7)=true=>(pc hg (pc hg (pc (c9 hg) pn)))) (pc (fun hg:(DD c7)=true=>(pc hg (pc (dV (c9 hg)) pn))) (pc (fun hg:(DD c7)=true=>(pc hg (pc hg pn))) (pc (fun hg:(w9 c7)=true=>(pc hg (pc hg (pc (fun hq:(c7 == 0)=true=>(pc (show (DD c7)=true from (o5 hg (o5 hg hq))) pn)) pn)))) (pc (fun hq:(w9 c7)=true=>(pc hq pn)) pn)))))))))))))) <| cx 0 76 h (fun Ft h=>?_) (fun Ft h=>?_)
 ·refine cd hE 0 Fh hO 440 (pc o1 (pc o1 pn)) <| cy hE 1 Fh hO 7 (mY N _ _ _ _ _ _ _ _ _ _ _ _ _ _ _ jW _ _ _ h E hE)
 ·exact cy hE 2 Fh hO 7 (mY N _ _ _ _ _ _ _ _ _ _ _ _ _ _ _ jW _ _ _ h E hE)
theorem zK (N j C0 bC dk eb ek en dY C1 C2 C3 C4 C5 fuel):oe N j C0 bC dk eb ek en dY C1 C2 C3 C4 C5 (cj N j C0 bC dk eb ek en dY C1 C2 C3 C4 C5 fuel):=by
 induction fuel with
 | zero=>intro _ _ _ r h;rw [cj.eq_1] at h;cases h
 | succ fuel ih =>
  intro eV least x r h E hE
  rw [cj.eq_2] at h
  refine aj hE 1 (kp [0,1,5,6,14,15,16]) hO 23 <| cx 1 16 h (fun cP h=>?_) (fun cP h=>?_)
  ·refine aj hE 4 (kp [0,1,5,6,7,14,15]) hO 55 ?_
   obtain ⟨c2,h⟩:=ae h
   refine rnO 3 ((x).toNat) 4 (oQ C3 x) (CZ C3 x) (pc c2 (pc (show an [] (ah C3) ((x).toNat)=mR 4 eT aa.d (mS C3 x) from rfl) pn)) ?_
   obtain ⟨c3,h⟩:=ae h
   obtain ⟨c4,h⟩:=ae h
   obtain ⟨bg,hr,h⟩:=ax h
   refine bc hE 2 [(6,oF (Lv C3 x)),(10,oT (aI bg))] (kp [0,1,5,6,7,14,15,29]) (kq [0,1,2] ++ [(3,.Cr 3 (C3.length) [(Hz x C3)] (ah C3))] ++ kq [4,5,6,55]) 263 (pc o1 (pc c3 (pc (dV c3) (pc (show (agZ x C3)[0]?=some (Lv C3 x) from (gO rfl)) (pc c4 (pc (dV c4) (pc (n9 _ _ _ hr) (pc (Eq.refl C3.length) (pc (show ∀ zm,zm < C3.length->an [(Hz x C3)] (ah C3) zm=an [(Hz x C3)] (ah C3) zm from (fun _ _=>rfl)) (pc (show ∀ zm,zm < C3.length->dT ((ah C3) zm)=true from (fun _ _=>rfl)) pn)))))))))) <| rnL 3 55 ((x).toNat) (pc c2 (pc (show an [(Hz x C3)] (ah C3) ((x).toNat)=[.os 55 0 (mS C3 x).length] from if_pos rfl) (pc (show ∀ zj,zj < (mS C3 x).length->oZ (eT ((mS C3 x).getD zj aa.d))=true from fun _ _=>rfl) pn))) <| rnX hE [] (kp [0,1,5,6,7,14,15,29]) (kq [0,1,2] ++ [(3,.Cr 3 (C3.length) [] (ah C3))] ++ kq [4,5,6]) 263 (pc (Eq.refl (C3.length)) (pc (Bw (sz:=4) (c:=eT) (d:=aa.d) C3 ((x).toNat) 55 (oQ C3 x) [] Po) (pc (show ∀ zm,zm < C3.length->dT ((ah C3) zm)=true from fun _ _=>rfl) pn))) <| cx 0 29 h (fun gX h=>?_) (fun gX h=>?_)
   ·exact cy hE 1 Fh hO 7 (mY N _ _ _ _ _ _ _ _ _ _ _ _ _ _ _ ih _ _ _ h E hE)
   ·refine rnO 3 ((x).toNat) 4 (oQ C3 x) (CZ C3 x) (pc c2 (pc (show an [] (ah C3) ((x).toNat)=mR 4 eT aa.d (mS C3 x) from rfl) pn)) ?_
    obtain ⟨c6,h⟩:=ae h
    obtain ⟨bO,dy,h⟩:=ax h
    obtain ⟨ko,ia,h⟩:=ax h
    refine bc hE 2 [(13,oF (.os 263 0 (oQ C3 x))),(17,oT (ao bO)),(18,oT (ao ko))] (kp [0,1,5,6,7,8,14,15]) (kq [0,1,2] ++ [(3,.Cr 3 (C3.length) [(Xw x C3)] (ah C3))] ++ kq [4,5,6,263,583]) 615 (pc o1 (pc c6 (pc (dV c6) (pc o1 (pc c3 (pc (dV c3) (pc (show (an [(Xw x C3)] (ah C3) ((x).toNat))[0]?=some (.os 263 0 (oQ C3 x)) from (gO rfl)) (pc c4 (pc (dV c4) (pc (na _ _ _ dy) (pc (z9 _ _ _ _ ia) (pc o1 (pc (Eq.refl C3.length) (pc (show ∀ zm,zm < C3.length->an [(Xw x C3)] (ah C3) zm=an [(Xw x C3)] (ah C3) zm from (fun _ _=>rfl)) (pc (show ∀ zm,zm < C3.length->dT ((ah C3) zm)=true from (fun _ _=>rfl)) pn))))))))))))))) <| rnL 3 263 ((x).toNat) (pc c2 (pc (show an [(Xw x C3)] (ah C3) ((x).toNat)=[.os 263 0 (mS C3 x).length] from if_pos rfl) (pc (show ∀ zj,zj < (mS C3 x).length->oZ (eT ((mS C3 x).getD zj aa.d))=true from fun _ _=>rfl) pn))) <| rnX hE [] (kp [0,1,5,6,7,8,14,15]) (kq [0,1,2] ++ [(3,.Cr 3 (C3.length) [] (ah C3))] ++ kq [4,5,6,583]) 615 (pc (Eq.refl (C3.length)) (pc (Bw (sz:=4) (c:=eT) (d:=aa.d) C3 ((x).toNat) 263 (oQ C3 x) [] Po) (pc (show ∀ zm,zm < C3.length->dT ((ah C3) zm)=true from fun _ _=>rfl) pn))) <| aj hE 1 Vd Z4 631 <| aj hE 2 (kp [0,1,5,6,7,8,9,14,15,50]) Z4 663 <| cx 0 50 h (fun sb h=>?_) (fun sb h=>?_)
    ·obtain ⟨pA,kT,h⟩:=ax h
     refine bc hE 0 [(2,oT (aI pA))] Vd Z4 727 (pc o1 (pc o1 (pc (HF _ _ _ _ kT) pn))) <| cy hE 1 Vd agI 8 (rP N _ _ _ _ _ _ _ _ _ _ _ _ _ _ _ _ _ _ ih _ _ h E hE)
    ·exact cy hE 2 Vd agI 8 (rP N _ _ _ _ _ _ _ _ _ _ _ _ _ _ _ _ _ _ ih _ _ h E hE)
  ·refine aj hE 2 (kp [4]) cY 55 ?_
   obtain rfl:=kR h
   exact fw hE 0 Tryz.f136 (kp [4]) cY 55
theorem De (N j C0 bC dk eb ek en dY C1 C2 C3 C4 C5 r) (h:oy N j C0 bC dk eb ek en dY C1 C2 C3 C4 C5=some r):Sd 136 [(.op 0 0 0),(aI j)] [(gP C0 bC C1 C2 C3 C4 C5 dk eb ek en dY),(ey C1),(fF C2),(fx C3),(eA C4),(gx C5)] 6 (aI r) [(gP C0 bC C1 C2 C3 C4 C5 dk eb ek en dY),(ey C1),(fF C2),(fx C3),(eA C4),(gx C5)]:=by
 unfold oy at h
 refine sO Tryz.f136 81 fun E hE=>?_
 refine aj hE 1 (kp [0,1]) cY 22 <| aj hE 1 r9 cY 38 <| aj hE 1 tq (kq [0,1,2,3,4,5,38]) 54 <| cd hE 2 Fh (kq [0,1,2,3,4,5,38]) 150 (pc o1 pn) <| rnW hE 2 [] Fh (kq [0,1,2,3,4,5] ++ [(6,.var 38 [.af,rM (cU .u16) 0 ([]:List Int),.af,rM (cU .u16) 0 ([]:List Int)])]) 7 (pc (Eq.refl 0) (pc (Eq.refl 0) pn)) (zK N _ _ _ _ _ _ _ _ _ _ _ _ _ N _ _ _ _ h E hE)
noncomputable abbrev apA:=bt Tryz.f100
def Df (N:Nat) (K:Int->Int->(List Int)->(List Int)->mF->aK->aK->Bool->(List Int)->Bool->(List Int)->Int->Option (Int×ow×(List Int)×(List Int)×mF×aK×aK)):Prop:=∀ (bR:Int) (tj:Int) (mP:List Int) (ur:List Int) (gL:List aK) (uQ:List aa) (uR:List aa) (zE:Bool) (zF:List Int) (G0:Bool) (G1:List Int) (EN:Int) (r:Int×ow×(List Int)×(List Int)×mF×aK×aK),K bR tj mP ur gL uQ uR zE zF G0 G1 EN=some r->∀ E,aP E 6->ay Tryz.prog E 100 19 (aQ E [(0,vN 12 [(aI r.2.1.D2),(aI r.2.1.D3),(.os 1 0 r.2.2.1.length),(.os 2 0 r.2.2.2.1.length),(.os 3 0 r.2.2.2.2.1.length),(.os 4 0 r.2.2.2.2.2.1.length),(.os 5 0 r.2.2.2.2.2.2.length),(aB r.2.1.aJ.fN.fG),(eU r.2.1.aJ.fN.fL),(aB r.2.1.aJ.fD.fG),(eU r.2.1.aJ.fD.fL),(aI r.2.1.di)]),(1,aO 1 cI 0 r.2.2.1),(2,aO 1 cI 0 r.2.2.2.1),(3,aM 4 eT aa.d r.2.2.2.2.1),(4,aO 4 eT aa.d r.2.2.2.2.2.1),(5,aO 4 eT aa.d r.2.2.2.2.2.2)] (aI r.1)) [.code (apA 12),.inLoop (apA 12),.inBlock 0] ⟨[(0,(.op 0 0 0))],[(gP bR tj mP ur gL uQ uR zE zF G0 G1 EN),(ey mP),(fF ur),(fx gL),(eA uQ),(gx uR)],6⟩
theorem BZ (N fuel):Df N (eN N fuel):=by
 induction fuel with
 | zero=>intro _ _ _ _ _ _ _ _ _ _ _ _ r h;rw [eN.eq_1] at h;cases h
 | succ fuel ih =>
  intro bR tj mP ur gL uQ uR zE zF G0 G1 EN r h E hE
  rw [eN.eq_2] at h
  obtain ⟨yr,hr,h⟩:=ax h
  refine bc hE 2 [(1,⟨[0,1,2,3,4,5],true,(aI yr),[],0,false,none⟩)] (kp [0,3]) cY 54 (pc (BX _ _ _ _ _ _ _ _ _ _ _ _ _ _ hr) (pc (show ∀ zm,zm < gL.length->dT ((ah gL) zm)=true from (fun _ _=>rfl)) pn)) <| aj hE 2 (kp [0,3,8]) cY 86 <| cx 0 8 h (fun cP h=>?_) (fun cP h=>?_)
  ·refine aj hE 1 (kp [2]) cY 102 ?_
   cases h
   exact fw hE 0 Tryz.f100 (kp [2]) cY 102
  ·obtain ⟨JL,dy,h⟩:=ax h
   refine bc hE 2 [(2,⟨[0,1,2,3,4,5],true,(aI JL),[],0,false,none⟩)] Qa cY 150 (pc (De _ _ _ _ _ _ _ _ _ _ _ _ _ _ _ dy) (pc (show ∀ zm,zm < gL.length->dT ((ah gL) zm)=true from (fun _ _=>rfl)) pn)) <| aj hE 2 (kp [0,3,4,13]) cY 182 <| cx 0 13 h (fun gX h=>?_) (fun gX h=>?_)
   ·refine aj hE 1 (kp [2]) cY 214 ?_
    cases h
    exact fw hE 0 Tryz.f100 (kp [2]) cY 214
   ·obtain ⟨bE,ia,h⟩:=ax h
    obtain ⟨c,h⟩:=ae h
    obtain ⟨c2,h⟩:=ae h
    obtain ⟨c3,h⟩:=ae h
    obtain ⟨c4,h⟩:=ae h
    obtain ⟨c5,h⟩:=ae h
    refine bc hE 1 [(3,⟨[0,1,2,3,4,5],false,(.tup []),[(0,vN 12 [(aI bE.1.D2),(aI bE.1.D3),(.os 1 0 bE.2.1.length),(.os 2 0 bE.2.2.1.length),(.os 3 0 bE.2.2.2.1.length),(.os 4 0 bE.2.2.2.2.1.length),(.os 5 0 bE.2.2.2.2.2.length),(aB bE.1.aJ.fN.fG),(CX bE),(aB bE.1.aJ.fD.fG),(CW bE),(aI bE.1.di)]),(1,aO 1 cI 0 bE.2.1),(2,aO 1 cI 0 bE.2.2.1),(CS bE),(CT bE),(CU bE)],0,false,none⟩)] (kp [0]) cY 246 (pc (ra _ _ _ _ _ _ _ _ _ _ _ _ _ _ _ _ ia) pn) <| cy hE 2 (kp [0]) cY 6 (ih _ _ _ _ _ _ _ _ _ _ _ _ _ h E hE)
theorem FA (N C0 bC dk eb ek en dY C1 C2 C3 C4 C5 r) (h:uu N C0 bC dk eb ek en dY C1 C2 C3 C4 C5=some r):Sd 100 [(.op 0 0 0)] [(gP C0 bC C1 C2 C3 C4 C5 dk eb ek en dY),(ey C1),(fF C2),(fx C3),(eA C4),(gx C5)] 6 (aI r.1) [(0,vN 12 [(aI r.2.1.D2),(aI r.2.1.D3),(.os 1 0 r.2.2.1.length),(.os 2 0 r.2.2.2.1.length),(.os 3 0 r.2.2.2.2.1.length),(.os 4 0 r.2.2.2.2.2.1.length),(.os 5 0 r.2.2.2.2.2.2.length),(aB r.2.1.aJ.fN.fG),(eU r.2.1.aJ.fN.fL),(aB r.2.1.aJ.fD.fG),(eU r.2.1.aJ.fD.fL),(aI r.2.1.di)]),(1,aO 1 cI 0 r.2.2.1),(2,aO 1 cI 0 r.2.2.2.1),(3,aM 4 eT aa.d r.2.2.2.2.1),(4,aO 4 eT aa.d r.2.2.2.2.2.1),(5,aO 4 eT aa.d r.2.2.2.2.2.2)]:=by
 unfold uu at h
 refine sO Tryz.f100 19 fun E hE=>?_
 refine aj hE 1 (kp [0]) cY 22 <| cy hE 2 (kp [0]) cY 6 (BZ N N _ _ _ _ _ _ _ _ _ _ _ _ _ h E hE)
noncomputable abbrev ane:=bt Tryz.f101
def x7 (N:Nat) (s:List Int) (v:Int) (K:Int->Option (Int)):Prop:=∀ (x:Int) (r:Int),K x=some r->∀ E,aP E 0->ay Tryz.prog E 101 19 (aQ E [] (aI r)) [.code (ane 52),.inLoop (ane 52),.inBlock 0,.code (ane 7)] ⟨[(vw s),(1,(aI v)),(7,(yV s)),(8,(aI x))],[],0⟩
theorem xh (N s v fuel):x7 N s v (df N s v fuel):=by
 induction fuel with
 | zero=>intro _ r h;rw [df.eq_1] at h;cases h
 | succ fuel ih =>
  intro x r h E hE
  rw [df.eq_2] at h
  refine aj hE 1 P8 [] 16 <| cx 1 9 h (fun cP h=>?_) (fun cP h=>?_)
  ·refine aj hE 4 vD [] 48 ?_
   obtain ⟨c,h⟩:=ae h
   refine cd hE 1 P6 [] 144 (pc c pn) <| cx 0 16 h (fun gX h=>?_) (fun gX h=>?_)
   ·refine aj hE 1 (kp [4]) [] 176 ?_
    obtain rfl:=kR h
    exact fw hE 0 Tryz.f101 (kp [4]) [] 176
   ·refine aj hE 2 oU [] 176 <| cy hE 1 oU [] 0 (ih _ _ h E hE)
  ·refine aj hE 2 (kp [4]) [] 32 ?_
   cases h
   exact fw hE 0 Tryz.f101 (kp [4]) [] 48
theorem jX (N s v r) (h:fE N s v=some r):Sd 101 [(b5 cI 0 s),(aI v)] [] 0 (aI r) []:=by
 unfold fE at h
 refine sO Tryz.f101 19 fun E hE=>?_
 refine aj hE 1 (kp [0,1]) [] 16 <| aj hE 2 oU [] 64 <| cy hE 2 oU [] 0 (xh N _ _ N _ _ h E hE)
theorem B0 (N x r) (h:nG N x=some r):Sd 103 [(ao x)] [] 0 (aB r) []:=by
 unfold nG at h
 refine sO Tryz.f103 6 fun E hE=>?_
 refine aj hE 1 (kp [1]) (kq [0]) 32 ?_
 obtain ⟨eI,hr,h⟩:=ax h
 refine bc hE 1 [(1,oT (aB eI))] (kp [2]) [] 96 (pc o1 (pc (fV _ _ _ hr) pn)) ?_
 cases h
 exact fw hE 0 Tryz.f103 (kp [2]) [] 96
noncomputable abbrev anf:=bt Tryz.f102
def x8 (N:Nat) (s:List aa) (K:Int->Option (Int)):Prop:=∀ (x:Int) (r:Int),K x=some r->∀ E,aP E 0->ay Tryz.prog E 102 19 (aQ E [] (aI r)) [.code (anf 52),.inLoop (anf 52),.inBlock 0,.code (anf 7)] ⟨[(0,(pM s)),(1,(.fn (.func 103) [] [])),(7,(P1 s)),(8,(aI x))],[],0⟩
theorem xi (N s fuel):x8 N s (dg N s fuel):=by
 induction fuel with
 | zero=>intro _ r h;rw [dg.eq_1] at h;cases h
 | succ fuel ih =>
  intro x r h E hE
  rw [dg.eq_2] at h
  refine aj hE 1 P8 [] 16 <| cx 1 9 h (fun cP h=>?_) (fun cP h=>?_)
  ·refine aj hE 4 vD [] 48 ?_
   obtain ⟨c,h⟩:=ae h
   obtain ⟨Pv,hr,h⟩:=ax h
   refine bc hE 1 [(5,oT (aB Pv))] P6 [] 144 (pc c (pc (B0 _ _ _ hr) pn)) <| cx 0 16 h (fun gX h=>?_) (fun gX h=>?_)
   ·refine aj hE 1 (kp [4]) [] 176 ?_
    obtain rfl:=kR h
    exact fw hE 0 Tryz.f102 (kp [4]) [] 176
   ·refine aj hE 2 oU [] 176 <| cy hE 1 oU [] 0 (ih _ _ h E hE)
  ·refine aj hE 2 (kp [4]) [] 32 ?_
   cases h
   exact fw hE 0 Tryz.f102 (kp [4]) [] 48
theorem zL (N s r) (h:lM N s=some r):Sd 102 [(pM s),(.fn (.func 103) [] [])] [] 0 (aI r) []:=by
 unfold lM at h
 refine sO Tryz.f102 19 fun E hE=>?_
 refine aj hE 1 (kp [0,1]) [] 16 <| aj hE 2 oU [] 64 <| cy hE 2 oU [] 0 (xi N _ N _ _ h E hE)
theorem y9 (N i j C0 r) (h:kZ N i j C0=some r):Sd 104 [(lN C0),(aI i),(aI j)] [(0,aO 1 cI 0 C0)] 1 (.os 0 0 r.2.length) [(0,aO 1 cI 0 r.2)]:=by
 unfold kZ at h
 refine sO Tryz.f104 33 fun E hE=>?_
 refine aj hE 1 vC (kq [0]) 17 ?_
 obtain ⟨c,h⟩:=ae h
 refine bc hE 1 [(5,oF (.rk))] vC (kq [0]) 113 (pc c pn) <| aj hE 2 (kp [0,1,2,16]) (kq [0]) 161 <| cx 0 16 h (fun cP h=>?_) (fun cP h=>?_)
 ·refine aj hE 1 (kp [6]) (kq [0]) 193 ?_
  cases h
  exact fw hE 0 Tryz.f104 (kp [6]) (kq [0]) 193
 ·refine aj hE 2 P4 (kq [0]) 209 ?_
  obtain ⟨c2,h⟩:=ae h
  obtain ⟨c3,h⟩:=ae h
  obtain ⟨c4,h⟩:=ae h
  obtain ⟨c5,h⟩:=ae h
  obtain ⟨c6,h⟩:=ae h
  obtain ⟨c7,h⟩:=ae h
  refine bc hE 1 [(6,oF (.rk))] (kp [0,7]) [(0,pY 0 cI 0 (ub C0 ((i).toNat) ((j).toNat)))] 337 (pc c2 (pc c3 (pc c4 (pc c5 (pc (show 0 < C0.length/\((i).toNat - 0)+(C0.length - (j).toNat)<=C0.length by have h1:=c6;have h2:=c7;omega) (pc (show (j).toNat+(C0.length - (j).toNat)<=C0.length by have h1:=c6;omega) (pc (show ∀ zi,zi < C0.length->AV.su (cI (C0.getD zi 0))=true from (fun _ _=>rfl)) (pc (show C0.length=(ub C0 ((i).toNat) ((j).toNat)).length from (Ol c6)) (pc (show ∀ zi,zi < (ub C0 ((i).toNat) ((j).toNat)).length->(fun zi=>cI ((ub C0 ((i).toNat) ((j).toNat)).getD zi 0)) zi=((fun zm=>if zm < ((i).toNat - 0) then cI (C0.getD zm 0) else if zm < ((i).toNat - 0)+(C0.length - (j).toNat) then cI (C0.getD (bB (j).toNat (zm - ((i).toNat - 0))) 0) else cI (C0.getD zm 0))) zi from (fun zq D6=>abm cI 0 C0 ((i).toNat) ((j).toNat) c6 zq D6)) pn))))))))) ?_
  obtain ⟨c8,h⟩:=ae h
  obtain ⟨c9,h⟩:=ae h
  refine bc hE 1 [(4,oF (.rk)),(5,oF (.rk))] [(0,.lx ((Tp C0 i j).length))] [(0,pY 0 cI 0 (Tp C0 i j))] 433 (pc c8 (pc (show 0<=(((PO i C0 j):Nat):Int) from (Int.natCast_nonneg _)) (pc (show 0<=(Tn C0) from (Int.natCast_nonneg _)) (pc c9 (pc (show (PO i C0 j)=(Tp C0 i j).length from (Uu c9)) (pc (show (PO i C0 j)=(Tp C0 i j).length from (Uu c9)) (pc (show ∀ zi,zi < (Tp C0 i j).length->(fun zi=>cI ((Tp C0 i j).getD zi 0)) zi=(fun zi=>cI ((ub C0 ((i).toNat) ((j).toNat)).getD zi 0)) zi from (fun zq D6=>afG cI 0 (ub C0 ((i).toNat) ((j).toNat)) (PO i C0 j) zq D6)) pn))))))) <| aj hE 1 (kp [6]) (kq [0]) 465 ?_
  cases h
  exact fw hE 0 Tryz.f104 (kp [6]) (kq [0]) 465
theorem Dg (N i j C0 r) (h:oz N i j C0=some r):Sd 105 [(.os 0 0 C0.length),(aI i),(aI j)] [(E4 C0)] 1 (.os 0 0 r.2.length) [(0,aO 4 eT aa.d r.2)]:=by
 unfold oz at h
 refine sO Tryz.f105 33 fun E hE=>?_
 refine aj hE 1 vC (kq [0]) 17 ?_
 obtain ⟨c,h⟩:=ae h
 refine bc hE 1 [(5,oF (.rk))] vC (kq [0]) 113 (pc c pn) <| aj hE 2 (kp [0,1,2,16]) (kq [0]) 161 <| cx 0 16 h (fun cP h=>?_) (fun cP h=>?_)
 ·refine aj hE 1 (kp [6]) (kq [0]) 193 ?_
  cases h
  exact fw hE 0 Tryz.f105 (kp [6]) (kq [0]) 193
 ·refine aj hE 2 P4 (kq [0]) 209 ?_
  obtain ⟨c2,h⟩:=ae h
  obtain ⟨c3,h⟩:=ae h
  obtain ⟨c4,h⟩:=ae h
  obtain ⟨c5,h⟩:=ae h
  obtain ⟨c6,h⟩:=ae h
  obtain ⟨c7,h⟩:=ae h
  refine bc hE 1 [(6,oF (.rk))] (kp [0,7]) [(0,pY 0 eT aa.d (ub C0 ((i).toNat) ((j).toNat)))] 337 (pc c2 (pc c3 (pc c4 (pc c5 (pc (show 0 < C0.length/\((i).toNat - 0)+(C0.length - (j).toNat)<=C0.length by have h1:=c6;have h2:=c7;omega) (pc (show (j).toNat+(C0.length - (j).toNat)<=C0.length by have h1:=c6;omega) (pc (show ∀ zi,zi < C0.length->AV.su (eT (C0.getD zi aa.d))=true from (fun _ _=>rfl)) (pc (show C0.length=(ub C0 ((i).toNat) ((j).toNat)).length from (Ol c6)) (pc (show ∀ zi,zi < (ub C0 ((i).toNat) ((j).toNat)).length->(fun zi=>eT ((ub C0 ((i).toNat) ((j).toNat)).getD zi aa.d)) zi=((fun zm=>if zm < ((i).toNat - 0) then eT (C0.getD zm aa.d) else if zm < ((i).toNat - 0)+(C0.length - (j).toNat) then eT (C0.getD (bB (j).toNat (zm - ((i).toNat - 0))) aa.d) else eT (C0.getD zm aa.d))) zi from (fun zq D6=>abm eT aa.d C0 ((i).toNat) ((j).toNat) c6 zq D6)) pn))))))))) ?_
  obtain ⟨c8,h⟩:=ae h
  obtain ⟨c9,h⟩:=ae h
  refine bc hE 1 [(4,oF (.rk)),(5,oF (.rk))] [(0,.lx ((To C0 i j).length))] [(0,pY 0 eT aa.d (To C0 i j))] 433 (pc c8 (pc (show 0<=(((((i).toNat - 0)+(C0.length - (j).toNat)):Nat):Int) from (Int.natCast_nonneg _)) (pc (show 0<=((C0.length:Nat):Int) from (Int.natCast_nonneg _)) (pc c9 (pc (show (((i).toNat - 0)+(C0.length - (j).toNat))=(To C0 i j).length from (Uu c9)) (pc (show (((i).toNat - 0)+(C0.length - (j).toNat))=(To C0 i j).length from (Uu c9)) (pc (show ∀ zi,zi < (To C0 i j).length->(fun zi=>eT ((To C0 i j).getD zi aa.d)) zi=(fun zi=>eT ((ub C0 ((i).toNat) ((j).toNat)).getD zi aa.d)) zi from (fun zq D6=>afG eT aa.d (ub C0 ((i).toNat) ((j).toNat)) (((i).toNat - 0)+(C0.length - (j).toNat)) zq D6)) pn))))))) <| aj hE 1 (kp [6]) (kq [0]) 465 ?_
  cases h
  exact fw hE 0 Tryz.f105 (kp [6]) (kq [0]) 465
noncomputable abbrev FB:=bt Tryz.f50
def tW (N:Nat) (C0:Int) (bC:Int) (dk:Bool) (eb:List Int) (ek:Bool) (en:List Int) (dY:Int) (C1:List Int) (C2:List Int) (C3:List aK) (C4:List aa) (C5:List aa) (K:Int->Int->Option Iv):Prop:=∀ (low:Int) (x:Int) (r:Bool×ow×(List Int)×(List Int)×mF×aK),K low x=some r->∀ E,aP E 6->ay Tryz.prog E 50 177 (aQ E [(0,vN 12 [(aI r.2.1.D2),(aI r.2.1.D3),(.os 1 0 r.2.2.1.length),(.os 2 0 r.2.2.2.1.length),(.os 3 0 r.2.2.2.2.1.length),(.os 4 0 r.2.2.2.2.2.length),(.os 6 0 r.2.1.rU.length),(aB r.2.1.aJ.fN.fG),(Fg r),(aB r.2.1.aJ.fD.fG),(Ff r),(aI r.2.1.di)]),(1,aO 1 cI 0 r.2.2.1),(2,aO 1 cI 0 r.2.2.2.1),(E6 r),(E7 r),(E8 r)] (aB r.1)) [.code (FB 116),.inLoop (FB 116),.inBlock 0,.code (FB 15)] ⟨[(0,(.op 0 0 0)),(3,(aI low)),(15,(P1 C4)),(16,(aI x))],[(0,vN 12 [(aI C0),(aI bC),(rX C1),(AK C2),(yS C3),(xa C4),(pL C5),(aB dk),(bw eb),(aB ek),(bw en),(aI dY)]),(ey C1),(fF C2),(fx C3),(eA C4),(tn C5)],7⟩
def B1 (N:Nat) (C0:Int) (bC:Int) (dk:Bool) (eb:List Int) (ek:Bool) (en:List Int) (dY:Int) (C1:List Int) (C2:List Int) (C3:List aK) (C4:List aa) (C5:List aa) (x:Int) (K:Int->Option Iv):Prop:=∀ (afN:Int) (r:Bool×ow×(List Int)×(List Int)×mF×aK),K afN=some r->∀ E,aP E 6->ay Tryz.prog E 50 177 (aQ E [(0,vN 12 [(aI r.2.1.D2),(aI r.2.1.D3),(.os 1 0 r.2.2.1.length),(.os 2 0 r.2.2.2.1.length),(.os 3 0 r.2.2.2.2.1.length),(.os 4 0 r.2.2.2.2.2.length),(.os 6 0 r.2.1.rU.length),(aB r.2.1.aJ.fN.fG),(Fg r),(aB r.2.1.aJ.fD.fG),(Ff r),(aI r.2.1.di)]),(1,aO 1 cI 0 r.2.2.1),(2,aO 1 cI 0 r.2.2.2.1),(E6 r),(E7 r),(E8 r)] (aB r.1)) [.code (FB 935),.inLoop (FB 116),.inBlock 0,.code (FB 15)] ⟨[(0,(.op 0 0 0)),(3,(aI afN)),(15,(P1 C4)),(16,(aI x))],[(0,vN 12 [(aI C0),(aI bC),(rX C1),(AK C2),(yS C3),(xa C4),(pL C5),(aB dk),(bw eb),(aB ek),(bw en),(aI dY)]),(ey C1),(fF C2),(fx C3),(eA C4),(tn C5)],7⟩
theorem sJ (N:Nat) (C0:Int) (bC:Int) (dk:Bool) (eb:List Int) (ek:Bool) (en:List Int) (dY:Int) (C1:List Int) (C2:List Int) (C3:List aK) (C4:List aa) (C5:List aa) (x:Int) (k6:Int->Int->Option Iv) (A2:tW N C0 bC dk eb ek en dY C1 C2 C3 C4 C5 k6):B1 N C0 bC dk eb ek en dY C1 C2 C3 C4 C5 x (jZ N C0 bC dk eb ek en dY C1 C2 C3 C4 C5 x k6):=by
 intro afN r h E hE
 unfold jZ at h
 refine aj hE 0 II gl 39 <| cy hE 1 II gl 7 (A2 _ _ _ h E hE)
def B2 (N:Nat) (K:Int->Int->(List Int)->(List Int)->mF->aK->aK->Bool->(List Int)->Bool->(List Int)->Int->Option Iv):Prop:=∀ (bR:Int) (tj:Int) (mP:List Int) (ur:List Int) (gL:List aK) (uQ:List aa) (uR:List aa) (zE:Bool) (zF:List Int) (G0:Bool) (G1:List Int) (EN:Int) (r:Bool×ow×(List Int)×(List Int)×mF×aK),K bR tj mP ur gL uQ uR zE zF G0 G1 EN=some r->∀ E,aP E 6->ay Tryz.prog E 50 177 (aQ E [(0,vN 12 [(aI r.2.1.D2),(aI r.2.1.D3),(.os 1 0 r.2.2.1.length),(.os 2 0 r.2.2.2.1.length),(.os 3 0 r.2.2.2.2.1.length),(.os 4 0 r.2.2.2.2.2.length),(.os 6 0 r.2.1.rU.length),(aB r.2.1.aJ.fN.fG),(Fg r),(aB r.2.1.aJ.fD.fG),(Ff r),(aI r.2.1.di)]),(1,aO 1 cI 0 r.2.2.1),(2,aO 1 cI 0 r.2.2.2.1),(E6 r),(E7 r),(E8 r)] (aB r.1)) [.code (FB 252),.code (FB 253),.code (FB 127)] ⟨[(0,(.op 0 0 0))],[(0,vN 12 [(aI bR),(aI tj),(rX mP),(AK ur),(yS gL),(xa uQ),(pL uR),(aB zE),(bw zF),(aB G0),(bw G1),(aI EN)]),(ey mP),(fF ur),(fx gL),(eA uQ),(tn uR)],7⟩
def B3 (N:Nat) (K:Int->Int->(List Int)->(List Int)->mF->aK->aK->Bool->(List Int)->Bool->(List Int)->Int->Option Iv):Prop:=∀ (AH:Int) (AI:Int) (w6:List Int) (Xl:List Int) (H2:List aK) (w7:List aa) (JM:List aa) (BD:Bool) (BE:List Int) (BF:Bool) (BG:List Int) (zG:Int) (r:Bool×ow×(List Int)×(List Int)×mF×aK),K AH AI w6 Xl H2 w7 JM BD BE BF BG zG=some r->∀ E,aP E 6->ay Tryz.prog E 50 177 (aQ E [(0,vN 12 [(aI r.2.1.D2),(aI r.2.1.D3),(.os 1 0 r.2.2.1.length),(.os 2 0 r.2.2.2.1.length),(.os 3 0 r.2.2.2.2.1.length),(.os 4 0 r.2.2.2.2.2.length),(.os 6 0 r.2.1.rU.length),(aB r.2.1.aJ.fN.fG),(Fg r),(aB r.2.1.aJ.fD.fG),(Ff r),(aI r.2.1.di)]),(1,aO 1 cI 0 r.2.2.1),(2,aO 1 cI 0 r.2.2.2.1),(E6 r),(E7 r),(E8 r)] (aB r.1)) [.code (FB 254),.code (FB 255)] ⟨[(0,(.op 0 0 0))],[(0,vN 12 [(aI AH),(aI AI),(rX w6),(AK Xl),(yS H2),(xa w7),(pL JM),(aB BD),(bw BE),(aB BF),(bw BG),(aI zG)]),(ey w6),(fF Xl),(fx H2),(eA w7),(tn JM)],7⟩
def B4 (N:Nat) (AH:Int) (AI:Int) (w6:List Int) (H2:List aK) (w7:List aa) (JM:List aa) (BD:Bool) (BE:List Int) (BF:Bool) (BG:List Int) (zG:Int) (qC:Int) (dU:(List Int)×(List Int)) (K:mF->Int->Option Iv):Prop:=∀ (nH:List aK) (x2:Int) (r:Bool×ow×(List Int)×(List Int)×mF×aK),K nH x2=some r->∀ E,aP E 6->ay Tryz.prog E 50 177 (aQ E [(0,vN 12 [(aI r.2.1.D2),(aI r.2.1.D3),(.os 1 0 r.2.2.1.length),(.os 2 0 r.2.2.2.1.length),(.os 3 0 r.2.2.2.2.1.length),(.os 4 0 r.2.2.2.2.2.length),(.os 6 0 r.2.1.rU.length),(aB r.2.1.aJ.fN.fG),(Fg r),(aB r.2.1.aJ.fD.fG),(Ff r),(aI r.2.1.di)]),(1,aO 1 cI 0 r.2.2.1),(2,aO 1 cI 0 r.2.2.2.1),(E6 r),(E7 r),(E8 r)] (aB r.1)) [.code (FB 8180),.inLoop (FB 8180),.inBlock 2,.code (FB 1023)] ⟨[(0,(.op 0 0 0)),(8,(aI qC)),(126,(aI ((H2.length:Nat):Int))),(127,(aI x2))],[(0,vN 12 [(aI AH),(aI AI),(rX w6),(.os 2 0 dU.2.length),(yS nH),(xa w7),(pL JM),(aB BD),(bw BE),(aB BF),(bw BG),(aI zG)]),(ey w6),(2,aO 1 cI 0 dU.2),(fx nH),(eA w7),(tn JM)],7⟩
def B5 (N:Nat) (AH:Int) (AI:Int) (w6:List Int) (w7:List aa) (BD:Bool) (BE:List Int) (BF:Bool) (BG:List Int) (zG:Int) (dU:(List Int)×(List Int)) (nH:List aK) (K:aK->Int->Option Iv):Prop:=∀ (Lc:List aa) (x3:Int) (r:Bool×ow×(List Int)×(List Int)×mF×aK),K Lc x3=some r->∀ E,aP E 6->ay Tryz.prog E 50 177 (aQ E [(0,vN 12 [(aI r.2.1.D2),(aI r.2.1.D3),(.os 1 0 r.2.2.1.length),(.os 2 0 r.2.2.2.1.length),(.os 3 0 r.2.2.2.2.1.length),(.os 4 0 r.2.2.2.2.2.length),(.os 6 0 r.2.1.rU.length),(aB r.2.1.aJ.fN.fG),(Fg r),(aB r.2.1.aJ.fD.fG),(Ff r),(aI r.2.1.di)]),(1,aO 1 cI 0 r.2.2.1),(2,aO 1 cI 0 r.2.2.2.1),(E6 r),(E7 r),(E8 r)] (aB r.1)) [.code (FB 32756),.inLoop (FB 32756),.inBlock 4,.code (FB 4095)] ⟨[(0,(.op 0 0 0)),(161,(aI (((U2 dU).length:Nat):Int))),(162,(aI x3))],[(0,vN 12 [(aI AH),(aI AI),(rX w6),(.os 2 0 dU.2.length),(yS nH),(xa w7),(pL Lc),(aB BD),(bw BE),(aB BF),(bw BG),(aI zG)]),(ey w6),(2,aO 1 cI 0 dU.2),(fx nH),(eA w7),(tn Lc)],7⟩
theorem A3 (N AH AI w6 w7 BD BE BF BG zG dU nH fuel):B5 N AH AI w6 w7 BD BE BF BG zG dU nH (fg N AH AI w6 w7 BD BE BF BG zG dU nH fuel):=by
 induction fuel with
 | zero=>intro _ _ r h;rw [fg.eq_1] at h;cases h
 | succ fuel ih =>
  intro Lc x3 r h E hE
  rw [fg.eq_2] at h
  refine aj hE 1 (kp [0,161,162,163]) gl 23 <| cx 1 163 h (fun hq8 h=>?_) (fun hq8 h=>?_)
  ·refine aj hE 4 (kp [0,10,161,162]) gl 55 ?_
   obtain ⟨ly,VK,h⟩:=ax h
   obtain ⟨c27,h⟩:=ae h
   refine bc hE 0 [(5,oT (ao ly))] P9 ([(0,.var 0 [.af,.af,.af,.af,.af,.af,.lx (wC Lc x3 ly),.af,.af,.af,.af,.af])] ++ kq [1,2,3,4] ++ [(Vy Lc x3 ly)]) 183 (pc o1 (pc (ju _ _ _ VK) (pc c27 (pc (dV c27) (pc (az Lc ((x3).toNat) ly) (pc (az Lc ((x3).toNat) ly) (pc (cF eT aa.d Lc ((x3).toNat) ly) pn))))))) <| aj hE 1 P9 gl 215 <| cy hE 1 P9 gl 7 (ih _ _ _ h E hE)
  ·obtain ⟨cn,aae,h⟩:=ax h
   refine bc hE 2 [(1,oT (ao cn))] [] gl 103 (pc (ju _ _ _ aae) (pc o1 pn)) <| aj hE 1 (kp [2]) gl 119 ?_
   cases h
   exact fw hE 0 Tryz.f50 (kp [2]) gl 119
theorem A4 (N AH AI w6 H2 w7 JM BD BE BF BG zG qC dU fuel):B4 N AH AI w6 H2 w7 JM BD BE BF BG zG qC dU (fh N AH AI w6 H2 w7 JM BD BE BF BG zG qC dU fuel):=by
 induction fuel with
 | zero=>intro _ _ r h;rw [fh.eq_1] at h;cases h
 | succ fuel ih =>
  intro nH x2 r h E hE
  rw [fh.eq_2] at h
  refine aj hE 1 (kp [0,8,126,127,128]) gl 23 <| cx 1 128 h (fun hq7 h=>?_) (fun hq7 h=>?_)
  ·refine aj hE 4 (kp [0,8,9,126,127]) gl 55 ?_
   obtain ⟨c24,h⟩:=ae h
   refine rnO 3 ((x2).toNat) 4 (oQ nH x2) (CZ nH x2) (pc c24 (pc (show an [] (ah nH) ((x2).toNat)=mR 4 eT aa.d (mS nH x2) from rfl) pn)) ?_
   obtain ⟨c25,h⟩:=ae h
   obtain ⟨uv,VJ,h⟩:=ax h
   refine bc hE 0 [(11,oF (Lv nH x2)),(15,⟨[55],false,(.os 0 0 uv.2.length),[(0,aO 4 eT aa.d uv.2)],0,false,none⟩)] LS (kq [0,1,2] ++ [(3,.Cr 3 (nH.length) [((x2).toNat,55,uv.2.length)] (ah nH))] ++ kq [4,6,55]) 359 (pc o1 (pc o1 (pc c25 (pc (dV c25) (pc (show (agZ x2 nH)[0]?=some (Lv nH x2) from (gO rfl)) (pc (Dg _ _ _ _ _ VJ) (pc c25 (pc (dV c25) (pc (Eq.refl nH.length) (pc (show ∀ zm,zm < nH.length->an [((x2).toNat,55,uv.2.length)] (ah nH) zm=if zm=(x2).toNat then [.os 55 0 uv.2.length] else an [(Hz x2 nH)] (ah nH) zm from (akb _ _ _ _ _ rfl)) (pc (show ∀ zm,zm < nH.length->dT ((ah nH) zm)=true from (fun _ _=>rfl)) pn))))))))))) <| rnL 3 55 ((x2).toNat) (pc c24 (pc (show an [((x2).toNat,55,uv.2.length)] (ah nH) ((x2).toNat)=[.os 55 0 uv.2.length] from if_pos rfl) (pc (show ∀ zj,zj < uv.2.length->oZ (eT (uv.2.getD zj aa.d))=true from fun _ _=>rfl) pn))) <| rnX hE [] LS ([(0,.var 0 [.af,.af,.af,.af,.lx ((nH.set ((x2).toNat) uv.2).length),.af,.af,.af,.af,.af,.af,.af])] ++ kq [1,2] ++ [(3,.Cr 3 ((nH.set ((x2).toNat) uv.2).length) [] (mG (nH.set ((x2).toNat) uv.2)))] ++ kq [4,6]) 359 (pc (az nH ((x2).toNat) uv.2) (pc (az nH ((x2).toNat) uv.2) (pc (JG (sz:=4) (c:=eT) (d:=aa.d) nH ((x2).toNat) 55 uv.2.length uv.2 [] c24 Po) (pc (iM (nH.set ((x2).toNat) uv.2)) pn)))) <| aj hE 1 LS gl 391 <| cy hE 1 LS gl 7 (ih _ _ _ h E hE)
  ·obtain ⟨c26,h⟩:=ae h
   refine cd hE 2 (kp [0]) ([(0,.var 0 [.af,.af,.af,.af,.af,.af,.lx ((U2 dU).length),.af,.af,.af,.af,.af])] ++ kq [1,2,3,4] ++ [(119,.arz 119 ((U2 dU).length) (agz dU))]) 183 (pc o1 (pc c26.1 (pc (Int.le_refl ((dU.2.length:Nat):Int)) (pc c26.2.1 (pc c26.2.2 (pc o1 (pc (lR dU.2.length rY) (pc (lQ dU.2.length rY) (pc (show ∀ zi,zi < (U2 dU).length->Uj ((fun _=>[(aB false),.nil,(aB false),.nil]) zi) ((agz dU) zi) from (fun zq D6=>qI eT aa.d aa.d dU.2.length zq ⟨.inl rfl,.inr ⟨rfl,_,rfl⟩,.inl rfl,.inr ⟨rfl,_,rfl⟩,trivial⟩ D6)) pn))))))))) <| cd hE 2 P9 (kq [0,1,2,3,4,119]) 279 (pc o1 pn) <| cy hE 2 P9 (kq [0,1,2,3,4] ++ [(6,.af 119)]) 7 (A3 N _ _ _ _ _ _ _ _ _ _ _ N _ _ _ h E hE)
theorem sK (N):B3 N (j3 N):=by
 intro AH AI w6 Xl H2 w7 JM BD BE BF BG zG r h E hE
 unfold j3 at h
 obtain ⟨qC,Da,h⟩:=ax h
 refine bc hE 0 [(8,oT (aI qC))] (kp [0,8]) gl 167 (pc o1 (pc o1 (pc (jX _ _ _ _ Da) (pc (z1 Xl.length) pn)))) ?_
 obtain ⟨dU,IT,h⟩:=ax h
 refine bc hE 1 [(8,⟨[2],false,(.os 0 0 dU.2.length),[(0,aO 1 cI 0 dU.2)],0,false,none⟩)] (kp [0,8]) gl 359 (pc o1 (pc (y9 _ _ _ _ _ IT) (pc o1 pn))) <| cd hE 2 LS gl 455 (pc o1 pn) <| cy hE 2 LS gl 7 (A4 N _ _ _ _ _ _ _ _ _ _ _ _ _ N _ _ _ h E hE)
theorem sL (N):B2 N (iu N):=by
 intro bR tj mP ur gL uQ uR zE zF G0 G1 EN r h E hE
 unfold iu at h
 obtain ⟨eu,x6,h⟩:=ax h
 refine bc hE 0 [(8,oT (aI eu))] (kp [0,6]) gl 167 (pc o1 (pc o1 (pc (jX _ _ _ _ x6) (pc (z1 mP.length) pn)))) <| aj hE 1 (kp [0,6,89]) gl 199 <| cx 0 89 h (fun VE h=>?_) (fun VE h=>?_)
 ·obtain ⟨c16,h⟩:=ae h
  refine rnO 3 ((eu).toNat) 4 (oQ gL eu) (CZ gL eu) (pc c16 (pc (show an [] (ah gL) ((eu).toNat)=mR 4 eT aa.d (mS gL eu) from rfl) pn)) ?_
  obtain ⟨c17,h⟩:=ae h
  obtain ⟨Pw,IS,h⟩:=ax h
  refine bc hE 1 [(6,oF (.os 199 0 (oQ gL eu))),(7,oT (aI Pw))] LR (kq [0,1,2] ++ [(3,.Cr 3 (gL.length) [(Xv eu gL)] (ah gL))] ++ kq [4,6,199]) 359 (pc o1 (pc c17 (pc (dV c17) (pc (show (an [(Xv eu gL)] (ah gL) ((eu).toNat))[0]?=some (.os 199 0 (oQ gL eu)) from (gO rfl)) (pc (zL _ _ _ IS) (pc (z1 (oQ gL eu)) (pc (Eq.refl gL.length) (pc (show ∀ zm,zm < gL.length->an [(Xv eu gL)] (ah gL) zm=an [(Xv eu gL)] (ah gL) zm from (fun _ _=>rfl)) (pc (show ∀ zm,zm < gL.length->dT ((ah gL) zm)=true from (fun _ _=>rfl)) pn))))))))) <| rnL 3 199 ((eu).toNat) (pc c16 (pc (show an [(Xv eu gL)] (ah gL) ((eu).toNat)=[.os 199 0 (mS gL eu).length] from if_pos rfl) (pc (show ∀ zj,zj < (mS gL eu).length->oZ (eT ((mS gL eu).getD zj aa.d))=true from fun _ _=>rfl) pn))) <| rnX hE [] LR (kq [0,1,2] ++ [(3,.Cr 3 (gL.length) [] (ah gL))] ++ kq [4,6]) 359 (pc (Eq.refl (gL.length)) (pc (Bw (sz:=4) (c:=eT) (d:=aa.d) gL ((eu).toNat) 199 (oQ gL eu) [] Po) (pc (show ∀ zm,zm < gL.length->dT ((ah gL) zm)=true from fun _ _=>rfl) pn))) ?_
  obtain ⟨eO,IQ,h⟩:=ax h
  obtain ⟨c18,h⟩:=ae h
  obtain ⟨c19,h⟩:=ae h
  obtain ⟨c20,h⟩:=ae h
  obtain ⟨c21,h⟩:=ae h
  obtain ⟨c22,h⟩:=ae h
  refine bc hE 0 [(3,⟨[0,1,2,3,4,6],false,(.tup []),[(0,vN 12 [(aI eO.1.D2),(aI eO.1.D3),(.os 1 0 eO.2.1.length),(.os 2 0 eO.2.2.1.length),(.os 3 0 eO.2.2.2.1.length),(.os 4 0 eO.2.2.2.2.1.length),(.os 5 0 eO.2.2.2.2.2.length),(aB eO.1.aJ.fN.fG),(CX eO),(aB eO.1.aJ.fD.fG),(CW eO),(aI eO.1.di)]),(1,aO 1 cI 0 eO.2.1),(2,aO 1 cI 0 eO.2.2.1),(CS eO),(CT eO),(CU eO)],0,false,none⟩)] (kp [0]) gl 423 (pc (ra _ _ _ _ _ _ _ _ _ _ _ _ _ _ _ _ IQ) pn) <| cy hE 1 (kp [0]) gl 7 (sK N _ _ _ _ _ _ _ _ _ _ _ _ _ h E hE)
 ·exact cy hE 2 (kp [0]) gl 7 (sK N _ _ _ _ _ _ _ _ _ _ _ _ _ h E hE)
theorem A5 (N C0 bC dk eb ek en dY C1 C2 C3 C4 C5 fuel):tW N C0 bC dk eb ek en dY C1 C2 C3 C4 C5 (bG N C0 bC dk eb ek en dY C1 C2 C3 C4 C5 fuel):=by
 induction fuel with
 | zero=>intro _ _ r h;rw [bG.eq_1] at h;cases h
 | succ fuel ih =>
  intro low x r h E hE
  rw [bG.eq_2] at h
  refine aj hE 1 (kp [0,3,15,16,17]) gl 23 <| cx 1 17 h (fun cP h=>?_) (fun cP h=>?_)
  ·refine aj hE 4 (kp [0,3,4,15,16]) gl 55 ?_
   obtain ⟨c,h⟩:=ae h
   obtain ⟨bg,hr,h⟩:=ax h
   obtain ⟨c2,h⟩:=ae h
   obtain ⟨c3,h⟩:=ae h
   obtain ⟨pA,dy,h⟩:=ax h
   refine bc hE 1 [(7,oT (aI bg)),(27,oT (aI pA))] (kp [0,3,4,15,16,49]) gl 551 (pc o1 (pc c (pc (dV c) (pc (n9 _ _ _ hr) (pc (fun hg:(decide (bg < 0))=true=>(pc hg pn)) (pc (fun hg:(BQ bg low)=true=>(pc hg pn)) (pc (fun hg:(BQ bg low)=true=>(pc hg pn)) (pc (fun hg:(BQ bg low)=true=>(pc hg (pc o1 pn))) (pc (fun hg:(BQ bg low)=true=>(pc hg (pc hg (pc (c2 hg) pn)))) (pc (fun hg:(BQ bg low)=true=>(pc hg (pc (dV (c2 hg)) pn))) (pc (fun hg:(BQ bg low)=true=>(pc hg pn)) (pc (fun hg:(BQ bg low)=true=>(pc hg pn)) (pc (fun hg:(BQ bg low)=true=>(pc hg (pc o1 pn))) (pc (fun hg:(BQ bg low)=true=>(pc hg (pc hg (pc (c3 hg) pn)))) (pc (fun hg:(BQ bg low)=true=>(pc hg (pc (dV (c3 hg)) pn))) (pc (fun hg:(BQ bg low)=true=>(pc (HF _ _ _ _ (aR dy hg)) (pc hg (pc hg pn)))) (pc (fun hg:(BQ bg low)=true=>(pc hg pn)) (pc (fun hg:(decide (bg < 0))=true=>(pc hg (pc hg (pc (fun hq:(w9 low)=true=>(pc (show (BQ bg low)=true from (o5 hg (o5 hg hq))) pn)) pn)))) (pc (fun hq:(decide (bg < 0))=true=>(pc hq pn)) pn))))))))))))))))))) <| cx 0 49 h (fun gX h=>?_) (fun gX h=>?_)
   ·refine aj hE 0 II gl 583 <| cy hE 1 II gl 7 (sJ N _ _ _ _ _ _ _ _ _ _ _ _ _ _ ih _ _ h E hE)
   ·exact cy hE 2 II gl 7 (sJ N _ _ _ _ _ _ _ _ _ _ _ _ _ _ ih _ _ h E hE)
  ·refine cd hE 2 Vg gl 135 (pc o1 pn) <| aj hE 2 (kp [0,3,5,59]) gl 167 <| cx 0 59 h (fun sb h=>?_) (fun sb h=>?_)
   ·obtain ⟨aw,ia,h⟩:=ax h
    obtain ⟨c4,h⟩:=ae h
    refine bc hE 1 [(5,oT (ao aw))] Vg ([(0,.var 0 [.af,.af,.af,.af,.af,.af,.lx ((C5.set (JQ C2) aw).length),.af,.af,.af,.af,.af])] ++ kq [1,2,3,4] ++ [(6,pY 6 eT aa.d (C5.set (JQ C2) aw))]) 295 (pc o1 (pc (ju _ _ _ ia) (pc c4 (pc (dV c4) (pc (az C5 (JQ C2) aw) (pc (az C5 (JQ C2) aw) (pc (cF eT aa.d C5 (JQ C2) aw) pn))))))) ?_
    obtain ⟨bE,kT,h⟩:=ax h
    obtain ⟨c5,h⟩:=ae h
    obtain ⟨c6,h⟩:=ae h
    obtain ⟨c7,h⟩:=ae h
    obtain ⟨c8,h⟩:=ae h
    obtain ⟨c9,h⟩:=ae h
    refine bc hE 1 [(3,⟨[0,1,2,3,4,6],false,(.tup []),[(0,vN 12 [(aI bE.1.D2),(aI bE.1.D3),(.os 1 0 bE.2.1.length),(.os 2 0 bE.2.2.1.length),(.os 3 0 bE.2.2.2.1.length),(.os 4 0 bE.2.2.2.2.1.length),(.os 5 0 bE.2.2.2.2.2.length),(aB bE.1.aJ.fN.fG),(CX bE),(aB bE.1.aJ.fD.fG),(CW bE),(aI bE.1.di)]),(1,aO 1 cI 0 bE.2.1),(2,aO 1 cI 0 bE.2.2.1),(CS bE),(CT bE),(CU bE)],0,false,none⟩)] (kp [0]) gl 359 (pc (ra _ _ _ _ _ _ _ _ _ _ _ _ _ _ _ _ kT) pn) ?_
    obtain ⟨dG,oW,h⟩:=ax h
    obtain ⟨c10,h⟩:=ae h
    obtain ⟨Tt,h⟩:=ae h
    obtain ⟨c12,h⟩:=ae h
    obtain ⟨Wx,h⟩:=ae h
    obtain ⟨c14,h⟩:=ae h
    refine bc hE 1 [(1,⟨[0,1,2,3,4,6],false,(aI dG.1),[(0,vN 12 [(aI dG.2.1.D2),(aI dG.2.1.D3),(.os 1 0 dG.2.2.1.length),(.os 2 0 dG.2.2.2.1.length),(.os 3 0 dG.2.2.2.2.1.length),(.os 4 0 dG.2.2.2.2.2.1.length),(.os 5 0 dG.2.2.2.2.2.2.length),(aB dG.2.1.aJ.fN.fG),(eU dG.2.1.aJ.fN.fL),(aB dG.2.1.aJ.fD.fG),(eU dG.2.1.aJ.fD.fL),(aI dG.2.1.di)]),(1,aO 1 cI 0 dG.2.2.1),(2,aO 1 cI 0 dG.2.2.2.1),(3,aM 4 eT aa.d dG.2.2.2.2.1),(4,aO 4 eT aa.d dG.2.2.2.2.2.1),(5,aO 4 eT aa.d dG.2.2.2.2.2.2)],0,false,none⟩)] (kp [0]) gl 391 (pc (FA _ _ _ _ _ _ _ _ _ _ _ _ _ _ oW) pn) ?_
    obtain ⟨eI,vG,h⟩:=ax h
    refine bc hE 1 [(4,oT (aB eI))] (kp [0,78]) gl 487 (pc o1 (pc (fV _ _ _ vG) pn)) <| cx 0 78 h (fun Ft h=>?_) (fun Ft h=>?_)
    ·refine aj hE 1 (kp [2]) gl 503 ?_
     cases h
     exact fw hE 0 Tryz.f50 (kp [2]) gl 503
    ·exact cy hE 3 (kp [0]) gl 7 (sL N _ _ _ _ _ _ _ _ _ _ _ _ _ h E hE)
   ·exact cy hE 3 (kp [0]) gl 7 (sL N _ _ _ _ _ _ _ _ _ _ _ _ _ h E hE)
theorem D9 (N C0 bC dk eb ek en dY C1 C2 C3 C4 C5 r) (h:pB N C0 bC dk eb ek en dY C1 C2 C3 C4 C5=some r):Sd 50 [(.op 0 0 0)] [(gP C0 bC C1 C2 C3 C4 C5 dk eb ek en dY),(ey C1),(fF C2),(fx C3),(eA C4),(gx C5)] 6 (aB r.1) [(0,vN 12 [(aI r.2.1.D2),(aI r.2.1.D3),(.os 1 0 r.2.2.1.length),(.os 2 0 r.2.2.2.1.length),(.os 3 0 r.2.2.2.2.1.length),(.os 4 0 r.2.2.2.2.2.length),(.os 6 0 r.2.1.rU.length),(aB r.2.1.aJ.fN.fG),(Fg r),(aB r.2.1.aJ.fD.fG),(Ff r),(aI r.2.1.di)]),(1,aO 1 cI 0 r.2.2.1),(2,aO 1 cI 0 r.2.2.2.1),(E6 r),(E7 r),(E8 r)]:=by
 unfold pB at h
 refine sO Tryz.f50 177 fun E hE=>?_
 refine aj hE 1 (kp [0]) cY 22 <| aj hE 1 (kp [0,3]) cY 38 <| cd hE 2 II cY 134 (pc o1 pn) <| cy hE 2 II (kq [0,1,2,3,4] ++ [(6,.af 5)]) 7 (A5 N _ _ _ _ _ _ _ _ _ _ _ _ N _ _ _ h E hE)
noncomputable abbrev ado:=bt Tryz.f51
def qa (N:Nat) (C0:Int) (bC:Int) (dk:Bool) (eb:List Int) (ek:Bool) (en:List Int) (dY:Int) (C1:List Int) (C2:List Int) (C3:List aK) (C4:List aa) (C5:List aa) (K:aK->Int->Option E1):Prop:=∀ (out:List aa) (x:Int) (r:aK),K out x=some r->∀ E,aP E 6->ay Tryz.prog E 51 47 (aQ E [(gP C0 bC C1 C2 C3 C4 C5 dk eb ek en dY),(ey C1),(fF C2),(fx C3),(eA C4),(gx C5),(Iu r)] (.os 6 0 r.length)) [.code (ado 116),.inLoop (ado 116),.inBlock 0,.code (ado 15)] ⟨[(0,(.op 0 0 0)),(3,(pL out)),(agn bC),(13,(aI x))],[(gP C0 bC C1 C2 C3 C4 C5 dk eb ek en dY),(ey C1),(fF C2),(fx C3),(eA C4),(gx C5),(tn out)],7⟩
def xj (N:Nat) (C0:Int) (bC:Int) (dk:Bool) (eb:List Int) (ek:Bool) (en:List Int) (dY:Int) (C1:List Int) (C2:List Int) (C3:List aK) (C4:List aa) (C5:List aa) (x:Int) (K:aK->Option E1):Prop:=∀ (eY:List aa) (r:aK),K eY=some r->∀ E,aP E 6->ay Tryz.prog E 51 47 (aQ E [(gP C0 bC C1 C2 C3 C4 C5 dk eb ek en dY),(ey C1),(fF C2),(fx C3),(eA C4),(gx C5),(Iu r)] (.os 6 0 r.length)) [.code (ado 935),.inLoop (ado 116),.inBlock 0,.code (ado 15)] ⟨[(0,(.op 0 0 0)),(3,(pL eY)),(agn bC),(13,(aI x))],[(gP C0 bC C1 C2 C3 C4 C5 dk eb ek en dY),(ey C1),(fF C2),(fx C3),(eA C4),(gx C5),(tn eY)],7⟩
theorem pj (N:Nat) (C0:Int) (bC:Int) (dk:Bool) (eb:List Int) (ek:Bool) (en:List Int) (dY:Int) (C1:List Int) (C2:List Int) (C3:List aK) (C4:List aa) (C5:List aa) (x:Int) (iJ:aK->Int->Option E1) (wG:qa N C0 bC dk eb ek en dY C1 C2 C3 C4 C5 iJ):xj N C0 bC dk eb ek en dY C1 C2 C3 C4 C5 x (gA N C0 bC dk eb ek en dY C1 C2 C3 C4 C5 x iJ):=by
 intro eY r h E hE
 unfold gA at h
 refine aj hE 0 LO hO 39 <| cy hE 1 LO hO 7 (wG _ _ _ h E hE)
theorem wH (N C0 bC dk eb ek en dY C1 C2 C3 C4 C5 fuel):qa N C0 bC dk eb ek en dY C1 C2 C3 C4 C5 (b9 N C0 bC dk eb ek en dY C1 C2 C3 C4 C5 fuel):=by
 induction fuel with
 | zero=>intro _ _ r h;rw [b9.eq_1] at h;cases h
 | succ fuel ih =>
  intro out x r h E hE
  rw [b9.eq_2] at h
  refine aj hE 1 (kp [0,3,12,13,14]) hO 23 <| cx 1 14 h (fun cP h=>?_) (fun cP h=>?_)
  ·refine aj hE 4 (kp [0,3,4,12,13]) hO 55 ?_
   obtain ⟨aw,hr,h⟩:=ax h
   obtain ⟨c2,h⟩:=ae h
   refine bc hE 1 [(2,oT (ao aw))] (kp [0] ++ [(3,.lx (wC out x aw))] ++ kp [4,12,13]) (kq [0,1,2,3,4,5] ++ [(Vy out x aw)]) 135 (pc (ju _ _ _ hr) (pc c2 (pc (dV c2) (pc (az out ((x).toNat) aw) (pc (az out ((x).toNat) aw) (pc (cF eT aa.d out ((x).toNat) aw) pn)))))) ?_
   obtain ⟨eu,dy,h⟩:=ax h
   refine bc hE 1 [(11,oT (aI eu))] (kp [0,3,4,5,12,13]) hO 343 (pc o1 (pc o1 (pc (jX _ _ _ _ dy) (pc (z1 C2.length) pn)))) <| aj hE 1 (kp [0,3,4,5,12,13,33]) hO 375 <| cx 0 33 h (fun gX h=>?_) (fun gX h=>?_)
   ·obtain ⟨c3,h⟩:=ae h
    obtain ⟨bO,ia,h⟩:=ax h
    obtain ⟨c4,h⟩:=ae h
    refine bc hE 0 [(9,oT (ao bO))] (kp [0] ++ [(3,.lx (((out.set ((x).toNat) aw).set ((x).toNat) bO).length))] ++ kp [12,13]) (kq [0,1,2,3,4,5] ++ [(6,pY 6 eT aa.d ((out.set ((x).toNat) aw).set ((x).toNat) bO))]) 567 (pc o1 (pc c3 (pc (dV c3) (pc (na _ _ _ ia) (pc c4 (pc (dV c4) (pc (az (out.set ((x).toNat) aw) ((x).toNat) bO) (pc (az (out.set ((x).toNat) aw) ((x).toNat) bO) (pc (cF eT aa.d (out.set ((x).toNat) aw) ((x).toNat) bO) pn))))))))) <| cy hE 1 LO hO 7 (pj N _ _ _ _ _ _ _ _ _ _ _ _ _ _ ih _ _ h E hE)
   ·exact cy hE 2 LO hO 7 (pj N _ _ _ _ _ _ _ _ _ _ _ _ _ _ ih _ _ h E hE)
  ·refine aj hE 2 (kp [2]) hO 55 ?_
   obtain rfl:=kR h
   exact fw hE 0 Tryz.f51 (kp [2]) hO 55
theorem zc (N C0 bC dk eb ek en dY C1 C2 C3 C4 C5 r) (h:k7 N C0 bC dk eb ek en dY C1 C2 C3 C4 C5=some r):Sd 51 [(.op 0 0 0)] [(gP C0 bC C1 C2 C3 C4 C5 dk eb ek en dY),(ey C1),(fF C2),(fx C3),(eA C4),(gx C5)] 6 (.os 6 0 r.length) [(gP C0 bC C1 C2 C3 C4 C5 dk eb ek en dY),(ey C1),(fF C2),(fx C3),(eA C4),(gx C5),(Iu r)]:=by
 unfold k7 at h
 refine sO Tryz.f51 47 fun E hE=>?_
 refine aj hE 1 (kp [0]) cY 22 ?_
 obtain ⟨c,h⟩:=ae h
 refine cd hE 1 (kp [0] ++ [(3,.lx (abC bC))]) (agM bC) 118 (pc o1 (pc c.1 (pc (Int.le_refl bC) (pc c.2.1 (pc c.2.2 (pc (lR ((bC).toNat) rY) (pc (lQ ((bC).toNat) rY) (pc (show ∀ zi,zi < (ZM bC).length->Uj ((fun _=>[(aB false),.nil,(aB false),.nil]) zi) ((U8 bC) zi) from (fun zq D6=>qI eT aa.d aa.d ((bC).toNat) zq ⟨.inl rfl,.inr ⟨rfl,_,rfl⟩,.inl rfl,.inr ⟨rfl,_,rfl⟩,trivial⟩ D6)) pn)))))))) <| aj hE 2 LO (kq [0,1,2,3,4,5,86]) 166 <| cy hE 2 LO agL 7 (wH N _ _ _ _ _ _ _ _ _ _ _ _ N _ _ _ h E hE)
theorem Aa (N GB C0 bC dk eb ek en dY C1 C2 C3 C4 C5 r) (h:qT N GB C0 bC dk eb ek en dY C1 C2 C3 C4 C5=some r):Sd 53 [(.op 0 0 0),(aI GB)] [(gP C0 bC C1 C2 C3 C4 C5 dk eb ek en dY),(ey C1),(fF C2),(fx C3),(eA C4),(gx C5)] 6 (ao r) [(gP C0 bC C1 C2 C3 C4 C5 dk eb ek en dY),(ey C1),(fF C2),(fx C3),(eA C4),(gx C5)]:=by
 unfold qT at h
 refine sO Tryz.f53 22 fun E hE=>?_
 refine aj hE 1 IH hO 22 ?_
 obtain ⟨eu,hr,h⟩:=ax h
 refine bc hE 2 [(5,oT (aI eu))] LP hO 134 (pc o1 (pc (jX _ _ _ _ hr) (pc (z1 C1.length) pn))) <| aj hE 1 (kp [0,4,5,13]) hO 166 <| cx 0 13 h (fun cP h=>?_) (fun cP h=>?_)
 ·obtain ⟨c,h⟩:=ae h
  refine cd hE 1 (kp [4]) hO 294 (pc o1 (pc c (pc (dV c) (pc o1 pn)))) ?_
  cases h
  exact jn hE 0 Tryz.f53 [] (kp [4]) agK 294 pn [22] (pc o1 pn)
 ·obtain ⟨aw,dy,h⟩:=ax h
  refine bc hE 2 [(0,oT (ao aw))] (kp [4]) hO 198 (pc (ju _ _ _ dy) (pc o1 pn)) ?_
  obtain rfl:=kR h
  exact jn hE 0 Tryz.f53 [] (kp [4]) agK 198 pn [22] (pc o1 pn)
noncomputable abbrev anh:=bt Tryz.f52
def Dh (N:Nat) (C0:Int) (bC:Int) (dk:Bool) (eb:List Int) (ek:Bool) (en:List Int) (dY:Int) (C1:List Int) (C2:List Int) (C3:List aK) (C4:List aa) (C5:List aa) (K:aK->Int->Option E1):Prop:=∀ (out:List aa) (x:Int) (r:aK),K out x=some r->∀ E,aP E 6->ay Tryz.prog E 52 34 (aQ E [(gP C0 bC C1 C2 C3 C4 C5 dk eb ek en dY),(ey C1),(fF C2),(fx C3),(eA C4),(gx C5),(Iu r)] (.os 6 0 r.length)) [.code (anh 116),.inLoop (anh 116),.inBlock 0,.code (anh 15)] ⟨[(0,(.op 0 0 0)),(1,(.fn (.func 53) [(.op 0 0 0)] [])),(5,(pL out)),(13,(agw C0)),(14,(aI x))],[(gP C0 bC C1 C2 C3 C4 C5 dk eb ek en dY),(ey C1),(fF C2),(fx C3),(eA C4),(gx C5),(tn out)],7⟩
theorem B6 (N C0 bC dk eb ek en dY C1 C2 C3 C4 C5 fuel):Dh N C0 bC dk eb ek en dY C1 C2 C3 C4 C5 (fB N C0 bC dk eb ek en dY C1 C2 C3 C4 C5 fuel):=by
 induction fuel with
 | zero=>intro _ _ r h;rw [fB.eq_1] at h;cases h
 | succ fuel ih =>
  intro out x r h E hE
  rw [fB.eq_2] at h
  refine aj hE 1 (kp [0,1,5,13,14,15]) hO 23 <| cx 1 15 h (fun cP h=>?_) (fun cP h=>?_)
  ·refine aj hE 4 (kp [0,1,5,6,13,14]) hO 55 ?_
   obtain ⟨rat,hr,h⟩:=ax h
   obtain ⟨amR,dy,h⟩:=ax h
   obtain ⟨eJ,ia,h⟩:=ax h
   obtain ⟨c2,h⟩:=ae h
   refine bc hE 0 [(4,⟨[0,1,2,3,4,5],true,(ao rat),[],0,false,none⟩),(12,⟨[0,1,2,3,4,5],true,(ao amR),[],0,false,none⟩),(13,oT (ao eJ))] (kp [0,1] ++ [(5,.lx (wC out x eJ))] ++ kp [13,14]) (kq [0,1,2,3,4,5] ++ [(Vy out x eJ)]) 311 (pc (Aa _ _ _ _ _ _ _ _ _ _ _ _ _ _ _ hr) (pc (show ∀ zm,zm < C3.length->dT ((ah C3) zm)=true from (fun _ _=>rfl)) (pc o1 (pc (Aa _ _ _ _ _ _ _ _ _ _ _ _ _ _ _ dy) (pc (show ∀ zm,zm < C3.length->dT ((ah C3) zm)=true from (fun _ _=>rfl)) (pc (HE _ _ _ _ ia) (pc c2 (pc (dV c2) (pc (az out ((x).toNat) eJ) (pc (az out ((x).toNat) eJ) (pc (cF eT aa.d out ((x).toNat) eJ) pn))))))))))) <| aj hE 1 Vc hO 343 <| cy hE 1 Vc hO 7 (ih _ _ _ h E hE)
  ·refine aj hE 2 (kp [4]) hO 55 ?_
   obtain rfl:=kR h
   exact fw hE 0 Tryz.f52 (kp [4]) hO 55
theorem FC (N C0 bC dk eb ek en dY C1 C2 C3 C4 C5 r) (h:qD N C0 bC dk eb ek en dY C1 C2 C3 C4 C5=some r):Sd 52 [(.op 0 0 0),(.fn (.func 53) [(.op 0 0 0)] [])] [(gP C0 bC C1 C2 C3 C4 C5 dk eb ek en dY),(ey C1),(fF C2),(fx C3),(eA C4),(gx C5)] 6 (.os 6 0 r.length) [(gP C0 bC C1 C2 C3 C4 C5 dk eb ek en dY),(ey C1),(fF C2),(fx C3),(eA C4),(gx C5),(Iu r)]:=by
 unfold qD at h
 refine sO Tryz.f52 34 fun E hE=>?_
 refine aj hE 1 (kp [0,1]) cY 22 ?_
 obtain ⟨c,h⟩:=ae h
 refine cd hE 1 (kp [0,1] ++ [(5,.lx (abC C0))]) (agM C0) 118 (pc o1 (pc c.1 (pc (Int.le_refl C0) (pc c.2.1 (pc c.2.2 (pc (lR ((C0).toNat) rY) (pc (lQ ((C0).toNat) rY) (pc (show ∀ zi,zi < (ZM C0).length->Uj ((fun _=>[(aB false),.nil,(aB false),.nil]) zi) ((U8 C0) zi) from (fun zq D6=>qI eT aa.d aa.d ((C0).toNat) zq ⟨.inl rfl,.inr ⟨rfl,_,rfl⟩,.inl rfl,.inr ⟨rfl,_,rfl⟩,trivial⟩ D6)) pn)))))))) <| aj hE 2 Vc (kq [0,1,2,3,4,5,86]) 166 <| cy hE 2 Vc agL 7 (B6 N _ _ _ _ _ _ _ _ _ _ _ _ N _ _ _ h E hE)
theorem NF (N n l r) (h:uw N n l=some r):Sd 17 [(aI n),(oS l)] [] 0 (.tup [(b5 eT aa.d r.1),(b5 eT aa.d r.2.1),(aI r.2.2)]) []:=by
 unfold uw at h
 refine sO Tryz.f17 27 fun E hE=>?_
 refine aj hE 1 (kp [0,1]) [] 48 ?_
 obtain ⟨jA,hr,h⟩:=ax h
 refine bc hE 2 [(2,oT (aI jA))] (kp [0,1,7]) [] 112 (pc (vF _ _ _ _ hr) pn) <| aj hE 1 (kp [0,1,7,13]) [] 144 <| cx 0 13 h (fun cP h=>?_) (fun cP h=>?_)
 ·refine aj hE 1 AS [] 208 ?_
  cases h
  exact jn hE 0 Tryz.f17 [] ([(4,rM eT aa.d ([]:List aa)),(5,rM eT aa.d ([]:List aa))] ++ kp [6]) [] 208 (pc (Eq.refl 0) (pc (Eq.refl 0) pn)) [] pn
 ·obtain ⟨g9,dy,h⟩:=ax h
  refine bc hE 2 [(2,⟨[],true,(.op 0 0 0),[(0,vN 12 [(aI g9.D2),(aI g9.D3),(Ie g9),(Ig g9),(.os 3 0 g9.f_a.length),(.os 4 0 g9.Tb.length),(Ih g9),(IA g9),(IG g9),(Iz g9),(IE g9),(aI g9.di)]),(Im g9),(Iq g9),(Ir g9),(Is g9),(It g9)],0,false,none⟩)] (kp [8]) (kq [176,177,178,179,180,181]) 208 (pc (VH _ _ _ _ dy) pn) ?_
  obtain ⟨cz,ia,h⟩:=ax h
  obtain ⟨c,h⟩:=ae h
  obtain ⟨c2,h⟩:=ae h
  obtain ⟨c3,h⟩:=ae h
  refine bc hE 2 [(1,⟨[176,177,178,179,180,181],false,(aB cz.1),[(0,vN 12 [(aI cz.2.1.D2),(aI cz.2.1.D3),(.os 1 0 cz.2.2.1.length),(.os 2 0 cz.2.2.2.1.length),(.os 3 0 cz.2.2.2.2.1.length),(.os 4 0 cz.2.2.2.2.2.length),(.os 6 0 cz.2.1.rU.length),(aB cz.2.1.aJ.fN.fG),(Fg cz),(aB cz.2.1.aJ.fD.fG),(Ff cz),(aI cz.2.1.di)]),(1,aO 1 cI 0 cz.2.2.1),(2,aO 1 cI 0 cz.2.2.2.1),(E6 cz),(E7 cz),(E8 cz)],0,false,none⟩)] (kp [8,20]) (kq [176,177,178,179,180,224]) 256 (pc (D9 _ _ _ _ _ _ _ _ _ _ _ _ _ _ ia) pn) <| cx 0 20 h (fun gX h=>?_) (fun gX h=>?_)
  ·obtain ⟨nI,kT,h⟩:=ax h
   refine bc hE 1 [(1,⟨[176,177,178,179,180,224],true,(.os 6 0 nI.length),[(Iu nI)],0,false,none⟩)] AS (kq [272]) 336 (pc (zc _ _ _ _ _ _ _ _ _ _ _ _ _ _ kT) (pc (iM cz.2.2.2.2.1) pn)) ?_
   cases h
   exact jn hE 0 Tryz.f17 [272] ([(4,rM eT aa.d ([]:List aa)),(5,rM eT aa.d nI)] ++ kp [6]) [] 336 (pc (Eq.refl 0) (pc (Eq.refl nI.length) (pc (z1 nI.length) (pc (eZ eT aa.d nI) pn)))) [] pn
  ·obtain ⟨EO,oW,h⟩:=ax h
   refine bc hE 2 [(3,⟨[176,177,178,179,180,224],true,(.os 6 0 EO.length),[(Iu EO)],0,false,none⟩)] AS (kq [304]) 368 (pc (FC _ _ _ _ _ _ _ _ _ _ _ _ _ _ oW) (pc (iM cz.2.2.2.2.1) pn)) ?_
   cases h
   exact jn hE 0 Tryz.f17 [304] ([(4,rM eT aa.d EO),(5,rM eT aa.d ([]:List aa))] ++ kp [6]) [] 368 (pc (Eq.refl EO.length) (pc (z1 EO.length) (pc (eZ eT aa.d EO) (pc (Eq.refl 0) pn)))) [] pn
theorem bh (N n low high r) (h:bK N n low high=some r):Sd 68 [(aI n),(aI low),(aI high)] [] 0 (aB r) []:=by
 unfold bK at h
 refine sO Tryz.f68 15 fun E hE=>?_
 refine aj hE 1 vC [] 16 <| cd hE 1 (kp [6]) [] 160 (pc (fun hg:(decide (n>=low))=true=>(pc hg (pc hg pn))) (pc (fun hq:(decide (n>=low))=true=>(pc hq pn)) pn)) ?_
 cases h
 exact fw hE 0 Tryz.f68 (kp [6]) [] 160
theorem u5 (N x y r) (h:kc N x y=some r):Sd 84 [(aI x),(aI y)] [] 0 (aB r) []:=by
 unfold kc at h
 refine sO Tryz.f84 11 fun E hE=>?_
 refine aj hE 1 (kp [0,1]) [] 16 ?_
 obtain ⟨m7,hr,h⟩:=ax h
 obtain ⟨j4,dy,h⟩:=ax h
 refine bc hE 1 [(1,oT (aB m7)),(4,oT (aB j4))] (kp [4]) [] 128 (pc (bh _ _ _ _ _ hr) (pc (fun hg:m7=true=>(pc (bh _ _ _ _ _ (aR dy hg)) (pc hg pn))) (pc (fun hq:m7=true=>(pc hq pn)) pn))) ?_
 cases h
 exact fw hE 0 Tryz.f84 (kp [4]) [] 128
theorem Ea (N i C0 r) (h:pC N i C0=some r):Sd 86 [(aI i),(.op 0 0 0)] [(jQ C0)] 1 (aS r) [(jQ C0)]:=by
 unfold pC at h
 refine sO Tryz.f86 10 fun E hE=>?_
 refine aj hE 1 (kp [0,1]) (kq [0]) 17 ?_
 obtain ⟨c,h⟩:=ae h
 refine cd hE 1 (kp [3]) (kq [0]) 129 (pc o1 (pc c pn)) ?_
 cases h
 exact fw hE 0 Tryz.f86 (kp [3]) (kq [0]) 129
noncomputable abbrev ani:=bt Tryz.f123
def NG (N:Nat) (s:ByteArray) (K:Int->Option (Bool)):Prop:=∀ (x:Int) (r:Bool),K x=some r->∀ E,aP E 0->ay Tryz.prog E 123 51 (aQ E [] (aB r)) [.code (ani 116),.inLoop (ani 116),.inBlock 0,.code (ani 15)] ⟨[(11,(b5 (cU .u8) 0 (rT s))),(12,(aI ((s.size:Nat):Int))),(13,(aI x))],[],0⟩
theorem L9 (N s fuel):NG N s (lX N s fuel):=by
 induction fuel with
 | zero=>intro _ r h;rw [lX.eq_1] at h;cases h
 | succ fuel ih =>
  intro x r h E hE
  rw [lX.eq_2] at h
  refine aj hE 1 (kp [11,12,13,14]) [] 16 <| cx 1 14 h (fun gX h=>?_) (fun gX h=>?_)
  ·obtain ⟨c,h⟩:=ae h
   refine cd hE 4 (kp [3,4,11,12,13]) [] 96 (pc c pn) <| cd hE 1 (kp [3,4,5,11,12,13]) [] 336 (pc (fun hg:(decide ((zB s x)>=97))=true=>(pc hg pn)) (pc (fun hq:(decide ((zB s x)>=97))=true=>(pc hq pn)) (pc (fun hg:(am1 s x)=true=>(pc hg pn)) (pc (fun hg:(alD s x)=true=>(pc hg pn)) (pc (fun hg:(am1 s x)=true=>(pc hg (pc hg (pc (fun hq:(decide ((EZ s x)>=65))=true=>(pc (show (alD s x)=true from (o5 hg (o5 hg hq))) pn)) pn)))) (pc (fun hq:(am1 s x)=true=>(pc hq pn)) pn)))))) <| cd hE 1 (kp [11,12,13,49]) [] 624 (pc (fun hg:(amZ s x)=true=>(pc hg pn)) (pc (fun hg:(af5 s x)=true=>(pc hg pn)) (pc (fun hg:(af7 s x)=true=>(pc hg pn)) (pc (fun hg:(alG s x)=true=>(pc hg pn)) (pc (fun hg:(af7 s x)=true=>(pc hg (pc hg (pc (fun hq:(!(decide ((EZ s x) < 48)))=true=>(pc (show (alG s x)=true from (o5 hg (o5 hg hq))) pn)) pn)))) (pc (fun hg:(af5 s x)=true=>(pc hg (pc hg (pc (fun hq:((EZ s x) != 45)=true=>(pc (show (af7 s x)=true from (o5 hg (o5 hg hq))) pn)) pn)))) (pc (fun hg:(amZ s x)=true=>(pc hg (pc hg (pc (fun hq:(!(x == 0))=true=>(pc (show (af5 s x)=true from (o5 hg (o5 hg hq))) pn)) pn)))) (pc (fun hq:(amZ s x)=true=>(pc hq pn)) pn)))))))) <| cx 0 49 h (fun sb h=>?_) (fun sb h=>?_)
   ·refine aj hE 1 (kp [2]) [] 640 ?_
    obtain rfl:=kR h
    exact fw hE 0 Tryz.f123 (kp [2]) [] 640
   ·refine aj hE 2 (kp [11,12,13]) [] 656 <| cy hE 1 (kp [11,12,13]) [] 0 (ih _ _ h E hE)
  ·refine aj hE 2 (kp [2]) [] 32 ?_
   obtain rfl:=kR h
   exact fw hE 0 Tryz.f123 (kp [2]) [] 48
theorem HG (N s r) (h:vo N s=some r):Sd 123 [(aS s)] [] 0 (aB r) []:=by
 unfold vo at h
 refine sO Tryz.f123 51 fun E hE=>?_
 refine aj hE 1 (kp [0]) [] 16 ?_
 obtain ⟨m7,hr,h⟩:=ax h
 refine bc hE 2 [(2,oT (aB m7))] (kp [0,9]) [] 80 (pc (bh _ _ _ _ _ hr) pn) <| cx 0 9 h (fun cP h=>?_) (fun cP h=>?_)
 ·refine aj hE 1 (kp [2]) [] 96 ?_
  obtain rfl:=kR h
  exact fw hE 0 Tryz.f123 (kp [2]) [] 96
 ·refine cd hE 3 ([(11,rM (cU .u8) 0 (rT s))] ++ kp [12,13]) [] 144 (pc (show s.size=(rT s).length from (HZ s)) (pc (show ∀ zi,zi < (rT s).length->(fun zi=>(cU .u8) ((rT s).getD zi 0)) zi=(fun zi=>[.atom (.int .u8 (kG s zi))]) zi from (Pn s)) pn)) <| cy hE 2 (kp [11,12,13]) [] 0 (L9 N _ N _ _ h E hE)
end Go.Den
