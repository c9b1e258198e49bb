/- Each function of the program does what its Lean function computes (part 3). No conditions. -/
import Derived.Test.YtdigjibahkjfdaaGreatExactNoBetterSb
import Derived.Test.YtdigjibahkjfdaaGreatProg
set_option linter.unusedVariables false
set_option maxRecDepth 100000
namespace Go.Den
open Go.Ab Go.Proofs Go.Ab.aw
noncomputable abbrev OD:=cy Tryz.f15
def DI (N:Nat) (l:List aE) (nv:List aa) (K:Int→Option (Bool)):Prop:=∀ (i:Int) (r:Bool),K i=some r→∀ E,aQ E 0→aw Tryz.prog E 15 26 (aY E [] (aB r)) [.code (OD 52),.inLoop (OD 52),.inBlock 0,.code (OD 7)] ⟨[(0,(aK zN aE.d l)),(1,(aK ag aa.d nv)),(5,(aI i))],[],0⟩
theorem Cf (N l nv fuel):DI N l nv (iY N l nv fuel):=by
 induction fuel with
 | zero=>intro _ r h;rw [iY.eq_1] at h;cases h
 | succ fuel ih =>
  intro i r h E hE
  rw [iY.eq_2] at h
  refine ah hE 2 [] [] (kp [0,1,5,9]) [] 64 pn ?_
  refine dK 0 9 h (fun dQ h=>?_) (fun dQ h=>?_)
  ·obtain ⟨c,h⟩:=ab h
   obtain ⟨rE,hr,h⟩:=bq h
   obtain ⟨eT,eW,h⟩:=bq h
   refine ah hE 4 [(6,oT (.agg (ag rE))),(12,oT (aI eT))] [] (kp [0,1,5,25]) [] 288 (pc c (pc (wE _ _ _ _ hr) (pc c (pc (xV _ _ _ _ eW) pn)))) ?_
   refine dK 0 25 h (fun iZ h=>?_) (fun iZ h=>?_)
   ·refine ah hE 1 [] [] (kp [4]) [] 304 pn ?_
    obtain rfl:=dj h
    exact dw hE 0 Tryz.f15 [] (kp [4]) [] 304 pn [] pn
   ·refine ah hE 2 [] [] (kp [0,1,5]) [] 336 pn ?_
    exact dh hE 1 [] (kp [0,1,5]) [] 0 pn (ih _ _ h E hE)
  ·refine ah hE 2 [] [] (kp [4]) [] 80 pn ?_
   obtain rfl:=dj h
   exact dw hE 0 Tryz.f15 [] (kp [4]) [] 80 pn [] pn
theorem GN (N l nv r) (h:uH N l nv=some r):Sd 15 [(aK zN aE.d l),(aK ag aa.d nv)] [] 0 (aB r) []:=by
 unfold uH at h
 refine gX (fu:=Tryz.f15) (c:=OD 1) (nt:=26) (fun hm=>rfl) ?_
 intro E hE
 refine ah hE 1 [] [] (kp [0,1]) [] 16 pn ?_
 refine ah hE 2 [] [] (kp [0,1,5]) [] 32 pn ?_
 exact dh hE 2 [] (kp [0,1,5]) [] 0 pn (Cf N _ _ N _ _ h E hE)
noncomputable abbrev OE:=cy Tryz.f54
def J2 (N:Nat) (c:List aa) (x:List aa) (K:aa→Int→Option (aa)):Prop:=∀ (sum:aa) (x2:Int) (r:aa),K sum x2=some r→∀ E,aQ E 0→aw Tryz.prog E 54 26 (aY E [] (.agg (ag r))) [.code (OE 116),.inLoop (OE 116),.inBlock 0,.code (OE 15)] ⟨[(1,(aK ag aa.d x)),(4,(.op 0 0 0)),(5,(.op 1 0 0)),(9,(aK ag aa.d c)),(10,(aI ((c.length:Nat):Int))),(11,(aI x2))],[(0,vO 4 [(aB false),.nil,(aB false),.nil]),(1,vO 4 (ag sum))],2⟩
theorem H4 (N c x fuel):J2 N c x (nw N c x fuel):=by
 induction fuel with
 | zero=>intro _ _ r h;rw [nw.eq_1] at h;cases h
 | succ fuel ih =>
  intro sum x2 r h E hE
  rw [nw.eq_2] at h
  refine ah hE 1 [] [] (kp [1,4,5,9,10,11,12]) (kq [0,1]) 18 pn ?_
  refine dK 1 12 h (fun dQ h=>?_) (fun dQ h=>?_)
  ·obtain ⟨c2,h⟩:=ab h
   refine ah hE 4 [] [] (kp [1,4,5,6,7,9,10,11]) (kq [0,1,66]) 114 (pc c2 (pc o1 pn)) ?_
   obtain ⟨c3,h⟩:=ab h
   obtain ⟨cb,eW,h⟩:=bq h
   obtain ⟨a9,lL,h⟩:=bq h
   refine ah hE 0 [(6,oT (.agg (ag cb))),(7,oT (.agg (ag a9)))] [] (kp [1,4,5,9,10,11]) (kq [0,1]) 258 (pc o1 (pc o1 (pc c3 (pc (eK _ _ _ _ eW) (pc (eJ _ _ _ _ lL) (pc o1 pn)))))) ?_
   refine ah hE 1 [] [] (kp [1,4,5,9,10,11]) (kq [0,1]) 290 pn ?_
   exact dh hE 1 [] (kp [1,4,5,9,10,11]) (kq [0,1]) 2 pn (ih _ _ _ h E hE)
  ·refine ah hE 2 [] [] (kp [4]) (kq [0]) 50 (pc o1 (pc o1 pn)) ?_
   obtain rfl:=dj h
   exact dw hE 0 Tryz.f54 [] (kp [4]) [(16,.ai 0)] 50 pn [16] (pc o1 pn)
theorem GO (N c x r) (h:BV N c x=some r):Sd 54 [(aK ag aa.d c),(aK ag aa.d x)] [] 0 (.agg (ag r)) []:=by
 unfold BV at h
 refine gX (fu:=Tryz.f54) (c:=OE 1) (nt:=26) (fun hm=>rfl) ?_
 intro E hE
 refine ah hE 1 [] [] (kp [0,1,4]) (kq [0]) 16 pn ?_
 obtain ⟨ar,hr,h⟩:=bq h
 refine ah hE 1 [(0,oT (.agg (ag ar)))] [] (kp [0,1,4,5]) (kq [0,32]) 64 (pc (cX _ _ _ hr) (pc o1 pn)) ?_
 refine ah hE 2 [] [] (kp [1,4,5,9,10,11]) (kq [0,32]) 112 pn ?_
 exact dh hE 2 [] (kp [1,4,5,9,10,11]) (kq [0] ++ [(1,.ai 32)]) 2 pn (H4 N _ _ N _ _ _ h E hE)
noncomputable abbrev aan:=cy Tryz.f89
theorem Ba (N vr C0 r) (h:oS N vr C0=some r):Sd 89 [(.agg (zN vr)),(.op 0 0 0)] [(0,vO 1 [(aK ag aa.d C0)])] 1 (aB r) [(0,vO 1 [(aK ag aa.d C0)])]:=by
 unfold oS at h
 refine gX (fu:=Tryz.f89) (c:=aan 1) (nt:=12) (fun hm=>absurd hm (by decide)) ?_
 intro E hE
 refine ah hE 1 [] [] (kp [1,2]) (kq [0,1]) 33 pn ?_
 obtain ⟨Nd,hr,h⟩:=bq h
 obtain ⟨eT,eW,h⟩:=bq h
 refine ah hE 1 [(3,oT (.agg (ag Nd))),(6,oT (aI eT))] [] (kp [3]) (kq [0]) 177 (pc o1 (pc o1 (pc (GO _ _ _ _ hr) (pc o1 (pc (lr _ _ _ _ eW) pn))))) ?_
 obtain rfl:=dj h
 exact dw hE 0 Tryz.f89 [] (kp [3]) (kq [0]) 177 pn [] pn
noncomputable abbrev OF:=cy Tryz.f107
def qJ (N:Nat) (s:List aE) (C0:List aa) (K:Int→Option (Int)):Prop:=∀ (x:Int) (r:Int),K x=some r→∀ E,aQ E 1→aw Tryz.prog E 107 19 (aY E [(0,vO 1 [(aK ag aa.d C0)])] (aI r)) [.code (OF 52),.inLoop (OF 52),.inBlock 0,.code (OF 7)] ⟨[(0,(aK zN aE.d s)),(1,(.fn (.func 89) [] [(.op 0 0 0)])),(7,(aI ((s.length:Nat):Int))),(8,(aI x))],[(0,vO 1 [(aK ag aa.d C0)])],1⟩
theorem qt (N s C0 fuel):qJ N s C0 (bW N s C0 fuel):=by
 induction fuel with
 | zero=>intro _ r h;rw [bW.eq_1] at h;cases h
 | succ fuel ih =>
  intro x r h E hE
  rw [bW.eq_2] at h
  refine ah hE 1 [] [] (kp [0,1,7,8,9]) (kq [0]) 17 pn ?_
  refine dK 1 9 h (fun dQ h=>?_) (fun dQ h=>?_)
  ·refine ah hE 4 [] [] (kp [0,1,5,7,8]) (kq [0]) 49 pn ?_
   obtain ⟨c,h⟩:=ab h
   obtain ⟨yO,hr,h⟩:=bq h
   refine ah hE 1 [(5,⟨[0],true,(aB yO),[],0,false,none⟩)] [] (kp [0,1,5,7,8,16]) (kq [0]) 145 (pc c (pc (Ba _ _ _ _ hr) pn)) ?_
   refine dK 0 16 h (fun iZ h=>?_) (fun iZ h=>?_)
   ·refine ah hE 1 [] [] (kp [4]) (kq [0]) 177 pn ?_
    obtain rfl:=dj h
    exact dw hE 0 Tryz.f107 [] (kp [4]) (kq [0]) 177 pn [] pn
   ·refine ah hE 2 [] [] (kp [0,1,7,8]) (kq [0]) 177 pn ?_
    exact dh hE 1 [] (kp [0,1,7,8]) (kq [0]) 1 pn (ih _ _ h E hE)
  ·refine ah hE 2 [] [] (kp [4]) (kq [0]) 33 pn ?_
   obtain rfl:=dj h
   exact dw hE 0 Tryz.f107 [] (kp [4]) (kq [0]) 49 pn [] pn
theorem sw (N s C0 r) (h:kE N s C0=some r):Sd 107 [(aK zN aE.d s),(.fn (.func 89) [] [(.op 0 0 0)])] [(0,vO 1 [(aK ag aa.d C0)])] 1 (aI r) [(0,vO 1 [(aK ag aa.d C0)])]:=by
 unfold kE at h
 refine gX (fu:=Tryz.f107) (c:=OF 1) (nt:=19) (fun hm=>absurd hm (by decide)) ?_
 intro E hE
 refine ah hE 1 [] [] (kp [0,1]) (kq [0]) 17 pn ?_
 refine ah hE 2 [] [] (kp [0,1,7,8]) (kq [0]) 65 pn ?_
 exact dh hE 2 [] (kp [0,1,7,8]) (kq [0]) 1 pn (qt N _ _ N _ _ h E hE)
noncomputable abbrev aao:=cy Tryz.f70
theorem qu (N s C0 r) (h:jm N s C0=some r):Sd 70 [(aK zN aE.d s),(.fn (.func 89) [] [(.op 0 0 0)])] [(0,vO 1 [(aK ag aa.d C0)])] 1 (aB r) [(0,vO 1 [(aK ag aa.d C0)])]:=by
 unfold jm at h
 refine gX (fu:=Tryz.f70) (c:=aao 1) (nt:=9) (fun hm=>absurd hm (by decide)) ?_
 intro E hE
 refine ah hE 1 [] [] (kp [0,1]) (kq [0]) 17 pn ?_
 obtain ⟨AS,hr,h⟩:=bq h
 refine ah hE 1 [(2,⟨[0],true,(aI AS),[],0,false,none⟩)] [] (kp [4]) (kq [0]) 97 (pc (sw _ _ _ _ hr) pn) ?_
 obtain rfl:=dj h
 exact dw hE 0 Tryz.f70 [] (kp [4]) (kq [0]) 97 pn [] pn
noncomputable abbrev aap:=cy Tryz.f45
theorem wF (N l nv r) (h:oy N l nv=some r):Sd 45 [(aK zN aE.d l),(aK ag aa.d nv)] [] 0 (aB r) []:=by
 unfold oy at h
 refine gX (fu:=Tryz.f45) (c:=aap 1) (nt:=9) (fun hm=>rfl) ?_
 intro E hE
 refine ah hE 1 [] [] (kp [0,3]) (kq [0]) 32 pn ?_
 obtain ⟨AS,hr,h⟩:=bq h
 refine ah hE 1 [(2,⟨[0],true,(aB AS),[],0,false,none⟩)] [] (kp [4]) [] 112 (pc (qu _ _ _ _ hr) pn) ?_
 obtain rfl:=dj h
 exact dw hE 0 Tryz.f45 [] (kp [4]) [] 112 pn [] pn
noncomputable abbrev aaq:=cy Tryz.f18
theorem Cg (N l nv r) (h:qa N l nv=some r):Sd 18 [(aK zN aE.d l),(aK ag aa.d nv)] [] 0 (aI r) []:=by
 unfold qa at h
 refine gX (fu:=Tryz.f18) (c:=aaq 1) (nt:=17) (fun hm=>rfl) ?_
 intro E hE
 refine ah hE 1 [] [] (kp [0,1]) [] 16 pn ?_
 obtain ⟨bz,hr,h⟩:=bq h
 refine ah hE 2 [(3,oT (aI bz))] [] (kp [0,1,5]) [] 96 (pc (nZ _ _ _ _ hr) pn) ?_
 refine ah hE 1 [] [] (kp [0,1,5,11]) [] 128 pn ?_
 refine dK 0 11 h (fun dQ h=>?_) (fun dQ h=>?_)
 ·refine ah hE 1 [] [] (kp [4]) [] 160 pn ?_
  obtain rfl:=dj h
  exact dw hE 0 Tryz.f18 [] (kp [4]) [] 160 pn [] pn
 ·obtain ⟨dM,eW,h⟩:=bq h
  refine ah hE 3 [(2,oT (aB dM))] [] (kp [16]) [] 192 (pc (wF _ _ _ _ eW) pn) ?_
  refine dK 0 16 h (fun iZ h=>?_) (fun iZ h=>?_)
  ·refine ah hE 1 [] [] (kp [4]) [] 208 pn ?_
   obtain rfl:=dj h
   exact dw hE 0 Tryz.f18 [] (kp [4]) [] 208 pn [] pn
  ·refine ah hE 2 [] [] (kp [4]) [] 208 pn ?_
   obtain rfl:=dj h
   exact dw hE 0 Tryz.f18 [] (kp [4]) [] 208 pn [] pn
noncomputable abbrev wG:=cy Tryz.f46
def Ch (N:Nat) (n:Int) (l:List aE) (y:List aa) (K:(List aa)→Int→Option ((List aa)×aa×Bool)):Prop:=∀ (BW:List aa) (x:Int) (r:(List aa)×aa×Bool),K BW x=some r→∀ E,aQ E 0→aw Tryz.prog E 46 78 (aY E [] (.tup [(aK ag aa.d r.1),(.agg (ag r.2.1)),(aB r.2.2)])) [.code (wG 116),.inLoop (wG 116),.inBlock 0,.code (wG 15)] ⟨[(1,(aK zN aE.d l)),(2,(aK ag aa.d y)),(7,(.op 0 0 0)),(9,(.os 1 0 BW.length)),(19,(aI (((List.replicate ((n).toNat) aa.d:List aa).length:Nat):Int))),(20,(aI x))],[(0,vO 4 [(aB false),.nil,(aB false),.nil]),(1,aO 4 ag aa.d BW)],2⟩
def uN (N:Nat) (l:List aE) (y:List aa) (K:(List aa)→aa→Int→Option ((List aa)×aa×Bool)):Prop:=∀ (v7:List aa) (bound:aa) (x2:Int) (r:(List aa)×aa×Bool),K v7 bound x2=some r→∀ E,aQ E 0→aw Tryz.prog E 46 78 (aY E [] (.tup [(aK ag aa.d r.1),(.agg (ag r.2.1)),(aB r.2.2)])) [.code (wG 500),.inLoop (wG 500),.inBlock 2,.code (wG 63)] ⟨[(2,(aK ag aa.d y)),(7,(.op 0 0 0)),(9,(.os 1 0 v7.length)),(11,(.op 2 0 0)),(29,(aK zN aE.d l)),(30,(aI ((l.length:Nat):Int))),(31,(aI x2))],[(0,vO 4 [(aB false),.nil,(aB false),.nil]),(1,aO 4 ag aa.d v7),(2,vO 4 (ag bound))],3⟩
def Ci (N:Nat) (l:List aE) (y:List aa) (bound:aa) (x2:Int) (K:(List aa)→Int→Option ((List aa)×aa×Bool)):Prop:=∀ (sL:List aa) (x3:Int) (r:(List aa)×aa×Bool),K sL x3=some r→∀ E,aQ E 0→aw Tryz.prog E 46 78 (aY E [] (.tup [(aK ag aa.d r.1),(.agg (ag r.2.1)),(aB r.2.2)])) [.code (wG 512820),.inLoop (wG 512820),.inBlock 4,.code (wG 64103),.inBlock 3,.code (wG 4007),.inLoop (wG 500),.inBlock 2,.code (wG 63)] ⟨[(2,(aK ag aa.d y)),(7,(.op 0 0 0)),(9,(.os 1 0 sL.length)),(11,(.op 2 0 0)),(12,(aI x2)),(13,(.op 3 0 0)),(29,(aK zN aE.d l)),(30,(aI ((l.length:Nat):Int))),(31,(aI x2)),(44,(aK ag aa.d ((l.getD ((x2).toNat) aE.d).bj))),(45,(aI ((((l.getD ((x2).toNat) aE.d).bj).length:Nat):Int))),(46,(aI x3))],[(0,vO 4 [(aB false),.nil,(aB false),.nil]),(1,aO 4 ag aa.d sL),(2,vO 4 (ag bound)),(3,vO 5 (zN (l.getD ((x2).toNat) aE.d)))],4⟩
theorem Bb (N:Nat) (l:List aE) (y:List aa) (bound:aa) (x2:Int) (lh:(List aa)→aa→Int→Option ((List aa)×aa×Bool)) (Bc:uN N l y lh) (fuel:Nat):Ci N l y bound x2 (gU N l y bound x2 lh fuel):=by
 induction fuel with
 | zero=>intro _ _ r h;rw [gU.eq_1] at h;cases h
 | succ fuel ih =>
  intro sL x3 r h E hE
  rw [gU.eq_2] at h
  refine ah hE 1 [] [] (kp [2,7,9,11,12,13,29,30,31,44,45,46,47]) (kq [0,1,2,3]) 20 pn ?_
  refine dK 1 47 h (fun Eu h=>?_) (fun Eu h=>?_)
  ·obtain ⟨c5,h⟩:=ab h
   refine ah hE 4 [] [] (kp [2,7,9,11,12,13,14,15,29,30,31,44,45,46]) (kq [0,1,2,3,68]) 116 (pc c5 (pc o1 pn)) ?_
   obtain ⟨c6,h⟩:=ab h
   obtain ⟨c7,h⟩:=ab h
   obtain ⟨cb,px,h⟩:=bq h
   obtain ⟨a9,uI,h⟩:=bq h
   refine ah hE 0 [(11,oT (.agg (ag cb))),(12,oT (.agg (ag a9)))] [] (kp [2,7] ++ [(9,.lO ((sL.set ((x3).toNat) a9).length))] ++ kp [11,12,13,29,30,31,44,45,46]) (kq [0] ++ [(1,.arr 1 ((sL.set ((x3).toNat) a9).length) (fun zi=>ag ((sL.set ((x3).toNat) a9).getD zi aa.d)))] ++ kq [2,3]) 356 (pc c6 (pc (dm c6) (pc c7 (pc o1 (pc (eK _ _ _ _ px) (pc (eJ _ _ _ _ uI) (pc c6 (pc (dm c6) (pc (aG sL ((x3).toNat) a9) (pc (aG sL ((x3).toNat) a9) (pc (cH ag aa.d sL ((x3).toNat) a9) pn))))))))))) ?_
   refine ah hE 1 [] [] (kp [2,7,9,11,12,13,29,30,31,44,45,46]) (kq [0,1,2,3]) 388 pn ?_
   exact dh hE 1 [] (kp [2,7,9,11,12,13,29,30,31,44,45,46]) (kq [0,1,2,3]) 4 pn (ih _ _ _ h E hE)
  ·obtain ⟨c8,h⟩:=ab h
   obtain ⟨gJ,yT,h⟩:=bq h
   obtain ⟨dg,Ag,h⟩:=bq h
   refine ah hE 1 [(7,oT (.agg (ag gJ))),(8,oT (.agg (ag dg)))] [] (kp [2,7,9,11,29,30,31]) (kq [0,1,2]) 180 (pc o1 (pc c8 (pc o1 (pc (eK _ _ _ _ yT) (pc (eJ _ _ _ _ Ag) (pc o1 pn)))))) ?_
   refine ah hE 1 [] [] (kp [2,7,9,11,29,30,31]) (kq [0,1,2]) 212 pn ?_
   exact dh hE 1 [] (kp [2,7,9,11,29,30,31]) (kq [0,1,2]) 3 pn (Bc _ _ _ _ h E hE)
theorem Bd (N l y fuel):uN N l y (ey N l y fuel):=by
 induction fuel with
 | zero=>intro _ _ _ r h;rw [ey.eq_1] at h;cases h
 | succ fuel ih =>
  intro v7 bound x2 r h E hE
  rw [ey.eq_2] at h
  refine ah hE 1 [] [] (kp [2,7,9,11,29,30,31,32]) (kq [0,1,2]) 19 pn ?_
  refine dK 1 32 h (fun iZ h=>?_) (fun iZ h=>?_)
  ·obtain ⟨c3,h⟩:=ab h
   refine ah hE 4 [] [] (kp [2,7,9,11,12,13,29,30,31]) (kq [0,1,2,67]) 115 (pc c3 (pc o1 pn)) ?_
   obtain ⟨c4,h⟩:=ab h
   obtain ⟨an,lL,h⟩:=bq h
   refine ah hE 2 [(4,oT (aI an))] [] (kp [2,7,9,11,12,13,29,30,31,41]) (kq [0,1,2,67]) 211 (pc c4 (pc (iH _ _ _ lL) pn)) ?_
   refine dK 0 41 h (fun qq h=>?_) (fun qq h=>?_)
   ·refine ah hE 1 [] [] (kp [6,7,8]) (kq [0]) 275 (pc o1 (pc o1 pn)) ?_
    obtain rfl:=dj h
    exact dw hE 0 Tryz.f46 [] ([(6,.sl (([]:List aa).length) (fun zi=>ag (([]:List aa).getD zi aa.d)))] ++ kp [7,8]) [(17,.ai 0)] 275 (pc (Eq.refl 0) pn) [17] (pc o1 pn)
   ·refine ah hE 3 [] [] (kp [2,7,9,11,12,13,29,30,31,44,45,46]) (kq [0,1,2,67]) 275 (pc o1 pn) ?_
    exact dh hE 2 [] (kp [2,7,9,11,12,13,29,30,31,44,45,46]) (kq [0,1,2] ++ [(3,.ai 67)]) 4 pn (Bb N _ _ _ _ _ ih N _ _ _ h E hE)
  ·refine ah hE 2 [] [] (kp [6,7,8]) (kq [0,1]) 99 (pc o1 (pc o1 pn)) ?_
   obtain rfl:=dj h
   exact dw hE 0 Tryz.f46 [1] ([(6,.sl (v7.length) (fun zi=>ag (v7.getD zi aa.d)))] ++ kp [7,8]) [(17,.ai 0)] 99 (pc (Eq.refl v7.length) (pc (z1 v7.length) (pc (aZ v7.length (fun zi=>ag (v7.getD zi aa.d))) pn))) [17] (pc o1 pn)
theorem Be (N n l y fuel):Ch N n l y (gV N n l y fuel):=by
 induction fuel with
 | zero=>intro _ _ r h;rw [gV.eq_1] at h;cases h
 | succ fuel ih =>
  intro BW x r h E hE
  rw [gV.eq_2] at h
  refine ah hE 1 [] [] (kp [1,2,7,9,19,20,21]) (kq [0,1]) 18 pn ?_
  refine dK 1 21 h (fun dQ h=>?_) (fun dQ h=>?_)
  ·refine ah hE 4 [] [] (kp [1,2,7,9,10,19,20]) (kq [0,1]) 50 pn ?_
   obtain ⟨ar,hr,h⟩:=bq h
   obtain ⟨c2,h⟩:=ab h
   refine ah hE 0 [(2,oT (.agg (ag ar)))] [] (kp [1,2,7] ++ [(9,.lO ((BW.set ((x).toNat) ar).length))] ++ kp [19,20]) (kq [0] ++ [(1,.arr 1 ((BW.set ((x).toNat) ar).length) (fun zi=>ag ((BW.set ((x).toNat) ar).getD zi aa.d)))]) 130 (pc (cX _ _ _ hr) (pc c2 (pc (dm c2) (pc (aG BW ((x).toNat) ar) (pc (aG BW ((x).toNat) ar) (pc (cH ag aa.d BW ((x).toNat) ar) pn)))))) ?_
   refine ah hE 1 [] [] (kp [1,2,7,9,19,20]) (kq [0,1]) 162 pn ?_
   exact dh hE 1 [] (kp [1,2,7,9,19,20]) (kq [0,1]) 2 pn (ih _ _ _ h E hE)
  ·obtain ⟨dV,eW,h⟩:=bq h
   refine ah hE 2 [(0,oT (.agg (ag dV)))] [] (kp [1,2,7,9,11]) (kq [0,1,34]) 66 (pc (cX _ _ _ eW) (pc o1 pn)) ?_
   refine ah hE 2 [] [] (kp [2,7,9,11,29,30,31]) (kq [0,1,34]) 114 pn ?_
   exact dh hE 2 [] (kp [2,7,9,11,29,30,31]) (kq [0,1] ++ [(2,.ai 34)]) 3 pn (Bd N _ _ N _ _ _ _ h E hE)
theorem xW (N n l y r) (h:qc N n l y=some r):Sd 46 [(aI n),(aK zN aE.d l),(aK ag aa.d y)] [] 0 (.tup [(aK ag aa.d r.1),(.agg (ag r.2.1)),(aB r.2.2)]) []:=by
 unfold qc at h
 refine gX (fu:=Tryz.f46) (c:=wG 1) (nt:=78) (fun hm=>rfl) ?_
 intro E hE
 refine ah hE 1 [] [] (kp [0,1,2,7]) (kq [16]) 48 pn ?_
 obtain ⟨c,h⟩:=ab h
 refine ah hE 1 [] [] (kp [1,2,7] ++ [(9,.lO ((List.replicate ((n).toNat) aa.d:List aa).length))]) (kq [16] ++ [(64,.RJ 64 ((List.replicate ((n).toNat) aa.d:List aa).length) (fun zi=>ag ((List.replicate ((n).toNat) aa.d:List aa).getD zi aa.d)))]) 96 (pc (show 0≤n from c.1) (pc (show n≤n from (Int.le_refl _)) (pc (show (64:Int) * n≤281474976710656 from c.2.1) (pc (show n≤9223372036854775807 from c.2.2) (pc (show (n).toNat=(List.replicate ((n).toNat) aa.d:List aa).length from (de).symm) (pc (show (List.replicate ((n).toNat) aa.d:List aa).length≤(n).toNat from (Nat.le_of_eq (Eq.symm ((de).symm)))) (pc (show ∀ zi,zi < (List.replicate ((n).toNat) aa.d:List aa).length→Ks ((fun _=>[(aB false),.nil,(aB false),.nil]) zi) ((fun zi=>ag ((List.replicate ((n).toNat) aa.d:List aa).getD zi aa.d)) zi) from (fun zq j8=>oZ ag aa.d aa.d ((n).toNat) zq ⟨.inl rfl,.inr ⟨rfl,_,rfl⟩,.inl rfl,.inr ⟨rfl,_,rfl⟩,trivial⟩ j8)) pn))))))) ?_
 refine ah hE 2 [] [] (kp [1,2,7,9,19,20]) (kq [16,64]) 144 pn ?_
 exact dh hE 2 [] (kp [1,2,7,9,19,20]) [(0,.ai 16),(1,.ai 64)] 2 pn (Be N _ _ _ N _ _ _ h E hE)
noncomputable abbrev aar:=cy Tryz.f49
theorem s6 (N x r) (h:iG N x=some r):Sd 49 [(.agg (ag x))] [] 0 (aB r) []:=by
 unfold iG at h
 refine gX (fu:=Tryz.f49) (c:=aar 1) (nt:=6) (fun hm=>rfl) ?_
 intro E hE
 refine ah hE 1 [] [] (kp [1]) (kq [0]) 32 pn ?_
 obtain ⟨eS,hr,h⟩:=bq h
 refine ah hE 1 [(1,oT (aB eS))] [] (kp [2]) [] 96 (pc o1 (pc (gD _ _ _ hr) pn)) ?_
 obtain rfl:=dj h
 exact dw hE 0 Tryz.f49 [] (kp [2]) [] 96 pn [] pn
noncomputable abbrev OG:=cy Tryz.f76
def qK (N:Nat) (s:List aa) (K:Int→Option (Int)):Prop:=∀ (x:Int) (r:Int),K x=some r→∀ E,aQ E 0→aw Tryz.prog E 76 19 (aY E [] (aI r)) [.code (OG 52),.inLoop (OG 52),.inBlock 0,.code (OG 7)] ⟨[(0,(aK ag aa.d s)),(1,(.fn (.func 49) [] [])),(7,(aI ((s.length:Nat):Int))),(8,(aI x))],[],0⟩
theorem qw (N s fuel):qK N s (bX N s fuel):=by
 induction fuel with
 | zero=>intro _ r h;rw [bX.eq_1] at h;cases h
 | succ fuel ih =>
  intro x r h E hE
  rw [bX.eq_2] at h
  refine ah hE 1 [] [] (kp [0,1,7,8,9]) [] 16 pn ?_
  refine dK 1 9 h (fun dQ h=>?_) (fun dQ h=>?_)
  ·refine ah hE 4 [] [] (kp [0,1,5,7,8]) [] 48 pn ?_
   obtain ⟨c,h⟩:=ab h
   obtain ⟨lq,hr,h⟩:=bq h
   refine ah hE 1 [(5,oT (aB lq))] [] (kp [0,1,5,7,8,16]) [] 144 (pc c (pc (s6 _ _ _ hr) pn)) ?_
   refine dK 0 16 h (fun iZ h=>?_) (fun iZ h=>?_)
   ·refine ah hE 1 [] [] (kp [4]) [] 176 pn ?_
    obtain rfl:=dj h
    exact dw hE 0 Tryz.f76 [] (kp [4]) [] 176 pn [] pn
   ·refine ah hE 2 [] [] (kp [0,1,7,8]) [] 176 pn ?_
    exact dh hE 1 [] (kp [0,1,7,8]) [] 0 pn (ih _ _ h E hE)
  ·refine ah hE 2 [] [] (kp [4]) [] 32 pn ?_
   obtain rfl:=dj h
   exact dw hE 0 Tryz.f76 [] (kp [4]) [] 48 pn [] pn
theorem sx (N s r) (h:kF N s=some r):Sd 76 [(aK ag aa.d s),(.fn (.func 49) [] [])] [] 0 (aI r) []:=by
 unfold kF at h
 refine gX (fu:=Tryz.f76) (c:=OG 1) (nt:=19) (fun hm=>rfl) ?_
 intro E hE
 refine ah hE 1 [] [] (kp [0,1]) [] 16 pn ?_
 refine ah hE 2 [] [] (kp [0,1,7,8]) [] 64 pn ?_
 exact dh hE 2 [] (kp [0,1,7,8]) [] 0 pn (qw N _ N _ _ h E hE)
noncomputable abbrev aas:=cy Tryz.f48
theorem sy (N s r) (h:hH N s=some r):Sd 48 [(aK ag aa.d s),(.fn (.func 49) [] [])] [] 0 (aB r) []:=by
 unfold hH at h
 refine gX (fu:=Tryz.f48) (c:=aas 1) (nt:=9) (fun hm=>rfl) ?_
 intro E hE
 refine ah hE 1 [] [] (kp [0,1]) [] 16 pn ?_
 obtain ⟨Gf,hr,h⟩:=bq h
 refine ah hE 1 [(2,oT (aI Gf))] [] (kp [4]) [] 96 (pc (sx _ _ _ hr) pn) ?_
 obtain rfl:=dj h
 exact dw hE 0 Tryz.f48 [] (kp [4]) [] 96 pn [] pn
noncomputable abbrev aat:=cy Tryz.f19
theorem uy (N n l rF r) (h:jG N n l rF=some r):Sd 19 [(aI n),(aK zN aE.d l),(aK ag aa.d rF)] [] 0 (aI r) []:=by
 unfold jG at h
 refine gX (fu:=Tryz.f19) (c:=aat 1) (nt:=41) (fun hm=>rfl) ?_
 intro E hE
 refine ah hE 1 [] [] (kp [0,1,2]) [] 16 pn ?_
 obtain ⟨bz,hr,h⟩:=bq h
 refine ah hE 2 [(2,oT (aI bz))] [] (kp [0,1,2,7]) [] 80 (pc (nZ _ _ _ _ hr) pn) ?_
 refine ah hE 1 [] [] (kp [0,1,2,7,15]) [] 112 pn ?_
 refine dK 0 15 h (fun dQ h=>?_) (fun dQ h=>?_)
 ·refine ah hE 1 [] [] (kp [6]) [] 144 pn ?_
  obtain rfl:=dj h
  exact dw hE 0 Tryz.f19 [] (kp [6]) [] 144 pn [] pn
 ·refine ah hE 3 [] [] (kp [0,1,2,21]) [] 192 pn ?_
  refine dK 0 21 h (fun iZ h=>?_) (fun iZ h=>?_)
  ·refine ah hE 1 [] [] (kp [6]) [] 208 pn ?_
   obtain rfl:=dj h
   exact dw hE 0 Tryz.f19 [] (kp [6]) [] 208 pn [] pn
  ·obtain ⟨ba,eW,h⟩:=bq h
   refine ah hE 2 [(3,oT (.tup [(aK ag aa.d ba.1),(.agg (ag ba.2.1)),(aB ba.2.2)]))] [] (kp [8,9,10]) (kq [320]) 384 (pc (xW _ _ _ _ _ eW) (pc o1 pn)) ?_
   obtain ⟨an,lL,h⟩:=bq h
   obtain ⟨Gf,px,h⟩:=bq h
   refine ah hE 2 [(4,oT (aI an)),(9,oT (aB Gf))] [] (kp [40]) [] 560 (pc (fun hg:(!(!ba.2.2))=true=>(pc o1 pn)) (pc (fun hg:(!(!ba.2.2))=true=>(pc (iH _ _ _ (ax lL hg)) (pc hg pn))) (pc (fun hg:(!(!ba.2.2))=true=>(pc hg pn)) (pc (fun hq:(!(!ba.2.2))=true=>(pc hq pn)) (pc (fun hg:(!(cond (!ba.2.2) true (decide (an≥0))))=true=>(pc (sy _ _ _ (ax px hg)) (pc hg pn))) (pc (fun hq:(!(cond (!ba.2.2) true (decide (an≥0))))=true=>(pc hq pn)) pn)))))) ?_
   refine dK 0 40 h (fun qq h=>?_) (fun qq h=>?_)
   ·refine ah hE 1 [] [] (kp [6]) [] 576 pn ?_
    obtain rfl:=dj h
    exact dw hE 0 Tryz.f19 [] (kp [6]) [] 576 pn [] pn
   ·refine ah hE 2 [] [] (kp [6]) [] 576 pn ?_
    obtain rfl:=dj h
    exact dw hE 0 Tryz.f19 [] (kp [6]) [] 576 pn [] pn
noncomputable abbrev OH:=cy Tryz.f21
def Bf (N:Nat) (ae:List aa) (ba:(List aa)×aa×Bool) (K:Int→Option (Int)):Prop:=∀ (x:Int) (r:Int),K x=some r→∀ E,aQ E 0→aw Tryz.prog E 21 85 (aY E [] (aI r)) [.code (OH 2036),.inLoop (OH 2036),.inBlock 0,.code (OH 255)] ⟨[(0,(aK ag aa.d ae)),(9,(aK ag aa.d ba.1)),(70,(aI ((ba.1.length:Nat):Int))),(71,(aI x))],[],0⟩
theorem Al (N ae ba fuel):Bf N ae ba (gn N ae ba fuel):=by
 induction fuel with
 | zero=>intro _ r h;rw [gn.eq_1] at h;cases h
 | succ fuel ih =>
  intro x r h E hE
  rw [gn.eq_2] at h
  refine ah hE 1 [] [] (kp [0,9,70,71,72]) [] 16 pn ?_
  refine dK 1 72 h (fun Eu h=>?_) (fun Eu h=>?_)
  ·refine ah hE 4 [] [] (kp [0,9,12,70,71]) [] 48 pn ?_
   obtain ⟨c,h⟩:=ab h
   obtain ⟨c2,h⟩:=ab h
   obtain ⟨Gk,Ag,h⟩:=bq h
   refine ah hE 1 [(8,oT (aI Gk))] [] (kp [0,9,70,71,83]) [] 208 (pc c (pc c2 (pc (lr _ _ _ _ Ag) pn))) ?_
   refine dK 0 83 h (fun Nf h=>?_) (fun Nf h=>?_)
   ·refine ah hE 1 [] [] (kp [6]) [] 224 pn ?_
    obtain rfl:=dj h
    exact dw hE 0 Tryz.f21 [] (kp [6]) [] 224 pn [] pn
   ·refine ah hE 2 [] [] (kp [0,9,70,71]) [] 240 pn ?_
    exact dh hE 1 [] (kp [0,9,70,71]) [] 0 pn (ih _ _ h E hE)
  ·refine ah hE 2 [] [] (kp [6]) [] 32 pn ?_
   obtain rfl:=dj h
   exact dw hE 0 Tryz.f21 [] (kp [6]) [] 48 pn [] pn
theorem wH (N ae l b r) (h:mz N ae l b=some r):Sd 21 [(aK ag aa.d ae),(aK zN aE.d l),(.agg (j4.cells b))] [] 0 (aI r) []:=by
 unfold mz at h
 refine gX (fu:=Tryz.f21) (c:=OH 1) (nt:=85) (fun hm=>rfl) ?_
 intro E hE
 refine ah hE 1 [] [] (kp [0,1,5]) (kq [0]) 32 pn ?_
 refine ah hE 1 [] [] (kp [0,1,5,7]) (kq [0]) 80 pn ?_
 obtain ⟨bz,hr,h⟩:=bq h
 refine ah hE 2 [(2,oT (aI bz))] [] (kp [0,1,5,7,8]) (kq [0]) 144 (pc (nZ _ _ _ _ hr) pn) ?_
 refine ah hE 1 [] [] (kp [0,1,5,7,8,19]) (kq [0]) 176 pn ?_
 refine dK 0 19 h (fun dQ h=>?_) (fun dQ h=>?_)
 ·refine ah hE 1 [] [] (kp [6]) [] 208 pn ?_
  obtain rfl:=dj h
  exact dw hE 0 Tryz.f21 [] (kp [6]) [] 208 pn [] pn
 ·refine ah hE 3 [] [] (kp [0,1,5,7,33]) (kq [0]) 384 (pc o1 (pc (fun hg:(!(((b.cu.length:Nat):Int) != ((ae.length:Nat):Int)))=true=>(pc hg (pc o1 pn))) (pc (fun hg:(!(((b.cu.length:Nat):Int) != ((ae.length:Nat):Int)))=true=>(pc hg pn)) (pc (fun hg:(!(((b.cu.length:Nat):Int) != ((ae.length:Nat):Int)))=true=>(pc hg pn)) (pc (fun hg:(!(((b.cu.length:Nat):Int) != ((ae.length:Nat):Int)))=true=>(pc hg (pc hg pn))) (pc (fun hq:(!(((b.cu.length:Nat):Int) != ((ae.length:Nat):Int)))=true=>(pc hq pn)) pn)))))) ?_
  refine dK 0 33 h (fun iZ h=>?_) (fun iZ h=>?_)
  ·refine ah hE 1 [] [] (kp [6]) [] 400 pn ?_
   obtain rfl:=dj h
   exact dw hE 0 Tryz.f21 [] (kp [6]) [] 400 pn [] pn
  ·obtain ⟨ba,eW,h⟩:=bq h
   refine ah hE 2 [(4,oT (.tup [(aK ag aa.d ba.1),(.agg (ag ba.2.1)),(aB ba.2.2)]))] [] (kp [0,1,5,9,10,11]) (kq [0,528]) 592 (pc o1 (pc (xW _ _ _ _ _ eW) (pc o1 pn))) ?_
   obtain ⟨dM,lL,h⟩:=bq h
   obtain ⟨Nd,px,h⟩:=bq h
   obtain ⟨eT,uI,h⟩:=bq h
   obtain ⟨lK,yT,h⟩:=bq h
   refine ah hE 2 [(6,oT (aB dM)),(13,oT (.agg (ag Nd))),(16,oT (aI eT)),(23,oT (aI lK))] [] (kp [0,9,68]) [] 1008 (pc (fun hg:(!(!ba.2.2))=true=>(pc hg (pc o1 pn))) (pc (fun hg:(!(!ba.2.2))=true=>(pc (wF _ _ _ _ (ax lL hg)) (pc hg (pc hg pn)))) (pc (fun hg:(!(!ba.2.2))=true=>(pc hg pn)) (pc (fun hq:(!(!ba.2.2))=true=>(pc hq pn)) (pc (fun hg:(!(cond (!ba.2.2) true (!dM)))=true=>(pc hg (pc o1 pn))) (pc (fun hg:(!(cond (!ba.2.2) true (!dM)))=true=>(pc (GO _ _ _ _ (ax px hg)) (pc hg (pc hg pn)))) (pc (fun hg:(!(cond (!ba.2.2) true (!dM)))=true=>(pc hg (pc o1 pn))) (pc (fun hg:(!(cond (!ba.2.2) true (!dM)))=true=>(pc (lr _ _ _ _ (ax uI hg)) (pc hg (pc hg pn)))) (pc (fun hg:(!(cond (!ba.2.2) true (!dM)))=true=>(pc hg pn)) (pc (fun hq:(!(cond (!ba.2.2) true (!dM)))=true=>(pc hq pn)) (pc (fun hg:(!(cond (cond (!ba.2.2) true (!dM)) true (eT != 0)))=true=>(pc o1 pn)) (pc (fun hg:(!(cond (cond (!ba.2.2) true (!dM)) true (eT != 0)))=true=>(pc hg (pc o1 pn))) (pc (fun hg:(!(cond (cond (!ba.2.2) true (!dM)) true (eT != 0)))=true=>(pc (lr _ _ _ _ (ax yT hg)) (pc hg (pc hg pn)))) (pc (fun hg:(!(cond (cond (!ba.2.2) true (!dM)) true (eT != 0)))=true=>(pc hg pn)) (pc (fun hq:(!(cond (cond (!ba.2.2) true (!dM)) true (eT != 0)))=true=>(pc hq pn)) pn))))))))))))))) ?_
   refine dK 0 68 h (fun qq h=>?_) (fun qq h=>?_)
   ·refine ah hE 1 [] [] (kp [6]) [] 1024 pn ?_
    obtain rfl:=dj h
    exact dw hE 0 Tryz.f21 [] (kp [6]) [] 1024 pn [] pn
   ·refine ah hE 3 [] [] (kp [0,9,70,71]) [] 1056 pn ?_
    exact dh hE 2 [] (kp [0,9,70,71]) [] 0 pn (Al N _ _ N _ _ h E hE)
noncomputable abbrev aau:=cy Tryz.f4
theorem xx (N ae l other r) (h:gN N ae l other=some r):Sd 4 [(aK ag aa.d ae),(aK zN aE.d l),(.agg (j4.cells other))] [] 0 (aB r) []:=by
 unfold gN at h
 refine gX (fu:=Tryz.f4) (c:=aau 1) (nt:=142) (fun hm=>rfl) ?_
 intro E hE
 refine ah hE 1 [] [] (kp [0,1,5]) (kq [0]) 32 pn ?_
 refine ah hE 1 [] [] (kp [0,1,5,7]) (kq [0,96]) 128 (pc o1 pn) ?_
 obtain ⟨e8,hr,h⟩:=bq h
 obtain ⟨eC,eW,h⟩:=bq h
 obtain ⟨eI,lL,h⟩:=bq h
 obtain ⟨gp,px,h⟩:=bq h
 obtain ⟨rz,uI,h⟩:=bq h
 obtain ⟨bz,yT,h⟩:=bq h
 refine ah hE 2 [(1,oT (aB e8)),(5,oT (aB eC)),(10,oT (aB eI)),(15,oT (aB gp)),(20,oT (aB rz)),(34,oT (aI bz))] [] (kp [0,1,5,7,52]) (kq [0,96]) 720 (pc o1 (pc (wv _ _ _ hr) (pc (fun hg:(!(!e8))=true=>(pc (qI _ _ _ _ (ax eW hg)) (pc hg pn))) (pc (fun hq:(!(!e8))=true=>(pc hq pn)) (pc (fun hg:(!(cond (!e8) true eC))=true=>(pc hg (pc o1 pn))) (pc (fun hg:(!(cond (!e8) true eC))=true=>(pc (qI _ _ _ _ (ax lL hg)) (pc hg pn))) (pc (fun hq:(!(cond (!e8) true eC))=true=>(pc hq pn)) (pc (fun hg:(!(cond (cond (!e8) true eC) true eI))=true=>(pc hg (pc o1 pn))) (pc (fun hg:(!(cond (cond (!e8) true eC) true eI))=true=>(pc (qI _ _ _ _ (ax px hg)) (pc hg pn))) (pc (fun hq:(!(cond (cond (!e8) true eC) true eI))=true=>(pc hq pn)) (pc (fun hg:(!(cond (cond (cond (!e8) true eC) true eI) true gp))=true=>(pc hg (pc o1 pn))) (pc (fun hg:(!(cond (cond (cond (!e8) true eC) true eI) true gp))=true=>(pc (Ay _ _ _ (ax uI hg)) (pc hg pn))) (pc (fun hq:(!(cond (cond (cond (!e8) true eC) true eI) true gp))=true=>(pc hq pn)) (pc (fun hg:(!(cond (cond (cond (cond (!e8) true eC) true eI) true gp) true rz))=true=>(pc hg (pc o1 pn))) (pc (fun hg:(!(cond (cond (cond (cond (!e8) true eC) true eI) true gp) true rz))=true=>(pc hg pn)) (pc (fun hg:(!(cond (cond (cond (cond (!e8) true eC) true eI) true gp) true rz))=true=>(pc hg (pc o1 pn))) (pc (fun hg:(!(cond (cond (cond (cond (!e8) true eC) true eI) true gp) true rz))=true=>(pc hg (pc hg pn))) (pc (fun hq:(!(cond (cond (cond (cond (!e8) true eC) true eI) true gp) true rz))=true=>(pc hq pn)) (pc (fun hg:(!(cond (cond (cond (cond (cond (!e8) true eC) true eI) true gp) true rz) true (((other.cu.length:Nat):Int) != ((ae.length:Nat):Int))))=true=>(pc hg (pc o1 pn))) (pc (fun hg:(!(cond (cond (cond (cond (cond (!e8) true eC) true eI) true gp) true rz) true (((other.cu.length:Nat):Int) != ((ae.length:Nat):Int))))=true=>(pc (tV _ _ _ _ (ax yT hg)) (pc hg (pc hg pn)))) (pc (fun hg:(!(cond (cond (cond (cond (cond (!e8) true eC) true eI) true gp) true rz) true (((other.cu.length:Nat):Int) != ((ae.length:Nat):Int))))=true=>(pc hg pn)) (pc (fun hq:(!(cond (cond (cond (cond (cond (!e8) true eC) true eI) true gp) true rz) true (((other.cu.length:Nat):Int) != ((ae.length:Nat):Int))))=true=>(pc hq pn)) pn)))))))))))))))))))))) ?_
 refine dK 0 52 h (fun dQ h=>?_) (fun dQ h=>?_)
 ·obtain ⟨Gl,Ag,h⟩:=bq h
  refine ah hE 1 [(0,oT (aB Gl))] [] (kp [6]) [] 752 (pc (qg _ _ Ag) pn) ?_
  obtain rfl:=dj h
  exact dw hE 0 Tryz.f4 [] (kp [6]) [] 752 pn [] pn
 ·obtain ⟨aF,HT,h⟩:=bq h
  refine ah hE 2 [(3,oT (aI aF))] [] (kp [0,1,5,7,8]) (kq [0,96]) 816 (pc o1 (pc (Cg _ _ _ _ HT) pn)) ?_
  obtain ⟨ny,HS,h⟩:=bq h
  obtain ⟨lq,A4,h⟩:=bq h
  refine ah hE 2 [(4,oT (aB ny)),(14,oT (aI lq))] [] (kp [0,1,5,8,76]) (kq [0]) 1104 (pc o1 (pc (GN _ _ _ _ HS) (pc (fun hg:((!(!((aF == 0) == ny))) && ((!(!((aF == 0) == ny))) && (aF == 0)))=true=>(pc hg (pc o1 pn))) (pc (fun hg:((!(!((aF == 0) == ny))) && ((!(!((aF == 0) == ny))) && (aF == 0)))=true=>(pc hg (pc o1 pn))) (pc (fun hg:((!(!((aF == 0) == ny))) && ((!(!((aF == 0) == ny))) && (aF == 0)))=true=>(pc (uy _ _ _ _ _ (ax A4 hg)) (pc hg (pc hg (pc hg pn))))) (pc (fun hg:((!(!((aF == 0) == ny))) && ((!(!((aF == 0) == ny))) && (aF == 0)))=true=>(pc hg pn)) (pc (fun hg:(!(!((aF == 0) == ny)))=true=>(pc hg (pc hg (pc (fun hq:(aF == 0)=true=>(pc (show ((!(!((aF == 0) == ny))) && ((!(!((aF == 0) == ny))) && (aF == 0)))=true from (uE hg (uE hg hq))) pn)) pn)))) (pc (fun hq:(!(!((aF == 0) == ny)))=true=>(pc hq pn)) pn)))))))) ?_
  refine dK 0 76 h (fun iZ h=>?_) (fun iZ h=>?_)
  ·refine ah hE 1 [] [] (kp [6]) [] 1120 pn ?_
   obtain rfl:=dj h
   exact dw hE 0 Tryz.f4 [] (kp [6]) [] 1120 pn [] pn
  ·obtain ⟨rE,GH,h⟩:=bq h
   refine ah hE 2 [(3,oT (.agg (ag rE)))] [] (kp [0,1,5,8,9]) (kq [0,1168]) 1200 (pc o1 (pc (wE _ _ _ _ GH) (pc o1 pn))) ?_
   obtain ⟨mb,Nj,h⟩:=bq h
   obtain ⟨eT,Nk,h⟩:=bq h
   refine ah hE 2 [(11,oT (aI mb)),(18,oT (aI eT))] [] (kp [0,1,8,9,101]) (kq [1168]) 1536 (pc (fun hg:(aF == 0)=true=>(pc hg (pc o1 pn))) (pc (fun hg:(aF == 0)=true=>(pc hg (pc o1 pn))) (pc (fun hg:(aF == 0)=true=>(pc hg (pc o1 pn))) (pc (fun hg:(aF == 0)=true=>(pc hg (pc hg (pc hg pn)))) (pc (fun hg:(aF == 0)=true=>(pc (wH _ _ _ _ _ (ax Nj hg)) (pc hg (pc hg (pc hg pn))))) (pc (fun hg:(aF == 0)=true=>(pc hg pn)) (pc (fun hq:(aF == 0)=true=>(pc hq pn)) (pc (fun hg:(cond (aF == 0) (mb == 0) false)=true=>(pc hg (pc o1 pn))) (pc (fun hg:(cond (aF == 0) (mb == 0) false)=true=>(pc o1 pn)) (pc (fun hg:(cond (aF == 0) (mb == 0) false)=true=>(pc (xV _ _ _ _ (ax Nk hg)) (pc hg (pc hg pn)))) (pc (fun hg:(cond (aF == 0) (mb == 0) false)=true=>(pc hg pn)) (pc (fun hq:(cond (aF == 0) (mb == 0) false)=true=>(pc hq pn)) pn)))))))))))) ?_
   refine dK 0 101 h (fun qq h=>?_) (fun qq h=>?_)
   ·refine ah hE 1 [] [] (kp [6]) [] 1552 pn ?_
    obtain rfl:=dj h
    exact dw hE 0 Tryz.f4 [] (kp [6]) [] 1552 pn [] pn
   ·obtain ⟨fI,Nl,h⟩:=bq h
    refine ah hE 2 [(2,oT (.tup [(.agg (j4.cells fI.1)),(aI fI.2)]))] [] (kp [0,1,8,9,10,11]) (kq [1168,1632]) 1680 (pc (EN _ _ _ _ Nl) (pc o1 pn)) ?_
    refine ah hE 2 [] [] (kp [0,1,8,9,10,11,108]) (kq [1168,1632]) 1696 pn ?_
    refine ah hE 2 [] [] (kp [0,1,8,9,10,11,108,109]) (kq [1168,1632]) 1728 pn ?_
    refine dK 0 109 h (fun Eu h=>?_) (fun Eu h=>?_)
    ·obtain ⟨cj,Sg,h⟩:=bq h
     obtain ⟨lK,X1,h⟩:=bq h
     obtain ⟨BX,X2,h⟩:=bq h
     refine ah hE 1 [(3,oT (aI cj)),(12,oT (aI lK)),(17,oT (aB BX))] [] (kp [6]) [] 2048 (pc o1 (pc (wH _ _ _ _ _ Sg) (pc (fun hg:(cj == 0)=true=>(pc hg pn)) (pc (fun hg:((cj == 0) && ((cj == 0) && (!(!(aF == 0)))))=true=>(pc o1 pn)) (pc (fun hg:((cj == 0) && ((cj == 0) && (!(!(aF == 0)))))=true=>(pc hg (pc o1 pn))) (pc (fun hg:((cj == 0) && ((cj == 0) && (!(!(aF == 0)))))=true=>(pc (lr _ _ _ _ (ax X1 hg)) (pc hg (pc hg pn)))) (pc (fun hg:((cj == 0) && ((cj == 0) && (!(!(aF == 0)))))=true=>(pc hg pn)) (pc (fun hg:(cj == 0)=true=>(pc hg (pc hg (pc (fun hq:(!(!(aF == 0)))=true=>(pc (show ((cj == 0) && ((cj == 0) && (!(!(aF == 0)))))=true from (uE hg (uE hg hq))) pn)) pn)))) (pc (fun hq:(cj == 0)=true=>(pc hq pn)) (pc (fun hg:(cond (cj == 0) (cond (!(aF == 0)) true (decide (lK≤0))) false)=true=>(pc (qg _ _ (ax X2 hg)) pn)) (pc (fun hq:(cond (cj == 0) (cond (!(aF == 0)) true (decide (lK≤0))) false)=true=>(pc hq pn)) pn))))))))))) ?_
     obtain rfl:=dj h
     exact dw hE 0 Tryz.f4 [] (kp [6]) [] 2048 pn [] pn
    ·refine ah hE 1 [] [] (kp [8,11,130]) [] 1760 pn ?_
     refine dK 0 130 h (fun Nf h=>?_) (fun Nf h=>?_)
     ·obtain ⟨BZ,X3,h⟩:=bq h
      refine ah hE 1 [(3,oT (aB BZ))] [] (kp [6]) [] 1856 (pc (fun hg:(!(aF == 0))=true=>(pc (qg _ _ (ax X3 hg)) pn)) (pc (fun hq:(!(aF == 0))=true=>(pc hq pn)) pn)) ?_
      obtain rfl:=dj h
      exact dw hE 0 Tryz.f4 [] (kp [6]) [] 1856 pn [] pn
     ·obtain ⟨B0,X4,h⟩:=bq h
      refine ah hE 3 [(3,oT (aB B0))] [] (kp [6]) [] 1856 (pc (fun hg:(fI.2 == 14)=true=>(pc (qg _ _ (ax X4 hg)) pn)) (pc (fun hq:(fI.2 == 14)=true=>(pc hq pn)) pn)) ?_
      obtain rfl:=dj h
      exact dw hE 0 Tryz.f4 [] (kp [6]) [] 1856 pn [] pn
end Go.Den
