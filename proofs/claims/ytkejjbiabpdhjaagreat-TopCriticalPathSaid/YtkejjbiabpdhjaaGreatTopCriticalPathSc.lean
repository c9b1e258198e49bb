/- Each function of the program does what its Lean function computes (part 3). No conditions. -/
import Derived.Test.YtkejjbiabpdhjaaGreatTopCriticalPathSb
import Derived.Test.YtkejjbiabpdhjaaGreatProg
set_option linter.unusedVariables false
set_option maxRecDepth 100000
namespace Go.Den
open Go.Ab Go.Proofs Go.Ab.ar
theorem FQ (N w r) (h:uz N w=some r):Sd 47 [(mJ w)] [] 0 (QN r) []:=by
 unfold uz at h;refine sO Tryz.f47 90 fun E a=>?_;refine ah a 1 (kp [1,2]) gS 32 ?_;obtain ⟨b,c,h⟩:=a7 h;refine bc a 1 [(1,oT (bJ cI 0 b))] (kp [1,2,3]) gS 80 (pc o1 (pc (DD _ _ _ c) pn)) ?_;obtain ⟨d,e,h⟩:=a7 h;refine bc a 1 [(1,oT (Jz d))] (kp [1,2,3,4]) gS 128 (pc o1 (pc (pg _ _ _ e) pn)) <| bD a 1 (kp [1,2,3,4,5]) (kq [0,16,144]) 176 (pc o1 pn) <| ah a 2 Rm (kq [0,16,144]) 224 <| cd a 2 Rm (kq [0] ++ [(1,.aj 16),(2,.aj 144)]) 3 (Cr N _ _ _ N _ _ _ h E a)
noncomputable abbrev Uo:=bt Tryz.f48
def sG (N:Nat) (w:aq) (t:de) (K:Int->Int->Option (Int)):Prop:=∀ (a:Int) (x:Int) (r:Int),K a x=some r->∀ E,aG E 0->ar Tryz.prog E 48 41 (aH E [] (aI r)) [.code (Uo 116),.inLoop (Uo 116),.inBlock 0,.code (Uo 15)] ⟨[(3,(.op 0 0 0)),(5,(aI a)),(11,(VN w)),(12,(Mp w)),(13,(aI x))],[(0,vO 3 (de.cells t))],1⟩
def AD (N:Nat) (w:aq) (t:de) (x:Int) (K:Int->Option (Int)):Prop:=∀ (a:Int) (r:Int),K a=some r->∀ E,aG E 0->ar Tryz.prog E 48 41 (aH E [] (aI r)) [.code (Uo 935),.inLoop (Uo 116),.inBlock 0,.code (Uo 15)] ⟨[(3,(.op 0 0 0)),(5,(aI a)),(11,(VN w)),(12,(Mp w)),(13,(aI x))],[(0,vO 3 (de.cells t))],1⟩
theorem rF (N:Nat) (w:aq) (t:de) (x:Int) (b:Int->Int->Option (Int)) (c:sG N w t b):AD N w t x (ic N w t x b):=by
 intro d r h E a;unfold ic at h;refine ah a 0 JG (kq [0]) 33 <| cd a 1 JG (kq [0]) 1 (c _ _ _ h E a)
theorem zz (N w t fuel):sG N w t (cz N w t fuel):=by
 induction fuel with
 | zero=>intro _ _ r h;rw [cz.eq_1] at h;cases h
 | succ fuel b =>
  intro d x r h E a;rw [cz.eq_2] at h;refine ah a 1 (kp [3,5,11,12,13,14]) (kq [0]) 17 <| b9 1 14 h (fun e h=>?_) (fun e h=>?_)
  ·obtain ⟨c,h⟩:=ae h;refine bD a 4 (kp [3,5,7,11,12,13]) MO 81 (pc c (pc o1 pn)) <| bD a 1 (kp [3,5,7,11,12,13,21]) MO 161 (pc o1 (pc o1 pn)) <| b9 0 21 h (fun f h=>?_) (fun f h=>?_)
   ·obtain ⟨g,i,h⟩:=a7 h;refine bc a 1 [(1,oT (Jg g))] (kp [3,5,9,11,12,13]) (kq [0]) 273 (pc o1 (pc (mO _ _ _ i) pn)) <| ah a 0 JG (kq [0]) 337 <| cd a 1 JG (kq [0]) 1 (rF N _ _ _ _ b _ _ h E a)
   ·exact cd a 2 JG (kq [0]) 1 (rF N _ _ _ _ b _ _ h E a)
  ·refine ah a 3 (kp [3,5,32]) (kq [0]) 49 <| b9 0 32 h (fun j h=>?_) (fun j h=>?_)
   ·refine ah a 1 (kp [4]) [] 65 ?_;cases h;exact dN a 0 Tryz.f48 (kp [4]) [] 65
   ·obtain ⟨k,h⟩:=ae h;refine bD a 2 (kp [4]) [] 193 (pc o1 (pc o1 (pc k pn))) ?_;cases h;exact dN a 0 Tryz.f48 (kp [4]) [] 193
theorem Cs (N w t r) (h:lj N w t=some r):Sd 48 [(mJ w),(.agg (de.cells t))] [] 0 (aI r) []:=by
 unfold lj at h;refine sO Tryz.f48 41 fun E a=>?_;refine ah a 1 (kp [2,3]) gS 48 <| ah a 1 (kp [2,3,5]) gS 64 <| bD a 2 JG (kq [16]) 128 (pc o1 pn) <| cd a 2 JG [(0,.aj 16)] 1 (zz N _ _ N _ _ _ h E a)
noncomputable abbrev Uq:=bt Tryz.f12
def tj (N:Nat) (w:aq) (K:dH->Int->Option (dH×Int)):Prop:=∀ (a:dH) (x:Int) (r:dH×Int),K a x=some r->∀ E,aG E 0->ar Tryz.prog E 12 37 (aH E [] (Vy r)) [.code (Uq 244),.inLoop (Uq 244),.inBlock 0,.code (Uq 31)] ⟨[(1,(.op 0 0 0)),(2,(.op 1 0 0)),(5,(.op 2 0 0)),(18,(bJ de.cells de.d w.bu)),(19,(aI (Vl w))),(20,(aI x))],[(eI w),(1,vO 3 [(aI 0),.nil,fj]),(2,vO 3 (dH.cells a))],3⟩
def Bd (N:Nat) (w:aq) (x:Int) (K:dH->Option (dH×Int)):Prop:=∀ (a:dH) (r:dH×Int),K a=some r->∀ E,aG E 0->ar Tryz.prog E 12 37 (aH E [] (Vy r)) [.code (Uq 1959),.inLoop (Uq 244),.inBlock 0,.code (Uq 31)] ⟨[(1,(.op 0 0 0)),(2,(.op 1 0 0)),(5,(.op 2 0 0)),(18,(bJ de.cells de.d w.bu)),(19,(aI (Vl w))),(20,(aI x))],[(eI w),(1,vO 3 [(aI 0),.nil,fj]),(2,vO 3 (dH.cells a))],3⟩
theorem sH (N:Nat) (w:aq) (x:Int) (b:dH->Int->Option (dH×Int)) (c:tj N w b):Bd N w x (iJ N w x b):=by
 intro d r h E a;unfold iJ at h;refine ah a 0 JC cJ 35 <| cd a 1 JC cJ 3 (c _ _ _ h E a)
theorem AF (N w fuel):tj N w (dC N w fuel):=by
 induction fuel with
 | zero=>intro _ _ r h;rw [dC.eq_1] at h;cases h
 | succ fuel b =>
  intro i x r h E a;rw [dC.eq_2] at h;refine ah a 1 (kp [1,2,5,18,19,20,21]) cJ 19 <| b9 1 21 h (fun d h=>?_) (fun d h=>?_)
  ·obtain ⟨c,h⟩:=ae h;refine bD a 4 (kp [1,2,5,7,18,19,20]) (kq [0,1,2,51]) 83 (pc c (pc o1 pn)) ?_;obtain ⟨e,f,h⟩:=a7 h;refine bc a 1 [(2,oT (aI e))] (kp [1,2,5,7,8,18,19,20]) (kq [0,1,2,51]) 147 (pc o1 (pc o1 (pc (Cs _ _ _ _ f) pn))) <| bD a 1 (kp [1,2,5,7,8,18,19,20,30]) (kq [0,1,2,51]) 211 (pc o1 pn) <| b9 0 30 h (fun g h=>?_) (fun g h=>?_)
   ·refine bD a 0 JC cJ 291 (pc o1 (pc o1 pn)) <| Z3 a 1 [] JC (kq [0,1] ++ [(2,.var 2 [.aj,Cx cS ByteArray.empty ([]:List ByteArray),.aj])]) 3 (pc (Eq.refl 0) pn) (sH N _ _ _ b _ _ h E a)
   ·exact cd a 2 JC cJ 3 (sH N _ _ _ b _ _ h E a)
  ·refine bD a 2 (kp [2,3]) (kq [1]) 67 (pc o1 (pc o1 pn)) ?_;cases h;exact ki a 0 Tryz.f12 [] (kp [2,3]) [(16,.aj 1)] 67 pn [16] (pc o1 pn)
theorem DH (N w r) (h:o8 N w=some r):Sd 12 [(mJ w)] [] 0 (Vy r) []:=by
 unfold o8 at h;refine sO Tryz.f12 37 fun E a=>?_;refine ah a 1 (kp [1,2]) gS 48 ?_;obtain ⟨b,c,h⟩:=a7 h;refine bc a 2 [(1,oT (aI b))] (kp [1,2,4]) gS 96 (pc o1 (pc (vg _ _ _ c) pn)) <| ah a 1 (kp [1,2,4,12]) gS 128 <| b9 0 12 h (fun d h=>?_) (fun d h=>?_)
 ·refine bD a 1 (kp [2,3]) (kq [16]) 192 (pc o1 pn) ?_;cases h;exact ki a 0 Tryz.f12 [] (kp [2,3]) [(16,.var 16 [.aj,Cx cS ByteArray.empty ([]:List ByteArray),.aj])] 192 (pc (Eq.refl 0) pn) [16] (pc o1 pn)
 ·obtain ⟨e,f,h⟩:=a7 h;refine bc a 2 [(1,oT (QN e))] qB (kq [0,16,160]) 192 (pc o1 (pc (FQ _ _ _ f) (pc o1 pn))) <| bD a 2 JC (kq [0,16,160]) 256 (pc o1 pn) <| cd a 2 JC (kq [0] ++ [(1,.aj 16),(2,.aj 160)]) 3 (AF N _ N _ _ _ h E a)
noncomputable abbrev Fw:=bt Tryz.f49
def KV (N:Nat) (n:Int) (l:List a8) (y:List aa) (K:aN->Int->Option acS):Prop:=∀ (a:List aa) (x:Int) (r:aN×aa×Bool),K a x=some r->∀ E,aG E 0->ar Tryz.prog E 49 78 (aH E [] (QO r)) [.code (Fw 116),.inLoop (Fw 116),.inBlock 0,.code (Fw 15)] ⟨[(1,(qz l)),(2,(rh y)),(7,(.op 0 0 0)),(9,(.os 1 0 a.length)),(19,(aaL n)),(20,(aI x))],[(0,vO 4 [(aB false),.nil,(aB false),.nil]),(ym a)],2⟩
def Bx (N:Nat) (l:List a8) (y:List aa) (K:aN->aa->Int->Option acS):Prop:=∀ (a:List aa) (bound:aa) (b:Int) (r:aN×aa×Bool),K a bound b=some r->∀ E,aG E 0->ar Tryz.prog E 49 78 (aH E [] (QO r)) [.code (Fw 500),.inLoop (Fw 500),.inBlock 2,.code (Fw 63)] ⟨[(2,(rh y)),(7,(.op 0 0 0)),(9,(.os 1 0 a.length)),(11,(.op 2 0 0)),(29,(qz l)),(30,(yq l)),(31,(aI b))],[(0,vO 4 [(aB false),.nil,(aB false),.nil]),(ym a),(2,vO 4 (yp bound))],3⟩
def KW (N:Nat) (l:List a8) (y:List aa) (bound:aa) (a:Int) (K:aN->Int->Option acS):Prop:=∀ (b:List aa) (c:Int) (r:aN×aa×Bool),K b c=some r->∀ E,aG E 0->ar Tryz.prog E 49 78 (aH E [] (QO r)) [.code (Fw 512820),.inLoop (Fw 512820),.inBlock 4,.code (Fw 64103),.inBlock 3,.code (Fw 4007),.inLoop (Fw 500),.inBlock 2,.code (Fw 63)] ⟨[(2,(rh y)),(7,(.op 0 0 0)),(9,(.os 1 0 b.length)),(11,(.op 2 0 0)),(12,(aI a)),(13,(.op 3 0 0)),(29,(qz l)),(30,(yq l)),(31,(aI a)),(44,(bJ dY aa.d ((l.getD a.toNat a8.d).db))),(45,(aI ((((l.getD a.toNat a8.d).db).length:Nat):Int))),(46,(aI c))],[(0,vO 4 [(aB false),.nil,(aB false),.nil]),(ym b),(2,vO 4 (yp bound)),(3,vO 5 (Zv (l.getD a.toNat a8.d)))],4⟩
theorem JR (N:Nat) (l:List a8) (y:List aa) (bound:aa) (f:Int) (g:aN->aa->Int->Option acS) (i:Bx N l y g) (fuel:Nat):KW N l y bound f (kP N l y bound f g fuel):=by
 induction fuel with
 | zero=>intro _ _ r h;rw [kP.eq_1] at h;cases h
 | succ fuel j =>
  intro c d r h E a;rw [kP.eq_2] at h;refine ah a 1 (kp [2,7,9,11,12,13,29,30,31,44,45,46,47]) (kq [0,1,2,3]) 20 <| b9 1 47 h (fun k h=>?_) (fun k h=>?_)
  ·obtain ⟨m,h⟩:=ae h;refine bD a 4 (kp [2,7,9,11,12,13,14,15,29,30,31,44,45,46]) (kq [0,1,2,3,68]) 116 (pc m (pc o1 pn)) ?_;obtain ⟨e,h⟩:=ae h;obtain ⟨n,h⟩:=ae h;obtain ⟨o,p,h⟩:=a7 h;obtain ⟨b,q,h⟩:=a7 h;refine bc a 0 [(11,oT (aA o)),(12,oT (aA b))] (kp [2,7] ++ [(9,.mM (u5 c d b))] ++ kp [11,12,13,29,30,31,44,45,46]) (kq [0] ++ [(1,ru 1 dY aa.d (c.set d.toNat b))] ++ kq [2,3]) 356 (pc e (pc (dz e) (pc n (pc o1 (pc (ja _ _ _ _ p) (pc (iZ _ _ _ _ q) (pc e (pc (dz e) (pc (aF c d.toNat b) (pc (aF c d.toNat b) (pc (cn dY aa.d c d.toNat b) pn))))))))))) <| ah a 1 Wj (kq [0,1,2,3]) 388 <| cd a 1 Wj (kq [0,1,2,3]) 4 (j _ _ _ h E a)
  ·obtain ⟨s,h⟩:=ae h;obtain ⟨t,u,h⟩:=a7 h;obtain ⟨v,w,h⟩:=a7 h;refine bc a 1 [(7,oT (aA t)),(8,oT (aA v))] Rv cJ 180 (pc o1 (pc s (pc o1 (pc (ja _ _ _ _ u) (pc (iZ _ _ _ _ w) (pc o1 pn)))))) <| ah a 1 Rv cJ 212 <| cd a 1 Rv cJ 3 (i _ _ _ _ h E a)
theorem JT (N l y fuel):Bx N l y (g8 N l y fuel):=by
 induction fuel with
 | zero=>intro _ _ _ r h;rw [g8.eq_1] at h;cases h
 | succ fuel c =>
  intro b bound k r h E a;rw [g8.eq_2] at h;refine ah a 1 (kp [2,7,9,11,29,30,31,32]) cJ 19 <| b9 1 32 h (fun d h=>?_) (fun d h=>?_)
  ·obtain ⟨e,h⟩:=ae h;refine bD a 4 (kp [2,7,9,11,12,13,29,30,31]) (kq [0,1,2,67]) 115 (pc e (pc o1 pn)) ?_;obtain ⟨f,h⟩:=ae h;obtain ⟨g,i,h⟩:=a7 h;refine bc a 2 [(4,oT (aI g))] (kp [2,7,9,11,12,13,29,30,31,41]) (kq [0,1,2,67]) 211 (pc f (pc (tH _ _ _ i) pn)) <| b9 0 41 h (fun j h=>?_) (fun j h=>?_)
   ·refine bD a 1 (kp [6,7,8]) (kq [0]) 275 (pc o1 (pc o1 pn)) ?_;cases h;exact ki a 0 Tryz.f49 [] ([(6,Cx dY aa.d ([]:List aa))] ++ kp [7,8]) [(17,.aj 0)] 275 (pc (Eq.refl 0) pn) [17] (pc o1 pn)
   ·refine bD a 3 Wj (kq [0,1,2,67]) 275 (pc o1 pn) <| cd a 2 Wj (kq [0,1,2] ++ [(3,.aj 67)]) 4 (JR N _ _ _ _ _ c N _ _ _ h E a)
  ·refine bD a 2 (kp [6,7,8]) (kq [0,1]) 99 (pc o1 (pc o1 pn)) ?_;cases h;exact ki a 0 Tryz.f49 [1] ([(6,Cx dY aa.d b)] ++ kp [7,8]) [(17,.aj 0)] 99 (pc (Eq.refl b.length) (pc (z1 b.length) (pc (eZ dY aa.d b) pn))) [17] (pc o1 pn)
theorem JU (N n l y fuel):KV N n l y (kQ N n l y fuel):=by
 induction fuel with
 | zero=>intro _ _ r h;rw [kQ.eq_1] at h;cases h
 | succ fuel e =>
  intro c x r h E a;rw [kQ.eq_2] at h;refine ah a 1 (kp [1,2,7,9,19,20,21]) (kq [0,1]) 18 <| b9 1 21 h (fun f h=>?_) (fun f h=>?_)
  ·refine ah a 4 (kp [1,2,7,9,10,19,20]) (kq [0,1]) 50 ?_;obtain ⟨b,g,h⟩:=a7 h;obtain ⟨d,h⟩:=ae h;refine bc a 0 [(2,oT (aA b))] (kp [1,2,7] ++ [(9,.mM (u5 c x b))] ++ kp [19,20]) (kq [0] ++ [(1,ru 1 dY aa.d (c.set x.toNat b))]) 130 (pc (fQ _ _ _ g) (pc d (pc (dz d) (pc (aF c x.toNat b) (pc (aF c x.toNat b) (pc (cn dY aa.d c x.toNat b) pn)))))) <| ah a 1 V6 (kq [0,1]) 162 <| cd a 1 V6 (kq [0,1]) 2 (e _ _ _ h E a)
  ·obtain ⟨i,j,h⟩:=a7 h;refine bc a 2 [(0,oT (aA i))] (kp [1,2,7,9,11]) (kq [0,1,34]) 66 (pc (fQ _ _ _ j) (pc o1 pn)) <| ah a 2 Rv (kq [0,1,34]) 114 <| cd a 2 Rv (kq [0,1] ++ [(2,.aj 34)]) 3 (JT N _ _ N _ _ _ _ h E a)
theorem OO (N n l y r) (h:zc N n l y=some r):Sd 49 [(aI n),(qz l),(rh y)] [] 0 (QO r) []:=by
 unfold zc at h;refine sO Tryz.f49 78 fun E a=>?_;refine ah a 1 VS (kq [16]) 48 ?_;obtain ⟨c,h⟩:=ae h;refine bD a 1 (kp [1,2,7] ++ [(9,.mM (acT n))]) (kq [16] ++ [(64,.arz 64 (acT n) (Mt n))]) 96 (pc c.1 (pc (Int.le_refl n) (pc c.2.1 (pc c.2.2 (pc (lR n.toNat oz) (pc (lQ n.toNat oz) (pc (show ∀ zi,zi < (VK n).length->S4 ((fun _=>[(aB false),.nil,(aB false),.nil]) zi) ((Mt n) zi) from (fun b d=>nU dY aa.d aa.d n.toNat b ⟨.inl rfl,.inr ⟨rfl,_,rfl⟩,.inl rfl,.inr ⟨rfl,_,rfl⟩,trivial⟩ d)) pn))))))) <| ah a 2 V6 (kq [16,64]) 144 <| cd a 2 V6 [(0,.aj 16),(1,.aj 64)] 2 (JU N _ _ _ N _ _ _ h E a)
noncomputable abbrev aif:=bt Tryz.f52
def Wy (N:Nat) (c:List aa) (x:List aa) (K:aa->Int->Option (aa)):Prop:=∀ (a:aa) (b:Int) (r:aa),K a b=some r->∀ E,aG E 0->ar Tryz.prog E 52 26 (aH E [] (aA r)) [.code (aif 116),.inLoop (aif 116),.inBlock 0,.code (aif 15)] ⟨[(1,(rh x)),(4,(.op 0 0 0)),(5,(.op 1 0 0)),(9,(rh c)),(10,(Q3 c)),(11,(aI b))],[(0,vO 4 [(aB false),.nil,(aB false),.nil]),(1,vO 4 (yp a))],2⟩
theorem Tn (N c x fuel):Wy N c x (sb N c x fuel):=by
 induction fuel with
 | zero=>intro _ _ r h;rw [sb.eq_1] at h;cases h
 | succ fuel b =>
  intro d m r h E a;rw [sb.eq_2] at h;refine ah a 1 (kp [1,4,5,9,10,11,12]) (kq [0,1]) 18 <| b9 1 12 h (fun e h=>?_) (fun e h=>?_)
  ·obtain ⟨f,h⟩:=ae h;refine bD a 4 (kp [1,4,5,6,7,9,10,11]) (kq [0,1,66]) 114 (pc f (pc o1 pn)) ?_;obtain ⟨g,h⟩:=ae h;obtain ⟨i,j,h⟩:=a7 h;obtain ⟨k,l,h⟩:=a7 h;refine bc a 0 [(6,oT (aA i)),(7,oT (aA k))] Rp (kq [0,1]) 258 (pc o1 (pc o1 (pc g (pc (ja _ _ _ _ j) (pc (iZ _ _ _ _ l) (pc o1 pn)))))) <| ah a 1 Rp (kq [0,1]) 290 <| cd a 1 Rp (kq [0,1]) 2 (b _ _ _ h E a)
  ·refine bD a 2 (kp [4]) (kq [0]) 50 (pc o1 (pc o1 pn)) ?_;obtain rfl:=lk h;exact ki a 0 Tryz.f52 [] (kp [4]) [(16,.aj 0)] 50 pn [16] (pc o1 pn)
theorem R0 (N c x r) (h:KA N c x=some r):Sd 52 [(rh c),(rh x)] [] 0 (aA r) []:=by
 unfold KA at h;refine sO Tryz.f52 26 fun E a=>?_;refine ah a 1 Mx (kq [0]) 16 ?_;obtain ⟨b,d,h⟩:=a7 h;refine bc a 1 [(0,oT (aA b))] (kp [0,1,4,5]) JH 64 (pc (fQ _ _ _ d) (pc o1 pn)) <| ah a 2 Rp JH 112 <| cd a 2 Rp (kq [0] ++ [(1,.aj 32)]) 2 (Tn N _ _ N _ _ _ h E a)
theorem JV (N c a r) (h:uq N c a=some r):Sd 118 [(.agg (Zv c)),(.op 0 0 0)] [(GA a)] 1 (aB r) [(GA a)]:=by
 unfold uq at h;refine sO Tryz.f118 12 fun E b=>?_;refine ah b 1 (kp [1,2]) (kq [0,1]) 33 ?_;obtain ⟨Gr,d,h⟩:=a7 h;obtain ⟨e,f,h⟩:=a7 h;refine bc b 1 [(3,oT (aA Gr)),(6,oT (aI e))] (kp [3]) (kq [0]) 177 (pc o1 (pc o1 (pc (R0 _ _ _ _ d) (pc o1 (pc (qY _ _ _ _ f) pn))))) ?_;cases h;exact dN b 0 Tryz.f118 (kp [3]) (kq [0]) 177
noncomputable abbrev aih:=bt Tryz.f151
def xf (N:Nat) (s:List a8) (a:List aa) (K:Int->Option (Int)):Prop:=∀ (x:Int) (r:Int),K x=some r->∀ E,aG E 1->ar Tryz.prog E 151 19 (aH E [(GA a)] (aI r)) [.code (aih 52),.inLoop (aih 52),.inBlock 0,.code (aih 7)] ⟨[(0,(qz s)),(1,(.fn (.func 118) [] [(.op 0 0 0)])),(7,(yq s)),(8,(aI x))],[(GA a)],1⟩
theorem wF (N s b fuel):xf N s b (cD N s b fuel):=by
 induction fuel with
 | zero=>intro _ r h;rw [cD.eq_1] at h;cases h
 | succ fuel d =>
  intro x r h E a;rw [cD.eq_2] at h;refine ah a 1 ri (kq [0]) 17 <| b9 1 9 h (fun e h=>?_) (fun e h=>?_)
  ·refine ah a 4 oa (kq [0]) 49 ?_;obtain ⟨c,h⟩:=ae h;obtain ⟨f,g,h⟩:=a7 h;refine bc a 1 [(5,⟨[0],true,(aB f),[],0,false,none⟩)] vZ (kq [0]) 145 (pc c (pc (JV _ _ _ _ g) pn)) <| b9 0 16 h (fun i h=>?_) (fun i h=>?_)
   ·refine ah a 1 (kp [4]) (kq [0]) 177 ?_;obtain rfl:=lk h;exact dN a 0 Tryz.f151 (kp [4]) (kq [0]) 177
   ·refine ah a 2 eD (kq [0]) 177 <| cd a 1 eD (kq [0]) 1 (d _ _ h E a)
  ·refine ah a 2 (kp [4]) (kq [0]) 33 ?_;cases h;exact dN a 0 Tryz.f151 (kp [4]) (kq [0]) 49
theorem yH (N s b r) (h:oy N s b=some r):Sd 151 [(qz s),(.fn (.func 118) [] [(.op 0 0 0)])] [(GA b)] 1 (aI r) [(GA b)]:=by
 unfold oy at h;refine sO Tryz.f151 19 fun E a=>?_;refine ah a 1 (kp [0,1]) (kq [0]) 17 <| ah a 2 eD (kq [0]) 65 <| cd a 2 eD (kq [0]) 1 (wF N _ _ N _ _ h E a)
theorem wG (N s a r) (h:mI N s a=some r):Sd 81 [(qz s),(.fn (.func 118) [] [(.op 0 0 0)])] [(GA a)] 1 (aB r) [(GA a)]:=by
 unfold mI at h;refine sO Tryz.f81 9 fun E b=>?_;refine ah b 1 (kp [0,1]) (kq [0]) 17 ?_;obtain ⟨c,d,h⟩:=a7 h;refine bc b 1 [(2,⟨[0],true,(aI c),[],0,false,none⟩)] (kp [4]) (kq [0]) 97 (pc (yH _ _ _ _ d) pn) ?_;cases h;exact dN b 0 Tryz.f81 (kp [4]) (kq [0]) 97
theorem Nb (N l a r) (h:xq N l a=some r):Sd 50 [(qz l),(rh a)] [] 0 (aB r) []:=by
 unfold xq at h;refine sO Tryz.f50 9 fun E b=>?_;refine ah b 1 (kp [0,3]) (kq [0]) 32 ?_;obtain ⟨c,d,h⟩:=a7 h;refine bc b 1 [(2,⟨[0],true,(aB c),[],0,false,none⟩)] (kp [4]) [] 112 (pc (wG _ _ _ _ d) pn) ?_;cases h;exact dN b 0 Tryz.f50 (kp [4]) [] 112
noncomputable abbrev aii:=bt Tryz.f13
def JW (N:Nat) (b:List aa) (a:aN×aa×Bool) (K:Int->Option (Int)):Prop:=∀ (x:Int) (r:Int),K x=some r->∀ E,aG E 0->ar Tryz.prog E 13 85 (aH E [] (aI r)) [.code (aii 2036),.inLoop (aii 2036),.inBlock 0,.code (aii 255)] ⟨[(0,(rh b)),(9,(bJ dY aa.d a.1)),(70,(aI ((a.1.length:Nat):Int))),(71,(aI x))],[],0⟩
theorem Is (N b d fuel):JW N b d (j7 N b d fuel):=by
 induction fuel with
 | zero=>intro _ r h;rw [j7.eq_1] at h;cases h
 | succ fuel e =>
  intro x r h E a;rw [j7.eq_2] at h;refine ah a 1 (kp [0,9,70,71,72]) [] 16 <| b9 1 72 h (fun f h=>?_) (fun f h=>?_)
  ·refine ah a 4 (kp [0,9,12,70,71]) [] 48 ?_;obtain ⟨c,h⟩:=ae h;obtain ⟨g,h⟩:=ae h;obtain ⟨i,j,h⟩:=a7 h;refine bc a 1 [(8,oT (aI i))] (kp [0,9,70,71,83]) [] 208 (pc c (pc g (pc (qY _ _ _ _ j) pn))) <| b9 0 83 h (fun k h=>?_) (fun k h=>?_)
   ·refine ah a 1 (kp [6]) [] 224 ?_;cases h;exact dN a 0 Tryz.f13 (kp [6]) [] 224
   ·refine ah a 2 V3 [] 240 <| cd a 1 V3 [] 0 (e _ _ h E a)
  ·refine ah a 2 (kp [6]) [] 32 ?_;cases h;exact dN a 0 Tryz.f13 (kp [6]) [] 48
theorem Nc (N f l b r) (h:tG N f l b=some r):Sd 13 [(rh f),(qz l),(.agg (uT.cells b))] [] 0 (aI r) []:=by
 unfold tG at h;refine sO Tryz.f13 85 fun E c=>?_;refine ah c 1 mL (kq [0]) 32 <| ah c 1 (kp [0,1,5,7]) (kq [0]) 80 ?_
 obtain ⟨j,k,h⟩:=a7 h;refine bc c 2 [(2,oT (aI j))] oa (kq [0]) 144 (pc (C8 _ _ _ _ k) pn) <| ah c 1 (kp [0,1,5,7,8,19]) (kq [0]) 176 <| b9 0 19 h (fun m h=>?_) (fun m h=>?_)
 ·refine ah c 1 (kp [6]) [] 208 ?_;obtain rfl:=lk h;exact dN c 0 Tryz.f13 (kp [6]) [] 208
 ·refine bD c 3 (kp [0,1,5,7,33]) (kq [0]) 384 (pc o1 (pc (fun a:(agK b f)=true=>(pc a (pc o1 pn))) (pc (fun a:(agK b f)=true=>(pc a pn)) (pc (fun a:(agK b f)=true=>(pc a pn)) (pc (fun a:(agK b f)=true=>(pc a (pc a pn))) (pc (fun g:(agK b f)=true=>(pc g pn)) pn)))))) <| b9 0 33 h (fun n h=>?_) (fun n h=>?_)
  ·refine ah c 1 (kp [6]) [] 400 ?_;cases h;exact dN c 0 Tryz.f13 (kp [6]) [] 400
  ·obtain ⟨d,o,h⟩:=a7 h;refine bc c 2 [(4,oT (QO d))] (kp [0,1,5,9,10,11]) (kq [0,528]) 592 (pc o1 (pc (OO _ _ _ _ _ o) (pc o1 pn))) ?_;obtain ⟨e,p,h⟩:=a7 h;obtain ⟨Gr,q,h⟩:=a7 h;obtain ⟨i,s,h⟩:=a7 h;obtain ⟨t,u,h⟩:=a7 h;refine bc c 2 [(6,oT (aB e)),(13,oT (aA Gr)),(16,oT (aI i)),(23,oT (aI t))] (kp [0,9,68]) [] 1008 (pc (fun a:(!(!d.2.2))=true=>(pc a (pc o1 pn))) (pc (fun a:(!(!d.2.2))=true=>(pc (Nb _ _ _ _ (aW p a)) (pc a (pc a pn)))) (pc (fun a:(!(!d.2.2))=true=>(pc a pn)) (pc (fun g:(!(!d.2.2))=true=>(pc g pn)) (pc (fun a:(!(cond (!d.2.2) true (!e)))=true=>(pc a (pc o1 pn))) (pc (fun a:(!(cond (!d.2.2) true (!e)))=true=>(pc (R0 _ _ _ _ (aW q a)) (pc a (pc a pn)))) (pc (fun a:(!(cond (!d.2.2) true (!e)))=true=>(pc a (pc o1 pn))) (pc (fun a:(!(cond (!d.2.2) true (!e)))=true=>(pc (qY _ _ _ _ (aW s a)) (pc a (pc a pn)))) (pc (fun a:(!(cond (!d.2.2) true (!e)))=true=>(pc a pn)) (pc (fun g:(!(cond (!d.2.2) true (!e)))=true=>(pc g pn)) (pc (fun a:(agL d e i)=true=>(pc o1 pn)) (pc (fun a:(agL d e i)=true=>(pc a (pc o1 pn))) (pc (fun a:(agL d e i)=true=>(pc (qY _ _ _ _ (aW u a)) (pc a (pc a pn)))) (pc (fun a:(agL d e i)=true=>(pc a pn)) (pc (fun g:(agL d e i)=true=>(pc g pn)) pn))))))))))))))) <| b9 0 68 h (fun v h=>?_) (fun v h=>?_)
   ·refine ah c 1 (kp [6]) [] 1024 ?_;cases h;exact dN c 0 Tryz.f13 (kp [6]) [] 1024
   ·refine ah c 3 V3 [] 1056 <| cd c 2 V3 [] 0 (Is N _ _ N _ _ h E c)
noncomputable abbrev aij:=bt Tryz.f218
def OP (N:Nat) (a:List Int) (K:Int->Option kI):Prop:=∀ (n:Int) (r:(List Int)),K n=some r->∀ E,aG E 0->ar Tryz.prog E 218 23 (aH E [] (bJ cI 0 r)) [.code (aij 56),.inLoop (aij 56),.inBlock 0,.code (aij 15)] ⟨[(uD a),(3,(aI n))],[],0⟩
theorem Nd (N a fuel):OP N a (ny N a fuel):=by
 induction fuel with
 | zero=>intro _ r h;rw [ny.eq_1] at h;cases h
 | succ fuel j =>
  intro n r h E d;rw [ny.eq_2] at h;obtain ⟨c,h⟩:=ae h;refine bD d 2 (kp [0,3,15]) [] 160 (pc (fun b:(decide (n > 0))=true=>(pc b pn)) (pc (fun b:(decide (n > 0))=true=>(pc b (pc b (pc (c b) pn)))) (pc (fun b:(decide (n > 0))=true=>(pc b pn)) (pc (fun b:(decide (n > 0))=true=>(pc b pn)) (pc (fun k:(decide (n > 0))=true=>(pc k pn)) pn))))) <| b9 0 15 h (fun l h=>?_) (fun l h=>?_)
  ·refine ah d 2 (kp [0,3]) [] 208 <| cd d 2 (kp [0,3]) [] 0 (j _ _ h E d)
  ·obtain ⟨e,h⟩:=ae h;obtain ⟨m,h⟩:=ae h;obtain ⟨o,h⟩:=ae h;refine bD d 2 [(2,.mM (ahe a n))] [(224,ru 224 cI 0 (QJ a n))] 256 (pc e (pc m (pc (Eq.refl 0) (pc o (pc (show ∀ zi,zi < (n.toNat - 0)->AV.vH ((fun zi=>cI (a.getD (da 0 zi) 0)) zi)=true from (fun _ _=>rfl)) (pc (show (0+(n.toNat - 0))=(QJ a n).length from (uS rfl (vL a 0 n.toNat e))) (pc (show 0+(n.toNat - 0)=(QJ a n).length from (uS rfl (vL a 0 n.toNat e))) (pc (show ∀ zi,zi < (QJ a n).length->(fun zi=>cI ((QJ a n).getD zi 0)) zi=((fun f=>if f < 0 then (fun _=>[]) f else (fun zi=>cI (a.getD (da 0 zi) 0)) (f - 0))) zi from (Bl cI 0 ([]:List Int) ((a.take n.toNat).drop 0) rfl (fun i g=>absurd g (dX _)) (fun i g=>Bk cI 0 a 0 n.toNat i g))) pn)))))))) ?_;cases h;exact ki d 0 Tryz.f218 [224] [(2,Cx cI 0 (QJ a n))] [] 256 (pc (Eq.refl (ahe a n)) (pc (z1 (ahe a n)) (pc (eZ cI 0 (QJ a n)) pn))) [] pn
theorem qZ (N a r) (h:qu N a=some r):Sd 218 [(bJ cI 0 a)] [] 0 (bJ cI 0 r) []:=by
 unfold qu at h;refine sO Tryz.f218 23 fun E b=>?_;refine ah b 1 (kp [0]) [] 16 <| ah b 1 (kp [0,3]) [] 64 <| cd b 3 (kp [0,3]) [] 0 (Nd N _ N _ _ h E b)
noncomputable abbrev aik:=bt Tryz.f176
def OQ (N:Nat) (l:List Int) (K:(List Int)->Int->Option kI):Prop:=∀ (a:List Int) (i:Int) (r:(List Int)),K a i=some r->∀ E,aG E 0->ar Tryz.prog E 176 21 (aH E [] (bJ cI 0 r)) [.code (aik 116),.inLoop (aik 116),.inBlock 0,.code (aik 15)] ⟨[(0,(b8 l)),(3,(nb a)),(4,(aI i))],[(0,aO 1 cI 0 a)],1⟩
theorem Nf (N l fuel):OQ N l (nz N l fuel):=by
 induction fuel with
 | zero=>intro _ _ r h;rw [nz.eq_1] at h;cases h
 | succ fuel d =>
  intro a i r h E b;rw [nz.eq_2] at h;refine ah b 2 (kp [0,3,4,8]) (kq [0]) 65 <| b9 0 8 h (fun e h=>?_) (fun e h=>?_)
  ·obtain ⟨c,h⟩:=ae h;obtain ⟨f,h⟩:=ae h;refine bD b 3 (kp [0] ++ [(3,.mM ((a ++ (QY l i)).length))] ++ kp [4]) [(177,ru 177 cI 0 (a ++ (QY l i)))] 209 (pc c (pc (Eq.refl a.length) (pc f (pc (z1 1) (pc (oN [[(aI (aR ((wY l i))))]]) (pc (cj a (QY l i)) (pc (cj a (QY l i)) (pc (S5 cI 0 a (QY l i)) pn)))))))) <| ah b 1 Rj (kq [177]) 257 <| cd b 1 Rj [(0,.aj 177)] 1 (d _ _ _ h E b)
  ·obtain ⟨g,j,h⟩:=a7 h;refine bc b 2 [(1,⟨[],true,(bJ cI 0 g),[],0,true,none⟩)] (kp [2]) [] 113 (pc (qZ _ _ _ j) (pc (z1 a.length) pn)) ?_;obtain rfl:=lk h;exact dN b 0 Tryz.f176 (kp [2]) [] 113
theorem nD (N l r) (h:lu N l=some r):Sd 176 [(b8 l)] [] 0 (bJ cI 0 r) []:=by
 unfold lu at h;refine sO Tryz.f176 21 fun E a=>?_;refine ah a 1 (kp [0]) [] 16 <| ah a 1 (kp [0,3]) [] 32 <| ah a 2 Rj [] 48 <| cd a 2 (kp [0] ++ [(3,.xE 0)] ++ kp [4]) [(0,.nil 1 GM)] 1 (Nf N _ N _ _ _ h E a)
noncomputable abbrev ail:=bt Tryz.f184
def OS (N:Nat) (neg:Bool) (a:List Int) (K:(List Int)->Int->Option (eN)):Prop:=∀ (x:List Int) (i:Int) (r:eN),K x i=some r->∀ E,aG E 0->ar Tryz.prog E 184 31 (aH E [] (bO r)) [.code (ail 116),.inLoop (ail 116),.inBlock 0,.code (ail 15)] ⟨[(Ad a),(4,(.op 0 0 0)),(5,(.op 1 0 0)),(6,(aI i))],[(0,vO 2 [(aB false),.nil]),(1,vN 2 [(aB (cond neg (Jw a) false)),(uC x)]),(2,aU x)],3⟩
theorem Ng (N neg a fuel):OS N neg a (nA N neg a fuel):=by
 induction fuel with
 | zero=>intro _ _ r h;rw [nA.eq_1] at h;cases h
 | succ fuel d =>
  intro x i r h E b;rw [nA.eq_2] at h;refine ah b 2 (kp [1,4,5,6,17]) cJ 67 <| b9 0 17 h (fun e h=>?_) (fun e h=>?_)
  ·obtain ⟨c,h⟩:=ae h;obtain ⟨f,h⟩:=ae h;refine bD b 3 MG (kq [0] ++ [(1,.var 1 [.aj,.mM ((x ++ (QW a i)).length)]),(195,ru 195 (cU .u16) 0 (x ++ (QW a i)))]) 243 (pc o1 (pc c (pc (Eq.refl x.length) (pc f (pc (z1 1) (pc (oN [[(a16 (IntKind.u16.wrap ((wY a i))))]]) (pc o1 (pc (cj x (QW a i)) (pc (cj x (QW a i)) (pc (S5 (cU .u16) 0 x (QW a i)) pn)))))))))) <| ah b 1 MG (kq [0,1,195]) 291 <| cd b 1 MG (kq [0,1] ++ [(2,.aj 195)]) 3 (d _ _ _ h E b)
  ·refine bD b 2 (kp [4]) (kq [0,2]) 99 (pc o1 (pc o1 pn)) ?_;cases h;exact ki b 0 Tryz.f184 [2] (kp [4]) [(16,.var 0 [.aj,Cx (cU .u16) 0 x])] 99 (pc (Eq.refl x.length) (pc (z1 x.length) (pc (eZ (cU .u16) 0 x) pn))) [16] (pc o1 pn)
theorem lJ (N neg a r) (h:jj N neg a=some r):Sd 184 [(aB neg),(bJ cI 0 a)] [] 0 (bO r) []:=by
 unfold jj at h;refine sO Tryz.f184 31 fun E b=>?_;refine ah b 1 Mx (kq [0]) 16 <| bD b 1 (kp [1,4,5]) (kq [0,128]) 160 (pc (fun c:neg=true=>(pc c pn)) (pc (fun c:neg=true=>(pc c pn)) (pc (fun d:neg=true=>(pc d pn)) (pc o1 pn)))) <| ah b 2 MG (kq [0,128]) 176 <| cd b 2 MG (kq [0] ++ [(1,.var 128 [.aj,.xE 2]),(2,.nil 1 (fun zi=>(cU .u16) (([]:List Int).getD zi 0)))]) 3 (Ng N _ _ N _ _ _ h E b)
noncomputable abbrev aim:=bt Tryz.f185
def To (N:Nat) (n:Int) (K:(List Int)->Int->Option (eN)):Prop:=∀ (a:List Int) (u:Int) (r:eN),K a u=some r->∀ E,aG E 0->ar Tryz.prog E 185 25 (aH E [] (bO r)) [.code (aim 248),.inLoop (aim 248),.inBlock 0,.code (aim 63)] ⟨[(0,(aI n)),(2,(.op 0 0 0)),(3,(mK a)),(4,(uB u))],[(0,vO 2 [(aB false),.nil]),(ba a)],2⟩
theorem Hn (N n fuel):To N n (pa N n fuel):=by
 induction fuel with
 | zero=>intro _ _ r h;rw [pa.eq_1] at h;cases h
 | succ fuel d =>
  intro a u r h E b;rw [pa.eq_2] at h;refine ah b 2 (kp [0,2,3,4,12]) (kq [0,1]) 34 <| b9 0 12 h (fun e h=>?_) (fun e h=>?_)
  ·obtain ⟨c,h⟩:=ae h;refine bD b 3 (kp [0,2] ++ [(3,.mM ((a ++ (QZ u)).length))] ++ kp [4]) (kq [0] ++ [(114,ru 114 cI 0 (a ++ (QZ u)))]) 146 (pc (show (65536:Int)≠0 by decide) (pc (Eq.refl a.length) (pc c (pc (z1 1) (pc (oN [[(aI (aR ((u.tmod 65536))))]]) (pc (cj a (QZ u)) (pc (cj a (QZ u)) (pc (S5 cI 0 a (QZ u)) pn)))))))) <| bD b 1 VW (kq [0,114]) 194 (pc (show (65536:Int)≠0 by decide) pn) <| cd b 1 VW (kq [0] ++ [(1,.aj 114)]) 2 (d _ _ _ h E b)
  ·obtain ⟨f,g,h⟩:=a7 h;refine bc b 2 [(3,⟨[],true,(bO f),[],0,true,none⟩)] (kp [2]) (kq [0]) 114 (pc (lJ _ _ _ _ g) (pc (z1 a.length) (pc o1 pn))) ?_;obtain rfl:=lk h;exact ki b 0 Tryz.f185 [] (kp [2]) [(16,.aj 0)] 114 pn [16] (pc o1 pn)
theorem Yj (N n r) (h:CW N n=some r):Sd 185 [(aI n)] [] 0 (bO r) []:=by
 unfold CW at h;refine sO Tryz.f185 25 fun E a=>?_;refine ah a 1 (kp [0,2]) (kq [0]) 16 <| ah a 1 Rd (kq [0]) 32 <| ah a 1 VW (kq [0]) 80 <| ah a 2 (kp [0,2,3,4,8]) (kq [0]) 112 <| b9 0 8 h (fun b h=>?_) (fun b h=>?_)
 ·refine ah a 0 VW (kq [0]) 160 <| cd a 3 ahB ahQ 2 (Hn N _ N _ _ _ h E a)
 ·exact cd a 4 ahB ahQ 2 (Hn N _ N _ _ _ h E a)
theorem wj (N a i r) (h:qd N a i=some r):Sd 220 [(bJ cI 0 a),(aI i)] [] 0 (aI r) []:=by
 unfold qd at h;refine sO Tryz.f220 13 fun E b=>?_;refine ah b 1 (kp [0,1]) [] 16 <| ah b 2 (kp [0,1,8]) [] 80 <| b9 0 8 h (fun d h=>?_) (fun d h=>?_)
 ·obtain ⟨c,h⟩:=ae h;refine bD b 1 (kp [4]) [] 160 (pc c pn) ?_;cases h;exact dN b 0 Tryz.f220 (kp [4]) [] 160
 ·refine ah b 2 (kp [4]) [] 96 ?_;cases h;exact dN b 0 Tryz.f220 (kp [4]) [] 96
noncomputable abbrev NY:=bt Tryz.f188
def DI (N:Nat) (a:List Int) (b:List Int) (K:(List Int)->Int->Option kI):Prop:=∀ (out:List Int) (i:Int) (r:(List Int)),K out i=some r->∀ E,aG E 0->ar Tryz.prog E 188 61 (aH E [] (bJ cI 0 r)) [.code (NY 116),.inLoop (NY 116),.inBlock 0,.code (NY 15)] ⟨[(uD a),(Ad b),(5,(nb out)),(6,(aI i))],[(0,aO 1 cI 0 out)],1⟩
def Nh (N:Nat) (a:List Int) (b:List Int) (i:Int) (K:(List Int)->Int->Int->Option kI):Prop:=∀ (d:List Int) (c:Int) (k:Int) (r:(List Int)),K d c k=some r->∀ E,aG E 0->ar Tryz.prog E 188 61 (aH E [] (bJ cI 0 r)) [.code (NY 14924),.inLoop (NY 14924),.inBlock 2,.inBlock 1,.code (NY 467),.inLoop (NY 116),.inBlock 0,.code (NY 15)] ⟨[(uD a),(Ad b),(5,(nb d)),(6,(aI i)),(7,(aI c)),(8,(aI k))],[(0,aO 1 cI 0 d)],1⟩
theorem KX (N:Nat) (a:List Int) (b:List Int) (i:Int) (j:(List Int)->Int->Option kI) (l:DI N a b j) (fuel:Nat):Nh N a b i (l9 N a b i j fuel):=by
 induction fuel with
 | zero=>intro _ _ _ r h;rw [l9.eq_1] at h;cases h
 | succ fuel m =>
  intro d c k r h E e;rw [l9.eq_2] at h;refine bD e 2 (kp [0,1,5,6,7,8,30]) (kq [0]) 129 (pc (fun n:(X7 k b)=true=>(pc n pn)) (pc (fun o:(X7 k b)=true=>(pc o pn)) pn)) <| b9 0 30 h (fun p h=>?_) (fun p h=>?_)
  ·obtain ⟨g,h⟩:=ae h;obtain ⟨q,h⟩:=ae h;obtain ⟨f,s,h⟩:=a7 h;refine bc e 4 [(12,oT (aI f))] (kp [0,1,5,6,8,9]) (kq [0]) 417 (pc g (pc (dz g) (pc q (pc (wj _ _ _ _ s) pn)))) <| bD e 1 (kp [0,1] ++ [(5,.mM ((d.set (uA i k) (Yf d i k a f c)).length))] ++ kp [6,8,9]) [(0,ru 0 cI 0 (d.set (uA i k) (Yf d i k a f c)))] 545 (pc (show (65536:Int)≠0 by decide) (pc g (pc (dz g) (pc (aF d (uA i k) (Yf d i k a f c)) (pc (aF d (uA i k) (Yf d i k a f c)) (pc (cn cI 0 d (uA i k) (Yf d i k a f c)) pn)))))) <| bD e 0 B0 (kq [0]) 593 (pc (show (65536:Int)≠0 by decide) pn) <| ah e 1 B0 (kq [0]) 641 <| cd e 1 B0 (kq [0]) 1 (m _ _ _ _ h E e)
  ·refine ah e 2 Ag (kq [0]) 177 <| cd e 1 Ag (kq [0]) 1 (l _ _ _ h E e)
theorem KZ (N a b fuel):DI N a b (ma N a b fuel):=by
 induction fuel with
 | zero=>intro _ _ r h;rw [ma.eq_1] at h;cases h
 | succ fuel d =>
  intro out i r h E c;rw [ma.eq_2] at h;refine ah c 2 (kp [0,1,5,6,20]) (kq [0]) 65 <| b9 0 20 h (fun e h=>?_) (fun e h=>?_)
  ·refine ah c 4 GQ (kq [0]) 81 <| ah c 1 B0 (kq [0]) 97 <| cd c 2 B0 (kq [0]) 1 (KX N _ _ _ _ d N _ _ _ _ h E c)
  ·obtain ⟨f,g,h⟩:=a7 h;refine bc c 2 [(1,⟨[],true,(bJ cI 0 f),[],0,true,none⟩)] (kp [4]) [] 113 (pc (qZ _ _ _ g) (pc (z1 out.length) pn)) ?_;obtain rfl:=lk h;exact dN c 0 Tryz.f188 (kp [4]) [] 113
theorem AG (N a b r) (h:pe N a b=some r):Sd 188 [(bJ cI 0 a),(bJ cI 0 b)] [] 0 (bJ cI 0 r) []:=by
 unfold pe at h;refine sO Tryz.f188 61 fun E d=>?_;refine ah d 1 (kp [0,1]) [] 16 ?_;obtain ⟨c,h⟩:=ae h;refine bD d 1 (kp [0,1] ++ [(5,.mM ((ahp a b).length))]) [(112,ru 112 cI 0 (ahp a b))] 144 (pc c.1 (pc (Int.le_refl (aaH a b)) (pc c.2.1 (pc c.2.2 (pc (lR (aaI a b) (0:Int)) (pc (lR (aaI a b) (0:Int)) (pc (vK cI 0 0 (aaI a b)) pn))))))) <| ah d 2 Ag (kq [112]) 160 <| cd d 2 Ag [(0,.aj 112)] 1 (KZ N _ _ N _ _ _ h E d)
noncomputable abbrev ain:=bt Tryz.f205
def JX (N:Nat) (a:List Int) (b:List Int) (K:Int->Option (Int)):Prop:=∀ (i:Int) (r:Int),K i=some r->∀ E,aG E 0->ar Tryz.prog E 205 41 (aH E [] (aI r)) [.code (ain 116),.inLoop (ain 116),.inBlock 0,.code (ain 15)] ⟨[(uD a),(Ad b),(5,(aI i))],[],0⟩
theorem It (N a b fuel):JX N a b (j8 N a b fuel):=by
 induction fuel with
 | zero=>intro _ r h;rw [j8.eq_1] at h;cases h
 | succ fuel f =>
  intro i r h E d;rw [j8.eq_2] at h;refine ah d 2 (kp [0,1,5,20]) [] 32 <| b9 0 20 h (fun g h=>?_) (fun g h=>?_)
  ·obtain ⟨c,h⟩:=ae h;obtain ⟨e,h⟩:=ae h;refine bD d 4 (kp [0,1,5,31]) [] 176 (pc c (pc e pn)) <| b9 0 31 h (fun j h=>?_) (fun j h=>?_)
   ·refine bD d 1 (kp [4]) [] 336 (pc c (pc e pn)) ?_;cases h;exact dN d 0 Tryz.f205 (kp [4]) [] 336
   ·refine ah d 2 mL [] 224 <| cd d 1 mL [] 0 (f _ _ h E d)
  ·refine ah d 2 (kp [4]) [] 48 ?_;cases h;exact dN d 0 Tryz.f205 (kp [4]) [] 48
theorem DJ (N a b r) (h:qV N a b=some r):Sd 205 [(bJ cI 0 a),(bJ cI 0 b)] [] 0 (aI r) []:=by
 unfold qV at h;refine sO Tryz.f205 41 fun E c=>?_;refine ah c 1 (kp [0,1]) [] 16 <| ah c 2 (kp [0,1,10]) [] 96 <| b9 0 10 h (fun d h=>?_) (fun d h=>?_)
 ·refine ah c 1 (kp [4]) [] 192 ?_;cases h;exact dN c 0 Tryz.f205 (kp [4]) [] 192
 ·refine ah c 3 mL [] 160 <| cd c 2 mL [] 0 (It N _ _ N _ _ h E c)
noncomputable abbrev R1:=bt Tryz.f206
def DK (N:Nat) (a:List Int) (b:List Int) (K:(List Int)->Int->Int->Option kI):Prop:=∀ (out:List Int) (c:Int) (i:Int) (r:(List Int)),K out c i=some r->∀ E,aG E 0->ar Tryz.prog E 206 35 (aH E [] (bJ cI 0 r)) [.code (R1 244),.inLoop (R1 244),.inBlock 0,.code (R1 31)] ⟨[(uD a),(Ad b),(5,(nb out)),(6,(aI c)),(7,(aI i))],[(0,aO 1 cI 0 out)],1⟩
def Ni (N:Nat) (a:List Int) (b:List Int) (out:List Int) (i:Int) (K:Int->Int->Option kI):Prop:=∀ (c:Int) (s:Int) (r:(List Int)),K c s=some r->∀ E,aG E 0->ar Tryz.prog E 206 35 (aH E [] (bJ cI 0 r)) [.code (R1 15655),.inBlock 1,.code (R1 979),.inLoop (R1 244),.inBlock 0,.code (R1 31)] ⟨[(uD a),(Ad b),(5,(nb out)),(6,(aI c)),(7,(aI i)),(8,(aI s))],[(0,aO 1 cI 0 out)],1⟩
theorem Bz (N:Nat) (a:List Int) (b:List Int) (out:List Int) (i:Int) (d:(List Int)->Int->Int->Option kI) (e:DK N a b d):Ni N a b out i (pT N a b out i d):=by
 intro g s r h E c;unfold pT at h;obtain ⟨f,h⟩:=ae h;refine bD c 0 (kp [0,1] ++ [(5,.mM ((out ++ (rf s)).length))] ++ kp [6,7]) [(49,ru 49 cI 0 (out ++ (rf s)))] 81 (pc (Eq.refl out.length) (pc f (pc (z1 1) (pc (oN [[(aI s)]]) (pc (cj out (rf s)) (pc (cj out (rf s)) (pc (S5 cI 0 out (rf s)) pn))))))) <| ah c 1 GQ (kq [49]) 129 <| cd c 1 GQ [(0,.aj 49)] 1 (e _ _ _ _ h E c)
theorem K3 (N a b fuel):DK N a b (jH N a b fuel):=by
 induction fuel with
 | zero=>intro _ _ _ r h;rw [jH.eq_1] at h;cases h
 | succ fuel f =>
  intro out e i r h E d;rw [jH.eq_2] at h;refine ah d 2 (kp [0,1,5,6,7,12]) (kq [0]) 65 <| b9 0 12 h (fun g h=>?_) (fun g h=>?_)
  ·obtain ⟨c,h⟩:=ae h;obtain ⟨j,k,h⟩:=a7 h;refine bc d 4 [(6,oT (aI j))] oa (kq [0]) 241 (pc c (pc (wj _ _ _ _ k) pn)) <| ah d 1 B0 (kq [0]) 257 <| ah d 2 (kp [0,1,5,6,7,8,26]) (kq [0]) 289 <| b9 0 26 h (fun l h=>?_) (fun l h=>?_)
   ·refine ah d 1 oa (kq [0]) 337 <| ah d 0 B0 (kq [0]) 353 <| cd d 0 B0 (kq [0]) 1 (Bz N _ _ _ _ _ f _ _ _ h E d)
   ·exact cd d 1 B0 (kq [0]) 1 (Bz N _ _ _ _ _ f _ _ _ h E d)
  ·obtain ⟨m,n,h⟩:=a7 h;refine bc d 2 [(1,⟨[],true,(bJ cI 0 m),[],0,true,none⟩)] (kp [4]) [] 113 (pc (qZ _ _ _ n) (pc (z1 out.length) pn)) ?_;obtain rfl:=lk h;exact dN d 0 Tryz.f206 (kp [4]) [] 113
theorem AH (N a b r) (h:uZ N a b=some r):Sd 206 [(bJ cI 0 a),(bJ cI 0 b)] [] 0 (bJ cI 0 r) []:=by
 unfold uZ at h;refine sO Tryz.f206 35 fun E c=>?_;refine ah c 1 (kp [0,1]) [] 16 <| ah c 1 mL [] 32 <| ah c 1 Ag [] 48 <| ah c 2 GQ [] 64 <| cd c 2 ahz [(0,.nil 1 GM)] 1 (K3 N _ _ N _ _ _ _ h E c)
noncomputable abbrev Fx:=bt Tryz.f187
def yI (N:Nat) (a:List Int) (b:List Int) (K:(List Int)->(List Int)->Int->Option QI):Prop:=∀ (rest:List Int) (q:List Int) (i:Int) (r:(List Int)×(List Int)),K rest q i=some r->∀ E,aG E 0->ar Tryz.prog E 187 63 (aH E [] (Jh r)) [.code (Fx 244),.inLoop (Fx 244),.inBlock 0,.code (Fx 31)] ⟨[(uD a),(Ad b),(6,(bJ cI 0 rest)),(7,(nb q)),(8,(aI i))],[(0,aO 1 cI 0 q)],1⟩
def OT (N:Nat) (a:List Int) (b:List Int) (q:List Int) (i:Int) (c:(List Int)) (K:Int->Int->Option QI):Prop:=∀ (lo:Int) (hi:Int) (r:(List Int)×(List Int)),K lo hi=some r->∀ E,aG E 0->ar Tryz.prog E 187 63 (aH E [] (Jh r)) [.code (Fx 62616),.inLoop (Fx 62616),.inBlock 2,.code (Fx 15655),.inBlock 1,.code (Fx 979),.inLoop (Fx 244),.inBlock 0,.code (Fx 31)] ⟨[(uD a),(Ad b),(6,(bJ cI 0 c)),(7,(nb q)),(8,(aI i)),(9,(aI lo)),(10,(aI hi))],[(0,aO 1 cI 0 q)],1⟩
def OU (N:Nat) (a:List Int) (b:List Int) (q:List Int) (i:Int) (lo:Int) (K:(List Int)->Option QI):Prop:=∀ (c:List Int) (r:(List Int)×(List Int)),K c=some r->∀ E,aG E 0->ar Tryz.prog E 187 63 (aH E [] (Jh r)) [.code (Fx 979),.inLoop (Fx 244),.inBlock 0,.code (Fx 31)] ⟨[(uD a),(Ad b),(6,(bJ cI 0 c)),(7,(.os 0 0 ((q.set i.toNat lo).length))),(8,(aI i))],[(0,aO 1 cI 0 (q.set i.toNat lo))],1⟩
theorem DL (N:Nat) (a:List Int) (b:List Int) (q:List Int) (i:Int) (lo:Int) (d:(List Int)->(List Int)->Int->Option QI) (e:yI N a b d):OU N a b q i lo (qW N a b q i lo d):=by
 intro f r h E c;unfold qW at h;refine ah c 0 w6 (kq [0]) 49 <| cd c 1 w6 (kq [0]) 1 (e _ _ _ _ h E c)
theorem Nj (N:Nat) (a:List Int) (b:List Int) (q:List Int) (i:Int) (d:(List Int)) (e:(List Int)->(List Int)->Int->Option QI) (f:yI N a b e) (fuel:Nat):OT N a b q i d (lF N a b q i d e fuel):=by
 induction fuel with
 | zero=>intro _ _ r h;rw [lF.eq_1] at h;cases h
 | succ fuel g =>
  intro lo hi r h E c;rw [lF.eq_2] at h;refine ah c 2 (kp [0,1,6,7,8,9,10,32]) (kq [0]) 49 <| b9 0 32 h (fun m h=>?_) (fun m h=>?_)
  ·refine bD c 3 (kp [0,1,6,7,8,9,10,11]) (kq [0]) 145 (pc (show (2:Int)≠0 by decide) pn) ?_;obtain ⟨j,n,h⟩:=a7 h;obtain ⟨o,p,h⟩:=a7 h;refine bc c 1 [(3,⟨[],true,(bJ cI 0 j),[],0,true,none⟩),(5,oT (aI o))] (kp [0,1,6,7,8,9,10,11,44]) (kq [0]) 257 (pc (show Sd 188 [(bJ cI 0 b),(.sl 1 (fun zi=>(fun zi=>([[(aI (aR ((aR ((aR (lo+hi))+1)).tdiv 2)))]]:List (List AV)).getD zi []) (da 0 zi)))] [] 0 (bJ cI 0 j) [] from (Sound.conv (AG _ _ _ _ n) (.cons (Alike.refl _) (.cons (Alike.sl rfl (wV cI 0 ([(aR ((aR ((aR (lo+hi))+1)).tdiv 2))]:List Int))) .nil)))) (pc (z1 1) (pc (DJ _ _ _ _ p) pn))) <| b9 0 44 h (fun s h=>?_) (fun s h=>?_)
   ·refine ah c 0 Mz (kq [0]) 289 <| cd c 2 Mz (kq [0]) 1 (g _ _ _ h E c)
   ·refine ah c 0 Mz (kq [0]) 305 <| cd c 2 Mz (kq [0]) 1 (g _ _ _ h E c)
  ·obtain ⟨k,h⟩:=ae h;refine bD c 2 (kp [0,1,6] ++ [(7,.mM ((q.set i.toNat lo).length))] ++ kp [8,9]) [(0,ru 0 cI 0 (q.set i.toNat lo))] 129 (pc k (pc (dz k) (pc (aF q i.toNat lo) (pc (aF q i.toNat lo) (pc (cn cI 0 q i.toNat lo) pn))))) <| ah c 1 (kp [0,1,6,7,8,9,53]) (kq [0]) 161 <| b9 0 53 h (fun t h=>?_) (fun t h=>?_)
   ·obtain ⟨l,u,h⟩:=a7 h;obtain ⟨v,w,h⟩:=a7 h;refine bc c 0 [(4,⟨[],true,(bJ cI 0 l),[],0,true,none⟩),(5,oT (bJ cI 0 v))] w6 (kq [0]) 273 (pc (show Sd 188 [(bJ cI 0 b),(.sl 1 (fun zi=>(fun zi=>([[(aI lo)]]:List (List AV)).getD zi []) (da 0 zi)))] [] 0 (bJ cI 0 l) [] from (Sound.conv (AG _ _ _ _ u) (.cons (Alike.refl _) (.cons (Alike.sl rfl (wV cI 0 (rf lo))) .nil)))) (pc (z1 1) (pc (AH _ _ _ _ w) pn))) <| cd c 1 w6 (kq [0]) 1 (DL N _ _ _ _ _ _ f _ _ h E c)
   ·exact cd c 2 w6 (kq [0]) 1 (DL N _ _ _ _ _ _ f _ _ h E c)
theorem Nk (N a b fuel):yI N a b (lG N a b fuel):=by
 induction fuel with
 | zero=>intro _ _ _ r h;rw [lG.eq_1] at h;cases h
 | succ fuel f =>
  intro rest q i r h E c;rw [lG.eq_2] at h;refine ah c 2 (kp [0,1,6,7,8,19]) (kq [0]) 33 <| b9 0 19 h (fun g h=>?_) (fun g h=>?_)
  ·obtain ⟨j,h⟩:=ae h;obtain ⟨k,h⟩:=ae h;obtain ⟨e,l,h⟩:=a7 h;refine bc c 4 [(7,⟨[],true,(bJ cI 0 e),[],0,true,none⟩)] w6 (kq [0]) 177 (pc j (pc (Eq.refl 1) (pc k (pc (show ∀ zi,zi < rest.length->AV.vH ((fun zi=>cI (rest.getD zi 0)) zi)=true from (fun _ _=>rfl)) (pc (show Sd 218 [(.sl (1+rest.length) (fun zi=>((fun d=>if d < 1 then (fun zi=>([[(aI (wM a i))]]:List (List AV)).getD zi []) d else (fun zi=>cI (rest.getD zi 0)) (d - 1))) (da 0 zi)))] [] 0 (bJ cI 0 e) [] from (Sound.conv (qZ _ _ _ l) (.cons (Alike.sl (uS rfl rfl) (Bl cI 0 ([(wM a i)]:List Int) rest rfl (wV cI 0 ([(wM a i)]:List Int)) (eR cI 0 rest))) .nil))) (pc (z1 (1+rest.length)) pn)))))) <| ah c 1 Mz (kq [0]) 209 <| cd c 3 Mz (kq [0]) 1 (Nj N _ _ _ _ _ _ f N _ _ _ h E c)
  ·obtain ⟨m,n,h⟩:=a7 h;refine bc c 2 [(1,⟨[],true,(bJ cI 0 m),[],0,true,none⟩)] (kp [4,5]) [] 113 (pc (qZ _ _ _ n) (pc (z1 q.length) pn)) ?_;cases h;exact dN c 0 Tryz.f187 (kp [4,5]) [] 113
theorem Ct (N a b r) (h:sd N a b=some r):Sd 187 [(bJ cI 0 a),(bJ cI 0 b)] [] 0 (Jh r) []:=by
 unfold sd at h;refine sO Tryz.f187 63 fun E d=>?_;refine ah d 1 (kp [0,1]) [] 32 <| ah d 1 (kp [0,1,6]) [] 48 ?_
 obtain ⟨c,h⟩:=ae h;refine bD d 1 (kp [0,1,6] ++ [(7,.mM (ahf a))]) [(80,ru 80 cI 0 (Vt a))] 112 (pc c.1 (pc (Int.le_refl (wZ a)) (pc c.2.1 (pc c.2.2 (pc (lR a.length (0:Int)) (pc (lR a.length (0:Int)) (pc (vK cI 0 0 a.length) pn))))))) <| ah d 2 w6 (kq [80]) 176 <| Z3 d 2 [] (kp [0,1] ++ [(6,Cx cI 0 ([]:List Int))] ++ kp [7,8]) [(0,.aj 80)] 1 (pc (Eq.refl 0) pn) (Nk N _ _ N _ _ _ _ h E d)
noncomputable abbrev aio:=bt Tryz.f186
def R2 (N:Nat) (K:(List Int)->(List Int)->Option kI):Prop:=∀ (a:List Int) (b:List Int) (r:(List Int)),K a b=some r->∀ E,aG E 0->ar Tryz.prog E 186 19 (aH E [] (bJ cI 0 r)) [.code (aio 24),.inLoop (aio 24),.inBlock 0,.code (aio 7)] ⟨[(uD a),(Ad b)],[],0⟩
theorem OV (N fuel):R2 N (qw N fuel):=by
 induction fuel with
 | zero=>intro _ _ r h;rw [qw.eq_1] at h;cases h
 | succ fuel b =>
  intro e f r h E a;rw [qw.eq_2] at h;refine ah a 2 (kp [0,1,9]) [] 48 <| b9 0 9 h (fun c h=>?_) (fun c h=>?_)
  ·obtain ⟨pR,d,h⟩:=a7 h;refine bc a 3 [(2,oT (Jh pR))] (kp [1,6]) [] 176 (pc (Ct _ _ _ _ d) pn) <| ah a 0 (kp [0,1]) [] 240 <| cd a 2 (kp [0,1]) [] 0 (b _ _ _ h E a)
  ·refine ah a 2 (kp [4]) [] 80 ?_;obtain rfl:=lk h;exact dN a 0 Tryz.f186 (kp [4]) [] 80
theorem Wz (N a b r) (h:H5 N a b=some r):Sd 186 [(bJ cI 0 a),(bJ cI 0 b)] [] 0 (bJ cI 0 r) []:=by
 unfold H5 at h;refine sO Tryz.f186 19 fun E c=>?_;refine ah c 1 (kp [0,1]) [] 16 <| cd c 3 (kp [0,1]) [] 0 (OV N N _ _ _ h E c)
theorem IJ (N a b r) (h:wX N a b=some r):Sd 127 [(bO a),(bO b)] [] 0 (aA r) []:=by
 unfold wX at h;refine sO Tryz.f127 52 fun E c=>?_;refine ah c 1 sm jU 48 ?_;obtain ⟨e,f,h⟩:=a7 h;obtain ⟨g,i,h⟩:=a7 h;refine bc c 1 [(2,oT (bJ cI 0 e)),(5,oT (bJ cI 0 g))] GW jU 176 (pc o1 (pc (nD _ _ _ f) (pc o1 (pc (nD _ _ _ i) pn)))) <| ah c 2 (kp [2,3,4,5,6,20]) jU 224 <| b9 0 20 h (fun j h=>?_) (fun j h=>?_)
 ·obtain ⟨k,l,h⟩:=a7 h;obtain ⟨rOf,m,h⟩:=a7 h;refine bc c 1 [(3,oT (bO k)),(4,oT (bO rOf))] (kp [4]) (kq [32]) 336 (pc o1 (pc (lJ _ _ _ _ l) (pc (Yj _ _ _ m) (pc o1 pn)))) ?_;cases h;exact ki c 0 Tryz.f127 [] (kp [4]) [(16,.aj 32)] 336 pn [16] (pc o1 pn)
 ·obtain ⟨d,n,h⟩:=a7 h;refine bc c 2 [(2,oT (bJ cI 0 d))] abe jU 288 (pc (Wz _ _ _ _ n) pn) ?_;obtain ⟨pR,o,h⟩:=a7 h;refine bc c 1 [(2,oT (Jh pR))] (kp [2,3,4,6,7,8]) jU 416 (pc (Ct _ _ _ _ o) pn) ?_;obtain ⟨p,q,h⟩:=a7 h;refine bc c 1 [(2,oT (Jh p))] (kp [2,3,4,8,10]) jU 544 (pc (Ct _ _ _ _ q) pn) ?_;obtain ⟨s,t,h⟩:=a7 h;obtain ⟨u,v,h⟩:=a7 h;refine bc c 1 [(6,oT (bO s)),(8,oT (bO u))] (kp [4]) (kq [32]) 720 (pc o1 (pc o1 (pc (lJ _ _ _ _ t) (pc (lJ _ _ _ _ v) (pc o1 pn))))) ?_;cases h;exact ki c 0 Tryz.f127 [] (kp [4]) [(16,.aj 32)] 720 pn [16] (pc o1 pn)
theorem ta (N x r) (h:pk N x=some r):Sd 120 [(aA x)] [] 0 (aA r) []:=by
 unfold pk at h;refine sO Tryz.f120 8 fun E a=>?_;refine ah a 1 (kp [1,2]) gS 32 ?_;obtain ⟨b,c,h⟩:=a7 h;refine bc a 1 [(4,oT (aA b))] (kp [2]) (kq [16]) 128 (pc o1 (pc o1 (pc (IJ _ _ _ _ c) (pc o1 pn)))) ?_;obtain rfl:=lk h;exact ki a 0 Tryz.f120 [] (kp [2]) (kq [16]) 128 pn [16] (pc o1 pn)
theorem WA (N a r) (h:H6 N a=some r):Sd 129 [(bO a)] [] 0 (bO r) []:=by
 unfold H6 at h;refine sO Tryz.f129 10 fun E b=>?_;refine ah b 1 (kp [1,2]) gS 32 ?_;obtain ⟨c,d,h⟩:=a7 h;obtain ⟨e,f,h⟩:=a7 h;refine bc b 1 [(5,oT (bJ cI 0 c)),(6,oT (bO e))] (kp [2]) (kq [16]) 160 (pc o1 (pc o1 (pc (nD _ _ _ d) (pc (lJ _ _ _ _ f) (pc o1 pn))))) ?_;obtain rfl:=lk h;exact ki b 0 Tryz.f129 [] (kp [2]) (kq [16]) 160 pn [16] (pc o1 pn)
theorem OW (N x r) (h:zd N x=some r):Sd 64 [(aA x)] [] 0 (aA r) []:=by
 unfold zd at h;refine sO Tryz.f64 12 fun E a=>?_;refine ah a 1 (kp [1,2]) gS 32 ?_;obtain ⟨c,d,h⟩:=a7 h;refine bc a 1 [(1,oT (aA c))] (kp [2,3]) (kq [16,64]) 96 (pc o1 (pc (ta _ _ _ d) (pc o1 pn))) ?_;obtain ⟨b,e,h⟩:=a7 h;refine bc a 1 [(2,oT (bO b))] (kp [2]) (kq [16]) 208 (pc o1 (pc (WA _ _ _ e) (pc o1 (pc o1 pn)))) ?_;cases h;exact ki a 0 Tryz.f64 [] (kp [2]) (kq [16]) 208 pn [16] (pc o1 pn)
theorem EP (N a b r) (h:zS N a b=some r):Sd 128 [(bO a),(bO b)] [] 0 (bO r) []:=by
 unfold zS at h;refine sO Tryz.f128 18 fun E c=>?_;refine ah c 1 sm jU 48 ?_;obtain ⟨d,e,h⟩:=a7 h;obtain ⟨f,g,h⟩:=a7 h;obtain ⟨i,j,h⟩:=a7 h;obtain ⟨k,l,h⟩:=a7 h;refine bc c 1 [(7,oT (bJ cI 0 d)),(10,oT (bJ cI 0 f)),(11,oT (bJ cI 0 i)),(12,oT (bO k))] (kp [4]) (kq [32]) 272 (pc o1 (pc o1 (pc o1 (pc (nD _ _ _ e) (pc o1 (pc (nD _ _ _ g) (pc (AG _ _ _ _ j) (pc (lJ _ _ _ _ l) (pc o1 pn))))))))) ?_;obtain rfl:=lk h;exact ki c 0 Tryz.f128 [] (kp [4]) [(16,.aj 32)] 272 pn [16] (pc o1 pn)
noncomputable abbrev aip:=bt Tryz.f204
def OX (N:Nat) (a:List Int) (b:List Int) (K:(List Int)->Int->Int->Option kI):Prop:=∀ (out:List Int) (c:Int) (i:Int) (r:(List Int)),K out c i=some r->∀ E,aG E 0->ar Tryz.prog E 204 43 (aH E [] (bJ cI 0 r)) [.code (aip 244),.inLoop (aip 244),.inBlock 0,.code (aip 31)] ⟨[(uD a),(Ad b),(5,(nb out)),(6,(aI c)),(7,(aI i))],[(0,aO 1 cI 0 out)],1⟩
theorem Nl (N a b fuel):OX N a b (nB N a b fuel):=by
 induction fuel with
 | zero=>intro _ _ _ r h;rw [nB.eq_1] at h;cases h
 | succ fuel l =>
  intro out d i r h E e;rw [nB.eq_2] at h;refine bD e 2 (kp [0,1,5,6,7,22]) (kq [0]) 225 (pc (fun j:(X7 i a)=true=>(pc j pn)) (pc (fun j:(X7 i a)=true=>(pc j (pc j pn))) (pc (fun k:(X7 i a)=true=>(pc k pn)) (pc (fun j:(!(cond (QG i a) true (QG i b)))=true=>(pc j pn)) (pc (fun k:(!(cond (QG i a) true (QG i b)))=true=>(pc k pn)) pn))))) <| b9 0 22 h (fun m h=>?_) (fun m h=>?_)
  ·obtain ⟨f,n,h⟩:=a7 h;obtain ⟨g,o,h⟩:=a7 h;refine bc e 4 [(2,oT (aI f)),(5,oT (aI g))] oa (kq [0]) 385 (pc (wj _ _ _ _ n) (pc (wj _ _ _ _ o) pn)) ?_;obtain ⟨c,h⟩:=ae h;refine bD e 1 (kp [0,1] ++ [(5,.mM ((out ++ (QV f g d)).length))] ++ kp [7,8]) [(449,ru 449 cI 0 (out ++ (QV f g d)))] 481 (pc (show (65536:Int)≠0 by decide) (pc (Eq.refl out.length) (pc c (pc (z1 1) (pc (oN [[(aI ((aR ((aR (f+g))+d)).tmod 65536))]]) (pc (cj out (QV f g d)) (pc (cj out (QV f g d)) (pc (S5 cI 0 out (QV f g d)) pn)))))))) <| bD e 0 GQ (kq [449]) 529 (pc (show (65536:Int)≠0 by decide) pn) <| ah e 1 GQ (kq [449]) 577 <| cd e 1 GQ [(0,.aj 449)] 1 (l _ _ _ _ h E e)
  ·obtain ⟨p,q,h⟩:=a7 h;refine bc e 2 [(1,⟨[],true,(bJ cI 0 p),[],0,true,none⟩)] (kp [4]) [] 273 (pc (qZ _ _ _ q) (pc (z1 out.length) pn)) ?_;obtain rfl:=lk h;exact dN e 0 Tryz.f204 (kp [4]) [] 273
theorem Tr (N a b r) (h:Ed N a b=some r):Sd 204 [(bJ cI 0 a),(bJ cI 0 b)] [] 0 (bJ cI 0 r) []:=by
 unfold Ed at h;refine sO Tryz.f204 43 fun E c=>?_;refine ah c 1 (kp [0,1]) [] 16 <| ah c 1 mL [] 32 <| ah c 1 Ag [] 48 <| ah c 2 GQ [] 64 <| cd c 2 ahz [(0,.nil 1 GM)] 1 (Nl N _ _ N _ _ _ _ h E c)
theorem WB (N a b r) (h:H7 N a b=some r):Sd 143 [(bO a),(bO b)] [] 0 (bO r) []:=by
 unfold H7 at h;refine sO Tryz.f143 40 fun E c=>?_;refine ah c 1 sm jU 48 ?_;obtain ⟨d,e,h⟩:=a7 h;obtain ⟨f,g,h⟩:=a7 h;refine bc c 1 [(2,oT (bJ cI 0 d)),(5,oT (bJ cI 0 f))] GW jU 176 (pc o1 (pc (nD _ _ _ e) (pc o1 (pc (nD _ _ _ g) pn)))) <| bD c 2 (kp [2,3,4,5,6,17]) jU 256 (pc o1 (pc o1 pn)) <| b9 0 17 h (fun i h=>?_) (fun i h=>?_)
 ·obtain ⟨j,k,h⟩:=a7 h;obtain ⟨l,m,h⟩:=a7 h;refine bc c 1 [(4,oT (bJ cI 0 j)),(5,oT (bO l))] (kp [4]) (kq [32]) 368 (pc o1 (pc (Tr _ _ _ _ k) (pc (lJ _ _ _ _ m) (pc o1 pn)))) ?_;obtain rfl:=lk h;exact ki c 0 Tryz.f143 [] (kp [4]) [(16,.aj 32)] 368 pn [16] (pc o1 pn)
 ·obtain ⟨n,o,h⟩:=a7 h;refine bc c 3 [(2,oT (aI n))] (kp [2,3,4,5,6,27]) jU 320 (pc (DJ _ _ _ _ o) pn) <| b9 0 27 h (fun p h=>?_) (fun p h=>?_)
  ·obtain ⟨q,s,h⟩:=a7 h;obtain ⟨t,u,h⟩:=a7 h;refine bc c 1 [(4,oT (bJ cI 0 q)),(5,oT (bO t))] (kp [4]) (kq [32]) 432 (pc o1 (pc (AH _ _ _ _ s) (pc (lJ _ _ _ _ u) (pc o1 pn)))) ?_;obtain rfl:=lk h;exact ki c 0 Tryz.f143 [] (kp [4]) [(16,.aj 32)] 432 pn [16] (pc o1 pn)
  ·obtain ⟨v,w,h⟩:=a7 h;obtain ⟨x,y,h⟩:=a7 h;refine bc c 2 [(4,oT (bJ cI 0 v)),(5,oT (bO x))] (kp [4]) (kq [32]) 432 (pc o1 (pc (AH _ _ _ _ w) (pc (lJ _ _ _ _ y) (pc o1 pn)))) ?_;obtain rfl:=lk h;exact ki c 0 Tryz.f143 [] (kp [4]) [(16,.aj 32)] 432 pn [16] (pc o1 pn)
theorem OY (N x y r) (h:ze N x y=some r):Sd 69 [(aA x),(aA y)] [] 0 (aA r) []:=by
 unfold ze at h;refine sO Tryz.f69 28 fun E a=>?_;refine ah a 1 sm jU 48 ?_;obtain ⟨c,d,h⟩:=a7 h;obtain ⟨e,f,h⟩:=a7 h;refine bc a 1 [(1,oT (aA c)),(3,oT (aA e))] (kp [4,5,6]) (kq [32,112,128]) 176 (pc o1 (pc (ta _ _ _ d) (pc o1 (pc (ta _ _ _ f) (pc o1 (pc o1 pn)))))) ?_;obtain ⟨g,i,h⟩:=a7 h;obtain ⟨j,k,h⟩:=a7 h;obtain ⟨b,l,h⟩:=a7 h;obtain ⟨m,n,h⟩:=a7 h;obtain ⟨o,p,h⟩:=a7 h;refine bc a 1 [(4,oT (bO g)),(9,oT (bO j)),(10,oT (bO b)),(15,oT (bO m)),(16,oT (aA o))] (kp [4]) (kq [32]) 464 (pc o1 (pc o1 (pc (EP _ _ _ _ i) (pc o1 (pc o1 (pc (EP _ _ _ _ k) (pc (WB _ _ _ _ l) (pc o1 (pc o1 (pc (EP _ _ _ _ n) (pc (IJ _ _ _ _ p) (pc o1 pn)))))))))))) ?_;obtain rfl:=lk h;exact ki a 0 Tryz.f69 [] (kp [4]) [(16,.aj 32)] 464 pn [16] (pc o1 pn)
theorem OZ (N x y r) (h:zf N x y=some r):Sd 22 [(aA x),(aA y)] [] 0 (aA r) []:=by
 unfold zf at h;refine sO Tryz.f22 9 fun E a=>?_;refine ah a 1 sm jU 48 ?_;obtain ⟨b,c,h⟩:=a7 h;obtain ⟨d,e,h⟩:=a7 h;refine bc a 1 [(2,oT (aA b)),(3,oT (aA d))] (kp [4]) (kq [32]) 128 (pc o1 (pc o1 (pc (OW _ _ _ c) (pc (OY _ _ _ _ e) (pc o1 pn))))) ?_;obtain rfl:=lk h;exact ki a 0 Tryz.f22 [] (kp [4]) [(16,.aj 32)] 128 pn [16] (pc o1 pn)
theorem Ts (N a r) (h:Ee N a=some r):Sd 119 [(bO a)] [] 0 (aI r) []:=by
 unfold Ee at h;refine sO Tryz.f119 10 fun E b=>?_;refine ah b 1 (kp [1]) (kq [0]) 32 ?_;obtain ⟨c,d,h⟩:=a7 h;refine bc b 2 [(2,oT (bJ cI 0 c))] (kp [1,7]) (kq [0]) 112 (pc o1 (pc (nD _ _ _ d) pn)) <| b9 0 7 h (fun e h=>?_) (fun e h=>?_)
 ·refine ah b 1 (kp [2]) [] 128 ?_;cases h;exact dN b 0 Tryz.f119 (kp [2]) [] 128
 ·refine bD b 3 (kp [9]) [] 144 (pc o1 pn) <| b9 0 9 h (fun f h=>?_) (fun f h=>?_)
  ·refine ah b 1 (kp [2]) [] 160 ?_;cases h;exact dN b 0 Tryz.f119 (kp [2]) [] 160
  ·refine ah b 2 (kp [2]) [] 160 ?_;cases h;exact dN b 0 Tryz.f119 (kp [2]) [] 160
theorem Nm (N x r) (h:xt N x=some r):Sd 53 [(aA x)] [] 0 (aI r) []:=by
 unfold xt at h;refine sO Tryz.f53 7 fun E a=>?_;refine ah a 1 (kp [1]) (kq [0]) 32 ?_;obtain ⟨c,d,h⟩:=a7 h;obtain ⟨b,e,h⟩:=a7 h;refine bc a 1 [(1,oT (aA c)),(3,oT (aI b))] (kp [2]) [] 112 (pc o1 (pc (ta _ _ _ d) (pc (Ts _ _ _ e) pn))) ?_;obtain rfl:=lk h;exact dN a 0 Tryz.f53 (kp [2]) [] 112
theorem O0 (N x y r) (h:zg N x y=some r):Sd 14 [(aA x),(aA y)] [] 0 (aI r) []:=by
 unfold zg at h;refine sO Tryz.f14 9 fun E a=>?_;refine ah a 1 (kp [2,3]) gS 48 ?_;obtain ⟨b,c,h⟩:=a7 h;obtain ⟨d,e,h⟩:=a7 h;refine bc a 1 [(2,oT (aA b)),(3,oT (aI d))] (kp [4]) [] 128 (pc o1 (pc o1 (pc (OZ _ _ _ _ c) (pc (Nm _ _ _ e) pn)))) ?_;obtain rfl:=lk h;exact dN a 0 Tryz.f14 (kp [4]) [] 128
theorem vC (N w r) (h:e8 N w=some r):Sd 3 [(mJ w)] [] 0 (aB r) []:=by
 unfold e8 at h;refine sO Tryz.f3 109 fun E b=>?_;refine ah b 1 (kp [1]) (kq [0]) 32 ?_;obtain ⟨e,m,h⟩:=a7 h;obtain ⟨n,o,h⟩:=a7 h;refine bc b 2 [(1,oT (aB e)),(17,oT (aI n))] (kp [1,31]) (kq [0]) 352 (pc o1 (pc (RX _ _ _ _ m) (pc (fun a:(!(!e))=true=>(pc a (pc o1 pn))) (pc (fun a:(!(!e))=true=>(pc a pn)) (pc (fun a:(!(!e))=true=>(pc a pn)) (pc (fun d:(!(!e))=true=>(pc d pn)) (pc (fun a:(ala e w)=true=>(pc a (pc o1 pn))) (pc (fun a:(ala e w)=true=>(pc a pn)) (pc (fun a:(ala e w)=true=>(pc a pn)) (pc (fun d:(ala e w)=true=>(pc d pn)) (pc (fun a:(alb e w)=true=>(pc o1 pn)) (pc (fun a:(alb e w)=true=>(pc (JP _ _ _ (aW o a)) (pc a pn))) (pc (fun a:(alb e w)=true=>(pc a pn)) (pc (fun d:(alb e w)=true=>(pc d pn)) pn)))))))))))))) <| b9 0 31 h (fun p h=>?_) (fun p h=>?_)
 ·refine bc b 1 [(0,oT (aB true))] (kp [2]) [] 384 (pc kc1 pn) ?_;obtain rfl:=lk h;exact dN b 0 Tryz.f3 (kp [2]) [] 384
 ·obtain ⟨q,s,h⟩:=a7 h;refine bc b 2 [(1,oT (VO q))] (kp [1,3]) (kq [0]) 400 (pc o1 (pc (zo _ _ _ s) pn)) <| ah b 2 (kp [1,3,37]) (kq [0]) 448 <| b9 0 37 h (fun t h=>?_) (fun t h=>?_)
  ·refine bc b 1 [(0,oT (aB true))] (kp [2]) [] 480 (pc kc1 pn) ?_;obtain rfl:=lk h;exact dN b 0 Tryz.f3 (kp [2]) [] 480
  ·obtain ⟨c,h⟩:=ae h;refine bD b 2 (kp [1,3] ++ [(4,.mM (NR w))]) (kq [0] ++ [(512,.arz 512 (NR w) (GL w))]) 544 (pc o1 (pc c.1 (pc (Int.le_refl (Wp w)) (pc c.2.1 (pc c.2.2 (pc (lR (Fm w) oz) (pc (lQ (Fm w) oz) (pc (show ∀ zi,zi < (tu w).length->S4 ((fun _=>[(aB false),.nil,(aB false),.nil]) zi) ((GL w) zi) from (fun u v=>nU dY aa.d aa.d (Fm w) u ⟨.inl rfl,.inr ⟨rfl,_,rfl⟩,.inl rfl,.inr ⟨rfl,_,rfl⟩,trivial⟩ v)) pn)))))))) ?_;obtain ⟨i,x,h⟩:=a7 h;obtain ⟨l,h⟩:=ae h;refine bc b 1 [(4,oT (aA i))] (kp [1,3] ++ [(4,.mM (ahd w i))]) (kq [0] ++ [(512,ru 512 dY aa.d (ahg w i))]) 656 (pc o1 (pc (tL _ _ _ x) (pc l (pc (dz l) (pc (aF (tu w) w.ab.length i) (pc (aF (tu w) w.ab.length i) (pc (cn dY aa.d (tu w) w.ab.length i) pn))))))) <| Lo b [512] (kp [1,3] ++ [(4,Cx dY aa.d (ahg w i))]) (kq [0]) 656 (pc (Eq.refl (ahd w i)) (pc (z1 (ahd w i)) (pc (eZ dY aa.d (ahg w i)) pn))) ?_
   obtain ⟨j,y,h⟩:=a7 h;refine bc b 1 [(2,oT (.tup [(.agg (uT.cells j.1)),(aI j.2)]))] (kp [1,3,4,5,6]) (kq [0,752]) 800 (pc (ON _ _ _ _ y) (pc o1 pn)) ?_;obtain ⟨f,z,h⟩:=a7 h;refine bc b 1 [(1,oT (.tup [(bJ cI 0 f.1),(aI f.2.1),(aI f.2.2)]))] (kp [1,3,4,5,6,8,9]) (kq [0,752]) 944 (pc o1 (pc (EO _ _ _ z) pn)) ?_;obtain ⟨g,A,h⟩:=a7 h;refine bc b 1 [(1,oT (Vy g))] (kp [3,4,5,6,8,9,10,11]) (kq [752,1024]) 1072 (pc o1 (pc (DH _ _ _ A) (pc o1 pn))) ?_;obtain ⟨B,C,h⟩:=a7 h;refine bc b 2 [(14,oT (aI B))] (kp [5,8,10,83]) (kq [752,1024]) 1344 (pc (fun a:(!(j.2 != 0))=true=>(pc a pn)) (pc (fun d:(!(j.2 != 0))=true=>(pc d pn)) (pc (fun a:(!(cond (j.2 != 0) true (f.2.2 != 0)))=true=>(pc a pn)) (pc (fun d:(!(cond (j.2 != 0) true (f.2.2 != 0)))=true=>(pc d pn)) (pc (fun a:(alc j f g)=true=>(pc o1 pn)) (pc (fun a:(alc j f g)=true=>(pc (Nc _ _ _ _ _ (aW C a)) (pc a (pc a (pc a pn))))) (pc (fun a:(alc j f g)=true=>(pc a pn)) (pc (fun d:(alc j f g)=true=>(pc d pn)) pn)))))))) <| b9 0 83 h (fun D h=>?_) (fun D h=>?_)
   ·refine ah b 1 (kp [2]) [] 1360 ?_;obtain rfl:=lk h;exact dN b 0 Tryz.f3 (kp [2]) [] 1360
   ·refine bD b 3 (kp [5,8,98]) (kq [752]) 1584 (pc o1 (pc (fun a:(Vp g)=true=>(pc a (pc o1 pn))) (pc (fun a:(Vp g)=true=>(pc a (pc a pn))) (pc (fun d:(Vp g)=true=>(pc d pn)) (pc (fun a:(agU g f)=true=>(pc a (pc o1 pn))) (pc (fun a:(agU g f)=true=>(pc a (pc a pn))) (pc (fun d:(agU g f)=true=>(pc d pn)) pn))))))) <| b9 0 98 h (fun F h=>?_) (fun F h=>?_)
    ·refine ah b 1 (kp [2]) [] 1600 ?_;obtain rfl:=lk h;exact dN b 0 Tryz.f3 (kp [2]) [] 1600
    ·obtain ⟨G,H,h⟩:=a7 h;obtain ⟨k,I,h⟩:=a7 h;refine bc b 2 [(4,oT (aA G)),(5,oT (aI k)),(8,oT (aB true))] (kp [2]) [] 1760 (pc o1 (pc (tL _ _ _ H) (pc (O0 _ _ _ _ I) (pc (fun a:(k == 0)=true=>(pc kc1 pn)) (pc (fun d:(k == 0)=true=>(pc d pn)) pn))))) ?_;cases h;exact dN b 0 Tryz.f3 (kp [2]) [] 1760
end Go.Den
