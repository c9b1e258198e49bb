/- Each function of the program does what its Lean function computes (part 3). No conditions. -/
import Derived.Test.YtkejjbiabpdhjaaGreatTopOneEquilibriumSb
import Derived.Test.YtkejjbiabpdhjaaGreatProg
set_option linter.unusedVariables false
set_option maxRecDepth 100000
namespace Go.Den
open Go.Ab Go.Proofs Go.Ab.aK
theorem Fa (N x r) (h:sK N x=some r):Sd 53 [(aj x)] [] 0 (aI r) []:=by
 unfold sK at h;refine sO Tryz.f53 7 fun E a=>?_;refine ax a 1 (kp [1]) (kq [0]) 32 ?_;obtain ⟨c,d,h⟩:=aW h;obtain ⟨b,e,h⟩:=aW h;refine bK a 1 [(1,oT (aj c)),(3,oT (aI b))] (kp [2]) [] 112 (pc o1 (pc (oB _ _ _ d) (pc (UH _ _ _ e) pn))) ?_;obtain rfl:=jS h;exact iG a 0 Tryz.f53 (kp [2]) [] 112
theorem vK (N x y r) (h:rS N x y=some r):Sd 14 [(aj x),(aj y)] [] 0 (aI r) []:=by
 unfold rS at h;refine sO Tryz.f14 9 fun E a=>?_;refine ax a 1 (kp [2,3]) jt 48 ?_;obtain ⟨b,c,h⟩:=aW h;obtain ⟨d,e,h⟩:=aW h;refine bK a 1 [(2,oT (aj b)),(3,oT (aI d))] (kp [4]) [] 128 (pc o1 (pc o1 (pc (vJ _ _ _ _ c) (pc (Fa _ _ _ e) pn)))) ?_;obtain rfl:=jS h;exact iG a 0 Tryz.f14 (kp [4]) [] 128
theorem G8 (N x low high r) (h:xE N x low high=some r):Sd 59 [(aj x),(aI low),(aI high)] [] 0 (aB r) []:=by
 unfold xE at h;refine sO Tryz.f59 19 fun E c=>?_;refine ax c 1 Lc (kq [0]) 32 ?_;obtain ⟨d,e,h⟩:=aW h;obtain ⟨b,f,h⟩:=aW h;obtain ⟨g,i,h⟩:=aW h;obtain ⟨j,k,h⟩:=aW h;refine bK c 1 [(2,oT (aj d)),(3,oT (aI b)),(8,oT (aj g)),(9,oT (aI j))] (kp [6]) [] 240 (pc o1 (pc (kK _ _ _ e) (pc (vK _ _ _ _ f) (pc (fun a:(decide (b>=0))=true=>(pc o1 pn)) (pc (fun a:(decide (b>=0))=true=>(pc (kK _ _ _ (aN i a)) (pc a pn))) (pc (fun a:(decide (b>=0))=true=>(pc (vK _ _ _ _ (aN k a)) (pc a (pc a pn)))) (pc (fun a:(decide (b>=0))=true=>(pc a pn)) (pc (fun hq:(decide (b>=0))=true=>(pc hq pn)) pn)))))))) ?_;cases h;exact iG c 0 Tryz.f59 (kp [6]) [] 240
noncomputable abbrev ajC:=bt Tryz.f124
def Hw (N:Nat) (c:cO) (K:Int->Option (Int)):Prop:=∀ (i:Int) (r:Int),K i=some r->∀ E,ba E 0->aK Tryz.prog E 124 61 (bd E [] (aI r)) [.code (ajC 244),.inLoop (ajC 244),.inBlock 0,.code (ajC 31)] ⟨[(1,(.op 0 0 0)),(3,(aI i))],[(KR c)],1⟩
theorem Gy (N c fuel):Hw N c (jl N c fuel):=by
 induction fuel with
 | zero=>intro _ r h;rw [jl.eq_1] at h;cases h
 | succ fuel d =>
  intro i r h E b;rw [jl.eq_2] at h;refine dV b 2 (kp [1,3,19]) (kq [0]) 81 (pc o1 pn) <| dr 0 19 h (fun e h=>?_) (fun e h=>?_)
  ·obtain ⟨f,h⟩:=ae h;obtain ⟨g,h⟩:=ae h;obtain ⟨j,h⟩:=ae h;obtain ⟨k,l,h⟩:=aW h;refine bK b 5 [(20,oT (aI k))] (kp [1,3,44]) (kq [0]) 449 (pc o1 (pc f (pc (fun a:(RP c i)=true=>(pc a (pc o1 pn))) (pc (fun a:(RP c i)=true=>(pc a (pc a (pc (g a) pn)))) (pc (fun a:(RP c i)=true=>(pc a pn)) (pc (fun a:(RP c i)=true=>(pc a pn)) (pc (fun hq:(RP c i)=true=>(pc hq pn)) (pc (fun a:(PJ c i)=true=>(pc a (pc o1 pn))) (pc (fun a:(PJ c i)=true=>(pc a (pc a (pc (j a) pn)))) (pc (fun a:(PJ c i)=true=>(pc a pn)) (pc (fun a:(PJ c i)=true=>(pc (Fa _ _ _ (aN l a)) (pc a pn))) (pc (fun a:(PJ c i)=true=>(pc a pn)) (pc (fun hq:(PJ c i)=true=>(pc hq pn)) pn))))))))))))) <| dr 0 44 h (fun m h=>?_) (fun m h=>?_)
   ·refine ax b 1 (kp [2]) [] 465 ?_;cases h;exact iG b 0 Tryz.f124 (kp [2]) [] 465
   ·obtain ⟨n,h⟩:=ae h;obtain ⟨o,h⟩:=ae h;refine dV b 2 (kp [1,3,60]) (kq [0]) 705 (pc (fun a:(lp i)=true=>(pc a (pc o1 pn))) (pc (fun a:(lp i)=true=>(pc a (pc a (pc (n a) pn)))) (pc (fun a:(lp i)=true=>(pc a pn)) (pc (fun a:(lp i)=true=>(pc a (pc o1 pn))) (pc (fun a:(lp i)=true=>(pc a pn)) (pc (fun a:(lp i)=true=>(pc a (pc a (pc (o a) pn)))) (pc (fun a:(lp i)=true=>(pc a pn)) (pc (fun a:(lp i)=true=>(pc a (pc a pn))) (pc (fun hq:(lp i)=true=>(pc hq pn)) pn))))))))) <| dr 0 60 h (fun p h=>?_) (fun p h=>?_)
    ·refine ax b 1 (kp [2]) [] 721 ?_;cases h;exact iG b 0 Tryz.f124 (kp [2]) [] 721
    ·refine ax b 2 (kp [1,3]) (kq [0]) 753 <| cY b 1 (kp [1,3]) (kq [0]) 1 (d _ _ h E b)
  ·refine ax b 2 (kp [2]) [] 97 ?_;cases h;exact iG b 0 Tryz.f124 (kp [2]) [] 97
theorem J0 (N c r) (h:qT N c=some r):Sd 124 [(VO c)] [] 0 (aI r) []:=by
 unfold qT at h;refine sO Tryz.f124 61 fun E a=>?_;refine ax a 1 (kp [1]) (kq [0]) 32 <| dV a 2 (kp [1,7]) (kq [0]) 96 (pc o1 pn) <| dr 0 7 h (fun b h=>?_) (fun b h=>?_)
 ·refine ax a 1 (kp [2]) [] 112 ?_;cases h;exact iG a 0 Tryz.f124 (kp [2]) [] 112
 ·refine dV a 3 (kp [1,14]) (kq [0]) 208 (pc o1 (pc o1 pn)) <| dr 0 14 h (fun d h=>?_) (fun d h=>?_)
  ·refine ax a 1 (kp [2]) [] 224 ?_;cases h;exact iG a 0 Tryz.f124 (kp [2]) [] 224
  ·refine ax a 3 (kp [1,3]) (kq [0]) 224 <| cY a 2 (kp [1,3]) (kq [0]) 1 (Gy N _ N _ _ h E a)
noncomputable abbrev ajD:=bt Tryz.f60
def O1 (N:Nat) (l:List af) (K:Int->Option (Int)):Prop:=∀ (i:Int) (r:Int),K i=some r->∀ E,ba E 0->aK Tryz.prog E 60 46 (bd E [] (aI r)) [.code (ajD 116),.inLoop (ajD 116),.inBlock 0,.code (ajD 15)] ⟨[(acd l),(3,(aI i))],[],0⟩
theorem MK (N l fuel):O1 N l (ln N l fuel):=by
 induction fuel with
 | zero=>intro _ r h;rw [ln.eq_1] at h;cases h
 | succ fuel d =>
  intro i r h E b;rw [ln.eq_2] at h;refine ax b 2 (kp [0,3,11]) [] 64 <| dr 0 11 h (fun e h=>?_) (fun e h=>?_)
  ·obtain ⟨c,h⟩:=ae h;obtain ⟨f,h⟩:=ae h;obtain ⟨g,h⟩:=ae h;obtain ⟨j,k,h⟩:=aW h;refine bK b 5 [(20,oT (aB j))] (kp [0,3,36]) [] 432 (pc c (pc (fun a:(ZE l i)=true=>(pc a (pc a (pc (f a) pn)))) (pc (fun a:(ZE l i)=true=>(pc a pn)) (pc (fun a:(ZE l i)=true=>(pc a pn)) (pc (fun a:(ZE l i)=true=>(pc a pn)) (pc (fun hq:(ZE l i)=true=>(pc hq pn)) (pc (fun a:(afL l i)=true=>(pc a (pc a (pc (g a) pn)))) (pc (fun a:(afL l i)=true=>(pc a pn)) (pc (fun a:(afL l i)=true=>(pc a pn)) (pc (fun a:(afL l i)=true=>(pc (G8 _ _ _ _ _ (aN k a)) (pc a pn))) (pc (fun a:(afL l i)=true=>(pc a pn)) (pc (fun hq:(afL l i)=true=>(pc hq pn)) pn)))))))))))) <| dr 0 36 h (fun m h=>?_) (fun m h=>?_)
   ·refine ax b 1 (kp [2]) [] 448 ?_;cases h;exact iG b 0 Tryz.f60 (kp [2]) [] 448
   ·obtain ⟨n,o,h⟩:=aW h;refine bK b 2 [(5,oT (aI n))] B4 [] 544 (pc c (pc (J0 _ _ _ o) pn)) <| ax b 1 (kp [0,3,4,44]) [] 576 <| dr 0 44 h (fun p h=>?_) (fun p h=>?_)
    ·refine ax b 1 (kp [2]) [] 608 ?_;obtain rfl:=jS h;exact iG b 0 Tryz.f60 (kp [2]) [] 608
    ·refine ax b 2 (kp [0,3]) [] 624 <| cY b 1 (kp [0,3]) [] 0 (d _ _ h E b)
  ·refine ax b 2 (kp [2]) [] 80 ?_;cases h;exact iG b 0 Tryz.f60 (kp [2]) [] 80
theorem Te (N l r) (h:H5 N l=some r):Sd 60 [(oW l)] [] 0 (aI r) []:=by
 unfold H5 at h;refine sO Tryz.f60 46 fun E a=>?_;refine ax a 1 (kp [0]) [] 16 <| ax a 2 (kp [0,7]) [] 64 <| dr 0 7 h (fun b h=>?_) (fun b h=>?_)
 ·refine ax a 1 (kp [2]) [] 80 ?_;cases h;exact iG a 0 Tryz.f60 (kp [2]) [] 80
 ·refine ax a 3 (kp [0,3]) [] 80 <| cY a 2 (kp [0,3]) [] 0 (MK N _ N _ _ h E a)
theorem Lv (N b r) (h:nw N b=some r):Sd 17 [(zM b)] [] 0 (aI r) []:=by
 unfold nw at h;refine sO Tryz.f17 20 fun E c=>?_;refine ax c 1 (kp [1]) (kq [0]) 32 ?_;obtain ⟨d,e,h⟩:=aW h;refine bK c 2 [(11,oT (aB d))] (kp [1,16]) (kq [0]) 256 (pc o1 (pc (fun a:(VH b)=true=>(pc a (pc o1 pn))) (pc (fun a:(VH b)=true=>(pc a pn)) (pc (fun hq:(VH b)=true=>(pc hq pn)) (pc (fun a:(ab4 b)=true=>(pc a (pc o1 pn))) (pc (fun a:(ab4 b)=true=>(pc (G8 _ _ _ _ _ (aN e a)) (pc a pn))) (pc (fun a:(ab4 b)=true=>(pc a pn)) (pc (fun hq:(ab4 b)=true=>(pc hq pn)) pn)))))))) <| dr 0 16 h (fun f h=>?_) (fun f h=>?_)
 ·refine ax c 1 (kp [2]) [] 272 ?_;cases h;exact iG c 0 Tryz.f17 (kp [2]) [] 272
 ·obtain ⟨g,i,h⟩:=aW h;refine bK c 2 [(2,oT (aI g))] (kp [2]) [] 320 (pc o1 (pc (Te _ _ _ i) pn)) ?_;obtain rfl:=jS h;exact iG c 0 Tryz.f17 (kp [2]) [] 320
noncomputable abbrev VT:=bt Tryz.f61
def vp (N:Nat) (n:Int) (i:Int) (x:ab) (K:bh->Int->Option CS):Prop:=∀ (out:List ab) (k:Int) (r:bh),K out k=some r->∀ E,ba E 0->aK Tryz.prog E 61 26 (bd E [] (yK r)) [.code (VT 116),.inLoop (VT 116),.inBlock 0,.code (VT 15)] ⟨[(0,(aI n)),(1,(aI i)),(5,(.op 0 0 0)),(7,(.os 1 0 out.length)),(8,(aI k))],[(Ie x),(vT out)],2⟩
def DT (N:Nat) (n:Int) (i:Int) (x:ab) (k:Int) (K:bh->Option CS):Prop:=∀ (a:List ab) (r:bh),K a=some r->∀ E,ba E 0->aK Tryz.prog E 61 26 (bd E [] (yK r)) [.code (VT 467),.inLoop (VT 116),.inBlock 0,.code (VT 15)] ⟨[(0,(aI n)),(1,(aI i)),(5,(.op 0 0 0)),(7,(.os 1 0 a.length)),(8,(aI k))],[(Ie x),(vT a)],2⟩
theorem uI (N:Nat) (n:Int) (i:Int) (x:ab) (k:Int) (b:bh->Int->Option CS) (c:vp N n i x b):DT N n i x k (jJ N n i x k b):=by
 intro d r h E a;unfold jJ at h;refine ax a 0 rT (kq [0,1]) 50 <| cY a 1 rT (kq [0,1]) 2 (c _ _ _ h E a)
theorem CH (N n i x fuel):vp N n i x (fT N n i x fuel):=by
 induction fuel with
 | zero=>intro _ _ r h;rw [fT.eq_1] at h;cases h
 | succ fuel d =>
  intro out k r h E a;rw [fT.eq_2] at h;refine ax a 2 (kp [0,1,5,7,8,11]) (kq [0,1]) 50 <| dr 0 11 h (fun e h=>?_) (fun e h=>?_)
  ·refine ax a 4 K8 (kq [0,1]) 98 <| dr 0 16 h (fun f h=>?_) (fun f h=>?_)
   ·obtain ⟨c,h⟩:=ae h;refine dV a 0 (kp [0,1,5] ++ [(7,.l5 (Ml out x))] ++ kp [8]) (kq [0] ++ [(146,ri 146 bH ab.d (Mk out x))]) 178 (pc o1 (pc (Eq.refl out.length) (pc c (pc (z1 1) (pc (oN [[(kU x),(kW x),(kT x),(kV x)]]) (pc (bL out (mc x)) (pc (bL out (mc x)) (pc (LR bH ab.d out (mc x)) pn)))))))) <| cY a 1 rT (kq [0] ++ [(1,.ak 146)]) 2 (uI N _ _ _ _ _ d _ _ h E a)
   ·obtain ⟨b,g,h⟩:=aW h;obtain ⟨j,h⟩:=ae h;refine bK a 0 [(1,oT (aj b))] (kp [0,1,5] ++ [(7,.l5 (Ml out b))] ++ kp [8]) (kq [0] ++ [(146,ri 146 bH ab.d (Mk out b))]) 178 (pc (kK _ _ _ g) (pc (Eq.refl out.length) (pc j (pc (z1 1) (pc (oN [[(kU b),(kW b),(kT b),(kV b)]]) (pc (bL out (mc b)) (pc (bL out (mc b)) (pc (LR bH ab.d out (mc b)) pn)))))))) <| cY a 1 rT (kq [0] ++ [(1,.ak 146)]) 2 (uI N _ _ _ _ _ d _ _ h E a)
  ·refine ax a 2 (kp [6]) (kq [1]) 82 ?_;obtain rfl:=jS h;exact mh a 0 Tryz.f61 [1] [(6,rh bH ab.d out)] [] 82 (pc (Eq.refl out.length) (pc (z1 out.length) (pc (eZ bH ab.d out) pn))) [] pn
theorem xZ (N n i x r) (h:ly N n i x=some r):Sd 61 [(aI n),(aI i),(aj x)] [] 0 (yK r) []:=by
 unfold ly at h;refine sO Tryz.f61 26 fun E a=>?_;refine ax a 1 nX (kq [0]) 32 <| ax a 1 (kp [0,1,5,7]) (kq [0]) 48 <| ax a 2 rT (kq [0]) 64 <| cY a 2 (kp [0,1,5] ++ [(7,.tD 1)] ++ kp [8]) acL 2 (CH N _ _ _ N _ _ _ h E a)
theorem UI (N x y r) (h:KI N x y=some r):Sd 181 [(aj x),(aj y)] [] 0 (aj r) []:=by
 unfold KI at h;refine sO Tryz.f181 8 fun E a=>?_;refine ax a 1 iI fU 48 ?_;obtain ⟨b,c,h⟩:=aW h;refine bK a 1 [(2,oT (aj b))] (kp [4]) (kq [32]) 112 (pc o1 (pc o1 (pc (vJ _ _ _ _ c) (pc o1 pn)))) ?_;obtain rfl:=jS h;exact mh a 0 Tryz.f181 [] (kp [4]) [(16,.ak 32)] 112 pn [16] (pc o1 pn)
theorem Kd (N x r) (h:BV N x=some r):Sd 126 [(aj x)] [] 0 (aI r) []:=by
 unfold BV at h;refine sO Tryz.f126 6 fun E a=>?_;refine ax a 1 (kp [1]) (kq [0]) 32 ?_;obtain ⟨b,c,h⟩:=aW h;obtain ⟨d,e,h⟩:=aW h;refine bK a 1 [(1,oT (aj b)),(2,oT (aI d))] (kp [2]) [] 96 (pc o1 (pc (kK _ _ _ c) (pc (vK _ _ _ _ e) pn))) ?_;obtain rfl:=jS h;exact iG a 0 Tryz.f126 (kp [2]) [] 96
theorem G9 (N x y r) (h:xF N x y=some r):Sd 63 [(aj x),(aj y)] [] 0 (aj r) []:=by
 unfold xF at h;refine sO Tryz.f63 22 fun E a=>?_;refine ax a 1 iI fU 48 ?_;obtain ⟨b,c,h⟩:=aW h;obtain ⟨d,e,h⟩:=aW h;refine bK a 1 [(1,oT (aj b)),(3,oT (aj d))] SD (kq [32,112,128]) 176 (pc o1 (pc (oB _ _ _ c) (pc o1 (pc (oB _ _ _ e) (pc o1 (pc o1 pn)))))) ?_;obtain ⟨f,g,h⟩:=aW h;obtain ⟨i,j,h⟩:=aW h;obtain ⟨k,l,h⟩:=aW h;refine bK a 1 [(4,oT (dM f)),(9,oT (dM i)),(10,oT (aj k))] (kp [4]) (kq [32]) 368 (pc o1 (pc o1 (pc (xY _ _ _ _ g) (pc o1 (pc o1 (pc (xY _ _ _ _ j) (pc (DS _ _ _ _ l) (pc o1 pn)))))))) ?_;obtain rfl:=jS h;exact mh a 0 Tryz.f63 [] (kp [4]) [(16,.ak 32)] 368 pn [16] (pc o1 pn)
theorem Tf (N x y r) (h:H6 N x y=some r):Sd 183 [(aj x),(aj y)] [] 0 (aj r) []:=by
 unfold H6 at h;refine sO Tryz.f183 8 fun E a=>?_;refine ax a 1 iI fU 48 ?_;obtain ⟨b,c,h⟩:=aW h;refine bK a 1 [(2,oT (aj b))] (kp [4]) (kq [32]) 112 (pc o1 (pc o1 (pc (G9 _ _ _ _ c) (pc o1 pn)))) ?_;obtain rfl:=jS h;exact mh a 0 Tryz.f183 [] (kp [4]) [(16,.ak 32)] 112 pn [16] (pc o1 pn)
theorem UJ (N x y r) (h:KJ N x y=some r):Sd 182 [(aj x),(aj y)] [] 0 (aj r) []:=by
 unfold KJ at h;refine sO Tryz.f182 8 fun E a=>?_;refine ax a 1 iI fU 48 ?_;obtain ⟨b,c,h⟩:=aW h;refine bK a 1 [(2,oT (aj b))] (kp [4]) (kq [32]) 112 (pc o1 (pc o1 (pc (G7 _ _ _ _ c) (pc o1 pn)))) ?_;obtain rfl:=jS h;exact mh a 0 Tryz.f182 [] (kp [4]) [(16,.ak 32)] 112 pn [16] (pc o1 pn)
noncomputable abbrev IZ:=bt Tryz.f125
def yV (N:Nat) (c:cO) (y:ab) (K:ab->Int->Option (ab)):Prop:=∀ (sum:ab) (i:Int) (r:ab),K sum i=some r->∀ E,ba E 0->aK Tryz.prog E 125 64 (bd E [] (aj r)) [.code (IZ 116),.inLoop (IZ 116),.inBlock 0,.code (IZ 15)] ⟨[(2,(.op 0 0 0)),(3,(.op 1 0 0)),(4,(.op 2 0 0)),(5,(.op 3 0 0)),(6,(aI i))],[(KR c),(Oa y),(2,vO 4 [(aB false),.nil,(aB false),.nil]),(xJ sum)],4⟩
def O2 (N:Nat) (c:cO) (y:ab) (sum:ab) (i:Int) (K:ab->Option (ab)):Prop:=∀ (top:ab) (r:ab),K top=some r->∀ E,ba E 0->aK Tryz.prog E 125 64 (bd E [] (aj r)) [.code (IZ 7462),.code (IZ 7463),.inBlock 1,.code (IZ 467),.inLoop (IZ 116),.inBlock 0,.code (IZ 15)] ⟨[(2,(.op 0 0 0)),(3,(.op 1 0 0)),(4,(.op 2 0 0)),(5,(.op 3 0 0)),(6,(aI i)),(7,(.op 4 0 0))],[(KR c),(Oa y),(2,vO 4 [(aB false),.nil,(aB false),.nil]),(xJ sum),(FV top)],5⟩
def O3 (N:Nat) (c:cO) (y:ab) (i:Int) (K:ab->Option (ab)):Prop:=∀ (a:ab) (r:ab),K a=some r->∀ E,ba E 0->aK Tryz.prog E 125 64 (bd E [] (aj r)) [.code (IZ 467),.inLoop (IZ 116),.inBlock 0,.code (IZ 15)] ⟨[(2,(.op 0 0 0)),(3,(.op 1 0 0)),(4,(.op 2 0 0)),(5,(.op 3 0 0)),(6,(aI i))],[(KR c),(Oa y),(2,vO 4 [(aB false),.nil,(aB false),.nil]),(xJ a)],4⟩
theorem CY (N:Nat) (c:cO) (y:ab) (i:Int) (b:ab->Int->Option (ab)) (d:yV N c y b):O3 N c y i (qU N c y i b):=by
 intro e r h E a;unfold qU at h;refine ax a 0 uQ xL 52 <| cY a 1 uQ xL 4 (d _ _ _ h E a)
theorem CZ (N:Nat) (c:cO) (y:ab) (sum:ab) (i:Int) (d:ab->Int->Option (ab)) (e:yV N c y d):O2 N c y sum i (tQ N c y sum i d):=by
 intro top r h E a;unfold tQ at h;obtain ⟨f,h⟩:=ae h;obtain ⟨g,j,h⟩:=aW h;obtain ⟨b,k,h⟩:=aW h;refine bK a 0 [(6,oT (aj g)),(7,oT (aj b))] (kp [2,3,4,5,6,8]) (kq [0,1,2,3,133]) 165 (pc o1 (pc o1 (pc f (pc (kK _ _ _ j) (pc (UI _ _ _ _ k) (pc o1 pn)))))) ?_;obtain ⟨dL,l,h⟩:=aW h;refine bK a 1 [(1,oT (aI dL))] (kp [2,3,4,5,6,8,53]) (kq [0,1,2,3,133]) 213 (pc o1 (pc (Kd _ _ _ l) pn)) <| dr 0 53 h (fun m h=>?_) (fun m h=>?_)
 ·obtain ⟨n,h⟩:=ae h;obtain ⟨o,p,h⟩:=aW h;obtain ⟨q,s,h⟩:=aW h;refine bK a 0 [(7,oT (aj o)),(8,oT (aj q))] uQ xL 373 (pc o1 (pc o1 (pc n (pc o1 (pc (Tf _ _ _ _ p) (pc (UJ _ _ _ _ s) (pc o1 pn))))))) <| cY a 1 uQ xL 4 (CY N _ _ _ _ e _ _ h E a)
 ·exact cY a 2 uQ xL 4 (CY N _ _ _ _ e _ _ h E a)
theorem ML (N c y fuel):yV N c y (iY N c y fuel):=by
 induction fuel with
 | zero=>intro _ _ r h;rw [iY.eq_1] at h;cases h
 | succ fuel e =>
  intro sum i r h E b;rw [iY.eq_2] at h;refine dV b 2 (kp [2,3,4,5,6,14]) xL 84 (pc o1 pn) <| dr 0 14 h (fun f h=>?_) (fun f h=>?_)
  ·refine dV b 4 Iv acD 132 (pc o1 (pc o1 pn)) ?_;obtain ⟨g,h⟩:=ae h;obtain ⟨j,k,h⟩:=aW h;obtain ⟨l,m,h⟩:=aW h;refine bK b 2 [(14,oT (aj j)),(15,oT (aI l))] (kp [2,3,4,5,6,7,35]) acD 420 (pc o1 (pc (fun a:(F0 i c)=true=>(pc o1 pn)) (pc (fun a:(F0 i c)=true=>(pc a (pc o1 pn))) (pc (fun a:(F0 i c)=true=>(pc a pn)) (pc (fun a:(F0 i c)=true=>(pc a (pc a (pc (g a) pn)))) (pc (fun a:(F0 i c)=true=>(pc a pn)) (pc (fun a:(F0 i c)=true=>(pc (kK _ _ _ (aN k a)) (pc a pn))) (pc (fun a:(F0 i c)=true=>(pc (vK _ _ _ _ (aN m a)) (pc a (pc a pn)))) (pc (fun a:(F0 i c)=true=>(pc a pn)) (pc (fun hq:(F0 i c)=true=>(pc hq pn)) pn)))))))))) <| dr 0 35 h (fun n h=>?_) (fun n h=>?_)
   ·obtain ⟨o,h⟩:=ae h;obtain ⟨d,p,h⟩:=aW h;refine bK b 0 [(6,oT (aj d))] Iv acD 548 (pc o1 (pc o (pc (kK _ _ _ p) (pc o1 pn)))) <| cY b 1 Iv ai3 5 (CZ N _ _ _ _ _ e _ _ h E b)
   ·exact cY b 2 Iv ai3 5 (CZ N _ _ _ _ _ e _ _ h E b)
  ·refine dV b 2 (kp [4]) (kq [2]) 116 (pc o1 (pc o1 pn)) ?_;obtain rfl:=jS h;exact mh b 0 Tryz.f125 [] (kp [4]) [(16,.ak 2)] 116 pn [16] (pc o1 pn)
theorem Tg (N c y r) (h:CQ N c y=some r):Sd 125 [(VO c),(aj y)] [] 0 (aj r) []:=by
 unfold CQ at h;refine sO Tryz.f125 64 fun E a=>?_;refine ax a 1 iI fU 48 ?_;obtain ⟨b,d,h⟩:=aW h;refine bK a 1 [(0,oT (aj b))] (kp [2,3,4,5]) (kq [0,16,32,64]) 96 (pc (kK _ _ _ d) (pc o1 pn)) <| ax a 2 uQ (kq [0,16,32,64]) 112 <| cY a 2 uQ (kq [0] ++ [(1,.ak 16),(2,.ak 32),(3,.ak 64)]) 4 (ML N _ _ N _ _ _ h E a)
theorem UK (N c r) (h:BW N c=some r):Sd 62 [(VO c)] [] 0 (N7 r) []:=by
 unfold BW at h;refine sO Tryz.f62 28 fun E a=>?_;refine ax a 1 (kp [1,2]) jt 48 <| dV a 1 (kp [1,2,4]) jt 112 (pc o1 pn) <| ax a 2 (kp [1,2,4,9]) jt 144 <| dr 0 9 h (fun d h=>?_) (fun d h=>?_)
 ·obtain ⟨e,f,h⟩:=aW h;refine bK a 1 [(0,oT (aj e))] (kp [2,3]) (kq [16]) 192 (pc (kK _ _ _ f) (pc o1 pn)) ?_;cases h;exact mh a 0 Tryz.f62 [] (kp [2,3]) (kq [16]) 192 pn [16] (pc o1 pn)
 ·obtain ⟨g,h⟩:=ae h;obtain ⟨i,j,h⟩:=aW h;obtain ⟨b,k,h⟩:=aW h;obtain ⟨l,h⟩:=ae h;obtain ⟨dL,m,h⟩:=aW h;refine bK a 2 [(7,oT (aj i)),(8,oT (aj b)),(15,oT (aI dL))] (kp [2,3]) (kq [16]) 448 (pc o1 (pc o1 (pc g (pc (kK _ _ _ j) (pc (Tg _ _ _ _ k) (pc o1 (pc l (pc (Kd _ _ _ m) (pc o1 pn))))))))) ?_;cases h;exact mh a 0 Tryz.f62 [] (kp [2,3]) (kq [16]) 448 pn [16] (pc o1 pn)
noncomputable abbrev MM:=bt Tryz.f18
def sE (N:Nat) (b:cW) (K:Oe->Int->Option aea):Prop:=∀ (out:List bw) (i:Int) (r:Oe),K out i=some r->∀ E,ba E 0->aK Tryz.prog E 18 110 (bd E [] (Sf r)) [.code (MM 244),.inLoop (MM 244),.inBlock 0,.code (MM 31)] ⟨[(1,(.op 0 0 0)),(3,(.os 1 0 out.length)),(acf b),(5,(aI i))],[(uP b),(1,aO 5 Uw bw.d out)],2⟩
def AI (N:Nat) (b:cW) (i:Int) (K:Oe->Option aea):Prop:=∀ (a:List bw) (r:Oe),K a=some r->∀ E,ba E 0->aK Tryz.prog E 18 110 (bd E [] (Sf r)) [.code (MM 979),.inLoop (MM 244),.inBlock 0,.code (MM 31)] ⟨[(1,(.op 0 0 0)),(3,(.os 1 0 a.length)),(acf b),(5,(aI i))],[(uP b),(1,aO 5 Uw bw.d a)],2⟩
theorem rG (N:Nat) (b:cW) (i:Int) (c:Oe->Int->Option aea) (d:sE N b c):AI N b i (fk N b i c):=by
 intro e r h E a;unfold fk at h;refine ax a 0 Sr (kq [0,1]) 50 <| cY a 1 Sr (kq [0,1]) 2 (d _ _ _ h E a)
def AJ (N:Nat) (b:cW) (out:List bw) (e:ab) (f:ab) (K:bh->bh->bh->bh->Int->Option aea):Prop:=∀ (a:List ab) (c:List ab) (less:List ab) (back:List ab) (d:Int) (r:Oe),K a c less back d=some r->∀ E,ba E 0->aK Tryz.prog E 18 110 (bd E [] (Sf r)) [.code (MM 4084),.inLoop (MM 4084),.inBlock 2,.code (MM 511)] ⟨[(1,(.op 0 0 0)),(3,(.os 1 0 out.length)),(acf b),(8,(.op 2 0 0)),(9,(.op 3 0 0)),(10,(yI a)),(11,(Xf c)),(12,(qW less)),(13,(.os 7 0 back.length)),(14,(aI d))],[(uP b),(1,aO 5 Uw bw.d out),(tS e),(xJ f),(gx a),(ja c),(tT less),(7,aO 4 bH ab.d back)],8⟩
theorem zX (N b out c k fuel):AJ N b out c k (fm N b out c k fuel):=by
 induction fuel with
 | zero=>intro _ _ _ _ _ r h;rw [fm.eq_1] at h;cases h
 | succ fuel n =>
  intro a d less back D r h E m;rw [fm.eq_2] at h;refine ax m 2 (kp [1,3,4,8,9,10,11,12,13,14,62]) acH 56 <| dr 0 62 h (fun o h=>?_) (fun o h=>?_)
  ·obtain ⟨p,h⟩:=ae h;refine dV m 4 (kp [1,3,4,8,9,10,11,12,13,14,15]) acH 168 (pc o1 (pc p pn)) ?_;obtain ⟨e,q,h⟩:=aW h;obtain ⟨s,h⟩:=ae h;obtain ⟨f,t,h⟩:=aW h;obtain ⟨u,h⟩:=ae h;refine bK m 1 [(1,oT (aj e)),(6,oT (aj f))] (kp [1,3,4,8,9] ++ [(10,.l5 (Ml a e)),(11,.l5 (Ml d f))] ++ kp [12,13,14,15]) (kq [0,1,2,3,6,7] ++ [(216,ri 216 bH ab.d (Mk a e)),(296,ri 296 bH ab.d (Mk d f))]) 344 (pc (kK _ _ _ q) (pc (Eq.refl a.length) (pc s (pc (z1 1) (pc (oN [[(kU e),(kW e),(kT e),(kV e)]]) (pc (kK _ _ _ t) (pc (Eq.refl d.length) (pc u (pc (z1 1) (pc (oN [[(kU f),(kW f),(kT f),(kV f)]]) (pc (bL a (mc e)) (pc (bL d (mc f)) (pc (bL a (mc e)) (pc (LR bH ab.d a (mc e)) (pc (bL d (mc f)) (pc (LR bH ab.d d (mc f)) pn)))))))))))))))) ?_;obtain ⟨g,v,h⟩:=aW h;obtain ⟨w,h⟩:=ae h;obtain ⟨i,x,h⟩:=aW h;obtain ⟨y,h⟩:=ae h;refine bK m 0 [(1,oT (aj g)),(7,oT (aj i))] (kp [1,3,4,8,9,10,11] ++ [(12,.l5 (Ml less g)),(13,.l5 (Ml back i))] ++ kp [14]) (kq [0,1,2,3,216,296] ++ [(392,ri 392 bH ab.d (Mk less g)),(488,ri 488 bH ab.d (Mk back i))]) 536 (pc (kK _ _ _ v) (pc (Eq.refl less.length) (pc w (pc (z1 1) (pc (oN [[(kU g),(kW g),(kT g),(kV g)]]) (pc (kK _ _ _ x) (pc (Eq.refl back.length) (pc y (pc (z1 1) (pc (oN [[(kU i),(kW i),(kT i),(kV i)]]) (pc (bL less (mc g)) (pc (bL back (mc i)) (pc (bL less (mc g)) (pc (LR bH ab.d less (mc g)) (pc (bL back (mc i)) (pc (LR bH ab.d back (mc i)) pn)))))))))))))))) <| ax m 1 acy (kq [0,1,2,3,216,296,392,488]) 584 <| cY m 1 acy (kq [0,1,2,3] ++ [(4,.ak 216),(5,.ak 296),(6,.ak 392),(7,.ak 488)]) 8 (n _ _ _ _ _ _ h E m)
  ·obtain ⟨j,z,h⟩:=aW h;obtain ⟨A,h⟩:=ae h;refine bK m 2 [(6,oT (aj j)),(8,⟨[],true,.qm,[(gx a),(tT less)],0,true,none⟩)] ([(3,.l5 ((VJ out a c less j).length))] ++ kp [9,11,13]) (kq [3,5,7] ++ [(200,ri 200 Uw bw.d (VJ out a c less j))]) 232 (pc o1 (pc o1 (pc (AH _ _ _ z) (pc (show a.length<=a.length from (aH _)) (pc (eR bH ab.d a) (pc (show less.length<=less.length from (aH _)) (pc (eR bH ab.d less) (pc (Eq.refl a.length) (pc (Eq.refl less.length) (pc (Eq.refl out.length) (pc A (pc (z1 2) (pc (oN [[(nW a),(kU c),(kW c),(kT c),(kV c)],[(nW less),(kU j),(kW j),(kT j),(kV j)]]) (pc (bL out (Oh a c less j)) (pc (bL out (Oh a c less j)) (pc (LR Uw bw.d out (Oh a c less j)) pn)))))))))))))))) ?_;obtain ⟨l,B,h⟩:=aW h;obtain ⟨C,h⟩:=ae h;refine bK m 1 [(6,oT (aj l)),(8,⟨[],true,.qm,[(ja d),(7,aO 4 bH ab.d back)],0,true,none⟩)] [(2,.l5 ((VK out a c less j d k back l).length))] [(376,ri 376 Uw bw.d (VK out a c less j d k back l))] 408 (pc o1 (pc o1 (pc (AH _ _ _ B) (pc (show d.length<=d.length from (aH _)) (pc (eR bH ab.d d) (pc (show back.length<=back.length from (aH _)) (pc (eR bH ab.d back) (pc (Eq.refl d.length) (pc (Eq.refl back.length) (pc (Eq.refl ((VJ out a c less j).length)) (pc C (pc (z1 2) (pc (oN [[(nW d),(kU k),(kW k),(kT k),(kV k)],[(nW back),(kU l),(kW l),(kT l),(kV l)]]) (pc (bL (VJ out a c less j) (Oh d k back l)) (pc (bL (VJ out a c less j) (Oh d k back l)) (pc (LR Uw bw.d (VJ out a c less j) (Oh d k back l)) pn)))))))))))))))) ?_;cases h;exact mh m 0 Tryz.f18 [376] [(2,rh Uw bw.d (VK out a c less j d k back l))] [] 408 (pc (Eq.refl ((VK out a c less j d k back l).length)) (pc (z1 ((VK out a c less j d k back l).length)) (pc (eZ Uw bw.d (VK out a c less j d k back l)) pn))) [] pn
theorem zY (N b fuel):sE N b (cD N b fuel):=by
 induction fuel with
 | zero=>intro _ _ r h;rw [cD.eq_1] at h;cases h
 | succ fuel k =>
  intro out i r h E d;rw [cD.eq_2] at h;refine ax d 2 (kp [1,3,4,5,21]) (kq [0,1]) 50 <| dr 0 21 h (fun l h=>?_) (fun l h=>?_)
  ·obtain ⟨m,n,h⟩:=aW h;obtain ⟨e,o,h⟩:=aW h;obtain ⟨a,p,h⟩:=aW h;obtain ⟨c,h⟩:=ae h;refine bK d 4 [(3,oT (aj m)),(4,oT (yK e)),(5,oT (aj a))] (kp [1] ++ [(3,.l5 ((Pp out e a).length))] ++ kp [4,5]) (kq [0] ++ [(178,ri 178 Uw bw.d (Pp out e a))]) 210 (pc (kK _ _ _ n) (pc (xZ _ _ _ _ _ o) (pc (kK _ _ _ p) (pc (Eq.refl out.length) (pc c (pc (z1 1) (pc (oN [[(yK e),(kU a),(kW a),(kT a),(kV a)]]) (pc (bL out ([(⟨e,a⟩:bw)]:List bw)) (pc (bL out ([(⟨e,a⟩:bw)]:List bw)) (pc (LR Uw bw.d out ([(⟨e,a⟩:bw)]:List bw)) pn)))))))))) ?_;obtain ⟨q,h⟩:=ae h;obtain ⟨f,s,h⟩:=aW h;refine bK d 1 [(6,oT (N7 f))] (kp [1,3,4,5,6,7]) (kq [0,178,370]) 418 (pc o1 (pc q (pc (UK _ _ _ s) (pc o1 pn)))) <| ax d 1 (kp [1,3,4,5,6,43]) (kq [0,178,370]) 434 <| dr 0 43 h (fun t h=>?_) (fun t h=>?_)
   ·obtain ⟨j,u,h⟩:=aW h;obtain ⟨g,v,h⟩:=aW h;obtain ⟨w,h⟩:=ae h;refine bK d 0 [(3,oT (aj j)),(4,oT (yK g))] (kp [1] ++ [(3,.l5 (((Pp out e a) ++ (R9 g f)).length))] ++ kp [4,5]) (kq [0] ++ [(562,ri 562 Uw bw.d ((Pp out e a) ++ (R9 g f)))]) 594 (pc (kK _ _ _ u) (pc (xZ _ _ _ _ _ v) (pc o1 (pc (Eq.refl ((Pp out e a).length)) (pc w (pc (z1 1) (pc (oN [[(yK g),(aB f.1.fN.fG),(eU f.1.fN.fL),(aB f.1.fD.fG),(eU f.1.fD.fL)]]) (pc (bL (Pp out e a) (R9 g f)) (pc (bL (Pp out e a) (R9 g f)) (pc (LR Uw bw.d (Pp out e a) (R9 g f)) pn)))))))))) <| cY d 1 Sr (kq [0] ++ [(1,.ak 562)]) 2 (rG N _ _ _ k _ _ h E d)
   ·exact cY d 2 Sr (kq [0] ++ [(1,.ak 178)]) 2 (rG N _ _ _ k _ _ h E d)
  ·obtain ⟨x,y,h⟩:=aW h;refine bK d 2 [(2,oT (aj x))] (kp [1,3,4,8]) (kq [0,1,98]) 130 (pc o1 (pc (kK _ _ _ y) (pc o1 pn))) ?_;obtain ⟨z,A,h⟩:=aW h;refine bK d 1 [(3,oT (aj z))] (kp [1,3,4,8,9]) acK 226 (pc o1 (pc o1 (pc (G9 _ _ _ _ A) (pc o1 pn)))) <| ax d 1 (kp [1,3,4,8,9,10,11,12,13]) acK 290 <| ax d 2 acy acK 306 <| cY d 2 (kp [1,3,4,8,9] ++ [(10,.tD 4),(11,.tD 5),(12,.tD 6),(13,.tD 7)] ++ kp [14]) (kq [0,1] ++ [(2,.ak 98),(3,.ak 194),(4,.nil 4 Ol),(5,.nil 4 Ol),(6,.nil 4 Ol),(7,.nil 4 Ol)]) 8 (zX N _ _ _ _ N _ _ _ _ _ _ h E d)
theorem Cj (N b r) (h:nb N b=some r):Sd 18 [(zM b)] [] 0 (Sf r) []:=by
 unfold nb at h;refine sO Tryz.f18 110 fun E a=>?_;refine ax a 1 (kp [1]) (kq [0]) 32 <| ax a 1 (kp [1,3]) (kq [0]) 48 <| dV a 1 (kp [1,3,4]) (kq [0]) 112 (pc o1 pn) <| ax a 2 Sr (kq [0]) 128 <| cY a 2 (kp [1] ++ [(3,.tD 1)] ++ kp [4,5]) (kq [0] ++ [(1,.nil 5 (fun zi=>Uw (([]:List bw).getD zi bw.d)))]) 2 (zY N _ N _ _ _ h E a)
theorem Fb (N b r) (h:mJ N b=some r):Sd 19 [(zM b)] [] 0 (N9 r) []:=by
 unfold mJ at h;refine sO Tryz.f19 27 fun E a=>?_;refine ax a 1 (kp [1]) (kq [0]) 48 ?_;obtain ⟨c,d,h⟩:=aW h;refine bK a 2 [(1,oT (aI c))] (kp [1,4]) (kq [0]) 96 (pc o1 (pc (qZ _ _ _ d) pn)) <| ax a 1 (kp [1,4,10]) (kq [0]) 128 <| dr 0 10 h (fun e h=>?_) (fun e h=>?_)
 ·refine ax a 1 (kp [2,3]) [] 176 ?_;cases h;exact mh a 0 Tryz.f19 [] ([(2,rh bH ab.d ([]:List ab))] ++ kp [3]) [] 176 (pc (Eq.refl 0) pn) [] pn
 ·obtain ⟨f,g,h⟩:=aW h;refine bK a 3 [(1,oT (Xi f))] (kp [1,6]) (kq [0]) 256 (pc o1 (pc (yn _ _ _ g) (pc o1 pn))) <| ax a 1 (kp [1,6,18]) (kq [0]) 288 <| dr 0 18 h (fun i h=>?_) (fun i h=>?_)
  ·refine ax a 1 (kp [2,3]) [] 336 ?_;cases h;exact mh a 0 Tryz.f19 [] ([(2,rh bH ab.d ([]:List ab))] ++ kp [3]) [] 336 (pc (Eq.refl 0) pn) [] pn
  ·obtain ⟨j,k,h⟩:=aW h;obtain ⟨l,m,h⟩:=aW h;refine bK a 2 [(3,oT (nh j)),(4,oT (N9 l))] (kp [2,3]) [] 432 (pc o1 (pc o1 (pc (uH _ _ _ k) (pc (tX _ _ _ _ m) pn)))) ?_;cases h;exact iG a 0 Tryz.f19 (kp [2,3]) [] 432
noncomputable abbrev ajE:=bt Tryz.f52
def Yh (N:Nat) (c:List ab) (x:List ab) (K:ab->Int->Option (ab)):Prop:=∀ (sum:ab) (a:Int) (r:ab),K sum a=some r->∀ E,ba E 0->aK Tryz.prog E 52 26 (bd E [] (aj r)) [.code (ajE 116),.inLoop (ajE 116),.inBlock 0,.code (ajE 15)] ⟨[(1,(nW x)),(4,(.op 0 0 0)),(5,(.op 1 0 0)),(9,(nW c)),(10,(Sb c)),(11,(aI a))],[(0,vO 4 [(aB false),.nil,(aB false),.nil]),(Oa sum)],2⟩
theorem UL (N c x fuel):Yh N c x (tR N c x fuel):=by
 induction fuel with
 | zero=>intro _ _ r h;rw [tR.eq_1] at h;cases h
 | succ fuel b =>
  intro sum l r h E a;rw [tR.eq_2] at h;refine ax a 1 (kp [1,4,5,9,10,11,12]) (kq [0,1]) 18 <| dr 1 12 h (fun d h=>?_) (fun d h=>?_)
  ·obtain ⟨e,h⟩:=ae h;refine dV a 4 (kp [1,4,5,6,7,9,10,11]) (kq [0,1,66]) 114 (pc e (pc o1 pn)) ?_;obtain ⟨f,h⟩:=ae h;obtain ⟨g,i,h⟩:=aW h;obtain ⟨j,k,h⟩:=aW h;refine bK a 0 [(6,oT (aj g)),(7,oT (aj j))] Sv (kq [0,1]) 258 (pc o1 (pc o1 (pc f (pc (bN _ _ _ _ i) (pc (bF _ _ _ _ k) (pc o1 pn)))))) <| ax a 1 Sv (kq [0,1]) 290 <| cY a 1 Sv (kq [0,1]) 2 (b _ _ _ h E a)
  ·refine dV a 2 (kp [4]) (kq [0]) 50 (pc o1 (pc o1 pn)) ?_;obtain rfl:=jS h;exact mh a 0 Tryz.f52 [] (kp [4]) [(16,.ak 0)] 50 pn [16] (pc o1 pn)
theorem acR (N c x r) (h:Qw N c x=some r):Sd 52 [(nW c),(nW x)] [] 0 (aj r) []:=by
 unfold Qw at h;refine sO Tryz.f52 26 fun E a=>?_;refine ax a 1 Iq (kq [0]) 16 ?_;obtain ⟨b,d,h⟩:=aW h;refine bK a 1 [(0,oT (aj b))] Xy (kq [0,32]) 64 (pc (eV _ _ _ d) (pc o1 pn)) <| ax a 2 Sv (kq [0,32]) 112 <| cY a 2 Sv (kq [0] ++ [(1,.ak 32)]) 2 (UL N _ _ N _ _ _ h E a)
theorem Lw (N d a r) (h:vG N d a=some r):Sd 118 [(.agg (Uw d)),(.op 0 0 0)] [(Ic a)] 1 (aB r) [(Ic a)]:=by
 unfold vG at h;refine sO Tryz.f118 12 fun E b=>?_;refine ax b 1 (kp [1,2]) (kq [0,1]) 33 ?_;obtain ⟨c,e,h⟩:=aW h;obtain ⟨f,g,h⟩:=aW h;refine bK b 1 [(3,oT (aj c)),(6,oT (aI f))] (kp [3]) (kq [0]) 177 (pc o1 (pc o1 (pc (acR _ _ _ _ e) (pc o1 (pc (jB _ _ _ _ g) pn))))) ?_;cases h;exact iG b 0 Tryz.f118 (kp [3]) (kq [0]) 177
noncomputable abbrev ajF:=bt Tryz.f151
def yW (N:Nat) (s:List bw) (a:List ab) (K:Int->Option (Int)):Prop:=∀ (x:Int) (r:Int),K x=some r->∀ E,ba E 1->aK Tryz.prog E 151 19 (bd E [(Ic a)] (aI r)) [.code (ajF 52),.inLoop (ajF 52),.inBlock 0,.code (ajF 7)] ⟨[(0,(qY s)),(1,(.fn (.func 118) [] [(.op 0 0 0)])),(7,(Aq s)),(8,(aI x))],[(Ic a)],1⟩
theorem yf (N s b fuel):yW N s b (dz N s b fuel):=by
 induction fuel with
 | zero=>intro _ r h;rw [dz.eq_1] at h;cases h
 | succ fuel d =>
  intro x r h E a;rw [dz.eq_2] at h;refine ax a 1 Ox (kq [0]) 17 <| dr 1 9 h (fun e h=>?_) (fun e h=>?_)
  ·refine ax a 4 rT (kq [0]) 49 ?_;obtain ⟨c,h⟩:=ae h;obtain ⟨f,g,h⟩:=aW h;refine bK a 1 [(5,⟨[0],true,(aB f),[],0,false,none⟩)] K8 (kq [0]) 145 (pc c (pc (Lw _ _ _ _ g) pn)) <| dr 0 16 h (fun i h=>?_) (fun i h=>?_)
   ·refine ax a 1 (kp [4]) (kq [0]) 177 ?_;obtain rfl:=jS h;exact iG a 0 Tryz.f151 (kp [4]) (kq [0]) 177
   ·refine ax a 2 nY (kq [0]) 177 <| cY a 1 nY (kq [0]) 1 (d _ _ h E a)
  ·refine ax a 2 (kp [4]) (kq [0]) 33 ?_;cases h;exact iG a 0 Tryz.f151 (kp [4]) (kq [0]) 49
theorem AK (N s b r) (h:pB N s b=some r):Sd 151 [(qY s),(.fn (.func 118) [] [(.op 0 0 0)])] [(Ic b)] 1 (aI r) [(Ic b)]:=by
 unfold pB at h;refine sO Tryz.f151 19 fun E a=>?_;refine ax a 1 (kp [0,1]) (kq [0]) 17 <| ax a 2 nY (kq [0]) 65 <| cY a 2 nY (kq [0]) 1 (yf N _ _ N _ _ h E a)
theorem yg (N s a r) (h:nz N s a=some r):Sd 81 [(qY s),(.fn (.func 118) [] [(.op 0 0 0)])] [(Ic a)] 1 (aB r) [(Ic a)]:=by
 unfold nz at h;refine sO Tryz.f81 9 fun E b=>?_;refine ax b 1 (kp [0,1]) (kq [0]) 17 ?_;obtain ⟨c,d,h⟩:=aW h;refine bK b 1 [(2,⟨[0],true,(aI c),[],0,false,none⟩)] (kp [4]) (kq [0]) 97 (pc (AK _ _ _ _ d) pn) ?_;cases h;exact iG b 0 Tryz.f81 (kp [4]) (kq [0]) 97
theorem O4 (N l b r) (h:za N l b=some r):Sd 50 [(qY l),(nW b)] [] 0 (aB r) []:=by
 unfold za at h;refine sO Tryz.f50 9 fun E a=>?_;refine ax a 1 (kp [0,3]) (kq [0]) 32 ?_;obtain ⟨c,d,h⟩:=aW h;refine bK a 1 [(2,⟨[0],true,(aB c),[],0,false,none⟩)] (kp [4]) [] 112 (pc (yg _ _ _ _ d) pn) ?_;cases h;exact iG a 0 Tryz.f50 (kp [4]) [] 112
theorem MN (N l b r) (h:xG N l b=some r):Sd 21 [(qY l),(nW b)] [] 0 (aI r) []:=by
 unfold xG at h;refine sO Tryz.f21 17 fun E a=>?_;refine ax a 1 (kp [0,1]) [] 16 ?_;obtain ⟨c,d,h⟩:=aW h;refine bK a 2 [(3,oT (aI c))] nX [] 96 (pc (yN _ _ _ _ d) pn) <| ax a 1 (kp [0,1,5,11]) [] 128 <| dr 0 11 h (fun e h=>?_) (fun e h=>?_)
 ·refine ax a 1 (kp [4]) [] 160 ?_;obtain rfl:=jS h;exact iG a 0 Tryz.f21 (kp [4]) [] 160
 ·obtain ⟨f,g,h⟩:=aW h;refine bK a 3 [(2,oT (aB f))] (kp [16]) [] 192 (pc (O4 _ _ _ _ g) pn) <| dr 0 16 h (fun i h=>?_) (fun i h=>?_)
  ·refine ax a 1 (kp [4]) [] 208 ?_;cases h;exact iG a 0 Tryz.f21 (kp [4]) [] 208
  ·refine ax a 2 (kp [4]) [] 208 ?_;cases h;exact iG a 0 Tryz.f21 (kp [4]) [] 208
theorem Ck (N b c r) (h:nc N b c=some r):Sd 23 [(zM b),(VP c)] [] 0 (aI r) []:=by
 unfold nc at h;refine sO Tryz.f23 15 fun E a=>?_;refine ax a 1 (kp [2,3]) jt 48 ?_;obtain ⟨d,e,h⟩:=aW h;refine bK a 2 [(1,oT (aI d))] Sx jt 96 (pc o1 (pc (qZ _ _ _ e) pn)) <| ax a 1 (kp [2,3,5,9]) jt 128 <| dr 0 9 h (fun f h=>?_) (fun f h=>?_)
 ·refine ax a 1 (kp [4]) [] 160 ?_;obtain rfl:=jS h;exact iG a 0 Tryz.f23 (kp [4]) [] 160
 ·obtain ⟨g,i,h⟩:=aW h;refine bK a 3 [(2,oT (aB g))] (kp [14]) [] 192 (pc o1 (pc o1 (pc (sX _ _ _ _ i) pn))) <| dr 0 14 h (fun j h=>?_) (fun j h=>?_)
  ·refine ax a 1 (kp [4]) [] 208 ?_;cases h;exact iG a 0 Tryz.f23 (kp [4]) [] 208
  ·refine ax a 2 (kp [4]) [] 208 ?_;cases h;exact iG a 0 Tryz.f23 (kp [4]) [] 208
noncomputable abbrev Ha:=bt Tryz.f49
def MO (N:Nat) (n:Int) (l:List bw) (y:List ab) (K:bh->Int->Option ad9):Prop:=∀ (a:List ab) (x:Int) (r:bh×ab×Bool),K a x=some r->∀ E,ba E 0->aK Tryz.prog E 49 78 (bd E [] (R1 r)) [.code (Ha 116),.inLoop (Ha 116),.inBlock 0,.code (Ha 15)] ⟨[(1,(qY l)),(2,(nW y)),(7,(.op 0 0 0)),(9,(.os 1 0 a.length)),(19,(aiK n)),(20,(aI x))],[(0,vO 4 [(aB false),.nil,(aB false),.nil]),(vT a)],2⟩
def C6 (N:Nat) (l:List bw) (y:List ab) (K:bh->ab->Int->Option ad9):Prop:=∀ (a:List ab) (bound:ab) (b:Int) (r:bh×ab×Bool),K a bound b=some r->∀ E,ba E 0->aK Tryz.prog E 49 78 (bd E [] (R1 r)) [.code (Ha 500),.inLoop (Ha 500),.inBlock 2,.code (Ha 63)] ⟨[(2,(nW y)),(7,(.op 0 0 0)),(9,(.os 1 0 a.length)),(11,(.op 2 0 0)),(29,(qY l)),(30,(Aq l)),(31,(aI b))],[(0,vO 4 [(aB false),.nil,(aB false),.nil]),(vT a),(tS bound)],3⟩
def MP (N:Nat) (l:List bw) (y:List ab) (bound:ab) (a:Int) (K:bh->Int->Option ad9):Prop:=∀ (b:List ab) (c:Int) (r:bh×ab×Bool),K b c=some r->∀ E,ba E 0->aK Tryz.prog E 49 78 (bd E [] (R1 r)) [.code (Ha 512820),.inLoop (Ha 512820),.inBlock 4,.code (Ha 64103),.inBlock 3,.code (Ha 4007),.inLoop (Ha 500),.inBlock 2,.code (Ha 63)] ⟨[(2,(nW y)),(7,(.op 0 0 0)),(9,(.os 1 0 b.length)),(11,(.op 2 0 0)),(12,(aI a)),(13,(.op 3 0 0)),(29,(qY l)),(30,(Aq l)),(31,(aI a)),(44,(cA bH ab.d ((l.getD a.toNat bw.d).fx))),(45,(aI ((((l.getD a.toNat bw.d).fx).length:Nat):Int))),(46,(aI c))],[(0,vO 4 [(aB false),.nil,(aB false),.nil]),(vT b),(tS bound),(3,vO 5 (Uw (l.getD a.toNat bw.d)))],4⟩
theorem Lx (N:Nat) (l:List bw) (y:List ab) (bound:ab) (f:Int) (g:bh->ab->Int->Option ad9) (i:C6 N l y g) (fuel:Nat):MP N l y bound f (lB N l y bound f g fuel):=by
 induction fuel with
 | zero=>intro _ _ r h;rw [lB.eq_1] at h;cases h
 | succ fuel j =>
  intro c d r h E a;rw [lB.eq_2] at h;refine ax a 1 (kp [2,7,9,11,12,13,29,30,31,44,45,46,47]) xL 20 <| dr 1 47 h (fun k h=>?_) (fun k h=>?_)
  ·obtain ⟨m,h⟩:=ae h;refine dV a 4 (kp [2,7,9,11,12,13,14,15,29,30,31,44,45,46]) (kq [0,1,2,3,68]) 116 (pc m (pc o1 pn)) ?_;obtain ⟨e,h⟩:=ae h;obtain ⟨n,h⟩:=ae h;obtain ⟨o,p,h⟩:=aW h;obtain ⟨b,q,h⟩:=aW h;refine bK a 0 [(11,oT (aj o)),(12,oT (aj b))] (kp [2,7] ++ [(9,.l5 (zL c d b))] ++ kp [11,12,13,29,30,31,44,45,46]) (kq [0] ++ [(1,ri 1 bH ab.d (c.set d.toNat b))] ++ kq [2,3]) 356 (pc e (pc (dR e) (pc n (pc o1 (pc (bN _ _ _ _ p) (pc (bF _ _ _ _ q) (pc e (pc (dR e) (pc (bm c d.toNat b) (pc (bm c d.toNat b) (pc (dK bH ab.d c d.toNat b) pn))))))))))) <| ax a 1 XS xL 388 <| cY a 1 XS xL 4 (j _ _ _ h E a)
  ·obtain ⟨s,h⟩:=ae h;obtain ⟨t,u,h⟩:=aW h;obtain ⟨v,w,h⟩:=aW h;refine bK a 1 [(7,oT (aj t)),(8,oT (aj v))] Sy fK 180 (pc o1 (pc s (pc o1 (pc (bN _ _ _ _ u) (pc (bF _ _ _ _ w) (pc o1 pn)))))) <| ax a 1 Sy fK 212 <| cY a 1 Sy fK 3 (i _ _ _ _ h E a)
theorem Lz (N l y fuel):C6 N l y (iZ N l y fuel):=by
 induction fuel with
 | zero=>intro _ _ _ r h;rw [iZ.eq_1] at h;cases h
 | succ fuel c =>
  intro b bound k r h E a;rw [iZ.eq_2] at h;refine ax a 1 (kp [2,7,9,11,29,30,31,32]) fK 19 <| dr 1 32 h (fun d h=>?_) (fun d h=>?_)
  ·obtain ⟨e,h⟩:=ae h;refine dV a 4 (kp [2,7,9,11,12,13,29,30,31]) (kq [0,1,2,67]) 115 (pc e (pc o1 pn)) ?_;obtain ⟨f,h⟩:=ae h;obtain ⟨g,i,h⟩:=aW h;refine bK a 2 [(4,oT (aI g))] (kp [2,7,9,11,12,13,29,30,31,41]) (kq [0,1,2,67]) 211 (pc f (pc (mq _ _ _ i) pn)) <| dr 0 41 h (fun j h=>?_) (fun j h=>?_)
   ·refine dV a 1 (kp [6,7,8]) (kq [0]) 275 (pc o1 (pc o1 pn)) ?_;cases h;exact mh a 0 Tryz.f49 [] ([(6,rh bH ab.d ([]:List ab))] ++ kp [7,8]) [(17,.ak 0)] 275 (pc (Eq.refl 0) pn) [17] (pc o1 pn)
   ·refine dV a 3 XS (kq [0,1,2,67]) 275 (pc o1 pn) <| cY a 2 XS (kq [0,1,2] ++ [(3,.ak 67)]) 4 (Lx N _ _ _ _ _ c N _ _ _ h E a)
  ·refine dV a 2 (kp [6,7,8]) (kq [0,1]) 99 (pc o1 (pc o1 pn)) ?_;cases h;exact mh a 0 Tryz.f49 [1] ([(6,rh bH ab.d b)] ++ kp [7,8]) [(17,.ak 0)] 99 (pc (Eq.refl b.length) (pc (z1 b.length) (pc (eZ bH ab.d b) pn))) [17] (pc o1 pn)
theorem LC (N n l y fuel):MO N n l y (lC N n l y fuel):=by
 induction fuel with
 | zero=>intro _ _ r h;rw [lC.eq_1] at h;cases h
 | succ fuel e =>
  intro c x r h E a;rw [lC.eq_2] at h;refine ax a 1 (kp [1,2,7,9,19,20,21]) (kq [0,1]) 18 <| dr 1 21 h (fun f h=>?_) (fun f h=>?_)
  ·refine ax a 4 (kp [1,2,7,9,10,19,20]) (kq [0,1]) 50 ?_;obtain ⟨b,g,h⟩:=aW h;obtain ⟨d,h⟩:=ae h;refine bK a 0 [(2,oT (aj b))] (kp [1,2,7] ++ [(9,.l5 (zL c x b))] ++ kp [19,20]) (kq [0] ++ [(1,ri 1 bH ab.d (c.set x.toNat b))]) 130 (pc (eV _ _ _ g) (pc d (pc (dR d) (pc (bm c x.toNat b) (pc (bm c x.toNat b) (pc (dK bH ab.d c x.toNat b) pn)))))) <| ax a 1 XM (kq [0,1]) 162 <| cY a 1 XM (kq [0,1]) 2 (e _ _ _ h E a)
  ·obtain ⟨i,j,h⟩:=aW h;refine bK a 2 [(0,oT (aj i))] (kp [1,2,7,9,11]) (kq [0,1,34]) 66 (pc (eV _ _ _ j) (pc o1 pn)) <| ax a 2 Sy (kq [0,1,34]) 114 <| cY a 2 Sy (kq [0,1] ++ [(2,.ak 34)]) 3 (Lz N _ _ N _ _ _ _ h E a)
theorem Qh (N n l y r) (h:Bc N n l y=some r):Sd 49 [(aI n),(qY l),(nW y)] [] 0 (R1 r) []:=by
 unfold Bc at h;refine sO Tryz.f49 78 fun E a=>?_;refine ax a 1 Sk (kq [16]) 48 ?_;obtain ⟨c,h⟩:=ae h;refine dV a 1 (kp [1,2,7] ++ [(9,.l5 (aeb n))]) (kq [16] ++ [(64,.arz 64 (aeb n) (Xt n))]) 96 (pc c.1 (pc (Int.le_refl n) (pc c.2.1 (pc c.2.2 (pc (lR n.toNat Ap) (pc (lQ n.toNat Ap) (pc (show ∀ zi,zi < (acp n).length->Uf ((fun _=>[(aB false),.nil,(aB false),.nil]) zi) ((Xt n) zi) from (fun b d=>yC bH ab.d ab.d n.toNat b ⟨.inl rfl,.inr ⟨rfl,_,rfl⟩,.inl rfl,.inr ⟨rfl,_,rfl⟩,trivial⟩ d)) pn))))))) <| ax a 2 XM (kq [16,64]) 144 <| cY a 2 XM [(0,.ak 16),(1,.ak 64)] 2 (LC N _ _ _ N _ _ _ h E a)
theorem Bl (N x r) (h:mo N x=some r):Sd 73 [(aj x)] [] 0 (aB r) []:=by
 unfold mo at h;refine sO Tryz.f73 6 fun E a=>?_;refine ax a 1 (kp [1]) (kq [0]) 32 ?_;obtain ⟨b,c,h⟩:=aW h;refine bK a 1 [(1,oT (aB b))] (kp [2]) [] 96 (pc o1 (pc (jA _ _ _ c) pn)) ?_;cases h;exact iG a 0 Tryz.f73 (kp [2]) [] 96
noncomputable abbrev ajG:=bt Tryz.f88
def yX (N:Nat) (s:List ab) (K:Int->Option (Int)):Prop:=∀ (x:Int) (r:Int),K x=some r->∀ E,ba E 0->aK Tryz.prog E 88 19 (bd E [] (aI r)) [.code (ajG 52),.inLoop (ajG 52),.inBlock 0,.code (ajG 7)] ⟨[(Xl s),(1,(.fn (.func 73) [] [])),(7,(Sb s)),(8,(aI x))],[],0⟩
theorem yh (N s fuel):yX N s (dA N s fuel):=by
 induction fuel with
 | zero=>intro _ r h;rw [dA.eq_1] at h;cases h
 | succ fuel b =>
  intro x r h E a;rw [dA.eq_2] at h;refine ax a 1 Ox [] 16 <| dr 1 9 h (fun d h=>?_) (fun d h=>?_)
  ·refine ax a 4 rT [] 48 ?_;obtain ⟨c,h⟩:=ae h;obtain ⟨e,f,h⟩:=aW h;refine bK a 1 [(5,oT (aB e))] K8 [] 144 (pc c (pc (Bl _ _ _ f) pn)) <| dr 0 16 h (fun g h=>?_) (fun g h=>?_)
   ·refine ax a 1 (kp [4]) [] 176 ?_;obtain rfl:=jS h;exact iG a 0 Tryz.f88 (kp [4]) [] 176
   ·refine ax a 2 nY [] 176 <| cY a 1 nY [] 0 (b _ _ h E a)
  ·refine ax a 2 (kp [4]) [] 32 ?_;cases h;exact iG a 0 Tryz.f88 (kp [4]) [] 48
theorem AL (N s r) (h:pC N s=some r):Sd 88 [(nW s),(.fn (.func 73) [] [])] [] 0 (aI r) []:=by
 unfold pC at h;refine sO Tryz.f88 19 fun E a=>?_;refine ax a 1 (kp [0,1]) [] 16 <| ax a 2 nY [] 64 <| cY a 2 nY [] 0 (yh N _ N _ _ h E a)
theorem AM (N s r) (h:lP N s=some r):Sd 72 [(nW s),(.fn (.func 73) [] [])] [] 0 (aB r) []:=by
 unfold lP at h;refine sO Tryz.f72 9 fun E a=>?_;refine ax a 1 (kp [0,1]) [] 16 ?_;obtain ⟨b,c,h⟩:=aW h;refine bK a 1 [(2,oT (aI b))] (kp [4]) [] 96 (pc (AL _ _ _ c) pn) ?_;cases h;exact iG a 0 Tryz.f72 (kp [4]) [] 96
theorem CI (N n l e r) (h:nU N n l e=some r):Sd 24 [(aI n),(qY l),(nW e)] [] 0 (aI r) []:=by
 unfold nU at h;refine sO Tryz.f24 41 fun E a=>?_;refine ax a 1 B2 [] 16 ?_;obtain ⟨f,g,h⟩:=aW h;refine bK a 2 [(2,oT (aI f))] Sk [] 80 (pc (yN _ _ _ _ g) pn) <| ax a 1 (kp [0,1,2,7,15]) [] 112 <| dr 0 15 h (fun i h=>?_) (fun i h=>?_)
 ·refine ax a 1 (kp [6]) [] 144 ?_;obtain rfl:=jS h;exact iG a 0 Tryz.f24 (kp [6]) [] 144
 ·refine ax a 3 (kp [0,1,2,21]) [] 192 <| dr 0 21 h (fun j h=>?_) (fun j h=>?_)
  ·refine ax a 1 (kp [6]) [] 208 ?_;cases h;exact iG a 0 Tryz.f24 (kp [6]) [] 208
  ·obtain ⟨c,k,h⟩:=aW h;refine bK a 2 [(3,oT (R1 c))] (kp [8,9,10]) (kq [320]) 384 (pc (Qh _ _ _ _ _ k) (pc o1 pn)) ?_;obtain ⟨d,m,h⟩:=aW h;obtain ⟨o,p,h⟩:=aW h;refine bK a 2 [(4,oT (aI d)),(9,oT (aB o))] (kp [40]) [] 560 (pc (fun b:(!(!c.2.2))=true=>(pc o1 pn)) (pc (fun b:(!(!c.2.2))=true=>(pc (mq _ _ _ (aN m b)) (pc b pn))) (pc (fun b:(!(!c.2.2))=true=>(pc b pn)) (pc (fun hq:(!(!c.2.2))=true=>(pc hq pn)) (pc (fun b:(!(cond (!c.2.2) true (decide (d>=0))))=true=>(pc (AM _ _ _ (aN p b)) (pc b pn))) (pc (fun hq:(!(cond (!c.2.2) true (decide (d>=0))))=true=>(pc hq pn)) pn)))))) <| dr 0 40 h (fun q h=>?_) (fun q h=>?_)
   ·refine ax a 1 (kp [6]) [] 576 ?_;cases h;exact iG a 0 Tryz.f24 (kp [6]) [] 576
   ·refine ax a 2 (kp [6]) [] 576 ?_;cases h;exact iG a 0 Tryz.f24 (kp [6]) [] 576
theorem vq (N b r) (h:fz N b=some r):Sd 4 [(zM b)] [] 0 (aB r) []:=by
 unfold fz at h;refine sO Tryz.f4 114 fun E d=>?_;refine ax d 1 (kp [1]) (kq [0]) 32 ?_;obtain ⟨j,k,h⟩:=aW h;refine bK d 2 [(0,oT (aB j))] (kp [1,13]) (kq [0]) 64 (pc (AE _ _ k) pn) <| dr 0 13 h (fun l h=>?_) (fun l h=>?_)
 ·refine ax d 1 (kp [2]) [] 80 ?_;obtain rfl:=jS h;exact iG d 0 Tryz.f4 (kp [2]) [] 80
 ·obtain ⟨g,m,h⟩:=aW h;obtain ⟨n,o,h⟩:=aW h;refine bK d 3 [(1,oT (aB g)),(11,oT (aI n))] (kp [1,27]) (kq [0]) 288 (pc o1 (pc (UE _ _ _ m) (pc (fun a:(!(!g))=true=>(pc a (pc o1 pn))) (pc (fun a:(!(!g))=true=>(pc a pn)) (pc (fun a:(!(!g))=true=>(pc a pn)) (pc (fun hq:(!(!g))=true=>(pc hq pn)) (pc (fun a:(amW g b)=true=>(pc o1 pn)) (pc (fun a:(amW g b)=true=>(pc (Lv _ _ _ (aN o a)) (pc a pn))) (pc (fun a:(amW g b)=true=>(pc a pn)) (pc (fun hq:(amW g b)=true=>(pc hq pn)) pn)))))))))) <| dr 0 27 h (fun p h=>?_) (fun p h=>?_)
  ·refine ax d 1 (kp [2]) [] 304 ?_;obtain rfl:=jS h;exact iG d 0 Tryz.f4 (kp [2]) [] 304
  ·refine dV d 2 (kp [1,3]) (kq [0]) 352 (pc o1 pn) ?_;obtain ⟨q,s,h⟩:=aW h;refine bK d 1 [(1,oT (Sf q))] (kp [1,3,4]) (kq [0]) 400 (pc o1 (pc (Cj _ _ _ s) pn)) ?_;obtain ⟨e,t,h⟩:=aW h;refine bK d 1 [(1,oT (N9 e))] (kp [1,3,4,5,6]) (kq [0]) 512 (pc o1 (pc (Fb _ _ _ t) pn)) ?_;obtain ⟨f,u,h⟩:=aW h;refine bK d 1 [(2,oT (.tup [(cA bH ab.d f.1),(cA bH ab.d f.2.1),(aI f.2.2)]))] (kp [1,3,4,5,6,8,9]) (kq [0]) 672 (pc (P5 _ _ _ _ u) pn) <| ax d 2 (kp [1,3,4,5,6,8,9,46]) (kq [0]) 704 <| dr 0 46 h (fun v h=>?_) (fun v h=>?_)
   ·obtain ⟨w,x,h⟩:=aW h;refine bK d 1 [(11,oT (aI w))] (kp [2]) [] 944 (pc (fun a:(f.2.2 == 0)=true=>(pc a pn)) (pc (fun a:(f.2.2 == 0)=true=>(pc a (pc a pn))) (pc (fun hq:(f.2.2 == 0)=true=>(pc hq pn)) (pc (fun a:(acu f e b)=true=>(pc (MN _ _ _ _ (aN x a)) (pc a (pc a pn)))) (pc (fun a:(acu f e b)=true=>(pc a pn)) (pc (fun hq:(acu f e b)=true=>(pc hq pn)) pn)))))) ?_;cases h;exact iG d 0 Tryz.f4 (kp [2]) [] 944
   ·refine dV d 3 (kp [1,3,4,8,77]) (kq [0]) 976 (pc (fun a:(e.2 != 12)=true=>(pc a pn)) (pc (fun hq:(e.2 != 12)=true=>(pc hq pn)) (pc (fun a:(!(cond (e.2 != 12) (e.2 != 13) false))=true=>(pc a pn)) (pc (fun hq:(!(cond (e.2 != 12) (e.2 != 13) false))=true=>(pc hq pn)) (pc (fun a:(amX e f)=true=>(pc a pn)) (pc (fun a:(amX e f)=true=>(pc a pn)) (pc (fun a:(amX e f)=true=>(pc a (pc a pn))) (pc (fun hq:(amX e f)=true=>(pc hq pn)) pn)))))))) <| dr 0 77 h (fun y h=>?_) (fun y h=>?_)
    ·refine ax d 1 (kp [2]) [] 992 ?_;obtain rfl:=jS h;exact iG d 0 Tryz.f4 (kp [2]) [] 992
    ·refine ax d 2 (kp [1,3,4,8,10]) (kq [0]) 1040 ?_;obtain ⟨c,h⟩:=ae h;obtain ⟨z,h⟩:=ae h;obtain ⟨A,B,h⟩:=aW h;obtain ⟨C,h⟩:=ae h;obtain ⟨D,h⟩:=ae h;obtain ⟨F,G,h⟩:=aW h;refine bK d 1 [(9,oT (aj A)),(20,oT (aj F))] (kp [1,3,4,8,11]) (kq [0,1392]) 1424 (pc c (pc z (pc (vJ _ _ _ _ B) (pc C (pc D (pc (vJ _ _ _ _ G) (pc o1 pn))))))) ?_;obtain ⟨i,H,h⟩:=aW h;obtain ⟨I,J,h⟩:=aW h;refine bK d 1 [(2,oT (aI i)),(8,oT (aI I))] (kp [2]) [] 1616 (pc o1 (pc o1 (pc (Ck _ _ _ _ H) (pc (fun a:(i == 0)=true=>(pc (CI _ _ _ _ _ (aN J a)) (pc a (pc a (pc a pn))))) (pc (fun a:(i == 0)=true=>(pc a pn)) (pc (fun hq:(i == 0)=true=>(pc hq pn)) pn)))))) ?_;cases h;exact iG d 0 Tryz.f4 (kp [2]) [] 1616
end Go.Den
