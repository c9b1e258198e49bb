/- Each function of the program does what its Lean function computes (part 2). No conditions. -/
import Derived.Test.YtkejjbiabpdhjaaGreatTopOneEquilibriumSa
import Derived.Test.YtkejjbiabpdhjaaGreatProg
set_option linter.unusedVariables false
set_option maxRecDepth 100000
namespace Go.Den
open Go.Ab Go.Proofs Go.Ab.aK
theorem VR (N l r) (h:KD N l=some r):Sd 54 [(cA cI 0 l)] [] 0 (yK r) []:=by
 unfold KD at h;refine sO Tryz.f54 20 fun E a=>?_;refine ax a 1 (kp [0]) [] 16 <| ax a 1 (kp [0,3]) [] 32 <| ax a 2 B4 [] 48 <| cY a 2 aiT [(0,.nil 4 Ol)] 1 (Yb N _ N _ _ _ h E a)
theorem an (N n r) (h:ao N n=some r):Sd 132 [(aI n)] [] 0 (aj r) []:=by
 unfold ao at h;refine sO Tryz.f132 6 fun E a=>?_;refine ax a 1 (kp [0,2]) (kq [0]) 16 ?_;obtain ⟨rOf,b,h⟩:=aW h;obtain ⟨c,d,h⟩:=aW h;refine bK a 1 [(1,oT (dM rOf)),(2,oT (aj c))] (kp [2]) (kq [0]) 80 (pc (VQ _ _ _ b) (pc (Ms _ _ _ d) (pc o1 pn))) ?_;obtain rfl:=jS h;exact mh a 0 Tryz.f132 [] (kp [2]) [(16,.ak 0)] 80 pn [16] (pc o1 pn)
theorem zS (N x n r) (h:m7 N x n=some r):Sd 130 [(aj x),(aI n)] [] 0 (aB r) []:=by
 unfold m7 at h;refine sO Tryz.f130 18 fun E c=>?_;refine ax c 1 (kp [1,2]) (kq [0]) 32 ?_;obtain ⟨d,e,h⟩:=aW h;obtain ⟨b,f,h⟩:=aW h;obtain ⟨g,i,h⟩:=aW h;obtain ⟨j,k,h⟩:=aW h;refine bK c 1 [(3,oT (aj d)),(4,oT (aI b)),(9,oT (aj g)),(10,oT (aI j))] (kp [4]) [] 256 (pc o1 (pc (an _ _ _ e) (pc (jB _ _ _ _ f) (pc (fun a:(EA b)=true=>(pc o1 pn)) (pc (fun a:(EA b)=true=>(pc (an _ _ _ (aN i a)) (pc a pn))) (pc (fun a:(EA b)=true=>(pc (jB _ _ _ _ (aN k a)) (pc a (pc a pn)))) (pc (fun a:(EA b)=true=>(pc a pn)) (pc (fun hq:(EA b)=true=>(pc hq pn)) pn)))))))) ?_;cases h;exact iG c 0 Tryz.f130 (kp [4]) [] 256
theorem Mw (N x r) (h:BP N x=some r):Sd 189 [(aI x)] [] 0 (aB r) []:=by
 unfold BP at h;refine sO Tryz.f189 9 fun E a=>?_;refine ax a 1 (kp [0]) [] 16 <| dV a 1 (kp [2]) [] 128 (pc (fun b:(!(decide (x < (-1000000))))=true=>(pc b pn)) (pc (fun hq:(!(decide (x < (-1000000))))=true=>(pc hq pn)) pn)) ?_
 cases h;exact iG a 0 Tryz.f189 (kp [2]) [] 128
noncomputable abbrev ap9:=bt Tryz.f190
def JR (N:Nat) (c:cO) (K:Int->Option (Int)):Prop:=∀ (x:Int) (r:Int),K x=some r->∀ E,ba E 0->aK Tryz.prog E 190 52 (bd E [] (aI r)) [.code (ap9 244),.inLoop (ap9 244),.inBlock 0,.code (ap9 31)] ⟨[(1,(.op 0 0 0)),(17,(cA cI 0 c.ah)),(ace c),(19,(aI x))],[(KR c)],1⟩
theorem IQ (N c fuel):JR N c (jQ N c fuel):=by
 induction fuel with
 | zero=>intro _ r h;rw [jQ.eq_1] at h;cases h
 | succ fuel d =>
  intro x r h E b;rw [jQ.eq_2] at h;refine ax b 1 (kp [1,17,18,19,20]) (kq [0]) 17 <| dr 1 20 h (fun e h=>?_) (fun e h=>?_)
  ·obtain ⟨f,h⟩:=ae h;refine dV b 4 (kp [1,3,4,17,18,19]) (kq [0]) 97 (pc f pn) ?_;obtain ⟨g,h⟩:=ae h;obtain ⟨i,j,h⟩:=aW h;refine bK b 2 [(12,oT (aI i))] (kp [1,3,4,17,18,19,38]) (kq [0]) 337 (pc (fun a:(RP c x)=true=>(pc a pn)) (pc (fun hq:(RP c x)=true=>(pc hq pn)) (pc (fun a:(PJ c x)=true=>(pc a (pc o1 pn))) (pc (fun a:(PJ c x)=true=>(pc a (pc a (pc (g a) pn)))) (pc (fun a:(PJ c x)=true=>(pc a pn)) (pc (fun a:(PJ c x)=true=>(pc (mq _ _ _ (aN j a)) (pc a pn))) (pc (fun a:(PJ c x)=true=>(pc a pn)) (pc (fun hq:(PJ c x)=true=>(pc hq pn)) pn)))))))) <| dr 0 38 h (fun k h=>?_) (fun k h=>?_)
   ·refine ax b 1 (kp [2]) [] 353 ?_;cases h;exact iG b 0 Tryz.f190 (kp [2]) [] 353
   ·obtain ⟨l,h⟩:=ae h;refine dV b 2 (kp [1,17,18,19,50]) (kq [0]) 529 (pc (fun a:(lp x)=true=>(pc a (pc o1 pn))) (pc (fun a:(lp x)=true=>(pc a pn)) (pc (fun a:(lp x)=true=>(pc a (pc a (pc (l a) pn)))) (pc (fun a:(lp x)=true=>(pc a pn)) (pc (fun a:(lp x)=true=>(pc a (pc a pn))) (pc (fun hq:(lp x)=true=>(pc hq pn)) pn)))))) <| dr 0 50 h (fun m h=>?_) (fun m h=>?_)
    ·refine ax b 1 (kp [2]) [] 545 ?_;cases h;exact iG b 0 Tryz.f190 (kp [2]) [] 545
    ·refine ax b 2 XK (kq [0]) 561 <| cY b 1 XK (kq [0]) 1 (d _ _ h E b)
  ·refine ax b 2 (kp [2]) [] 33 ?_;cases h;exact iG b 0 Tryz.f190 (kp [2]) [] 48
theorem tj (N c r) (h:mD N c=some r):Sd 190 [(VO c)] [] 0 (aI r) []:=by
 unfold mD at h;refine sO Tryz.f190 52 fun E a=>?_;refine ax a 1 (kp [1]) (kq [0]) 32 <| dV a 2 (kp [1,8]) (kq [0]) 96 (pc o1 pn) <| dr 0 8 h (fun b h=>?_) (fun b h=>?_)
 ·refine ax a 1 (kp [2]) [] 112 ?_;cases h;exact iG a 0 Tryz.f190 (kp [2]) [] 112
 ·refine dV a 3 (kp [1,15]) (kq [0]) 208 (pc o1 (pc o1 pn)) <| dr 0 15 h (fun d h=>?_) (fun d h=>?_)
  ·refine ax a 1 (kp [2]) [] 224 ?_;cases h;exact iG a 0 Tryz.f190 (kp [2]) [] 224
  ·refine dV a 3 XK (kq [0]) 272 (pc o1 pn) <| cY a 2 XK (kq [0]) 1 (IQ N _ N _ _ h E a)
noncomputable abbrev aqa:=bt Tryz.f131
def Hp (N:Nat) (l:List af) (K:Int->Option (Int)):Prop:=∀ (x:Int) (r:Int),K x=some r->∀ E,ba E 0->aK Tryz.prog E 131 30 (bd E [] (aI r)) [.code (aqa 116),.inLoop (aqa 116),.inBlock 0,.code (aqa 15)] ⟨[(9,(oW l)),(10,(Dr l)),(11,(aI x))],[],0⟩
theorem Gf (N l fuel):Hp N l (iv N l fuel):=by
 induction fuel with
 | zero=>intro _ r h;rw [iv.eq_1] at h;cases h
 | succ fuel e =>
  intro x r h E a;rw [iv.eq_2] at h;refine ax a 1 (kp [9,10,11,12]) [] 16 <| dr 1 12 h (fun f h=>?_) (fun f h=>?_)
  ·obtain ⟨c,h⟩:=ae h;refine dV a 4 (kp [4,9,10,11]) (kq [48]) 80 (pc c (pc o1 pn)) ?_;obtain ⟨b,g,h⟩:=aW h;obtain ⟨i,j,h⟩:=aW h;refine bK a 2 [(2,oT (aB b)),(6,oT (aB i))] (kp [4,9,10,11,22]) (kq [48]) 208 (pc o1 (pc (Mw _ _ _ g) (pc (fun d:(!b)=true=>(pc d (pc o1 pn))) (pc (fun d:(!b)=true=>(pc (zS _ _ _ _ (aN j d)) (pc d pn))) (pc (fun hq:(!b)=true=>(pc hq pn)) pn))))) <| dr 0 22 h (fun k h=>?_) (fun k h=>?_)
   ·refine ax a 1 (kp [2]) [] 224 ?_;cases h;exact iG a 0 Tryz.f131 (kp [2]) [] 224
   ·obtain ⟨m,n,h⟩:=aW h;refine bK a 2 [(2,oT (aI m))] (kp [5,9,10,11]) [] 272 (pc o1 (pc (tj _ _ _ n) pn)) <| ax a 1 (kp [5,9,10,11,27]) [] 304 <| dr 0 27 h (fun o h=>?_) (fun o h=>?_)
    ·refine ax a 1 (kp [2]) [] 336 ?_;obtain rfl:=jS h;exact iG a 0 Tryz.f131 (kp [2]) [] 336
    ·refine ax a 2 XX [] 336 <| cY a 1 XX [] 0 (e _ _ h E a)
  ·refine ax a 2 (kp [2]) [] 32 ?_;cases h;exact iG a 0 Tryz.f131 (kp [2]) [] 48
theorem AS (N l r) (h:ow N l=some r):Sd 131 [(oW l)] [] 0 (aI r) []:=by
 unfold ow at h;refine sO Tryz.f131 30 fun E a=>?_;refine ax a 1 (kp [0]) [] 16 <| ax a 2 (kp [0,8]) [] 64 <| dr 0 8 h (fun b h=>?_) (fun b h=>?_)
 ·refine ax a 1 (kp [2]) [] 80 ?_;cases h;exact iG a 0 Tryz.f131 (kp [2]) [] 80
 ·refine ax a 3 XX [] 112 <| cY a 2 XX [] 0 (Gf N _ N _ _ h E a)
theorem qZ (N b r) (h:gR N b=some r):Sd 65 [(zM b)] [] 0 (aI r) []:=by
 unfold gR at h;refine sO Tryz.f65 19 fun E c=>?_;refine ax c 1 (kp [1]) (kq [0]) 32 ?_;obtain ⟨d,e,h⟩:=aW h;refine bK c 2 [(11,oT (aB d))] (kp [1,15]) (kq [0]) 240 (pc o1 (pc (fun a:(VH b)=true=>(pc a (pc o1 pn))) (pc (fun a:(VH b)=true=>(pc a pn)) (pc (fun hq:(VH b)=true=>(pc hq pn)) (pc (fun a:(ab4 b)=true=>(pc a (pc o1 pn))) (pc (fun a:(ab4 b)=true=>(pc (zS _ _ _ _ (aN e a)) (pc a pn))) (pc (fun hq:(ab4 b)=true=>(pc hq pn)) pn))))))) <| dr 0 15 h (fun f h=>?_) (fun f h=>?_)
 ·refine ax c 1 (kp [2]) [] 256 ?_;cases h;exact iG c 0 Tryz.f65 (kp [2]) [] 256
 ·obtain ⟨g,i,h⟩:=aW h;refine bK c 2 [(2,oT (aI g))] (kp [2]) [] 304 (pc o1 (pc (AS _ _ _ i) pn)) ?_;obtain rfl:=jS h;exact iG c 0 Tryz.f65 (kp [2]) [] 304
theorem eM (N x r) (h:dY N x=some r):Sd 137 [(aj x)] [] 0 (aI r) []:=by
 unfold dY at h;refine sO Tryz.f137 6 fun E a=>?_;refine ax a 1 (kp [1]) (kq [0]) 32 ?_;obtain ⟨b,c,h⟩:=aW h;refine bK a 1 [(2,oT (aI b))] (kp [2]) [] 96 (pc o1 (pc (show Sd 51 [(aj x),(.agg [(aB false),.nil,(aB false),.nil])] [] 0 (aI b) [] from (Sound.conv (jB _ _ _ _ c) (.cons (Alike.refl _) (.cons (Alike.agg (.cons (Alike.refl _) (.cons Alike.nil (.cons (Alike.refl _) (.cons Alike.nil .nil))))) .nil)))) pn)) ?_;obtain rfl:=jS h;exact iG a 0 Tryz.f137 (kp [2]) [] 96
noncomputable abbrev afR:=bt Tryz.f207
def CW (N:Nat) (c:cO) (K:ab->Int->Option acr):Prop:=∀ (sum:ab) (x:Int) (r:ab×Bool×Int),K sum x=some r->∀ E,ba E 0->aK Tryz.prog E 207 57 (bd E [] (Xg r)) [.code (afR 244),.inLoop (afR 244),.inBlock 0,.code (afR 31)] ⟨[(1,(.op 0 0 0)),(2,(.op 1 0 0)),(6,(.op 2 0 0)),(17,(cA cI 0 c.ah)),(ace c),(19,(aI x))],[(KR c),(1,vO 4 [(aB false),.nil,(aB false),.nil]),(tS sum)],3⟩
def Mx (N:Nat) (c:cO) (x:Int) (K:ab->Option acr):Prop:=∀ (a:ab) (r:ab×Bool×Int),K a=some r->∀ E,ba E 0->aK Tryz.prog E 207 57 (bd E [] (Xg r)) [.code (afR 1959),.inLoop (afR 244),.inBlock 0,.code (afR 31)] ⟨[(1,(.op 0 0 0)),(2,(.op 1 0 0)),(6,(.op 2 0 0)),(17,(cA cI 0 c.ah)),(ace c),(19,(aI x))],[(KR c),(1,vO 4 [(aB false),.nil,(aB false),.nil]),(tS a)],3⟩
theorem Ce (N:Nat) (c:cO) (x:Int) (b:ab->Int->Option acr) (d:CW N c b):Mx N c x (pJ N c x b):=by
 intro e r h E a;unfold pJ at h;refine ax a 0 Ld fK 35 <| cY a 1 Ld fK 3 (d _ _ _ h E a)
theorem Lm (N c fuel):CW N c (iw N c fuel):=by
 induction fuel with
 | zero=>intro _ _ r h;rw [iw.eq_1] at h;cases h
 | succ fuel b =>
  intro sum x r h E a;rw [iw.eq_2] at h;refine ax a 1 (kp [1,2,6,17,18,19,20]) fK 19 <| dr 1 20 h (fun d h=>?_) (fun d h=>?_)
  ·obtain ⟨e,h⟩:=ae h;refine dV a 4 (kp [1,2,6,7,8,17,18,19]) fK 99 (pc e pn) <| dV a 1 (kp [1,2,6,7,8,17,18,19,29]) fK 195 (pc o1 pn) <| dr 0 29 h (fun f h=>?_) (fun f h=>?_)
   ·obtain ⟨g,h⟩:=ae h;obtain ⟨i,h⟩:=ae h;obtain ⟨j,k,h⟩:=aW h;obtain ⟨l,m,h⟩:=aW h;obtain ⟨n,o,h⟩:=aW h;refine bK a 0 [(14,oT (aj j)),(15,oT (aj l)),(16,oT (aj n))] Ld fK 483 (pc o1 (pc o1 (pc g (pc o1 (pc i (pc (eV _ _ _ k) (pc (bN _ _ _ _ m) (pc (bF _ _ _ _ o) (pc o1 pn))))))))) <| cY a 1 Ld fK 3 (Ce N _ _ _ b _ _ h E a)
   ·obtain ⟨p,h⟩:=ae h;obtain ⟨q,s,h⟩:=aW h;refine bK a 1 [(5,oT (aB q))] (kp [1,2,6,17,18,19,53]) fK 307 (pc o1 (pc p (pc (jA _ _ _ s) pn))) <| dr 0 53 h (fun t h=>?_) (fun t h=>?_)
    ·refine dV a 1 iI (kq [1]) 371 (pc o1 pn) ?_;cases h;exact mh a 0 Tryz.f207 [] iI [(16,.var 1 [.ak,rh (cU .u16) 0 ([]:List Int),.ak,rh (cU .u16) 0 ([]:List Int)])] 371 (pc (Eq.refl 0) (pc (Eq.refl 0) pn)) [16] (pc o1 pn)
    ·exact cY a 2 Ld fK 3 (Ce N _ _ _ b _ _ h E a)
  ·refine dV a 2 iI (kq [1]) 83 (pc o1 (pc o1 pn)) ?_;cases h;exact mh a 0 Tryz.f207 [] iI [(16,.ak 1)] 83 pn [16] (pc o1 pn)
theorem P7 (N c r) (h:xz N c=some r):Sd 207 [(VO c)] [] 0 (Xg r) []:=by
 unfold xz at h;refine sO Tryz.f207 57 fun E a=>?_;refine ax a 1 (kp [1,2]) jt 64 ?_;obtain ⟨b,d,h⟩:=aW h;refine bK a 2 [(1,oT (aI b))] (kp [1,2,5]) jt 112 (pc o1 (pc (tj _ _ _ d) pn)) <| ax a 1 (kp [1,2,5,12]) jt 144 <| dr 0 12 h (fun e h=>?_) (fun e h=>?_)
 ·refine dV a 1 iI (kq [16]) 224 (pc o1 pn) ?_;cases h;exact mh a 0 Tryz.f207 [] iI [(16,.var 16 [.ak,rh (cU .u16) 0 ([]:List Int),.ak,rh (cU .u16) 0 ([]:List Int)])] 224 (pc (Eq.refl 0) (pc (Eq.refl 0) pn)) [16] (pc o1 pn)
 ·obtain ⟨f,g,h⟩:=aW h;refine bK a 2 [(0,oT (aj f))] (kp [1,2,6]) (kq [0,16,160]) 192 (pc (eV _ _ _ g) (pc o1 pn)) <| dV a 2 Ld (kq [0,16,160]) 256 (pc o1 pn) <| cY a 2 Ld (kq [0] ++ [(1,.ak 16),(2,.ak 160)]) 3 (Lm N _ N _ _ _ h E a)
noncomputable abbrev afS:=bt Tryz.f144
def yk (N:Nat) (l:List af) (a:az) (K:ab->Int->Option (ab×Bool)):Prop:=∀ (sum:ab) (x:Int) (r:ab×Bool),K sum x=some r->∀ E,ba E 0->aK Tryz.prog E 144 49 (bd E [] (N7 r)) [.code (afS 116),.inLoop (afS 116),.inBlock 0,.code (afS 15)] ⟨[(3,(.op 0 0 0)),(4,(.op 1 0 0)),(6,(.op 2 0 0)),(14,(oW l)),(15,(Dr l)),(16,(aI x))],[(0,vO 8 (az.cells a)),(1,vO 4 [(aB false),.nil,(aB false),.nil]),(tS sum)],3⟩
def Hq (N:Nat) (l:List af) (b:az) (x:Int) (K:ab->Option (ab×Bool)):Prop:=∀ (a:ab) (r:ab×Bool),K a=some r->∀ E,ba E 0->aK Tryz.prog E 144 49 (bd E [] (N7 r)) [.code (afS 935),.inLoop (afS 116),.inBlock 0,.code (afS 15)] ⟨[(3,(.op 0 0 0)),(4,(.op 1 0 0)),(6,(.op 2 0 0)),(14,(oW l)),(15,(Dr l)),(16,(aI x))],[(0,vO 8 (az.cells b)),(1,vO 4 [(aB false),.nil,(aB false),.nil]),(tS a)],3⟩
theorem xO (N:Nat) (l:List af) (a:az) (x:Int) (c:ab->Int->Option (ab×Bool)) (d:yk N l a c):Hq N l a x (jh N l a x c):=by
 intro e r h E b;unfold jh at h;refine ax b 0 Lg fK 35 <| cY b 1 Lg fK 3 (d _ _ _ h E b)
theorem Gh (N l b fuel):yk N l b (dE N l b fuel):=by
 induction fuel with
 | zero=>intro _ _ r h;rw [dE.eq_1] at h;cases h
 | succ fuel d =>
  intro sum x r h E a;rw [dE.eq_2] at h;refine ax a 1 (kp [3,4,6,14,15,16,17]) fK 19 <| dr 1 17 h (fun e h=>?_) (fun e h=>?_)
  ·obtain ⟨c,h⟩:=ae h;refine dV a 4 (kp [3,4,6,8,14,15,16]) SG 83 (pc c (pc o1 pn)) ?_;obtain ⟨f,g,h⟩:=aW h;obtain ⟨i,j,h⟩:=aW h;obtain ⟨k,m,h⟩:=aW h;refine bK a 1 [(6,oT (aj f)),(7,oT (aj i)),(8,oT (aj k))] (kp [3,4,6,8,9,14,15,16]) (kq [0,1,2,51,227]) 259 (pc o1 (pc o1 (pc o1 (pc (an _ _ _ g) (pc (bN _ _ _ _ j) (pc (bF _ _ _ _ m) (pc o1 pn))))))) ?_;obtain ⟨dL,n,h⟩:=aW h;refine bK a 2 [(1,oT (aI dL))] (kp [3,4,6,8,9,14,15,16,31]) (kq [0,1,2,51,227]) 307 (pc o1 (pc (eM _ _ _ n) pn)) <| dr 0 31 h (fun o h=>?_) (fun o h=>?_)
   ·exact cY a 1 Lg fK 3 (xO N _ _ _ _ d _ _ h E a)
   ·obtain ⟨p,q,h⟩:=aW h;refine bK a 2 [(2,oT (Xg p))] (kp [3,4,6,9,10,11,14,15,16]) (kq [0,1,2,227,419]) 483 (pc o1 (pc (P7 _ _ _ q) (pc o1 pn))) <| ax a 2 (kp [3,4,6,9,10,14,15,16,40]) (kq [0,1,2,227,419]) 515 <| dr 0 40 h (fun s h=>?_) (fun s h=>?_)
    ·refine dV a 1 (kp [4,5]) (kq [1]) 563 (pc o1 pn) ?_;cases h;exact mh a 0 Tryz.f144 [] (kp [4,5]) [(16,.var 1 [.ak,rh (cU .u16) 0 ([]:List Int),.ak,rh (cU .u16) 0 ([]:List Int)])] 563 (pc (Eq.refl 0) (pc (Eq.refl 0) pn)) [16] (pc o1 pn)
    ·obtain ⟨t,u,h⟩:=aW h;obtain ⟨v,w,h⟩:=aW h;refine bK a 1 [(3,oT (aj t)),(4,oT (aj v))] Lg fK 611 (pc o1 (pc o1 (pc o1 (pc (bN _ _ _ _ u) (pc (bF _ _ _ _ w) (pc o1 pn)))))) <| cY a 1 Lg fK 3 (xO N _ _ _ _ d _ _ h E a)
  ·refine dV a 2 (kp [4,5]) (kq [1]) 67 (pc o1 (pc o1 pn)) ?_;cases h;exact mh a 0 Tryz.f144 [] (kp [4,5]) [(16,.ak 1)] 67 pn [16] (pc o1 pn)
theorem JS (N l b r) (h:uk N l b=some r):Sd 144 [(oW l),(VP b)] [] 0 (N7 r) []:=by
 unfold uk at h;refine sO Tryz.f144 49 fun E a=>?_;refine ax a 1 B4 jt 48 ?_;obtain ⟨c,d,h⟩:=aW h;refine bK a 1 [(0,oT (aj c))] (kp [0,3,4,6]) (kq [0,16,64]) 96 (pc (an _ _ _ d) (pc o1 pn)) <| ax a 2 Lg (kq [0,16,64]) 144 <| cY a 2 Lg (kq [0] ++ [(1,.ak 16),(2,.ak 64)]) 3 (Gh N _ _ N _ _ _ h E a)
theorem IS (N weight b c r) (h:tc N weight b c=some r):Sd 145 [(aI weight),(aj b),(VP c)] [] 0 (aj r) []:=by
 unfold tc at h;refine sO Tryz.f145 17 fun E a=>?_;refine ax a 1 (kp [0,4,5,6]) fU 48 ?_;obtain ⟨d,e,h⟩:=aW h;obtain ⟨f,g,h⟩:=aW h;obtain ⟨i,j,h⟩:=aW h;obtain ⟨k,l,h⟩:=aW h;refine bK a 1 [(1,oT (aj d)),(7,oT (aj f)),(8,oT (aj i)),(9,oT (aj k))] (kp [6]) (kq [32]) 224 (pc (an _ _ _ e) (pc o1 (pc o1 (pc o1 (pc (bN _ _ _ _ g) (pc (bF _ _ _ _ j) (pc (bN _ _ _ _ l) (pc o1 pn)))))))) ?_;obtain rfl:=jS h;exact mh a 0 Tryz.f145 [] (kp [6]) [(16,.ak 32)] 224 pn [16] (pc o1 pn)
theorem sX (N b e r) (h:kA N b e=some r):Sd 70 [(zM b),(VP e)] [] 0 (aB r) []:=by
 unfold kA at h;refine sO Tryz.f70 26 fun E d=>?_;refine ax d 1 (kp [2,3]) jt 48 ?_;obtain ⟨c,f,h⟩:=aW h;refine bK d 1 [(3,oT (N7 c))] (kp [2,3,5,6]) (kq [0,16,160]) 208 (pc o1 (pc o1 (pc (JS _ _ _ _ f) (pc o1 pn)))) ?_;obtain ⟨g,i,h⟩:=aW h;obtain ⟨j,k,h⟩:=aW h;refine bK d 1 [(8,oT (aj g)),(9,oT (aI j))] (kp [4]) [] 416 (pc (fun a:c.2=true=>(pc o1 pn)) (pc (fun a:c.2=true=>(pc a (pc o1 pn))) (pc (fun a:c.2=true=>(pc a (pc o1 pn))) (pc (fun a:c.2=true=>(pc o1 pn)) (pc (fun a:c.2=true=>(pc (IS _ _ _ _ _ (aN i a)) (pc a (pc a (pc a pn))))) (pc (fun a:c.2=true=>(pc (jB _ _ _ _ (aN k a)) (pc a (pc a pn)))) (pc (fun a:c.2=true=>(pc a pn)) (pc (fun hq:c.2=true=>(pc hq pn)) pn)))))))) ?_;cases h;exact iG d 0 Tryz.f70 (kp [4]) [] 416
noncomputable abbrev ZR:=bt Tryz.f260
def Gi (N:Nat) (K:Int->Int->Option (Int)):Prop:=∀ (a:Int) (n:Int) (r:Int),K a n=some r->∀ E,ba E 0->aK Tryz.prog E 260 25 (bd E [] (aI r)) [.code (ZR 28),.code (ZR 29),.code (ZR 15)] ⟨[(0,(wD a)),(2,(aI n))],[],0⟩
def Gj (N:Nat) (K:Int->Int->Option (Int)):Prop:=∀ (a:Int) (b:Int) (r:Int),K a b=some r->∀ E,ba E 0->aK Tryz.prog E 260 25 (bd E [] (aI r)) [.code (ZR 60),.code (ZR 61),.code (ZR 31)] ⟨[(0,(wD a)),(2,(aI b))],[],0⟩
def Gk (N:Nat) (K:Int->Int->Option (Int)):Prop:=∀ (a:Int) (b:Int) (r:Int),K a b=some r->∀ E,ba E 0->aK Tryz.prog E 260 25 (bd E [] (aI r)) [.code (ZR 62),.code (ZR 63)] ⟨[(0,(wD a)),(2,(aI b))],[],0⟩
theorem wM (N):Gk N (p8 N):=by
 intro b d r h E a;unfold p8 at h;obtain ⟨c,h⟩:=ae h;refine dV a 0 (kp [2]) [] 112 (pc c pn) ?_;cases h;exact iG a 0 Tryz.f260 (kp [2]) [] 112
theorem wN (N):Gj N (p9 N):=by
 intro c d r h E a;unfold p9 at h;refine ax a 0 (kp [0,2,14]) [] 32 <| dr 0 14 h (fun b h=>?_) (fun b h=>?_)
 ·refine dV a 1 (kp [0,2]) [] 80 (pc (show (0:Int)<=8 by decide) pn) <| ax a 0 (kp [0,2]) [] 128 <| cY a 1 (kp [0,2]) [] 0 (wM N _ _ _ h E a)
 ·exact cY a 2 (kp [0,2]) [] 0 (wM N _ _ _ h E a)
theorem wO (N):Gi N (qa N):=by
 intro c n r h E a;unfold qa at h;refine ax a 0 (kp [0,2,8]) [] 32 <| dr 0 8 h (fun b h=>?_) (fun b h=>?_)
 ·refine dV a 1 (kp [0,2]) [] 80 (pc (show (0:Int)<=16 by decide) pn) <| ax a 0 (kp [0,2]) [] 128 <| cY a 2 (kp [0,2]) [] 0 (wN N _ _ _ h E a)
 ·exact cY a 3 (kp [0,2]) [] 0 (wN N _ _ _ h E a)
theorem IT (N x r) (h:xB N x=some r):Sd 260 [(wD x)] [] 0 (aI r) []:=by
 unfold xB at h;refine sO Tryz.f260 25 fun E a=>?_;refine ax a 1 (kp [0,2]) [] 16 <| ax a 2 XF [] 48 <| dr 0 4 h (fun b h=>?_) (fun b h=>?_)
 ·refine dV a 1 (kp [0]) [] 96 (pc (show (0:Int)<=32 by decide) pn) <| ax a 0 (kp [0,2]) [] 112 <| cY a 2 (kp [0,2]) [] 0 (wO N _ _ _ h E a)
 ·exact cY a 3 (kp [0,2]) [] 0 (wO N _ _ _ h E a)
theorem Ln (N x r) (h:vF N x=some r):Sd 242 [(wD x)] [] 0 (aI r) []:=by
 unfold vF at h;refine sO Tryz.f242 8 fun E a=>?_;refine ax a 1 (kp [0]) [] 16 <| aK.nQ0 1 ?_
 obtain ⟨b,c,h⟩:=aW h;refine bK a 2 [(1,oT (aI b))] (kp [2]) [] 64 (pc (IT _ _ _ c) pn) ?_;obtain rfl:=jS h;exact iG a 0 Tryz.f242 (kp [2]) [] 64
theorem Cf (N x r) (h:sn N x=some r):Sd 271 [(aI x)] [] 0 (aB r) []:=by
 unfold sn at h;refine sO Tryz.f271 6 fun E a=>?_;refine ax a 1 (kp [0]) [] 16 <| ax a 1 (kp [2]) [] 80 ?_
 cases h;exact iG a 0 Tryz.f271 (kp [2]) [] 80
theorem My (N x y r) (h:tN N x y=some r):Sd 256 [(aI x),(aI y)] [] 0 (aB r) []:=by
 unfold tN at h;refine sO Tryz.f256 17 fun E c=>?_;refine ax c 1 (kp [0,1]) [] 16 ?_;obtain ⟨b,e,h⟩:=aW h;obtain ⟨d,f,h⟩:=aW h;refine bK c 1 [(1,oT (aB b)),(4,oT (aB d))] (kp [4]) [] 224 (pc (Cf _ _ _ e) (pc (fun a:b=true=>(pc (Cf _ _ _ (aN f a)) (pc a pn))) (pc (fun a:b=true=>(pc a pn)) (pc (fun hq:b=true=>(pc hq pn)) (pc (fun a:(!(cond b (!d) false))=true=>(pc a (pc a pn))) (pc (fun hq:(!(cond b (!d) false))=true=>(pc hq pn)) pn)))))) ?_;cases h;exact iG c 0 Tryz.f256 (kp [4]) [] 224
noncomputable abbrev afT:=bt Tryz.f250
def mK (N:Nat) (a:Int) (b:Int) (K:(List Int)->Int->Option nf):Prop:=∀ (c:List Int) (i:Int) (r:(List Int)),K c i=some r->∀ E,ba E 1->aK Tryz.prog E 250 49 (bd E [(0,aO 1 cI 0 r)] (.tup [])) [.code (afT 12),.inLoop (afT 12),.inBlock 0] ⟨[(0,(nF c)),(1,(aI a)),(2,(aI b)),(6,(aI i))],[(qX c)],1⟩
def tW (N:Nat) (a:Int) (b:Int) (i:Int) (K:(List Int)->Int->Option nf):Prop:=∀ (c:List Int) (j:Int) (r:(List Int)),K c j=some r->∀ E,ba E 1->aK Tryz.prog E 250 49 (bd E [(0,aO 1 cI 0 r)] (.tup [])) [.code (afT 804),.inLoop (afT 804),.inBlock 2,.inBlock 1,.code (afT 51),.inLoop (afT 12),.inBlock 0] ⟨[(0,(nF c)),(1,(aI a)),(2,(aI b)),(6,(aI i)),(7,(aI j))],[(qX c)],1⟩
theorem tp (N:Nat) (a:Int) (b:Int) (i:Int) (m:(List Int)->Int->Option nf) (o:mK N a b m) (fuel:Nat):tW N a b i (ca N a b i m fuel):=by
 induction fuel with
 | zero=>intro _ _ r h;rw [ca.eq_1] at h;cases h
 | succ fuel p =>
  intro e j r h E f;rw [ca.eq_2] at h;obtain ⟨c,h⟩:=ae h;obtain ⟨n,h⟩:=ae h;obtain ⟨l,q,h⟩:=aW h;refine bK f 2 [(13,oT (aB l))] (kp [0,1,2,6,7,30]) (kq [0]) 241 (pc (fun d:(decide (j > a))=true=>(pc d (pc d (pc (c d) pn)))) (pc (fun d:(decide (j > a))=true=>(pc d (pc (dR (c d)) pn))) (pc (fun d:(decide (j > a))=true=>(pc d pn)) (pc (fun d:(decide (j > a))=true=>(pc d (pc d (pc (n d) pn)))) (pc (fun d:(decide (j > a))=true=>(pc d (pc (dR (n d)) pn))) (pc (fun d:(decide (j > a))=true=>(pc (My _ _ _ _ (aN q d)) (pc d (pc d pn)))) (pc (fun hq:(decide (j > a))=true=>(pc hq pn)) pn))))))) <| dr 0 30 h (fun s h=>?_) (fun s h=>?_)
  ·obtain ⟨g,h⟩:=ae h;obtain ⟨k,h⟩:=ae h;refine dV f 3 ([(0,.l5 ((ad3 e j).length))] ++ kp [1,2,6,7]) [(0,ri 0 cI 0 (ad3 e j))] 529 (pc g (pc (dR g) (pc k (pc (dR k) (pc k (pc (dR k) (pc g (pc (dR g) (pc (show e.length=(ad3 e j).length from (dI (dI rfl))) (pc (show e.length=(ad3 e j).length from (dI (dI rfl))) (pc (tE cI 0 (e.set j.toNat (e.getD (KO j) 0)) (KO j) (zK e j) (dK cI 0 e j.toNat (e.getD (KO j) 0))) pn))))))))))) <| ax f 1 Si (kq [0]) 577 <| cY f 1 Si (kq [0]) 1 (p _ _ _ h E f)
  ·refine ax f 2 Ar (kq [0]) 289 <| cY f 1 Ar (kq [0]) 1 (o _ _ _ h E f)
theorem tu (N a b fuel):mK N a b (cN N a b fuel):=by
 induction fuel with
 | zero=>intro _ _ r h;rw [cN.eq_1] at h;cases h
 | succ fuel d =>
  intro f i r h E c;rw [cN.eq_2] at h;refine ax c 2 (kp [0,1,2,6,12]) (kq [0]) 49 <| dr 0 12 h (fun e h=>?_) (fun e h=>?_)
  ·refine ax c 4 Si (kq [0]) 81 <| cY c 2 Si (kq [0]) 1 (tp N _ _ _ _ d N _ _ _ h E c)
  ·obtain rfl:=jS h;exact rnF c 1 Tryz.f250 [] [] (kq [0]) 49 pn [] pn
theorem uR (N a b c r) (h:gA N a b c=some r):Sd 250 [(nF c),(aI a),(aI b)] [(qX c)] 1 (.tup []) [(0,aO 1 cI 0 r)]:=by
 unfold gA at h;refine sO Tryz.f250 49 fun E d=>?_;refine ax d 1 Ar (kq [0]) 49 <| cY d 2 Ar (kq [0]) 1 (tu N _ _ N _ _ _ h E d)
noncomputable abbrev asC:=bt Tryz.f241
def xP (N:Nat) (a:Int) (b:Int) (d:Int) (c:List Int) (K:Option nf):Prop:=∀ (r:(List Int)),K=some r->∀ E,ba E 1->aK Tryz.prog E 241 134 (bd E [(0,aO 1 cI 0 r)] (.tup [])) [.code (asC 28),.inLoop (asC 28),.inBlock 0] ⟨[(0,(nF c)),(1,(aI a)),(2,(aI b)),(3,(aI d)),(8,(aB true)),(9,(aB true))],[(qX c)],1⟩
theorem wW (N a b e f fuel):xP N a b e f (iA N a b e f fuel):=by
 induction fuel with
 | zero=>intro r h;rw [iA.eq_1] at h;cases h
 | succ fuel m =>
  intro r h E d;rw [iA.eq_2] at h;refine ax d 2 (kp [0,1,2,3,8,9,10]) (kq [0]) 65 <| ax d 2 (kp [0,1,2,3,8,9,10,23]) (kq [0]) 97 <| dr 0 23 h (fun g h=>?_) (fun g h=>?_)
  ·obtain ⟨i,j,h⟩:=aW h;obtain ⟨c,h⟩:=ae h;refine bK d 1 [(3,⟨[0],false,(.tup []),[(0,aO 1 cI 0 i)],0,false,none⟩)] [] (kq [0]) 161 (pc (uR _ _ _ _ _ j) pn) ?_;obtain rfl:=jS h;exact iG d 0 Tryz.f241 [] (kq [0]) 161
  ·refine ax d 3 (kp [0,1,2,3,8,9,10,29]) (kq [0]) 129 <| dr 0 29 h (fun k h=>?_) (fun k h=>?_)
   ·cases h
   ·refine ax d 3 (kp [0,1,2,3,8,9,10,35]) (kq [0]) 161 <| dr 0 35 h (fun l h=>?_) (fun l h=>?_)
    ·cases h
    ·cases h
theorem yO (N a b e d r) (h:kN N a b e d=some r):Sd 241 [(nF d),(aI a),(aI b),(aI e)] [(qX d)] 1 (.tup []) [(0,aO 1 cI 0 r)]:=by
 unfold kN at h;refine sO Tryz.f241 134 fun E c=>?_;refine ax c 1 Sg (kq [0]) 17 <| ax c 1 Oq (kq [0]) 33 <| cY c 2 Oq (kq [0]) 1 (wW N _ _ _ _ N _ h E c)
theorem DJ (N a r) (h:lZ N a=some r):Sd 221 [(nF a)] [(qX a)] 1 (.tup []) [(0,aO 1 cI 0 r)]:=by
 unfold lZ at h;refine sO Tryz.f221 11 fun E b=>?_;refine ax b 1 (kp [0,2]) (kq [0]) 49 ?_;obtain ⟨d,e,h⟩:=aW h;obtain ⟨f,g,h⟩:=aW h;obtain ⟨c,h⟩:=ae h;refine bK b 0 [(4,oT (aI d)),(5,⟨[0],false,(.tup []),[(0,aO 1 cI 0 f)],0,false,none⟩)] [] (kq [0]) 145 (pc (Ln _ _ _ e) (pc (yO _ _ _ _ _ _ g) pn)) ?_;obtain rfl:=jS h;exact rnF b 0 Tryz.f221 [] [] (kq [0]) 145 pn [] pn
noncomputable abbrev Lo:=bt Tryz.f222
def mL (N:Nat) (a:List Int) (K:Int->Option EB):Prop:=∀ (k:Int) (r:(List Int)×(List Int)),K k=some r->∀ E,ba E 1->aK Tryz.prog E 222 61 (bd E [(0,aO 1 cI 0 r.2)] (.os 0 0 r.2.length)) [.code (Lo 116),.inLoop (Lo 116),.inBlock 0,.code (Lo 15)] ⟨[(0,(nF a)),(3,(aI k))],[(qX a)],1⟩
def rF (N:Nat) (d:List Int) (k:Int) (K:(List Int)->Int->Int->Option EB):Prop:=∀ (a:List Int) (b:Int) (c:Int) (r:(List Int)×(List Int)),K a b c=some r->∀ E,ba E 1->aK Tryz.prog E 222 61 (bd E [(0,aO 1 cI 0 r.2)] (.os 0 0 r.2.length)) [.code (Lo 119380),.inLoop (Lo 119380),.inBlock 2,.code (Lo 14923),.inBlock 1,.code (Lo 467),.inLoop (Lo 116),.inBlock 0,.code (Lo 15)] ⟨[(0,(nF a)),(3,(aI b)),(4,(.os 0 k.toNat (d.length - k.toNat))),(5,(aI c))],[(qX a)],1⟩
def zT (N:Nat) (c:List Int) (k:Int) (d:Int) (K:(List Int)->Int->Option EB):Prop:=∀ (a:List Int) (b:Int) (r:(List Int)×(List Int)),K a b=some r->∀ E,ba E 1->aK Tryz.prog E 222 61 (bd E [(0,aO 1 cI 0 r.2)] (.os 0 0 r.2.length)) [.code (Lo 477523),.inLoop (Lo 119380),.inBlock 2,.code (Lo 14923),.inBlock 1,.code (Lo 467),.inLoop (Lo 116),.inBlock 0,.code (Lo 15)] ⟨[(0,(nF a)),(3,(aI b)),(4,(.os 0 k.toNat (c.length - k.toNat))),(5,(aI d))],[(qX a)],1⟩
theorem q7 (N:Nat) (a:List Int) (k:Int) (c:Int) (d:(List Int)->Int->Int->Option EB) (e:Int->Option EB) (f:rF N a k d) (g:mL N a e):zT N a k c (hO N a k c d e):=by
 intro i j r h E b;unfold hO at h;refine ax b 0 La (kq [0]) 49 <| cY b 1 La (kq [0]) 1 (f _ _ _ _ h E b)
theorem yQ (N:Nat) (f:List Int) (k:Int) (l:Int->Option EB) (m:mL N f l) (fuel:Nat):rF N f k (b6 N f k l fuel):=by
 induction fuel with
 | zero=>intro _ _ _ r h;rw [b6.eq_1] at h;cases h
 | succ fuel n =>
  intro a b d r h E c;rw [b6.eq_2] at h;refine ax c 2 (kp [0,3,4,5,32]) (kq [0]) 65 <| dr 0 32 h (fun u h=>?_) (fun u h=>?_)
  ·obtain ⟨e,h⟩:=ae h;obtain ⟨g,h⟩:=ae h;obtain ⟨o,h⟩:=ae h;refine dV c 4 (kp [0,3,4,5,44]) (kq [0]) 225 (pc e (pc (show (eu k.toNat d.toNat) < a.length by have p:=e;have q:=g;simp only [fw];omega) (pc o (pc (show (eu k.toNat (av (d - 1)).toNat) < a.length by have p:=o;have q:=g;simp only [fw];omega) pn)))) <| dr 0 44 h (fun v h=>?_) (fun v h=>?_)
   ·obtain ⟨s,h⟩:=ae h;refine dV c 1 ([(0,.l5 ((a.set b.toNat (a.getD (eu k.toNat d.toNat) 0)).length))] ++ kp [3,4,5]) [(0,ri 0 cI 0 (a.set b.toNat (a.getD (eu k.toNat d.toNat) 0)))] 353 (pc e (pc (show (eu k.toNat d.toNat) < a.length by have p:=e;have q:=g;simp only [fw];omega) (pc s (pc (dR s) (pc (bm a b.toNat (a.getD (eu k.toNat d.toNat) 0)) (pc (bm a b.toNat (a.getD (eu k.toNat d.toNat) 0)) (pc (dK cI 0 a b.toNat (a.getD (eu k.toNat d.toNat) 0)) pn))))))) <| ax c 0 La (kq [0]) 401 <| cY c 1 La (kq [0]) 1 (q7 N _ _ _ _ _ n m _ _ _ h E c)
   ·exact cY c 2 La (kq [0]) 1 (q7 N _ _ _ _ _ n m _ _ _ h E c)
  ·obtain ⟨w,h⟩:=ae h;obtain ⟨t,h⟩:=ae h;obtain ⟨i,h⟩:=ae h;refine bK c 2 [(3,oF (.qm))] (kp [0,3]) [(0,ri 0 cI 0 (a.take b.toNat))] 129 (pc w (pc t (pc i (pc (show b.toNat=(a.take b.toNat).length from (ND i)) (pc (show ∀ zi,zi < (a.take b.toNat).length->(fun zi=>cI ((a.take b.toNat).getD zi 0)) zi=(fun zi=>cI (a.getD zi 0)) zi from (fun x y=>abA cI 0 a b.toNat x y)) pn))))) ?_;obtain ⟨j,h⟩:=ae h;refine dV c 1 [(2,.l5 ((a.take b.toNat).length))] (kq [0]) 193 (pc j (pc t (pc (show (b.toNat - 0)=(a.take b.toNat).length from (ND i)) pn))) ?_;cases h;exact iG c 0 Tryz.f222 (kp [2]) (kq [0]) 193
theorem yR (N b fuel):mL N b (cz N b fuel):=by
 induction fuel with
 | zero=>intro _ r h;rw [cz.eq_1] at h;cases h
 | succ fuel d =>
  intro k r h E a;rw [cz.eq_2] at h;refine ax a 2 (kp [0,3,13]) (kq [0]) 65 <| dr 0 13 h (fun f h=>?_) (fun f h=>?_)
  ·obtain ⟨c,h⟩:=ae h;obtain ⟨e,h⟩:=ae h;refine dV a 4 (kp [0,3,25]) (kq [0]) 225 (pc c (pc (dR c) (pc e (pc (dR e) pn)))) <| dr 0 25 h (fun g h=>?_) (fun g h=>?_)
   ·obtain ⟨i,h⟩:=ae h;obtain ⟨j,h⟩:=ae h;refine dV a 1 B4 (kq [0]) 289 (pc i (pc j pn)) <| ax a 2 La (kq [0]) 305 <| cY a 2 La (kq [0]) 1 (yQ N _ _ _ d N _ _ _ _ h E a)
   ·refine ax a 2 (kp [0,3]) (kq [0]) 273 <| cY a 1 (kp [0,3]) (kq [0]) 1 (d _ _ h E a)
  ·refine ax a 2 (kp [2]) (kq [0]) 97 ?_;cases h;exact iG a 0 Tryz.f222 (kp [2]) (kq [0]) 97
theorem Bg (N b r) (h:j9 N b=some r):Sd 222 [(nF b)] [(qX b)] 1 (.os 0 0 r.2.length) [(0,aO 1 cI 0 r.2)]:=by
 unfold j9 at h;refine sO Tryz.f222 61 fun E a=>?_;refine ax a 1 (kp [0]) (kq [0]) 17 <| ax a 2 (kp [0,8]) (kq [0]) 65 <| dr 0 8 h (fun c h=>?_) (fun c h=>?_)
 ·refine ax a 1 (kp [2]) (kq [0]) 97 ?_;cases h;exact iG a 0 Tryz.f222 (kp [2]) (kq [0]) 97
 ·refine ax a 3 (kp [0,3]) (kq [0]) 81 <| cY a 2 (kp [0,3]) (kq [0]) 1 (yR N _ N _ _ h E a)
noncomputable abbrev aqb:=bt Tryz.f191
def Gl (N:Nat) (l:List af) (K:(List Int)->Int->Option nf):Prop:=∀ (out:List Int) (x:Int) (r:(List Int)),K out x=some r->∀ E,ba E 0->aK Tryz.prog E 191 22 (bd E [] (cA cI 0 r)) [.code (aqb 116),.inLoop (aqb 116),.inBlock 0,.code (aqb 15)] ⟨[(3,(nF out)),(6,(oW l)),(7,(Dr l)),(8,(aI x))],[(qX out)],1⟩
theorem ET (N l fuel):Gl N l (iL N l fuel):=by
 induction fuel with
 | zero=>intro _ _ r h;rw [iL.eq_1] at h;cases h
 | succ fuel e =>
  intro out x r h E a;rw [iL.eq_2] at h;refine ax a 1 (kp [3,6,7,8,9]) (kq [0]) 17 <| dr 1 9 h (fun f h=>?_) (fun f h=>?_)
  ·obtain ⟨c,h⟩:=ae h;refine dV a 4 (kp [3,5,6,7,8]) (kq [0,49]) 81 (pc c (pc o1 pn)) ?_;obtain ⟨g,h⟩:=ae h;refine dV a 0 ([(3,.l5 ((out ++ (R3 l x)).length))] ++ kp [6,7,8]) [(145,ri 145 cI 0 (out ++ (R3 l x)))] 177 (pc o1 (pc (Eq.refl out.length) (pc g (pc (z1 1) (pc (oN [[(aI ((NU l x).z9))]]) (pc (bL out (R3 l x)) (pc (bL out (R3 l x)) (pc (LR cI 0 out (R3 l x)) pn)))))))) <| ax a 1 (kp [3,6,7,8]) (kq [145]) 209 <| cY a 1 (kp [3,6,7,8]) [(0,.ak 145)] 1 (e _ _ _ h E a)
  ·obtain ⟨d,i,h⟩:=aW h;obtain ⟨j,h⟩:=ae h;refine bK a 2 [(1,⟨[0],false,(.tup []),[(0,aO 1 cI 0 d)],0,false,none⟩)] [(3,.l5 (d.length))] (kq [0]) 49 (pc (DJ _ _ _ i) (pc (show out.length=d.length from (Eq.symm j)) pn)) ?_;obtain ⟨b,k,h⟩:=aW h;refine bK a 1 [(1,⟨[0],false,(.os 0 0 b.2.length),[(0,aO 1 cI 0 b.2)],0,false,none⟩)] (kp [2]) (kq [0]) 97 (pc (Bg _ _ _ k) pn) ?_;cases h;exact mh a 0 Tryz.f191 [0] [(2,rh cI 0 b.2)] [] 97 (pc (Eq.refl b.2.length) (pc (z1 b.2.length) (pc (eZ cI 0 b.2) pn))) [] pn
theorem zU (N l r) (h:qc N l=some r):Sd 191 [(oW l)] [] 0 (cA cI 0 r) []:=by
 unfold qc at h;refine sO Tryz.f191 22 fun E a=>?_;refine ax a 1 (kp [0]) [] 16 <| ax a 1 (kp [0,3]) [] 32 <| ax a 2 (kp [3,6,7,8]) [] 80 <| cY a 2 ([(3,.tD 0)] ++ kp [6,7,8]) [(0,.nil 1 Om)] 1 (ET N _ N _ _ _ h E a)
noncomputable abbrev afU:=bt Tryz.f133
def EU (N:Nat) (l:List af) (a:(List Int)) (K:K0->Int->Option (K0)):Prop:=∀ (out:List az) (x:Int) (r:K0),K out x=some r->∀ E,ba E 0->aK Tryz.prog E 133 40 (bd E [(R2 r)] (.os 0 0 r.length)) [.code (afU 116),.inLoop (afU 116),.inBlock 0,.code (afU 15)] ⟨[(acd l),(3,(.os 0 0 out.length)),(9,(cA cI 0 a)),(10,(aI (a.length:Int))),(11,(aI x))],[(0,aO 8 az.cells az.d out)],1⟩
def EV (N:Nat) (b:(List Int)) (K:K0->Int->Option (K0)):Prop:=∀ (a:List az) (c:Int) (r:K0),K a c=some r->∀ E,ba E 0->aK Tryz.prog E 133 40 (bd E [(R2 r)] (.os 0 0 r.length)) [.code (afU 244),.inLoop (afU 244),.inBlock 2,.code (afU 31)] ⟨[(3,(.os 0 0 a.length)),(25,(cA cI 0 b)),(26,(aI (b.length:Int))),(27,(aI c))],[(0,aO 8 az.cells az.d a)],1⟩
theorem DK (N e fuel):EV N e (ik N e fuel):=by
 induction fuel with
 | zero=>intro _ _ r h;rw [ik.eq_1] at h;cases h
 | succ fuel f =>
  intro d m r h E c;rw [ik.eq_2] at h;refine ax c 1 (kp [3,25,26,27,28]) (kq [0]) 17 <| dr 1 28 h (fun g h=>?_) (fun g h=>?_)
  ·obtain ⟨i,h⟩:=ae h;refine dV c 4 (kp [3,7,25,26,27]) (kq [0]) 65 (pc i pn) ?_;obtain ⟨a,j,h⟩:=aW h;obtain ⟨b,k,h⟩:=aW h;obtain ⟨l,h⟩:=ae h;refine bK c 0 [(2,oT (aj a)),(3,oT (aj b))] ([(3,.l5 ((ad0 d a b).length))] ++ kp [25,26,27]) [(161,ri 161 az.cells az.d (ad0 d a b))] 193 (pc (an _ _ _ j) (pc (an _ _ _ k) (pc (Eq.refl d.length) (pc l (pc (z1 1) (pc (oN [[(kU a),(kW a),(kT a),(kV a),(kU b),(kW b),(kT b),(kV b)]]) (pc (bL d (Og a b)) (pc (bL d (Og a b)) (pc (LR az.cells az.d d (Og a b)) pn))))))))) <| ax c 1 XT (kq [161]) 225 <| cY c 1 XT [(0,.ak 161)] 1 (f _ _ _ h E c)
  ·refine ax c 2 (kp [2]) (kq [0]) 49 ?_;obtain rfl:=jS h;exact iG c 0 Tryz.f133 (kp [2]) (kq [0]) 49
theorem DL (N l e fuel):EU N l e (il N l e fuel):=by
 induction fuel with
 | zero=>intro _ _ r h;rw [il.eq_1] at h;cases h
 | succ fuel f =>
  intro out x r h E d;rw [il.eq_2] at h;refine ax d 1 (kp [0,3,9,10,11,12]) (kq [0]) 17 <| dr 1 12 h (fun g h=>?_) (fun g h=>?_)
  ·obtain ⟨c,h⟩:=ae h;refine dV d 4 (kp [0,3,5,9,10,11]) (kq [0]) 65 (pc c pn) ?_;obtain ⟨a,i,h⟩:=aW h;obtain ⟨b,j,h⟩:=aW h;obtain ⟨k,h⟩:=ae h;refine bK d 0 [(3,oT (aj a)),(4,oT (aj b))] (kp [0] ++ [(3,.l5 ((ad0 out a b).length))] ++ kp [9,10,11]) [(177,ri 177 az.cells az.d (ad0 out a b))] 209 (pc (an _ _ _ i) (pc (an _ _ _ j) (pc (Eq.refl out.length) (pc k (pc (z1 1) (pc (oN [[(kU a),(kW a),(kT a),(kV a),(kU b),(kW b),(kT b),(kV b)]]) (pc (bL out (Og a b)) (pc (bL out (Og a b)) (pc (LR az.cells az.d out (Og a b)) pn))))))))) <| ax d 1 XH (kq [177]) 241 <| cY d 1 XH [(0,.ak 177)] 1 (f _ _ _ h E d)
  ·obtain ⟨m,n,h⟩:=aW h;refine bK d 3 [(1,oT (cA cI 0 m))] XT (kq [0]) 81 (pc (zU _ _ _ n) pn) <| cY d 2 XT (kq [0]) 1 (DK N _ N _ _ _ h E d)
theorem ym (N l r) (h:oS N l=some r):Sd 133 [(oW l)] [] 0 (.os 0 0 r.length) [(R2 r)]:=by
 unfold oS at h;refine sO Tryz.f133 40 fun E a=>?_;refine ax a 1 (kp [0]) [] 16 <| ax a 1 (kp [0,3]) [] 32 ?_
 obtain ⟨b,c,h⟩:=aW h;refine bK a 2 [(1,oT (cA cI 0 b))] XH [] 96 (pc (zU _ _ _ c) pn) <| cY a 2 (kp [0] ++ [(3,.tD 0)] ++ kp [9,10,11]) [(0,.nil 8 (fun zi=>az.cells (([]:List az).getD zi az.d)))] 1 (DL N _ _ N _ _ _ h E a)
noncomputable abbrev aqc:=bt Tryz.f66
def EW (N:Nat) (b:cW) (a:K0) (K:Int->Option (az×Int)):Prop:=∀ (x:Int) (r:az×Int),K x=some r->∀ E,ba E 0->aK Tryz.prog E 66 28 (bd E [] (Xi r)) [.code (aqc 116),.inLoop (aqc 116),.inBlock 0,.code (aqc 15)] ⟨[(1,(.op 0 0 0)),(2,(.op 1 0 0)),(16,(.os 2 0 a.length)),(17,(aI (a.length:Int))),(18,(aI x))],[(uP b),(1,vO 8 [(aB false),.nil,(aB false),.nil,(aB false),.nil,(aB false),.nil]),(2,aO 8 az.cells az.d a)],3⟩
theorem DM (N b d fuel):EW N b d (fC N b d fuel):=by
 induction fuel with
 | zero=>intro _ r h;rw [fC.eq_1] at h;cases h
 | succ fuel e =>
  intro x r h E a;rw [fC.eq_2] at h;refine ax a 1 (kp [1,2,16,17,18,19]) fK 19 <| dr 1 19 h (fun f h=>?_) (fun f h=>?_)
  ·obtain ⟨c,h⟩:=ae h;refine dV a 4 (kp [1,2,6,16,17,18]) SG 83 (pc c (pc (dR c) (pc o1 pn))) ?_;obtain ⟨g,i,h⟩:=aW h;refine bK a 1 [(2,oT (aB g))] (kp [1,2,6,16,17,18,24]) SG 131 (pc o1 (pc o1 (pc (sX _ _ _ _ i) pn))) <| dr 0 24 h (fun j h=>?_) (fun j h=>?_)
   ·refine dV a 1 (kp [2,3]) (kq [1]) 179 (pc o1 (pc o1 pn)) ?_;cases h;exact mh a 0 Tryz.f66 [] (kp [2,3]) [(16,.ak 1)] 179 pn [16] (pc o1 pn)
   ·refine ax a 2 XL fK 163 <| cY a 1 XL fK 3 (e _ _ h E a)
  ·refine dV a 2 (kp [2,3]) (kq [1]) 67 (pc o1 pn) ?_;cases h;exact mh a 0 Tryz.f66 [] (kp [2,3]) [(16,.var 1 [.ak,rh (cU .u16) 0 ([]:List Int),.ak,rh (cU .u16) 0 ([]:List Int),.ak,rh (cU .u16) 0 ([]:List Int),.ak,rh (cU .u16) 0 ([]:List Int)])] 67 (pc (Eq.refl 0) (pc (Eq.refl 0) (pc (Eq.refl 0) (pc (Eq.refl 0) pn)))) [16] (pc o1 pn)
theorem yn (N b r) (h:oU N b=some r):Sd 66 [(zM b)] [] 0 (Xi r) []:=by
 unfold oU at h;refine sO Tryz.f66 28 fun E a=>?_;refine ax a 1 (kp [1,2]) jt 48 ?_;obtain ⟨d,e,h⟩:=aW h;obtain ⟨f,g,h⟩:=aW h;refine bK a 2 [(0,oT (aj d)),(1,oT (aj f))] (kp [1,2,4]) (kq [0,16,96]) 128 (pc (an _ _ _ e) (pc (an _ _ _ g) (pc o1 pn))) ?_;obtain ⟨i,j,h⟩:=aW h;refine bK a 1 [(2,oT (aB i))] (kp [1,2,4,12]) (kq [0,16,96]) 176 (pc o1 (pc o1 (pc (sX _ _ _ _ j) pn))) <| dr 0 12 h (fun k h=>?_) (fun k h=>?_)
 ·refine dV a 1 (kp [2,3]) (kq [16]) 224 (pc o1 (pc o1 pn)) ?_;cases h;exact mh a 0 Tryz.f66 [] (kp [2,3]) (kq [16]) 224 pn [16] (pc o1 pn)
 ·obtain ⟨c,l,h⟩:=aW h;refine bK a 3 [(2,⟨[],true,(.os 0 0 c.length),[(R2 c)],0,false,none⟩)] XL (kq [0,16,208]) 256 (pc o1 (pc (ym _ _ _ l) pn)) <| cY a 2 XL (kq [0] ++ [(1,.ak 16),(2,.ak 208)]) 3 (DM N _ _ N _ _ h E a)
theorem pf (N a b r) (h:eF N a b=some r):Sd 226 [(.agg (aa.cells a)),(.agg (aa.cells b))] [] 0 (aI r) []:=by
 unfold eF at h;refine sO Tryz.f226 10 fun E c=>?_;refine ax c 1 (kp [2,3]) jt 48 ?_;obtain ⟨d,e,h⟩:=aW h;refine bK c 1 [(4,oT (aI d))] (kp [4]) [] 144 (pc o1 (pc o1 (pc (jB _ _ _ _ e) pn))) ?_;obtain rfl:=jS h;exact iG c 0 Tryz.f226 (kp [4]) [] 144
noncomputable abbrev afV:=bt Tryz.f261
def mf (N:Nat) (a:Int) (b:Int) (K:eB->Int->Option po):Prop:=∀ (c:List aa) (i:Int) (r:eB),K c i=some r->∀ E,ba E 1->aK Tryz.prog E 261 53 (bd E [(ic r)] (.tup [])) [.code (afV 12),.inLoop (afV 12),.inBlock 0] ⟨[(0,(px c)),(1,(aI a)),(2,(aI b)),(3,(.fn (.func 226) [] [])),(8,(aI i))],[(kR c)],1⟩
def tv (N:Nat) (a:Int) (b:Int) (i:Int) (K:eB->Int->Option po):Prop:=∀ (c:List aa) (j:Int) (r:eB),K c j=some r->∀ E,ba E 1->aK Tryz.prog E 261 53 (bd E [(ic r)] (.tup [])) [.code (afV 804),.inLoop (afV 804),.inBlock 2,.inBlock 1,.code (afV 51),.inLoop (afV 12),.inBlock 0] ⟨[(0,(px c)),(1,(aI a)),(2,(aI b)),(3,(.fn (.func 226) [] [])),(8,(aI i)),(9,(aI j))],[(kR c)],1⟩
theorem sY (N:Nat) (a:Int) (b:Int) (i:Int) (l:eB->Int->Option po) (n:mf N a b l) (fuel:Nat):tv N a b i (bJ N a b i l fuel):=by
 induction fuel with
 | zero=>intro _ _ r h;rw [bJ.eq_1] at h;cases h
 | succ fuel o =>
  intro e j r h E f;rw [bJ.eq_2] at h;obtain ⟨c,h⟩:=ae h;obtain ⟨m,h⟩:=ae h;obtain ⟨p,q,h⟩:=aW h;refine bK f 2 [(14,oT (aI p))] (kp [0,1,2,3,8,9,34]) (kq [0]) 273 (pc (fun d:(decide (j > a))=true=>(pc d (pc d (pc (c d) pn)))) (pc (fun d:(decide (j > a))=true=>(pc d (pc (dR (c d)) pn))) (pc (fun d:(decide (j > a))=true=>(pc d pn)) (pc (fun d:(decide (j > a))=true=>(pc d (pc d (pc (m d) pn)))) (pc (fun d:(decide (j > a))=true=>(pc d (pc (dR (m d)) pn))) (pc (fun d:(decide (j > a))=true=>(pc (pf _ _ _ _ (aN q d)) (pc d (pc d (pc d pn))))) (pc (fun d:(decide (j > a))=true=>(pc d pn)) (pc (fun hq:(decide (j > a))=true=>(pc hq pn)) pn)))))))) <| dr 0 34 h (fun s h=>?_) (fun s h=>?_)
  ·obtain ⟨g,h⟩:=ae h;obtain ⟨k,h⟩:=ae h;refine dV f 3 ([(0,.l5 (aou e j))] ++ kp [1,2,3,8,9]) [(aiC e j)] 561 (pc g (pc (dR g) (pc k (pc (dR k) (pc k (pc (dR k) (pc g (pc (dR g) (pc (show e.length=(ad5 e j).length from (dI (dI rfl))) (pc (show e.length=(ad5 e j).length from (dI (dI rfl))) (pc (tE aa.cells aa.d (aor e j) (KO j) (acO e j) (dK aa.cells aa.d e j.toNat (ajg e j))) pn))))))))))) <| ax f 1 Oq (kq [0]) 609 <| cY f 1 Oq (kq [0]) 1 (o _ _ _ h E f)
  ·refine ax f 2 Sg (kq [0]) 321 <| cY f 1 Sg (kq [0]) 1 (n _ _ _ h E f)
theorem s5 (N a b fuel):mf N a b (b7 N a b fuel):=by
 induction fuel with
 | zero=>intro _ _ r h;rw [b7.eq_1] at h;cases h
 | succ fuel d =>
  intro f i r h E c;rw [b7.eq_2] at h;refine ax c 2 (kp [0,1,2,3,8,14]) (kq [0]) 49 <| dr 0 14 h (fun e h=>?_) (fun e h=>?_)
  ·refine ax c 4 Oq (kq [0]) 81 <| cY c 2 Oq (kq [0]) 1 (sY N _ _ _ _ d N _ _ _ h E c)
  ·obtain rfl:=jS h;exact rnF c 1 Tryz.f261 [] [] (kq [0]) 49 pn [] pn
theorem ni (N a b c r) (h:eI N a b c=some r):Sd 261 [(px c),(aI a),(aI b),(.fn (.func 226) [] [])] [(kR c)] 1 (.tup []) [(ic r)]:=by
 unfold eI at h;refine sO Tryz.f261 53 fun E d=>?_;refine ax d 1 Sg (kq [0]) 49 <| cY d 2 Sg (kq [0]) 1 (s5 N _ _ N _ _ _ h E d)
noncomputable abbrev asD:=bt Tryz.f278
def vb (N:Nat) (a:Int) (b:Int) (n:Int) (K:eB->Int->Option po):Prop:=∀ (c:List aa) (i:Int) (r:eB),K c i=some r->∀ E,ba E 1->aK Tryz.prog E 278 38 (bd E [(ic r)] (.tup [])) [.code (asD 12),.inLoop (asD 12),.inBlock 0] ⟨[(0,(px c)),(1,(aI a)),(2,(aI b)),(3,(aI n)),(10,(aI i))],[(kR c)],1⟩
theorem uS (N a b n fuel):vb N a b n (df N a b n fuel):=by
 induction fuel with
 | zero=>intro _ _ r h;rw [df.eq_1] at h;cases h
 | succ fuel g =>
  intro d i r h E e;rw [df.eq_2] at h;refine ax e 2 (kp [0,1,2,3,10,13]) (kq [0]) 49 <| dr 0 13 h (fun j h=>?_) (fun j h=>?_)
  ·obtain ⟨c,h⟩:=ae h;obtain ⟨f,h⟩:=ae h;refine dV e 3 ([(0,.l5 ((ad6 d a i b).length))] ++ kp [1,2,3,10]) [(0,ri 0 aa.cells aa.d (ad6 d a i b))] 433 (pc c (pc (dR c) (pc f (pc (dR f) (pc f (pc (dR f) (pc c (pc (dR c) (pc (show d.length=(ad6 d a i b).length from (dI (dI rfl))) (pc (show d.length=(ad6 d a i b).length from (dI (dI rfl))) (pc (tE aa.cells aa.d (ait d a i b) (BZ b i) (ajf d a i) (dK aa.cells aa.d d (BZ a i) (ajf d b i))) pn))))))))))) <| ax e 1 Xw (kq [0]) 481 <| cY e 1 Xw (kq [0]) 1 (g _ _ _ h E e)
  ·obtain rfl:=jS h;exact rnF e 1 Tryz.f278 [] [] (kq [0]) 49 pn [] pn
theorem kX (N a b n c r) (h:fW N a b n c=some r):Sd 278 [(px c),(aI a),(aI b),(aI n),(.fn (.func 226) [] [])] [(kR c)] 1 (.tup []) [(ic r)]:=by
 unfold fW at h;refine sO Tryz.f278 38 fun E d=>?_;refine ax d 1 Xw (kq [0]) 17 <| cY d 2 Xw (kq [0]) 1 (uS N _ _ _ N _ _ _ h E d)
noncomputable abbrev aqd:=bt Tryz.f272
def xQ (N:Nat) (m:Int) (K:eB->Int->Int->Option po):Prop:=∀ (a:List aa) (i:Int) (j:Int) (r:eB),K a i j=some r->∀ E,ba E 1->aK Tryz.prog E 272 58 (bd E [(ic r)] (.tup [])) [.code (aqd 56),.inLoop (aqd 56),.inBlock 0,.code (aqd 15)] ⟨[(0,(px a)),(2,(aI m)),(4,(.fn (.func 226) [] [])),(10,(aI i)),(11,(aI j))],[(kR a)],1⟩
theorem wX (N m fuel):xQ N m (cJ N m fuel):=by
 induction fuel with
 | zero=>intro _ _ _ r h;rw [cJ.eq_1] at h;cases h
 | succ fuel e =>
  intro f i j r h E a;rw [cJ.eq_2] at h;refine ax a 2 (kp [0,2,4,10,11,20]) (kq [0]) 49 <| dr 0 20 h (fun g h=>?_) (fun g h=>?_)
  ·refine ax a 3 (kp [0,2,4,10,11,23]) (kq [0]) 97 <| dr 0 23 h (fun k h=>?_) (fun k h=>?_)
   ·obtain ⟨b,l,h⟩:=aW h;obtain ⟨c,h⟩:=ae h;refine bK a 1 [(7,⟨[0],false,(.tup []),[(ic b)],0,false,none⟩)] ([(0,.l5 (b.length))] ++ kp [2,4,10,11]) (kq [0]) 225 (pc (kX _ _ _ _ _ _ l) (pc (show f.length=b.length from (Eq.symm c)) pn)) <| ax a 0 Oy (kq [0]) 289 <| cY a 2 Oy (kq [0]) 1 (e _ _ _ _ h E a)
   ·obtain ⟨d,n,h⟩:=aW h;obtain ⟨o,h⟩:=ae h;refine bK a 1 [(11,⟨[0],false,(.tup []),[(ic d)],0,false,none⟩)] ([(0,.l5 (d.length))] ++ kp [2,4,10,11]) (kq [0]) 289 (pc (kX _ _ _ _ _ _ n) (pc (show f.length=d.length from (Eq.symm o)) pn)) <| ax a 0 Oy (kq [0]) 353 <| cY a 2 Oy (kq [0]) 1 (e _ _ _ _ h E a)
  ·obtain ⟨p,q,h⟩:=aW h;obtain ⟨s,h⟩:=ae h;refine bK a 1 [(7,⟨[0],false,(.tup []),[(ic p)],0,false,none⟩)] [] (kq [0]) 177 (pc (kX _ _ _ _ _ _ q) pn) ?_;obtain rfl:=jS h;exact rnF a 0 Tryz.f272 [] [] (kq [0]) 177 pn [] pn
theorem yS (N a m b d r) (h:eE N a m b d=some r):Sd 272 [(px d),(aI a),(aI m),(aI b),(.fn (.func 226) [] [])] [(kR d)] 1 (.tup []) [(ic r)]:=by
 unfold eE at h;refine sO Tryz.f272 58 fun E c=>?_;refine ax c 1 (kp [0,2,3,4,10]) (kq [0]) 65 <| ax c 1 Oy (kq [0]) 129 <| cY c 3 Oy (kq [0]) 1 (wX N _ N _ _ _ _ h E c)
noncomputable abbrev zV:=bt Tryz.f262
def vV (N:Nat) (a:Int) (b:List aa) (K:Int->Int->Option po):Prop:=∀ (i:Int) (j:Int) (r:eB),K i j=some r->∀ E,ba E 1->aK Tryz.prog E 262 220 (bd E [(ic r)] (.tup [])) [.code (zV 344),.inLoop (zV 344),.inBlock 0,.code (zV 87),.code (zV 3)] ⟨[(0,(px b)),(1,(aI a)),(4,(.fn (.func 226) [] [])),(10,(aI i)),(11,(aI j))],[(kR b)],1⟩
def vW (N:Nat) (i:Int) (K:eB->Int->Option po):Prop:=∀ (a:List aa) (k:Int) (r:eB),K a k=some r->∀ E,ba E 1->aK Tryz.prog E 262 220 (bd E [(ic r)] (.tup [])) [.code (zV 1396),.inLoop (zV 1396),.inBlock 2,.code (zV 175),.code (zV 3)] ⟨[(0,(px a)),(10,(aI i)),(13,(aI k))],[(kR a)],1⟩
theorem vd (N:Nat) (i:Int) (j:Int->Int->Int->eB->Option po)
  (l:∀ (a:Int) (m:Int) (b:Int) (g:List aa) (r:eB),j a m b g=some r->Sd 262 [(px g),(aI a),(aI m),(aI b),(.fn (.func 226) [] [])] [(kR g)] 1 (.tup []) [(ic r)]) (fuel:Nat):vW N i (cm N i j fuel):=by
 induction fuel with
 | zero=>intro _ _ r h;rw [cm.eq_1] at h;cases h
 | succ fuel n =>
  intro c k r h E d;rw [cm.eq_2] at h;refine ax d 2 (kp [0,10,13,58]) (kq [0]) 65 <| dr 0 58 h (fun o h=>?_) (fun o h=>?_)
  ·obtain ⟨e,h⟩:=ae h;obtain ⟨f,h⟩:=ae h;refine dV d 3 ([(0,.l5 ((ad4 c k).length))] ++ kp [10,13]) [(0,ri 0 aa.cells aa.d (ad4 c k))] 353 (pc e (pc (dR e) (pc f (pc (dR f) (pc f (pc (dR f) (pc e (pc (dR e) (pc (show c.length=(ad4 c k).length from (dI (dI rfl))) (pc (show c.length=(ad4 c k).length from (dI (dI rfl))) (pc (tE aa.cells aa.d (aip c k) (KN k) (acO c k) (dK aa.cells aa.d c k.toNat (aio c k))) pn))))))))))) <| ax d 1 XC (kq [0]) 401 <| cY d 1 XC (kq [0]) 1 (n _ _ _ h E d)
  ·obtain rfl:=jS h;exact iG d 1 Tryz.f262 [] (kq [0]) 65
theorem ve (N:Nat) (a:Int) (e:List aa) (g:Int->Int->Int->eB->Option po)
  (f:∀ (a:Int) (m:Int) (b:Int) (e:List aa) (r:eB),g a m b e=some r->Sd 262 [(px e),(aI a),(aI m),(aI b),(.fn (.func 226) [] [])] [(kR e)] 1 (.tup []) [(ic r)]) (fuel:Nat):vV N a e (cu N a e g fuel):=by
 induction fuel with
 | zero=>intro _ _ r h;rw [cu.eq_1] at h;cases h
 | succ fuel k =>
  intro i j r h E d;rw [cu.eq_2] at h;refine ax d 2 (kp [0,1,4,10,11,33]) (kq [0]) 49 <| dr 0 33 h (fun n h=>?_) (fun n h=>?_)
  ·refine dV d 3 (kp [0,1,4,10,11,12]) (kq [0]) 161 (pc (show (0:Int)<=1 by decide) pn) ?_;obtain ⟨c,h⟩:=ae h;obtain ⟨l,h⟩:=ae h;obtain ⟨o,p,h⟩:=aW h;refine bK d 1 [(9,oT (aI o))] (kp [0,1,4,10,11,12,50]) (kq [0]) 337 (pc c (pc (dR c) (pc l (pc (dR l) (pc (pf _ _ _ _ p) pn))))) <| dr 0 50 h (fun q h=>?_) (fun q h=>?_)
   ·refine ax d 0 Ou (kq [0]) 385 <| cY d 2 Ou (kq [0]) 1 (k _ _ _ h E d)
   ·refine ax d 0 Ou (kq [0]) 369 <| cY d 2 Ou (kq [0]) 1 (k _ _ _ h E d)
  ·refine ax d 3 XC (kq [0]) 81 <| cY d 2 XC (kq [0]) 1 (vd N _ _ f N _ _ _ h E d)
def vX (N:Nat) (m:Int) (a:List aa) (K:Int->Int->Option po):Prop:=∀ (b:Int) (c:Int) (r:eB),K b c=some r->∀ E,ba E 1->aK Tryz.prog E 262 220 (bd E [(ic r)] (.tup [])) [.code (zV 856),.inLoop (zV 856),.inBlock 4,.code (zV 215),.code (zV 7)] ⟨[(0,(px a)),(2,(aI m)),(4,(.fn (.func 226) [] [])),(14,(aI b)),(15,(aI c))],[(kR a)],1⟩
def vY (N:Nat) (c:Int) (K:eB->Int->Option po):Prop:=∀ (a:List aa) (b:Int) (r:eB),K a b=some r->∀ E,ba E 1->aK Tryz.prog E 262 220 (bd E [(ic r)] (.tup [])) [.code (zV 3444),.inLoop (zV 3444),.inBlock 6,.code (zV 431),.code (zV 7)] ⟨[(0,(px a)),(14,(aI c)),(17,(aI b))],[(kR a)],1⟩
theorem vf (N:Nat) (k:Int) (l:Int->Int->Int->eB->Option po)
  (n:∀ (a:Int) (m:Int) (b:Int) (i:List aa) (r:eB),l a m b i=some r->Sd 262 [(px i),(aI a),(aI m),(aI b),(.fn (.func 226) [] [])] [(kR i)] 1 (.tup []) [(ic r)]) (fuel:Nat):vY N k (cw N k l fuel):=by
 induction fuel with
 | zero=>intro _ _ r h;rw [cw.eq_1] at h;cases h
 | succ fuel o =>
  intro c d r h E e;rw [cw.eq_2] at h;refine ax e 2 (kp [0,14,17,110]) (kq [0]) 49 <| dr 0 110 h (fun j h=>?_) (fun j h=>?_)
  ·obtain ⟨f,h⟩:=ae h;obtain ⟨g,h⟩:=ae h;refine dV e 3 ([(0,.l5 (aou c d))] ++ kp [14,17]) [(aiC c d)] 337 (pc f (pc (dR f) (pc g (pc (dR g) (pc g (pc (dR g) (pc f (pc (dR f) (pc (show c.length=(ad5 c d).length from (dI (dI rfl))) (pc (show c.length=(ad5 c d).length from (dI (dI rfl))) (pc (tE aa.cells aa.d (aor c d) (KO d) (acO c d) (dK aa.cells aa.d c d.toNat (ajg c d))) pn))))))))))) <| ax e 1 XD (kq [0]) 385 <| cY e 1 XD (kq [0]) 1 (o _ _ _ h E e)
  ·obtain rfl:=jS h;exact iG e 1 Tryz.f262 [] (kq [0]) 49
theorem vg (N:Nat) (m:Int) (d:List aa) (i:Int->Int->Int->eB->Option po)
  (e:∀ (a:Int) (m:Int) (b:Int) (d:List aa) (r:eB),i a m b d=some r->Sd 262 [(px d),(aI a),(aI m),(aI b),(.fn (.func 226) [] [])] [(kR d)] 1 (.tup []) [(ic r)]) (fuel:Nat):vX N m d (cx N m d i fuel):=by
 induction fuel with
 | zero=>intro _ _ r h;rw [cx.eq_1] at h;cases h
 | succ fuel j =>
  intro p q r h E c;rw [cx.eq_2] at h;refine ax c 2 (kp [0,2,4,14,15,85]) (kq [0]) 49 <| dr 0 85 h (fun f h=>?_) (fun f h=>?_)
  ·refine dV c 3 (kp [0,2,4,14,15,16]) (kq [0]) 161 (pc (show (0:Int)<=1 by decide) pn) ?_;obtain ⟨k,h⟩:=ae h;obtain ⟨l,h⟩:=ae h;obtain ⟨n,o,h⟩:=aW h;refine bK c 1 [(9,oT (aI n))] (kp [0,2,4,14,15,16,103]) (kq [0]) 353 (pc k (pc (dR k) (pc l (pc (dR l) (pc (pf _ _ _ _ o) pn))))) <| dr 0 103 h (fun g h=>?_) (fun g h=>?_)
   ·refine ax c 0 Oz (kq [0]) 401 <| cY c 2 Oz (kq [0]) 1 (j _ _ _ h E c)
   ·refine ax c 0 Oz (kq [0]) 385 <| cY c 2 Oz (kq [0]) 1 (j _ _ _ h E c)
  ·refine ax c 3 XD (kq [0]) 81 <| cY c 2 XD (kq [0]) 1 (vf N _ _ e N _ _ _ h E c)
def vZ (N:Nat) (a:Int) (m:Int) (b:Int) (c:List aa) (K:Int->Int->Option po):Prop:=∀ (start:Int) (d:Int) (r:eB),K start d=some r->∀ E,ba E 1->aK Tryz.prog E 262 220 (bd E [(ic r)] (.tup [])) [.code (zV 254),.code (zV 255)] ⟨[(0,(px c)),(1,(aI a)),(2,(aI m)),(3,(aI b)),(4,(.fn (.func 226) [] [])),(18,(Xs a b)),(19,(aI (acN a b m))),(20,(aI start)),(21,(aI d))],[(kR c)],1⟩
def v5 (N:Nat) (a:Int) (m:Int) (b:Int) (c:List aa) (K:Int->Int->Option po):Prop:=∀ (d:Int) (e:Int) (r:eB),K d e=some r->∀ E,ba E 1->aK Tryz.prog E 262 220 (bd E [(ic r)] (.tup [])) [.code (zV 2040),.inLoop (zV 2040),.inBlock 8,.code (zV 511)] ⟨[(0,(px c)),(1,(aI a)),(2,(aI m)),(3,(aI b)),(4,(.fn (.func 226) [] [])),(18,(Xs a b)),(19,(aI (acN a b m))),(20,(aI d)),(21,(aI e)),(22,(aI (av ((acN a b m) - 1))))],[(kR c)],1⟩
def v7 (N:Nat) (a:Int) (m:Int) (b:Int) (d:Int) (K:eB->Option po):Prop:=∀ (c:List aa) (r:eB),K c=some r->∀ E,ba E 1->aK Tryz.prog E 262 220 (bd E [(ic r)] (.tup [])) [.code (zV 8188),.code (zV 8189),.code (zV 4095)] ⟨[(0,(px c)),(1,(aI a)),(3,(aI b)),(4,(.fn (.func 226) [] [])),(18,(Xs a b)),(20,(aI d)),(24,(aI (acv a b m d)))],[(kR c)],1⟩
def v8 (N:Nat) (a:Int) (m:Int) (b:Int) (d:Int) (K:eB->Option po):Prop:=∀ (c:List aa) (r:eB),K c=some r->∀ E,ba E 1->aK Tryz.prog E 262 220 (bd E [(ic r)] (.tup [])) [.code (zV 8190),.code (zV 8191)] ⟨[(0,(px c)),(3,(aI b)),(4,(.fn (.func 226) [] [])),(18,(Xs a b)),(24,(aI (acv a b m d)))],[(kR c)],1⟩
theorem oi (N:Nat) (a:Int) (m:Int) (b:Int) (c:Int) (i:Int->Int->Int->eB->Option po)
  (e:∀ (a:Int) (m:Int) (b:Int) (f:List aa) (r:eB),i a m b f=some r->Sd 262 [(px f),(aI a),(aI m),(aI b),(.fn (.func 226) [] [])] [(kR f)] 1 (.tup []) [(ic r)]):v8 N a m b c (dT N a m b c i):=by
 intro o r h E d;unfold dT at h;refine dV d 0 (kp [0,3,4,18,24,213]) (kq [0]) 129 (pc (fun j:(aiL a b m c)=true=>(pc j (pc j pn))) (pc (fun hq:(aiL a b m c)=true=>(pc hq pn)) pn)) <| dr 0 213 h (fun g h=>?_) (fun g h=>?_)
 ·obtain ⟨k,l,h⟩:=aW h;obtain ⟨n,h⟩:=ae h;refine bK d 0 [(5,⟨[0],false,(.tup []),[(ic k)],0,false,none⟩)] [] (kq [0]) 225 (pc (e _ _ _ _ _ l) pn) ?_;obtain rfl:=jS h;exact rnF d 0 Tryz.f262 [] [] (kq [0]) 225 pn [] pn
 ·obtain rfl:=jS h;exact rnF d 1 Tryz.f262 [] [] (kq [0]) 129 pn [] pn
theorem oj (N:Nat) (a:Int) (m:Int) (b:Int) (e:Int) (k:Int->Int->Int->eB->Option po)
  (c:∀ (a:Int) (m:Int) (b:Int) (f:List aa) (r:eB),k a m b f=some r->Sd 262 [(px f),(aI a),(aI m),(aI b),(.fn (.func 226) [] [])] [(kR f)] 1 (.tup []) [(ic r)]):v7 N a m b e (bU N a m b e k):=by
 intro n r h E d;unfold bU at h;refine dV d 0 (kp [0,1,3,4,18,20,24,199]) (kq [0]) 129 (pc (fun l:(decide (a < e))=true=>(pc l (pc l pn))) (pc (fun hq:(decide (a < e))=true=>(pc hq pn)) pn)) <| dr 0 199 h (fun g h=>?_) (fun g h=>?_)
 ·obtain ⟨i,o,h⟩:=aW h;obtain ⟨j,h⟩:=ae h;refine bK d 0 [(5,⟨[0],false,(.tup []),[(ic i)],0,false,none⟩)] ([(0,.l5 (i.length))] ++ kp [3,4,18,24]) (kq [0]) 225 (pc (c _ _ _ _ _ o) (pc (show n.length=i.length from (Eq.symm j)) pn)) <| cY d 1 (kp [0,3,4,18,24]) (kq [0]) 1 (oi N _ _ _ _ _ c _ _ h E d)
 ·exact cY d 2 (kp [0,3,4,18,24]) (kq [0]) 1 (oi N _ _ _ _ _ c _ _ h E d)
theorem vj (N:Nat) (a:Int) (m:Int) (b:Int) (d:List aa) (k:Int->Int->Int->eB->Option po)
  (e:∀ (a:Int) (m:Int) (b:Int) (d:List aa) (r:eB),k a m b d=some r->Sd 262 [(px d),(aI a),(aI m),(aI b),(.fn (.func 226) [] [])] [(kR d)] 1 (.tup []) [(ic r)]) (fuel:Nat):v5 N a m b d (bV N a m b d k fuel):=by
 induction fuel with
 | zero=>intro _ _ r h;rw [bV.eq_1] at h;cases h
 | succ fuel l =>
  intro n w r h E c;rw [bV.eq_2] at h;refine ax c 2 (kp [0,1,2,3,4,18,19,20,21,22,151]) (kq [0]) 49 <| dr 0 151 h (fun f h=>?_) (fun f h=>?_)
  ·refine dV c 3 (kp [0,1,2,3,4,18,19,20,21,22,23]) (kq [0]) 161 (pc (show (0:Int)<=1 by decide) pn) ?_;obtain ⟨o,h⟩:=ae h;obtain ⟨p,h⟩:=ae h;obtain ⟨s,t,h⟩:=aW h;refine bK c 1 [(11,oT (aI s))] (kp [0,1,2,3,4,18,19,20,21,22,23,171]) (kq [0]) 385 (pc o (pc (dR o) (pc p (pc (dR p) (pc (pf _ _ _ _ t) pn))))) <| dr 0 171 h (fun g h=>?_) (fun g h=>?_)
   ·refine ax c 0 Oo (kq [0]) 433 <| cY c 2 Oo (kq [0]) 1 (l _ _ _ h E c)
   ·refine ax c 0 Oo (kq [0]) 417 <| cY c 2 Oo (kq [0]) 1 (l _ _ _ h E c)
  ·refine ax c 2 (kp [0,1,2,3,4,18,20,24]) (kq [0]) 113 <| dV c 2 (kp [0,1,2,3,4,18,20,24,185]) (kq [0]) 241 (pc (fun q:(decide (n < m))=true=>(pc q (pc q pn))) (pc (fun hq:(decide (n < m))=true=>(pc hq pn)) pn)) <| dr 0 185 h (fun i h=>?_) (fun i h=>?_)
   ·obtain ⟨j,u,h⟩:=aW h;obtain ⟨v,h⟩:=ae h;refine bK c 0 [(5,⟨[0],false,(.tup []),[(ic j)],0,false,none⟩)] ([(0,.l5 (j.length))] ++ kp [1,3,4,18,20,24]) (kq [0]) 337 (pc (yS _ _ _ _ _ _ u) (pc (show d.length=j.length from (Eq.symm v)) pn)) <| cY c 2 (kp [0,1,3,4,18,20,24]) (kq [0]) 1 (oj N _ _ _ _ _ e _ _ h E c)
   ·exact cY c 3 (kp [0,1,3,4,18,20,24]) (kq [0]) 1 (oj N _ _ _ _ _ e _ _ h E c)
theorem om (N:Nat) (a:Int) (m:Int) (b:Int) (c:List aa) (f:Int->Int->Int->eB->Option po)
  (d:∀ (a:Int) (m:Int) (b:Int) (c:List aa) (r:eB),f a m b c=some r->Sd 262 [(px c),(aI a),(aI m),(aI b),(.fn (.func 226) [] [])] [(kR c)] 1 (.tup []) [(ic r)]):vZ N a m b c (fy N a m b c f):=by
 intro start g r h E e;unfold fy at h;refine ax e 0 Oo (kq [0]) 49 <| cY e 3 Oo (kq [0]) 1 (vj N _ _ _ _ _ d N _ _ _ h E e)
theorem qh (N fuel):∀ (a:Int) (m:Int) (b:Int) (d:List aa) (r:eB),aG N fuel a m b d=some r->Sd 262 [(px d),(aI a),(aI m),(aI b),(.fn (.func 226) [] [])] [(kR d)] 1 (.tup []) [(ic r)]:=by
 induction fuel with
 | zero=>intro _ _ _ _ r h;rw [aG.eq_1] at h;cases h
 | succ fuel e =>
  intro a m b d r h;rw [aG.eq_2] at h;refine sO Tryz.f262 220 fun E c=>?_;refine ax c 2 (kp [0,1,2,3,4,28]) (kq [0]) 65 <| dr 0 28 h (fun g h=>?_) (fun g h=>?_)
  ·refine ax c 1 (kp [0,1,3,4,10]) (kq [0]) 97 <| ax c 1 Ou (kq [0]) 129 <| cY c 3 Ou (kq [0]) 1 (ve N _ _ _ e N _ _ _ h E c)
  ·refine ax c 3 (kp [0,1,2,3,4,80]) (kq [0]) 129 <| dr 0 80 h (fun i h=>?_) (fun i h=>?_)
   ·refine ax c 1 (kp [0,2,4,14]) (kq [0]) 161 <| ax c 1 Oz (kq [0]) 193 <| cY c 3 Oz (kq [0]) 1 (vg N _ _ _ e N _ _ _ h E c)
   ·refine dV c 2 (kp [0,1,2,3,4,18]) (kq [0]) 241 (pc (show (0:Int)<=1 by decide) pn) <| ax c 1 (kp [0,1,2,3,4,18,19]) (kq [0]) 305 <| ax c 1 (kp [0,1,2,3,4,18,19]) (kq [0]) 337 <| ax c 2 (kp [0,1,2,3,4,18,19,140]) (kq [0]) 385 <| dr 0 140 h (fun f h=>?_) (fun f h=>?_)
    ·refine ax c 1 (kp [0,1,2,3,4,18,19,20]) (kq [0]) 449 <| ax c 0 Xx (kq [0]) 481 <| cY c 1 Xx (kq [0]) 1 (om N _ _ _ _ _ e _ _ _ h E c)
    ·refine ax c 1 (kp [0,1,2,3,4,18,19,20]) (kq [0]) 417 <| ax c 0 Xx (kq [0]) 449 <| cY c 1 Xx (kq [0]) 1 (om N _ _ _ _ _ e _ _ _ h E c)
noncomputable abbrev S6:=bt Tryz.f244
def xR (N:Nat) (n:Int) (K:eB->Int->Int->Option po):Prop:=∀ (c:List aa) (a:Int) (b:Int) (r:eB),K c a b=some r->∀ E,ba E 1->aK Tryz.prog E 244 63 (bd E [(ic r)] (.tup [])) [.code (S6 56),.inLoop (S6 56),.inBlock 0,.code (S6 15)] ⟨[(0,(px c)),(1,(aI n)),(2,(.fn (.func 226) [] [])),(6,(aI 20)),(7,(aI a)),(8,(aI b))],[(kR c)],1⟩
def lq (N:Nat) (n:Int) (K:eB->Int->Option po):Prop:=∀ (a:List aa) (b:Int) (r:eB),K a b=some r->∀ E,ba E 1->aK Tryz.prog E 244 63 (bd E [(ic r)] (.tup [])) [.code (S6 124),.inLoop (S6 124),.inBlock 2] ⟨[(0,(px a)),(1,(aI n)),(2,(.fn (.func 226) [] [])),(6,(aI b))],[(kR a)],1⟩
def xS (N:Nat) (n:Int) (d:Int) (K:eB->Int->Int->Option po):Prop:=∀ (a:List aa) (b:Int) (c:Int) (r:eB),K a b c=some r->∀ E,ba E 1->aK Tryz.prog E 244 63 (bd E [(ic r)] (.tup [])) [.code (S6 7976),.inLoop (S6 7976),.inBlock 4,.code (S6 1995),.inBlock 3,.inLoop (S6 124),.inBlock 2] ⟨[(0,(px a)),(1,(aI n)),(2,(.fn (.func 226) [] [])),(6,(aI d)),(7,(aI b)),(8,(aI c))],[(kR a)],1⟩
def xT (N:Nat) (n:Int) (b:Int) (K:eB->Option po):Prop:=∀ (a:List aa) (r:eB),K a=some r->∀ E,ba E 1->aK Tryz.prog E 244 63 (bd E [(ic r)] (.tup [])) [.code (S6 3991),.inBlock 3,.inLoop (S6 124),.inBlock 2] ⟨[(0,(px a)),(1,(aI n)),(2,(.fn (.func 226) [] [])),(6,(aI b))],[(kR a)],1⟩
theorem py (N:Nat) (n:Int) (b:Int) (c:eB->Int->Option po) (d:lq N n c):xT N n b (iB N n b c):=by
 intro e r h E a;unfold iB at h;refine ax a 0 Ar (kq [0]) 49 <| cY a 2 Ar (kq [0]) 1 (d _ _ _ h E a)
theorem wY (N:Nat) (n:Int) (d:Int) (e:eB->Int->Option po) (f:lq N n e) (fuel:Nat):xS N n d (fY N n d e fuel):=by
 induction fuel with
 | zero=>intro _ _ _ r h;rw [fY.eq_1] at h;cases h
 | succ fuel i =>
  intro g q s r h E a;rw [fY.eq_2] at h;refine ax a 2 (kp [0,1,2,6,7,8,35]) (kq [0]) 49 <| dr 0 35 h (fun j h=>?_) (fun j h=>?_)
  ·obtain ⟨b,k,h⟩:=aW h;obtain ⟨l,h⟩:=ae h;refine bK a 3 [(7,⟨[0],false,(.tup []),[(ic b)],0,false,none⟩)] ([(0,.l5 (b.length))] ++ kp [1,2,6,8]) (kq [0]) 177 (pc (qh _ _ _ _ _ _ _ k) (pc (show g.length=b.length from (Eq.symm l)) pn)) <| ax a 1 Du (kq [0]) 209 <| ax a 0 Du (kq [0]) 289 <| cY a 2 Du (kq [0]) 1 (i _ _ _ _ h E a)
  ·refine ax a 3 (kp [0,1,2,6,7,9]) (kq [0]) 113 <| ax a 1 (kp [0,1,2,6,7,9,54]) (kq [0]) 161 <| dr 0 54 h (fun m h=>?_) (fun m h=>?_)
   ·obtain ⟨c,o,h⟩:=aW h;obtain ⟨p,h⟩:=ae h;refine bK a 0 [(5,⟨[0],false,(.tup []),[(ic c)],0,false,none⟩)] ([(0,.l5 (c.length))] ++ kp [1,2,6]) (kq [0]) 257 (pc (qh _ _ _ _ _ _ _ o) (pc (show g.length=c.length from (Eq.symm p)) pn)) <| cY a 0 Ar (kq [0]) 1 (py N _ _ _ f _ _ h E a)
   ·exact cY a 1 Ar (kq [0]) 1 (py N _ _ _ f _ _ h E a)
theorem wZ (N n fuel):lq N n (cg N n fuel):=by
 induction fuel with
 | zero=>intro _ _ r h;rw [cg.eq_1] at h;cases h
 | succ fuel b =>
  intro d e r h E a;rw [cg.eq_2] at h;refine ax a 2 (kp [0,1,2,6,30]) (kq [0]) 49 <| dr 0 30 h (fun c h=>?_) (fun c h=>?_)
  ·refine ax a 3 Du (kq [0]) 113 <| cY a 3 Du (kq [0]) 1 (wY N _ _ _ b N _ _ _ _ h E a)
  ·obtain rfl:=jS h;exact rnF a 1 Tryz.f244 [] [] (kq [0]) 49 pn [] pn
theorem w6 (N n fuel):xR N n (cL N n fuel):=by
 induction fuel with
 | zero=>intro _ _ _ r h;rw [cL.eq_1] at h;cases h
 | succ fuel i =>
  intro g a b r h E d;rw [cL.eq_2] at h;refine ax d 2 (kp [0,1,2,6,7,8,13]) (kq [0]) 49 <| dr 0 13 h (fun j h=>?_) (fun j h=>?_)
  ·obtain ⟨e,k,h⟩:=aW h;obtain ⟨c,h⟩:=ae h;refine bK d 3 [(4,⟨[0],false,(.tup []),[(ic e)],0,false,none⟩)] ([(0,.l5 (e.length))] ++ kp [1,2,6,8]) (kq [0]) 129 (pc (ni _ _ _ _ _ k) (pc (show g.length=e.length from (Eq.symm c)) pn)) <| ax d 1 Du (kq [0]) 161 <| ax d 0 Du (kq [0]) 225 <| cY d 2 Du (kq [0]) 1 (i _ _ _ _ h E d)
  ·obtain ⟨f,l,h⟩:=aW h;obtain ⟨m,h⟩:=ae h;refine bK d 2 [(4,⟨[0],false,(.tup []),[(ic f)],0,false,none⟩)] ([(0,.l5 (f.length))] ++ kp [1,2,6]) (kq [0]) 129 (pc (ni _ _ _ _ _ l) (pc (show g.length=f.length from (Eq.symm m)) pn)) <| cY d 2 Ar (kq [0]) 1 (wZ N _ N _ _ _ h E d)
theorem yU (N n b r) (h:kO N n b=some r):Sd 244 [(px b),(aI n),(.fn (.func 226) [] [])] [(kR b)] 1 (.tup []) [(ic r)]:=by
 unfold kO at h;refine sO Tryz.f244 63 fun E a=>?_;refine ax a 1 Ar (kq [0]) 17 <| ax a 1 Du (kq [0]) 65 <| cY a 3 Du (kq [0]) 1 (w6 N _ N _ _ _ _ h E a)
theorem nA (N a r) (h:b9 N a=some r):Sd 225 [(px a),(.fn (.func 226) [] [])] [(kR a)] 1 (.tup []) [(ic r)]:=by
 unfold b9 at h;refine sO Tryz.f225 9 fun E b=>?_;obtain ⟨d,e,h⟩:=aW h;obtain ⟨c,h⟩:=ae h;refine bK b 0 [(4,⟨[0],false,(.tup []),[(ic d)],0,false,none⟩)] [] (kq [0]) 81 (pc (yU _ _ _ _ e) pn) ?_;obtain rfl:=jS h;exact rnF b 0 Tryz.f225 [] [] (kq [0]) 81 pn [] pn
noncomputable abbrev ZS:=bt Tryz.f195
def yp (N:Nat) (l:List af) (a:ab) (K:eB->Int->Option po):Prop:=∀ (out:List aa) (x:Int) (r:eB),K out x=some r->∀ E,ba E 0->aK Tryz.prog E 195 58 (bd E [] (Oj r)) [.code (ZS 116),.inLoop (ZS 116),.inBlock 0,.code (ZS 15)] ⟨[(3,(.op 0 0 0)),(5,(.os 1 0 out.length)),(12,(oW l)),(13,(Dr l)),(14,(aI x))],[(Ie a),(1,aO 8 aa.cells aa.d out)],2⟩
def Hr (N:Nat) (l:List af) (c:ab) (x:Int) (d:ab) (K:eB->ab->Int->Option po):Prop:=∀ (a:List aa) (before:ab) (b:Int) (r:eB),K a before b=some r->∀ E,ba E 0->aK Tryz.prog E 195 58 (bd E [] (Oj r)) [.code (ZS 119612),.inLoop (ZS 119612),.inBlock 2,.inBlock 1,.code (ZS 935),.inLoop (ZS 116),.inBlock 0,.code (ZS 15)] ⟨[(3,(.op 0 0 0)),(5,(.os 1 0 a.length)),(7,(.op 2 0 0)),(8,(.op 3 0 0)),(9,(.op 4 0 0)),(12,(oW l)),(13,(Dr l)),(14,(aI x)),(29,(cA bH ab.d (ab2 l x))),(30,(aI (((ab2 l x).length:Nat):Int))),(31,(aI b))],[(Ie c),(1,aO 8 aa.cells aa.d a),(2,vO 7 (af.cells (NU l x))),(xJ d),(FV before)],5⟩
theorem Gm (N:Nat) (l:List af) (e:ab) (x:Int) (f:ab) (g:eB->Int->Option po) (i:yp N l e g) (fuel:Nat):Hr N l e x f (ji N l e x f g fuel):=by
 induction fuel with
 | zero=>intro _ _ _ r h;rw [ji.eq_1] at h;cases h
 | succ fuel j =>
  intro d before u r h E a;rw [ji.eq_2] at h;refine ax a 1 (kp [3,5,7,8,9,12,13,14,29,30,31,32]) oX 21 <| dr 1 32 h (fun k h=>?_) (fun k h=>?_)
  ·obtain ⟨m,h⟩:=ae h;refine dV a 4 (kp [3,5,7,8,9,10,11,12,13,14,29,30,31]) (kq [0,1,2,3,4,69]) 117 (pc m (pc o1 pn)) ?_;obtain ⟨n,h⟩:=ae h;obtain ⟨o,p,h⟩:=aW h;obtain ⟨b,q,h⟩:=aW h;obtain ⟨c,s,h⟩:=aW h;obtain ⟨t,h⟩:=ae h;refine bK a 1 [(7,oT (aj o)),(9,oT (aj b)),(12,oT (aj c))] (kp [3] ++ [(5,.l5 ((d ++ (Sa b c)).length))] ++ kp [7,8,9,11,12,13,14,29,30,31]) (kq [0,2,3,4,69] ++ [(357,ri 357 aa.cells aa.d (d ++ (Sa b c)))]) 389 (pc o1 (pc n (pc (an _ _ _ p) (pc o1 (pc (g9 _ _ _ _ q) (pc o1 (pc o1 (pc (g9 _ _ _ _ s) (pc (Eq.refl d.length) (pc t (pc (z1 1) (pc (oN [[(kU b),(kW b),(kT b),(kV b),(kU c),(kW c),(kT c),(kV c)]]) (pc (bL d (Sa b c)) (pc (bL d (Sa b c)) (pc (LR aa.cells aa.d d (Sa b c)) pn))))))))))))))) <| dV a 0 SC (kq [0,2,3,4,357]) 421 (pc o1 (pc o1 pn)) <| ax a 1 SC (kq [0,2,3,4,357]) 453 <| cY a 1 SC (kq [0] ++ [(1,.ak 357)] ++ kq [2,3,4]) 5 (j _ _ _ _ h E a)
  ·refine ax a 2 acC (kq [0,1]) 53 <| cY a 1 acC (kq [0,1]) 2 (i _ _ _ h E a)
theorem Gp (N l d fuel):yp N l d (jj N l d fuel):=by
 induction fuel with
 | zero=>intro _ _ r h;rw [jj.eq_1] at h;cases h
 | succ fuel e =>
  intro out x r h E a;rw [jj.eq_2] at h;refine ax a 1 (kp [3,5,12,13,14,15]) (kq [0,1]) 18 <| dr 1 15 h (fun f h=>?_) (fun f h=>?_)
  ·obtain ⟨c,h⟩:=ae h;refine dV a 4 (kp [3,5,7,12,13,14]) XZ 82 (pc c (pc o1 pn)) ?_;obtain ⟨g,i,h⟩:=aW h;obtain ⟨j,k,h⟩:=aW h;obtain ⟨m,n,h⟩:=aW h;refine bK a 1 [(5,oT (aj g)),(6,oT (aj j)),(7,oT (aj m))] (kp [3,5,7,8,12,13,14]) (kq [0,1,50,210]) 242 (pc o1 (pc o1 (pc o1 (pc (an _ _ _ i) (pc (bN _ _ _ _ k) (pc (bF _ _ _ _ n) (pc o1 pn))))))) ?_;obtain ⟨o,p,h⟩:=aW h;refine bK a 1 [(0,oT (aj o))] (kp [3,5,7,8,9,12,13,14]) (kq [0,1,50,210,258]) 290 (pc (an _ _ _ p) (pc o1 pn)) <| dV a 1 SC (kq [0,1,50,210,258]) 370 (pc o1 pn) <| cY a 2 SC (kq [0,1] ++ [(2,.ak 50),(3,.ak 210),(4,.ak 258)]) 5 (Gm N _ _ _ _ _ e N _ _ _ _ h E a)
  ·obtain ⟨b,q,h⟩:=aW h;obtain ⟨s,h⟩:=ae h;refine bK a 2 [(1,⟨[1],false,(.tup []),[(ic b)],0,false,none⟩)] [(5,.l5 (b.length))] (kq [1]) 50 (pc (nA _ _ _ q) (pc (show out.length=b.length from (Eq.symm s)) pn)) <| ax a 1 (kp [4]) (kq [1]) 82 ?_
   obtain rfl:=jS h;exact mh a 0 Tryz.f195 [1] [(4,rh aa.cells aa.d b)] [] 82 (pc (Eq.refl b.length) (pc (z1 b.length) (pc (eZ aa.cells aa.d b) pn))) [] pn
theorem JT (N l b r) (h:um N l b=some r):Sd 195 [(oW l),(aj b)] [] 0 (Oj r) []:=by
 unfold um at h;refine sO Tryz.f195 58 fun E a=>?_;refine ax a 1 (kp [0,3]) (kq [0]) 32 <| ax a 1 So (kq [0]) 48 <| ax a 2 acC (kq [0]) 96 <| cY a 2 (kp [3] ++ [(5,.tD 1)] ++ kp [12,13,14]) (kq [0] ++ [(1,.nil 8 (fun zi=>aa.cells (([]:List aa).getD zi aa.d)))]) 2 (Gp N _ _ N _ _ _ h E a)
theorem UD (N x y r) (h:BS N x y=some r):Sd 203 [(aj x),(aj y)] [] 0 (Xh r) []:=by
 unfold BS at h;refine sO Tryz.f203 12 fun E a=>?_;refine ax a 1 iI fU 64 ?_;obtain ⟨b,c,h⟩:=aW h;refine bK a 2 [(1,oT (aB b))] (kp [2,3,4,7]) fU 96 (pc o1 (pc (jA _ _ _ c) pn)) <| dr 0 7 h (fun d h=>?_) (fun d h=>?_)
 ·refine dV a 1 (kp [4,5]) (kq [32]) 144 (pc o1 pn) ?_;cases h;exact mh a 0 Tryz.f203 [] (kp [4,5]) [(16,.var 32 [.ak,rh (cU .u16) 0 ([]:List Int),.ak,rh (cU .u16) 0 ([]:List Int)])] 144 (pc (Eq.refl 0) (pc (Eq.refl 0) pn)) [16] (pc o1 pn)
 ·obtain ⟨jC,e,h⟩:=aW h;refine bK a 2 [(2,oT (aj jC))] (kp [4,5]) (kq [32]) 176 (pc o1 (pc o1 (pc (zO _ _ _ _ e) (pc o1 pn)))) ?_;cases h;exact mh a 0 Tryz.f203 [] (kp [4,5]) [(16,.ak 32)] 176 pn [16] (pc o1 pn)
theorem rU (N x y r) (h:nv N x y=some r):Sd 142 [(aj x),(aj y)] [] 0 (aj r) []:=by
 unfold nv at h;refine sO Tryz.f142 14 fun E a=>?_;refine ax a 1 iI fU 48 ?_;obtain ⟨b,c,h⟩:=aW h;refine bK a 1 [(2,oT (Xh b))] (kp [4,5]) (kq [32,144]) 192 (pc o1 (pc o1 (pc (UD _ _ _ _ c) (pc o1 pn)))) <| dV a 1 (kp [4]) (kq [32]) 224 (pc o1 (pc o1 pn)) ?_
 cases h;exact mh a 0 Tryz.f142 [] (kp [4]) [(16,.ak 32)] 224 pn [16] (pc o1 pn)
theorem IU (N x r) (h:tf N x=some r):Sd 196 [(aj x)] [] 0 (aj r) []:=by
 unfold tf at h;refine sO Tryz.f196 6 fun E a=>?_;refine ax a 1 (kp [1,2]) jt 32 ?_;obtain ⟨b,c,h⟩:=aW h;refine bK a 1 [(2,oT (aj b))] (kp [2]) (kq [16]) 96 (pc o1 (pc (show Sd 92 [(aj x),(.agg [(aB false),.nil,(aB false),.nil])] [] 0 (aj b) [] from (Sound.conv (bF _ _ _ _ c) (.cons (Alike.refl _) (.cons (Alike.agg (.cons (Alike.refl _) (.cons Alike.nil (.cons (Alike.refl _) (.cons Alike.nil .nil))))) .nil)))) (pc o1 pn))) ?_;obtain rfl:=jS h;exact mh a 0 Tryz.f196 [] (kp [2]) (kq [16]) 96 pn [16] (pc o1 pn)
noncomputable abbrev OP:=bt Tryz.f139
def wP (N:Nat) (c:ab) (d:ab) (a:eB) (K:ab->ab->ab->Int->Option FY):Prop:=∀ (carried:ab) (k:ab) (b:ab) (x:Int) (r:aw),K carried k b x=some r->∀ E,ba E 0->aK Tryz.prog E 139 64 (bd E [] (nh r)) [.code (OP 500),.inLoop (OP 500),.inBlock 0,.code (OP 63)] ⟨[(3,(.op 0 0 0)),(4,(.op 1 0 0)),(5,(.op 2 0 0)),(6,(.op 3 0 0)),(7,(.op 4 0 0)),(8,(.op 5 0 0)),(21,(Oj a)),(22,(aI (a.length:Int))),(23,(aI x))],[(Ie c),(1,vO 8 [(aB false),.nil,(aB false),.nil,(aB false),.nil,(aB false),.nil]),(tS carried),(xJ k),(FV d),(5,vO 4 (xI b))],6⟩
def EX (N:Nat) (a:ab) (b:ab) (carried:ab) (k:ab) (c:ab) (K:Option FY):Prop:=∀ (r:aw),K=some r->∀ E,ba E 0->aK Tryz.prog E 139 64 (bd E [] (nh r)) [.code (OP 252),.code (OP 253),.code (OP 127)] ⟨[(3,(.op 0 0 0)),(4,(.op 1 0 0)),(5,(.op 2 0 0)),(6,(.op 3 0 0)),(7,(.op 4 0 0)),(8,(.op 5 0 0))],[(Ie a),(1,vO 8 [(aB false),.nil,(aB false),.nil,(aB false),.nil,(aB false),.nil]),(tS carried),(xJ k),(FV b),(5,vO 4 (xI c))],6⟩
def EY (N:Nat) (b:ab) (K:ab->Option FY):Prop:=∀ (a:ab) (r:aw),K a=some r->∀ E,ba E 0->aK Tryz.prog E 139 64 (bd E [] (nh r)) [.code (OP 254),.code (OP 255)] ⟨[(3,(.op 0 0 0)),(4,(.op 1 0 0)),(8,(.op 2 0 0))],[(Ie b),(1,vO 8 [(aB false),.nil,(aB false),.nil,(aB false),.nil,(aB false),.nil]),(tS a)],3⟩
theorem vk (N a):EY N a (pe N a):=by
 intro c r h E b;unfold pe at h;obtain ⟨d,e,h⟩:=aW h;refine bK b 0 [(2,oT (aj d))] (kp [4]) (kq [1]) 83 (pc o1 (pc o1 (pc (IU _ _ _ e) (pc o1 pn)))) ?_;cases h;exact mh b 0 Tryz.f139 [] (kp [4]) [(16,.ak 1)] 83 pn [16] (pc o1 pn)
theorem vn (N b c carried k d):EX N b c carried k d (jY N b c carried k d):=by
 intro r h E a;unfold jY at h;obtain ⟨e,f,h⟩:=aW h;refine bK a 0 [(1,oT (aI e))] (kp [3,4,5,6,7,8,52]) fJ 54 (pc o1 (pc (eM _ _ _ f) pn)) <| dr 0 52 h (fun g h=>?_) (fun g h=>?_)
 ·obtain ⟨i,j,h⟩:=aW h;obtain ⟨jC,l,h⟩:=aW h;obtain ⟨m,n,h⟩:=aW h;refine bK a 0 [(3,oT (aj i)),(5,oT (aj jC)),(6,oT (aj m))] (kp [3,4,8]) (kq [0,1,5]) 182 (pc o1 (pc o1 (pc o1 (pc (g9 _ _ _ _ j) (pc o1 (pc (rU _ _ _ _ l) (pc (bF _ _ _ _ n) (pc o1 pn)))))))) <| cY a 1 (kp [3,4,8]) (kq [0,1] ++ [(2,.ak 5)]) 3 (vk N _ _ _ h E a)
 ·exact cY a 2 (kp [3,4,8]) (kq [0,1] ++ [(2,.ak 5)]) 3 (vk N _ _ _ h E a)
def EZ (N:Nat) (c:ab) (d:ab) (a:eB) (k:ab) (e:ab) (x:Int) (K:ab->Option FY):Prop:=∀ (b:ab) (r:aw),K b=some r->∀ E,ba E 0->aK Tryz.prog E 139 64 (bd E [] (nh r)) [.code (OP 64102),.code (OP 64103),.inBlock 1,.code (OP 4007),.inLoop (OP 500),.inBlock 0,.code (OP 63)] ⟨[(3,(.op 0 0 0)),(4,(.op 1 0 0)),(5,(.op 2 0 0)),(6,(.op 3 0 0)),(7,(.op 4 0 0)),(8,(.op 5 0 0)),(10,(.op 6 0 0)),(21,(Oj a)),(22,(aI (a.length:Int))),(23,(aI x))],[(Ie c),(1,vO 8 [(aB false),.nil,(aB false),.nil,(aB false),.nil,(aB false),.nil]),(tS b),(xJ k),(FV d),(5,vO 4 (xI e)),(6,vO 8 [(aB (((ad1 a x).fN).fG)),(eU (((ad1 a x).fN).fL)),(aB (((ad1 a x).fD).fG)),(eU (((ad1 a x).fD).fL)),(aB (((ad2 a x).fN).fG)),(eU (((ad2 a x).fN).fL)),(aB (((ad2 a x).fD).fG)),(eU (((ad2 a x).fD).fL))])],7⟩
theorem vo (N:Nat) (b:ab) (c:ab) (d:eB) (k:ab) (e:ab) (x:Int) (f:ab->ab->ab->Int->Option FY) (g:wP N b c d f):EZ N b c d k e x (im N b c d k e x f):=by
 intro l r h E a;unfold im at h;refine dV a 0 Sz jK 55 (pc o1 (pc o1 pn)) ?_;obtain ⟨i,j,h⟩:=aW h;refine bK a 0 [(3,oT (aj i))] SA fJ 135 (pc o1 (pc o1 (pc (bF _ _ _ _ j) (pc o1 pn)))) <| ax a 1 SA fJ 167 <| cY a 1 SA fJ 6 (g _ _ _ _ _ h E a)
theorem DP (N b d e fuel):wP N b d e (dq N b d e fuel):=by
 induction fuel with
 | zero=>intro _ _ _ _ r h;rw [dq.eq_1] at h;cases h
 | succ fuel f =>
  intro carried k v x r h E a;rw [dq.eq_2] at h;refine ax a 1 (kp [3,4,5,6,7,8,21,22,23,24]) fJ 22 <| dr 1 24 h (fun g h=>?_) (fun g h=>?_)
  ·obtain ⟨c,h⟩:=ae h;refine dV a 4 Sz acE 86 (pc c (pc o1 pn)) ?_;obtain ⟨dL,i,h⟩:=aW h;refine bK a 2 [(1,oT (aI dL))] (kp [3,4,5,6,7,8,10,21,22,23,29]) acE 134 (pc o1 (pc (eM _ _ _ i) pn)) <| dr 0 29 h (fun j h=>?_) (fun j h=>?_)
   ·obtain ⟨l,m,h⟩:=aW h;obtain ⟨n,o,h⟩:=aW h;obtain ⟨p,q,h⟩:=aW h;refine bK a 1 [(5,oT (aj l)),(6,oT (aj n)),(7,oT (aj p))] (kp [3,4,5,6,7,8,10,11,21,22,23]) (kq [0,1,2,3,4,5,54,262]) 294 (pc o1 (pc o1 (pc o1 (pc o1 (pc (g9 _ _ _ _ m) (pc (bN _ _ _ _ o) (pc (bF _ _ _ _ q) (pc o1 pn)))))))) ?_;obtain ⟨s,t,h⟩:=aW h;refine bK a 2 [(2,oT (aI s))] (kp [3,4,5,6,7,8,10,11,21,22,23,41]) (kq [0,1,2,3,4,5,54,262]) 358 (pc o1 (pc o1 (pc (jB _ _ _ _ t) pn))) <| dr 0 41 h (fun u h=>?_) (fun u h=>?_)
    ·exact cY a 3 (kp [3,4,5,6,7,8]) fJ 6 (vn N _ _ _ _ _ _ h E a)
    ·refine dV a 1 Sz acE 390 (pc o1 (pc o1 pn)) <| cY a 1 Sz ai0 7 (vo N _ _ _ _ _ _ _ f _ _ h E a)
   ·exact cY a 2 Sz ai0 7 (vo N _ _ _ _ _ _ _ f _ _ h E a)
  ·exact cY a 3 (kp [3,4,5,6,7,8]) fJ 6 (vn N _ _ _ _ _ _ h E a)
theorem pg (N b c r) (h:fH N b c=some r):Sd 139 [(zM b),(aj c)] [] 0 (nh r) []:=by
 unfold fH at h;refine sO Tryz.f139 64 fun E a=>?_;refine ax a 1 iI fU 48 ?_;obtain ⟨d,e,h⟩:=aW h;obtain ⟨f,g,h⟩:=aW h;refine bK a 1 [(0,oT (aj d)),(1,oT (aj f))] uQ (kq [0,16,32,80,96]) 144 (pc (an _ _ _ e) (pc (an _ _ _ g) (pc o1 (pc o1 pn)))) ?_;obtain ⟨i,j,h⟩:=aW h;refine bK a 1 [(2,oT (aj i))] Iv (kq [0,16,32,80,96,192]) 224 (pc o1 (pc (an _ _ _ j) (pc o1 pn))) ?_;obtain ⟨k,l,h⟩:=aW h;refine bK a 1 [(0,oT (aj k))] (kp [2,3,4,5,6,7,8]) (kq [0,16,32,80,96,192,240]) 272 (pc (an _ _ _ l) (pc o1 pn)) ?_;obtain ⟨m,n,h⟩:=aW h;refine bK a 2 [(3,oT (Oj m))] SA (kq [16,32,80,96,192,240]) 368 (pc o1 (pc o1 (pc (JT _ _ _ _ n) pn))) <| cY a 2 SA [(0,.ak 16),(1,.ak 32),(2,.ak 80),(3,.ak 96),(4,.ak 192),(5,.ak 240)] 6 (DP N _ _ _ N _ _ _ _ _ h E a)
theorem pE (N s a r) (h:jF N s a=some r):Sd 193 [(ZN s),(nh a)] [] 0 (aj r) []:=by
 unfold jF at h;refine sO Tryz.f193 17 fun E b=>?_;refine ax b 1 iI fU 48 ?_;obtain ⟨c,d,h⟩:=aW h;obtain ⟨e,f,h⟩:=aW h;obtain ⟨g,i,h⟩:=aW h;obtain ⟨j,k,h⟩:=aW h;refine bK b 1 [(8,oT (aj c)),(9,oT (aj e)),(10,oT (aj g)),(11,oT (aj j))] (kp [4]) (kq [32]) 256 (pc o1 (pc o1 (pc o1 (pc o1 (pc (an _ _ _ d) (pc (bN _ _ _ _ f) (pc (bF _ _ _ _ i) (pc (bF _ _ _ _ k) (pc o1 pn))))))))) ?_;obtain rfl:=jS h;exact mh b 0 Tryz.f193 [] (kp [4]) [(16,.ak 32)] 256 pn [16] (pc o1 pn)
theorem Mz (N c y r) (h:Jw N c y=some r):Sd 223 [(VO c),(aj y)] [] 0 (.fn (.func 243) [] [(.op 0 0 0),(.op 1 0 0)]) [(0,vO 2 (zx r.1)),(1,vO 4 (bH r.2))]:=by
 unfold Jw at h;refine sO Tryz.f223 6 fun E a=>?_;refine ax a 1 (kp [2,3]) jt 48 <| ax a 1 (kp [4]) jt 80 ?_
 cases h;exact iG a 0 Tryz.f223 (kp [4]) (kq [0] ++ [(1,.ak 16)]) 80
noncomputable abbrev gC:=bt Tryz.f243
theorem MA (N RD a f fuel):∀ (g:ab) (before:ab) (x:Int) (r:ab),lg N RD a f fuel g before x=some r->∀ E,ba E 3->∀ e,(∀ (n:ab) (o:ab) (w y:ab),RD n o w=some y->YOK Tryz.prog E ⟨e,[.agg (bH n),.agg (bH o)],0,vO 4 (bH w),vO 4 (bH y)⟩)->aK Tryz.prog E 243 43 (bd E [(0,vO 4 (bH r)),(1,vO 2 (zx a)),(2,vO 4 (bH f))] (.tup [])) [.code (gC 28),.inLoop (gC 28),.inBlock 0] ⟨[(0,(.atom (.func (.yield e) #[] #[]))),(1,(.op 1 0 0)),(2,(.op 2 0 0)),(4,(.op 3 0 0)),(10,(cA cI 0 a.ah)),(11,(aI (a.ah.length:Int))),(12,(aI x))],[(0,vO 4 (bH g)),(1,vO 2 (zx a)),(2,vO 4 (bH f)),(3,vO 4 (bH before))],4⟩:=by
 induction fuel with
 | zero=>intro _ _ _ r h;rw [lg.eq_1] at h;cases h
 | succ fuel z =>
  intro g before x r h E i e p;rw [lg.eq_2] at h;refine sA 1 [.code (gC 56),.code (gC 57),.inLoop (gC 28),.inBlock 0] ?_;refine sR i ⟨[(0,(.atom (.func (.yield e) #[] #[]))),(1,(.op 1 0 0)),(2,(.op 2 0 0)),(4,(.op 3 0 0)),(10,(cA cI 0 a.ah)),(11,(aI (a.ah.length:Int))),(12,(aI x)),(13,(aB (decide (x < (a.ah.length:Int)))))],[(0,vO 4 (bH g)),(1,vO 2 (zx a)),(2,vO 4 (bH f)),(3,vO 4 (bH before))],20⟩ (gC 56) [] [] (kp [0,1,2,4,10,11,12,13]) (kq [0,1,2,3]) 20 [] trivial ?_;refine sA 1 [.code (gC 114),.code (gC 115),.inLoop (gC 28),.inBlock 0] ?_;refine sC 13 (gC 228) (gC 229) (decide (x < (a.ah.length:Int))) (fun q=>?_) (fun q=>?_)
  ·have h:=aN h q;refine sA 4 [.code (gC 920),.code (gC 921),.inBlock 1,.code (gC 231),.inLoop (gC 28),.inBlock 0] ?_;obtain ⟨c,h⟩:=ae h;refine sR i ⟨[(0,(.atom (.func (.yield e) #[] #[]))),(1,(.op 1 0 0)),(2,(.op 2 0 0)),(4,(.op 3 0 0)),(5,(aI x)),(6,(aI (a.ah.getD x.toNat 0))),(10,(cA cI 0 a.ah)),(11,(aI (a.ah.length:Int))),(12,(aI x))],[(0,vO 4 (bH g)),(1,vO 2 (zx a)),(2,vO 4 (bH f)),(3,vO 4 (bH before))],100⟩ (gC 920) [] [] (kp [0,1,2,4,5,6,10,11,12]) (kq [0,1,2,3]) 100 [0<=x/\x < (a.ah.length:Int)] ⟨c,trivial⟩ ?_;refine sA 1 [.code (gC 1842),.code (gC 1843),.inBlock 1,.code (gC 231),.inLoop (gC 28),.inBlock 0] ?_;obtain ⟨s,D,h⟩:=aW h;obtain ⟨j,F,h⟩:=aW h;refine sR i ⟨[(0,(.atom (.func (.yield e) #[] #[]))),(1,(.op 1 0 0)),(2,(.op 2 0 0)),(4,(.op 3 0 0)),(5,(aI x)),(7,(.op 164 0 0)),(10,(cA cI 0 a.ah)),(11,(aI (a.ah.length:Int))),(12,(aI x))],[(0,vO 4 (bH g)),(1,vO 2 (zx a)),(2,vO 4 (bH f)),(3,vO 4 (bH before)),(164,vO 4 (bH j))],196⟩ (gC 1842) [(2,oT (.agg (bH s))),(3,oT (.agg (bH j)))] [] (kp [0,1,2,4,5,7,10,11,12]) (kq [0,1,2,3,164]) 196 [0 < 1,Sd 83 [(aI (a.ah.getD x.toNat 0))] [] 0 (.agg (bH s)) [],Sd 96 [(.agg (bH f)),(.agg (bH s))] [] 0 (.agg (bH j)) [],0 < 1] ⟨o1,(eV _ _ _ D),(g9 _ _ _ _ F),o1,trivial⟩ ?_;refine sA 2 [.code (gC 7372),.code (gC 7373),.code (gC 3687),.inBlock 1,.code (gC 231),.inLoop (gC 28),.inBlock 0] ?_;obtain ⟨b,A,h⟩:=aW h;obtain ⟨B,h⟩:=ae h;obtain ⟨k,C,h⟩:=aW h;rcases condSplit h with ⟨l,h⟩ | ⟨l,h⟩
   ·obtain ⟨m,t,h⟩:=aW h;refine sRY i ⟨[(0,(.atom (.func (.yield e) #[] #[]))),(1,(.op 1 0 0)),(2,(.op 2 0 0)),(4,(.op 3 0 0)),(5,(aI x)),(10,(cA cI 0 a.ah)),(11,(aI (a.ah.length:Int))),(12,(aI x)),(36,(aB (cond (decide (b < 0)) true (!true))))],[(0,vO 4 (bH m)),(1,vO 2 (zx a)),(2,vO 4 (bH f)),(3,vO 4 (bH before))],452⟩ (gC 7372) [(1,oT (aI b)),(11,oT (.agg (bH k))),(13,⟨[],true,.qm,[],1,false,some ⟨e,[(.agg (bH k)),(.agg (bH j))],0,vO 4 (bH g),vO 4 (bH m)⟩⟩),(14,⟨[],true,.qm,[],1,false,none⟩)] [] (kp [0,1,2,4,5,10,11,12,36]) (kq [0,1,2,3]) 452 [0 < 1,Sd 71 [(.agg (bH j))] [] 0 (aI b) [],(!(decide (b < 0)))=true->bO [(!(decide (b < 0)))=true,0 < 1],(!(decide (b < 0)))=true->bO [(!(decide (b < 0)))=true,(!(decide (b < 0)))=true,0<=x/\x < (a.aA.length:Int)],(!(decide (b < 0)))=true->bO [(!(decide (b < 0)))=true],(!(decide (b < 0)))=true->bO [0 < 1],(!(decide (b < 0)))=true->bO [Sd 96 [(.agg [(aB (((a.aA.getD x.toNat ab.d).fN).fG)),(eU (((a.aA.getD x.toNat ab.d).fN).fL)),(aB (((a.aA.getD x.toNat ab.d).fD).fG)),(eU (((a.aA.getD x.toNat ab.d).fD).fL))]),(.agg (bH before))] [] 0 (.agg (bH k)) [],(!(decide (b < 0)))=true,(!(decide (b < 0)))=true],(!(decide (b < 0)))=true->bO [0 < 1],(!(decide (b < 0)))=true,(e=e/\(#[]:Array Value)=#[]/\(#[]:Array Value)=#[]/\([(.agg (bH k)),(.agg (bH j))]:List AV)=[(.agg (bH k)),(.agg (bH j))]/\(vO 4 (bH g):Ob)=vO 4 (bH g)),(!(decide (b < 0)))=true,(!(decide (b < 0)))=true,(!(decide (b < 0)))=true,(!(decide (b < 0)))=true] ⟨o1,(mq _ _ _ A),(fun d=>⟨d,o1,trivial⟩),(fun d=>⟨d,d,(B d),trivial⟩),(fun d=>⟨d,trivial⟩),(fun d=>⟨o1,trivial⟩),(fun d=>⟨(g9 _ _ _ _ (aN C d)),d,d,trivial⟩),(fun d=>⟨o1,trivial⟩),l,⟨rfl,rfl,rfl,rfl,rfl⟩,l,l,l,l,trivial⟩ ⟨trivial,⟨trivial,⟨p k j g m t,⟨trivial,trivial⟩⟩⟩⟩ ?_;refine sC 36 (gC 14746) (gC 14747) (cond (decide (b < 0)) true (!true)) (fun u=>?_) (fun u=>?_)
    ·have h:=aN h u;obtain rfl:=jS h;refine sW i ⟨[],[(0,vO 4 (bH m)),(1,vO 2 (zx a)),(2,vO 4 (bH f))],452⟩ [] [] (kq [0,1,2]) 452 [] trivial ?_;exact sT Tryz.f243 [] [] trivial
    ·have h:=a9 h u;refine sA 1 [.code (gC 3687),.inBlock 1,.code (gC 231),.inLoop (gC 28),.inBlock 0] ?_;obtain ⟨G,h⟩:=ae h;refine sR i ⟨[(0,(.atom (.func (.yield e) #[] #[]))),(1,(.op 1 0 0)),(2,(.op 2 0 0)),(4,(.op 3 0 0)),(10,(cA cI 0 a.ah)),(11,(aI (a.ah.length:Int))),(12,(aI x))],[(0,vO 4 (bH m)),(1,vO 2 (zx a)),(2,vO 4 (bH f)),(3,vO 4 [(aB (((a.aA.getD x.toNat ab.d).fN).fG)),(eU (((a.aA.getD x.toNat ab.d).fN).fL)),(aB (((a.aA.getD x.toNat ab.d).fD).fG)),(eU (((a.aA.getD x.toNat ab.d).fD).fL))])],548⟩ (gC 3687) [] [] (kp [0,1,2,4,10,11,12]) (kq [0,1,2,3]) 548 [0 < 1,0<=x/\x < (a.aA.length:Int),0 < 1] ⟨o1,G,o1,trivial⟩ ?_;refine sA 1 [.code (gC 231),.inLoop (gC 28),.inBlock 0] ?_;refine sR i ⟨[(0,(.atom (.func (.yield e) #[] #[]))),(1,(.op 1 0 0)),(2,(.op 2 0 0)),(4,(.op 3 0 0)),(10,(cA cI 0 a.ah)),(11,(aI (a.ah.length:Int))),(12,(aI (av (x+1))))],[(0,vO 4 (bH m)),(1,vO 2 (zx a)),(2,vO 4 (bH f)),(3,vO 4 [(aB (((a.aA.getD x.toNat ab.d).fN).fG)),(eU (((a.aA.getD x.toNat ab.d).fN).fL)),(aB (((a.aA.getD x.toNat ab.d).fD).fG)),(eU (((a.aA.getD x.toNat ab.d).fD).fL))])],580⟩ (gC 231) [] [] (kp [0,1,2,4,10,11,12]) (kq [0,1,2,3]) 580 [] trivial ?_;refine sA 1 [.code (gC 28),.inLoop (gC 28),.inBlock 0] ?_;exact sW i _ [] (kp [0,1,2,4,10,11,12]) (kq [0,1,2,3]) 4 [] trivial (z m (⟨((a.aA.getD x.toNat ab.d).fN),((a.aA.getD x.toNat ab.d).fD)⟩:ab) (av (x+1)) _ h E i e p)
   ·refine sR i ⟨[(0,(.atom (.func (.yield e) #[] #[]))),(1,(.op 1 0 0)),(2,(.op 2 0 0)),(4,(.op 3 0 0)),(5,(aI x)),(10,(cA cI 0 a.ah)),(11,(aI (a.ah.length:Int))),(12,(aI x)),(36,(aB (cond (decide (b < 0)) true false)))],[(0,vO 4 (bH g)),(1,vO 2 (zx a)),(2,vO 4 (bH f)),(3,vO 4 (bH before))],452⟩ (gC 7372) [(1,oT (aI b)),(11,oT (.agg (bH k))),(13,⟨[],true,(aB false),[],2,false,none⟩),(14,⟨[],true,(aB false),[],2,false,none⟩)] [] (kp [0,1,2,4,5,10,11,12,36]) (kq [0,1,2,3]) 452 [0 < 1,Sd 71 [(.agg (bH j))] [] 0 (aI b) [],(!(decide (b < 0)))=true->bO [(!(decide (b < 0)))=true,0 < 1],(!(decide (b < 0)))=true->bO [(!(decide (b < 0)))=true,(!(decide (b < 0)))=true,0<=x/\x < (a.aA.length:Int)],(!(decide (b < 0)))=true->bO [(!(decide (b < 0)))=true],(!(decide (b < 0)))=true->bO [0 < 1],(!(decide (b < 0)))=true->bO [Sd 96 [(.agg [(aB (((a.aA.getD x.toNat ab.d).fN).fG)),(eU (((a.aA.getD x.toNat ab.d).fN).fL)),(aB (((a.aA.getD x.toNat ab.d).fD).fG)),(eU (((a.aA.getD x.toNat ab.d).fD).fL))]),(.agg (bH before))] [] 0 (.agg (bH k)) [],(!(decide (b < 0)))=true,(!(decide (b < 0)))=true],(!(decide (b < 0)))=true->bO [0 < 1],(!(decide (b < 0)))=false,(!(decide (b < 0)))=false,(!(decide (b < 0)))=true->bO [(!(decide (b < 0)))=true]] ⟨o1,(mq _ _ _ A),(fun d=>⟨d,o1,trivial⟩),(fun d=>⟨d,d,(B d),trivial⟩),(fun d=>⟨d,trivial⟩),(fun d=>⟨o1,trivial⟩),(fun d=>⟨(g9 _ _ _ _ (aN C d)),d,d,trivial⟩),(fun d=>⟨o1,trivial⟩),l,l,(fun hq=>⟨hq,trivial⟩),trivial⟩ ?_;refine sC 36 (gC 14746) (gC 14747) (cond (decide (b < 0)) true false) (fun v=>?_) (fun v=>?_)
    ·have h:=aN h v;obtain rfl:=jS h;refine sW i ⟨[],[(0,vO 4 (bH g)),(1,vO 2 (zx a)),(2,vO 4 (bH f))],452⟩ [] [] (kq [0,1,2]) 452 [] trivial ?_;exact sT Tryz.f243 [] [] trivial
    ·have h:=a9 h v;refine sA 1 [.code (gC 3687),.inBlock 1,.code (gC 231),.inLoop (gC 28),.inBlock 0] ?_;obtain ⟨H,h⟩:=ae h;refine sR i ⟨[(0,(.atom (.func (.yield e) #[] #[]))),(1,(.op 1 0 0)),(2,(.op 2 0 0)),(4,(.op 3 0 0)),(10,(cA cI 0 a.ah)),(11,(aI (a.ah.length:Int))),(12,(aI x))],[(0,vO 4 (bH g)),(1,vO 2 (zx a)),(2,vO 4 (bH f)),(3,vO 4 [(aB (((a.aA.getD x.toNat ab.d).fN).fG)),(eU (((a.aA.getD x.toNat ab.d).fN).fL)),(aB (((a.aA.getD x.toNat ab.d).fD).fG)),(eU (((a.aA.getD x.toNat ab.d).fD).fL))])],548⟩ (gC 3687) [] [] (kp [0,1,2,4,10,11,12]) (kq [0,1,2,3]) 548 [0 < 1,0<=x/\x < (a.aA.length:Int),0 < 1] ⟨o1,H,o1,trivial⟩ ?_;refine sA 1 [.code (gC 231),.inLoop (gC 28),.inBlock 0] ?_;refine sR i ⟨[(0,(.atom (.func (.yield e) #[] #[]))),(1,(.op 1 0 0)),(2,(.op 2 0 0)),(4,(.op 3 0 0)),(10,(cA cI 0 a.ah)),(11,(aI (a.ah.length:Int))),(12,(aI (av (x+1))))],[(0,vO 4 (bH g)),(1,vO 2 (zx a)),(2,vO 4 (bH f)),(3,vO 4 [(aB (((a.aA.getD x.toNat ab.d).fN).fG)),(eU (((a.aA.getD x.toNat ab.d).fN).fL)),(aB (((a.aA.getD x.toNat ab.d).fD).fG)),(eU (((a.aA.getD x.toNat ab.d).fD).fL))])],580⟩ (gC 231) [] [] (kp [0,1,2,4,10,11,12]) (kq [0,1,2,3]) 580 [] trivial ?_;refine sA 1 [.code (gC 28),.inLoop (gC 28),.inBlock 0] ?_;exact sW i _ [] (kp [0,1,2,4,10,11,12]) (kq [0,1,2,3]) 4 [] trivial (z g (⟨((a.aA.getD x.toNat ab.d).fN),((a.aA.getD x.toNat ab.d).fD)⟩:ab) (av (x+1)) _ h E i e p)
  ·have h:=a9 h q;refine sA 1 [] ?_;obtain rfl:=jS h;refine sW i ⟨[],[(0,vO 4 (bH g)),(1,vO 2 (zx a)),(2,vO 4 (bH f))],51⟩ [] [] (kq [0,1,2]) 51 [] trivial ?_;exact sF Tryz.f243 [] [] trivial
theorem IV (N RD d a b r) (h:zC N RD d a b=some r):∀ E,ba E 3->∀ c,(∀ (e:ab) (f:ab) (j k:ab),RD e f j=some k->YOK Tryz.prog E ⟨c,[.agg (bH e),.agg (bH f)],0,vO 4 (bH j),vO 4 (bH k)⟩)->aK Tryz.prog E 243 43 (bd E [(0,vO 4 (bH r)),(1,vO 2 (zx a)),(2,vO 4 (bH b))] (.tup [])) [.code (gC 1)] ⟨Ag [(.atom (.func (.yield c) #[] #[])),(.op 1 0 0),(.op 2 0 0)] 0,[(0,vO 4 (bH d)),(1,vO 2 (zx a)),(2,vO 4 (bH b))],3⟩:=by
 intro E i c l;unfold zC at h;refine sA 1 [.code (gC 2),.code (gC 3)] ?_;obtain ⟨g,m,h⟩:=aW h;refine sR i ⟨[(0,(.atom (.func (.yield c) #[] #[]))),(1,(.op 1 0 0)),(2,(.op 2 0 0)),(4,(.op 19 0 0))],[(0,vO 4 (bH d)),(1,vO 2 (zx a)),(2,vO 4 (bH b)),(19,vO 4 (bH g))],51⟩ (gC 2) [(0,oT (.agg (bH g)))] [] (kp [0,1,2,4]) (kq [0,1,2,19]) 51 [Sd 83 [(aI 0)] [] 0 (.agg (bH g)) [],0 < 1] ⟨(eV _ _ _ m),o1,trivial⟩ ?_;refine sA 1 [.code (gC 6),.code (gC 7)] ?_;refine sR i ⟨[(0,(.atom (.func (.yield c) #[] #[]))),(1,(.op 1 0 0)),(2,(.op 2 0 0)),(4,(.op 19 0 0)),(10,(cA cI 0 a.ah)),(11,(aI (a.ah.length:Int))),(12,(aI 0))],[(0,vO 4 (bH d)),(1,vO 2 (zx a)),(2,vO 4 (bH b)),(19,vO 4 (bH g))],115⟩ (gC 6) [] [] (kp [0,1,2,4,10,11,12]) (kq [0,1,2,19]) 115 [0 < 1] ⟨o1,trivial⟩ ?_;refine sA 2 [.code (gC 28),.inLoop (gC 28),.inBlock 0] ?_;exact sW i _ [] (kp [0,1,2,4,10,11,12]) (kq [0,1,2] ++ [(3,.ak 19)]) 4 [] trivial (MA N RD a b N d g 0 _ h E i c l)
noncomputable abbrev lD:=bt Tryz.f192
theorem S7 (N:Nat) (change:ab) (VF:ab) (sum:ab) (r:ab) (h:zD N change VF sum=some r):∀ E,ba E 1 ->
  WI Tryz.prog E 28 (rfA (lD 122)) ⟨[(7,(.op 0 0 0)),(20,(.agg (bH change))),(21,(.agg (bH VF)))],[(0,vO 4 (bH sum))],1⟩ ⟨[(7,(.op 0 0 0)),(8,(.op 1 0 0)),(9,(.op 33 0 0))],[(0,vO 4 (bH sum)),(1,vO 4 (bH change)),(33,vO 4 (bH VF))],65⟩/\WI Tryz.prog E 28 (rfB (lD 122)) ⟨[(7,(.op 0 0 0)),(8,(.op 1 0 0)),(9,(.op 33 0 0))],[(0,vO 4 (bH sum)),(1,vO 4 (bH change)),(33,vO 4 (bH VF))],65⟩ ⟨[],[(0,vO 4 (bH r))],161⟩:=by
 unfold zD at h;obtain ⟨a,d,h⟩:=aW h;obtain ⟨b,e,h⟩:=aW h;obtain rfl:=jS h;exact fun E c=>⟨(WI.sS (cat (rfA (lD 122)) (pth 2)) (cat (rfA (lD 122)) (pth 3)) (WI.sR c ⟨[(7,(.op 0 0 0)),(20,(.agg (bH change))),(21,(.agg (bH VF)))],[(0,vO 4 (bH sum))],1⟩ ⟨[(7,(.op 0 0 0)),(8,(.op 1 0 0)),(21,(.agg (bH VF)))],[(0,vO 4 (bH sum)),(1,vO 4 (bH change))],33⟩ (cat (rfA (lD 122)) (pth 2)) [] [] (kp [7,8,21]) (kq [0,1]) 33 [0 < 1] ⟨o1,trivial⟩) (WI.sR c ⟨[(7,(.op 0 0 0)),(8,(.op 1 0 0)),(21,(.agg (bH VF)))],[(0,vO 4 (bH sum)),(1,vO 4 (bH change))],33⟩ ⟨[(7,(.op 0 0 0)),(8,(.op 1 0 0)),(9,(.op 33 0 0))],[(0,vO 4 (bH sum)),(1,vO 4 (bH change)),(33,vO 4 (bH VF))],65⟩ (cat (rfA (lD 122)) (pth 3)) [] [] (kp [7,8,9]) (kq [0,1,33]) 65 [0 < 1] ⟨o1,trivial⟩)),(WI.sB 1 (cat (rfB (lD 122)) (pth 2)) (WI.sR c ⟨[(7,(.op 0 0 0)),(8,(.op 1 0 0)),(9,(.op 33 0 0))],[(0,vO 4 (bH sum)),(1,vO 4 (bH change)),(33,vO 4 (bH VF))],65⟩ ⟨[],[(0,vO 4 (bH b))],161⟩ (cat (rfB (lD 122)) (pth 2)) [(3,oT (.agg (bH a))),(4,oT (.agg (bH b)))] [] [] (kq [0]) 161 [0 < 1,0 < 1,0 < 1,Sd 93 [(.agg (bH change)),(.agg (bH VF))] [] 0 (.agg (bH a)) [],Sd 92 [(.agg (bH sum)),(.agg (bH a))] [] 0 (.agg (bH b)) [],0 < 1] ⟨o1,o1,o1,(bN _ _ _ _ d),(bF _ _ _ _ e),o1,trivial⟩))⟩
theorem Yc (N c y r) (h:Es N c y=some r):Sd 192 [(.agg (zx c)),(.agg (bH y))] [] 0 (.tup [(.agg (bH r.1)),(aI r.2)]) []:=by
 unfold Es at h;refine so2 (fu:=Tryz.f192) (c:=lD 1) (nt:=28) (fun hm=>rfl) ?_;intro E b;refine sA 1 [.code (lD 2),.code (lD 3)] ?_;refine sR b ⟨[(2,(.op 0 0 0)),(3,(.op 16 0 0)),(4,(.op 32 0 0))],[(0,vO 2 (zx c)),(16,vO 4 (bH y)),(32,vO 4 [(aB false),.nil,(aB false),.nil])],64⟩ (lD 2) [] [] (kp [2,3,4]) (kq [0,16,32]) 64 [] trivial ?_;refine sA 2 [.code (lD 12),.code (lD 13),.code (lD 7)] ?_;obtain ⟨d,B,h⟩:=aW h;refine sR b ⟨[(2,(.op 0 0 0)),(3,(.op 16 0 0)),(4,(.op 32 0 0)),(6,(aI d))],[(0,vO 2 (zx c)),(16,vO 4 (bH y)),(32,vO 4 [(aB false),.nil,(aB false),.nil])],112⟩ (lD 12) [(1,oT (aI d))] [] (kp [2,3,4,6]) (kq [0,16,32]) 112 [0 < 1,Sd 190 [(.agg (zx c))] [] 0 (aI d) []] ⟨o1,(tj _ _ _ B),trivial⟩ ?_;refine sA 1 [.code (lD 26),.code (lD 27),.code (lD 7)] ?_;refine sR b ⟨[(2,(.op 0 0 0)),(3,(.op 16 0 0)),(4,(.op 32 0 0)),(6,(aI d)),(13,(aB (d != 0)))],[(0,vO 2 (zx c)),(16,vO 4 (bH y)),(32,vO 4 [(aB false),.nil,(aB false),.nil])],144⟩ (lD 26) [] [] (kp [2,3,4,6,13]) (kq [0,16,32]) 144 [] trivial ?_;refine sC 13 (lD 54) (lD 55) (d != 0) (fun m=>?_) (fun m=>?_)
 ·have h:=aN h m;refine sA 1 [.code (lD 108),.code (lD 109),.code (lD 7)] ?_;refine sR b ⟨[(4,(.op 32 0 0)),(5,(aI d))],[(32,vO 4 [(aB false),.nil,(aB false),.nil])],208⟩ (lD 108) [] [] (kp [4,5]) (kq [32]) 208 [0 < 1] ⟨o1,trivial⟩ ?_;obtain rfl:=jS h;refine sW b ⟨[(4,(.op 16 0 0)),(5,(aI d))],[(16,vO 4 [(aB false),(eU ([]:List Int)),(aB false),(eU ([]:List Int))])],208⟩ [] (kp [4,5]) [(16,.var 32 [.ak,.sl (([]:List Int).length) (fun zi=>(cU .u16) (([]:List Int).getD zi 0)),.ak,.sl (([]:List Int).length) (fun zi=>(cU .u16) (([]:List Int).getD zi 0))])] 208 [([]:List Int).length=0,([]:List Int).length=0] ⟨rfl,rfl,trivial⟩ ?_;exact sT Tryz.f192 [16] [0 < 1] ⟨o1,trivial⟩
 ·have h:=a9 h m;refine sA 2 [.code (lD 14),.code (lD 15)] ?_;obtain ⟨f,C,h⟩:=aW h;refine sR b ⟨[(2,(.op 0 0 0)),(3,(.op 16 0 0)),(4,(.op 32 0 0)),(7,(.op 160 0 0))],[(0,vO 2 (zx c)),(16,vO 4 (bH y)),(32,vO 4 [(aB false),.nil,(aB false),.nil]),(160,vO 4 (bH f))],192⟩ (lD 14) [(0,oT (.agg (bH f)))] [] (kp [2,3,4,7]) (kq [0,16,32,160]) 192 [Sd 83 [(aI 0)] [] 0 (.agg (bH f)) [],0 < 1] ⟨(eV _ _ _ C),o1,trivial⟩ ?_;refine sA 2 [.code (lD 60),.code (lD 61),.code (lD 31)] ?_;obtain ⟨a,F,h⟩:=aW h;refine sR b ⟨[(4,(.op 32 0 0)),(7,(.op 160 0 0)),(19,(.fn (.func 243) [] [(.op 224 0 0),(.op 225 0 0)]))],[(32,vO 4 [(aB false),.nil,(aB false),.nil]),(160,vO 4 (bH f)),(224,vO 2 (zx a.1)),(225,vO 4 (bH a.2))],240⟩ (lD 60) [(2,⟨[],false,(.fn (.func 243) [] [(.op 0 0 0),(.op 1 0 0)]),[(0,vO 2 (zx a.1)),(1,vO 4 (bH a.2))],0,false,none⟩)] [] (kp [4,7,19]) (kq [32,160,224,225]) 240 [0 < 1,0 < 1,Sd 223 [(.agg (zx c)),(.agg (bH y))] [] 0 (.fn (.func 243) [] [(.op 0 0 0),(.op 1 0 0)]) [(0,vO 2 (zx a.1)),(1,vO 4 (bH a.2))]] ⟨o1,o1,(Mz _ _ _ _ F),trivial⟩ ?_;refine sA 1 [.code (lD 122),.inBlock 0,.code (lD 31)] ?_;obtain ⟨rr,n,h⟩:=aW h;refine aK.range (m1:=3) (m9:=1) (nt1:=43) (orc:=⟨[160,224,225],false,.tup [],[(0,vO 4 (bH rr)),(1,vO 2 (zx a.1)),(2,vO 4 (bH a.2))],0,false,none⟩) (avs:=fun l=>[.atom (.func (.yield l) #[] #[]),.op 1 0 0,.op 2 0 0]) (zr:=[(0,vO 4 (bH f)),(1,vO 2 (zx a.1)),(2,vO 4 (bH a.2))]) (gV:=[(0,vO 4 (bH rr)),(1,vO 2 (zx a.1)),(2,vO 4 (bH a.2))]) (res:=.tup []) (x:=.tup []) (gid:=243) (fu:=Tryz.f243) (c1:=gC 1) (rds:=[160,224,225]) (upd:=GQ [160,224,225] 240 [(0,vO 4 (bH rr)),(1,vO 2 (zx a.1)),(2,vO 4 (bH a.2))] 0 [160,224,225] ++ (JN [160,224,225] 240 [(0,vO 4 (bH rr)),(1,vO 2 (zx a.1)),(2,vO 4 (bH a.2))] ++ [])) b rfl rfl (by kernel_rfl) (by kernel_rfl) (by kernel_rfl) (fun _=>by kernel_rfl) (fun l=>by kernel_rfl) (fun G l rq hm H o I p g has q J s=>?_) (by decide) (by decide) (by show (1:Nat)<=256;decide) (fun Q D i K t L o u=>?_)
  ·refine IV N (zD N) f a.1 a.2 rr n G ⟨hm,fun h=>absurd h (by decide)⟩ l (fun j k A M O=>?_);have W:=S7 N j k A M O;refine ah5 (nt:=28) H o I p (by rw [hm];decide) rfl rfl (by show (4:Nat)≠0;decide) rfl (by rw [g];rfl) (st0:=⟨[(7,(.op 0 0 0)),(20,(.agg (bH j))),(21,(.agg (bH k)))],[(0,vO 4 (bH A))],1⟩) rfl rfl ?_ ?_ (fun v e=>by rw [has];exact (W v e).1) (fun v e=>by rw [q];exact (W v e).2)
   ·rfl
   ·intro w S μ vs z P;exact VA g J (by decide) (by decide) (by decide) (by decide) (by decide) (s 7) z P
  ·refine jM.sA 2 [.code (lD 62),.code (lD 63)] ?_;refine jM.sR i ⟨[(4,(.op 32 0 0)),(5,(aI 0))],[(32,vO 4 (bH rr))],304⟩ (lD 62) [] [] (kp [4,5]) (kq [32]) 304 [0 < 1,0 < 1] ⟨o1,o1,trivial⟩ ?_;obtain rfl:=jS h;refine jM.sW i ⟨[(4,(.op 16 0 0)),(5,(aI 0))],[(16,vO 4 (bH rr))],304⟩ [] (kp [4,5]) [(16,.ak 32)] 304 [] trivial ?_;exact jM.sT K t L o u Tryz.f192 [16] [0 < 1] ⟨o1,trivial⟩
theorem JU (N s a r) (h:uq N s a=some r):Sd 136 [(ZN s),(nh a)] [] 0 (aj r) []:=by
 unfold uq at h;refine sO Tryz.f136 17 fun E b=>?_;refine ax b 1 iI fU 48 ?_;obtain ⟨d,e,h⟩:=aW h;obtain ⟨c,f,h⟩:=aW h;refine bK b 1 [(4,oT (aj d)),(5,oT (Xh c))] (kp [4,5]) (kq [32,192]) 240 (pc o1 (pc o1 (pc o1 (pc (pE _ _ _ _ e) (pc (Yc _ _ _ _ f) (pc o1 pn)))))) <| dV b 1 (kp [4]) (kq [32]) 272 (pc o1 (pc o1 pn)) ?_
 cases h;exact mh b 0 Tryz.f136 [] (kp [4]) [(16,.ak 32)] 272 pn [16] (pc o1 pn)
theorem Gq (N s a r) (h:uM N s a=some r):Sd 135 [(ZN s),(.op 0 0 0)] [(kB a)] 1 (aj r) [(kB a)]:=by
 unfold uM at h;refine sO Tryz.f135 7 fun E b=>?_;refine ax b 1 Lc (kq [0,1,17]) 33 ?_;obtain ⟨c,d,h⟩:=aW h;refine bK b 1 [(2,oT (aj c))] (kp [3]) (kq [0,17]) 97 (pc o1 (pc o1 (pc (JU _ _ _ _ d) (pc o1 pn)))) ?_;obtain rfl:=jS h;exact mh b 0 Tryz.f135 [] (kp [3]) (kq [0,17]) 97 pn [17] (pc o1 pn)
noncomputable abbrev ajl:=bt Tryz.f134
def CE (N:Nat) (l:List af) (a:aw) (K:bh->Int->Option (bh×Int)):Prop:=∀ (out:List ab) (x:Int) (r:bh×Int),K out x=some r->∀ E,ba E 1->aK Tryz.prog E 134 29 (bd E [(kB a),(1,aO 4 bH ab.d r.1)] (.tup [(.os 1 0 r.1.length),(aI r.2)])) [.code (ajl 244),.inLoop (ajl 244),.inBlock 0,.code (ajl 31)] ⟨[(1,(.fn (.func 135) [] [(.op 0 0 0)])),(7,(.os 1 0 out.length)),(15,(oW l)),(16,(Dr l)),(17,(aI x))],[(kB a),(vT out)],2⟩
theorem Cg (N l d fuel):CE N l d (gz N l d fuel):=by
 induction fuel with
 | zero=>intro _ _ r h;rw [gz.eq_1] at h;cases h
 | succ fuel e =>
  intro out x r h E b;rw [gz.eq_2] at h;refine ax b 1 (kp [1,7,15,16,17,18]) (kq [0,1]) 18 <| dr 1 18 h (fun f h=>?_) (fun f h=>?_)
  ·obtain ⟨c,h⟩:=ae h;refine dV b 4 (kp [1,7,9,15,16,17]) XZ 82 (pc c (pc o1 pn)) ?_;obtain ⟨a,g,h⟩:=aW h;obtain ⟨i,h⟩:=ae h;refine bK b 0 [(3,⟨[0],true,(aj a),[],0,false,none⟩)] (kp [1] ++ [(7,.l5 (Ml out a))] ++ kp [15,16,17]) (kq [0] ++ [(162,ri 162 bH ab.d (Mk out a))]) 194 (pc o1 (pc (Gq _ _ _ _ g) (pc (Eq.refl out.length) (pc i (pc (z1 1) (pc (oN [[(kU a),(kW a),(kT a),(kV a)]]) (pc (bL out (mc a)) (pc (bL out (mc a)) (pc (LR bH ab.d out (mc a)) pn))))))))) <| ax b 1 acz (kq [0,162]) 226 <| cY b 1 acz (kq [0] ++ [(1,.ak 162)]) 2 (e _ _ _ h E b)
  ·refine ax b 2 (kp [4,5]) (kq [0,1]) 66 ?_;cases h;exact iG b 0 Tryz.f134 (kp [4,5]) (kq [0,1]) 66
theorem E2 (N l b r) (h:tO N l b=some r):Sd 134 [(oW l),(.fn (.func 135) [] [(.op 0 0 0)])] [(kB b)] 1 (.tup [(.os 1 0 r.1.length),(aI r.2)]) [(kB b),(1,aO 4 bH ab.d r.1)]:=by
 unfold tO at h;refine sO Tryz.f134 29 fun E a=>?_;refine ax a 1 (kp [0,1]) (kq [0]) 33 ?_;obtain ⟨c,d,h⟩:=aW h;refine bK a 2 [(1,oT (aI c))] (kp [0,1,6]) (kq [0]) 81 (pc (AS _ _ _ d) pn) <| ax a 1 (kp [0,1,6,13]) (kq [0]) 113 <| dr 0 13 h (fun e h=>?_) (fun e h=>?_)
 ·refine ax a 1 (kp [4,5]) (kq [0]) 161 ?_;cases h;exact iG a 0 Tryz.f134 ([(4,.tD 1)] ++ kp [5]) acL 161
 ·refine ax a 2 (kp [0,1,7]) (kq [0]) 129 <| ax a 2 acz (kq [0]) 177 <| cY a 2 (kp [1] ++ [(7,.tD 1)] ++ kp [15,16,17]) acL 2 (Cg N _ _ N _ _ _ h E a)
theorem tX (N l a r) (h:na N l a=some r):Sd 67 [(oW l),(nh a)] [] 0 (N9 r) []:=by
 unfold na at h;refine sO Tryz.f67 11 fun E c=>?_;refine ax c 1 (kp [0,3]) (kq [0]) 48 ?_;obtain ⟨b,d,h⟩:=aW h;refine bK c 1 [(2,⟨[0],true,(.tup [(.os 1 0 b.1.length),(aI b.2)]),[(1,aO 4 bH ab.d b.1)],0,false,none⟩)] (kp [4,5]) (kq [80]) 160 (pc (E2 _ _ _ _ d) pn) ?_;cases h;exact mh c 0 Tryz.f67 [80] ([(4,rh bH ab.d b.1)] ++ kp [5]) [] 160 (pc (Eq.refl b.1.length) (pc (z1 b.1.length) (pc (eZ bH ab.d b.1) pn))) [] pn
noncomputable abbrev ajm:=bt Tryz.f224
def Hs (N:Nat) (l:List af) (f:List ab) (K:gX->Int->Option (gX)):Prop:=∀ (a:gX) (x:Int) (r:gX),K a x=some r->∀ E,ba E 0->aK Tryz.prog E 224 40 (bd E [] (.agg (gX.cells r))) [.code (ajm 116),.inLoop (ajm 116),.inBlock 0,.code (ajm 15)] ⟨[(1,(nW f)),(4,(.op 0 0 0)),(5,(.op 1 0 0)),(11,(oW l)),(12,(Dr l)),(13,(aI x))],[(0,vO 8 [(aB false),.nil,(aB false),.nil,(aB false),.nil,(aB false),.nil]),(1,vO 8 (gX.cells a))],2⟩
theorem Gr (N l f fuel):Hs N l f (jk N l f fuel):=by
 induction fuel with
 | zero=>intro _ _ r h;rw [jk.eq_1] at h;cases h
 | succ fuel d =>
  intro q x r h E a;rw [jk.eq_2] at h;refine ax a 1 (kp [1,4,5,11,12,13,14]) (kq [0,1]) 18 <| dr 1 14 h (fun e h=>?_) (fun e h=>?_)
  ·obtain ⟨c,h⟩:=ae h;refine dV a 4 (kp [1,4,5,6,7,11,12,13]) (kq [0,1,66]) 114 (pc c (pc o1 pn)) ?_;obtain ⟨b,h⟩:=ae h;obtain ⟨g,i,h⟩:=aW h;refine bK a 1 [(6,oT (aj g))] (kp [1,4,5,6,7,11,12,13]) (kq [0,1,66]) 258 (pc o1 (pc b (pc (bF _ _ _ _ i) (pc o1 pn)))) ?_;obtain ⟨j,k,h⟩:=aW h;obtain ⟨m,n,h⟩:=aW h;obtain ⟨o,p,h⟩:=aW h;refine bK a 0 [(8,oT (aj j)),(9,oT (aj m)),(10,oT (aj o))] Ss (kq [0,1]) 466 (pc o1 (pc b (pc o1 (pc (an _ _ _ k) (pc (bN _ _ _ _ n) (pc (bF _ _ _ _ p) (pc o1 pn))))))) <| ax a 1 Ss (kq [0,1]) 498 <| cY a 1 Ss (kq [0,1]) 2 (d _ _ _ h E a)
  ·refine dV a 2 (kp [4]) (kq [0]) 50 (pc o1 (pc o1 pn)) ?_;obtain rfl:=jS h;exact mh a 0 Tryz.f224 [] (kp [4]) [(16,.ak 0)] 50 pn [16] (pc o1 pn)
theorem JV (N l f r) (h:yF N l f=some r):Sd 224 [(oW l),(nW f)] [] 0 (.agg (gX.cells r)) []:=by
 unfold yF at h;refine sO Tryz.f224 40 fun E a=>?_;refine ax a 1 Iq (kq [0]) 16 ?_;obtain ⟨b,c,h⟩:=aW h;obtain ⟨d,e,h⟩:=aW h;refine bK a 1 [(0,oT (aj b)),(1,oT (aj d))] Xy (kq [0,64]) 96 (pc (an _ _ _ c) (pc (an _ _ _ e) (pc o1 pn))) <| ax a 2 Ss (kq [0,64]) 144 <| cY a 2 Ss (kq [0] ++ [(1,.ak 64)]) 2 (Gr N _ _ N _ _ _ h E a)
theorem uT (N l a r) (h:ox N l a=some r):Sd 194 [(oW l),(nh a)] [] 0 (Xj r) []:=by
 unfold ox at h;refine sO Tryz.f194 21 fun E b=>?_;refine ax b 1 B4 jt 48 ?_;obtain ⟨d,e,h⟩:=aW h;refine bK b 1 [(2,oT (N9 d))] (kp [0,4,6,7]) (kq [16]) 176 (pc o1 (pc (tX _ _ _ _ e) pn)) <| ax b 2 (kp [0,4,6,7,15]) (kq [16]) 208 <| dr 0 15 h (fun f h=>?_) (fun f h=>?_)
 ·refine dV b 1 (kp [4,5]) (kq [16]) 272 (pc o1 pn) ?_;cases h;exact mh b 0 Tryz.f194 [] (kp [4,5]) [(16,.var 16 [.ak,rh (cU .u16) 0 ([]:List Int),.ak,rh (cU .u16) 0 ([]:List Int),.ak,rh (cU .u16) 0 ([]:List Int),.ak,rh (cU .u16) 0 ([]:List Int)])] 272 (pc (Eq.refl 0) (pc (Eq.refl 0) (pc (Eq.refl 0) (pc (Eq.refl 0) pn)))) [16] (pc o1 pn)
 ·obtain ⟨c,g,h⟩:=aW h;refine bK b 2 [(2,oT (.agg (gX.cells c)))] (kp [4,5]) (kq [16]) 288 (pc (JV _ _ _ _ g) (pc o1 pn)) ?_;cases h;exact mh b 0 Tryz.f194 [] (kp [4,5]) (kq [16]) 288 pn [16] (pc o1 pn)
theorem mM (N b a r) (h:iC N b a=some r):Sd 138 [(zM b),(nh a)] [] 0 (aj r) []:=by
 unfold iC at h;refine sO Tryz.f138 23 fun E c=>?_;refine ax c 1 iI fU 48 ?_;obtain ⟨d,e,h⟩:=aW h;refine bK c 1 [(3,oT (Xj d))] (kp [2,4,5]) (kq [0,32,160]) 208 (pc o1 (pc o1 (pc (uT _ _ _ _ e) (pc o1 pn)))) ?_;obtain ⟨f,g,h⟩:=aW h;obtain ⟨i,j,h⟩:=aW h;obtain ⟨k,l,h⟩:=aW h;refine bK c 1 [(4,oT (aj f)),(7,oT (aj i)),(8,oT (aj k))] (kp [4]) (kq [32]) 368 (pc o1 (pc o1 (pc (an _ _ _ g) (pc o1 (pc (bN _ _ _ _ j) (pc (g9 _ _ _ _ l) (pc o1 pn))))))) ?_;obtain rfl:=jS h;exact mh c 0 Tryz.f138 [] (kp [4]) [(16,.ak 32)] 368 pn [16] (pc o1 pn)
theorem xU (N x r) (h:nC N x=some r):Sd 140 [(aj x)] [] 0 (aj r) []:=by
 unfold nC at h;refine sO Tryz.f140 6 fun E a=>?_;refine ax a 1 (kp [1,2]) jt 32 ?_;obtain ⟨b,c,h⟩:=aW h;refine bK a 1 [(2,oT (aj b))] (kp [2]) (kq [16]) 96 (pc o1 (pc (show Sd 96 [(.agg [(aB false),.nil,(aB false),.nil]),(aj x)] [] 0 (aj b) [] from (Sound.conv (g9 _ _ _ _ c) (.cons (Alike.agg (.cons (Alike.refl _) (.cons Alike.nil (.cons (Alike.refl _) (.cons Alike.nil .nil))))) (.cons (Alike.refl _) .nil)))) (pc o1 pn))) ?_;obtain rfl:=jS h;exact mh a 0 Tryz.f140 [] (kp [2]) (kq [16]) 96 pn [16] (pc o1 pn)
theorem uU (N a r) (h:ur N a=some r):Sd 197 [(nh a)] [] 0 (.fn (.func 227) [] [(.op 0 0 0)]) [(kB r)]:=by
 unfold ur at h;refine sO Tryz.f197 4 fun E b=>?_;refine ax b 1 (kp [1]) (kq [0]) 32 <| ax b 1 (kp [2]) (kq [0]) 64 ?_
 obtain rfl:=jS h;exact iG b 0 Tryz.f197 (kp [2]) (kq [0]) 64
theorem v9 (N a r) (h:ss N a=some r):Sd 198 [(nh a)] [] 0 (.fn (.func 229) [] [(.op 0 0 0)]) [(kB r)]:=by
 unfold ss at h;refine sO Tryz.f198 4 fun E b=>?_;refine ax b 1 (kp [1]) (kq [0]) 32 <| ax b 1 (kp [2]) (kq [0]) 64 ?_
 obtain rfl:=jS h;exact iG b 0 Tryz.f198 (kp [2]) (kq [0]) 64
noncomputable abbrev mN:=bt Tryz.f228
theorem S8 (N:Nat) (change:ab) (VF:ab) (sum:ab) (r:ab) (h:zE N change VF sum=some r):∀ E,ba E 1 ->
  WI Tryz.prog E 25 (rfA (mN 122)) ⟨[(7,(.op 0 0 0)),(19,(.agg (bH change))),(20,(.agg (bH VF)))],[(0,vO 4 (bH sum))],1⟩ ⟨[(7,(.op 0 0 0)),(8,(.op 1 0 0))],[(0,vO 4 (bH sum)),(1,vO 4 (bH change))],33⟩/\WI Tryz.prog E 25 (rfB (mN 122)) ⟨[(7,(.op 0 0 0)),(8,(.op 1 0 0))],[(0,vO 4 (bH sum)),(1,vO 4 (bH change))],33⟩ ⟨[],[(0,vO 4 (bH r))],97⟩:=by
 unfold zE at h;obtain ⟨a,c,h⟩:=aW h;obtain rfl:=jS h;exact fun E b=>⟨(WI.sR b ⟨[(7,(.op 0 0 0)),(19,(.agg (bH change))),(20,(.agg (bH VF)))],[(0,vO 4 (bH sum))],1⟩ ⟨[(7,(.op 0 0 0)),(8,(.op 1 0 0))],[(0,vO 4 (bH sum)),(1,vO 4 (bH change))],33⟩ (rfA (mN 122)) [] [] (kp [7,8]) (kq [0,1]) 33 [0 < 1] ⟨o1,trivial⟩),(WI.sB 1 (cat (rfB (mN 122)) (pth 2)) (WI.sR b ⟨[(7,(.op 0 0 0)),(8,(.op 1 0 0))],[(0,vO 4 (bH sum)),(1,vO 4 (bH change))],33⟩ ⟨[],[(0,vO 4 (bH a))],97⟩ (cat (rfB (mN 122)) (pth 2)) [(2,oT (.agg (bH a)))] [] [] (kq [0]) 97 [0 < 1,0 < 1,Sd 92 [(.agg (bH sum)),(.agg (bH change))] [] 0 (.agg (bH a)) [],0 < 1] ⟨o1,o1,(bF _ _ _ _ c),o1,trivial⟩))⟩
theorem Yd (N c y r) (h:Et N c y=some r):Sd 228 [(.agg (zx c)),(.agg (bH y))] [] 0 (.tup [(.agg (bH r.1)),(aI r.2)]) []:=by
 unfold Et at h;refine so2 (fu:=Tryz.f228) (c:=mN 1) (nt:=25) (fun hm=>rfl) ?_;intro E b;refine sA 1 [.code (mN 2),.code (mN 3)] ?_;refine sR b ⟨[(2,(.op 0 0 0)),(3,(.op 16 0 0)),(4,(.op 32 0 0))],[(0,vO 2 (zx c)),(16,vO 4 (bH y)),(32,vO 4 [(aB false),.nil,(aB false),.nil])],64⟩ (mN 2) [] [] (kp [2,3,4]) (kq [0,16,32]) 64 [] trivial ?_;refine sA 2 [.code (mN 12),.code (mN 13),.code (mN 7)] ?_;obtain ⟨d,B,h⟩:=aW h;refine sR b ⟨[(2,(.op 0 0 0)),(3,(.op 16 0 0)),(4,(.op 32 0 0)),(6,(aI d))],[(0,vO 2 (zx c)),(16,vO 4 (bH y)),(32,vO 4 [(aB false),.nil,(aB false),.nil])],112⟩ (mN 12) [(1,oT (aI d))] [] (kp [2,3,4,6]) (kq [0,16,32]) 112 [0 < 1,Sd 190 [(.agg (zx c))] [] 0 (aI d) []] ⟨o1,(tj _ _ _ B),trivial⟩ ?_;refine sA 1 [.code (mN 26),.code (mN 27),.code (mN 7)] ?_;refine sR b ⟨[(2,(.op 0 0 0)),(3,(.op 16 0 0)),(4,(.op 32 0 0)),(6,(aI d)),(12,(aB (d != 0)))],[(0,vO 2 (zx c)),(16,vO 4 (bH y)),(32,vO 4 [(aB false),.nil,(aB false),.nil])],144⟩ (mN 26) [] [] (kp [2,3,4,6,12]) (kq [0,16,32]) 144 [] trivial ?_;refine sC 12 (mN 54) (mN 55) (d != 0) (fun m=>?_) (fun m=>?_)
 ·have h:=aN h m;refine sA 1 [.code (mN 108),.code (mN 109),.code (mN 7)] ?_;refine sR b ⟨[(4,(.op 32 0 0)),(5,(aI d))],[(32,vO 4 [(aB false),.nil,(aB false),.nil])],208⟩ (mN 108) [] [] (kp [4,5]) (kq [32]) 208 [0 < 1] ⟨o1,trivial⟩ ?_;obtain rfl:=jS h;refine sW b ⟨[(4,(.op 16 0 0)),(5,(aI d))],[(16,vO 4 [(aB false),(eU ([]:List Int)),(aB false),(eU ([]:List Int))])],208⟩ [] (kp [4,5]) [(16,.var 32 [.ak,.sl (([]:List Int).length) (fun zi=>(cU .u16) (([]:List Int).getD zi 0)),.ak,.sl (([]:List Int).length) (fun zi=>(cU .u16) (([]:List Int).getD zi 0))])] 208 [([]:List Int).length=0,([]:List Int).length=0] ⟨rfl,rfl,trivial⟩ ?_;exact sT Tryz.f228 [16] [0 < 1] ⟨o1,trivial⟩
 ·have h:=a9 h m;refine sA 2 [.code (mN 14),.code (mN 15)] ?_;obtain ⟨f,C,h⟩:=aW h;refine sR b ⟨[(2,(.op 0 0 0)),(3,(.op 16 0 0)),(4,(.op 32 0 0)),(7,(.op 160 0 0))],[(0,vO 2 (zx c)),(16,vO 4 (bH y)),(32,vO 4 [(aB false),.nil,(aB false),.nil]),(160,vO 4 (bH f))],192⟩ (mN 14) [(0,oT (.agg (bH f)))] [] (kp [2,3,4,7]) (kq [0,16,32,160]) 192 [Sd 83 [(aI 0)] [] 0 (.agg (bH f)) [],0 < 1] ⟨(eV _ _ _ C),o1,trivial⟩ ?_;refine sA 2 [.code (mN 60),.code (mN 61),.code (mN 31)] ?_;obtain ⟨a,F,h⟩:=aW h;refine sR b ⟨[(4,(.op 32 0 0)),(7,(.op 160 0 0)),(18,(.fn (.func 243) [] [(.op 224 0 0),(.op 225 0 0)]))],[(32,vO 4 [(aB false),.nil,(aB false),.nil]),(160,vO 4 (bH f)),(224,vO 2 (zx a.1)),(225,vO 4 (bH a.2))],240⟩ (mN 60) [(2,⟨[],false,(.fn (.func 243) [] [(.op 0 0 0),(.op 1 0 0)]),[(0,vO 2 (zx a.1)),(1,vO 4 (bH a.2))],0,false,none⟩)] [] (kp [4,7,18]) (kq [32,160,224,225]) 240 [0 < 1,0 < 1,Sd 223 [(.agg (zx c)),(.agg (bH y))] [] 0 (.fn (.func 243) [] [(.op 0 0 0),(.op 1 0 0)]) [(0,vO 2 (zx a.1)),(1,vO 4 (bH a.2))]] ⟨o1,o1,(Mz _ _ _ _ F),trivial⟩ ?_;refine sA 1 [.code (mN 122),.inBlock 0,.code (mN 31)] ?_;obtain ⟨rr,n,h⟩:=aW h;refine aK.range (m1:=3) (m9:=1) (nt1:=43) (orc:=⟨[160,224,225],false,.tup [],[(0,vO 4 (bH rr)),(1,vO 2 (zx a.1)),(2,vO 4 (bH a.2))],0,false,none⟩) (avs:=fun l=>[.atom (.func (.yield l) #[] #[]),.op 1 0 0,.op 2 0 0]) (zr:=[(0,vO 4 (bH f)),(1,vO 2 (zx a.1)),(2,vO 4 (bH a.2))]) (gV:=[(0,vO 4 (bH rr)),(1,vO 2 (zx a.1)),(2,vO 4 (bH a.2))]) (res:=.tup []) (x:=.tup []) (gid:=243) (fu:=Tryz.f243) (c1:=gC 1) (rds:=[160,224,225]) (upd:=GQ [160,224,225] 240 [(0,vO 4 (bH rr)),(1,vO 2 (zx a.1)),(2,vO 4 (bH a.2))] 0 [160,224,225] ++ (JN [160,224,225] 240 [(0,vO 4 (bH rr)),(1,vO 2 (zx a.1)),(2,vO 4 (bH a.2))] ++ [])) b rfl rfl (by kernel_rfl) (by kernel_rfl) (by kernel_rfl) (fun _=>by kernel_rfl) (fun l=>by kernel_rfl) (fun G l rq hm H o I p g has q J s=>?_) (by decide) (by decide) (by show (1:Nat)<=256;decide) (fun Q D i K t L o u=>?_)
  ·refine IV N (zE N) f a.1 a.2 rr n G ⟨hm,fun h=>absurd h (by decide)⟩ l (fun j k A M O=>?_);have W:=S8 N j k A M O;refine ah5 (nt:=25) H o I p (by rw [hm];decide) rfl rfl (by show (4:Nat)≠0;decide) rfl (by rw [g];rfl) (st0:=⟨[(7,(.op 0 0 0)),(19,(.agg (bH j))),(20,(.agg (bH k)))],[(0,vO 4 (bH A))],1⟩) rfl rfl ?_ ?_ (fun v e=>by rw [has];exact (W v e).1) (fun v e=>by rw [q];exact (W v e).2)
   ·rfl
   ·intro w S μ vs z P;exact VA g J (by decide) (by decide) (by decide) (by decide) (by decide) (s 7) z P
  ·refine jM.sA 2 [.code (mN 62),.code (mN 63)] ?_;refine jM.sR i ⟨[(4,(.op 32 0 0)),(5,(aI 0))],[(32,vO 4 (bH rr))],304⟩ (mN 62) [] [] (kp [4,5]) (kq [32]) 304 [0 < 1,0 < 1] ⟨o1,o1,trivial⟩ ?_;obtain rfl:=jS h;refine jM.sW i ⟨[(4,(.op 16 0 0)),(5,(aI 0))],[(16,vO 4 (bH rr))],304⟩ [] (kp [4,5]) [(16,.ak 32)] 304 [] trivial ?_;exact jM.sT K t L o u Tryz.f228 [16] [0 < 1] ⟨o1,trivial⟩
theorem s6 (N s b r) (h:ma N s b=some r):Sd 227 [(ZN s),(.op 0 0 0)] [(kB b)] 1 (aj r) [(kB b)]:=by
 unfold ma at h;refine sO Tryz.f227 16 fun E a=>?_;refine ax a 1 Lc (kq [0,1,17]) 33 ?_;obtain ⟨d,e,h⟩:=aW h;obtain ⟨c,f,h⟩:=aW h;refine bK a 1 [(4,oT (aj d)),(5,oT (Xh c))] (kp [3,4]) (kq [0,17,177]) 225 (pc o1 (pc o1 (pc o1 (pc (pE _ _ _ _ e) (pc (Yd _ _ _ _ f) (pc o1 pn)))))) <| dV a 1 (kp [3]) (kq [0,17]) 257 (pc o1 (pc o1 pn)) ?_
 cases h;exact mh a 0 Tryz.f227 [] (kp [3]) (kq [0,17]) 257 pn [17] (pc o1 pn)
noncomputable abbrev ajn:=bt Tryz.f200
def Ht (N:Nat) (l:List af) (a:aw) (K:dD->Int->Option (dD)):Prop:=∀ (k:dD) (x:Int) (r:dD),K k x=some r->∀ E,ba E 1->aK Tryz.prog E 200 48 (bd E [(kB a)] (RY r)) [.code (ajn 116),.inLoop (ajn 116),.inBlock 0,.code (ajn 15)] ⟨[(1,(.fn (.func 227) [] [(.op 0 0 0)])),(4,(.op 1 0 0)),(5,(.op 2 0 0)),(13,(oW l)),(14,(Dr l)),(15,(aI x))],[(kB a),(1,vO 12 [(aB false),.nil,(aB false),.nil,(aB false),.nil,(aB false),.nil,(aB false),.nil,(aB false),.nil]),(2,vO 12 (dD.cells k))],3⟩
theorem Gs (N l b fuel):Ht N l b (lv N l b fuel):=by
 induction fuel with
 | zero=>intro _ _ r h;rw [lv.eq_1] at h;cases h
 | succ fuel d =>
  intro k x r h E a;rw [lv.eq_2] at h;refine ax a 1 (kp [1,4,5,13,14,15,16]) fK 19 <| dr 1 16 h (fun e h=>?_) (fun e h=>?_)
  ·obtain ⟨c,h⟩:=ae h;refine dV a 4 (kp [1,4,5,7,13,14,15]) SG 83 (pc c (pc o1 pn)) ?_;obtain ⟨f,g,h⟩:=aW h;refine bK a 1 [(2,⟨[0],true,(aj f),[],0,false,none⟩)] It Iw 163 (pc o1 (pc (s6 _ _ _ _ g) (pc o1 pn))) ?_;obtain ⟨i,j,h⟩:=aW h;refine bK a 1 [(3,oT (aj i))] It Iw 259 (pc o1 (pc o1 (pc (bF _ _ _ _ j) (pc o1 pn)))) ?_;obtain ⟨m,n,h⟩:=aW h;obtain ⟨o,p,h⟩:=aW h;refine bK a 1 [(3,oT (aj m)),(4,oT (aj o))] It Iw 355 (pc o1 (pc o1 (pc (an _ _ _ n) (pc (bN _ _ _ _ p) (pc o1 pn))))) ?_;obtain ⟨q,s,h⟩:=aW h;refine bK a 1 [(3,oT (aj q))] It Iw 451 (pc o1 (pc o1 (pc (bF _ _ _ _ s) (pc o1 pn)))) ?_;obtain ⟨t,u,h⟩:=aW h;obtain ⟨v,w,h⟩:=aW h;obtain ⟨y,z,h⟩:=aW h;refine bK a 0 [(5,oT (aj t)),(6,oT (aj v)),(7,oT (aj y))] Dx fK 611 (pc o1 (pc o1 (pc o1 (pc (an _ _ _ u) (pc (bN _ _ _ _ w) (pc (bF _ _ _ _ z) (pc o1 pn))))))) <| ax a 1 Dx fK 643 <| cY a 1 Dx fK 3 (d _ _ _ h E a)
  ·refine dV a 2 (kp [4]) (kq [0,1]) 51 (pc o1 (pc o1 pn)) ?_;obtain rfl:=jS h;exact mh a 0 Tryz.f200 [] (kp [4]) (kq [0] ++ [(17,.ak 1)]) 51 pn [17] (pc o1 pn)
theorem JW (N l b r) (h:uu N l b=some r):Sd 200 [(oW l),(.fn (.func 227) [] [(.op 0 0 0)])] [(kB b)] 1 (RY r) [(kB b)]:=by
 unfold uu at h;refine sO Tryz.f200 48 fun E a=>?_;refine ax a 1 Iq (kq [0,1]) 17 ?_;obtain ⟨c,d,h⟩:=aW h;obtain ⟨e,f,h⟩:=aW h;obtain ⟨g,i,h⟩:=aW h;refine bK a 1 [(0,oT (aj c)),(1,oT (aj e)),(2,oT (aj g))] Xy X0 113 (pc (an _ _ _ d) (pc (an _ _ _ f) (pc (an _ _ _ i) (pc o1 pn)))) <| ax a 2 Dx X0 161 <| cY a 2 Dx (kq [0,1] ++ [(2,.ak 81)]) 3 (Gs N _ _ N _ _ _ h E a)
theorem AU (N k force b r) (h:oy N k force b=some r):Sd 199 [(RY k),(aj force),(aj b)] [] 0 (NZ r) []:=by
 unfold oy at h;refine sO Tryz.f199 51 fun E a=>?_;refine ax a 1 (kp [3,4,5,6]) (kq [0,16,32,48]) 80 ?_;obtain ⟨c,d,h⟩:=aW h;obtain ⟨e,f,h⟩:=aW h;obtain ⟨g,i,h⟩:=aW h;refine bK a 1 [(4,oT (aj c)),(9,oT (aj e)),(10,oT (aj g))] (kp [3,4,5,6,8]) (kq [0,16,32,48,256]) 288 (pc o1 (pc o1 (pc (bN _ _ _ _ d) (pc o1 (pc o1 (pc (bN _ _ _ _ f) (pc (g9 _ _ _ _ i) (pc o1 pn)))))))) ?_;obtain ⟨dL,j,h⟩:=aW h;refine bK a 2 [(1,oT (aI dL))] (kp [3,4,5,6,8,24]) (kq [0,16,32,48,256]) 336 (pc o1 (pc (eM _ _ _ j) pn)) <| dr 0 24 h (fun l h=>?_) (fun l h=>?_)
 ·refine dV a 1 (kp [6,7]) (kq [48]) 384 (pc o1 pn) ?_;cases h;exact mh a 0 Tryz.f199 [] (kp [6,7]) [(16,.var 48 [.ak,rh (cU .u16) 0 ([]:List Int),.ak,rh (cU .u16) 0 ([]:List Int),.ak,rh (cU .u16) 0 ([]:List Int),.ak,rh (cU .u16) 0 ([]:List Int)])] 384 (pc (Eq.refl 0) (pc (Eq.refl 0) (pc (Eq.refl 0) (pc (Eq.refl 0) pn)))) [16] (pc o1 pn)
 ·obtain ⟨m,n,h⟩:=aW h;obtain ⟨o,p,h⟩:=aW h;obtain ⟨q,s,h⟩:=aW h;refine bK a 2 [(3,oT (aj m)),(7,oT (aj o)),(8,oT (aj q))] (kp [3,4,5,6,8,9]) (kq [0,16,32,48,256,480]) 512 (pc o1 (pc o1 (pc (bN _ _ _ _ n) (pc o1 (pc o1 (pc (bN _ _ _ _ p) (pc (g9 _ _ _ _ s) (pc o1 pn)))))))) ?_;obtain ⟨t,u,h⟩:=aW h;obtain ⟨v,w,h⟩:=aW h;obtain ⟨x,y,h⟩:=aW h;refine bK a 1 [(3,oT (aj t)),(7,oT (aj v)),(8,oT (aj x))] (kp [6,8,9,10]) (kq [48,256,480,656]) 688 (pc o1 (pc o1 (pc (bN _ _ _ _ u) (pc o1 (pc o1 (pc (bN _ _ _ _ w) (pc (g9 _ _ _ _ y) (pc o1 pn)))))))) ?_;obtain ⟨jC,z,h⟩:=aW h;obtain ⟨A,B,h⟩:=aW h;refine bK a 1 [(2,oT (aj jC)),(5,oT (aj A))] (kp [6,7]) (kq [48]) 832 (pc o1 (pc o1 (pc (rU _ _ _ _ z) (pc o1 (pc o1 (pc (rU _ _ _ _ B) (pc o1 pn))))))) ?_;cases h;exact mh a 0 Tryz.f199 [] (kp [6,7]) [(16,.ak 48)] 832 pn [16] (pc o1 pn)
theorem qJ (N a d r) (h:jd N a d=some r):Sd 202 [(nh a),(nh d)] [] 0 (nh r) []:=by
 unfold jd at h;refine sO Tryz.f202 16 fun E b=>?_;refine ax b 1 iI fU 48 ?_;obtain ⟨c,e,h⟩:=aW h;obtain ⟨f,g,h⟩:=aW h;refine bK b 1 [(4,oT (aj c)),(9,oT (aj f))] (kp [4]) (kq [32]) 240 (pc o1 (pc o1 (pc (bF _ _ _ _ e) (pc o1 (pc o1 (pc (bF _ _ _ _ g) (pc o1 pn))))))) ?_;cases h;exact mh b 0 Tryz.f202 [] (kp [4]) [(16,.ak 32)] 240 pn [16] (pc o1 pn)
theorem xV (N b a r) (h:lx N b a=some r):Sd 201 [(zM b),(nh a)] [] 0 (aB r) []:=by
 unfold lx at h;refine sO Tryz.f201 33 fun E e=>?_;refine ax e 1 (kp [2,3]) jt 48 ?_;obtain ⟨f,g,h⟩:=aW h;refine bK e 1 [(3,oT (Xj f))] (kp [2,5]) (kq [0,160]) 208 (pc o1 (pc o1 (pc (uT _ _ _ _ g) (pc o1 pn)))) ?_;obtain ⟨i,j,h⟩:=aW h;obtain ⟨d,k,h⟩:=aW h;obtain ⟨l,m,h⟩:=aW h;obtain ⟨n,o,h⟩:=aW h;obtain ⟨p,q,h⟩:=aW h;refine bK e 1 [(4,oT (aj i)),(5,oT (aI d)),(12,oT (aj l)),(15,oT (aj n)),(16,oT (aI p))] (kp [4]) [] 528 (pc o1 (pc o1 (pc (an _ _ _ j) (pc (jB _ _ _ _ k) (pc (fun c:(d == 0)=true=>(pc c (pc o1 pn))) (pc (fun c:(d == 0)=true=>(pc c (pc o1 pn))) (pc (fun c:(d == 0)=true=>(pc (an _ _ _ (aN m c)) (pc c pn))) (pc (fun c:(d == 0)=true=>(pc c (pc o1 pn))) (pc (fun c:(d == 0)=true=>(pc (bN _ _ _ _ (aN o c)) (pc c (pc c pn)))) (pc (fun c:(d == 0)=true=>(pc (jB _ _ _ _ (aN q c)) (pc c (pc c pn)))) (pc (fun c:(d == 0)=true=>(pc c pn)) (pc (fun hq:(d == 0)=true=>(pc hq pn)) pn)))))))))))) ?_;cases h;exact iG e 0 Tryz.f201 (kp [4]) [] 528
noncomputable abbrev VS:=bt Tryz.f229
def xW (N:Nat) (s:af) (a:aw) (c:ab) (K:ab->Int->Option (ab)):Prop:=∀ (x:ab) (b:Int) (r:ab),K x b=some r->∀ E,ba E 1->aK Tryz.prog E 229 34 (bd E [(kB a)] (aj r)) [.code (VS 244),.inLoop (VS 244),.inBlock 0,.code (VS 31)] ⟨[(2,(.op 1 0 0)),(3,(.op 2 0 0)),(4,(.op 3 0 0)),(5,(.op 4 0 0)),(14,(cA cI 0 s.aY.ah)),(15,(aI (s.aY.ah.length:Int))),(16,(aI b))],[(kB a),(1,vO 7 (af.cells s)),(2,vO 4 [(aB false),.nil,(aB false),.nil]),(xJ c),(FV x)],5⟩
def Gu (N:Nat) (s:af) (a:aw) (c:ab) (d:Int) (K:ab->Option (ab)):Prop:=∀ (b:ab) (r:ab),K b=some r->∀ E,ba E 1->aK Tryz.prog E 229 34 (bd E [(kB a)] (aj r)) [.code (VS 1959),.inLoop (VS 244),.inBlock 0,.code (VS 31)] ⟨[(2,(.op 1 0 0)),(3,(.op 2 0 0)),(4,(.op 3 0 0)),(5,(.op 4 0 0)),(14,(cA cI 0 s.aY.ah)),(15,(aI (s.aY.ah.length:Int))),(16,(aI d))],[(kB a),(1,vO 7 (af.cells s)),(2,vO 4 [(aB false),.nil,(aB false),.nil]),(xJ c),(FV b)],5⟩
theorem wQ (N:Nat) (s:af) (a:aw) (b:ab) (d:Int) (e:ab->Int->Option (ab)) (f:xW N s a b e):Gu N s a b d (mE N s a b d e):=by
 intro g r h E c;unfold mE at h;refine ax c 0 Lf oX 37 <| cY c 1 Lf oX 5 (f _ _ _ h E c)
theorem E4 (N s b d fuel):xW N s b d (gS N s b d fuel):=by
 induction fuel with
 | zero=>intro _ _ r h;rw [gS.eq_1] at h;cases h
 | succ fuel e =>
  intro x n r h E a;rw [gS.eq_2] at h;refine ax a 1 (kp [2,3,4,5,14,15,16,17]) oX 21 <| dr 1 17 h (fun f h=>?_) (fun f h=>?_)
  ·obtain ⟨c,h⟩:=ae h;refine dV a 4 (kp [2,3,4,5,6,7,14,15,16]) oX 101 (pc c pn) ?_;obtain ⟨g,i,h⟩:=aW h;obtain ⟨j,k,h⟩:=aW h;refine bK a 1 [(1,oT (aj g)),(3,oT (aI j))] (kp [2,3,4,5,6,14,15,16,25]) oX 181 (pc (an _ _ _ i) (pc o1 (pc (jB _ _ _ _ k) pn))) <| dr 0 25 h (fun l h=>?_) (fun l h=>?_)
   ·obtain ⟨m,h⟩:=ae h;refine dV a 0 Lf oX 293 (pc o1 (pc m (pc o1 pn))) <| cY a 1 Lf oX 5 (wQ N _ _ _ _ _ e _ _ h E a)
   ·exact cY a 2 Lf oX 5 (wQ N _ _ _ _ _ e _ _ h E a)
  ·refine dV a 2 (kp [3]) (kq [0,2]) 53 (pc o1 (pc o1 pn)) ?_;obtain rfl:=jS h;exact mh a 0 Tryz.f229 [] (kp [3]) (kq [0] ++ [(17,.ak 2)]) 53 pn [17] (pc o1 pn)
theorem tY (N s b r) (h:lh N s b=some r):Sd 229 [(ZN s),(.op 0 0 0)] [(kB b)] 1 (aj r) [(kB b)]:=by
 unfold lh at h;refine sO Tryz.f229 34 fun E a=>?_;refine ax a 1 Lc (kq [0,1,17]) 33 ?_;obtain ⟨c,d,h⟩:=aW h;refine bK a 1 [(2,oT (aj c))] iI (kq [0,1,17,81]) 113 (pc o1 (pc o1 (pc (pE _ _ _ _ d) (pc o1 pn)))) ?_;obtain ⟨e,f,h⟩:=aW h;refine bK a 1 [(0,oT (aj e))] (kp [2,3,4,5]) (kq [0,1,17,81,129]) 161 (pc (an _ _ _ f) (pc o1 pn)) <| dV a 2 Lf (kq [0,1,17,81,129]) 241 (pc o1 pn) <| cY a 2 Lf (kq [0,1] ++ [(2,.ak 17),(3,.ak 81),(4,.ak 129)]) 5 (E4 N _ _ _ N _ _ _ h E a)
noncomputable abbrev ajo:=bt Tryz.f200
def DQ (N:Nat) (l:List af) (a:aw) (K:dD->Int->Option (dD)):Prop:=∀ (k:dD) (x:Int) (r:dD),K k x=some r->∀ E,ba E 1->aK Tryz.prog E 200 48 (bd E [(kB a)] (RY r)) [.code (ajo 116),.inLoop (ajo 116),.inBlock 0,.code (ajo 15)] ⟨[(1,(.fn (.func 229) [] [(.op 0 0 0)])),(4,(.op 1 0 0)),(5,(.op 2 0 0)),(13,(oW l)),(14,(Dr l)),(15,(aI x))],[(kB a),(1,vO 12 [(aB false),.nil,(aB false),.nil,(aB false),.nil,(aB false),.nil,(aB false),.nil,(aB false),.nil]),(2,vO 12 (dD.cells k))],3⟩
theorem CF (N l b fuel):DQ N l b (jG N l b fuel):=by
 induction fuel with
 | zero=>intro _ _ r h;rw [jG.eq_1] at h;cases h
 | succ fuel d =>
  intro k x r h E a;rw [jG.eq_2] at h;refine ax a 1 (kp [1,4,5,13,14,15,16]) fK 19 <| dr 1 16 h (fun e h=>?_) (fun e h=>?_)
  ·obtain ⟨c,h⟩:=ae h;refine dV a 4 (kp [1,4,5,7,13,14,15]) SG 83 (pc c (pc o1 pn)) ?_;obtain ⟨f,g,h⟩:=aW h;refine bK a 1 [(2,⟨[0],true,(aj f),[],0,false,none⟩)] It Iw 163 (pc o1 (pc (tY _ _ _ _ g) (pc o1 pn))) ?_;obtain ⟨i,j,h⟩:=aW h;refine bK a 1 [(3,oT (aj i))] It Iw 259 (pc o1 (pc o1 (pc (bF _ _ _ _ j) (pc o1 pn)))) ?_;obtain ⟨m,n,h⟩:=aW h;obtain ⟨o,p,h⟩:=aW h;refine bK a 1 [(3,oT (aj m)),(4,oT (aj o))] It Iw 355 (pc o1 (pc o1 (pc (an _ _ _ n) (pc (bN _ _ _ _ p) (pc o1 pn))))) ?_;obtain ⟨q,s,h⟩:=aW h;refine bK a 1 [(3,oT (aj q))] It Iw 451 (pc o1 (pc o1 (pc (bF _ _ _ _ s) (pc o1 pn)))) ?_;obtain ⟨t,u,h⟩:=aW h;obtain ⟨v,w,h⟩:=aW h;obtain ⟨y,z,h⟩:=aW h;refine bK a 0 [(5,oT (aj t)),(6,oT (aj v)),(7,oT (aj y))] Dx fK 611 (pc o1 (pc o1 (pc o1 (pc (an _ _ _ u) (pc (bN _ _ _ _ w) (pc (bF _ _ _ _ z) (pc o1 pn))))))) <| ax a 1 Dx fK 643 <| cY a 1 Dx fK 3 (d _ _ _ h E a)
  ·refine dV a 2 (kp [4]) (kq [0,1]) 51 (pc o1 (pc o1 pn)) ?_;obtain rfl:=jS h;exact mh a 0 Tryz.f200 [] (kp [4]) (kq [0] ++ [(17,.ak 1)]) 51 pn [17] (pc o1 pn)
theorem Gw (N l b r) (h:qI N l b=some r):Sd 200 [(oW l),(.fn (.func 229) [] [(.op 0 0 0)])] [(kB b)] 1 (RY r) [(kB b)]:=by
 unfold qI at h;refine sO Tryz.f200 48 fun E a=>?_;refine ax a 1 Iq (kq [0,1]) 17 ?_;obtain ⟨c,d,h⟩:=aW h;obtain ⟨e,f,h⟩:=aW h;obtain ⟨g,i,h⟩:=aW h;refine bK a 1 [(0,oT (aj c)),(1,oT (aj e)),(2,oT (aj g))] Xy X0 113 (pc (an _ _ _ d) (pc (an _ _ _ f) (pc (an _ _ _ i) (pc o1 pn)))) <| ax a 2 Dx X0 161 <| cY a 2 Dx (kq [0,1] ++ [(2,.ak 81)]) 3 (CF N _ _ N _ _ _ h E a)
noncomputable abbrev yq:=bt Tryz.f141
theorem AW (N b a r) (h:oz N b a=some r):Sd 141 [(zM b),(nh a)] [] 0 (NZ r) []:=by
 unfold oz at h;refine sO Tryz.f141 64 fun E c=>?_;refine ax c 1 iI fU 64 ?_;obtain ⟨m,n,h⟩:=aW h;refine bK c 1 [(3,oT (Xj m))] (kp [2,3,4,6]) (kq [0,16,32,176]) 224 (pc o1 (pc o1 (pc (uT _ _ _ _ n) (pc o1 pn)))) ?_;obtain ⟨o,p,h⟩:=aW h;obtain ⟨q,s,h⟩:=aW h;refine bK c 1 [(2,oT (aj o)),(5,oT (aj q))] (kp [2,3,4,8]) (kq [0,16,32,320]) 352 (pc o1 (pc (an _ _ _ p) (pc o1 (pc (g9 _ _ _ _ s) (pc o1 pn))))) ?_;obtain ⟨t,u,h⟩:=aW h;obtain ⟨v,w,h⟩:=aW h;refine bK c 1 [(2,oT (aj t)),(3,oT (aj v))] (kp [2,3,4,8,9]) (kq [0,16,32,320,416]) 448 (pc o1 (pc o1 (pc (mM _ _ _ _ u) (pc (xU _ _ _ w) (pc o1 pn))))) ?_;obtain ⟨g,x,h⟩:=aW h;obtain ⟨i,y,h⟩:=aW h;refine bK c 2 [(1,⟨[],true,(.fn (.func 227) [] [(.op 0 0 0)]),[(kB g)],0,false,none⟩),(3,⟨[],true,(.fn (.func 229) [] [(.op 0 0 0)]),[(kB i)],0,false,none⟩)] acB Ix 560 (pc o1 (pc (uU _ _ _ x) (pc o1 (pc (v9 _ _ _ y) pn)))) <| ax c 3 acA Ix 576 <| sA 1 [.code (yq 2002),.code (yq 2003),.inLoop (yq 500),.inBlock 0,.code (yq 63)] <| sC 38 (yq 4004) (yq 4005) true (fun _=>?_) (fun hq=>absurd hq (by decide)) 
 refine dV c 4 aiU Ix 624 (pc (show 0<=(0:Int)/\(0:Int) < ((2:Nat):Int) by decide) (pc (show 0 < 2 by decide) pn)) ?_;obtain ⟨j,z,h⟩:=aW h;obtain ⟨e,A,h⟩:=aW h;refine bK c 1 [(3,⟨[464],true,(RY j),[],0,false,none⟩),(6,oT (NZ e))] aiV ajb 832 (pc o1 (pc (JW _ _ _ _ z) (pc o1 (pc o1 (pc (AU _ _ _ _ _ A) (pc o1 pn)))))) ?_;obtain ⟨k,B,h⟩:=aW h;obtain ⟨C,D,h⟩:=aW h;refine bK c 1 [(5,oT (nh k)),(6,oT (aB C))] aiW ajb 960 (pc (fun d:e.2=true=>(pc o1 pn)) (pc (fun d:e.2=true=>(pc o1 pn)) (pc (fun d:e.2=true=>(pc o1 pn)) (pc (fun d:e.2=true=>(pc (qJ _ _ _ _ (aN B d)) (pc d (pc d pn)))) (pc (fun d:e.2=true=>(pc (xV _ _ _ _ (aN D d)) (pc d (pc d pn)))) (pc (fun hq:e.2=true=>(pc hq pn)) pn)))))) <| dr 0 58 h (fun F h=>?_) (fun F h=>?_)
 ·obtain ⟨G,H,h⟩:=aW h;refine bK c 1 [(2,oT (nh G))] (kp [4,5]) (kq [32]) 1040 (pc o1 (pc o1 (pc (qJ _ _ _ _ H) (pc o1 pn)))) ?_;cases h;exact mh c 0 Tryz.f141 [] (kp [4,5]) [(16,.ak 32)] 1040 pn [16] (pc o1 pn)
 ·refine ax c 2 acB Ix 992 <| ax c 2 acA Ix 1008 <| sA 1 [.code (yq 2002),.code (yq 2003),.inLoop (yq 500),.inBlock 0,.code (yq 63)] <| sC 38 (yq 4004) (yq 4005) true (fun _=>?_) (fun hq=>absurd hq (by decide)) 
  refine dV c 4 aiU Ix 1056 (pc (show 0<=(1:Int)/\(1:Int) < ((2:Nat):Int) by decide) (pc (show 1 < 2 by decide) pn)) ?_;obtain ⟨I,J,h⟩:=aW h;obtain ⟨f,K,h⟩:=aW h;refine bK c 1 [(3,⟨[496],true,(RY I),[],0,false,none⟩),(6,oT (NZ f))] aiV aja 1264 (pc o1 (pc (Gw _ _ _ _ J) (pc o1 (pc o1 (pc (AU _ _ _ _ _ K) (pc o1 pn)))))) ?_;obtain ⟨L,M,h⟩:=aW h;obtain ⟨O,P,h⟩:=aW h;refine bK c 1 [(5,oT (nh L)),(6,oT (aB O))] aiW aja 1392 (pc (fun d:f.2=true=>(pc o1 pn)) (pc (fun d:f.2=true=>(pc o1 pn)) (pc (fun d:f.2=true=>(pc o1 pn)) (pc (fun d:f.2=true=>(pc (qJ _ _ _ _ (aN M d)) (pc d (pc d pn)))) (pc (fun d:f.2=true=>(pc (xV _ _ _ _ (aN P d)) (pc d (pc d pn)))) (pc (fun hq:f.2=true=>(pc hq pn)) pn)))))) <| dr 0 58 h (fun Q h=>?_) (fun Q h=>?_)
  ·obtain ⟨R,l,h⟩:=aW h;refine bK c 1 [(2,oT (nh R))] (kp [4,5]) (kq [32]) 1472 (pc o1 (pc o1 (pc (qJ _ _ _ _ l) (pc o1 pn)))) ?_;cases h;exact mh c 0 Tryz.f141 [] (kp [4,5]) [(16,.ak 32)] 1472 pn [16] (pc o1 pn)
  ·refine ax c 2 acB Ix 1424 <| ax c 2 acA Ix 1440 <| sA 1 [.code (yq 2002),.code (yq 2003),.inLoop (yq 500),.inBlock 0,.code (yq 63)] <| sC 38 (yq 4004) (yq 4005) false (fun hq=>absurd hq (by decide)) (fun _=>?_) 
   refine dV c 2 (kp [4,5]) (kq [32]) 1488 (pc o1 pn) ?_;cases h;exact mh c 0 Tryz.f141 [] (kp [4,5]) [(16,.var 32 [.ak,rh (cU .u16) 0 ([]:List Int),.ak,rh (cU .u16) 0 ([]:List Int),.ak,rh (cU .u16) 0 ([]:List Int),.ak,rh (cU .u16) 0 ([]:List Int)])] 1488 (pc (Eq.refl 0) (pc (Eq.refl 0) (pc (Eq.refl 0) (pc (Eq.refl 0) pn)))) [16] (pc o1 pn)
noncomputable abbrev S9:=bt Tryz.f68
def Bh (N:Nat) (b:cW) (a:ab) (K:ab->ab->Option FY):Prop:=∀ (width:ab) (low:ab) (r:aw),K width low=some r->∀ E,ba E 0->aK Tryz.prog E 68 97 (bd E [] (nh r)) [.code (S9 120),.inLoop (S9 120),.inBlock 0,.code (S9 31)] ⟨[(1,(.op 0 0 0)),(2,(.op 1 0 0)),(3,(.op 2 0 0)),(4,(.op 3 0 0)),(5,(.op 4 0 0))],[(uP b),(1,vO 8 [(aB false),.nil,(aB false),.nil,(aB false),.nil,(aB false),.nil]),(tS width),(xJ low),(FV a)],5⟩
def Bi (N:Nat) (b:cW) (low:ab) (K:ab->ab->Option FY):Prop:=∀ (a:ab) (high:ab) (r:aw),K a high=some r->∀ E,ba E 0->aK Tryz.prog E 68 97 (bd E [] (nh r)) [.code (S9 504),.inLoop (S9 504),.inBlock 2,.code (S9 127)] ⟨[(1,(.op 0 0 0)),(2,(.op 1 0 0)),(3,(.op 2 0 0)),(4,(.op 3 0 0)),(5,(.op 4 0 0))],[(uP b),(1,vO 8 [(aB false),.nil,(aB false),.nil,(aB false),.nil,(aB false),.nil]),(tS a),(xJ low),(FV high)],5⟩
def Bj (N:Nat) (b:cW) (low:ab) (high:ab) (a:ab) (K:Int->Option FY):Prop:=∀ (x:Int) (r:aw),K x=some r->∀ E,ba E 0->aK Tryz.prog E 68 97 (bd E [] (nh r)) [.code (S9 2036),.inLoop (S9 2036),.inBlock 4,.code (S9 255)] ⟨[(1,(.op 0 0 0)),(2,(.op 1 0 0)),(4,(.op 2 0 0)),(5,(.op 3 0 0)),(46,(.os 4 0 (([a,low,high]:List ab).length))),(47,(aI ((3:Nat):Int))),(48,(aI x))],[(uP b),(1,vO 8 [(aB false),.nil,(aB false),.nil,(aB false),.nil,(aB false),.nil]),(tS low),(xJ high),(4,aO 4 bH ab.d ([a,low,high]:List ab))],5⟩
def Bk (N:Nat) (b:cW) (K:ab->ab->Option FY):Prop:=∀ (a:ab) (c:ab) (r:aw),K a c=some r->∀ E,ba E 0->aK Tryz.prog E 68 97 (bd E [] (nh r)) [.code (S9 1020),.inLoop (S9 1020),.inBlock 6] ⟨[(1,(.op 0 0 0)),(2,(.op 1 0 0)),(4,(.op 2 0 0)),(5,(.op 3 0 0))],[(uP b),(1,vO 8 [(aB false),.nil,(aB false),.nil,(aB false),.nil,(aB false),.nil]),(tS a),(xJ c)],4⟩
theorem Az (N b fuel):Bk N b (cT N b fuel):=by
 induction fuel with
 | zero=>intro _ _ r h;rw [cT.eq_1] at h;cases h
 | succ fuel n =>
  intro v w r h E a;rw [cT.eq_2] at h;obtain ⟨o,c,h⟩:=aW h;obtain ⟨p,d,h⟩:=aW h;obtain ⟨jC,e,h⟩:=aW h;refine bK a 2 [(2,oT (aj o)),(3,oT (aj p)),(4,oT (aj jC))] (kp [1,2,4,5,11]) (kq [0,1,2,3,84]) 116 (pc o1 (pc o1 (pc (bF _ _ _ _ c) (pc (an _ _ _ d) (pc (rU _ _ _ _ e) (pc o1 pn)))))) ?_;obtain ⟨q,f,h⟩:=aW h;refine bK a 1 [(2,oT (nh q))] (kp [1,2,4,5,11,12]) acI 196 (pc o1 (pc o1 (pc (pg _ _ _ _ f) (pc o1 pn)))) ?_;obtain ⟨s,g,h⟩:=aW h;obtain ⟨t,i,h⟩:=aW h;refine bK a 1 [(2,oT (aj s)),(3,oT (aI t))] (kp [1,2,4,5,11,12,13]) acI 276 (pc o1 (pc o1 (pc (mM _ _ _ _ g) (pc (eM _ _ _ i) pn)))) <| ax a 2 (kp [1,2,4,5,11,12,13,83]) acI 308 <| dr 0 83 h (fun j h=>?_) (fun j h=>?_)
  ·refine dV a 1 (kp [2]) (kq [1]) 340 (pc o1 (pc o1 pn)) ?_;obtain rfl:=jS h;exact mh a 0 Tryz.f68 [] (kp [2]) [(16,.ak 1)] 340 pn [16] (pc o1 pn)
  ·obtain ⟨u,k,h⟩:=aW h;refine bK a 3 [(2,oT (NZ u))] (kp [1,2,4,5,11,13,14,15]) (kq [0,1,2,3,84,404]) 452 (pc o1 (pc o1 (pc (AW _ _ _ _ k) (pc o1 pn)))) <| ax a 1 (kp [1,2,4,5,11,13,14,91]) (kq [0,1,2,3,84,404]) 468 <| dr 0 91 h (fun l h=>?_) (fun l h=>?_)
   ·refine dV a 1 (kp [2]) (kq [1]) 500 (pc o1 (pc o1 pn)) ?_;cases h;exact mh a 0 Tryz.f68 [] (kp [2]) [(16,.ak 1)] 500 pn [16] (pc o1 pn)
   ·refine ax a 2 (kp [1,2,4,5,11,94]) (kq [0,1,2,3,84]) 500 <| dr 0 94 h (fun m h=>?_) (fun m h=>?_)
    ·refine dV a 0 Sq xL 532 (pc o1 (pc o1 pn)) <| cY a 2 Sq xL 4 (n _ _ _ h E a)
    ·refine dV a 0 Sq xL 532 (pc o1 (pc o1 pn)) <| cY a 2 Sq xL 4 (n _ _ _ h E a)
theorem AA (N b low high f fuel):Bj N b low high f (dG N b low high f fuel):=by
 induction fuel with
 | zero=>intro _ r h;rw [dG.eq_1] at h;cases h
 | succ fuel g =>
  intro x r h E a;rw [dG.eq_2] at h;refine ax a 1 (kp [1,2,4,5,46,47,48,49]) oX 21 <| dr 1 49 h (fun i h=>?_) (fun i h=>?_)
  ·obtain ⟨c,h⟩:=ae h;refine dV a 4 (kp [1,2,4,5,7,46,47,48]) (kq [0,1,2,3,4,53]) 85 (pc c (pc (dR c) (pc o1 pn))) ?_;obtain ⟨j,k,h⟩:=aW h;refine bK a 1 [(2,oT (nh j))] (kp [1,2,4,5,8,46,47,48]) (kq [0,1,2,3,4,133]) 165 (pc o1 (pc o1 (pc (pg _ _ _ _ k) (pc o1 pn)))) ?_;obtain ⟨l,m,h⟩:=aW h;obtain ⟨n,d,h⟩:=aW h;refine bK a 2 [(2,oT (aj l)),(3,oT (aI n))] (kp [1,2,4,5,8,46,47,48,59]) (kq [0,1,2,3,4,133]) 245 (pc o1 (pc o1 (pc (mM _ _ _ _ m) (pc (eM _ _ _ d) pn)))) <| dr 0 59 h (fun o h=>?_) (fun o h=>?_)
   ·refine dV a 1 (kp [2]) (kq [1]) 277 (pc o1 (pc o1 pn)) ?_;obtain rfl:=jS h;exact mh a 0 Tryz.f68 [] (kp [2]) [(16,.ak 1)] 277 pn [16] (pc o1 pn)
   ·obtain ⟨p,e,h⟩:=aW h;refine bK a 2 [(2,oT (NZ p))] (kp [1,2,4,5,9,10,46,47,48]) (kq [0,1,2,3,4,341]) 389 (pc o1 (pc o1 (pc (AW _ _ _ _ e) (pc o1 pn)))) <| ax a 1 (kp [1,2,4,5,9,46,47,48,67]) (kq [0,1,2,3,4,341]) 405 <| dr 0 67 h (fun q h=>?_) (fun q h=>?_)
    ·refine dV a 1 (kp [2]) (kq [1]) 437 (pc o1 (pc o1 pn)) ?_;cases h;exact mh a 0 Tryz.f68 [] (kp [2]) [(16,.ak 1)] 437 pn [16] (pc o1 pn)
    ·refine ax a 2 acx oX 437 <| cY a 1 acx oX 5 (g _ _ h E a)
  ·exact cY a 3 Sq xL 4 (Az N _ N _ _ _ h E a)
theorem AB (N b low fuel):Bi N b low (dH N b low fuel):=by
 induction fuel with
 | zero=>intro _ _ r h;rw [dH.eq_1] at h;cases h
 | succ fuel d =>
  intro p high r h E a;rw [dH.eq_2] at h;obtain ⟨e,f,h⟩:=aW h;obtain ⟨g,i,h⟩:=aW h;obtain ⟨j,k,h⟩:=aW h;refine bK a 2 [(3,oT (nh e)),(4,oT (aj g)),(5,oT (aI j))] (kp [1,2,3,4,5,38]) oX 117 (pc o1 (pc o1 (pc o1 (pc (pg _ _ _ _ f) (pc (mM _ _ _ _ i) (pc (eM _ _ _ k) pn)))))) <| dr 0 38 h (fun l h=>?_) (fun l h=>?_)
  ·obtain ⟨m,n,h⟩:=aW h;refine bK a 3 [(2,oT (aj m))] Dw oX 181 (pc o1 (pc o1 (pc (bF _ _ _ _ n) (pc o1 pn)))) <| dV a 0 Dw oX 213 (pc o1 (pc o1 pn)) <| cY a 2 Dw oX 5 (d _ _ _ h E a)
  ·obtain ⟨c,o,h⟩:=aW h;refine bK a 3 [(0,oT (aj c))] (kp [1,2,4,5] ++ [(46,.l5 (([c,low,high]:List ab).length))] ++ kp [47,48]) (kq [0,1,3,4] ++ [(165,ri 165 bH ab.d ([c,low,high]:List ab))]) 213 (pc (an _ _ _ o) (pc o1 (pc o1 (pc (Eq.refl 3) (pc (Eq.refl 3) (pc (qO bH ab.d ([c,low,high]:List ab)) pn)))))) <| cY a 2 acx (kq [0,1] ++ [(2,.ak 3),(3,.ak 4),(4,.ak 165)]) 5 (AA N _ _ _ _ N _ _ h E a)
theorem AD (N b c fuel):Bh N b c (ej N b c fuel):=by
 induction fuel with
 | zero=>intro _ _ r h;rw [ej.eq_1] at h;cases h
 | succ fuel d =>
  intro width low r h E a;rw [ej.eq_2] at h;obtain ⟨e,f,h⟩:=aW h;obtain ⟨g,i,h⟩:=aW h;obtain ⟨dL,j,h⟩:=aW h;refine bK a 2 [(3,oT (nh e)),(4,oT (aj g)),(5,oT (aI dL))] (kp [1,2,3,4,5,25]) oX 117 (pc o1 (pc o1 (pc o1 (pc (pg _ _ _ _ f) (pc (mM _ _ _ _ i) (pc (eM _ _ _ j) pn)))))) <| dr 0 25 h (fun k h=>?_) (fun k h=>?_)
  ·obtain ⟨l,m,h⟩:=aW h;refine bK a 3 [(2,oT (aj l))] Dw oX 181 (pc o1 (pc o1 (pc (bF _ _ _ _ m) (pc o1 pn)))) ?_;obtain ⟨n,o,h⟩:=aW h;refine bK a 0 [(1,oT (aj n))] Dw oX 229 (pc o1 (pc (xU _ _ _ o) (pc o1 pn))) <| cY a 2 Dw oX 5 (d _ _ _ h E a)
  ·obtain ⟨p,q,h⟩:=aW h;refine bK a 2 [(0,oT (aj p))] Dw oX 149 (pc (an _ _ _ q) (pc o1 pn)) <| cY a 3 Dw oX 5 (AB N _ _ N _ _ _ h E a)
theorem uH (N b r) (h:lj N b=some r):Sd 68 [(zM b)] [] 0 (nh r) []:=by
 unfold lj at h;refine sO Tryz.f68 97 fun E a=>?_;refine ax a 1 (kp [1,2]) jt 32 ?_;obtain ⟨c,d,h⟩:=aW h;refine bK a 1 [(0,oT (aj c))] Lc (kq [0,16,48]) 80 (pc (an _ _ _ d) (pc o1 pn)) ?_;obtain ⟨e,f,h⟩:=aW h;obtain ⟨g,i,h⟩:=aW h;refine bK a 1 [(0,oT (aj e)),(1,oT (aj g))] Dw (kq [0,16,48,112,128]) 176 (pc (an _ _ _ f) (pc (an _ _ _ i) (pc o1 (pc o1 pn)))) <| cY a 3 Dw (kq [0] ++ [(1,.ak 16),(2,.ak 48),(3,.ak 112),(4,.ak 128)]) 5 (AD N _ _ N _ _ _ h E a)
noncomputable abbrev ajp:=bt Tryz.f179
def IW (N:Nat) (b:cW) (a:aw) (d:az) (K:Int->Option (Bool)):Prop:=∀ (x:Int) (r:Bool),K x=some r->∀ E,ba E 0->aK Tryz.prog E 179 50 (bd E [] (aB r)) [.code (ajp 52),.inLoop (ajp 52),.inBlock 0,.code (ajp 7)] ⟨[(4,(.op 0 0 0)),(5,(.op 1 0 0)),(11,(cA af.cells af.d b.ag)),(12,(aI (W6 b))),(13,(aI x))],[(kB a),(1,vO 8 (az.cells d))],2⟩
theorem Hu (N b a d fuel):IW N b a d (g7 N b a d fuel):=by
 induction fuel with
 | zero=>intro _ r h;rw [g7.eq_1] at h;cases h
 | succ fuel l =>
  intro x r h E f;rw [g7.eq_2] at h;refine ax f 1 (kp [4,5,11,12,13,14]) (kq [0,1]) 18 <| dr 1 14 h (fun u h=>?_) (fun u h=>?_)
  ·obtain ⟨c,h⟩:=ae h;refine dV f 4 (kp [4,5,8,11,12,13]) XZ 82 (pc c (pc o1 pn)) ?_;obtain ⟨v,w,h⟩:=aW h;obtain ⟨y,z,h⟩:=aW h;obtain ⟨A,B,h⟩:=aW h;obtain ⟨dL,C,h⟩:=aW h;refine bK f 1 [(6,oT (aj v)),(7,oT (aj y)),(8,oT (aj A)),(9,oT (aI dL))] (kp [4,5,8,9,11,12,13]) XZ 258 (pc o1 (pc o1 (pc o1 (pc (an _ _ _ w) (pc (bN _ _ _ _ z) (pc (bF _ _ _ _ B) (pc (eM _ _ _ C) pn))))))) ?_;rcases condSplit h with ⟨j,h⟩ | ⟨j,h⟩
   ·obtain ⟨o,p,h⟩:=aW h;obtain ⟨q,s,h⟩:=aW h;obtain ⟨k,t,h⟩:=aW h;rcases condSplit h with ⟨g,h⟩ | ⟨g,h⟩
    ·obtain ⟨m,D,h⟩:=aW h;obtain ⟨F,G,h⟩:=aW h;obtain ⟨H,I,h⟩:=aW h;refine bK f 1 [(4,⟨[],true,(.fn (.func 227) [] [(.op 0 0 0)]),[(kB o)],1,false,none⟩),(5,⟨[],true,.qm,[],1,false,none⟩),(6,⟨[322],true,(aj q),[],1,false,none⟩),(7,⟨[],true,(aI k),[],1,false,none⟩),(8,⟨[],true,.qm,[],1,false,none⟩),(15,⟨[],true,(.fn (.func 229) [] [(.op 0 0 0)]),[(kB m)],1,false,none⟩),(16,⟨[],true,.qm,[],1,false,none⟩),(17,⟨[498],true,(aj F),[],1,false,none⟩),(18,⟨[],true,(aI H),[],1,false,none⟩),(19,⟨[],true,.qm,[],1,false,none⟩)] XU (kq [0,1]) 610 (pc (fun e:(lp dL)=true=>(pc o1 pn)) (pc j (pc (uU _ _ _ p) (pc j (pc j (pc o1 (pc j (pc (s6 _ _ _ _ s) (pc j (pc (eM _ _ _ t) (pc j (pc (fun e:(afJ dL k)=true=>(pc e pn)) (pc (fun e:(aim dL k)=true=>(pc o1 pn)) (pc g (pc (v9 _ _ _ D) (pc g (pc g (pc o1 (pc g (pc (tY _ _ _ _ G) (pc g (pc (eM _ _ _ I) (pc g (pc (fun e:(afJ dL k)=true=>(pc e (pc e pn))) (pc (fun hq:(afJ dL k)=true=>(pc (asl g) pn)) pn))))))))))))))))))))))))) <| dr 0 48 h (fun J h=>?_) (fun J h=>?_)
     ·refine ax f 1 (kp [6]) [] 626 ?_;obtain rfl:=jS h;exact iG f 0 Tryz.f179 (kp [6]) [] 626
     ·refine ax f 2 Dz (kq [0,1]) 642 <| cY f 1 Dz (kq [0,1]) 2 (l _ _ h E f)
    ·refine bK f 1 [(4,⟨[],true,(.fn (.func 227) [] [(.op 0 0 0)]),[(kB o)],1,false,none⟩),(5,⟨[],true,.qm,[],1,false,none⟩),(6,⟨[322],true,(aj q),[],1,false,none⟩),(7,⟨[],true,(aI k),[],1,false,none⟩),(8,⟨[],true,.qm,[],1,false,none⟩),(15,⟨[],true,(aB false),[],2,false,none⟩),(16,⟨[],true,.qm,[],2,false,none⟩),(17,⟨[],true,(aB false),[],2,false,none⟩),(18,⟨[],true,(aI 0),[],2,false,none⟩),(19,⟨[],true,(aB false),[],2,false,none⟩)] XU (kq [0,1]) 610 (pc (fun e:(lp dL)=true=>(pc o1 pn)) (pc j (pc (uU _ _ _ p) (pc j (pc j (pc o1 (pc j (pc (s6 _ _ _ _ s) (pc j (pc (eM _ _ _ t) (pc j (pc (fun e:(afJ dL k)=true=>(pc e pn)) (pc (fun e:(aim dL k)=true=>(pc o1 pn)) (pc g (pc g (pc g (pc g (pc g (pc (fun e:(afJ dL k)=true=>(pc e (pc e (pc (fun hq:(xH dL)=true=>(pc (show (aim dL k)=true from (GV e (GV e hq))) pn)) pn)))) (pc (fun hq:(afJ dL k)=true=>(pc hq pn)) pn)))))))))))))))))))) <| dr 0 48 h (fun K h=>?_) (fun K h=>?_)
     ·refine ax f 1 (kp [6]) [] 626 ?_;obtain rfl:=jS h;exact iG f 0 Tryz.f179 (kp [6]) [] 626
     ·refine ax f 2 Dz (kq [0,1]) 642 <| cY f 1 Dz (kq [0,1]) 2 (l _ _ h E f)
   ·rcases condSplit h with ⟨i,h⟩ | ⟨i,h⟩
    ·obtain ⟨n,L,h⟩:=aW h;obtain ⟨M,O,h⟩:=aW h;obtain ⟨P,Q,h⟩:=aW h;refine bK f 1 [(4,⟨[],true,(aB false),[],2,false,none⟩),(5,⟨[],true,.qm,[],2,false,none⟩),(6,⟨[],true,(aB false),[],2,false,none⟩),(7,⟨[],true,(aI 0),[],2,false,none⟩),(8,⟨[],true,(aB false),[],2,false,none⟩),(15,⟨[],true,(.fn (.func 229) [] [(.op 0 0 0)]),[(kB n)],1,false,none⟩),(16,⟨[],true,.qm,[],1,false,none⟩),(17,⟨[498],true,(aj M),[],1,false,none⟩),(18,⟨[],true,(aI P),[],1,false,none⟩),(19,⟨[],true,.qm,[],1,false,none⟩)] XU (kq [0,1]) 610 (pc (fun e:(lp dL)=true=>(pc o1 pn)) (pc j (pc j (pc j (pc j (pc j (pc (fun hq:(lp dL)=true=>(pc hq pn)) (pc (fun e:(afK dL)=true=>(pc e pn)) (pc (fun e:(ain dL)=true=>(pc o1 pn)) (pc i (pc (v9 _ _ _ L) (pc i (pc i (pc o1 (pc i (pc (tY _ _ _ _ O) (pc i (pc (eM _ _ _ Q) (pc i (pc (fun e:(afK dL)=true=>(pc e (pc e pn))) (pc (fun hq:(afK dL)=true=>(pc (asl i) pn)) pn))))))))))))))))))))) <| dr 0 48 h (fun R h=>?_) (fun R h=>?_)
     ·refine ax f 1 (kp [6]) [] 626 ?_;obtain rfl:=jS h;exact iG f 0 Tryz.f179 (kp [6]) [] 626
     ·refine ax f 2 Dz (kq [0,1]) 642 <| cY f 1 Dz (kq [0,1]) 2 (l _ _ h E f)
    ·refine bK f 1 [(4,⟨[],true,(aB false),[],2,false,none⟩),(5,⟨[],true,.qm,[],2,false,none⟩),(6,⟨[],true,(aB false),[],2,false,none⟩),(7,⟨[],true,(aI 0),[],2,false,none⟩),(8,⟨[],true,(aB false),[],2,false,none⟩),(15,⟨[],true,(aB false),[],2,false,none⟩),(16,⟨[],true,.qm,[],2,false,none⟩),(17,⟨[],true,(aB false),[],2,false,none⟩),(18,⟨[],true,(aI 0),[],2,false,none⟩),(19,⟨[],true,(aB false),[],2,false,none⟩)] XU (kq [0,1]) 610 (pc (fun e:(lp dL)=true=>(pc o1 pn)) (pc j (pc j (pc j (pc j (pc j (pc (fun hq:(lp dL)=true=>(pc hq pn)) (pc (fun e:(afK dL)=true=>(pc e pn)) (pc (fun e:(ain dL)=true=>(pc o1 pn)) (pc i (pc i (pc i (pc i (pc i (pc (fun e:(afK dL)=true=>(pc e (pc e (pc (fun hq:(xH dL)=true=>(pc (show (ain dL)=true from (GV e (GV e hq))) pn)) pn)))) (pc (fun hq:(afK dL)=true=>(pc hq pn)) pn)))))))))))))))) <| dr 0 48 h (fun S h=>?_) (fun S h=>?_)
     ·refine ax f 1 (kp [6]) [] 626 ?_;obtain rfl:=jS h;exact iG f 0 Tryz.f179 (kp [6]) [] 626
     ·refine ax f 2 Dz (kq [0,1]) 642 <| cY f 1 Dz (kq [0,1]) 2 (l _ _ h E f)
  ·refine ax f 2 (kp [6]) [] 34 ?_;obtain rfl:=jS h;exact iG f 0 Tryz.f179 (kp [6]) [] 48
theorem Lp (N b a d r) (h:sy N b a d=some r):Sd 179 [(zM b),(nh a),(VP d)] [] 0 (aB r) []:=by
 unfold sy at h;refine sO Tryz.f179 50 fun E c=>?_;refine ax c 1 (kp [3,4,5]) fU 64 <| dV c 2 Dz SH 128 (pc o1 pn) <| cY c 2 Dz [(0,.ak 16),(1,.ak 32)] 2 (Hu N _ _ _ N _ _ h E c)
theorem Hv (N d a b r) (h:vR N d a b=some r):Sd 178 [(VP d),(.op 0 0 0),(.op 1 0 0)] [(uP a),(Ig b)] 2 (aB r) [(uP a),(Ig b)]:=by
 unfold vR at h;refine sO Tryz.f178 9 fun E c=>?_;refine ax c 1 Lc fK 34 ?_;obtain ⟨e,f,h⟩:=aW h;refine bK c 1 [(3,oT (aB e))] (kp [4]) (kq [0,1]) 114 (pc o1 (pc o1 (pc o1 (pc (Lp _ _ _ _ _ f) pn)))) ?_;obtain rfl:=jS h;exact iG c 0 Tryz.f178 (kp [4]) (kq [0,1]) 114
noncomputable abbrev ajq:=bt Tryz.f219
def qk (N:Nat) (s:List az) (a:cW) (b:aw) (K:Int->Option (Int)):Prop:=∀ (x:Int) (r:Int),K x=some r->∀ E,ba E 2->aK Tryz.prog E 219 19 (bd E [(uP a),(Ig b)] (aI r)) [.code (ajq 52),.inLoop (ajq 52),.inBlock 0,.code (ajq 7)] ⟨[(0,(cA az.cells az.d s)),(1,(.fn (.func 178) [] [(.op 0 0 0),(.op 1 0 0)])),(7,(aI (s.length:Int))),(8,(aI x))],[(uP a),(Ig b)],2⟩
theorem pF (N s b d fuel):qk N s b d (bB N s b d fuel):=by
 induction fuel with
 | zero=>intro _ r h;rw [bB.eq_1] at h;cases h
 | succ fuel e =>
  intro x r h E a;rw [bB.eq_2] at h;refine ax a 1 Ox (kq [0,1]) 18 <| dr 1 9 h (fun f h=>?_) (fun f h=>?_)
  ·refine ax a 4 rT (kq [0,1]) 50 ?_;obtain ⟨c,h⟩:=ae h;obtain ⟨g,i,h⟩:=aW h;refine bK a 1 [(5,⟨[0,1],true,(aB g),[],0,false,none⟩)] K8 (kq [0,1]) 146 (pc c (pc (Hv _ _ _ _ _ i) pn)) <| dr 0 16 h (fun j h=>?_) (fun j h=>?_)
   ·refine ax a 1 (kp [4]) (kq [0,1]) 178 ?_;obtain rfl:=jS h;exact iG a 0 Tryz.f219 (kp [4]) (kq [0,1]) 178
   ·refine ax a 2 nY (kq [0,1]) 178 <| cY a 1 nY (kq [0,1]) 2 (e _ _ h E a)
  ·refine ax a 2 (kp [4]) (kq [0,1]) 34 ?_;cases h;exact iG a 0 Tryz.f219 (kp [4]) (kq [0,1]) 50
theorem qE (N s b c r) (h:fS N s b c=some r):Sd 219 [(cA az.cells az.d s),(.fn (.func 178) [] [(.op 0 0 0),(.op 1 0 0)])] [(uP b),(Ig c)] 2 (aI r) [(uP b),(Ig c)]:=by
 unfold fS at h;refine sO Tryz.f219 19 fun E a=>?_;refine ax a 1 (kp [0,1]) (kq [0,1]) 18 <| ax a 2 nY (kq [0,1]) 66 <| cY a 2 nY (kq [0,1]) 2 (pF N _ _ _ N _ _ h E a)
theorem pG (N s a b r) (h:fq N s a b=some r):Sd 177 [(cA az.cells az.d s),(.fn (.func 178) [] [(.op 0 0 0),(.op 1 0 0)])] [(uP a),(Ig b)] 2 (aB r) [(uP a),(Ig b)]:=by
 unfold fq at h;refine sO Tryz.f177 9 fun E c=>?_;refine ax c 1 (kp [0,1]) (kq [0,1]) 18 ?_;obtain ⟨d,e,h⟩:=aW h;refine bK c 1 [(2,⟨[0,1],true,(aI d),[],0,false,none⟩)] (kp [4]) (kq [0,1]) 98 (pc (qE _ _ _ _ _ e) pn) ?_;cases h;exact iG c 0 Tryz.f177 (kp [4]) (kq [0,1]) 98
theorem JX (N b a r) (h:uw N b a=some r):Sd 121 [(zM b),(nh a)] [] 0 (aB r) []:=by
 unfold uw at h;refine sO Tryz.f121 20 fun E j=>?_;refine ax j 1 (kp [2,3]) jt 48 ?_;obtain ⟨i,k,h⟩:=aW h;obtain ⟨d,l,h⟩:=aW h;obtain ⟨e,m,h⟩:=aW h;obtain ⟨f,n,h⟩:=aW h;obtain ⟨g,o,h⟩:=aW h;obtain ⟨c,h⟩:=ae h;refine bK j 1 [(2,⟨[],true,(.os 0 0 i.length),[(R2 i)],0,false,none⟩),(3,oT (aj d)),(4,oT (aj e)),(6,oT (aj f)),(7,oT (aj g))] (kp [2,3] ++ [(5,.l5 ((i ++ (Of d e f g)).length))]) (kq [0,16] ++ [(208,ri 208 az.cells az.d (i ++ (Of d e f g)))]) 240 (pc o1 (pc (ym _ _ _ k) (pc (an _ _ _ l) (pc (an _ _ _ m) (pc (an _ _ _ n) (pc (an _ _ _ o) (pc (Eq.refl i.length) (pc c (pc (z1 2) (pc (oN [[(kU d),(kW d),(kT d),(kV d),(kU e),(kW e),(kT e),(kV e)],[(kU f),(kW f),(kT f),(kV f),(kU g),(kW g),(kT g),(kV g)]]) (pc (bL i (Of d e f g)) (pc (bL i (Of d e f g)) (pc (LR az.cells az.d i (Of d e f g)) pn))))))))))))) ?_;obtain ⟨p,q,h⟩:=aW h;refine bK j 1 [(2,⟨[0,16],true,(aB p),[],0,true,none⟩)] (kp [4]) [] 304 (pc (pG _ _ _ _ _ q) (pc (z1 ((i ++ (Of d e f g)).length)) pn)) ?_;obtain rfl:=jS h;exact iG j 0 Tryz.f121 (kp [4]) [] 304
theorem JY (N b r) (h:ux N b=some r):Sd 55 [(zM b)] [] 0 (aca r) []:=by
 unfold ux at h;refine sO Tryz.f55 46 fun E a=>?_;refine ax a 1 Lc fU 64 ?_;obtain ⟨d,e,h⟩:=aW h;refine bK a 2 [(1,oT (aI d))] (kp [1,2,3,5]) fU 112 (pc o1 (pc (qZ _ _ _ e) pn)) <| ax a 1 (kp [1,2,3,5,14]) fU 144 <| dr 0 14 h (fun f h=>?_) (fun f h=>?_)
 ·refine dV a 1 iI SH 240 (pc o1 (pc o1 pn)) ?_;cases h;exact mh a 0 Tryz.f55 [] iI [(16,.var 16 [.ak,rh (cU .u16) 0 ([]:List Int),.ak,rh (cU .u16) 0 ([]:List Int),.ak,rh (cU .u16) 0 ([]:List Int),.ak,rh (cU .u16) 0 ([]:List Int),rh bH ab.d ([]:List ab)]),(17,.var 32 [.ak,rh (cU .u16) 0 ([]:List Int),.ak,rh (cU .u16) 0 ([]:List Int),.ak,rh (cU .u16) 0 ([]:List Int),.ak,rh (cU .u16) 0 ([]:List Int)])] 240 (pc (Eq.refl 0) (pc (Eq.refl 0) (pc (Eq.refl 0) (pc (Eq.refl 0) (pc (Eq.refl 0) (pc (Eq.refl 0) (pc (Eq.refl 0) (pc (Eq.refl 0) (pc (Eq.refl 0) pn))))))))) [16,17] (pc o1 (pc o1 pn))
 ·obtain ⟨g,i,h⟩:=aW h;refine bK a 3 [(1,oT (Xi g))] (kp [1,2,3,6,7]) (kq [0,16,32,224]) 272 (pc o1 (pc (yn _ _ _ i) (pc o1 pn))) <| ax a 1 (kp [1,2,3,6,7,24]) (kq [0,16,32,224]) 304 <| dr 0 24 h (fun j h=>?_) (fun j h=>?_)
  ·refine dV a 1 iI SH 400 (pc o1 (pc o1 (pc o1 pn))) ?_;cases h;exact mh a 0 Tryz.f55 [] iI [(16,.var 16 [.ak,rh (cU .u16) 0 ([]:List Int),.ak,rh (cU .u16) 0 ([]:List Int),.ak,rh (cU .u16) 0 ([]:List Int),.ak,rh (cU .u16) 0 ([]:List Int),rh bH ab.d ([]:List ab)]),(17,.ak 32)] 400 (pc (Eq.refl 0) (pc (Eq.refl 0) (pc (Eq.refl 0) (pc (Eq.refl 0) (pc (Eq.refl 0) pn))))) [16,17] (pc o1 (pc o1 pn))
  ·obtain ⟨k,l,h⟩:=aW h;refine bK a 2 [(1,oT (nh k))] (kp [1,2,3,8]) (kq [0,16,32,336]) 368 (pc o1 (pc (uH _ _ _ l) (pc o1 pn))) ?_;obtain ⟨c,m,h⟩:=aW h;refine bK a 2 [(2,oT (aB c))] (kp [1,2,3,8,32]) (kq [0,16,32,336]) 416 (pc o1 (pc o1 (pc (JX _ _ _ _ m) pn))) <| dr 0 32 h (fun n h=>?_) (fun n h=>?_)
   ·refine dV a 1 iI SH 496 (pc o1 (pc o1 pn)) ?_;cases h;exact mh a 0 Tryz.f55 [] iI [(16,.var 16 [.ak,rh (cU .u16) 0 ([]:List Int),.ak,rh (cU .u16) 0 ([]:List Int),.ak,rh (cU .u16) 0 ([]:List Int),.ak,rh (cU .u16) 0 ([]:List Int),rh bH ab.d ([]:List ab)]),(17,.var 32 [.ak,rh (cU .u16) 0 ([]:List Int),.ak,rh (cU .u16) 0 ([]:List Int),.ak,rh (cU .u16) 0 ([]:List Int),.ak,rh (cU .u16) 0 ([]:List Int)])] 496 (pc (Eq.refl 0) (pc (Eq.refl 0) (pc (Eq.refl 0) (pc (Eq.refl 0) (pc (Eq.refl 0) (pc (Eq.refl 0) (pc (Eq.refl 0) (pc (Eq.refl 0) (pc (Eq.refl 0) pn))))))))) [16,17] (pc o1 (pc o1 pn))
   ·obtain ⟨o,p,h⟩:=aW h;refine bK a 2 [(3,oT (N9 o))] (kp [2,3,8,9]) (kq [16,32,336]) 560 (pc o1 (pc o1 (pc (tX _ _ _ _ p) pn))) <| dV a 1 iI SH 672 (pc o1 (pc o1 (pc o1 pn))) ?_
    cases h;exact mh a 0 Tryz.f55 [] iI (kq [16] ++ [(17,.var 32 [.ak,rh (cU .u16) 0 ([]:List Int),.ak,rh (cU .u16) 0 ([]:List Int),.ak,rh (cU .u16) 0 ([]:List Int),.ak,rh (cU .u16) 0 ([]:List Int)])]) 672 (pc (Eq.refl 0) (pc (Eq.refl 0) (pc (Eq.refl 0) (pc (Eq.refl 0) pn)))) [16,17] (pc o1 (pc o1 pn))
noncomputable abbrev ajr:=bt Tryz.f180
def OQ (N:Nat) (a:cj) (b:cj) (K:Int->Option (Bool)):Prop:=∀ (i:Int) (r:Bool),K i=some r->∀ E,ba E 0->aK Tryz.prog E 180 38 (bd E [] (aB r)) [.code (ajr 116),.inLoop (ajr 116),.inBlock 0,.code (ajr 15)] ⟨[(2,(.op 0 0 0)),(3,(.op 1 0 0)),(5,(aI i))],[(0,vO 2 (TIc a)),(1,vO 2 (TIc b))],2⟩
theorem MB (N a b fuel):OQ N a b (mF N a b fuel):=by
 induction fuel with
 | zero=>intro _ r h;rw [mF.eq_1] at h;cases h
 | succ fuel e =>
  intro i r h E d;rw [mF.eq_2] at h;refine dV d 2 (kp [2,3,5,24]) (kq [0,1]) 82 (pc o1 pn) <| dr 0 24 h (fun f h=>?_) (fun f h=>?_)
  ·obtain ⟨c,h⟩:=ae h;obtain ⟨g,h⟩:=ae h;refine dV d 4 (kp [2,3,5,37]) (kq [0,1]) 258 (pc o1 (pc c (pc o1 (pc g pn)))) <| dr 0 37 h (fun j h=>?_) (fun j h=>?_)
   ·refine ax d 1 (kp [4]) [] 274 ?_;obtain rfl:=jS h;exact iG d 0 Tryz.f180 (kp [4]) [] 274
   ·refine ax d 2 Sx (kq [0,1]) 306 <| cY d 1 Sx (kq [0,1]) 2 (e _ _ h E d)
  ·refine ax d 2 (kp [4]) [] 98 ?_;obtain rfl:=jS h;exact iG d 0 Tryz.f180 (kp [4]) [] 98
theorem IX (N a b r) (h:wz N a b=some r):Sd 180 [(dM a),(dM b)] [] 0 (aB r) []:=by
 unfold wz at h;refine sO Tryz.f180 38 fun E d=>?_;refine ax d 1 (kp [2,3]) jt 48 <| dV d 2 (kp [2,3,19]) jt 272 (pc o1 (pc o1 (pc (fun c:(!(!(a.fG == b.fG)))=true=>(pc c (pc o1 pn))) (pc (fun c:(!(!(a.fG == b.fG)))=true=>(pc c pn)) (pc (fun c:(!(!(a.fG == b.fG)))=true=>(pc c (pc o1 pn))) (pc (fun c:(!(!(a.fG == b.fG)))=true=>(pc c pn)) (pc (fun c:(!(!(a.fG == b.fG)))=true=>(pc c (pc c pn))) (pc (fun hq:(!(!(a.fG == b.fG)))=true=>(pc hq pn)) pn)))))))) <| dr 0 19 h (fun e h=>?_) (fun e h=>?_)
 ·refine ax d 1 (kp [4]) [] 288 ?_;obtain rfl:=jS h;exact iG d 0 Tryz.f180 (kp [4]) [] 288
 ·refine ax d 3 Sx jt 288 <| cY d 2 Sx (kq [0] ++ [(1,.ak 16)]) 2 (MB N _ _ N _ _ h E d)
theorem Ta (N a b r) (h:zF N a b=some r):Sd 122 [(aj a),(aj b)] [] 0 (aB r) []:=by
 unfold zF at h;refine sO Tryz.f122 17 fun E e=>?_;refine ax e 1 (kp [2,3]) jt 48 ?_;obtain ⟨d,f,h⟩:=aW h;obtain ⟨g,i,h⟩:=aW h;refine bK e 1 [(4,oT (aB d)),(10,oT (aB g))] (kp [4]) [] 256 (pc o1 (pc o1 (pc (IX _ _ _ _ f) (pc (fun c:d=true=>(pc c (pc o1 pn))) (pc (fun c:d=true=>(pc c (pc o1 pn))) (pc (fun c:d=true=>(pc (IX _ _ _ _ (aN i c)) (pc c (pc c pn)))) (pc (fun hq:d=true=>(pc hq pn)) pn))))))) ?_;cases h;exact iG e 0 Tryz.f122 (kp [4]) [] 256
noncomputable abbrev ajs:=bt Tryz.f56
def MC (N:Nat) (a:List ab) (b:List ab) (K:Int->Option (Bool)):Prop:=∀ (i:Int) (r:Bool),K i=some r->∀ E,ba E 0->aK Tryz.prog E 56 27 (bd E [] (aB r)) [.code (ajs 116),.inLoop (ajs 116),.inBlock 0,.code (ajs 15)] ⟨[(Xl a),(1,(nW b)),(5,(aI i))],[],0⟩
theorem Lq (N a b fuel):MC N a b (kj N a b fuel):=by
 induction fuel with
 | zero=>intro _ r h;rw [kj.eq_1] at h;cases h
 | succ fuel e =>
  intro i r h E d;rw [kj.eq_2] at h;refine ax d 2 (kp [0,1,5,14]) [] 64 <| dr 0 14 h (fun f h=>?_) (fun f h=>?_)
  ·obtain ⟨c,h⟩:=ae h;obtain ⟨g,h⟩:=ae h;obtain ⟨j,k,h⟩:=aW h;refine bK d 4 [(8,oT (aB j))] (kp [0,1,5,26]) [] 224 (pc c (pc g (pc (Ta _ _ _ _ k) pn))) <| dr 0 26 h (fun l h=>?_) (fun l h=>?_)
   ·refine ax d 1 (kp [4]) [] 240 ?_;obtain rfl:=jS h;exact iG d 0 Tryz.f56 (kp [4]) [] 240
   ·refine ax d 2 nX [] 272 <| cY d 1 nX [] 0 (e _ _ h E d)
  ·refine ax d 2 (kp [4]) [] 80 ?_;obtain rfl:=jS h;exact iG d 0 Tryz.f56 (kp [4]) [] 80
theorem P8 (N a b r) (h:Ba N a b=some r):Sd 56 [(nW a),(nW b)] [] 0 (aB r) []:=by
 unfold Ba at h;refine sO Tryz.f56 27 fun E c=>?_;refine ax c 1 (kp [0,1]) [] 16 <| ax c 2 (kp [0,1,10]) [] 96 <| dr 0 10 h (fun d h=>?_) (fun d h=>?_)
 ·refine ax c 1 (kp [4]) [] 112 ?_;obtain rfl:=jS h;exact iG c 0 Tryz.f56 (kp [4]) [] 112
 ·refine ax c 3 nX [] 112 <| cY c 2 nX [] 0 (Lq N _ _ N _ _ h E c)
theorem AE (N r) (h:lO N=some r):Sd 15 [] [] 0 (aB r) []:=by
 unfold lO at h;refine sO Tryz.f15 30 fun E e=>?_;refine ax e 1 [] [] 16 ?_;obtain ⟨c,k,h⟩:=aW h;refine bK e 1 [(2,⟨[],true,(yK c),[],0,true,none⟩)] (kp [1]) [(16,ri 16 cI 0 ([0]:List Int)),(80,.var 80 [.l5 (([0]:List Int).length),.ak])] 112 (pc (show Sd 54 [(.sl 1 (fun zi=>(fun zi=>([[(aI 2)]]:List (List AV)).getD zi []) (eu 0 zi)))] [] 0 (yK c) [] from (Sound.conv (VR _ _ _ k) (.cons (Alike.sl rfl (qO cI 0 ([2]:List Int))) .nil))) (pc (z1 1) (pc o1 (pc (Eq.refl 1) (pc (qO cI 0 ([0]:List Int)) (pc (Eq.refl 1) pn)))))) ?_;obtain ⟨f,l,h⟩:=aW h;obtain ⟨g,m,h⟩:=aW h;refine bK e 1 [(0,oT (aj f)),(5,⟨[],true,.qm,[(16,aO 1 cI 0 ([0]:List Int))],0,true,none⟩),(7,⟨[],true,(aca g),[],0,true,none⟩)] (kp [2,4]) (kq [304]) 384 (pc (kK _ _ _ l) (pc o1 (pc o1 (pc (show ([0]:List Int).length<=([0]:List Int).length from (aH _)) (pc (eR cI 0 ([0]:List Int)) (pc (Eq.refl (([0]:List Int).length)) (pc (Eq.refl (([0]:List Int).length)) (pc (show Sd 55 [(.agg [(aI 40),(kU f),(kW f),(kT f),(kV f),(.sl 2 (fun zi=>(fun zi=>(aiJ c).getD zi []) (eu 0 zi)))])] [] 0 (aca g) [] from (Sound.conv (JY _ _ _ m) (.cons (Alike.agg (.cons (Alike.refl _) (.cons (Alike.refl _) (.cons (Alike.refl _) (.cons (Alike.refl _) (.cons (Alike.refl _) (.cons (Alike.slU rfl (upN (n:=2) (a:=fun zi=>(aiJ c).getD zi []) (b:=fun zi=>af.cells (([(⟨0,(⟨(⟨false,([]:List Int)⟩:cj),(⟨false,([]:List Int)⟩:cj)⟩:ab),(⟨([0]:List Int),c⟩:cO)⟩:af),(⟨100,(⟨(⟨false,([]:List Int)⟩:cj),(⟨false,([]:List Int)⟩:cj)⟩:ab),(⟨([0]:List Int),c⟩:cO)⟩:af)]:List af).getD zi af.d)) ⟨⟨trivial,⟨.inl rfl,⟨.inl rfl,⟨.inr ⟨rfl,_,rfl⟩,⟨.inl rfl,⟨.inr ⟨rfl,_,rfl⟩,⟨.inl rfl,⟨.inl rfl,trivial⟩⟩⟩⟩⟩⟩⟩⟩,⟨.inl rfl,⟨.inl rfl,⟨.inr ⟨rfl,_,rfl⟩,⟨.inl rfl,⟨.inr ⟨rfl,_,rfl⟩,⟨.inl rfl,⟨.inl rfl,trivial⟩⟩⟩⟩⟩⟩⟩⟩)) .nil))))))) .nil))) (pc (z1 2) (pc o1 (pc o1 pn))))))))))) ?_;rcases condSplit h with ⟨d,h⟩ | ⟨d,h⟩
 ·obtain ⟨i,o,h⟩:=aW h;obtain ⟨p,q,h⟩:=aW h;refine bK e 1 [(5,⟨[],true,.qm,[],1,false,none⟩),(6,⟨[],true,(yK i),[],1,true,none⟩),(7,⟨[],true,(aB p),[],1,false,none⟩)] (kp [0]) [] 544 (pc (fun j:(g.2.2 == 0)=true=>(pc j (pc o1 pn))) (pc d (pc d (pc (show Sd 54 [(.sl 2 (fun zi=>(fun zi=>([[(aI 30)],[(aI 10)]]:List (List AV)).getD zi []) (eu 0 zi)))] [] 0 (yK i) [] from (Sound.conv (VR _ _ _ o) (.cons (Alike.sl rfl (qO cI 0 ([30,10]:List Int))) .nil))) (pc (z1 2) (pc d (pc (P8 _ _ _ _ q) (pc d pn)))))))) ?_;cases h;exact iG e 0 Tryz.f15 (kp [0]) [] 544
 ·refine bK e 1 [(5,⟨[],true,.qm,[],2,false,none⟩),(6,⟨[],true,(aB false),[],2,false,none⟩),(7,⟨[],true,(aB false),[],2,false,none⟩)] (kp [0]) [] 544 (pc (fun j:(g.2.2 == 0)=true=>(pc j (pc o1 pn))) (pc d (pc d (pc d (pc (fun hq:(g.2.2 == 0)=true=>(pc hq pn)) pn))))) ?_;cases h;exact iG e 0 Tryz.f15 (kp [0]) [] 544
theorem Gx (N x n r) (h:Ex N x n=some r):Sd 58 [(aj x),(aI n)] [] 0 (aB r) []:=by
 unfold Ex at h;refine sO Tryz.f58 19 fun E b=>?_;refine ax b 1 (kp [1,2]) (kq [0]) 32 <| dV b 1 (kp [4]) [] 272 (pc o1 (pc (fun a:(Se x n)=true=>(pc a pn)) (pc (fun a:(Se x n)=true=>(pc a (pc o1 pn))) (pc (fun a:(Se x n)=true=>(pc a pn)) (pc (fun a:(Se x n)=true=>(pc a (pc a pn))) (pc (fun hq:(Se x n)=true=>(pc hq pn)) pn)))))) ?_
 cases h;exact iG b 0 Tryz.f58 (kp [4]) [] 272
noncomputable abbrev ajt:=bt Tryz.f123
def MD (N:Nat) (l:List ab) (n:Int) (K:Int->Option (Bool)):Prop:=∀ (i:Int) (r:Bool),K i=some r->∀ E,ba E 0->aK Tryz.prog E 123 19 (bd E [] (aB r)) [.code (ajt 52),.inLoop (ajt 52),.inBlock 0,.code (ajt 7)] ⟨[(Xl l),(1,(aI n)),(5,(aI i))],[],0⟩
theorem Lr (N l n fuel):MD N l n (kn N l n fuel):=by
 induction fuel with
 | zero=>intro _ r h;rw [kn.eq_1] at h;cases h
 | succ fuel b =>
  intro i r h E a;rw [kn.eq_2] at h;refine ax a 2 (kp [0,1,5,9]) [] 64 <| dr 0 9 h (fun d h=>?_) (fun d h=>?_)
  ·obtain ⟨c,h⟩:=ae h;obtain ⟨e,f,h⟩:=aW h;refine bK a 4 [(5,oT (aB e))] (kp [0,1,5,18]) [] 176 (pc c (pc (Gx _ _ _ _ f) pn)) <| dr 0 18 h (fun g h=>?_) (fun g h=>?_)
   ·refine ax a 1 (kp [4]) [] 192 ?_;obtain rfl:=jS h;exact iG a 0 Tryz.f123 (kp [4]) [] 192
   ·refine ax a 2 nX [] 224 <| cY a 1 nX [] 0 (b _ _ h E a)
  ·refine ax a 2 (kp [4]) [] 80 ?_;obtain rfl:=jS h;exact iG a 0 Tryz.f123 (kp [4]) [] 80
theorem P9 (N l n r) (h:Bb N l n=some r):Sd 123 [(nW l),(aI n)] [] 0 (aB r) []:=by
 unfold Bb at h;refine sO Tryz.f123 19 fun E a=>?_;refine ax a 1 (kp [0,1]) [] 16 <| ax a 2 nX [] 32 <| cY a 2 nX [] 0 (Lr N _ _ N _ _ h E a)
noncomputable abbrev aju:=bt Tryz.f57
def OS (N:Nat) (l:List af) (a:Int) (K:Int->Option (Bool)):Prop:=∀ (i:Int) (r:Bool),K i=some r->∀ E,ba E 0->aK Tryz.prog E 57 52 (bd E [] (aB r)) [.code (aju 116),.inLoop (aju 116),.inBlock 0,.code (aju 15)] ⟨[(acd l),(2,(aI a)),(7,(aI i))],[],0⟩
theorem ME (N l b fuel):OS N l b (lk N l b fuel):=by
 induction fuel with
 | zero=>intro _ r h;rw [lk.eq_1] at h;cases h
 | succ fuel f =>
  intro i r h E d;rw [lk.eq_2] at h;refine ax d 2 (kp [0,2,7,16]) [] 64 <| dr 0 16 h (fun g h=>?_) (fun g h=>?_)
  ·obtain ⟨c,h⟩:=ae h;refine dV d 4 (kp [0,2,7,8]) (kq [144]) 176 (pc c (pc o1 pn)) ?_;obtain ⟨j,h⟩:=ae h;obtain ⟨e,k,h⟩:=aW h;obtain ⟨m,n,h⟩:=aW h;refine bK d 1 [(19,oT (aB e)),(25,oT (aB m))] (kp [0,2,7,51]) [] 624 (pc o1 (pc (fun a:(ZF l i b)=true=>(pc a (pc o1 pn))) (pc (fun a:(ZF l i b)=true=>(pc a pn)) (pc (fun a:(ZF l i b)=true=>(pc a pn)) (pc (fun a:(ZF l i b)=true=>(pc a (pc a pn))) (pc (fun hq:(ZF l i b)=true=>(pc hq pn)) (pc (fun a:(afM l i b)=true=>(pc a (pc a (pc (j a) pn)))) (pc (fun a:(afM l i b)=true=>(pc a pn)) (pc (fun a:(afM l i b)=true=>(pc a pn)) (pc (fun a:(afM l i b)=true=>(pc (Gx _ _ _ _ (aN k a)) (pc a pn))) (pc (fun a:(afM l i b)=true=>(pc a pn)) (pc (fun hq:(afM l i b)=true=>(pc hq pn)) (pc (fun a:(amY l i b e)=true=>(pc a (pc o1 pn))) (pc (fun a:(amY l i b e)=true=>(pc (P9 _ _ _ _ (aN n a)) (pc a pn))) (pc (fun a:(amY l i b e)=true=>(pc a pn)) (pc (fun hq:(amY l i b e)=true=>(pc hq pn)) pn)))))))))))))))) <| dr 0 51 h (fun o h=>?_) (fun o h=>?_)
   ·refine ax d 1 (kp [6]) [] 640 ?_;obtain rfl:=jS h;exact iG d 0 Tryz.f57 (kp [6]) [] 640
   ·refine ax d 2 XG [] 672 <| cY d 1 XG [] 0 (f _ _ h E d)
  ·refine ax d 2 (kp [6]) [] 80 ?_;obtain rfl:=jS h;exact iG d 0 Tryz.f57 (kp [6]) [] 80
theorem Tb (N l b c r) (h:zH N l b c=some r):Sd 57 [(oW l),(aI b),(aI c)] [] 0 (aB r) []:=by
 unfold zH at h;refine sO Tryz.f57 52 fun E a=>?_;refine ax a 1 B2 [] 16 <| ax a 2 (kp [0,2,12]) [] 80 <| dr 0 12 h (fun d h=>?_) (fun d h=>?_)
 ·refine ax a 1 (kp [6]) [] 96 ?_;obtain rfl:=jS h;exact iG a 0 Tryz.f57 (kp [6]) [] 96
 ·refine ax a 3 XG [] 96 <| cY a 2 XG [] 0 (ME N _ _ N _ _ h E a)
theorem UE (N b r) (h:FN N b=some r):Sd 16 [(zM b)] [] 0 (aB r) []:=by
 unfold FN at h;refine sO Tryz.f16 11 fun E d=>?_;refine ax d 1 (kp [1]) (kq [0]) 32 ?_;obtain ⟨a,e,h⟩:=aW h;obtain ⟨f,g,h⟩:=aW h;refine bK d 1 [(2,oT (aB a)),(6,oT (aB f))] (kp [2]) [] 176 (pc o1 (pc (Tb _ _ _ _ _ e) (pc (fun c:a=true=>(pc c (pc o1 pn))) (pc (fun c:a=true=>(pc (Gx _ _ _ _ (aN g c)) (pc c pn))) (pc (fun hq:a=true=>(pc hq pn)) pn))))) ?_;cases h;exact iG d 0 Tryz.f16 (kp [2]) [] 176
noncomputable abbrev ajv:=bt Tryz.f218
def Qa (N:Nat) (a:List Int) (K:Int->Option nf):Prop:=∀ (n:Int) (r:(List Int)),K n=some r->∀ E,ba E 0->aK Tryz.prog E 218 23 (bd E [] (cA cI 0 r)) [.code (ajv 56),.inLoop (ajv 56),.inBlock 0,.code (ajv 15)] ⟨[(yJ a),(3,(aI n))],[],0⟩
theorem OT (N a fuel):Qa N a (oa N a fuel):=by
 induction fuel with
 | zero=>intro _ r h;rw [oa.eq_1] at h;cases h
 | succ fuel j =>
  intro n r h E d;rw [oa.eq_2] at h;obtain ⟨c,h⟩:=ae h;refine dV d 2 (kp [0,3,15]) [] 160 (pc (fun b:(lp n)=true=>(pc b pn)) (pc (fun b:(lp n)=true=>(pc b (pc b (pc (c b) pn)))) (pc (fun b:(lp n)=true=>(pc b pn)) (pc (fun b:(lp n)=true=>(pc b pn)) (pc (fun hq:(lp n)=true=>(pc hq pn)) pn))))) <| dr 0 15 h (fun k h=>?_) (fun k h=>?_)
  ·refine ax d 2 (kp [0,3]) [] 208 <| cY d 2 (kp [0,3]) [] 0 (j _ _ h E d)
  ·obtain ⟨e,h⟩:=ae h;obtain ⟨l,h⟩:=ae h;obtain ⟨m,h⟩:=ae h;refine dV d 2 [(2,.l5 (aiv a n))] [(224,ri 224 cI 0 (RR a n))] 256 (pc e (pc l (pc (Eq.refl 0) (pc m (pc (show ∀ zi,zi < (n.toNat - 0)->AV.xe ((fun zi=>cI (a.getD (eu 0 zi) 0)) zi)=true from (fun _ _=>rfl)) (pc (show (0+(n.toNat - 0))=(RR a n).length from (zu rfl (Md a 0 n.toNat e))) (pc (show 0+(n.toNat - 0)=(RR a n).length from (zu rfl (Md a 0 n.toNat e))) (pc (show ∀ zi,zi < (RR a n).length->(fun zi=>cI ((RR a n).getD zi 0)) zi=((fun f=>if f < 0 then (fun _=>[]) f else (fun zi=>cI (a.getD (eu 0 zi) 0)) (f - 0))) zi from (CO cI 0 ([]:List Int) ((a.take n.toNat).drop 0) rfl (fun i g=>absurd g (iq _)) (fun i g=>WJ cI 0 a 0 n.toNat i g))) pn)))))))) ?_;cases h;exact mh d 0 Tryz.f218 [224] [(2,rh cI 0 (RR a n))] [] 256 (pc (Eq.refl (aiv a n)) (pc (z1 (aiv a n)) (pc (eZ cI 0 (RR a n)) pn))) [] pn
theorem sL (N a r) (h:rP N a=some r):Sd 218 [(cA cI 0 a)] [] 0 (cA cI 0 r) []:=by
 unfold rP at h;refine sO Tryz.f218 23 fun E b=>?_;refine ax b 1 (kp [0]) [] 16 <| ax b 1 (kp [0,3]) [] 64 <| cY b 3 (kp [0,3]) [] 0 (OT N _ N _ _ h E b)
noncomputable abbrev ajw:=bt Tryz.f176
def Qb (N:Nat) (l:List Int) (K:(List Int)->Int->Option nf):Prop:=∀ (a:List Int) (i:Int) (r:(List Int)),K a i=some r->∀ E,ba E 0->aK Tryz.prog E 176 21 (bd E [] (cA cI 0 r)) [.code (ajw 116),.inLoop (ajw 116),.inBlock 0,.code (ajw 15)] ⟨[(0,(di l)),(3,(nF a)),(4,(aI i))],[(qX a)],1⟩
theorem OU (N l fuel):Qb N l (oc N l fuel):=by
 induction fuel with
 | zero=>intro _ _ r h;rw [oc.eq_1] at h;cases h
 | succ fuel d =>
  intro a i r h E b;rw [oc.eq_2] at h;refine ax b 2 (kp [0,3,4,8]) (kq [0]) 65 <| dr 0 8 h (fun e h=>?_) (fun e h=>?_)
  ·obtain ⟨c,h⟩:=ae h;obtain ⟨f,h⟩:=ae h;refine dV b 3 (kp [0] ++ [(3,.l5 ((a ++ (R7 l i)).length))] ++ kp [4]) [(177,ri 177 cI 0 (a ++ (R7 l i)))] 209 (pc c (pc (Eq.refl a.length) (pc f (pc (z1 1) (pc (oN [[(aI (av ((l.getD i.toNat 0))))]]) (pc (bL a (R7 l i)) (pc (bL a (R7 l i)) (pc (LR cI 0 a (R7 l i)) pn)))))))) <| ax b 1 B4 (kq [177]) 257 <| cY b 1 B4 [(0,.ak 177)] 1 (d _ _ _ h E b)
  ·obtain ⟨g,j,h⟩:=aW h;refine bK b 2 [(1,⟨[],true,(cA cI 0 g),[],0,true,none⟩)] (kp [2]) [] 113 (pc (sL _ _ _ j) (pc (z1 a.length) pn)) ?_;obtain rfl:=jS h;exact iG b 0 Tryz.f176 (kp [2]) [] 113
theorem ot (N l r) (h:mb N l=some r):Sd 176 [(di l)] [] 0 (cA cI 0 r) []:=by
 unfold mb at h;refine sO Tryz.f176 21 fun E a=>?_;refine ax a 1 (kp [0]) [] 16 <| ax a 1 (kp [0,3]) [] 32 <| ax a 2 B4 [] 48 <| cY a 2 aiT [(0,.nil 1 Om)] 1 (OU N _ N _ _ _ h E a)
noncomputable abbrev ajx:=bt Tryz.f184
def Qc (N:Nat) (neg:Bool) (a:List Int) (K:(List Int)->Int->Option (cj)):Prop:=∀ (x:List Int) (i:Int) (r:cj),K x i=some r->∀ E,ba E 0->aK Tryz.prog E 184 31 (bd E [] (dM r)) [.code (ajx 116),.inLoop (ajx 116),.inBlock 0,.code (ajx 15)] ⟨[(B1 a),(4,(.op 0 0 0)),(5,(.op 1 0 0)),(6,(aI i))],[(0,vO 2 [(aB false),.nil]),(1,vN 2 [(aB (cond neg (K5 a) false)),(Pt x)]),(2,aU x)],3⟩
theorem OV (N neg a fuel):Qc N neg a (oe N neg a fuel):=by
 induction fuel with
 | zero=>intro _ _ r h;rw [oe.eq_1] at h;cases h
 | succ fuel d =>
  intro x i r h E b;rw [oe.eq_2] at h;refine ax b 2 (kp [1,4,5,6,17]) fK 67 <| dr 0 17 h (fun e h=>?_) (fun e h=>?_)
  ·obtain ⟨c,h⟩:=ae h;obtain ⟨f,h⟩:=ae h;refine dV b 3 Su (kq [0] ++ [(1,.var 1 [.ak,.l5 ((x ++ (R5 a i)).length)]),(195,ri 195 (cU .u16) 0 (x ++ (R5 a i)))]) 243 (pc o1 (pc c (pc (Eq.refl x.length) (pc f (pc (z1 1) (pc (oN [[(a16 (IntKind.u16.wrap ((a.getD i.toNat 0))))]]) (pc o1 (pc (bL x (R5 a i)) (pc (bL x (R5 a i)) (pc (LR (cU .u16) 0 x (R5 a i)) pn)))))))))) <| ax b 1 Su (kq [0,1,195]) 291 <| cY b 1 Su (kq [0,1] ++ [(2,.ak 195)]) 3 (d _ _ _ h E b)
  ·refine dV b 2 (kp [4]) (kq [0,2]) 99 (pc o1 (pc o1 pn)) ?_;cases h;exact mh b 0 Tryz.f184 [2] (kp [4]) [(16,.var 0 [.ak,rh (cU .u16) 0 x])] 99 (pc (Eq.refl x.length) (pc (z1 x.length) (pc (eZ (cU .u16) 0 x) pn))) [16] (pc o1 pn)
theorem mv (N neg a r) (h:jP N neg a=some r):Sd 184 [(aB neg),(cA cI 0 a)] [] 0 (dM r) []:=by
 unfold jP at h;refine sO Tryz.f184 31 fun E b=>?_;refine ax b 1 Iq (kq [0]) 16 <| dV b 1 (kp [1,4,5]) (kq [0,128]) 160 (pc (fun c:neg=true=>(pc c pn)) (pc (fun c:neg=true=>(pc c pn)) (pc (fun hq:neg=true=>(pc hq pn)) (pc o1 pn)))) <| ax b 2 Su (kq [0,128]) 176 <| cY b 2 Su (kq [0] ++ [(1,.var 128 [.ak,.tD 2]),(2,.nil 1 (fun zi=>(cU .u16) (([]:List Int).getD zi 0)))]) 3 (OV N _ _ N _ _ _ h E b)
noncomputable abbrev ajy:=bt Tryz.f185
def UF (N:Nat) (n:Int) (K:(List Int)->Int->Option (cj)):Prop:=∀ (a:List Int) (u:Int) (r:cj),K a u=some r->∀ E,ba E 0->aK Tryz.prog E 185 25 (bd E [] (dM r)) [.code (ajy 248),.inLoop (ajy 248),.inBlock 0,.code (ajy 63)] ⟨[(0,(aI n)),(2,(.op 0 0 0)),(3,(CT a)),(4,(wD u))],[(0,vO 2 [(aB false),.nil]),(gI a)],2⟩
theorem IY (N n fuel):UF N n (qe N n fuel):=by
 induction fuel with
 | zero=>intro _ _ r h;rw [qe.eq_1] at h;cases h
 | succ fuel d =>
  intro a u r h E b;rw [qe.eq_2] at h;refine ax b 2 (kp [0,2,3,4,12]) (kq [0,1]) 34 <| dr 0 12 h (fun e h=>?_) (fun e h=>?_)
  ·obtain ⟨c,h⟩:=ae h;refine dV b 3 (kp [0,2] ++ [(3,.l5 ((a ++ (R8 u)).length))] ++ kp [4]) (kq [0] ++ [(114,ri 114 cI 0 (a ++ (R8 u)))]) 146 (pc (show (65536:Int)≠0 by decide) (pc (Eq.refl a.length) (pc c (pc (z1 1) (pc (oN [[(aI (av ((u.tmod 65536))))]]) (pc (bL a (R8 u)) (pc (bL a (R8 u)) (pc (LR cI 0 a (R8 u)) pn)))))))) <| dV b 1 XE (kq [0,114]) 194 (pc (show (65536:Int)≠0 by decide) pn) <| cY b 1 XE (kq [0] ++ [(1,.ak 114)]) 2 (d _ _ _ h E b)
  ·obtain ⟨f,g,h⟩:=aW h;refine bK b 2 [(3,⟨[],true,(dM f),[],0,true,none⟩)] (kp [2]) (kq [0]) 114 (pc (mv _ _ _ _ g) (pc (z1 a.length) (pc o1 pn))) ?_;obtain rfl:=jS h;exact mh b 0 Tryz.f185 [] (kp [2]) [(16,.ak 0)] 114 pn [16] (pc o1 pn)
theorem ZT (N n r) (h:Ey N n=some r):Sd 185 [(aI n)] [] 0 (dM r) []:=by
 unfold Ey at h;refine sO Tryz.f185 25 fun E a=>?_;refine ax a 1 (kp [0,2]) (kq [0]) 16 <| ax a 1 (kp [0,2,3]) (kq [0]) 32 <| ax a 1 XE (kq [0]) 80 <| ax a 2 (kp [0,2,3,4,8]) (kq [0]) 112 <| dr 0 8 h (fun b h=>?_) (fun b h=>?_)
 ·refine ax a 0 XE (kq [0]) 160 <| cY a 3 aiS ajd 2 (IY N _ N _ _ _ h E a)
 ·exact cY a 4 aiS ajd 2 (IY N _ N _ _ _ h E a)
theorem xX (N a i r) (h:rD N a i=some r):Sd 220 [(cA cI 0 a),(aI i)] [] 0 (aI r) []:=by
 unfold rD at h;refine sO Tryz.f220 13 fun E b=>?_;refine ax b 1 (kp [0,1]) [] 16 <| ax b 2 (kp [0,1,8]) [] 80 <| dr 0 8 h (fun d h=>?_) (fun d h=>?_)
 ·obtain ⟨c,h⟩:=ae h;refine dV b 1 (kp [4]) [] 160 (pc c pn) ?_;cases h;exact iG b 0 Tryz.f220 (kp [4]) [] 160
 ·refine ax b 2 (kp [4]) [] 96 ?_;cases h;exact iG b 0 Tryz.f220 (kp [4]) [] 96
noncomputable abbrev Pv:=bt Tryz.f188
def E5 (N:Nat) (a:List Int) (b:List Int) (K:(List Int)->Int->Option nf):Prop:=∀ (out:List Int) (i:Int) (r:(List Int)),K out i=some r->∀ E,ba E 0->aK Tryz.prog E 188 61 (bd E [] (cA cI 0 r)) [.code (Pv 116),.inLoop (Pv 116),.inBlock 0,.code (Pv 15)] ⟨[(yJ a),(B1 b),(5,(nF out)),(6,(aI i))],[(qX out)],1⟩
def OW (N:Nat) (a:List Int) (b:List Int) (i:Int) (K:(List Int)->Int->Int->Option nf):Prop:=∀ (c:List Int) (carry:Int) (k:Int) (r:(List Int)),K c carry k=some r->∀ E,ba E 0->aK Tryz.prog E 188 61 (bd E [] (cA cI 0 r)) [.code (Pv 14924),.inLoop (Pv 14924),.inBlock 2,.inBlock 1,.code (Pv 467),.inLoop (Pv 116),.inBlock 0,.code (Pv 15)] ⟨[(yJ a),(B1 b),(5,(nF c)),(6,(aI i)),(7,(aI carry)),(8,(aI k))],[(qX c)],1⟩
theorem MF (N:Nat) (a:List Int) (b:List Int) (i:Int) (g:(List Int)->Int->Option nf) (j:E5 N a b g) (fuel:Nat):OW N a b i (mH N a b i g fuel):=by
 induction fuel with
 | zero=>intro _ _ _ r h;rw [mH.eq_1] at h;cases h
 | succ fuel l =>
  intro c carry k r h E d;rw [mH.eq_2] at h;refine dV d 2 (kp [0,1,5,6,7,8,30]) (kq [0]) 129 (pc (fun m:(ZD k b)=true=>(pc m pn)) (pc (fun hq:(ZD k b)=true=>(pc hq pn)) pn)) <| dr 0 30 h (fun n h=>?_) (fun n h=>?_)
  ·obtain ⟨f,h⟩:=ae h;obtain ⟨o,h⟩:=ae h;obtain ⟨e,p,h⟩:=aW h;refine bK d 4 [(12,oT (aI e))] (kp [0,1,5,6,8,9]) (kq [0]) 417 (pc f (pc (dR f) (pc o (pc (xX _ _ _ _ p) pn)))) <| dV d 1 (kp [0,1] ++ [(5,.l5 ((c.set (BZ i k) (ZM c i k a e carry)).length))] ++ kp [6,8,9]) [(0,ri 0 cI 0 (c.set (BZ i k) (ZM c i k a e carry)))] 545 (pc (show (65536:Int)≠0 by decide) (pc f (pc (dR f) (pc (bm c (BZ i k) (ZM c i k a e carry)) (pc (bm c (BZ i k) (ZM c i k a e carry)) (pc (dK cI 0 c (BZ i k) (ZM c i k a e carry)) pn)))))) <| dV d 0 Dv (kq [0]) 593 (pc (show (65536:Int)≠0 by decide) pn) <| ax d 1 Dv (kq [0]) 641 <| cY d 1 Dv (kq [0]) 1 (l _ _ _ _ h E d)
  ·refine ax d 2 B3 (kq [0]) 177 <| cY d 1 B3 (kq [0]) 1 (j _ _ _ h E d)
theorem MH (N a b fuel):E5 N a b (mI N a b fuel):=by
 induction fuel with
 | zero=>intro _ _ r h;rw [mI.eq_1] at h;cases h
 | succ fuel d =>
  intro out i r h E c;rw [mI.eq_2] at h;refine ax c 2 (kp [0,1,5,6,20]) (kq [0]) 65 <| dr 0 20 h (fun e h=>?_) (fun e h=>?_)
  ·refine ax c 4 Is (kq [0]) 81 <| ax c 1 Dv (kq [0]) 97 <| cY c 2 Dv (kq [0]) 1 (MF N _ _ _ _ d N _ _ _ _ h E c)
  ·obtain ⟨f,g,h⟩:=aW h;refine bK c 2 [(1,⟨[],true,(cA cI 0 f),[],0,true,none⟩)] (kp [4]) [] 113 (pc (sL _ _ _ g) (pc (z1 out.length) pn)) ?_;obtain rfl:=jS h;exact iG c 0 Tryz.f188 (kp [4]) [] 113
theorem Ch (N a b r) (h:qf N a b=some r):Sd 188 [(cA cI 0 a),(cA cI 0 b)] [] 0 (cA cI 0 r) []:=by
 unfold qf at h;refine sO Tryz.f188 61 fun E d=>?_;refine ax d 1 (kp [0,1]) [] 16 ?_;obtain ⟨c,h⟩:=ae h;refine dV d 1 (kp [0,1] ++ [(5,.l5 ((aiI a b).length))]) [(112,ri 112 cI 0 (aiI a b))] 144 (pc c.1 (pc (Int.le_refl (ab9 a b)) (pc c.2.1 (pc c.2.2 (pc (lR (aiB a b) (0:Int)) (pc (lR (aiB a b) (0:Int)) (pc (A5 cI 0 0 (aiB a b)) pn))))))) <| ax d 2 B3 (kq [112]) 160 <| cY d 2 B3 [(0,.ak 112)] 1 (MH N _ _ N _ _ _ h E d)
noncomputable abbrev ajz:=bt Tryz.f205
def Ls (N:Nat) (a:List Int) (b:List Int) (K:Int->Option (Int)):Prop:=∀ (i:Int) (r:Int),K i=some r->∀ E,ba E 0->aK Tryz.prog E 205 41 (bd E [] (aI r)) [.code (ajz 116),.inLoop (ajz 116),.inBlock 0,.code (ajz 15)] ⟨[(yJ a),(B1 b),(5,(aI i))],[],0⟩
theorem JZ (N a b fuel):Ls N a b (kI N a b fuel):=by
 induction fuel with
 | zero=>intro _ r h;rw [kI.eq_1] at h;cases h
 | succ fuel f =>
  intro i r h E d;rw [kI.eq_2] at h;refine ax d 2 (kp [0,1,5,20]) [] 32 <| dr 0 20 h (fun g h=>?_) (fun g h=>?_)
  ·obtain ⟨c,h⟩:=ae h;obtain ⟨e,h⟩:=ae h;refine dV d 4 (kp [0,1,5,31]) [] 176 (pc c (pc e pn)) <| dr 0 31 h (fun j h=>?_) (fun j h=>?_)
   ·refine dV d 1 (kp [4]) [] 336 (pc c (pc e pn)) ?_;cases h;exact iG d 0 Tryz.f205 (kp [4]) [] 336
   ·refine ax d 2 nX [] 224 <| cY d 1 nX [] 0 (f _ _ h E d)
  ·refine ax d 2 (kp [4]) [] 48 ?_;cases h;exact iG d 0 Tryz.f205 (kp [4]) [] 48
theorem E6 (N a b r) (h:sH N a b=some r):Sd 205 [(cA cI 0 a),(cA cI 0 b)] [] 0 (aI r) []:=by
 unfold sH at h;refine sO Tryz.f205 41 fun E c=>?_;refine ax c 1 (kp [0,1]) [] 16 <| ax c 2 (kp [0,1,10]) [] 96 <| dr 0 10 h (fun d h=>?_) (fun d h=>?_)
 ·refine ax c 1 (kp [4]) [] 192 ?_;cases h;exact iG c 0 Tryz.f205 (kp [4]) [] 192
 ·refine ax c 3 nX [] 160 <| cY c 2 nX [] 0 (JZ N _ _ N _ _ h E c)
noncomputable abbrev Tc:=bt Tryz.f206
def E7 (N:Nat) (a:List Int) (b:List Int) (K:(List Int)->Int->Int->Option nf):Prop:=∀ (out:List Int) (c:Int) (i:Int) (r:(List Int)),K out c i=some r->∀ E,ba E 0->aK Tryz.prog E 206 35 (bd E [] (cA cI 0 r)) [.code (Tc 244),.inLoop (Tc 244),.inBlock 0,.code (Tc 31)] ⟨[(yJ a),(B1 b),(5,(nF out)),(6,(aI c)),(7,(aI i))],[(qX out)],1⟩
def OX (N:Nat) (a:List Int) (b:List Int) (out:List Int) (i:Int) (K:Int->Int->Option nf):Prop:=∀ (c:Int) (s:Int) (r:(List Int)),K c s=some r->∀ E,ba E 0->aK Tryz.prog E 206 35 (bd E [] (cA cI 0 r)) [.code (Tc 15655),.inBlock 1,.code (Tc 979),.inLoop (Tc 244),.inBlock 0,.code (Tc 31)] ⟨[(yJ a),(B1 b),(5,(nF out)),(6,(aI c)),(7,(aI i)),(8,(aI s))],[(qX out)],1⟩
theorem CX (N:Nat) (a:List Int) (b:List Int) (out:List Int) (i:Int) (d:(List Int)->Int->Int->Option nf) (e:E7 N a b d):OX N a b out i (qS N a b out i d):=by
 intro g s r h E c;unfold qS at h;obtain ⟨f,h⟩:=ae h;refine dV c 0 (kp [0,1] ++ [(5,.l5 ((out ++ ([s]:List Int)).length))] ++ kp [6,7]) [(49,ri 49 cI 0 (out ++ ([s]:List Int)))] 81 (pc (Eq.refl out.length) (pc f (pc (z1 1) (pc (oN [[(aI s)]]) (pc (bL out ([s]:List Int)) (pc (bL out ([s]:List Int)) (pc (LR cI 0 out ([s]:List Int)) pn))))))) <| ax c 1 Is (kq [49]) 129 <| cY c 1 Is [(0,.ak 49)] 1 (e _ _ _ _ h E c)
theorem MJ (N a b fuel):E7 N a b (kb N a b fuel):=by
 induction fuel with
 | zero=>intro _ _ _ r h;rw [kb.eq_1] at h;cases h
 | succ fuel f =>
  intro out e i r h E d;rw [kb.eq_2] at h;refine ax d 2 (kp [0,1,5,6,7,12]) (kq [0]) 65 <| dr 0 12 h (fun g h=>?_) (fun g h=>?_)
  ·obtain ⟨c,h⟩:=ae h;obtain ⟨j,k,h⟩:=aW h;refine bK d 4 [(6,oT (aI j))] rT (kq [0]) 241 (pc c (pc (xX _ _ _ _ k) pn)) <| ax d 1 Dv (kq [0]) 257 <| ax d 2 (kp [0,1,5,6,7,8,26]) (kq [0]) 289 <| dr 0 26 h (fun l h=>?_) (fun l h=>?_)
   ·refine ax d 1 rT (kq [0]) 337 <| ax d 0 Dv (kq [0]) 353 <| cY d 0 Dv (kq [0]) 1 (CX N _ _ _ _ _ f _ _ _ h E d)
   ·exact cY d 1 Dv (kq [0]) 1 (CX N _ _ _ _ _ f _ _ _ h E d)
  ·obtain ⟨m,n,h⟩:=aW h;refine bK d 2 [(1,⟨[],true,(cA cI 0 m),[],0,true,none⟩)] (kp [4]) [] 113 (pc (sL _ _ _ n) (pc (z1 out.length) pn)) ?_;obtain rfl:=jS h;exact iG d 0 Tryz.f206 (kp [4]) [] 113
theorem Ci (N a b r) (h:wA N a b=some r):Sd 206 [(cA cI 0 a),(cA cI 0 b)] [] 0 (cA cI 0 r) []:=by
 unfold wA at h;refine sO Tryz.f206 35 fun E c=>?_;refine ax c 1 (kp [0,1]) [] 16 <| ax c 1 nX [] 32 <| ax c 1 B3 [] 48 <| ax c 2 Is [] 64 <| cY c 2 aiR [(0,.nil 1 Om)] 1 (MJ N _ _ N _ _ _ _ h E c)
noncomputable abbrev G6:=bt Tryz.f187
def AF (N:Nat) (a:List Int) (b:List Int) (K:(List Int)->(List Int)->Int->Option EB):Prop:=∀ (rest:List Int) (q:List Int) (i:Int) (r:(List Int)×(List Int)),K rest q i=some r->∀ E,ba E 0->aK Tryz.prog E 187 63 (bd E [] (KQ r)) [.code (G6 244),.inLoop (G6 244),.inBlock 0,.code (G6 31)] ⟨[(yJ a),(B1 b),(6,(cA cI 0 rest)),(7,(nF q)),(8,(aI i))],[(qX q)],1⟩
def Qd (N:Nat) (a:List Int) (b:List Int) (q:List Int) (i:Int) (c:(List Int)) (K:Int->Int->Option EB):Prop:=∀ (lo:Int) (hi:Int) (r:(List Int)×(List Int)),K lo hi=some r->∀ E,ba E 0->aK Tryz.prog E 187 63 (bd E [] (KQ r)) [.code (G6 62616),.inLoop (G6 62616),.inBlock 2,.code (G6 15655),.inBlock 1,.code (G6 979),.inLoop (G6 244),.inBlock 0,.code (G6 31)] ⟨[(yJ a),(B1 b),(6,(cA cI 0 c)),(7,(nF q)),(8,(aI i)),(9,(aI lo)),(10,(aI hi))],[(qX q)],1⟩
def Qe (N:Nat) (a:List Int) (b:List Int) (q:List Int) (i:Int) (lo:Int) (K:(List Int)->Option EB):Prop:=∀ (c:List Int) (r:(List Int)×(List Int)),K c=some r->∀ E,ba E 0->aK Tryz.prog E 187 63 (bd E [] (KQ r)) [.code (G6 979),.inLoop (G6 244),.inBlock 0,.code (G6 31)] ⟨[(yJ a),(B1 b),(6,(cA cI 0 c)),(7,(.os 0 0 ((q.set i.toNat lo).length))),(8,(aI i))],[(0,aO 1 cI 0 (q.set i.toNat lo))],1⟩
theorem E8 (N:Nat) (a:List Int) (b:List Int) (q:List Int) (i:Int) (lo:Int) (d:(List Int)->(List Int)->Int->Option EB) (e:AF N a b d):Qe N a b q i lo (sI N a b q i lo d):=by
 intro f r h E c;unfold sI at h;refine ax c 0 yM (kq [0]) 49 <| cY c 1 yM (kq [0]) 1 (e _ _ _ _ h E c)
theorem OY (N:Nat) (a:List Int) (b:List Int) (q:List Int) (i:Int) (d:(List Int)) (e:(List Int)->(List Int)->Int->Option EB) (f:AF N a b e) (fuel:Nat):Qd N a b q i d (mj N a b q i d e fuel):=by
 induction fuel with
 | zero=>intro _ _ r h;rw [mj.eq_1] at h;cases h
 | succ fuel g =>
  intro lo hi r h E c;rw [mj.eq_2] at h;refine ax c 2 (kp [0,1,6,7,8,9,10,32]) (kq [0]) 49 <| dr 0 32 h (fun m h=>?_) (fun m h=>?_)
  ·refine dV c 3 (kp [0,1,6,7,8,9,10,11]) (kq [0]) 145 (pc (show (2:Int)≠0 by decide) pn) ?_;obtain ⟨j,n,h⟩:=aW h;obtain ⟨o,p,h⟩:=aW h;refine bK c 1 [(3,⟨[],true,(cA cI 0 j),[],0,true,none⟩),(5,oT (aI o))] (kp [0,1,6,7,8,9,10,11,44]) (kq [0]) 257 (pc (show Sd 188 [(cA cI 0 b),(.sl 1 (fun zi=>(fun zi=>([[(aI (av ((av ((av (lo+hi))+1)).tdiv 2)))]]:List (List AV)).getD zi []) (eu 0 zi)))] [] 0 (cA cI 0 j) [] from (Sound.conv (Ch _ _ _ _ n) (.cons (Alike.refl _) (.cons (Alike.sl rfl (qO cI 0 ([(av ((av ((av (lo+hi))+1)).tdiv 2))]:List Int))) .nil)))) (pc (z1 1) (pc (E6 _ _ _ _ p) pn))) <| dr 0 44 h (fun s h=>?_) (fun s h=>?_)
   ·refine ax c 0 Ow (kq [0]) 289 <| cY c 2 Ow (kq [0]) 1 (g _ _ _ h E c)
   ·refine ax c 0 Ow (kq [0]) 305 <| cY c 2 Ow (kq [0]) 1 (g _ _ _ h E c)
  ·obtain ⟨k,h⟩:=ae h;refine dV c 2 (kp [0,1,6] ++ [(7,.l5 ((q.set i.toNat lo).length))] ++ kp [8,9]) [(0,ri 0 cI 0 (q.set i.toNat lo))] 129 (pc k (pc (dR k) (pc (bm q i.toNat lo) (pc (bm q i.toNat lo) (pc (dK cI 0 q i.toNat lo) pn))))) <| ax c 1 (kp [0,1,6,7,8,9,53]) (kq [0]) 161 <| dr 0 53 h (fun t h=>?_) (fun t h=>?_)
   ·obtain ⟨l,u,h⟩:=aW h;obtain ⟨v,w,h⟩:=aW h;refine bK c 0 [(4,⟨[],true,(cA cI 0 l),[],0,true,none⟩),(5,oT (cA cI 0 v))] yM (kq [0]) 273 (pc (show Sd 188 [(cA cI 0 b),(.sl 1 (fun zi=>(fun zi=>([[(aI lo)]]:List (List AV)).getD zi []) (eu 0 zi)))] [] 0 (cA cI 0 l) [] from (Sound.conv (Ch _ _ _ _ u) (.cons (Alike.refl _) (.cons (Alike.sl rfl (qO cI 0 ([lo]:List Int))) .nil)))) (pc (z1 1) (pc (Ci _ _ _ _ w) pn))) <| cY c 1 yM (kq [0]) 1 (E8 N _ _ _ _ _ _ f _ _ h E c)
   ·exact cY c 2 yM (kq [0]) 1 (E8 N _ _ _ _ _ _ f _ _ h E c)
theorem OZ (N a b fuel):AF N a b (ml N a b fuel):=by
 induction fuel with
 | zero=>intro _ _ _ r h;rw [ml.eq_1] at h;cases h
 | succ fuel f =>
  intro rest q i r h E c;rw [ml.eq_2] at h;refine ax c 2 (kp [0,1,6,7,8,19]) (kq [0]) 33 <| dr 0 19 h (fun g h=>?_) (fun g h=>?_)
  ·obtain ⟨j,h⟩:=ae h;obtain ⟨k,h⟩:=ae h;obtain ⟨e,l,h⟩:=aW h;refine bK c 4 [(7,⟨[],true,(cA cI 0 e),[],0,true,none⟩)] yM (kq [0]) 177 (pc j (pc (Eq.refl 1) (pc k (pc (show ∀ zi,zi < rest.length->AV.xe ((fun zi=>cI (rest.getD zi 0)) zi)=true from (fun _ _=>rfl)) (pc (show Sd 218 [(.sl (1+rest.length) (fun zi=>((fun d=>if d < 1 then (fun zi=>([[(aI (zK a i))]]:List (List AV)).getD zi []) d else (fun zi=>cI (rest.getD zi 0)) (d - 1))) (eu 0 zi)))] [] 0 (cA cI 0 e) [] from (Sound.conv (sL _ _ _ l) (.cons (Alike.sl (zu rfl rfl) (CO cI 0 ([(zK a i)]:List Int) rest rfl (qO cI 0 ([(zK a i)]:List Int)) (eR cI 0 rest))) .nil))) (pc (z1 (1+rest.length)) pn)))))) <| ax c 1 Ow (kq [0]) 209 <| cY c 3 Ow (kq [0]) 1 (OY N _ _ _ _ _ _ f N _ _ _ h E c)
  ·obtain ⟨m,n,h⟩:=aW h;refine bK c 2 [(1,⟨[],true,(cA cI 0 m),[],0,true,none⟩)] (kp [4,5]) [] 113 (pc (sL _ _ _ n) (pc (z1 q.length) pn)) ?_;cases h;exact iG c 0 Tryz.f187 (kp [4,5]) [] 113
theorem DR (N a b r) (h:tP N a b=some r):Sd 187 [(cA cI 0 a),(cA cI 0 b)] [] 0 (KQ r) []:=by
 unfold tP at h;refine sO Tryz.f187 63 fun E d=>?_;refine ax d 1 (kp [0,1]) [] 32 <| ax d 1 (kp [0,1,6]) [] 48 ?_
 obtain ⟨c,h⟩:=ae h;refine dV d 1 (kp [0,1,6] ++ [(7,.l5 (aiw a))]) [(80,ri 80 cI 0 (Xc a))] 112 (pc c.1 (pc (Int.le_refl (Ao a)) (pc c.2.1 (pc c.2.2 (pc (lR a.length (0:Int)) (pc (lR a.length (0:Int)) (pc (A5 cI 0 0 a.length) pn))))))) <| ax d 2 yM (kq [80]) 176 <| rnW d 2 [] (kp [0,1] ++ [(6,rh cI 0 ([]:List Int))] ++ kp [7,8]) [(0,.ak 80)] 1 (pc (Eq.refl 0) pn) (OZ N _ _ N _ _ _ _ h E d)
noncomputable abbrev ajA:=bt Tryz.f186
def Td (N:Nat) (K:(List Int)->(List Int)->Option nf):Prop:=∀ (a:List Int) (b:List Int) (r:(List Int)),K a b=some r->∀ E,ba E 0->aK Tryz.prog E 186 19 (bd E [] (cA cI 0 r)) [.code (ajA 24),.inLoop (ajA 24),.inBlock 0,.code (ajA 7)] ⟨[(yJ a),(B1 b)],[],0⟩
theorem Qf (N fuel):Td N (rQ N fuel):=by
 induction fuel with
 | zero=>intro _ _ r h;rw [rQ.eq_1] at h;cases h
 | succ fuel b =>
  intro e f r h E a;rw [rQ.eq_2] at h;refine ax a 2 (kp [0,1,9]) [] 48 <| dr 0 9 h (fun c h=>?_) (fun c h=>?_)
  ·obtain ⟨jC,d,h⟩:=aW h;refine bK a 3 [(2,oT (KQ jC))] (kp [1,6]) [] 176 (pc (DR _ _ _ _ d) pn) <| ax a 0 (kp [0,1]) [] 240 <| cY a 2 (kp [0,1]) [] 0 (b _ _ _ h E a)
  ·refine ax a 2 (kp [4]) [] 80 ?_;obtain rfl:=jS h;exact iG a 0 Tryz.f186 (kp [4]) [] 80
theorem Ye (N a b r) (h:Jx N a b=some r):Sd 186 [(cA cI 0 a),(cA cI 0 b)] [] 0 (cA cI 0 r) []:=by
 unfold Jx at h;refine sO Tryz.f186 19 fun E c=>?_;refine ax c 1 (kp [0,1]) [] 16 <| cY c 3 (kp [0,1]) [] 0 (Qf N N _ _ _ h E c)
theorem DS (N a b r) (h:vS N a b=some r):Sd 127 [(dM a),(dM b)] [] 0 (aj r) []:=by
 unfold vS at h;refine sO Tryz.f127 52 fun E c=>?_;refine ax c 1 iI fU 48 ?_;obtain ⟨e,f,h⟩:=aW h;obtain ⟨g,i,h⟩:=aW h;refine bK c 1 [(2,oT (cA cI 0 e)),(5,oT (cA cI 0 g))] uQ fU 176 (pc o1 (pc (ot _ _ _ f) (pc o1 (pc (ot _ _ _ i) pn)))) <| ax c 2 (kp [2,3,4,5,6,20]) fU 224 <| dr 0 20 h (fun j h=>?_) (fun j h=>?_)
 ·obtain ⟨k,l,h⟩:=aW h;obtain ⟨rOf,m,h⟩:=aW h;refine bK c 1 [(3,oT (dM k)),(4,oT (dM rOf))] (kp [4]) (kq [32]) 336 (pc o1 (pc (mv _ _ _ _ l) (pc (ZT _ _ _ m) (pc o1 pn)))) ?_;cases h;exact mh c 0 Tryz.f127 [] (kp [4]) [(16,.ak 32)] 336 pn [16] (pc o1 pn)
 ·obtain ⟨d,n,h⟩:=aW h;refine bK c 2 [(2,oT (cA cI 0 d))] Iv fU 288 (pc (Ye _ _ _ _ n) pn) ?_;obtain ⟨jC,o,h⟩:=aW h;refine bK c 1 [(2,oT (KQ jC))] (kp [2,3,4,6,7,8]) fU 416 (pc (DR _ _ _ _ o) pn) ?_;obtain ⟨p,q,h⟩:=aW h;refine bK c 1 [(2,oT (KQ p))] (kp [2,3,4,8,10]) fU 544 (pc (DR _ _ _ _ q) pn) ?_;obtain ⟨s,t,h⟩:=aW h;obtain ⟨u,v,h⟩:=aW h;refine bK c 1 [(6,oT (dM s)),(8,oT (dM u))] (kp [4]) (kq [32]) 720 (pc o1 (pc o1 (pc (mv _ _ _ _ t) (pc (mv _ _ _ _ v) (pc o1 pn))))) ?_;cases h;exact mh c 0 Tryz.f127 [] (kp [4]) [(16,.ak 32)] 720 pn [16] (pc o1 pn)
theorem oB (N x r) (h:mm N x=some r):Sd 120 [(aj x)] [] 0 (aj r) []:=by
 unfold mm at h;refine sO Tryz.f120 8 fun E a=>?_;refine ax a 1 (kp [1,2]) jt 32 ?_;obtain ⟨b,c,h⟩:=aW h;refine bK a 1 [(4,oT (aj b))] (kp [2]) (kq [16]) 128 (pc o1 (pc o1 (pc (DS _ _ _ _ c) (pc o1 pn)))) ?_;obtain rfl:=jS h;exact mh a 0 Tryz.f120 [] (kp [2]) (kq [16]) 128 pn [16] (pc o1 pn)
theorem Yf (N a r) (h:Jy N a=some r):Sd 129 [(dM a)] [] 0 (dM r) []:=by
 unfold Jy at h;refine sO Tryz.f129 10 fun E b=>?_;refine ax b 1 (kp [1,2]) jt 32 ?_;obtain ⟨c,d,h⟩:=aW h;obtain ⟨e,f,h⟩:=aW h;refine bK b 1 [(5,oT (cA cI 0 c)),(6,oT (dM e))] (kp [2]) (kq [16]) 160 (pc o1 (pc o1 (pc (ot _ _ _ d) (pc (mv _ _ _ _ f) (pc o1 pn))))) ?_;obtain rfl:=jS h;exact mh b 0 Tryz.f129 [] (kp [2]) (kq [16]) 160 pn [16] (pc o1 pn)
theorem AH (N x r) (h:uz N x=some r):Sd 64 [(aj x)] [] 0 (aj r) []:=by
 unfold uz at h;refine sO Tryz.f64 12 fun E a=>?_;refine ax a 1 (kp [1,2]) jt 32 ?_;obtain ⟨c,d,h⟩:=aW h;refine bK a 1 [(1,oT (aj c))] (kp [2,3]) (kq [16,64]) 96 (pc o1 (pc (oB _ _ _ d) (pc o1 pn))) ?_;obtain ⟨b,e,h⟩:=aW h;refine bK a 1 [(2,oT (dM b))] (kp [2]) (kq [16]) 208 (pc o1 (pc (Yf _ _ _ e) (pc o1 (pc o1 pn)))) ?_;cases h;exact mh a 0 Tryz.f64 [] (kp [2]) (kq [16]) 208 pn [16] (pc o1 pn)
theorem xY (N a b r) (h:wC N a b=some r):Sd 128 [(dM a),(dM b)] [] 0 (dM r) []:=by
 unfold wC at h;refine sO Tryz.f128 18 fun E c=>?_;refine ax c 1 iI fU 48 ?_;obtain ⟨d,e,h⟩:=aW h;obtain ⟨f,g,h⟩:=aW h;obtain ⟨i,j,h⟩:=aW h;obtain ⟨k,l,h⟩:=aW h;refine bK c 1 [(7,oT (cA cI 0 d)),(10,oT (cA cI 0 f)),(11,oT (cA cI 0 i)),(12,oT (dM k))] (kp [4]) (kq [32]) 272 (pc o1 (pc o1 (pc o1 (pc (ot _ _ _ e) (pc o1 (pc (ot _ _ _ g) (pc (Ch _ _ _ _ j) (pc (mv _ _ _ _ l) (pc o1 pn))))))))) ?_;obtain rfl:=jS h;exact mh c 0 Tryz.f128 [] (kp [4]) [(16,.ak 32)] 272 pn [16] (pc o1 pn)
noncomputable abbrev ajB:=bt Tryz.f204
def Qg (N:Nat) (a:List Int) (b:List Int) (K:(List Int)->Int->Int->Option nf):Prop:=∀ (out:List Int) (carry:Int) (i:Int) (r:(List Int)),K out carry i=some r->∀ E,ba E 0->aK Tryz.prog E 204 43 (bd E [] (cA cI 0 r)) [.code (ajB 244),.inLoop (ajB 244),.inBlock 0,.code (ajB 31)] ⟨[(yJ a),(B1 b),(5,(nF out)),(6,(aI carry)),(7,(aI i))],[(qX out)],1⟩
theorem O0 (N a b fuel):Qg N a b (og N a b fuel):=by
 induction fuel with
 | zero=>intro _ _ _ r h;rw [og.eq_1] at h;cases h
 | succ fuel j =>
  intro out carry i r h E d;rw [og.eq_2] at h;refine dV d 2 (kp [0,1,5,6,7,22]) (kq [0]) 225 (pc (fun g:(ZD i a)=true=>(pc g pn)) (pc (fun g:(ZD i a)=true=>(pc g (pc g pn))) (pc (fun hq:(ZD i a)=true=>(pc hq pn)) (pc (fun g:(!(cond (RO i a) true (RO i b)))=true=>(pc g pn)) (pc (fun hq:(!(cond (RO i a) true (RO i b)))=true=>(pc hq pn)) pn))))) <| dr 0 22 h (fun k h=>?_) (fun k h=>?_)
  ·obtain ⟨e,l,h⟩:=aW h;obtain ⟨f,m,h⟩:=aW h;refine bK d 4 [(2,oT (aI e)),(5,oT (aI f))] rT (kq [0]) 385 (pc (xX _ _ _ _ l) (pc (xX _ _ _ _ m) pn)) ?_;obtain ⟨c,h⟩:=ae h;refine dV d 1 (kp [0,1] ++ [(5,.l5 ((out ++ (R4 e f carry)).length))] ++ kp [7,8]) [(449,ri 449 cI 0 (out ++ (R4 e f carry)))] 481 (pc (show (65536:Int)≠0 by decide) (pc (Eq.refl out.length) (pc c (pc (z1 1) (pc (oN [[(aI ((av ((av (e+f))+carry)).tmod 65536))]]) (pc (bL out (R4 e f carry)) (pc (bL out (R4 e f carry)) (pc (LR cI 0 out (R4 e f carry)) pn)))))))) <| dV d 0 Is (kq [449]) 529 (pc (show (65536:Int)≠0 by decide) pn) <| ax d 1 Is (kq [449]) 577 <| cY d 1 Is [(0,.ak 449)] 1 (j _ _ _ _ h E d)
  ·obtain ⟨n,o,h⟩:=aW h;refine bK d 2 [(1,⟨[],true,(cA cI 0 n),[],0,true,none⟩)] (kp [4]) [] 273 (pc (sL _ _ _ o) (pc (z1 out.length) pn)) ?_;obtain rfl:=jS h;exact iG d 0 Tryz.f204 (kp [4]) [] 273
theorem UG (N a b r) (h:FO N a b=some r):Sd 204 [(cA cI 0 a),(cA cI 0 b)] [] 0 (cA cI 0 r) []:=by
 unfold FO at h;refine sO Tryz.f204 43 fun E c=>?_;refine ax c 1 (kp [0,1]) [] 16 <| ax c 1 nX [] 32 <| ax c 1 B3 [] 48 <| ax c 2 Is [] 64 <| cY c 2 aiR [(0,.nil 1 Om)] 1 (O0 N _ _ N _ _ _ _ h E c)
theorem Yg (N a b r) (h:Jz N a b=some r):Sd 143 [(dM a),(dM b)] [] 0 (dM r) []:=by
 unfold Jz at h;refine sO Tryz.f143 40 fun E c=>?_;refine ax c 1 iI fU 48 ?_;obtain ⟨d,e,h⟩:=aW h;obtain ⟨f,g,h⟩:=aW h;refine bK c 1 [(2,oT (cA cI 0 d)),(5,oT (cA cI 0 f))] uQ fU 176 (pc o1 (pc (ot _ _ _ e) (pc o1 (pc (ot _ _ _ g) pn)))) <| dV c 2 (kp [2,3,4,5,6,17]) fU 256 (pc o1 (pc o1 pn)) <| dr 0 17 h (fun i h=>?_) (fun i h=>?_)
 ·obtain ⟨j,k,h⟩:=aW h;obtain ⟨l,m,h⟩:=aW h;refine bK c 1 [(4,oT (cA cI 0 j)),(5,oT (dM l))] (kp [4]) (kq [32]) 368 (pc o1 (pc (UG _ _ _ _ k) (pc (mv _ _ _ _ m) (pc o1 pn)))) ?_;obtain rfl:=jS h;exact mh c 0 Tryz.f143 [] (kp [4]) [(16,.ak 32)] 368 pn [16] (pc o1 pn)
 ·obtain ⟨n,o,h⟩:=aW h;refine bK c 3 [(2,oT (aI n))] (kp [2,3,4,5,6,27]) fU 320 (pc (E6 _ _ _ _ o) pn) <| dr 0 27 h (fun p h=>?_) (fun p h=>?_)
  ·obtain ⟨q,s,h⟩:=aW h;obtain ⟨t,u,h⟩:=aW h;refine bK c 1 [(4,oT (cA cI 0 q)),(5,oT (dM t))] (kp [4]) (kq [32]) 432 (pc o1 (pc (Ci _ _ _ _ s) (pc (mv _ _ _ _ u) (pc o1 pn)))) ?_;obtain rfl:=jS h;exact mh c 0 Tryz.f143 [] (kp [4]) [(16,.ak 32)] 432 pn [16] (pc o1 pn)
  ·obtain ⟨v,w,h⟩:=aW h;obtain ⟨x,y,h⟩:=aW h;refine bK c 2 [(4,oT (cA cI 0 v)),(5,oT (dM x))] (kp [4]) (kq [32]) 432 (pc o1 (pc (Ci _ _ _ _ w) (pc (mv _ _ _ _ y) (pc o1 pn)))) ?_;obtain rfl:=jS h;exact mh c 0 Tryz.f143 [] (kp [4]) [(16,.ak 32)] 432 pn [16] (pc o1 pn)
theorem G7 (N x y r) (h:xD N x y=some r):Sd 69 [(aj x),(aj y)] [] 0 (aj r) []:=by
 unfold xD at h;refine sO Tryz.f69 28 fun E a=>?_;refine ax a 1 iI fU 48 ?_;obtain ⟨c,d,h⟩:=aW h;obtain ⟨e,f,h⟩:=aW h;refine bK a 1 [(1,oT (aj c)),(3,oT (aj e))] SD (kq [32,112,128]) 176 (pc o1 (pc (oB _ _ _ d) (pc o1 (pc (oB _ _ _ f) (pc o1 (pc o1 pn)))))) ?_;obtain ⟨g,i,h⟩:=aW h;obtain ⟨j,k,h⟩:=aW h;obtain ⟨b,l,h⟩:=aW h;obtain ⟨m,n,h⟩:=aW h;obtain ⟨o,p,h⟩:=aW h;refine bK a 1 [(4,oT (dM g)),(9,oT (dM j)),(10,oT (dM b)),(15,oT (dM m)),(16,oT (aj o))] (kp [4]) (kq [32]) 464 (pc o1 (pc o1 (pc (xY _ _ _ _ i) (pc o1 (pc o1 (pc (xY _ _ _ _ k) (pc (Yg _ _ _ _ l) (pc o1 (pc o1 (pc (xY _ _ _ _ n) (pc (DS _ _ _ _ p) (pc o1 pn)))))))))))) ?_;obtain rfl:=jS h;exact mh a 0 Tryz.f69 [] (kp [4]) [(16,.ak 32)] 464 pn [16] (pc o1 pn)
theorem vJ (N x y r) (h:rR N x y=some r):Sd 22 [(aj x),(aj y)] [] 0 (aj r) []:=by
 unfold rR at h;refine sO Tryz.f22 9 fun E a=>?_;refine ax a 1 iI fU 48 ?_;obtain ⟨b,c,h⟩:=aW h;obtain ⟨d,e,h⟩:=aW h;refine bK a 1 [(2,oT (aj b)),(3,oT (aj d))] (kp [4]) (kq [32]) 128 (pc o1 (pc o1 (pc (AH _ _ _ c) (pc (G7 _ _ _ _ e) (pc o1 pn))))) ?_;obtain rfl:=jS h;exact mh a 0 Tryz.f22 [] (kp [4]) [(16,.ak 32)] 128 pn [16] (pc o1 pn)
theorem UH (N a r) (h:FP N a=some r):Sd 119 [(dM a)] [] 0 (aI r) []:=by
 unfold FP at h;refine sO Tryz.f119 10 fun E b=>?_;refine ax b 1 (kp [1]) (kq [0]) 32 ?_;obtain ⟨c,d,h⟩:=aW h;refine bK b 2 [(2,oT (cA cI 0 c))] (kp [1,7]) (kq [0]) 112 (pc o1 (pc (ot _ _ _ d) pn)) <| dr 0 7 h (fun e h=>?_) (fun e h=>?_)
 ·refine ax b 1 (kp [2]) [] 128 ?_;cases h;exact iG b 0 Tryz.f119 (kp [2]) [] 128
 ·refine dV b 3 (kp [9]) [] 144 (pc o1 pn) <| dr 0 9 h (fun f h=>?_) (fun f h=>?_)
  ·refine ax b 1 (kp [2]) [] 160 ?_;cases h;exact iG b 0 Tryz.f119 (kp [2]) [] 160
  ·refine ax b 2 (kp [2]) [] 160 ?_;cases h;exact iG b 0 Tryz.f119 (kp [2]) [] 160
end Go.Den
