/- Each function of the program does what its Lean function computes (part 1). No conditions. -/
import Derived.Test.YtlgddcmiekcdiaaGreatBerthHoldsDen
import Derived.Test.YtlgddcmiekcdiaaGreatProg
set_option linter.unusedVariables false
set_option maxRecDepth 100000
namespace Go.Den
open Go.Ab Go.Proofs Go.Ab.aD
abbrev Sd:=Sound Tryz.prog
abbrev eU (a:List Int):AV:=aH (cU .u16) 0 a
abbrev aU (a:List Int):Ob:=aO 1 (cU .u16) 0 a
abbrev Jv (x:Int):AV:=.atom (.int .u64 x)
abbrev Sw (x:Int):AV:=.atom (.int .u32 x)
abbrev xn (x:Int):AV:=.atom (.int .u16 x)
theorem gU {P:Program} {f:FuncId} {fu:Func} {c:Code} {nt m:Nat} {args:List AV} {σ eS:dw} {res:AV} (hs:m=0→σ=[]) (h:∀ E,bq E m→aD P E f nt (bd E eS res) [.code c] ⟨Ag args 0,σ,m⟩) (hf:P.funcs[f]?=some fu:=by kernel_rfl) (hb:fu.body=some c:=by kernel_rfl) (hn:fu.ntmps=nt:=by kernel_rfl) (ha:Nat.ble args.length nt=true:=by kernel_rfl):Sound P f args σ m res eS:=sor hf hb hn ha hs h
noncomputable def bV (f:Func) (n:Nat):Code:=cat (U1 f) (pth n)
abbrev oT (x:AV):oa:=⟨[],true,x,[],0,false,none⟩
abbrev oF (x:AV):oa:=⟨[],false,x,[],0,false,none⟩
abbrev aZ (n:Nat) (g:Nat→List AV):∀ i,i < n→g i=g (bA 0 i):=fun _ _=>rfl
abbrev mG (C:List (List aa)):Nat→List AV:=fun zm=>mR 4 aj aa.d (C.getD zm [])
theorem mC (C:List (List aa)) (l:List (Nat×Nat×Nat)):∀ zm,zm < C.length→aW l (mG C) zm=aW l (mG C) zm:=fun _ _=>rfl
theorem iM (C:List (List aa)):∀ zm,zm < C.length→EP (mG C zm)=true:=fun _ _=>rfl
theorem cJ {α:Type} {a b:α} (h:some a=some b):a=b:=Option.some.inj h
noncomputable abbrev C_4:=bV Tryz.f67
theorem Ap (N vr C0 r) (h:oH N vr C0=some r):Sd 67 [(.agg (wX vr)),(.op 0 0 0)] [(0,vO 1 [(aI C0)])] 1 (aB r) [(0,vO 1 [(aI C0)])]:=by
 unfold oH at h
 refine gU (fu:=Tryz.f67) (c:=C_4 1) (nt:=9) (fun hm=>absurd hm (by decide)) ?_
 intro E hE
 refine ae hE 1 [] [] (kp [1,2]) (kq [0,1]) 33 pn ?_
 refine ae hE 1 [] [] (kp [3]) (kq [0]) 129 (pc o1 (pc o1 pn)) ?_
 obtain rfl:=cJ h
 exact cP hE 0 Tryz.f67 [] (kp [3]) (kq [0]) 129 pn [] pn
noncomputable abbrev X4:=bV Tryz.f103
def si (N:Nat) (s:List af) (C0:Int) (K:Int→Option (Int)):Prop:=∀ (x:Int) (r:Int),K x=some r→∀ E,bq E 1→aD Tryz.prog E 103 19 (bd E [(0,vO 1 [(aI C0)])] (aI r)) [.code (X4 52),.inLoop (X4 52),.inBlock 0,.code (X4 7)] ⟨[(0,(aH wX af.d s)),(1,(.fn (.func 67) [] [(.op 0 0 0)])),(7,(aI ((s.length:Nat):Int))),(8,(aI x))],[(0,vO 1 [(aI C0)])],1⟩
theorem rB (N s C0 fuel):si N s C0 (cj N s C0 fuel):=by
 induction fuel with
 | zero=>intro _ r h;rw [cj.eq_1] at h;cases h
 | succ fuel ih =>
  intro x r h E hE
  rw [cj.eq_2] at h
  refine ae hE 1 [] [] (kp [0,1,7,8,9]) (kq [0]) 17 pn ?_
  refine dm 1 9 h (fun dW h=>?_) (fun dW h=>?_)
  ·refine ae hE 4 [] [] (kp [0,1,5,7,8]) (kq [0]) 49 pn ?_
   obtain ⟨c,h⟩:=ab h
   obtain ⟨x5,hr,h⟩:=aQ h
   refine ae hE 1 [(5,⟨[0],true,(aB x5),[],0,false,none⟩)] [] (kp [0,1,5,7,8,16]) (kq [0]) 145 (pc c (pc (Ap _ _ _ _ hr) pn)) ?_
   refine dm 0 16 h (fun jh h=>?_) (fun jh h=>?_)
   ·refine ae hE 1 [] [] (kp [4]) (kq [0]) 177 pn ?_
    obtain rfl:=cJ h
    exact cP hE 0 Tryz.f103 [] (kp [4]) (kq [0]) 177 pn [] pn
   ·refine ae hE 2 [] [] (kp [0,1,7,8]) (kq [0]) 177 pn ?_
    exact cV hE 1 [] (kp [0,1,7,8]) (kq [0]) 1 pn (ih _ _ h E hE)
  ·refine ae hE 2 [] [] (kp [4]) (kq [0]) 33 pn ?_
   obtain rfl:=cJ h
   exact cP hE 0 Tryz.f103 [] (kp [4]) (kq [0]) 49 pn [] pn
theorem tI (N s C0 r) (h:lZ N s C0=some r):Sd 103 [(aH wX af.d s),(.fn (.func 67) [] [(.op 0 0 0)])] [(0,vO 1 [(aI C0)])] 1 (aI r) [(0,vO 1 [(aI C0)])]:=by
 unfold lZ at h
 refine gU (fu:=Tryz.f103) (c:=X4 1) (nt:=19) (fun hm=>absurd hm (by decide)) ?_
 intro E hE
 refine ae hE 1 [] [] (kp [0,1]) (kq [0]) 17 pn ?_
 refine ae hE 2 [] [] (kp [0,1,7,8]) (kq [0]) 65 pn ?_
 exact cV hE 2 [] (kp [0,1,7,8]) (kq [0]) 1 pn (rB N _ _ N _ _ h E hE)
noncomputable abbrev C_2:=bV Tryz.f66
theorem rC (N s C0 r) (h:kD N s C0=some r):Sd 66 [(aH wX af.d s),(.fn (.func 67) [] [(.op 0 0 0)])] [(0,vO 1 [(aI C0)])] 1 (aB r) [(0,vO 1 [(aI C0)])]:=by
 unfold kD at h
 refine gU (fu:=Tryz.f66) (c:=C_2 1) (nt:=9) (fun hm=>absurd hm (by decide)) ?_
 intro E hE
 refine ae hE 1 [] [] (kp [0,1]) (kq [0]) 17 pn ?_
 obtain ⟨Lv,hr,h⟩:=aQ h
 refine ae hE 1 [(2,⟨[0],true,(aI Lv),[],0,false,none⟩)] [] (kp [4]) (kq [0]) 97 (pc (tI _ _ _ _ hr) pn) ?_
 obtain rfl:=cJ h
 exact cP hE 0 Tryz.f66 [] (kp [4]) (kq [0]) 97 pn [] pn
noncomputable abbrev C_1:=bV Tryz.f32
theorem CA (N n l r) (h:oi N n l=some r):Sd 32 [(aI n),(aH wX af.d l)] [] 0 (aI r) []:=by
 unfold oi at h
 refine gU (fu:=Tryz.f32) (c:=C_1 1) (nt:=17) (fun hm=>rfl) ?_
 intro E hE
 refine ae hE 1 [] [] (kp [1,2]) (kq [0]) 32 pn ?_
 refine ae hE 2 [] [] (kp [1,2,10]) (kq [0]) 128 (pc o1 (pc (fun hg:(!(decide (n < 0)))=true=>(pc o1 pn)) (pc (fun hg:(!(decide (n < 0)))=true=>(pc hg pn)) (pc (fun hq:(!(decide (n < 0)))=true=>(pc hq pn)) pn)))) ?_
 refine dm 0 10 h (fun dW h=>?_) (fun dW h=>?_)
 ·refine ae hE 1 [] [] (kp [4]) [] 144 pn ?_
  obtain rfl:=cJ h
  exact cP hE 0 Tryz.f32 [] (kp [4]) [] 144 pn [] pn
 ·refine ae hE 3 [] [] (kp [1,2,13]) (kq [0]) 176 pn ?_
  refine dm 0 13 h (fun jh h=>?_) (fun jh h=>?_)
  ·refine ae hE 1 [] [] (kp [4]) [] 192 pn ?_
   obtain rfl:=cJ h
   exact cP hE 0 Tryz.f32 [] (kp [4]) [] 192 pn [] pn
  ·obtain ⟨Lv,hr,h⟩:=aQ h
   refine ae hE 3 [(2,⟨[0],true,(aB Lv),[],0,false,none⟩)] [] (kp [16]) [] 224 (pc (rC _ _ _ _ hr) pn) ?_
   refine dm 0 16 h (fun ta h=>?_) (fun ta h=>?_)
   ·refine ae hE 1 [] [] (kp [4]) [] 240 pn ?_
    obtain rfl:=cJ h
    exact cP hE 0 Tryz.f32 [] (kp [4]) [] 240 pn [] pn
   ·refine ae hE 2 [] [] (kp [4]) [] 240 pn ?_
    obtain rfl:=cJ h
    exact cP hE 0 Tryz.f32 [] (kp [4]) [] 240 pn [] pn
noncomputable abbrev X5:=bV Tryz.f115
def CB (N:Nat) (K:Int→(List Int)→Option ((List Int))):Prop:=∀ (n2:Int) (out:List Int) (r:(List Int)),K n2 out=some r→∀ E,bq E 0→aD Tryz.prog E 115 14 (bd E [] (eU r)) [.code (X5 56),.inLoop (X5 56),.inBlock 0,.code (X5 15)] ⟨[(0,(Jv n2)),(3,(.os 0 0 out.length))],[(0,aU out)],1⟩
theorem Bo (N fuel):CB N (kg N fuel):=by
 induction fuel with
 | zero=>intro _ _ r h;rw [kg.eq_1] at h;cases h
 | succ fuel ih =>
  intro n2 out r h E hE
  rw [kg.eq_2] at h
  refine ae hE 2 [] [] (kp [0,3,5]) (kq [0]) 33 pn ?_
  refine dm 0 5 h (fun dW h=>?_) (fun dW h=>?_)
  ·obtain ⟨c,h⟩:=ab h
   refine ae hE 3 [] [] (kp [0] ++ [(3,.kQ ((out ++ ([(IntKind.u16.wrap (n2))]:List Int)).length))]) [(97,.arr 97 ((out ++ ([(IntKind.u16.wrap (n2))]:List Int)).length) (fun zi=>(cU .u16) ((out ++ ([(IntKind.u16.wrap (n2))]:List Int)).getD zi 0)))] 129 (pc (Eq.refl out.length) (pc c (pc (z1 1) (pc (show ∀ zi,zi < 1→AV.iP ((fun zi=>([[(xn (IntKind.u16.wrap (n2)))]]:List (List AV)).getD zi []) (bA 0 zi))=true from (qO rfl)) (pc (show (out.length+1)=(out ++ ([(IntKind.u16.wrap (n2))]:List Int)).length from (ax rfl rfl)) (pc (show out.length+1=(out ++ ([(IntKind.u16.wrap (n2))]:List Int)).length from (ax rfl rfl)) (pc (show ∀ zi,zi < (out ++ ([(IntKind.u16.wrap (n2))]:List Int)).length→(fun zi=>(cU .u16) ((out ++ ([(IntKind.u16.wrap (n2))]:List Int)).getD zi 0)) zi=((fun zm=>if zm < out.length then (fun zi=>(cU .u16) (out.getD zi 0)) zm else (fun zi=>([[(xn (IntKind.u16.wrap (n2)))]]:List (List AV)).getD zi []) (zm - out.length))) zi from (bP (cU .u16) 0 out ([(IntKind.u16.wrap (n2))]:List Int) rfl (fun _ _=>rfl) (fun zq iw=>cg (cU .u16) 0 ([(IntKind.u16.wrap (n2))]:List Int) zq iw))) pn))))))) ?_
   refine ae hE 1 [] [] (kp [0,3]) (kq [97]) 177 (pc (show (0:Int)≤16 by decide) pn) ?_
   exact cV hE 1 [] (kp [0,3]) [(0,.ag 97)] 1 pn (ih _ _ _ h E hE)
  ·refine ae hE 2 [] [] (kp [2]) (kq [0]) 65 pn ?_
   obtain rfl:=cJ h
   exact cP hE 0 Tryz.f115 [0] [(2,.sl (out.length) (fun zi=>(cU .u16) (out.getD zi 0)))] [] 65 (pc (Eq.refl out.length) (pc (z1 out.length) (pc (aZ out.length (fun zi=>(cU .u16) (out.getD zi 0))) pn))) [] pn
theorem tc (N n r) (h:nm N n=some r):Sd 115 [(Jv n)] [] 0 (eU r) []:=by
 unfold nm at h
 refine gU (fu:=Tryz.f115) (c:=X5 1) (nt:=14) (fun hm=>rfl) ?_
 intro E hE
 refine ae hE 1 [] [] (kp [0]) [] 16 pn ?_
 refine ae hE 1 [] [] (kp [0,3]) [] 32 pn ?_
 exact cV hE 3 [] (kp [0] ++ [(3,.o8 0)]) [(0,.nil 1 (fun zi=>(cU .u16) (([]:List Int).getD zi 0)))] 1 pn (Bo N N _ _ _ h E hE)
noncomputable abbrev Sx:=bV Tryz.f122
def GQ (N:Nat) (K:(List Int)→Option ((List Int))):Prop:=∀ (n2:List Int) (r:(List Int)),K n2=some r→∀ E,bq E 0→aD Tryz.prog E 122 21 (bd E [] (eU r)) [.code (Sx 24),.inLoop (Sx 24),.inBlock 0,.code (Sx 7)] ⟨[(0,(eU n2))],[],0⟩
theorem FB (N fuel):GQ N (np N fuel):=by
 induction fuel with
 | zero=>intro _ r h;rw [np.eq_1] at h;cases h
 | succ fuel ih =>
  intro n2 r h E hE
  rw [np.eq_2] at h
  obtain ⟨c,h⟩:=ab h
  refine ae hE 2 [] [] (kp [0,14]) [] 192 (pc (fun hg:(decide (((n2.length:Nat):Int) > 0))=true=>(pc hg pn)) (pc (fun hg:(decide (((n2.length:Nat):Int) > 0))=true=>(pc hg pn)) (pc (fun hg:(decide (((n2.length:Nat):Int) > 0))=true=>(pc hg (pc hg (pc (c hg) pn)))) (pc (fun hg:(decide (((n2.length:Nat):Int) > 0))=true=>(pc hg pn)) (pc (fun hg:(decide (((n2.length:Nat):Int) > 0))=true=>(pc hg pn)) (pc (fun hq:(decide (((n2.length:Nat):Int) > 0))=true=>(pc hq pn)) pn)))))) ?_
  refine dm 0 14 h (fun dW h=>?_) (fun dW h=>?_)
  ·obtain ⟨c2,h⟩:=ab h
   obtain ⟨c3,h⟩:=ab h
   refine ae hE 2 [] [] [(0,.sl (((n2.take ((ah (((n2.length:Nat):Int) - 1)).toNat)).drop 0).length) (fun zi=>(cU .u16) (((n2.take ((ah (((n2.length:Nat):Int) - 1)).toNat)).drop 0).getD zi 0)))] [] 288 (pc c2 (pc c3 (pc (show (ah (((n2.length:Nat):Int) - 1)).toNat - 0=((n2.take ((ah (((n2.length:Nat):Int) - 1)).toNat)).drop 0).length from (xY n2 0 ((ah (((n2.length:Nat):Int) - 1)).toNat) c2)) (pc (show ∀ zi,zi < ((n2.take ((ah (((n2.length:Nat):Int) - 1)).toNat)).drop 0).length→(fun zi=>(cU .u16) (((n2.take ((ah (((n2.length:Nat):Int) - 1)).toNat)).drop 0).getD zi 0)) zi=(fun zi=>(cU .u16) (n2.getD (bA 0 zi) 0)) zi from (fun zq iw=>En (cU .u16) 0 n2 0 ((ah (((n2.length:Nat):Int) - 1)).toNat) zq iw)) pn)))) ?_
   exact cV hE 2 [] (kp [0]) [] 0 pn (ih _ _ h E hE)
  ·refine ae hE 2 [] [] (kp [2]) [] 224 pn ?_
   obtain rfl:=cJ h
   exact cP hE 0 Tryz.f122 [] (kp [2]) [] 224 pn [] pn
theorem fc (N n r) (h:g7 N n=some r):Sd 122 [(eU n)] [] 0 (eU r) []:=by
 unfold g7 at h
 refine gU (fu:=Tryz.f122) (c:=Sx 1) (nt:=21) (fun hm=>rfl) ?_
 intro E hE
 refine ae hE 1 [] [] (kp [0]) [] 16 pn ?_
 exact cV hE 3 [] (kp [0]) [] 0 pn (FB N N _ _ h E hE)
noncomputable abbrev Qi:=bV Tryz.f130
theorem lx (N s r) (h:dq N s=some r):Sd 130 [(eU s)] [] 0 (eU r) []:=by
 unfold dq at h
 refine gU (fu:=Tryz.f130) (c:=Qi 1) (nt:=8) (fun hm=>rfl) ?_
 intro E hE
 refine ae hE 1 [] [] (kp [0]) [] 16 pn ?_
 refine ae hE 2 [] [] (kp [0,4]) [] 48 pn ?_
 refine sA 0 [.code (Qi 13),.code (Qi 7)] ?_
 refine aD.U2 (o:=.tmp 4) (x:=Qi 26) (y:=Qi 27) (n:=s.length) (by kernel_rfl) (by kernel_rfl) (fun dW=>?_) ?_
 ·replace dW:=List.length_eq_zero_iff.1 dW
  replace h:(some ([]:List Int))=some r:=by rw [dW] at h;simpa using h
  refine ae hE 1 [] [] (kp [2]) [] 64 pn ?_
  obtain rfl:=cJ h
  exact cP hE 0 Tryz.f130 [] [(2,.sl (([]:List Int).length) (fun zi=>(cU .u16) (([]:List Int).getD zi 0)))] [] 64 (pc (Eq.refl 0) pn) [] pn
 ·obtain ⟨c,h⟩:=ab h
  refine ae hE 2 [] [] [(2,.kQ ((([]:List Int) ++ s).length))] [(80,.arr 80 ((([]:List Int) ++ s).length) (fun zi=>(cU .u16) ((([]:List Int) ++ s).getD zi 0)))] 112 (pc (Eq.refl 0) (pc c (pc (show ∀ zi,zi < s.length→AV.iP ((fun zi=>(cU .u16) (s.getD zi 0)) zi)=true from (fun _ _=>rfl)) (pc (show (0+s.length)=(([]:List Int) ++ s).length from (ax rfl rfl)) (pc (show 0+s.length=(([]:List Int) ++ s).length from (ax rfl rfl)) (pc (show ∀ zi,zi < (([]:List Int) ++ s).length→(fun zi=>(cU .u16) ((([]:List Int) ++ s).getD zi 0)) zi=((fun zm=>if zm < 0 then (fun _=>[]) zm else (fun zi=>(cU .u16) (s.getD zi 0)) (zm - 0))) zi from (bP (cU .u16) 0 ([]:List Int) s rfl (fun zq iw=>absurd iw (dX _)) (fun _ _=>rfl))) pn)))))) ?_
  obtain rfl:=cJ h
  exact cP hE 0 Tryz.f130 [80] [(2,.sl ((([]:List Int) ++ s).length) (fun zi=>(cU .u16) ((([]:List Int) ++ s).getD zi 0)))] [] 112 (pc (Eq.refl ((([]:List Int) ++ s).length)) (pc (z1 ((([]:List Int) ++ s).length)) (pc (aZ ((([]:List Int) ++ s).length) (fun zi=>(cU .u16) ((([]:List Int) ++ s).getD zi 0))) pn))) [] pn
noncomputable abbrev C_9:=bV Tryz.f114
theorem j5 (N neg n r) (h:jB N neg n=some r):Sd 114 [(aB neg),(eU n)] [] 0 (.agg (lk r)) []:=by
 unfold jB at h
 refine gU (fu:=Tryz.f114) (c:=C_9 1) (nt:=15) (fun hm=>rfl) ?_
 intro E hE
 refine ae hE 1 [] [] (kp [0,1,4]) (kq [0]) 16 pn ?_
 obtain ⟨b7,hr,h⟩:=aQ h
 refine ae hE 1 [(1,oT (eU b7))] [] (kp [0,1,4]) (kq [0]) 64 (pc (fc _ _ _ hr) pn) ?_
 refine ae hE 2 [] [] (kp [0,1,4,9]) (kq [0]) 112 pn ?_
 refine dm 0 9 h (fun dW h=>?_) (fun dW h=>?_)
 ·refine ae hE 1 [] [] (kp [4]) (kq [0]) 144 (pc o1 pn) ?_
  obtain rfl:=cJ h
  exact cP hE 0 Tryz.f114 [] (kp [4]) [(16,.var 0 [.ag,.sl (([]:List Int).length) (fun zi=>(cU .u16) (([]:List Int).getD zi 0))])] 144 (pc (Eq.refl 0) pn) [16] (pc o1 pn)
 ·obtain ⟨Ai,eJ,h⟩:=aQ h
  refine ae hE 2 [(2,oT (eU Ai))] [] (kp [4]) (kq [0]) 192 (pc (lx _ _ _ eJ) (pc o1 pn)) ?_
  obtain rfl:=cJ h
  exact cP hE 0 Tryz.f114 [] (kp [4]) [(16,.ag 0)] 192 pn [16] (pc o1 pn)
noncomputable abbrev C_7:=bV Tryz.f90
theorem za (N n r) (h:wc N n=some r):Sd 90 [(aI n)] [] 0 (.agg (lk r)) []:=by
 unfold wc at h
 refine gU (fu:=Tryz.f90) (c:=C_7 1) (nt:=14) (fun hm=>rfl) ?_
 intro E hE
 refine ae hE 1 [] [] (kp [0,2]) (kq [0]) 16 pn ?_
 refine ae hE 2 [] [] (kp [0,2,4]) (kq [0]) 48 pn ?_
 refine dm 0 4 h (fun dW h=>?_) (fun dW h=>?_)
 ·obtain ⟨sQ,hr,h⟩:=aQ h
  obtain ⟨Lw,eJ,h⟩:=aQ h
  refine ae hE 1 [(3,oT (eU sQ)),(4,oT (.agg (lk Lw)))] [] (kp [2]) (kq [0]) 144 (pc (tc _ _ _ hr) (pc (j5 _ _ _ _ eJ) (pc o1 pn))) ?_
  obtain rfl:=cJ h
  exact cP hE 0 Tryz.f90 [] (kp [2]) [(16,.ag 0)] 144 pn [16] (pc o1 pn)
 ·obtain ⟨Cv,jP,h⟩:=aQ h
  obtain ⟨Fo,mz,h⟩:=aQ h
  refine ae hE 2 [(2,oT (eU Cv)),(3,oT (.agg (lk Fo)))] [] (kp [2]) (kq [0]) 128 (pc (tc _ _ _ jP) (pc (j5 _ _ _ _ mz) (pc o1 pn))) ?_
  obtain rfl:=cJ h
  exact cP hE 0 Tryz.f90 [] (kp [2]) [(16,.ag 0)] 128 pn [16] (pc o1 pn)
noncomputable abbrev Sy:=bV Tryz.f132
def GR (N:Nat) (n:List Int) (K:Int→Int→Option (Int×Bool)):Prop:=∀ (out:Int) (i:Int) (r:Int×Bool),K out i=some r→∀ E,bq E 0→aD Tryz.prog E 132 25 (bd E [] (.tup [(Jv r.1),(aB r.2)])) [.code (Sy 244),.inLoop (Sy 244),.inBlock 0,.code (Sy 31)] ⟨[(0,(eU n)),(4,(Jv out)),(5,(aI i))],[],0⟩
theorem FC (N n fuel):GR N n (lV N n fuel):=by
 induction fuel with
 | zero=>intro _ _ r h;rw [lV.eq_1] at h;cases h
 | succ fuel ih =>
  intro out i r h E hE
  rw [lV.eq_2] at h
  refine ae hE 2 [] [] (kp [0,4,5,13]) [] 32 pn ?_
  refine dm 0 13 h (fun jh h=>?_) (fun jh h=>?_)
  ·obtain ⟨c,h⟩:=ab h
   refine ae hE 3 [] [] (kp [0,4,5]) [] 176 (pc (show (0:Int)≤16 by decide) (pc c pn)) ?_
   refine ae hE 1 [] [] (kp [0,4,5]) [] 224 pn ?_
   exact cV hE 1 [] (kp [0,4,5]) [] 0 pn (ih _ _ _ h E hE)
  ·refine ae hE 2 [] [] (kp [2,3]) [] 80 pn ?_
   obtain rfl:=cJ h
   exact cP hE 0 Tryz.f132 [] (kp [2,3]) [] 80 pn [] pn
theorem Dp (N n r) (h:uX N n=some r):Sd 132 [(eU n)] [] 0 (.tup [(Jv r.1),(aB r.2)]) []:=by
 unfold uX at h
 refine gU (fu:=Tryz.f132) (c:=Sy 1) (nt:=25) (fun hm=>rfl) ?_
 intro E hE
 refine ae hE 1 [] [] (kp [0]) [] 32 pn ?_
 refine ae hE 2 [] [] (kp [0,8]) [] 80 pn ?_
 refine dm 0 8 h (fun dW h=>?_) (fun dW h=>?_)
 ·refine ae hE 1 [] [] (kp [2,3]) [] 112 pn ?_
  obtain rfl:=cJ h
  exact cP hE 0 Tryz.f132 [] (kp [2,3]) [] 112 pn [] pn
 ·refine ae hE 2 [] [] (kp [0,4]) [] 96 pn ?_
  refine ae hE 2 [] [] (kp [0,4,5]) [] 160 pn ?_
  exact cV hE 2 [] (kp [0,4,5]) [] 0 pn (FC N _ N _ _ _ h E hE)
noncomputable abbrev Sz:=bV Tryz.f126
def CC (N:Nat) (a:List Int) (b:List Int) (K:Int→Option (Int)):Prop:=∀ (i:Int) (r:Int),K i=some r→∀ E,bq E 0→aD Tryz.prog E 126 43 (bd E [] (aI r)) [.code (Sz 116),.inLoop (Sz 116),.inBlock 0,.code (Sz 15)] ⟨[(0,(eU a)),(1,(eU b)),(5,(aI i))],[],0⟩
theorem Bp (N a b fuel):CC N a b (jl N a b fuel):=by
 induction fuel with
 | zero=>intro _ r h;rw [jl.eq_1] at h;cases h
 | succ fuel ih =>
  intro i r h E hE
  rw [jl.eq_2] at h
  refine ae hE 2 [] [] (kp [0,1,5,20]) [] 32 pn ?_
  refine dm 0 20 h (fun jh h=>?_) (fun jh h=>?_)
  ·obtain ⟨c,h⟩:=ab h
   obtain ⟨c2,h⟩:=ab h
   refine ae hE 4 [] [] (kp [0,1,5,31]) [] 176 (pc c (pc c2 pn)) ?_
   refine dm 0 31 h (fun ta h=>?_) (fun ta h=>?_)
   ·refine ae hE 1 [] [] (kp [4]) [] 368 (pc c (pc c2 pn)) ?_
    obtain rfl:=cJ h
    exact cP hE 0 Tryz.f126 [] (kp [4]) [] 368 pn [] pn
   ·refine ae hE 2 [] [] (kp [0,1,5]) [] 224 pn ?_
    exact cV hE 1 [] (kp [0,1,5]) [] 0 pn (ih _ _ h E hE)
  ·refine ae hE 2 [] [] (kp [4]) [] 48 pn ?_
   obtain rfl:=cJ h
   exact cP hE 0 Tryz.f126 [] (kp [4]) [] 48 pn [] pn
theorem ya (N a b r) (h:nr N a b=some r):Sd 126 [(eU a),(eU b)] [] 0 (aI r) []:=by
 unfold nr at h
 refine gU (fu:=Tryz.f126) (c:=Sz 1) (nt:=43) (fun hm=>rfl) ?_
 intro E hE
 refine ae hE 1 [] [] (kp [0,1]) [] 16 pn ?_
 refine ae hE 2 [] [] (kp [0,1,10]) [] 96 pn ?_
 refine dm 0 10 h (fun dW h=>?_) (fun dW h=>?_)
 ·refine ae hE 1 [] [] (kp [4]) [] 192 pn ?_
  obtain rfl:=cJ h
  exact cP hE 0 Tryz.f126 [] (kp [4]) [] 192 pn [] pn
 ·refine ae hE 3 [] [] (kp [0,1,5]) [] 160 pn ?_
  exact cV hE 2 [] (kp [0,1,5]) [] 0 pn (Bp N _ _ N _ _ h E hE)
noncomputable abbrev SA:=bV Tryz.f133
def FD (N:Nat) (a:List Int) (b:Int) (K:(List Int)→Int→Int→Option ((List Int)×Int)):Prop:=∀ (q:List Int) (rest:Int) (i:Int) (r:(List Int)×Int),K q rest i=some r→∀ E,bq E 0→aD Tryz.prog E 133 43 (bd E [] (.tup [(eU r.1),(xn r.2)])) [.code (SA 244),.inLoop (SA 244),.inBlock 0,.code (SA 31)] ⟨[(0,(eU a)),(1,(xn b)),(6,(.os 0 0 q.length)),(7,(Sw rest)),(8,(aI i))],[(0,aU q)],1⟩
theorem DA (N a b fuel):FD N a b (kS N a b fuel):=by
 induction fuel with
 | zero=>intro _ _ _ r h;rw [kS.eq_1] at h;cases h
 | succ fuel ih =>
  intro q rest i r h E hE
  rw [kS.eq_2] at h
  refine ae hE 2 [] [] (kp [0,1,6,7,8,16]) (kq [0]) 33 pn ?_
  refine dm 0 16 h (fun dW h=>?_) (fun dW h=>?_)
  ·obtain ⟨c2,h⟩:=ab h
   refine ae hE 4 [] [] (kp [0,1,6,7,8]) (kq [0]) 177 (pc (show (0:Int)≤16 by decide) (pc c2 pn)) ?_
   obtain ⟨c3,h⟩:=ab h
   obtain ⟨c4,h⟩:=ab h
   refine ae hE 1 [] [] (kp [0,1] ++ [(6,.kQ ((q.set ((i).toNat) (IntKind.u16.wrap ((IntKind.u32.wrap ((sO .u32 (gZ .u32 rest 16) (IntKind.u32.wrap ((a.getD ((i).toNat) 0)))).tdiv (IntKind.u32.wrap (b))))))).length))] ++ kp [7,8]) [(0,.arr 0 ((q.set ((i).toNat) (IntKind.u16.wrap ((IntKind.u32.wrap ((sO .u32 (gZ .u32 rest 16) (IntKind.u32.wrap ((a.getD ((i).toNat) 0)))).tdiv (IntKind.u32.wrap (b))))))).length) (fun zi=>(cU .u16) ((q.set ((i).toNat) (IntKind.u16.wrap ((IntKind.u32.wrap ((sO .u32 (gZ .u32 rest 16) (IntKind.u32.wrap ((a.getD ((i).toNat) 0)))).tdiv (IntKind.u32.wrap (b))))))).getD zi 0)))] 321 (pc c3 (pc c4 (pc (dS c4) (pc (aA q ((i).toNat) (IntKind.u16.wrap ((IntKind.u32.wrap ((sO .u32 (gZ .u32 rest 16) (IntKind.u32.wrap ((a.getD ((i).toNat) 0)))).tdiv (IntKind.u32.wrap (b))))))) (pc (aA q ((i).toNat) (IntKind.u16.wrap ((IntKind.u32.wrap ((sO .u32 (gZ .u32 rest 16) (IntKind.u32.wrap ((a.getD ((i).toNat) 0)))).tdiv (IntKind.u32.wrap (b))))))) (pc (cL (cU .u16) 0 q ((i).toNat) (IntKind.u16.wrap ((IntKind.u32.wrap ((sO .u32 (gZ .u32 rest 16) (IntKind.u32.wrap ((a.getD ((i).toNat) 0)))).tdiv (IntKind.u32.wrap (b))))))) pn)))))) ?_
   refine ae hE 0 [] [] (kp [0,1,6,7,8]) (kq [0]) 401 (pc c3 pn) ?_
   refine ae hE 1 [] [] (kp [0,1,6,7,8]) (kq [0]) 449 pn ?_
   exact cV hE 1 [] (kp [0,1,6,7,8]) (kq [0]) 1 pn (ih _ _ _ _ h E hE)
  ·obtain ⟨b7,hr,h⟩:=aQ h
   refine ae hE 2 [(1,⟨[],true,(eU b7),[],0,true,none⟩)] [] (kp [4,5]) [] 129 (pc (fc _ _ _ hr) (pc (z1 q.length) pn)) ?_
   obtain rfl:=cJ h
   exact cP hE 0 Tryz.f133 [] (kp [4,5]) [] 129 pn [] pn
theorem IP (N a b r) (h:uY N a b=some r):Sd 133 [(eU a),(xn b)] [] 0 (.tup [(eU r.1),(xn r.2)]) []:=by
 unfold uY at h
 refine gU (fu:=Tryz.f133) (c:=SA 1) (nt:=43) (fun hm=>rfl) ?_
 intro E hE
 refine ae hE 1 [] [] (kp [0,1]) [] 32 pn ?_
 obtain ⟨c,h⟩:=ab h
 refine ae hE 1 [] [] (kp [0,1] ++ [(6,.kQ ((List.replicate a.length 0:List Int).length))]) [(64,.arr 64 ((List.replicate a.length 0:List Int).length) (fun zi=>(cU .u16) ((List.replicate a.length 0:List Int).getD zi 0)))] 96 (pc (show 0≤((a.length:Nat):Int) from c.1) (pc (show ((a.length:Nat):Int)≤((a.length:Nat):Int) from (Int.le_refl _)) (pc (show (2:Int) * ((a.length:Nat):Int)≤281474976710656 from c.2.1) (pc (show ((a.length:Nat):Int)≤9223372036854775807 from c.2.2) (pc (show a.length=(List.replicate a.length 0:List Int).length from (di).symm) (pc (show a.length=(List.replicate a.length 0:List Int).length from (di).symm) (pc (show ∀ zi,zi < (List.replicate a.length 0:List Int).length→(fun zi=>(cU .u16) ((List.replicate a.length 0:List Int).getD zi 0)) zi=(fun _=>[(xn 0)]) zi from (fun zq iw=>r8 (cU .u16) 0 0 a.length zq iw)) pn))))))) ?_
 refine ae hE 1 [] [] (kp [0,1,6,7]) (kq [64]) 112 pn ?_
 refine ae hE 2 [] [] (kp [0,1,6,7,8]) (kq [64]) 176 pn ?_
 exact cV hE 2 [] (kp [0,1,6,7,8]) [(0,.ag 64)] 1 pn (DA N _ _ N _ _ _ _ h E hE)
noncomputable abbrev Vd:=bV Tryz.f137
def wq (N:Nat) (K:Int→Int→Option (Int)):Prop:=∀ (x2:Int) (n:Int) (r:Int),K x2 n=some r→∀ E,bq E 0→aD Tryz.prog E 137 13 (bd E [] (aI r)) [.code (Vd 14),.code (Vd 15)] ⟨[(0,(xn x2)),(2,(aI n))],[],0⟩
theorem ph (N):wq N (cA N):=by
 intro x2 n r h E hE
 unfold cA at h
 obtain ⟨c,h⟩:=ab h
 refine ae hE 0 [] [] (kp [2]) [] 112 (pc c pn) ?_
 obtain rfl:=cJ h
 exact cP hE 0 Tryz.f137 [] (kp [2]) [] 112 pn [] pn
theorem yc (N x r) (h:kT N x=some r):Sd 137 [(xn x)] [] 0 (aI r) []:=by
 unfold kT at h
 refine gU (fu:=Tryz.f137) (c:=Vd 1) (nt:=13) (fun hm=>rfl) ?_
 intro E hE
 refine ae hE 1 [] [] (kp [0,2]) [] 16 pn ?_
 refine ae hE 2 [] [] (kp [0,2,4]) [] 48 pn ?_
 refine dm 0 4 h (fun dW h=>?_) (fun dW h=>?_)
 ·refine ae hE 1 [] [] (kp [0]) [] 96 (pc (show (0:Int)≤8 by decide) pn) ?_
  refine ae hE 0 [] [] (kp [0,2]) [] 112 pn ?_
  exact cV hE 1 [] (kp [0,2]) [] 0 pn (ph N _ _ _ h E hE)
 ·exact cV hE 2 [] (kp [0,2]) [] 0 pn (ph N _ _ _ h E hE)
noncomputable abbrev Zn:=bV Tryz.f134
theorem q7 (N x r) (h:eX N x=some r):Sd 134 [(xn x)] [] 0 (aI r) []:=by
 unfold eX at h
 refine gU (fu:=Tryz.f134) (c:=Zn 1) (nt:=6) (fun hm=>rfl) ?_
 intro E hE
 refine ae hE 1 [] [] (kp [0]) [] 16 pn ?_
 obtain ⟨Lx,hr,h⟩:=aQ h
 refine ae hE 1 [(1,oT (aI Lx))] [] (kp [2]) [] 80 (pc (yc _ _ _ hr) pn) ?_
 obtain rfl:=cJ h
 exact cP hE 0 Tryz.f134 [] (kp [2]) [] 80 pn [] pn
noncomputable abbrev SB:=bV Tryz.f135
def CD (N:Nat) (a:List Int) (zx:Int) (K:(List Int)→Int→Option ((List Int))):Prop:=∀ (out:List Int) (x:Int) (r:(List Int)),K out x=some r→∀ E,bq E 0→aD Tryz.prog E 135 41 (bd E [(0,aU r)] (.os 0 0 r.length)) [.code (SB 116),.inLoop (SB 116),.inBlock 0,.code (SB 15)] ⟨[(1,(aI zx)),(5,(.os 0 0 out.length)),(13,(eU a)),(14,(aI ((a.length:Nat):Int))),(15,(aI x))],[(0,aU out)],1⟩
theorem Bq (N a zx fuel):CD N a zx (jm N a zx fuel):=by
 induction fuel with
 | zero=>intro _ _ r h;rw [jm.eq_1] at h;cases h
 | succ fuel ih =>
  intro out x r h E hE
  rw [jm.eq_2] at h
  refine ae hE 1 [] [] (kp [1,5,13,14,15,16]) (kq [0]) 17 pn ?_
  refine dm 1 16 h (fun dW h=>?_) (fun dW h=>?_)
  ·obtain ⟨c2,h⟩:=ab h
   refine ae hE 4 [] [] (kp [1,5,6,7,13,14,15]) (kq [0]) 97 (pc c2 pn) ?_
   obtain ⟨c3,h⟩:=ab h
   refine ae hE 1 [] [] (kp [1,5,6,8,13,14,15]) (kq [0]) 177 (pc c3 pn) ?_
   obtain ⟨c4,h⟩:=ab h
   refine ae hE 1 [] [] (kp [1] ++ [(5,.kQ ((out.set ((x).toNat) (sO .u16 (out.getD ((x).toNat) 0) (IntKind.u16.wrap ((gZ .u32 (IntKind.u32.wrap ((a.getD ((x).toNat) 0))) zx))))).length))] ++ kp [6,8,13,14,15]) [(0,.arr 0 ((out.set ((x).toNat) (sO .u16 (out.getD ((x).toNat) 0) (IntKind.u16.wrap ((gZ .u32 (IntKind.u32.wrap ((a.getD ((x).toNat) 0))) zx))))).length) (fun zi=>(cU .u16) ((out.set ((x).toNat) (sO .u16 (out.getD ((x).toNat) 0) (IntKind.u16.wrap ((gZ .u32 (IntKind.u32.wrap ((a.getD ((x).toNat) 0))) zx))))).getD zi 0)))] 321 (pc c4 (pc (dS c4) (pc c4 (pc (dS c4) (pc (aA out ((x).toNat) (sO .u16 (out.getD ((x).toNat) 0) (IntKind.u16.wrap ((gZ .u32 (IntKind.u32.wrap ((a.getD ((x).toNat) 0))) zx))))) (pc (aA out ((x).toNat) (sO .u16 (out.getD ((x).toNat) 0) (IntKind.u16.wrap ((gZ .u32 (IntKind.u32.wrap ((a.getD ((x).toNat) 0))) zx))))) (pc (cL (cU .u16) 0 out ((x).toNat) (sO .u16 (out.getD ((x).toNat) 0) (IntKind.u16.wrap ((gZ .u32 (IntKind.u32.wrap ((a.getD ((x).toNat) 0))) zx))))) pn))))))) ?_
   obtain ⟨c5,h⟩:=ab h
   refine ae hE 0 [] [] (kp [1] ++ [(5,.kQ (((out.set ((x).toNat) (sO .u16 (out.getD ((x).toNat) 0) (IntKind.u16.wrap ((gZ .u32 (IntKind.u32.wrap ((a.getD ((x).toNat) 0))) zx))))).set ((ah (x+1)).toNat) (IntKind.u16.wrap ((oU .u32 (gZ .u32 (IntKind.u32.wrap ((a.getD ((x).toNat) 0))) zx) 16)))).length))] ++ kp [13,14,15]) [(0,.arr 0 (((out.set ((x).toNat) (sO .u16 (out.getD ((x).toNat) 0) (IntKind.u16.wrap ((gZ .u32 (IntKind.u32.wrap ((a.getD ((x).toNat) 0))) zx))))).set ((ah (x+1)).toNat) (IntKind.u16.wrap ((oU .u32 (gZ .u32 (IntKind.u32.wrap ((a.getD ((x).toNat) 0))) zx) 16)))).length) (fun zi=>(cU .u16) (((out.set ((x).toNat) (sO .u16 (out.getD ((x).toNat) 0) (IntKind.u16.wrap ((gZ .u32 (IntKind.u32.wrap ((a.getD ((x).toNat) 0))) zx))))).set ((ah (x+1)).toNat) (IntKind.u16.wrap ((oU .u32 (gZ .u32 (IntKind.u32.wrap ((a.getD ((x).toNat) 0))) zx) 16)))).getD zi 0)))] 449 (pc (show (0:Int)≤16 by decide) (pc c5 (pc (dS c5) (pc (aA (out.set ((x).toNat) (sO .u16 (out.getD ((x).toNat) 0) (IntKind.u16.wrap ((gZ .u32 (IntKind.u32.wrap ((a.getD ((x).toNat) 0))) zx))))) ((ah (x+1)).toNat) (IntKind.u16.wrap ((oU .u32 (gZ .u32 (IntKind.u32.wrap ((a.getD ((x).toNat) 0))) zx) 16)))) (pc (aA (out.set ((x).toNat) (sO .u16 (out.getD ((x).toNat) 0) (IntKind.u16.wrap ((gZ .u32 (IntKind.u32.wrap ((a.getD ((x).toNat) 0))) zx))))) ((ah (x+1)).toNat) (IntKind.u16.wrap ((oU .u32 (gZ .u32 (IntKind.u32.wrap ((a.getD ((x).toNat) 0))) zx) 16)))) (pc (cL (cU .u16) 0 (out.set ((x).toNat) (sO .u16 (out.getD ((x).toNat) 0) (IntKind.u16.wrap ((gZ .u32 (IntKind.u32.wrap ((a.getD ((x).toNat) 0))) zx))))) ((ah (x+1)).toNat) (IntKind.u16.wrap ((oU .u32 (gZ .u32 (IntKind.u32.wrap ((a.getD ((x).toNat) 0))) zx) 16)))) pn)))))) ?_
   refine ae hE 1 [] [] (kp [1,5,13,14,15]) (kq [0]) 481 pn ?_
   exact cV hE 1 [] (kp [1,5,13,14,15]) (kq [0]) 1 pn (ih _ _ _ h E hE)
  ·refine ae hE 2 [] [] (kp [4]) (kq [0]) 49 pn ?_
   obtain rfl:=cJ h
   exact cP hE 0 Tryz.f135 [] (kp [4]) (kq [0]) 49 pn [] pn
theorem yd (N a zx r) (h:o9 N a zx=some r):Sd 135 [(eU a),(aI zx)] [] 0 (.os 0 0 r.length) [(0,aU r)]:=by
 unfold o9 at h
 refine gU (fu:=Tryz.f135) (c:=SB 1) (nt:=41) (fun hm=>rfl) ?_
 intro E hE
 refine ae hE 1 [] [] (kp [0,1]) [] 16 pn ?_
 obtain ⟨c,h⟩:=ab h
 refine ae hE 1 [] [] (kp [0,1] ++ [(5,.kQ ((List.replicate ((ah (((a.length:Nat):Int)+1)).toNat) 0:List Int).length))]) [(64,.arr 64 ((List.replicate ((ah (((a.length:Nat):Int)+1)).toNat) 0:List Int).length) (fun zi=>(cU .u16) ((List.replicate ((ah (((a.length:Nat):Int)+1)).toNat) 0:List Int).getD zi 0)))] 96 (pc (show 0≤(ah (((a.length:Nat):Int)+1)) from c.1) (pc (show (ah (((a.length:Nat):Int)+1))≤(ah (((a.length:Nat):Int)+1)) from (Int.le_refl _)) (pc (show (2:Int) * (ah (((a.length:Nat):Int)+1))≤281474976710656 from c.2.1) (pc (show (ah (((a.length:Nat):Int)+1))≤9223372036854775807 from c.2.2) (pc (show (ah (((a.length:Nat):Int)+1)).toNat=(List.replicate ((ah (((a.length:Nat):Int)+1)).toNat) 0:List Int).length from (di).symm) (pc (show (ah (((a.length:Nat):Int)+1)).toNat=(List.replicate ((ah (((a.length:Nat):Int)+1)).toNat) 0:List Int).length from (di).symm) (pc (show ∀ zi,zi < (List.replicate ((ah (((a.length:Nat):Int)+1)).toNat) 0:List Int).length→(fun zi=>(cU .u16) ((List.replicate ((ah (((a.length:Nat):Int)+1)).toNat) 0:List Int).getD zi 0)) zi=(fun _=>[(xn 0)]) zi from (fun zq iw=>r8 (cU .u16) 0 0 ((ah (((a.length:Nat):Int)+1)).toNat) zq iw)) pn))))))) ?_
 refine ae hE 2 [] [] (kp [1,5,13,14,15]) (kq [64]) 144 pn ?_
 exact cV hE 2 [] (kp [1,5,13,14,15]) [(0,.ag 64)] 1 pn (Bq N _ _ N _ _ _ h E hE)
noncomputable abbrev xp:=bV Tryz.f136
def FE (N:Nat) (uo:Nat) (un:Nat) (v:List Int) (C0:List Int) (K:Int→Int→Option (Int×(List Int))):Prop:=∀ (q:Int) (rest:Int) (r:Int×(List Int)),K q rest=some r→∀ E,bq E 1→aD Tryz.prog E 136 161 (bd E [(0,aU r.2)] (xn r.1)) [.code (xp 248),.inLoop (xp 248),.inBlock 0,.code (xp 63)] ⟨[(0,(.os 0 uo un)),(1,(eU v)),(5,(aI ((v.length:Nat):Int))),(7,(Jv q)),(8,(Jv rest))],[(0,aU C0)],1⟩
def ye (N:Nat) (uo:Nat) (un:Nat) (v:List Int) (q:Int) (K:(List Int)→Int→Int→Int→Option (Int×(List Int))):Prop:=∀ (bw:List Int) (carry:Int) (borrow:Int) (x:Int) (r:Int×(List Int)),K bw carry borrow x=some r→∀ E,bq E 1→aD Tryz.prog E 136 161 (bd E [(0,aU r.2)] (xn r.1)) [.code (xp 2036),.inLoop (xp 2036),.inBlock 2,.code (xp 255)] ⟨[(0,(.os 0 uo un)),(1,(eU v)),(5,(aI ((v.length:Nat):Int))),(7,(Jv q)),(9,(Jv carry)),(10,(aI borrow)),(84,(aI (ah (((v.length:Nat):Int)+1)))),(85,(aI x))],[(0,aU bw)],1⟩
def FF (N:Nat) (uo:Nat) (un:Nat) (v:List Int) (q:Int) (bw:List Int) (borrow:Int) (x:Int) (K:Int→Option (Int×(List Int))):Prop:=∀ (x2:Int) (r:Int×(List Int)),K x2=some r→∀ E,bq E 1→aD Tryz.prog E 136 161 (bd E [(0,aU r.2)] (xn r.1)) [.code (xp 521422),.code (xp 521423),.inBlock 3,.code (xp 16295),.inLoop (xp 2036),.inBlock 2,.code (xp 255)] ⟨[(0,(.os 0 uo un)),(1,(eU v)),(5,(aI ((v.length:Nat):Int))),(7,(Jv q)),(10,(aI borrow)),(11,(aI x)),(12,(Jv x2)),(84,(aI (ah (((v.length:Nat):Int)+1)))),(85,(aI x))],[(0,aU bw)],1⟩
theorem wZ (N:Nat) (uo:Nat) (un:Nat) (v:List Int) (q:Int) (bw:List Int) (borrow:Int) (x:Int) (pO:(List Int)→Int→Int→Int→Option (Int×(List Int))) (DB:ye N uo un v q pO):FF N uo un v q bw borrow x (nM N uo un v q bw borrow x pO):=by
 intro x2 r h E hE
 unfold nM at h
 refine ae hE 0 [] [] (kp [0,1,5,7,9,10,11,12,84,85]) (kq [0]) 49 (pc (show (0:Int)≤16 by decide) pn) ?_
 obtain ⟨Jw,h⟩:=ab h
 obtain ⟨NZ,h⟩:=ab h
 refine ae hE 1 [] [] (kp [0,1,5,7,9,11,13,84,85]) (kq [0]) 241 (pc Jw (pc (show (bA uo (x).toNat) < bw.length by have h1:=Jw;have h2:=NZ;simp only [df];omega) pn)) ?_
 refine ae hE 1 [] [] (kp [0,1,5,7,9,13,84,85]) [(0,.arr 0 ((bw.set (bA uo (x).toNat) (IntKind.u16.wrap ((ah ((ah ((ah ((bw.getD (bA uo (x).toNat) 0))) - (ah ((Ka .u64 x2 65535)))))+borrow))))).length) (fun zi=>(cU .u16) ((bw.set (bA uo (x).toNat) (IntKind.u16.wrap ((ah ((ah ((ah ((bw.getD (bA uo (x).toNat) 0))) - (ah ((Ka .u64 x2 65535)))))+borrow))))).getD zi 0)))] 337 (pc Jw (pc (show (bA uo (x).toNat) < bw.length by have h1:=Jw;have h2:=NZ;simp only [df];omega) (pc (aA bw (bA uo (x).toNat) (IntKind.u16.wrap ((ah ((ah ((ah ((bw.getD (bA uo (x).toNat) 0))) - (ah ((Ka .u64 x2 65535)))))+borrow))))) (pc (cL (cU .u16) 0 bw (bA uo (x).toNat) (IntKind.u16.wrap ((ah ((ah ((ah ((bw.getD (bA uo (x).toNat) 0))) - (ah ((Ka .u64 x2 65535)))))+borrow))))) pn)))) ?_
 refine ae hE 0 [] [] (kp [0,1,5,7,9,10,84,85]) (kq [0]) 385 (pc (show (0:Int)≤16 by decide) pn) ?_
 refine ae hE 1 [] [] (kp [0,1,5,7,9,10,84,85]) (kq [0]) 417 pn ?_
 exact cV hE 1 [] (kp [0,1,5,7,9,10,84,85]) (kq [0]) 1 pn (DB _ _ _ _ _ h E hE)
def FG (N:Nat) (uo:Nat) (un:Nat) (v:List Int) (q:Int) (K:(List Int)→Int→Int→Option (Int×(List Int))):Prop:=∀ (cd:List Int) (fH:Int) (x3:Int) (r:Int×(List Int)),K cd fH x3=some r→∀ E,bq E 1→aD Tryz.prog E 136 161 (bd E [(0,aU r.2)] (xn r.1)) [.code (xp 130740),.inLoop (xp 130740),.inBlock 4,.code (xp 16343),.code (xp 511)] ⟨[(0,(.os 0 uo un)),(1,(eU v)),(5,(aI ((v.length:Nat):Int))),(7,(Jv (IntKind.u64.wrap (q - 1)))),(14,(Sw fH)),(126,(aI ((v.length:Nat):Int))),(127,(aI x3))],[(0,aU cd)],1⟩
def FH (N:Nat) (K:(List Int)→Int→Option (Int×(List Int))):Prop:=∀ (de:List Int) (q2:Int) (r:Int×(List Int)),K de q2=some r→∀ E,bq E 1→aD Tryz.prog E 136 161 (bd E [(0,aU r.2)] (xn r.1)) [.code (xp 1022),.code (xp 1023)] ⟨[(7,(Jv q2))],[(0,aU de)],1⟩
theorem w5 (N):FH N (kU N):=by
 intro de q2 r h E hE
 unfold kU at h
 refine ae hE 0 [] [] (kp [4]) (kq [0]) 49 pn ?_
 obtain rfl:=cJ h
 exact cP hE 0 Tryz.f136 [] (kp [4]) (kq [0]) 49 pn [] pn
theorem DC (N uo un v q fuel):FG N uo un v q (jb N uo un v q fuel):=by
 induction fuel with
 | zero=>intro _ _ _ r h;rw [jb.eq_1] at h;cases h
 | succ fuel ih =>
  intro cd fH x3 r h E hE
  rw [jb.eq_2] at h
  refine ae hE 1 [] [] (kp [0,1,5,7,14,126,127,128]) (kq [0]) 17 pn ?_
  refine dm 1 128 h (fun IQ h=>?_) (fun IQ h=>?_)
  ·refine ae hE 4 [] [] (kp [0,1,5,7,14,15,126,127]) (kq [0]) 49 pn ?_
   obtain ⟨Kh,h⟩:=ab h
   obtain ⟨MP,h⟩:=ab h
   obtain ⟨T8,h⟩:=ab h
   refine ae hE 1 [] [] (kp [0,1,5,7,14,15,126,127]) (kq [0]) 273 (pc Kh (pc (show (bA uo (x3).toNat) < cd.length by have h1:=Kh;have h2:=MP;simp only [df];omega) (pc T8 pn))) ?_
   refine ae hE 1 [] [] (kp [0,1,5,7,14,126,127]) [(0,.arr 0 ((cd.set (bA uo (x3).toNat) (IntKind.u16.wrap ((IntKind.u32.wrap (fH+(IntKind.u32.wrap ((IntKind.u32.wrap ((cd.getD (bA uo (x3).toNat) 0)))+(IntKind.u32.wrap ((v.getD ((x3).toNat) 0)))))))))).length) (fun zi=>(cU .u16) ((cd.set (bA uo (x3).toNat) (IntKind.u16.wrap ((IntKind.u32.wrap (fH+(IntKind.u32.wrap ((IntKind.u32.wrap ((cd.getD (bA uo (x3).toNat) 0)))+(IntKind.u32.wrap ((v.getD ((x3).toNat) 0)))))))))).getD zi 0)))] 369 (pc Kh (pc (show (bA uo (x3).toNat) < cd.length by have h1:=Kh;have h2:=MP;simp only [df];omega) (pc (aA cd (bA uo (x3).toNat) (IntKind.u16.wrap ((IntKind.u32.wrap (fH+(IntKind.u32.wrap ((IntKind.u32.wrap ((cd.getD (bA uo (x3).toNat) 0)))+(IntKind.u32.wrap ((v.getD ((x3).toNat) 0)))))))))) (pc (cL (cU .u16) 0 cd (bA uo (x3).toNat) (IntKind.u16.wrap ((IntKind.u32.wrap (fH+(IntKind.u32.wrap ((IntKind.u32.wrap ((cd.getD (bA uo (x3).toNat) 0)))+(IntKind.u32.wrap ((v.getD ((x3).toNat) 0)))))))))) pn)))) ?_
   refine ae hE 0 [] [] (kp [0,1,5,7,14,126,127]) (kq [0]) 417 (pc (show (0:Int)≤16 by decide) pn) ?_
   refine ae hE 1 [] [] (kp [0,1,5,7,14,126,127]) (kq [0]) 449 pn ?_
   exact cV hE 1 [] (kp [0,1,5,7,14,126,127]) (kq [0]) 1 pn (ih _ _ _ _ h E hE)
  ·obtain ⟨SC,h⟩:=ab h
   obtain ⟨N3,h⟩:=ab h
   refine ae hE 1 [] [] (kp [7]) [(0,.arr 0 ((cd.set (bA uo v.length) (IntKind.u16.wrap ((cd.getD (bA uo v.length) 0)+(IntKind.u16.wrap (fH))))).length) (fun zi=>(cU .u16) ((cd.set (bA uo v.length) (IntKind.u16.wrap ((cd.getD (bA uo v.length) 0)+(IntKind.u16.wrap (fH))))).getD zi 0)))] 161 (pc SC (pc (show (bA uo v.length) < cd.length by have h1:=SC;have h2:=N3;simp only [df];omega) (pc SC (pc (show (bA uo v.length) < cd.length by have h1:=SC;have h2:=N3;simp only [df];omega) (pc (aA cd (bA uo v.length) (IntKind.u16.wrap ((cd.getD (bA uo v.length) 0)+(IntKind.u16.wrap (fH))))) (pc (cL (cU .u16) 0 cd (bA uo v.length) (IntKind.u16.wrap ((cd.getD (bA uo v.length) 0)+(IntKind.u16.wrap (fH))))) pn)))))) ?_
   exact cV hE 1 [] (kp [7]) (kq [0]) 1 pn (w5 N _ _ _ h E hE)
theorem DD (N uo un v q fuel):ye N uo un v q (gf N uo un v q fuel):=by
 induction fuel with
 | zero=>intro _ _ _ _ r h;rw [gf.eq_1] at h;cases h
 | succ fuel ih =>
  intro bw carry borrow x r h E hE
  rw [gf.eq_2] at h
  refine ae hE 1 [] [] (kp [0,1,5,7,9,10,84,85,86]) (kq [0]) 17 pn ?_
  refine dm 1 86 h (fun jh h=>?_) (fun jh h=>?_)
  ·refine ae hE 4 [] [] (kp [0,1,5,7,9,10,11,84,85]) (kq [0]) 49 pn ?_
   refine ae hE 1 [] [] (kp [0,1,5,7,10,11,12,84,85]) (kq [0]) 81 pn ?_
   refine ae hE 2 [] [] (kp [0,1,5,7,10,11,12,84,85,91]) (kq [0]) 129 pn ?_
   refine dm 0 91 h (fun ta h=>?_) (fun ta h=>?_)
   ·obtain ⟨N4,h⟩:=ab h
    refine ae hE 0 [] [] (kp [0,1,5,7,10,11,12,84,85]) (kq [0]) 289 (pc N4 pn) ?_
    exact cV hE 1 [] (kp [0,1,5,7,10,11,12,84,85]) (kq [0]) 1 pn (wZ N _ _ _ _ _ _ _ _ ih _ _ h E hE)
   ·exact cV hE 2 [] (kp [0,1,5,7,10,11,12,84,85]) (kq [0]) 1 pn (wZ N _ _ _ _ _ _ _ _ ih _ _ h E hE)
  ·refine ae hE 3 [] [] (kp [0,1,5,7,123]) (kq [0]) 49 pn ?_
   refine dm 0 123 h (fun CE h=>?_) (fun CE h=>?_)
   ·refine ae hE 1 [] [] (kp [0,1,5,7]) (kq [0]) 97 pn ?_
    refine ae hE 1 [] [] (kp [0,1,5,7,14]) (kq [0]) 113 pn ?_
    refine ae hE 2 [] [] (kp [0,1,5,7,14,126,127]) (kq [0]) 145 pn ?_
    exact cV hE 2 [] (kp [0,1,5,7,14,126,127]) (kq [0]) 1 pn (DC N _ _ _ _ N _ _ _ _ h E hE)
   ·exact cV hE 2 [] (kp [7]) (kq [0]) 1 pn (w5 N _ _ _ h E hE)
theorem DE (N uo un v C0 fuel):FE N uo un v C0 (kV N uo un v C0 fuel):=by
 induction fuel with
 | zero=>intro _ _ r h;rw [kV.eq_1] at h;cases h
 | succ fuel ih =>
  intro q rest r h E hE
  rw [kV.eq_2] at h
  obtain ⟨c6,h⟩:=ab h
  obtain ⟨c7,h⟩:=ab h
  obtain ⟨c8,h⟩:=ab h
  refine ae hE 2 [] [] (kp [0,1,5,7,8,72]) (kq [0]) 417 (pc (fun hg:(decide (rest < 65536))=true=>(pc hg pn)) (pc (fun hg:((decide (rest < 65536)) && ((decide (rest < 65536)) && (!(decide (q > 65535)))))=true=>(pc hg pn)) (pc (fun hg:((decide (rest < 65536)) && ((decide (rest < 65536)) && (!(decide (q > 65535)))))=true=>(pc hg (pc hg (pc (c6 hg) pn)))) (pc (fun hg:((decide (rest < 65536)) && ((decide (rest < 65536)) && (!(decide (q > 65535)))))=true=>(pc hg pn)) (pc (fun hg:((decide (rest < 65536)) && ((decide (rest < 65536)) && (!(decide (q > 65535)))))=true=>(pc hg pn)) (pc (fun hg:((decide (rest < 65536)) && ((decide (rest < 65536)) && (!(decide (q > 65535)))))=true=>(pc hg (pc hg pn))) (pc (fun hg:((decide (rest < 65536)) && ((decide (rest < 65536)) && (!(decide (q > 65535)))))=true=>(pc hg (pc (show (0:Int)≤16 by decide) pn))) (pc (fun hg:((decide (rest < 65536)) && ((decide (rest < 65536)) && (!(decide (q > 65535)))))=true=>(pc hg pn)) (pc (fun hg:((decide (rest < 65536)) && ((decide (rest < 65536)) && (!(decide (q > 65535)))))=true=>(pc hg (pc hg (pc (c7 hg) pn)))) (pc (fun hg:((decide (rest < 65536)) && ((decide (rest < 65536)) && (!(decide (q > 65535)))))=true=>(pc hg (pc (show (bA uo (ah (((v.length:Nat):Int) - 2)).toNat) < C0.length by have h1:=(c7 hg);have h2:=(c8 hg);simp only [df];omega) pn))) (pc (fun hg:((decide (rest < 65536)) && ((decide (rest < 65536)) && (!(decide (q > 65535)))))=true=>(pc hg pn)) (pc (fun hg:((decide (rest < 65536)) && ((decide (rest < 65536)) && (!(decide (q > 65535)))))=true=>(pc hg (pc hg pn))) (pc (fun hg:((decide (rest < 65536)) && ((decide (rest < 65536)) && (!(decide (q > 65535)))))=true=>(pc hg (pc hg pn))) (pc (fun hg:(decide (rest < 65536))=true=>(pc hg (pc hg (pc (fun hq:(!(decide (q > 65535)))=true=>(pc (show ((decide (rest < 65536)) && ((decide (rest < 65536)) && (!(decide (q > 65535)))))=true from (lU hg (lU hg hq))) pn)) pn)))) (pc (fun hq:(decide (rest < 65536))=true=>(pc hq pn)) pn))))))))))))))) ?_
  refine dm 0 72 h (fun dW h=>?_) (fun dW h=>?_)
  ·refine ae hE 3 [] [] (kp [0,1,5,7,8]) (kq [0]) 465 pn ?_
   obtain ⟨c9,h⟩:=ab h
   refine ae hE 0 [] [] (kp [0,1,5,7,8]) (kq [0]) 609 (pc c9 pn) ?_
   exact cV hE 2 [] (kp [0,1,5,7,8]) (kq [0]) 1 pn (ih _ _ _ h E hE)
  ·refine ae hE 2 [] [] (kp [0,1,5,7,9,10]) (kq [0]) 449 pn ?_
   refine ae hE 2 [] [] (kp [0,1,5,7,9,10,84,85]) (kq [0]) 497 pn ?_
   exact cV hE 2 [] (kp [0,1,5,7,9,10,84,85]) (kq [0]) 1 pn (DD N _ _ _ _ N _ _ _ _ _ h E hE)
theorem IS (N uo un v C0 r) (h:uZ N uo un v C0=some r):Sd 136 [(.os 0 uo un),(eU v)] [(0,aU C0)] 1 (xn r.1) [(0,aU r.2)]:=by
 unfold uZ at h
 refine gU (fu:=Tryz.f136) (c:=xp 1) (nt:=161) (fun hm=>absurd hm (by decide)) ?_
 intro E hE
 refine ae hE 1 [] [] (kp [0,1]) (kq [0]) 17 pn ?_
 refine ae hE 1 [] [] (kp [0,1,5]) (kq [0]) 65 pn ?_
 obtain ⟨c,h⟩:=ab h
 obtain ⟨c2,h⟩:=ab h
 obtain ⟨c3,h⟩:=ab h
 refine ae hE 1 [] [] (kp [0,1,5,6]) (kq [0]) 289 (pc c (pc (show (bA uo v.length) < C0.length by have h1:=c;have h2:=c2;simp only [df];omega) (pc (show (0:Int)≤16 by decide) (pc c3 (pc (show (bA uo (ah (((v.length:Nat):Int) - 1)).toNat) < C0.length by have h1:=c3;have h2:=c2;simp only [df];omega) pn))))) ?_
 obtain ⟨c4,h⟩:=ab h
 obtain ⟨c5,h⟩:=ab h
 refine ae hE 1 [] [] (kp [0,1,5,7,8]) (kq [0]) 577 (pc c4 (pc c5 (pc c4 (pc c5 pn)))) ?_
 exact cV hE 3 [] (kp [0,1,5,7,8]) (kq [0]) 1 pn (DE N _ _ _ _ N _ _ _ h E hE)
noncomputable abbrev LL:=bV Tryz.f124
def DF (N:Nat) (b:List Int) (bt:Int) (fP:(List Int)) (K:(List Int)→(List Int)→Int→Option ((List Int)×(List Int))):Prop:=∀ (q:List Int) (u:List Int) (j:Int) (r:(List Int)×(List Int)),K q u j=some r→∀ E,bq E 0→aD Tryz.prog E 124 109 (bd E [] (.tup [(eU r.1),(eU r.2)])) [.code (LL 4084),.inLoop (LL 4084),.inBlock 0,.code (LL 511)] ⟨[(4,(.os 0 0 q.length)),(8,(aI bt)),(9,(.os 1 0 u.length)),(10,(.os 2 0 (b.length - 0))),(11,(aI (((b.length - 0):Nat):Int))),(12,(aI j))],[(0,aU q),(1,aU u),(2,aU fP)],3⟩
def DG (N:Nat) (b:List Int) (bt:Int) (q:List Int) (u:List Int) (K:(List Int)→Int→Option ((List Int)×(List Int))):Prop:=∀ (vr:List Int) (x:Int) (r:(List Int)×(List Int)),K vr x=some r→∀ E,bq E 0→aD Tryz.prog E 124 109 (bd E [] (.tup [(eU r.1),(eU r.2)])) [.code (LL 16372),.inLoop (LL 16372),.inBlock 2,.code (LL 2047)] ⟨[(4,(.os 0 0 q.length)),(5,(.os 1 0 vr.length)),(8,(aI bt)),(9,(.os 2 0 u.length)),(81,(aI (((b.length - 0):Nat):Int))),(82,(aI x))],[(0,aU q),(1,aU vr),(2,aU u)],3⟩
theorem CF (N b bt q u fuel):DG N b bt q u (jS N b bt q u fuel):=by
 induction fuel with
 | zero=>intro _ _ r h;rw [jS.eq_1] at h;cases h
 | succ fuel ih =>
  intro vr x r h E hE
  rw [jS.eq_2] at h
  refine ae hE 1 [] [] (kp [4,5,8,9,81,82,83]) (kq [0,1,2]) 19 pn ?_
  refine dm 1 83 h (fun CE h=>?_) (fun CE h=>?_)
  ·refine ae hE 4 [] [] (kp [4,5,8,9,13,81,82]) (kq [0,1,2]) 51 pn ?_
   obtain ⟨NZ,h⟩:=ab h
   obtain ⟨Kh,h⟩:=ab h
   obtain ⟨MP,h⟩:=ab h
   obtain ⟨T8,h⟩:=ab h
   refine ae hE 0 [] [] (kp [4] ++ [(5,.kQ ((vr.set ((x).toNat) (IntKind.u16.wrap ((oU .u32 (sO .u32 (IntKind.u32.wrap ((u.getD ((x).toNat) 0))) (gZ .u32 (IntKind.u32.wrap ((u.getD ((ah (x+1)).toNat) 0))) 16)) bt)))).length))] ++ kp [8,9,81,82]) (kq [0] ++ [(1,.arr 1 ((vr.set ((x).toNat) (IntKind.u16.wrap ((oU .u32 (sO .u32 (IntKind.u32.wrap ((u.getD ((x).toNat) 0))) (gZ .u32 (IntKind.u32.wrap ((u.getD ((ah (x+1)).toNat) 0))) 16)) bt)))).length) (fun zi=>(cU .u16) ((vr.set ((x).toNat) (IntKind.u16.wrap ((oU .u32 (sO .u32 (IntKind.u32.wrap ((u.getD ((x).toNat) 0))) (gZ .u32 (IntKind.u32.wrap ((u.getD ((ah (x+1)).toNat) 0))) 16)) bt)))).getD zi 0)))] ++ kq [2]) 371 (pc NZ (pc (dS NZ) (pc Kh (pc (dS Kh) (pc (show (0:Int)≤16 by decide) (pc MP (pc T8 (pc (dS T8) (pc (aA vr ((x).toNat) (IntKind.u16.wrap ((oU .u32 (sO .u32 (IntKind.u32.wrap ((u.getD ((x).toNat) 0))) (gZ .u32 (IntKind.u32.wrap ((u.getD ((ah (x+1)).toNat) 0))) 16)) bt)))) (pc (aA vr ((x).toNat) (IntKind.u16.wrap ((oU .u32 (sO .u32 (IntKind.u32.wrap ((u.getD ((x).toNat) 0))) (gZ .u32 (IntKind.u32.wrap ((u.getD ((ah (x+1)).toNat) 0))) 16)) bt)))) (pc (cL (cU .u16) 0 vr ((x).toNat) (IntKind.u16.wrap ((oU .u32 (sO .u32 (IntKind.u32.wrap ((u.getD ((x).toNat) 0))) (gZ .u32 (IntKind.u32.wrap ((u.getD ((ah (x+1)).toNat) 0))) 16)) bt)))) pn))))))))))) ?_
   refine ae hE 1 [] [] (kp [4,5,8,9,81,82]) (kq [0,1,2]) 403 pn ?_
   exact cV hE 1 [] (kp [4,5,8,9,81,82]) (kq [0,1,2]) 3 pn (ih _ _ _ h E hE)
  ·obtain ⟨jJ,DH,h⟩:=aQ h
   obtain ⟨Ly,wu,h⟩:=aQ h
   refine ae hE 2 [(1,⟨[],true,(eU jJ),[],0,true,none⟩),(3,⟨[],true,(eU Ly),[],0,true,none⟩)] [] (kp [4,5]) [] 115 (pc (fc _ _ _ DH) (pc (z1 q.length) (pc (fc _ _ _ wu) (pc (z1 vr.length) pn)))) ?_
   obtain rfl:=cJ h
   exact cP hE 0 Tryz.f124 [] (kp [4,5]) [] 115 pn [] pn
theorem CG (N b bt fP fuel):DF N b bt fP (jT N b bt fP fuel):=by
 induction fuel with
 | zero=>intro _ _ _ r h;rw [jT.eq_1] at h;cases h
 | succ fuel ih =>
  intro q u j r h E hE
  rw [jT.eq_2] at h
  refine ae hE 2 [] [] (kp [4,8,9,10,11,12,64]) (kq [0,1,2]) 35 pn ?_
  refine dm 0 64 h (fun ta h=>?_) (fun ta h=>?_)
  ·obtain ⟨c5,h⟩:=ab h
   obtain ⟨c6,h⟩:=ab h
   obtain ⟨c7,h⟩:=ab h
   obtain ⟨c8,h⟩:=ab h
   obtain ⟨cH,DI,h⟩:=aQ h
   obtain ⟨c9,h⟩:=ab h
   obtain ⟨N4,h⟩:=ab h
   refine ae hE 3 [(10,⟨[1],false,(xn cH.1),[(0,aU cH.2)],0,false,none⟩)] [] ([(4,.kQ ((q.set ((j).toNat) cH.1).length))] ++ kp [8] ++ [(9,.kQ (cH.2.length))] ++ kp [10,11,12]) ([(0,.arr 0 ((q.set ((j).toNat) cH.1).length) (fun zi=>(cU .u16) ((q.set ((j).toNat) cH.1).getD zi 0)))] ++ kq [1,2]) 243 (pc c5 (pc c6 (pc c7 (pc (show Sd 136 [(.os 0 ((j).toNat) ((ah ((ah (j+(((b.length - 0):Nat):Int)))+1)).toNat - (j).toNat)),(.sl (b.length - 0) (fun zi=>(cU .u16) (fP.getD (bA 0 zi) 0)))] [(0,aU u)] 1 (xn cH.1) [(0,aU cH.2)] from (Sound.conv (IS _ _ _ _ _ _ DI) (.cons (Alike.refl _) (.cons (Alike.sl (xY fP 0 b.length c8) (fun zq iw=>En (cU .u16) 0 fP 0 b.length zq iw)) .nil)))) (pc (show ∀ zi,zi < cH.2.length→AV.xE ((cU .u16) (cH.2.getD zi 0))=true from (fun _ _=>rfl)) (pc (show 0+(b.length - 0)≤fP.length by have:=c8;omega) (pc N4 (pc (dS N4) (pc (aA q ((j).toNat) cH.1) (pc (show u.length=cH.2.length from (Eq.symm c9)) (pc (aA q ((j).toNat) cH.1) (pc (cL (cU .u16) 0 q ((j).toNat) cH.1) pn)))))))))))) ?_
   refine ae hE 1 [] [] (kp [4,8,9,10,11,12]) (kq [0,1,2]) 291 pn ?_
   exact cV hE 1 [] (kp [4,8,9,10,11,12]) (kq [0,1,2]) 3 pn (ih _ _ _ _ h E hE)
  ·obtain ⟨Jw,h⟩:=ab h
   refine ae hE 2 [] [] (kp [4] ++ [(5,.kQ ((List.replicate (b.length - 0) 0:List Int).length))] ++ kp [8,9,11]) (kq [0,1] ++ [(51,.arr 51 ((List.replicate (b.length - 0) 0:List Int).length) (fun zi=>(cU .u16) ((List.replicate (b.length - 0) 0:List Int).getD zi 0)))]) 83 (pc (show 0≤(((b.length - 0):Nat):Int) from Jw.1) (pc (show (((b.length - 0):Nat):Int)≤(((b.length - 0):Nat):Int) from (Int.le_refl _)) (pc (show (2:Int) * (((b.length - 0):Nat):Int)≤281474976710656 from Jw.2.1) (pc (show (((b.length - 0):Nat):Int)≤9223372036854775807 from Jw.2.2) (pc (show (b.length - 0)=(List.replicate (b.length - 0) 0:List Int).length from (di).symm) (pc (show (b.length - 0)=(List.replicate (b.length - 0) 0:List Int).length from (di).symm) (pc (show ∀ zi,zi < (List.replicate (b.length - 0) 0:List Int).length→(fun zi=>(cU .u16) ((List.replicate (b.length - 0) 0:List Int).getD zi 0)) zi=(fun _=>[(xn 0)]) zi from (fun zq iw=>r8 (cU .u16) 0 0 (b.length - 0) zq iw)) pn))))))) ?_
   refine ae hE 2 [] [] (kp [4,5,8,9,81,82]) (kq [0,1,51]) 115 pn ?_
   exact cV hE 2 [] (kp [4,5,8,9,81,82]) (kq [0] ++ [(1,.ag 51),(2,.ag 1)]) 3 pn (CF N _ _ _ _ N _ _ _ h E hE)
theorem ux (N a b r) (h:oW N a b=some r):Sd 124 [(eU a),(eU b)] [] 0 (.tup [(eU r.1),(eU r.2)]) []:=by
 unfold oW at h
 refine gU (fu:=Tryz.f124) (c:=LL 1) (nt:=109) (fun hm=>rfl) ?_
 intro E hE
 refine ae hE 1 [] [] (kp [0,1]) [] 32 pn ?_
 obtain ⟨ki,hr,h⟩:=aQ h
 refine ae hE 2 [(2,oT (aI ki))] [] (kp [0,1,17]) [] 96 (pc (ya _ _ _ _ hr) pn) ?_
 refine dm 0 17 h (fun dW h=>?_) (fun dW h=>?_)
 ·obtain ⟨Ai,eJ,h⟩:=aQ h
  refine ae hE 1 [(1,oT (eU Ai))] [] (kp [4,5]) [] 160 (pc (lx _ _ _ eJ) pn) ?_
  obtain rfl:=cJ h
  exact cP hE 0 Tryz.f124 [] ([(4,.sl (([]:List Int).length) (fun zi=>(cU .u16) (([]:List Int).getD zi 0)))] ++ kp [5]) [] 160 (pc (Eq.refl 0) pn) [] pn
 ·refine ae hE 3 [] [] (kp [0,1,22]) [] 144 pn ?_
  refine dm 0 22 h (fun jh h=>?_) (fun jh h=>?_)
  ·obtain ⟨c,h⟩:=ab h
   obtain ⟨Aj,jP,h⟩:=aQ h
   refine ae hE 1 [(4,oT (.tup [(eU Aj.1),(xn Aj.2)]))] [] (kp [6,7]) [] 304 (pc c (pc (IP _ _ _ _ jP) pn)) ?_
   obtain ⟨b7,mz,h⟩:=aQ h
   refine ae hE 1 [(3,⟨[],true,(eU b7),[],0,true,none⟩)] [] (kp [4,5]) [] 400 (pc (show Sd 122 [(.sl 1 (fun zi=>(fun zi=>([[(xn Aj.2)]]:List (List AV)).getD zi []) (bA 0 zi)))] [] 0 (eU b7) [] from (Sound.conv (fc _ _ _ mz) (.cons (Alike.sl rfl (fun zq iw=>cg (cU .u16) 0 ([Aj.2]:List Int) zq iw)) .nil))) (pc (z1 1) pn)) ?_
   obtain rfl:=cJ h
   exact cP hE 0 Tryz.f124 [] (kp [4,5]) [] 400 pn [] pn
  ·obtain ⟨c2,h⟩:=ab h
   obtain ⟨bt,qz,h⟩:=aQ h
   refine ae hE 2 [(6,oT (aI bt))] [] (kp [0,1,8]) [] 272 (pc c2 (pc (q7 _ _ _ qz) pn)) ?_
   obtain ⟨eM,vj,h⟩:=aQ h
   obtain ⟨fP,wv,h⟩:=aQ h
   obtain ⟨c3,h⟩:=ab h
   refine ae hE 1 [(2,⟨[],true,(.os 0 0 eM.length),[(0,aU eM)],0,false,none⟩),(5,⟨[],true,(.os 0 0 fP.length),[(0,aU fP)],0,false,none⟩)] [] (kp [8,9,10]) (kq [304,352]) 448 (pc (yd _ _ _ _ vj) (pc (yd _ _ _ _ wv) (pc c3 (pc (show 0≤((b.length:Nat):Int) from (Int.natCast_nonneg _)) pn)))) ?_
   refine ae hE 1 [] [] (kp [8,9,10,11]) (kq [304,352]) 496 pn ?_
   obtain ⟨c4,h⟩:=ab h
   refine ae hE 1 [] [] ([(4,.kQ ((List.replicate ((ah (((eM.length:Nat):Int) - (((b.length - 0):Nat):Int))).toNat) 0:List Int).length))] ++ kp [8,9,10,11]) (kq [304,352] ++ [(560,.arr 560 ((List.replicate ((ah (((eM.length:Nat):Int) - (((b.length - 0):Nat):Int))).toNat) 0:List Int).length) (fun zi=>(cU .u16) ((List.replicate ((ah (((eM.length:Nat):Int) - (((b.length - 0):Nat):Int))).toNat) 0:List Int).getD zi 0)))]) 592 (pc (show 0≤(ah (((eM.length:Nat):Int) - (((b.length - 0):Nat):Int))) from c4.1) (pc (show (ah (((eM.length:Nat):Int) - (((b.length - 0):Nat):Int)))≤(ah (((eM.length:Nat):Int) - (((b.length - 0):Nat):Int))) from (Int.le_refl _)) (pc (show (2:Int) * (ah (((eM.length:Nat):Int) - (((b.length - 0):Nat):Int)))≤281474976710656 from c4.2.1) (pc (show (ah (((eM.length:Nat):Int) - (((b.length - 0):Nat):Int)))≤9223372036854775807 from c4.2.2) (pc (show (ah (((eM.length:Nat):Int) - (((b.length - 0):Nat):Int))).toNat=(List.replicate ((ah (((eM.length:Nat):Int) - (((b.length - 0):Nat):Int))).toNat) 0:List Int).length from (di).symm) (pc (show (ah (((eM.length:Nat):Int) - (((b.length - 0):Nat):Int))).toNat=(List.replicate ((ah (((eM.length:Nat):Int) - (((b.length - 0):Nat):Int))).toNat) 0:List Int).length from (di).symm) (pc (show ∀ zi,zi < (List.replicate ((ah (((eM.length:Nat):Int) - (((b.length - 0):Nat):Int))).toNat) 0:List Int).length→(fun zi=>(cU .u16) ((List.replicate ((ah (((eM.length:Nat):Int) - (((b.length - 0):Nat):Int))).toNat) 0:List Int).getD zi 0)) zi=(fun _=>[(xn 0)]) zi from (fun zq iw=>r8 (cU .u16) 0 0 ((ah (((eM.length:Nat):Int) - (((b.length - 0):Nat):Int))).toNat) zq iw)) pn))))))) ?_
   refine ae hE 2 [] [] (kp [4,8,9,10,11,12]) (kq [304,352,560]) 688 pn ?_
   exact cV hE 2 [] (kp [4,8,9,10,11,12]) [(0,.ag 560),(1,.ag 304),(2,.ag 352)] 3 pn (CG N _ _ _ N _ _ _ _ h E hE)
noncomputable abbrev GS:=bV Tryz.f123
def w6 (N:Nat) (K:(List Int)→(List Int)→Option ((List Int))):Prop:=∀ (a2:List Int) (b2:List Int) (r:(List Int)),K a2 b2=some r→∀ E,bq E 0→aD Tryz.prog E 123 45 (bd E [] (eU r)) [.code (GS 24),.inLoop (GS 24),.inBlock 0,.code (GS 7)] ⟨[(0,(eU a2)),(1,(eU b2))],[],0⟩
def DJ (N:Nat) (K:Int→Int→Option ((List Int))):Prop:=∀ (x:Int) (y:Int) (r:(List Int)),K x y=some r→∀ E,bq E 0→aD Tryz.prog E 123 45 (bd E [] (eU r)) [.code (GS 25296),.inLoop (GS 25296),.inBlock 2,.code (GS 6325),.code (GS 791),.inBlock 1,.inLoop (GS 24),.inBlock 0,.code (GS 7)] ⟨[(5,(Jv x)),(7,(Jv y))],[],0⟩
theorem CH (N:Nat) (oI:(List Int)→(List Int)→Option ((List Int))) (N5:w6 N oI) (fuel:Nat):DJ N (ll N oI fuel):=by
 induction fuel with
 | zero=>intro _ _ r h;rw [ll.eq_1] at h;cases h
 | succ fuel ih =>
  intro x y r h E hE
  rw [ll.eq_2] at h
  refine ae hE 2 [] [] (kp [5,7,29]) [] 32 pn ?_
  refine dm 0 29 h (fun ta h=>?_) (fun ta h=>?_)
  ·obtain ⟨c,h⟩:=ab h
   refine ae hE 2 [] [] (kp [5,7]) [] 128 (pc c pn) ?_
   exact cV hE 2 [] (kp [5,7]) [] 0 pn (ih _ _ _ h E hE)
  ·obtain ⟨sQ,jP,h⟩:=aQ h
   refine ae hE 2 [(1,oT (eU sQ))] [] (kp [4]) [] 80 (pc (tc _ _ _ jP) pn) ?_
   obtain rfl:=cJ h
   exact cP hE 0 Tryz.f123 [] (kp [4]) [] 80 pn [] pn
theorem CI (N fuel):w6 N (jU N fuel):=by
 induction fuel with
 | zero=>intro _ _ r h;rw [jU.eq_1] at h;cases h
 | succ fuel ih =>
  intro a2 b2 r h E hE
  rw [jU.eq_2] at h
  refine ae hE 2 [] [] (kp [0,1,13]) [] 48 pn ?_
  refine dm 0 13 h (fun dW h=>?_) (fun dW h=>?_)
  ·obtain ⟨HP,hr,h⟩:=aQ h
   refine ae hE 3 [(1,oT (.tup [(Jv HP.1),(aB HP.2)]))] [] (kp [0,1,5,6]) [] 160 (pc (Dp _ _ _ hr) pn) ?_
   obtain ⟨Fp,eJ,h⟩:=aQ h
   refine ae hE 1 [(1,oT (.tup [(Jv Fp.1),(aB Fp.2)]))] [] (kp [0,1,5,6,7,8]) [] 272 (pc (Dp _ _ _ eJ) pn) ?_
   refine ae hE 2 [] [] (kp [0,1,5,7,27]) [] 336 (pc (fun hq:HP.2=true=>(pc hq pn)) pn) ?_
   refine dm 0 27 h (fun jh h=>?_) (fun jh h=>?_)
   ·exact cV hE 3 [] (kp [5,7]) [] 0 pn (CH N _ ih N _ _ _ h E hE)
   ·obtain ⟨r9,mz,h⟩:=aQ h
    refine ae hE 2 [(2,oT (.tup [(eU r9.1),(eU r9.2)]))] [] (kp [1,10]) [] 464 (pc (ux _ _ _ _ mz) pn) ?_
    refine ae hE 0 [] [] (kp [0,1]) [] 528 pn ?_
    exact cV hE 2 [] (kp [0,1]) [] 0 pn (ih _ _ _ h E hE)
  ·refine ae hE 2 [] [] (kp [4]) [] 80 pn ?_
   obtain rfl:=cJ h
   exact cP hE 0 Tryz.f123 [] (kp [4]) [] 80 pn [] pn
theorem GU (N a b r) (h:we N a b=some r):Sd 123 [(eU a),(eU b)] [] 0 (eU r) []:=by
 unfold we at h
 refine gU (fu:=Tryz.f123) (c:=GS 1) (nt:=45) (fun hm=>rfl) ?_
 intro E hE
 refine ae hE 1 [] [] (kp [0,1]) [] 16 pn ?_
 exact cV hE 3 [] (kp [0,1]) [] 0 pn (CI N N _ _ _ h E hE)
noncomputable abbrev Ve:=bV Tryz.f98
def Br (N:Nat) (a:bG) (b:bG) (K:(List Int)→(List Int)→Option (aa)):Prop:=∀ (x:List Int) (y:List Int) (r:aa),K x y=some r→∀ E,bq E 0→aD Tryz.prog E 98 48 (bd E [] (.agg (aj r))) [.code (Ve 62),.code (Ve 63)] ⟨[(2,(.op 0 0 0)),(3,(.op 1 0 0)),(4,(.op 2 0 0)),(5,(eU x)),(6,(eU y))],[(0,vO 2 (lk a)),(1,vO 2 (lk b)),(2,vO 4 [(aB false),.nil,(aB false),.nil])],3⟩
theorem td (N a b):Br N a b (mq N a b):=by
 intro x y r h E hE
 unfold mq at h
 obtain ⟨Lw,vj,h⟩:=aQ h
 obtain ⟨Fo,wv,h⟩:=aQ h
 refine ae hE 0 [(6,oT (.agg (lk Lw))),(8,oT (.agg (lk Fo)))] [] (kp [4]) (kq [2]) 179 (pc o1 (pc o1 (pc (j5 _ _ _ _ vj) (pc (j5 _ _ _ _ wv) (pc o1 pn))))) ?_
 obtain rfl:=cJ h
 exact cP hE 0 Tryz.f98 [] (kp [4]) [(16,.ag 2)] 179 pn [16] (pc o1 pn)
theorem jD (N a b r) (h:jc N a b=some r):Sd 98 [(.agg (lk a)),(.agg (lk b))] [] 0 (.agg (aj r)) []:=by
 unfold jc at h
 refine gU (fu:=Tryz.f98) (c:=Ve 1) (nt:=48) (fun hm=>rfl) ?_
 intro E hE
 refine ae hE 1 [] [] (kp [2,3,4]) (kq [0,16,32]) 48 pn ?_
 obtain ⟨b7,hr,h⟩:=aQ h
 obtain ⟨jJ,eJ,h⟩:=aQ h
 refine ae hE 1 [(2,oT (eU b7)),(5,oT (eU jJ))] [] (kp [2,3,4,5,6]) (kq [0,16,32]) 176 (pc o1 (pc (fc _ _ _ hr) (pc o1 (pc (fc _ _ _ eJ) pn)))) ?_
 obtain ⟨oJ,jP,h⟩:=aQ h
 refine ae hE 1 [(2,oT (eU oJ))] [] (kp [2,3,4,5,6,7]) (kq [0,16,32]) 240 (pc (GU _ _ _ _ jP) pn) ?_
 obtain ⟨c,h⟩:=ab h
 refine ae hE 2 [] [] (kp [2,3,4,5,6,7,25]) (kq [0,16,32]) 384 (pc (fun hg:(!(((oJ.length:Nat):Int) != 1))=true=>(pc hg (pc (c hg) pn))) (pc (fun hg:(!(((oJ.length:Nat):Int) != 1))=true=>(pc hg pn)) (pc (fun hg:(!(((oJ.length:Nat):Int) != 1))=true=>(pc hg pn)) (pc (fun hq:(!(((oJ.length:Nat):Int) != 1))=true=>(pc hq pn)) pn)))) ?_
 refine dm 0 25 h (fun dW h=>?_) (fun dW h=>?_)
 ·obtain ⟨r9,mz,h⟩:=aQ h
  refine ae hE 1 [(2,oT (.tup [(eU r9.1),(eU r9.2)]))] [] (kp [2,3,4,5,6,7]) (kq [0,16,32]) 496 (pc (ux _ _ _ _ mz) pn) ?_
  obtain ⟨Be,qz,h⟩:=aQ h
  refine ae hE 0 [(2,oT (.tup [(eU Be.1),(eU Be.2)]))] [] (kp [2,3,4,5,6]) (kq [0,16,32]) 608 (pc (ux _ _ _ _ qz) pn) ?_
  exact cV hE 1 [] (kp [2,3,4,5,6]) (kq [0] ++ [(1,.ag 16),(2,.ag 32)]) 3 pn (td N _ _ _ _ _ h E hE)
 ·exact cV hE 2 [] (kp [2,3,4,5,6]) (kq [0] ++ [(1,.ag 16),(2,.ag 32)]) 3 pn (td N _ _ _ _ _ h E hE)
noncomputable abbrev Zo:=bV Tryz.f89
theorem Bs (N a r) (h:qu N a=some r):Sd 89 [(.agg (lk a))] [] 0 (.agg (aj r)) []:=by
 unfold qu at h
 refine gU (fu:=Tryz.f89) (c:=Zo 1) (nt:=7) (fun hm=>rfl) ?_
 intro E hE
 refine ae hE 1 [] [] (kp [1,2]) (kq [0,16]) 32 pn ?_
 obtain ⟨B6,hr,h⟩:=aQ h
 refine ae hE 1 [(3,⟨[],true,(.agg (aj B6)),[],0,true,none⟩)] [] (kp [2]) (kq [16]) 112 (pc o1 (pc (show Sd 98 [(.agg (lk a)),(.agg [(aB false),(.sl 1 (fun zi=>(fun zi=>([[(xn 1)]]:List (List AV)).getD zi []) (bA 0 zi)))])] [] 0 (.agg (aj B6)) [] from (Sound.conv (jD _ _ _ _ hr) (.cons (Alike.refl _) (.cons (Alike.agg (.cons (Alike.refl _) (.cons (Alike.sl rfl (fun zq iw=>cg (cU .u16) 0 ([1]:List Int) zq iw)) .nil))) .nil)))) (pc (z1 1) (pc o1 pn)))) ?_
 obtain rfl:=cJ h
 exact cP hE 0 Tryz.f89 [] (kp [2]) (kq [16]) 112 pn [16] (pc o1 pn)
noncomputable abbrev C_6:=bV Tryz.f68
theorem gX (N n r) (h:gr N n=some r):Sd 68 [(aI n)] [] 0 (.agg (aj r)) []:=by
 unfold gr at h
 refine gU (fu:=Tryz.f68) (c:=C_6 1) (nt:=6) (fun hm=>rfl) ?_
 intro E hE
 refine ae hE 1 [] [] (kp [0,2]) (kq [0]) 16 pn ?_
 obtain ⟨GG,hr,h⟩:=aQ h
 obtain ⟨Ak,eJ,h⟩:=aQ h
 refine ae hE 1 [(1,oT (.agg (lk GG))),(2,oT (.agg (aj Ak)))] [] (kp [2]) (kq [0]) 80 (pc (za _ _ _ hr) (pc (Bs _ _ _ eJ) (pc o1 pn))) ?_
 obtain rfl:=cJ h
 exact cP hE 0 Tryz.f68 [] (kp [2]) [(16,.ag 0)] 80 pn [16] (pc o1 pn)
noncomputable abbrev Zp:=bV Tryz.f105
theorem tS (N a r) (h:sR N a=some r):Sd 105 [(.agg (lk a))] [] 0 (aI r) []:=by
 unfold sR at h
 refine gU (fu:=Tryz.f105) (c:=Zp 1) (nt:=12) (fun hm=>rfl) ?_
 intro E hE
 refine ae hE 1 [] [] (kp [1]) (kq [0]) 32 pn ?_
 obtain ⟨b7,hr,h⟩:=aQ h
 refine ae hE 3 [(2,oT (eU b7))] [] (kp [1,3]) (kq [0]) 128 (pc o1 (pc (fc _ _ _ hr) pn)) ?_
 refine dm 0 3 h (fun dW h=>?_) (fun dW h=>?_)
 ·refine ae hE 1 [] [] (kp [2]) [] 144 pn ?_
  obtain rfl:=cJ h
  exact cP hE 0 Tryz.f105 [] (kp [2]) [] 144 pn [] pn
 ·refine ae hE 1 [] [] (kp [9]) [] 176 (pc o1 pn) ?_
  refine dm 0 9 h (fun jh h=>?_) (fun jh h=>?_)
  ·refine ae hE 1 [] [] (kp [2]) [] 192 pn ?_
   obtain rfl:=cJ h
   exact cP hE 0 Tryz.f105 [] (kp [2]) [] 192 pn [] pn
  ·refine ae hE 3 [] [] (kp [2]) [] 192 pn ?_
   obtain rfl:=cJ h
   exact cP hE 0 Tryz.f105 [] (kp [2]) [] 192 pn [] pn
noncomputable abbrev Zq:=bV Tryz.f97
theorem jQ (N x r) (h:kI N x=some r):Sd 97 [(.agg (aj x))] [] 0 (.agg (lk r)) []:=by
 unfold kI at h
 refine gU (fu:=Tryz.f97) (c:=Zq 1) (nt:=11) (fun hm=>rfl) ?_
 intro E hE
 refine ae hE 1 [] [] (kp [1,2]) (kq [0,16]) 32 pn ?_
 obtain ⟨u5,hr,h⟩:=aQ h
 refine ae hE 2 [(2,oT (aI u5))] [] (kp [1,2,6]) (kq [0,16]) 96 (pc o1 (pc (tS _ _ _ hr) pn)) ?_
 refine dm 0 6 h (fun dW h=>?_) (fun dW h=>?_)
 ·refine ae hE 1 [] [] (kp [2]) [(16,.var 16 [.ag,.kQ (([1]:List Int).length)]),(96,.arr 96 (([1]:List Int).length) (fun zi=>(cU .u16) (([1]:List Int).getD zi 0)))] 144 (pc o1 (pc (Eq.refl 1) (pc (Eq.refl 1) (pc (show ∀ zi,zi < ([1]:List Int).length→(fun zi=>(cU .u16) (([1]:List Int).getD zi 0)) zi=(fun zi=>([[(xn 1)]]:List (List AV)).getD zi []) zi from (fun zq iw=>cg (cU .u16) 0 ([1]:List Int) zq iw)) pn)))) ?_
  obtain rfl:=cJ h
  exact cP hE 0 Tryz.f97 [96] (kp [2]) [(16,.var 16 [.ag,.sl (([1]:List Int).length) (fun zi=>(cU .u16) (([1]:List Int).getD zi 0))])] 144 (pc (Eq.refl (([1]:List Int).length)) (pc (z1 (([1]:List Int).length)) (pc (aZ (([1]:List Int).length) (fun zi=>(cU .u16) (([1]:List Int).getD zi 0))) pn))) [16] (pc o1 pn)
 ·refine ae hE 2 [] [] (kp [2]) (kq [16]) 144 (pc o1 (pc o1 pn)) ?_
  obtain rfl:=cJ h
  exact cP hE 0 Tryz.f97 [] (kp [2]) (kq [16]) 144 pn [16] (pc o1 pn)
noncomputable abbrev Zr:=bV Tryz.f69
theorem qH (N x r) (h:ln N x=some r):Sd 69 [(.agg (aj x))] [] 0 (.agg (aj r)) []:=by
 unfold ln at h
 refine gU (fu:=Tryz.f69) (c:=Zr 1) (nt:=8) (fun hm=>rfl) ?_
 intro E hE
 refine ae hE 1 [] [] (kp [1,2]) (kq [0,16]) 32 pn ?_
 obtain ⟨jK,hr,h⟩:=aQ h
 obtain ⟨B6,eJ,h⟩:=aQ h
 refine ae hE 1 [(3,oT (.agg (lk jK))),(4,oT (.agg (aj B6)))] [] (kp [2]) (kq [16]) 128 (pc o1 (pc o1 (pc (jQ _ _ _ hr) (pc (jD _ _ _ _ eJ) (pc o1 pn))))) ?_
 obtain rfl:=cJ h
 exact cP hE 0 Tryz.f69 [] (kp [2]) (kq [16]) 128 pn [16] (pc o1 pn)
noncomputable abbrev Zs:=bV Tryz.f104
theorem DK (N a r) (h:sa N a=some r):Sd 104 [(.agg (lk a))] [] 0 (.agg (lk r)) []:=by
 unfold sa at h
 refine gU (fu:=Tryz.f104) (c:=Zs 1) (nt:=9) (fun hm=>rfl) ?_
 intro E hE
 refine ae hE 1 [] [] (kp [1,2]) (kq [0,16]) 32 pn ?_
 refine ae hE 1 [] [] (kp [2]) (kq [16]) 144 (pc o1 (pc o1 (pc o1 pn))) ?_
 obtain rfl:=cJ h
 exact cP hE 0 Tryz.f104 [] (kp [2]) (kq [16]) 144 pn [16] (pc o1 pn)
noncomputable abbrev Zt:=bV Tryz.f70
theorem kJ (N x r) (h:gh N x=some r):Sd 70 [(.agg (aj x))] [] 0 (.agg (aj r)) []:=by
 unfold gh at h
 refine gU (fu:=Tryz.f70) (c:=Zt 1) (nt:=9) (fun hm=>rfl) ?_
 intro E hE
 refine ae hE 1 [] [] (kp [1,2]) (kq [0,16]) 32 pn ?_
 obtain ⟨Cw,hr,h⟩:=aQ h
 obtain ⟨jK,eJ,h⟩:=aQ h
 obtain ⟨B6,jP,h⟩:=aQ h
 refine ae hE 1 [(2,oT (.agg (lk Cw))),(4,oT (.agg (lk jK))),(5,oT (.agg (aj B6)))] [] (kp [2]) (kq [16]) 144 (pc o1 (pc (DK _ _ _ hr) (pc o1 (pc (jQ _ _ _ eJ) (pc (jD _ _ _ _ jP) (pc o1 pn)))))) ?_
 obtain rfl:=cJ h
 exact cP hE 0 Tryz.f70 [] (kp [2]) (kq [16]) 144 pn [16] (pc o1 pn)
noncomputable abbrev FI:=bV Tryz.f33
def FJ (N:Nat) (n:Int) (l:List af) (aw:aa) (K:(List Int)→Int→Option (lR)):Prop:=∀ (t:List Int) (x:Int) (r:lR),K t x=some r→∀ E,bq E 0→aD Tryz.prog E 33 157 (bd E [(0,vN 12 [(aI r.xk),(aI r.xl),(.os 1 0 r.kz.length),(.os 2 0 r.nj.length),(.os 3 0 r.Jt.length),(.os 4 0 r.Ju.length),(.os 5 0 r.eW.length),(aB r.ak.fN.fG),(eU r.ak.fN.fL),(aB r.ak.fD.fG),(eU r.ak.fD.fL),(aI r.cu)]),(1,aO 1 cI 0 r.kz),(2,aO 1 cI 0 r.nj),(3,aM 4 aj aa.d r.Jt),(4,aO 4 aj aa.d r.Ju),(5,aO 4 aj aa.d r.eW)] (.op 0 0 0)) [.code (FI 116),.inLoop (FI 116),.inBlock 0,.code (FI 15)] ⟨[(0,(aI n)),(1,(aH wX af.d l)),(5,(.op 0 0 0)),(25,(aI (ah (2 * n)))),(26,(aI x))],[(0,vN 12 [(aI n),(aI ((l.length:Nat):Int)),.nil,(.os 1 0 t.length),.nil,.nil,.nil,(aB aw.fN.fG),(eU aw.fN.fL),(aB aw.fD.fG),(eU aw.fD.fL),(aI (ah ((ah (2 * n))+((l.length:Nat):Int))))]),(1,aO 1 cI 0 t)],2⟩
def tf (N:Nat) (n:Int) (l:List af) (aw:aa) (t:List Int) (K:(List Int)→(List (List aa))→(List aa)→Int→Option (lR)):Prop:=∀ (t2:List Int) (t3:List (List aa)) (t4:List aa) (x2:Int) (r:lR),K t2 t3 t4 x2=some r→∀ E,bq E 0→aD Tryz.prog E 33 157 (bd E [(0,vN 12 [(aI r.xk),(aI r.xl),(.os 1 0 r.kz.length),(.os 2 0 r.nj.length),(.os 3 0 r.Jt.length),(.os 4 0 r.Ju.length),(.os 5 0 r.eW.length),(aB r.ak.fN.fG),(eU r.ak.fN.fL),(aB r.ak.fD.fG),(eU r.ak.fD.fL),(aI r.cu)]),(1,aO 1 cI 0 r.kz),(2,aO 1 cI 0 r.nj),(3,aM 4 aj aa.d r.Jt),(4,aO 4 aj aa.d r.Ju),(5,aO 4 aj aa.d r.eW)] (.op 0 0 0)) [.code (FI 500),.inLoop (FI 500),.inBlock 2,.code (FI 63)] ⟨[(0,(aI n)),(5,(.op 0 0 0)),(53,(aH wX af.d l)),(54,(aI ((l.length:Nat):Int))),(55,(aI x2))],[(0,vN 12 [(aI n),(aI ((l.length:Nat):Int)),(.os 1 0 t2.length),(.os 2 0 ((t ++ ([(ah ((ah (2 * n))+((l.length:Nat):Int)))]:List Int)).length)),(.os 3 0 t3.length),(.os 4 0 t4.length),.nil,(aB aw.fN.fG),(eU aw.fN.fL),(aB aw.fD.fG),(eU aw.fD.fL),(aI (ah ((ah (2 * n))+((l.length:Nat):Int))))]),(1,aO 1 cI 0 t2),(2,aO 1 cI 0 (t ++ ([(ah ((ah (2 * n))+((l.length:Nat):Int)))]:List Int))),(3,aM 4 aj aa.d t3),(4,aO 4 aj aa.d t4)],5⟩
def yf (N:Nat) (n:Int) (l:List af) (aw:aa) (t:List Int) (t2:List Int) (t3:List (List aa)) (t4:List aa) (x2:Int) (K:(List aa)→Int→Option (lR)):Prop:=∀ (row:List aa) (x3:Int) (r:lR),K row x3=some r→∀ E,bq E 0→aD Tryz.prog E 33 157 (bd E [(0,vN 12 [(aI r.xk),(aI r.xl),(.os 1 0 r.kz.length),(.os 2 0 r.nj.length),(.os 3 0 r.Jt.length),(.os 4 0 r.Ju.length),(.os 5 0 r.eW.length),(aB r.ak.fN.fG),(eU r.ak.fN.fL),(aB r.ak.fD.fG),(eU r.ak.fD.fL),(aI r.cu)]),(1,aO 1 cI 0 r.kz),(2,aO 1 cI 0 r.nj),(3,aM 4 aj aa.d r.Jt),(4,aO 4 aj aa.d r.Ju),(5,aO 4 aj aa.d r.eW)] (.op 0 0 0)) [.code (FI 1025652),.inLoop (FI 1025652),.inBlock 4,.code (FI 128207),.inBlock 3,.code (FI 4007),.inLoop (FI 500),.inBlock 2,.code (FI 63)] ⟨[(0,(aI n)),(5,(.op 0 0 0)),(8,(.op 5 0 0)),(9,(.os 6 0 row.length)),(53,(aH wX af.d l)),(54,(aI ((l.length:Nat):Int))),(55,(aI x2)),(77,(aI n)),(78,(aI x3))],[(0,vN 12 [(aI n),(aI ((l.length:Nat):Int)),(.os 1 0 ((t2 ++ ([(ah ((ah (2 * n))+x2))]:List Int)).length)),(.os 2 0 ((t ++ ([(ah ((ah (2 * n))+((l.length:Nat):Int)))]:List Int)).length)),(.os 3 0 t3.length),(.os 4 0 t4.length),.nil,(aB aw.fN.fG),(eU aw.fN.fL),(aB aw.fD.fG),(eU aw.fD.fL),(aI (ah ((ah (2 * n))+((l.length:Nat):Int))))]),(1,aO 1 cI 0 (t2 ++ ([(ah ((ah (2 * n))+x2))]:List Int))),(2,aO 1 cI 0 (t ++ ([(ah ((ah (2 * n))+((l.length:Nat):Int)))]:List Int))),(3,aM 4 aj aa.d t3),(4,aO 4 aj aa.d t4),(5,vO 5 (wX (l.getD ((x2).toNat) af.d))),(6,aO 4 aj aa.d row)],7⟩
def FK (N:Nat) (n:Int) (l:List af) (aw:aa) (t:List Int) (t2:List Int) (t3:List (List aa)) (t4:List aa) (x2:Int) (row:List aa) (x3:Int) (K:aa→Option (lR)):Prop:=∀ (c7:aa) (r:lR),K c7=some r→∀ E,bq E 0→aD Tryz.prog E 33 157 (bd E [(0,vN 12 [(aI r.xk),(aI r.xl),(.os 1 0 r.kz.length),(.os 2 0 r.nj.length),(.os 3 0 r.Jt.length),(.os 4 0 r.Ju.length),(.os 5 0 r.eW.length),(aB r.ak.fN.fG),(eU r.ak.fN.fL),(aB r.ak.fD.fG),(eU r.ak.fD.fL),(aI r.cu)]),(1,aO 1 cI 0 r.kz),(2,aO 1 cI 0 r.nj),(3,aM 4 aj aa.d r.Jt),(4,aO 4 aj aa.d r.Ju),(5,aO 4 aj aa.d r.eW)] (.op 0 0 0)) [.code (FI 131283559),.inBlock 5,.code (FI 8205223),.inLoop (FI 1025652),.inBlock 4,.code (FI 128207),.inBlock 3,.code (FI 4007),.inLoop (FI 500),.inBlock 2,.code (FI 63)] ⟨[(0,(aI n)),(5,(.op 0 0 0)),(8,(.op 5 0 0)),(9,(.os 6 0 row.length)),(10,(aI x3)),(11,(.op 7 0 0)),(53,(aH wX af.d l)),(54,(aI ((l.length:Nat):Int))),(55,(aI x2)),(77,(aI n)),(78,(aI x3))],[(0,vN 12 [(aI n),(aI ((l.length:Nat):Int)),(.os 1 0 ((t2 ++ ([(ah ((ah (2 * n))+x2))]:List Int)).length)),(.os 2 0 ((t ++ ([(ah ((ah (2 * n))+((l.length:Nat):Int)))]:List Int)).length)),(.os 3 0 t3.length),(.os 4 0 t4.length),.nil,(aB aw.fN.fG),(eU aw.fN.fL),(aB aw.fD.fG),(eU aw.fD.fL),(aI (ah ((ah (2 * n))+((l.length:Nat):Int))))]),(1,aO 1 cI 0 (t2 ++ ([(ah ((ah (2 * n))+x2))]:List Int))),(2,aO 1 cI 0 (t ++ ([(ah ((ah (2 * n))+((l.length:Nat):Int)))]:List Int))),(3,aM 4 aj aa.d t3),(4,aO 4 aj aa.d t4),(5,vO 5 (wX (l.getD ((x2).toNat) af.d))),(6,aO 4 aj aa.d row),(7,vO 4 (aj c7))],8⟩
theorem w7 (N:Nat) (n:Int) (l:List af) (aw:aa) (t:List Int) (t2:List Int) (t3:List (List aa)) (t4:List aa) (x2:Int) (row:List aa) (x3:Int) (pP:(List aa)→Int→Option (lR)) (er:(List Int)→(List (List aa))→(List aa)→Int→Option (lR)) (DL:yf N n l aw t t2 t3 t4 x2 pP) (oM:tf N n l aw t er):FK N n l aw t t2 t3 t4 x2 row x3 (nN N n l aw t t2 t3 t4 x2 row x3 pP er):=by
 intro c7 r h E hE
 unfold nN at h
 obtain ⟨aY,mz,h⟩:=aQ h
 obtain ⟨c8,h⟩:=ab h
 obtain ⟨c9,h⟩:=ab h
 refine ae hE 0 [(7,oT (.agg (aj aY)))] [] (kp [0,5,8] ++ [(9,.kQ (((row.set ((x3).toNat) aY).set ((ah (n+x3)).toNat) c7).length))] ++ kp [53,54,55,77,78]) (kq [0,1,2,3,4,5] ++ [(6,.arr 6 (((row.set ((x3).toNat) aY).set ((ah (n+x3)).toNat) c7).length) (fun zi=>aj (((row.set ((x3).toNat) aY).set ((ah (n+x3)).toNat) c7).getD zi aa.d)))]) 216 (pc o1 (pc (kJ _ _ _ mz) (pc o1 (pc c8 (pc (dS c8) (pc c9 (pc (dS c9) (pc (show row.length=((row.set ((x3).toNat) aY).set ((ah (n+x3)).toNat) c7).length from (ni (ni rfl))) (pc (show row.length=((row.set ((x3).toNat) aY).set ((ah (n+x3)).toNat) c7).length from (ni (ni rfl))) (pc (show ∀ zi,zi < ((row.set ((x3).toNat) aY).set ((ah (n+x3)).toNat) c7).length→(fun zi=>aj (((row.set ((x3).toNat) aY).set ((ah (n+x3)).toNat) c7).getD zi aa.d)) zi=((fun zm=>if zm=(ah (n+x3)).toNat then [(aB c7.fN.fG),(eU c7.fN.fL),(aB c7.fD.fG),(eU c7.fD.fL)] else ((fun zm=>if zm=(x3).toNat then [(aB aY.fN.fG),(eU aY.fN.fL),(aB aY.fD.fG),(eU aY.fD.fL)] else (fun zi=>aj (row.getD zi aa.d)) zm)) zm)) zi from (xZ aj aa.d (row.set ((x3).toNat) aY) ((ah (n+x3)).toNat) c7 (xZ aj aa.d row ((x3).toNat) aY (fun _ _=>rfl)))) pn)))))))))) ?_
 refine ae hE 1 [] [] (kp [0,5,8,9,53,54,55,77,78]) (kq [0,1,2,3,4,5,6]) 248 pn ?_
 exact cV hE 1 [] (kp [0,5,8,9,53,54,55,77,78]) (kq [0,1,2,3,4,5,6]) 7 pn (DL _ _ _ h E hE)
theorem DM (N:Nat) (n:Int) (l:List af) (aw:aa) (t:List Int) (t2:List Int) (t3:List (List aa)) (t4:List aa) (x2:Int) (er:(List Int)→(List (List aa))→(List aa)→Int→Option (lR)) (oM:tf N n l aw t er) (fuel:Nat):yf N n l aw t t2 t3 t4 x2 (gi N n l aw t t2 t3 t4 x2 er fuel):=by
 induction fuel with
 | zero=>intro _ _ r h;rw [gi.eq_1] at h;cases h
 | succ fuel ih =>
  intro row x3 r h E hE
  rw [gi.eq_2] at h
  refine ae hE 1 [] [] (kp [0,5,8,9,53,54,55,77,78,79]) (kq [0,1,2,3,4,5,6]) 23 pn ?_
  refine dm 1 79 h (fun ta h=>?_) (fun ta h=>?_)
  ·refine ae hE 4 [] [] (kp [0,5,8,9,10,53,54,55,77,78]) (kq [0,1,2,3,4,5,6]) 55 pn ?_
   obtain ⟨lH,eJ,h⟩:=aQ h
   refine ae hE 1 [(0,oT (.agg (aj lH)))] [] (kp [0,5,8,9,10,11,53,54,55,77,78]) (kq [0,1,2,3,4,5,6,71]) 103 (pc (gX _ _ _ eJ) (pc o1 pn)) ?_
   refine ae hE 2 [] [] (kp [0,5,8,9,10,11,53,54,55,77,78,86]) (kq [0,1,2,3,4,5,6,71]) 183 (pc o1 pn) ?_
   refine dm 0 86 h (fun CE h=>?_) (fun CE h=>?_)
   ·obtain ⟨c6,h⟩:=ab h
    obtain ⟨wg,jP,h⟩:=aQ h
    refine ae hE 0 [(5,oT (.agg (aj wg)))] [] (kp [0,5,8,9,10,11,53,54,55,77,78]) (kq [0,1,2,3,4,5,6,71]) 295 (pc o1 (pc c6 (pc (qH _ _ _ jP) (pc o1 pn)))) ?_
    exact cV hE 0 [] (kp [0,5,8,9,10,11,53,54,55,77,78]) (kq [0,1,2,3,4,5,6] ++ [(7,.ag 71)]) 8 pn (w7 N _ _ _ _ _ _ _ _ _ _ _ _ ih oM _ _ h E hE)
   ·exact cV hE 1 [] (kp [0,5,8,9,10,11,53,54,55,77,78]) (kq [0,1,2,3,4,5,6] ++ [(7,.ag 71)]) 8 pn (w7 N _ _ _ _ _ _ _ _ _ _ _ _ ih oM _ _ h E hE)
  ·obtain ⟨bQ,qz,h⟩:=aQ h
   obtain ⟨N4,h⟩:=ab h
   refine ae hE 2 [(3,oT (.agg (aj bQ)))] [] (kp [0,5,8] ++ [(9,.kQ ((row.set ((ah (2 * n)).toNat) bQ).length))] ++ kp [53,54,55]) (kq [0,1,2,3,4,5] ++ [(6,.arr 6 ((row.set ((ah (2 * n)).toNat) bQ).length) (fun zi=>aj ((row.set ((ah (2 * n)).toNat) bQ).getD zi aa.d)))]) 119 (pc (gX _ _ _ qz) (pc N4 (pc (dS N4) (pc (aA row ((ah (2 * n)).toNat) bQ) (pc (aA row ((ah (2 * n)).toNat) bQ) (pc (cL aj aa.d row ((ah (2 * n)).toNat) bQ) pn)))))) ?_
   obtain ⟨Jw,h⟩:=ab h
   refine ae hE 1 [] [] (kp [0,5,8,53,54,55]) ([(0,.var 0 [.ag,.ag,.ag,.ag,.kQ ((t3 ++ [(row.set ((ah (2 * n)).toNat) bQ)]).length),.ag,.ag,.ag,.ag,.ag,.ag,.ag])] ++ kq [1,2,4,5,6] ++ [(231,.qg 231 ((t3 ++ [(row.set ((ah (2 * n)).toNat) bQ)]).length) [(t3.length,6,(row.set ((ah (2 * n)).toNat) bQ).length)] (mG (t3 ++ [(row.set ((ah (2 * n)).toNat) bQ)])))]) 295 (pc o1 (pc (Eq.refl t3.length) (pc Jw (pc (show 0+1≤1 from (aG _)) (pc (show ∀ zi,zi < 1→AV.iP ((fun zi=>([[(.os 6 0 ((row.set ((ah (2 * n)).toNat) bQ).length))]]:List (List AV)).getD zi []) (bA 0 zi))=true from (qO rfl)) (pc o1 (pc (show (t3.length+1)=(t3 ++ [(row.set ((ah (2 * n)).toNat) bQ)]).length from (ax rfl rfl)) (pc (show t3.length+1=(t3 ++ [(row.set ((ah (2 * n)).toNat) bQ)]).length from (ax rfl rfl)) (pc (show ∀ zm,zm < (t3 ++ [(row.set ((ah (2 * n)).toNat) bQ)]).length→aW [(t3.length,6,(row.set ((ah (2 * n)).toNat) bQ).length)] (mG (t3 ++ [(row.set ((ah (2 * n)).toNat) bQ)])) zm=if zm < t3.length then (mG t3) zm else (fun zi=>([[(.os 6 0 ((row.set ((ah (2 * n)).toNat) bQ).length))]]:List (List AV)).getD zi []) (zm - t3.length) from (Sq (b:=fun zi=>([[(.os 6 0 ((row.set ((ah (2 * n)).toNat) bQ).length))]]:List (List AV)).getD zi []) t3 (row.set ((ah (2 * n)).toNat) bQ) rfl rfl)) (pc (iM (t3 ++ [(row.set ((ah (2 * n)).toNat) bQ)])) pn)))))))))) ?_
   refine P5 231 6 t3.length (pc (U3 t3 (row.set ((ah (2 * n)).toNat) bQ)) (pc (show aW [(t3.length,6,(row.set ((ah (2 * n)).toNat) bQ).length)] (mG (t3 ++ [(row.set ((ah (2 * n)).toNat) bQ)])) t3.length=[.os 6 0 (row.set ((ah (2 * n)).toNat) bQ).length] from if_pos rfl) (pc (show ∀ zj,zj < (row.set ((ah (2 * n)).toNat) bQ).length→nY (aj ((row.set ((ah (2 * n)).toNat) bQ).getD zj aa.d))=true from fun _ _=>rfl) pn))) ?_
   refine P4 hE [] (kp [0,5,8,53,54,55]) (kq [0,1,2,4,5] ++ [(231,.qg 231 ((t3 ++ [(row.set ((ah (2 * n)).toNat) bQ)]).length) [] (mG (t3 ++ [(row.set ((ah (2 * n)).toNat) bQ)])))]) 295 (pc (Eq.refl ((t3 ++ [(row.set ((ah (2 * n)).toNat) bQ)]).length)) (pc (P6 (sz:=4) (c:=aj) (d:=aa.d) (t3 ++ [(row.set ((ah (2 * n)).toNat) bQ)]) t3.length 6 ((row.set ((ah (2 * n)).toNat) bQ).length) (row.set ((ah (2 * n)).toNat) bQ) [] (qS t3 (row.set ((ah (2 * n)).toNat) bQ)) Fm) (pc (iM (t3 ++ [(row.set ((ah (2 * n)).toNat) bQ)])) pn))) ?_
   obtain ⟨eN,vj,h⟩:=aQ h
   obtain ⟨NZ,h⟩:=ab h
   refine ae hE 0 [(7,oT (.agg (aj eN)))] [] (kp [0,5,53,54,55]) ([(0,.var 0 [.ag,.ag,.ag,.ag,.ag,.kQ ((t4 ++ ([eN]:List aa)).length),.ag,.ag,.ag,.ag,.ag,.ag])] ++ kq [1,2,231] ++ [(439,.arr 439 ((t4 ++ ([eN]:List aa)).length) (fun zi=>aj ((t4 ++ ([eN]:List aa)).getD zi aa.d)))]) 503 (pc o1 (pc o1 (pc (qH _ _ _ vj) (pc (Eq.refl t4.length) (pc NZ (pc (z1 1) (pc (show ∀ zi,zi < 1→AV.iP ((fun zi=>([[(aB eN.fN.fG),(eU eN.fN.fL),(aB eN.fD.fG),(eU eN.fD.fL)]]:List (List AV)).getD zi []) (bA 0 zi))=true from (qO rfl)) (pc o1 (pc (show (t4.length+1)=(t4 ++ ([eN]:List aa)).length from (ax rfl rfl)) (pc (show t4.length+1=(t4 ++ ([eN]:List aa)).length from (ax rfl rfl)) (pc (show ∀ zi,zi < (t4 ++ ([eN]:List aa)).length→(fun zi=>aj ((t4 ++ ([eN]:List aa)).getD zi aa.d)) zi=((fun zm=>if zm < t4.length then (fun zi=>aj (t4.getD zi aa.d)) zm else (fun zi=>([[(aB eN.fN.fG),(eU eN.fN.fL),(aB eN.fD.fG),(eU eN.fD.fL)]]:List (List AV)).getD zi []) (zm - t4.length))) zi from (bP aj aa.d t4 ([eN]:List aa) rfl (fun _ _=>rfl) (fun zq iw=>cg aj aa.d ([eN]:List aa) zq iw))) pn))))))))))) ?_
   refine ae hE 1 [] [] (kp [0,5,53,54,55]) (kq [0,1,2,231,439]) 535 pn ?_
   exact cV hE 1 [] (kp [0,5,53,54,55]) (kq [0,1,2] ++ [(3,.ag 231),(4,.ag 439)]) 5 pn (oM _ _ _ _ _ h E hE)
def FL (N:Nat) (n:Int) (l:List af) (aw:aa) (t:List Int) (t2:List Int) (t3:List (List aa)) (t4:List aa) (K:(List aa)→Int→Option (lR)):Prop:=∀ (t5:List aa) (x4:Int) (r:lR),K t5 x4=some r→∀ E,bq E 0→aD Tryz.prog E 33 157 (bd E [(0,vN 12 [(aI r.xk),(aI r.xl),(.os 1 0 r.kz.length),(.os 2 0 r.nj.length),(.os 3 0 r.Jt.length),(.os 4 0 r.Ju.length),(.os 5 0 r.eW.length),(aB r.ak.fN.fG),(eU r.ak.fN.fL),(aB r.ak.fD.fG),(eU r.ak.fD.fL),(aI r.cu)]),(1,aO 1 cI 0 r.kz),(2,aO 1 cI 0 r.nj),(3,aM 4 aj aa.d r.Jt),(4,aO 4 aj aa.d r.Ju),(5,aO 4 aj aa.d r.eW)] (.op 0 0 0)) [.code (FI 2036),.inLoop (FI 2036),.inBlock 6,.code (FI 255)] ⟨[(5,(.op 0 0 0)),(144,(aI (((List.replicate ((ah ((ah (2 * n))+1)).toNat) aa.d:List aa).length:Nat):Int))),(145,(aI x4))],[(0,vN 12 [(aI n),(aI ((l.length:Nat):Int)),(.os 1 0 t2.length),(.os 2 0 ((t ++ ([(ah ((ah (2 * n))+((l.length:Nat):Int)))]:List Int)).length)),(.os 3 0 t3.length),(.os 4 0 t4.length),(.os 5 0 t5.length),(aB aw.fN.fG),(eU aw.fN.fL),(aB aw.fD.fG),(eU aw.fD.fL),(aI (ah ((ah (2 * n))+((l.length:Nat):Int))))]),(1,aO 1 cI 0 t2),(2,aO 1 cI 0 (t ++ ([(ah ((ah (2 * n))+((l.length:Nat):Int)))]:List Int))),(3,aM 4 aj aa.d t3),(4,aO 4 aj aa.d t4),(5,aO 4 aj aa.d t5)],6⟩
theorem DN (N n l aw t t2 t3 t4 fuel):FL N n l aw t t2 t3 t4 (kW N n l aw t t2 t3 t4 fuel):=by
 induction fuel with
 | zero=>intro _ _ r h;rw [kW.eq_1] at h;cases h
 | succ fuel ih =>
  intro t5 x4 r h E hE
  rw [kW.eq_2] at h
  refine ae hE 1 [] [] (kp [5,144,145,146]) (kq [0,1,2,3,4,5]) 22 pn ?_
  refine dm 1 146 h (fun IQ h=>?_) (fun IQ h=>?_)
  ·refine ae hE 4 [] [] (kp [5,12,144,145]) (kq [0,1,2,3,4,5]) 54 pn ?_
   obtain ⟨pQ,wv,h⟩:=aQ h
   obtain ⟨MP,h⟩:=ab h
   refine ae hE 0 [(5,oT (.agg (aj pQ)))] [] (kp [5,144,145]) ([(0,.var 0 [.ag,.ag,.ag,.ag,.ag,.ag,.kQ ((t5.set ((x4).toNat) pQ).length),.ag,.ag,.ag,.ag,.ag])] ++ kq [1,2,3,4] ++ [(5,.arr 5 ((t5.set ((x4).toNat) pQ).length) (fun zi=>aj ((t5.set ((x4).toNat) pQ).getD zi aa.d)))]) 182 (pc o1 (pc (gX _ _ _ wv) (pc MP (pc (dS MP) (pc (aA t5 ((x4).toNat) pQ) (pc (aA t5 ((x4).toNat) pQ) (pc (cL aj aa.d t5 ((x4).toNat) pQ) pn))))))) ?_
   refine ae hE 1 [] [] (kp [5,144,145]) (kq [0,1,2,3,4,5]) 214 pn ?_
   exact cV hE 1 [] (kp [5,144,145]) (kq [0,1,2,3,4,5]) 6 pn (ih _ _ _ h E hE)
  ·refine ae hE 2 [] [] (kp [4]) (kq [0,1,2,3,4,5]) 54 pn ?_
   obtain rfl:=cJ h
   exact cP hE 0 Tryz.f33 [] (kp [4]) (kq [0,1,2,3,4,5]) 54 pn [] pn
theorem DP (N n l aw t fuel):tf N n l aw t (jL N n l aw t fuel):=by
 induction fuel with
 | zero=>intro _ _ _ _ r h;rw [jL.eq_1] at h;cases h
 | succ fuel ih =>
  intro t2 t3 t4 x2 r h E hE
  rw [jL.eq_2] at h
  refine ae hE 1 [] [] (kp [0,5,53,54,55,56]) (kq [0,1,2,3,4]) 21 pn ?_
  refine dm 1 56 h (fun jh h=>?_) (fun jh h=>?_)
  ·obtain ⟨c3,h⟩:=ab h
   refine ae hE 4 [] [] (kp [0,5,7,8,53,54,55]) (kq [0,1,2,3,4,69]) 117 (pc c3 (pc o1 pn)) ?_
   obtain ⟨c4,h⟩:=ab h
   refine ae hE 1 [] [] (kp [0,5,8,53,54,55]) ([(0,.var 0 [.ag,.ag,.kQ ((t2 ++ ([(ah ((ah (2 * n))+x2))]:List Int)).length),.ag,.ag,.ag,.ag,.ag,.ag,.ag,.ag,.ag])] ++ kq [2,3,4,69] ++ [(277,.arr 277 ((t2 ++ ([(ah ((ah (2 * n))+x2))]:List Int)).length) (fun zi=>cI ((t2 ++ ([(ah ((ah (2 * n))+x2))]:List Int)).getD zi 0)))]) 341 (pc o1 (pc (Eq.refl t2.length) (pc c4 (pc (z1 1) (pc (show ∀ zi,zi < 1→AV.iP ((fun zi=>([[(aI (ah ((ah (2 * n))+x2)))]]:List (List AV)).getD zi []) (bA 0 zi))=true from (qO rfl)) (pc o1 (pc (show (t2.length+1)=(t2 ++ ([(ah ((ah (2 * n))+x2))]:List Int)).length from (ax rfl rfl)) (pc (show t2.length+1=(t2 ++ ([(ah ((ah (2 * n))+x2))]:List Int)).length from (ax rfl rfl)) (pc (show ∀ zi,zi < (t2 ++ ([(ah ((ah (2 * n))+x2))]:List Int)).length→(fun zi=>cI ((t2 ++ ([(ah ((ah (2 * n))+x2))]:List Int)).getD zi 0)) zi=((fun zm=>if zm < t2.length then (fun zi=>cI (t2.getD zi 0)) zm else (fun zi=>([[(aI (ah ((ah (2 * n))+x2)))]]:List (List AV)).getD zi []) (zm - t2.length))) zi from (bP cI 0 t2 ([(ah ((ah (2 * n))+x2))]:List Int) rfl (fun _ _=>rfl) (fun zq iw=>cg cI 0 ([(ah ((ah (2 * n))+x2))]:List Int) zq iw))) pn))))))))) ?_
   obtain ⟨c5,h⟩:=ab h
   refine ae hE 1 [] [] (kp [0,5,8] ++ [(9,.kQ ((List.replicate ((ah ((ah (2 * n))+1)).toNat) aa.d:List aa).length))] ++ kp [53,54,55]) (kq [0,2,3,4,69,277] ++ [(389,.PW 389 ((List.replicate ((ah ((ah (2 * n))+1)).toNat) aa.d:List aa).length) (fun zi=>aj ((List.replicate ((ah ((ah (2 * n))+1)).toNat) aa.d:List aa).getD zi aa.d)))]) 421 (pc (show 0≤(ah ((ah (2 * n))+1)) from c5.1) (pc (show (ah ((ah (2 * n))+1))≤(ah ((ah (2 * n))+1)) from (Int.le_refl _)) (pc (show (64:Int) * (ah ((ah (2 * n))+1))≤281474976710656 from c5.2.1) (pc (show (ah ((ah (2 * n))+1))≤9223372036854775807 from c5.2.2) (pc (show (ah ((ah (2 * n))+1)).toNat=(List.replicate ((ah ((ah (2 * n))+1)).toNat) aa.d:List aa).length from (di).symm) (pc (show (List.replicate ((ah ((ah (2 * n))+1)).toNat) aa.d:List aa).length≤(ah ((ah (2 * n))+1)).toNat from (Nat.le_of_eq (Eq.symm ((di).symm)))) (pc (show ∀ zi,zi < (List.replicate ((ah ((ah (2 * n))+1)).toNat) aa.d:List aa).length→Js ((fun _=>[(aB false),.nil,(aB false),.nil]) zi) ((fun zi=>aj ((List.replicate ((ah ((ah (2 * n))+1)).toNat) aa.d:List aa).getD zi aa.d)) zi) from (fun zq iw=>oV aj aa.d aa.d ((ah ((ah (2 * n))+1)).toNat) zq ⟨.inl rfl,.inr ⟨rfl,_,rfl⟩,.inl rfl,.inr ⟨rfl,_,rfl⟩,trivial⟩ iw)) pn))))))) ?_
   refine ae hE 2 [] [] (kp [0,5,8,9,53,54,55,77,78]) (kq [0,2,3,4,69,277,389]) 453 pn ?_
   exact cV hE 2 [] (kp [0,5,8,9,53,54,55,77,78]) (kq [0] ++ [(1,.ag 277)] ++ kq [2,3,4] ++ [(5,.ag 69),(6,.ag 389)]) 7 pn (DM N _ _ _ _ _ _ _ _ _ ih N _ _ _ h E hE)
  ·obtain ⟨Kh,h⟩:=ab h
   refine ae hE 2 [] [] (kp [5]) ([(0,.var 0 [.ag,.ag,.ag,.ag,.ag,.ag,.kQ ((List.replicate ((ah ((ah (2 * n))+1)).toNat) aa.d:List aa).length),.ag,.ag,.ag,.ag,.ag])] ++ kq [1,2,3,4] ++ [(85,.PW 85 ((List.replicate ((ah ((ah (2 * n))+1)).toNat) aa.d:List aa).length) (fun zi=>aj ((List.replicate ((ah ((ah (2 * n))+1)).toNat) aa.d:List aa).getD zi aa.d)))]) 149 (pc (show 0≤(ah ((ah (2 * n))+1)) from Kh.1) (pc (show (ah ((ah (2 * n))+1))≤(ah ((ah (2 * n))+1)) from (Int.le_refl _)) (pc (show (64:Int) * (ah ((ah (2 * n))+1))≤281474976710656 from Kh.2.1) (pc (show (ah ((ah (2 * n))+1))≤9223372036854775807 from Kh.2.2) (pc o1 (pc (show (ah ((ah (2 * n))+1)).toNat=(List.replicate ((ah ((ah (2 * n))+1)).toNat) aa.d:List aa).length from (di).symm) (pc (show (List.replicate ((ah ((ah (2 * n))+1)).toNat) aa.d:List aa).length≤(ah ((ah (2 * n))+1)).toNat from (Nat.le_of_eq (Eq.symm ((di).symm)))) (pc (show ∀ zi,zi < (List.replicate ((ah ((ah (2 * n))+1)).toNat) aa.d:List aa).length→Js ((fun _=>[(aB false),.nil,(aB false),.nil]) zi) ((fun zi=>aj ((List.replicate ((ah ((ah (2 * n))+1)).toNat) aa.d:List aa).getD zi aa.d)) zi) from (fun zq iw=>oV aj aa.d aa.d ((ah ((ah (2 * n))+1)).toNat) zq ⟨.inl rfl,.inr ⟨rfl,_,rfl⟩,.inl rfl,.inr ⟨rfl,_,rfl⟩,trivial⟩ iw)) pn)))))))) ?_
   refine ae hE 2 [] [] (kp [5,144,145]) (kq [0,1,2,3,4,85]) 245 (pc o1 pn) ?_
   exact cV hE 2 [] (kp [5,144,145]) (kq [0,1,2,3,4] ++ [(5,.ag 85)]) 6 pn (DN N _ _ _ _ _ _ _ N _ _ _ h E hE)
theorem DQ (N n l aw fuel):FJ N n l aw (kX N n l aw fuel):=by
 induction fuel with
 | zero=>intro _ _ r h;rw [kX.eq_1] at h;cases h
 | succ fuel ih =>
  intro t x r h E hE
  rw [kX.eq_2] at h
  refine ae hE 1 [] [] (kp [0,1,5,25,26,27]) (kq [0,1]) 18 pn ?_
  refine dm 1 27 h (fun dW h=>?_) (fun dW h=>?_)
  ·refine ae hE 4 [] [] (kp [0,1,5,6,25,26]) (kq [0,1]) 50 pn ?_
   obtain ⟨c,h⟩:=ab h
   refine ae hE 0 [] [] (kp [0,1,5,25,26]) [(0,.var 0 [.ag,.ag,.ag,.kQ ((t ++ ([x]:List Int)).length),.ag,.ag,.ag,.ag,.ag,.ag,.ag,.ag]),(162,.arr 162 ((t ++ ([x]:List Int)).length) (fun zi=>cI ((t ++ ([x]:List Int)).getD zi 0)))] 226 (pc o1 (pc (Eq.refl t.length) (pc c (pc (z1 1) (pc (show ∀ zi,zi < 1→AV.iP ((fun zi=>([[(aI x)]]:List (List AV)).getD zi []) (bA 0 zi))=true from (qO rfl)) (pc o1 (pc (show (t.length+1)=(t ++ ([x]:List Int)).length from (ax rfl rfl)) (pc (show t.length+1=(t ++ ([x]:List Int)).length from (ax rfl rfl)) (pc (show ∀ zi,zi < (t ++ ([x]:List Int)).length→(fun zi=>cI ((t ++ ([x]:List Int)).getD zi 0)) zi=((fun zm=>if zm < t.length then (fun zi=>cI (t.getD zi 0)) zm else (fun zi=>([[(aI x)]]:List (List AV)).getD zi []) (zm - t.length))) zi from (bP cI 0 t ([x]:List Int) rfl (fun _ _=>rfl) (fun zq iw=>cg cI 0 ([x]:List Int) zq iw))) pn))))))))) ?_
   refine ae hE 1 [] [] (kp [0,1,5,25,26]) (kq [0,162]) 258 pn ?_
   exact cV hE 1 [] (kp [0,1,5,25,26]) (kq [0] ++ [(1,.ag 162)]) 2 pn (ih _ _ _ h E hE)
  ·obtain ⟨c2,h⟩:=ab h
   refine ae hE 2 [] [] (kp [0,1,5]) [(0,.var 0 [.ag,.ag,.ag,.kQ ((t ++ ([(ah ((ah (2 * n))+((l.length:Nat):Int)))]:List Int)).length),.ag,.ag,.ag,.ag,.ag,.ag,.ag,.ag]),(178,.arr 178 ((t ++ ([(ah ((ah (2 * n))+((l.length:Nat):Int)))]:List Int)).length) (fun zi=>cI ((t ++ ([(ah ((ah (2 * n))+((l.length:Nat):Int)))]:List Int)).getD zi 0)))] 242 (pc o1 (pc o1 (pc (Eq.refl t.length) (pc c2 (pc (z1 1) (pc (show ∀ zi,zi < 1→AV.iP ((fun zi=>([[(aI (ah ((ah (2 * n))+((l.length:Nat):Int))))]]:List (List AV)).getD zi []) (bA 0 zi))=true from (qO rfl)) (pc o1 (pc (show (t.length+1)=(t ++ ([(ah ((ah (2 * n))+((l.length:Nat):Int)))]:List Int)).length from (ax rfl rfl)) (pc (show t.length+1=(t ++ ([(ah ((ah (2 * n))+((l.length:Nat):Int)))]:List Int)).length from (ax rfl rfl)) (pc (show ∀ zi,zi < (t ++ ([(ah ((ah (2 * n))+((l.length:Nat):Int)))]:List Int)).length→(fun zi=>cI ((t ++ ([(ah ((ah (2 * n))+((l.length:Nat):Int)))]:List Int)).getD zi 0)) zi=((fun zm=>if zm < t.length then (fun zi=>cI (t.getD zi 0)) zm else (fun zi=>([[(aI (ah ((ah (2 * n))+((l.length:Nat):Int))))]]:List (List AV)).getD zi []) (zm - t.length))) zi from (bP cI 0 t ([(ah ((ah (2 * n))+((l.length:Nat):Int)))]:List Int) rfl (fun _ _=>rfl) (fun zq iw=>cg cI 0 ([(ah ((ah (2 * n))+((l.length:Nat):Int)))]:List Int) zq iw))) pn)))))))))) ?_
   refine ae hE 2 [] [] (kp [0,5,53,54,55]) (kq [0,178]) 290 pn ?_
   exact cV hE 2 [] (kp [0,5,53,54,55]) [(0,.var 0 [.ag,.ag,.o8 1,.ag,.o8 3,.o8 4,.ag,.ag,.ag,.ag,.ag,.ag]),(1,.nil 1 (fun zi=>cI (([]:List Int).getD zi 0))),(2,.ag 178),(3,.TY (mG ([]:List (List aa)))),(4,.nil 4 (fun zi=>aj (([]:List aa).getD zi aa.d)))] 5 pn (DP N _ _ _ _ N _ _ _ _ _ h E hE)
theorem IT (N n l r) (h:yY N n l=some r):Sd 33 [(aI n),(aH wX af.d l)] [] 0 (.op 0 0 0) [(0,vN 12 [(aI r.xk),(aI r.xl),(.os 1 0 r.kz.length),(.os 2 0 r.nj.length),(.os 3 0 r.Jt.length),(.os 4 0 r.Ju.length),(.os 5 0 r.eW.length),(aB r.ak.fN.fG),(eU r.ak.fN.fL),(aB r.ak.fD.fG),(eU r.ak.fD.fL),(aI r.cu)]),(1,aO 1 cI 0 r.kz),(2,aO 1 cI 0 r.nj),(3,aM 4 aj aa.d r.Jt),(4,aO 4 aj aa.d r.Ju),(5,aO 4 aj aa.d r.eW)]:=by
 unfold yY at h
 refine gU (fu:=Tryz.f33) (c:=FI 1) (nt:=157) (fun hm=>rfl) ?_
 intro E hE
 refine ae hE 1 [] [] (kp [0,1]) [] 16 pn ?_
 obtain ⟨aw,hr,h⟩:=aQ h
 refine ae hE 1 [(8,oT (.agg (aj aw)))] [] (kp [0,1,5]) (kq [176]) 208 (pc (gX _ _ _ hr) pn) ?_
 refine ae hE 2 [] [] (kp [0,1,5,25,26]) (kq [176]) 256 pn ?_
 exact cV hE 2 [] (kp [0,1,5,25,26]) [(0,.var 176 [.ag,.ag,.ag,.o8 1,.ag,.ag,.ag,.ag,.ag,.ag,.ag,.ag]),(1,.nil 1 (fun zi=>cI (([]:List Int).getD zi 0)))] 2 pn (DQ N _ _ _ N _ _ _ h E hE)
noncomputable abbrev Zu:=bV Tryz.f71
theorem qI (N x r) (h:nu N x=some r):Sd 71 [(.agg (aj x))] [] 0 (aI r) []:=by
 unfold nu at h
 refine gU (fu:=Tryz.f71) (c:=Zu 1) (nt:=10) (fun hm=>rfl) ?_
 intro E hE
 refine ae hE 1 [] [] (kp [1]) (kq [0]) 32 pn ?_
 obtain ⟨u5,hr,h⟩:=aQ h
 obtain ⟨jK,eJ,h⟩:=aQ h
 obtain ⟨Lz,jP,h⟩:=aQ h
 refine ae hE 1 [(2,oT (aI u5)),(4,oT (.agg (lk jK))),(5,oT (aI Lz))] [] (kp [2]) [] 160 (pc o1 (pc (tS _ _ _ hr) (pc o1 (pc (jQ _ _ _ eJ) (pc (tS _ _ _ jP) pn))))) ?_
 obtain rfl:=cJ h
 exact cP hE 0 Tryz.f71 [] (kp [2]) [] 160 pn [] pn
noncomputable abbrev Zv:=bV Tryz.f74
theorem ji (N x r) (h:g8 N x=some r):Sd 74 [(.agg (aj x))] [] 0 (aB r) []:=by
 unfold g8 at h
 refine gU (fu:=Tryz.f74) (c:=Zv 1) (nt:=7) (fun hm=>rfl) ?_
 intro E hE
 refine ae hE 1 [] [] (kp [1]) (kq [0]) 32 pn ?_
 obtain ⟨u5,hr,h⟩:=aQ h
 refine ae hE 1 [(2,oT (aI u5))] [] (kp [2]) [] 112 (pc o1 (pc (tS _ _ _ hr) pn)) ?_
 obtain rfl:=cJ h
 exact cP hE 0 Tryz.f74 [] (kp [2]) [] 112 pn [] pn
noncomputable abbrev GV:=bV Tryz.f128
def yg (N:Nat) (a:List Int) (b:List Int) (K:(List Int)→Int→Option ((List Int))):Prop:=∀ (out:List Int) (x:Int) (r:(List Int)),K out x=some r→∀ E,bq E 0→aD Tryz.prog E 128 67 (bd E [] (eU r)) [.code (GV 116),.inLoop (GV 116),.inBlock 0,.code (GV 15)] ⟨[(1,(eU b)),(5,(.os 0 0 out.length)),(17,(eU a)),(18,(aI ((a.length:Nat):Int))),(19,(aI x))],[(0,aU out)],1⟩
def FM (N:Nat) (a:List Int) (b:List Int) (x:Int) (K:(List Int)→Int→Int→Option ((List Int))):Prop:=∀ (gu:List Int) (carry:Int) (x2:Int) (r:(List Int)),K gu carry x2=some r→∀ E,bq E 0→aD Tryz.prog E 128 67 (bd E [] (eU r)) [.code (GV 119604),.inLoop (GV 119604),.inBlock 2,.code (GV 14951),.inBlock 1,.code (GV 935),.inLoop (GV 116),.inBlock 0,.code (GV 15)] ⟨[(1,(eU b)),(5,(.os 0 0 gu.length)),(6,(aI x)),(7,(xn (a.getD ((x).toNat) 0))),(8,(Sw carry)),(17,(eU a)),(18,(aI ((a.length:Nat):Int))),(19,(aI x)),(24,(eU b)),(25,(aI ((b.length:Nat):Int))),(26,(aI x2))],[(0,aU gu)],1⟩
theorem DR (N:Nat) (a:List Int) (b:List Int) (x:Int) (nv:(List Int)→Int→Option ((List Int))) (DS:yg N a b nv) (fuel:Nat):FM N a b x (kY N a b x nv fuel):=by
 induction fuel with
 | zero=>intro _ _ _ r h;rw [kY.eq_1] at h;cases h
 | succ fuel ih =>
  intro gu carry x2 r h E hE
  rw [kY.eq_2] at h
  refine ae hE 1 [] [] (kp [1,5,6,7,8,17,18,19,24,25,26,27]) (kq [0]) 17 pn ?_
  refine dm 1 27 h (fun jh h=>?_) (fun jh h=>?_)
  ·obtain ⟨c3,h⟩:=ab h
   refine ae hE 4 [] [] (kp [1,5,6,7,8,9,10,17,18,19,24,25,26]) (kq [0]) 97 (pc c3 pn) ?_
   obtain ⟨c4,h⟩:=ab h
   refine ae hE 1 [] [] (kp [1,5,6,7,8,9,17,18,19,24,25,26]) (kq [0]) 353 (pc c4 (pc (dS c4) pn)) ?_
   refine ae hE 1 [] [] (kp [1] ++ [(5,.kQ ((gu.set ((ah (x+x2)).toNat) (IntKind.u16.wrap ((IntKind.u32.wrap (carry+(IntKind.u32.wrap ((IntKind.u32.wrap ((IntKind.u32.wrap ((a.getD ((x).toNat) 0))) * (IntKind.u32.wrap ((b.getD ((x2).toNat) 0)))))+(IntKind.u32.wrap ((gu.getD ((ah (x+x2)).toNat) 0)))))))))).length))] ++ kp [6,7,8,17,18,19,24,25,26]) [(0,.arr 0 ((gu.set ((ah (x+x2)).toNat) (IntKind.u16.wrap ((IntKind.u32.wrap (carry+(IntKind.u32.wrap ((IntKind.u32.wrap ((IntKind.u32.wrap ((a.getD ((x).toNat) 0))) * (IntKind.u32.wrap ((b.getD ((x2).toNat) 0)))))+(IntKind.u32.wrap ((gu.getD ((ah (x+x2)).toNat) 0)))))))))).length) (fun zi=>(cU .u16) ((gu.set ((ah (x+x2)).toNat) (IntKind.u16.wrap ((IntKind.u32.wrap (carry+(IntKind.u32.wrap ((IntKind.u32.wrap ((IntKind.u32.wrap ((a.getD ((x).toNat) 0))) * (IntKind.u32.wrap ((b.getD ((x2).toNat) 0)))))+(IntKind.u32.wrap ((gu.getD ((ah (x+x2)).toNat) 0)))))))))).getD zi 0)))] 481 (pc c4 (pc (dS c4) (pc (aA gu ((ah (x+x2)).toNat) (IntKind.u16.wrap ((IntKind.u32.wrap (carry+(IntKind.u32.wrap ((IntKind.u32.wrap ((IntKind.u32.wrap ((a.getD ((x).toNat) 0))) * (IntKind.u32.wrap ((b.getD ((x2).toNat) 0)))))+(IntKind.u32.wrap ((gu.getD ((ah (x+x2)).toNat) 0)))))))))) (pc (aA gu ((ah (x+x2)).toNat) (IntKind.u16.wrap ((IntKind.u32.wrap (carry+(IntKind.u32.wrap ((IntKind.u32.wrap ((IntKind.u32.wrap ((a.getD ((x).toNat) 0))) * (IntKind.u32.wrap ((b.getD ((x2).toNat) 0)))))+(IntKind.u32.wrap ((gu.getD ((ah (x+x2)).toNat) 0)))))))))) (pc (cL (cU .u16) 0 gu ((ah (x+x2)).toNat) (IntKind.u16.wrap ((IntKind.u32.wrap (carry+(IntKind.u32.wrap ((IntKind.u32.wrap ((IntKind.u32.wrap ((a.getD ((x).toNat) 0))) * (IntKind.u32.wrap ((b.getD ((x2).toNat) 0)))))+(IntKind.u32.wrap ((gu.getD ((ah (x+x2)).toNat) 0)))))))))) pn))))) ?_
   refine ae hE 0 [] [] (kp [1,5,6,7,8,17,18,19,24,25,26]) (kq [0]) 529 (pc (show (0:Int)≤16 by decide) pn) ?_
   refine ae hE 1 [] [] (kp [1,5,6,7,8,17,18,19,24,25,26]) (kq [0]) 561 pn ?_
   exact cV hE 1 [] (kp [1,5,6,7,8,17,18,19,24,25,26]) (kq [0]) 1 pn (ih _ _ _ _ h E hE)
  ·obtain ⟨c5,h⟩:=ab h
   refine ae hE 1 [] [] (kp [1] ++ [(5,.kQ ((gu.set ((ah (x+((b.length:Nat):Int))).toNat) (IntKind.u16.wrap (carry))).length))] ++ kp [17,18,19]) [(0,.arr 0 ((gu.set ((ah (x+((b.length:Nat):Int))).toNat) (IntKind.u16.wrap (carry))).length) (fun zi=>(cU .u16) ((gu.set ((ah (x+((b.length:Nat):Int))).toNat) (IntKind.u16.wrap (carry))).getD zi 0)))] 161 (pc c5 (pc (dS c5) (pc (aA gu ((ah (x+((b.length:Nat):Int))).toNat) (IntKind.u16.wrap (carry))) (pc (aA gu ((ah (x+((b.length:Nat):Int))).toNat) (IntKind.u16.wrap (carry))) (pc (cL (cU .u16) 0 gu ((ah (x+((b.length:Nat):Int))).toNat) (IntKind.u16.wrap (carry))) pn))))) ?_
   refine ae hE 1 [] [] (kp [1,5,17,18,19]) (kq [0]) 193 pn ?_
   exact cV hE 1 [] (kp [1,5,17,18,19]) (kq [0]) 1 pn (DS _ _ _ h E hE)
theorem DT (N a b fuel):yg N a b (kZ N a b fuel):=by
 induction fuel with
 | zero=>intro _ _ r h;rw [kZ.eq_1] at h;cases h
 | succ fuel ih =>
  intro out x r h E hE
  rw [kZ.eq_2] at h
  refine ae hE 1 [] [] (kp [1,5,17,18,19,20]) (kq [0]) 17 pn ?_
  refine dm 1 20 h (fun dW h=>?_) (fun dW h=>?_)
  ·obtain ⟨c2,h⟩:=ab h
   refine ae hE 4 [] [] (kp [1,5,6,7,17,18,19]) (kq [0]) 97 (pc c2 pn) ?_
   refine ae hE 1 [] [] (kp [1,5,6,7,8,17,18,19]) (kq [0]) 113 pn ?_
   refine ae hE 2 [] [] (kp [1,5,6,7,8,17,18,19,24,25,26]) (kq [0]) 161 pn ?_
   exact cV hE 2 [] (kp [1,5,6,7,8,17,18,19,24,25,26]) (kq [0]) 1 pn (DR N _ _ _ _ ih N _ _ _ _ h E hE)
  ·obtain ⟨b7,hr,h⟩:=aQ h
   refine ae hE 2 [(1,⟨[],true,(eU b7),[],0,true,none⟩)] [] (kp [4]) [] 65 (pc (fc _ _ _ hr) (pc (z1 out.length) pn)) ?_
   obtain rfl:=cJ h
   exact cP hE 0 Tryz.f128 [] (kp [4]) [] 65 pn [] pn
theorem IU (N a b r) (h:sE N a b=some r):Sd 128 [(eU a),(eU b)] [] 0 (eU r) []:=by
 unfold sE at h
 refine gU (fu:=Tryz.f128) (c:=GV 1) (nt:=67) (fun hm=>rfl) ?_
 intro E hE
 refine ae hE 1 [] [] (kp [0,1]) [] 16 pn ?_
 obtain ⟨c,h⟩:=ab h
 refine ae hE 1 [] [] (kp [0,1] ++ [(5,.kQ ((List.replicate ((ah (((a.length:Nat):Int)+((b.length:Nat):Int))).toNat) 0:List Int).length))]) [(96,.arr 96 ((List.replicate ((ah (((a.length:Nat):Int)+((b.length:Nat):Int))).toNat) 0:List Int).length) (fun zi=>(cU .u16) ((List.replicate ((ah (((a.length:Nat):Int)+((b.length:Nat):Int))).toNat) 0:List Int).getD zi 0)))] 128 (pc (show 0≤(ah (((a.length:Nat):Int)+((b.length:Nat):Int))) from c.1) (pc (show (ah (((a.length:Nat):Int)+((b.length:Nat):Int)))≤(ah (((a.length:Nat):Int)+((b.length:Nat):Int))) from (Int.le_refl _)) (pc (show (2:Int) * (ah (((a.length:Nat):Int)+((b.length:Nat):Int)))≤281474976710656 from c.2.1) (pc (show (ah (((a.length:Nat):Int)+((b.length:Nat):Int)))≤9223372036854775807 from c.2.2) (pc (show (ah (((a.length:Nat):Int)+((b.length:Nat):Int))).toNat=(List.replicate ((ah (((a.length:Nat):Int)+((b.length:Nat):Int))).toNat) 0:List Int).length from (di).symm) (pc (show (ah (((a.length:Nat):Int)+((b.length:Nat):Int))).toNat=(List.replicate ((ah (((a.length:Nat):Int)+((b.length:Nat):Int))).toNat) 0:List Int).length from (di).symm) (pc (show ∀ zi,zi < (List.replicate ((ah (((a.length:Nat):Int)+((b.length:Nat):Int))).toNat) 0:List Int).length→(fun zi=>(cU .u16) ((List.replicate ((ah (((a.length:Nat):Int)+((b.length:Nat):Int))).toNat) 0:List Int).getD zi 0)) zi=(fun _=>[(xn 0)]) zi from (fun zq iw=>r8 (cU .u16) 0 0 ((ah (((a.length:Nat):Int)+((b.length:Nat):Int))).toNat) zq iw)) pn))))))) ?_
 refine ae hE 2 [] [] (kp [1,5,17,18,19]) (kq [96]) 176 pn ?_
 exact cV hE 2 [] (kp [1,5,17,18,19]) [(0,.ag 96)] 1 pn (DT N _ _ N _ _ _ h E hE)
noncomputable abbrev Zw:=bV Tryz.f100
theorem oX (N a b r) (h:pR N a b=some r):Sd 100 [(.agg (lk a)),(.agg (lk b))] [] 0 (.agg (lk r)) []:=by
 unfold pR at h
 refine gU (fu:=Tryz.f100) (c:=Zw 1) (nt:=18) (fun hm=>rfl) ?_
 intro E hE
 refine ae hE 1 [] [] (kp [2,3,4]) (kq [0,16,32]) 48 pn ?_
 obtain ⟨b7,hr,h⟩:=aQ h
 obtain ⟨jJ,eJ,h⟩:=aQ h
 obtain ⟨ru,jP,h⟩:=aQ h
 obtain ⟨Lw,mz,h⟩:=aQ h
 refine ae hE 1 [(7,oT (eU b7)),(10,oT (eU jJ)),(11,oT (eU ru)),(12,oT (.agg (lk Lw)))] [] (kp [4]) (kq [32]) 272 (pc o1 (pc o1 (pc o1 (pc (fc _ _ _ hr) (pc o1 (pc (fc _ _ _ eJ) (pc (IU _ _ _ _ jP) (pc (j5 _ _ _ _ mz) (pc o1 pn))))))))) ?_
 obtain rfl:=cJ h
 exact cP hE 0 Tryz.f100 [] (kp [4]) [(16,.ag 32)] 272 pn [16] (pc o1 pn)
noncomputable abbrev FN:=bV Tryz.f125
def GW (N:Nat) (K:(List Int)→(List Int)→Option ((List Int))):Prop:=∀ (a2:List Int) (b2:List Int) (r:(List Int)),K a2 b2=some r→∀ E,bq E 0→aD Tryz.prog E 125 56 (bd E [] (eU r)) [.code (FN 14),.code (FN 15)] ⟨[(0,(eU a2)),(1,(eU b2))],[],0⟩
def zT (N:Nat) (a2:List Int) (b2:List Int) (K:(List Int)→Int→Int→Option ((List Int))):Prop:=∀ (out:List Int) (carry:Int) (x:Int) (r:(List Int)),K out carry x=some r→∀ E,bq E 0→aD Tryz.prog E 125 56 (bd E [] (eU r)) [.code (FN 500),.inLoop (FN 500),.inBlock 0,.code (FN 63)] ⟨[(1,(eU b2)),(5,(.os 0 0 out.length)),(6,(Sw carry)),(20,(eU a2)),(21,(aI ((a2.length:Nat):Int))),(22,(aI x))],[(0,aU out)],1⟩
def GX (N:Nat) (a2:List Int) (b2:List Int) (out:List Int) (x:Int) (K:Int→Option ((List Int))):Prop:=∀ (fH:Int) (r:(List Int)),K fH=some r→∀ E,bq E 0→aD Tryz.prog E 125 56 (bd E [] (eU r)) [.code (FN 128206),.code (FN 128207),.inBlock 1,.code (FN 4007),.inLoop (FN 500),.inBlock 0,.code (FN 63)] ⟨[(1,(eU b2)),(5,(.os 0 0 out.length)),(6,(Sw fH)),(20,(eU a2)),(21,(aI ((a2.length:Nat):Int))),(22,(aI x))],[(0,aU out)],1⟩
theorem yh (N:Nat) (a2:List Int) (b2:List Int) (out:List Int) (x:Int) (qE:(List Int)→Int→Int→Option ((List Int))) (FO:zT N a2 b2 qE):GX N a2 b2 out x (pe N a2 b2 out x qE):=by
 intro fH r h E hE
 unfold pe at h
 obtain ⟨c4,h⟩:=ab h
 refine ae hE 0 [] [] (kp [1] ++ [(5,.kQ ((out ++ ([(IntKind.u16.wrap (fH))]:List Int)).length))] ++ kp [6,20,21,22]) [(65,.arr 65 ((out ++ ([(IntKind.u16.wrap (fH))]:List Int)).length) (fun zi=>(cU .u16) ((out ++ ([(IntKind.u16.wrap (fH))]:List Int)).getD zi 0)))] 97 (pc (Eq.refl out.length) (pc c4 (pc (z1 1) (pc (show ∀ zi,zi < 1→AV.iP ((fun zi=>([[(xn (IntKind.u16.wrap (fH)))]]:List (List AV)).getD zi []) (bA 0 zi))=true from (qO rfl)) (pc (show (out.length+1)=(out ++ ([(IntKind.u16.wrap (fH))]:List Int)).length from (ax rfl rfl)) (pc (show out.length+1=(out ++ ([(IntKind.u16.wrap (fH))]:List Int)).length from (ax rfl rfl)) (pc (show ∀ zi,zi < (out ++ ([(IntKind.u16.wrap (fH))]:List Int)).length→(fun zi=>(cU .u16) ((out ++ ([(IntKind.u16.wrap (fH))]:List Int)).getD zi 0)) zi=((fun zm=>if zm < out.length then (fun zi=>(cU .u16) (out.getD zi 0)) zm else (fun zi=>([[(xn (IntKind.u16.wrap (fH)))]]:List (List AV)).getD zi []) (zm - out.length))) zi from (bP (cU .u16) 0 out ([(IntKind.u16.wrap (fH))]:List Int) rfl (fun _ _=>rfl) (fun zq iw=>cg (cU .u16) 0 ([(IntKind.u16.wrap (fH))]:List Int) zq iw))) pn))))))) ?_
 refine ae hE 0 [] [] (kp [1,5,6,20,21,22]) (kq [65]) 145 (pc (show (0:Int)≤16 by decide) pn) ?_
 refine ae hE 1 [] [] (kp [1,5,6,20,21,22]) (kq [65]) 177 pn ?_
 exact cV hE 1 [] (kp [1,5,6,20,21,22]) [(0,.ag 65)] 1 pn (FO _ _ _ _ h E hE)
theorem FP (N a2 b2 fuel):zT N a2 b2 (jV N a2 b2 fuel):=by
 induction fuel with
 | zero=>intro _ _ _ r h;rw [jV.eq_1] at h;cases h
 | succ fuel ih =>
  intro out carry x r h E hE
  rw [jV.eq_2] at h
  refine ae hE 1 [] [] (kp [1,5,6,20,21,22,23]) (kq [0]) 17 pn ?_
  refine dm 1 23 h (fun jh h=>?_) (fun jh h=>?_)
  ·obtain ⟨c2,h⟩:=ab h
   refine ae hE 4 [] [] (kp [1,5,6,7,8,20,21,22]) (kq [0]) 97 (pc c2 pn) ?_
   refine ae hE 1 [] [] (kp [1,5,6,7,20,21,22]) (kq [0]) 177 pn ?_
   refine ae hE 2 [] [] (kp [1,5,6,7,20,21,22,34]) (kq [0]) 241 pn ?_
   refine dm 0 34 h (fun ta h=>?_) (fun ta h=>?_)
   ·obtain ⟨c3,h⟩:=ab h
    refine ae hE 0 [] [] (kp [1,5,6,20,21,22]) (kq [0]) 369 (pc c3 pn) ?_
    exact cV hE 1 [] (kp [1,5,6,20,21,22]) (kq [0]) 1 pn (yh N _ _ _ _ _ ih _ _ h E hE)
   ·exact cV hE 2 [] (kp [1,5,6,20,21,22]) (kq [0]) 1 pn (yh N _ _ _ _ _ ih _ _ h E hE)
  ·obtain ⟨c5,h⟩:=ab h
   obtain ⟨b7,hr,h⟩:=aQ h
   refine ae hE 2 [(5,⟨[],true,(eU b7),[],0,true,none⟩)] [] (kp [4]) [] 129 (pc (Eq.refl out.length) (pc c5 (pc (z1 1) (pc (show ∀ zi,zi < 1→AV.iP ((fun zi=>([[(xn (IntKind.u16.wrap (carry)))]]:List (List AV)).getD zi []) (bA 0 zi))=true from (qO rfl)) (pc (show Sd 122 [(.sl (out.length+1) (fun zi=>((fun zm=>if zm < out.length then (fun zi=>(cU .u16) (out.getD zi 0)) zm else (fun zi=>([[(xn (IntKind.u16.wrap (carry)))]]:List (List AV)).getD zi []) (zm - out.length))) (bA 0 zi)))] [] 0 (eU b7) [] from (Sound.conv (fc _ _ _ hr) (.cons (Alike.sl (ax rfl rfl) (bP (cU .u16) 0 out ([(IntKind.u16.wrap (carry))]:List Int) rfl (fun _ _=>rfl) (fun zq iw=>cg (cU .u16) 0 ([(IntKind.u16.wrap (carry))]:List Int) zq iw))) .nil))) (pc (z1 (out.length+1)) pn)))))) ?_
   obtain rfl:=cJ h
   exact cP hE 0 Tryz.f125 [] (kp [4]) [] 129 pn [] pn
theorem yi (N):GW N (pf N):=by
 intro a2 b2 r h E hE
 unfold pf at h
 obtain ⟨c,h⟩:=ab h
 refine ae hE 0 [] [] (kp [0,1] ++ [(5,.kQ ((List.replicate 0 0:List Int).length))]) [(48,.arr 48 ((List.replicate 0 0:List Int).length) (fun zi=>(cU .u16) ((List.replicate 0 0:List Int).getD zi 0)))] 80 (pc (show 0≤(0:Int) from c.1) (pc (show (0:Int)≤(ah (((a2.length:Nat):Int)+1)) from c.2.2.2) (pc (show (2:Int) * (ah (((a2.length:Nat):Int)+1))≤281474976710656 from c.2.1) (pc (show (ah (((a2.length:Nat):Int)+1))≤9223372036854775807 from c.2.2.1) (pc (show 0=(List.replicate 0 0:List Int).length from (di).symm) (pc (show 0=(List.replicate 0 0:List Int).length from (di).symm) (pc (show ∀ zi,zi < (List.replicate 0 0:List Int).length→(fun zi=>(cU .u16) ((List.replicate 0 0:List Int).getD zi 0)) zi=(fun _=>[(xn 0)]) zi from (fun zq iw=>r8 (cU .u16) 0 0 0 zq iw)) pn))))))) ?_
 refine ae hE 1 [] [] (kp [0,1,5,6]) (kq [48]) 96 pn ?_
 refine ae hE 2 [] [] (kp [1,5,6,20,21,22]) (kq [48]) 144 pn ?_
 exact cV hE 2 [] (kp [1,5,6,20,21,22]) [(0,.ag 48)] 1 pn (FP N _ _ N _ _ _ _ h E hE)
theorem Ki (N a b r) (h:u6 N a b=some r):Sd 125 [(eU a),(eU b)] [] 0 (eU r) []:=by
 unfold u6 at h
 refine gU (fu:=Tryz.f125) (c:=FN 1) (nt:=56) (fun hm=>rfl) ?_
 intro E hE
 refine ae hE 1 [] [] (kp [0,1]) [] 16 pn ?_
 refine ae hE 2 [] [] (kp [0,1,13]) [] 96 pn ?_
 refine dm 0 13 h (fun dW h=>?_) (fun dW h=>?_)
 ·refine ae hE 0 [] [] (kp [0,1]) [] 160 pn ?_
  exact cV hE 1 [] (kp [0,1]) [] 0 pn (yi N _ _ _ h E hE)
 ·exact cV hE 2 [] (kp [0,1]) [] 0 pn (yi N _ _ _ h E hE)
noncomputable abbrev CJ:=bV Tryz.f127
def tg (N:Nat) (a:List Int) (b:List Int) (K:(List Int)→Int→Int→Option ((List Int))):Prop:=∀ (out:List Int) (borrow:Int) (x:Int) (r:(List Int)),K out borrow x=some r→∀ E,bq E 0→aD Tryz.prog E 127 50 (bd E [] (eU r)) [.code (CJ 244),.inLoop (CJ 244),.inBlock 0,.code (CJ 31)] ⟨[(1,(eU b)),(5,(.os 0 0 out.length)),(6,(Sw borrow)),(13,(eU a)),(14,(aI ((a.length:Nat):Int))),(15,(aI x))],[(0,aU out)],1⟩
def FQ (N:Nat) (a:List Int) (b:List Int) (out:List Int) (x:Int) (K:Int→Option ((List Int))):Prop:=∀ (y:Int) (r:(List Int)),K y=some r→∀ E,bq E 0→aD Tryz.prog E 127 50 (bd E [] (eU r)) [.code (CJ 62670),.code (CJ 62671),.inBlock 1,.code (CJ 1959),.inLoop (CJ 244),.inBlock 0,.code (CJ 31)] ⟨[(1,(eU b)),(5,(.os 0 0 out.length)),(7,(aI x)),(8,(xn (a.getD ((x).toNat) 0))),(9,(Sw y)),(13,(eU a)),(14,(aI ((a.length:Nat):Int))),(15,(aI x))],[(0,aU out)],1⟩
def FR (N:Nat) (a:List Int) (b:List Int) (out:List Int) (x:Int) (y:Int) (K:Int→Option ((List Int))):Prop:=∀ (kA:Int) (r:(List Int)),K kA=some r→∀ E,bq E 0→aD Tryz.prog E 127 50 (bd E [] (eU r)) [.code (CJ 125343),.inBlock 1,.code (CJ 1959),.inLoop (CJ 244),.inBlock 0,.code (CJ 31)] ⟨[(1,(eU b)),(5,(.os 0 0 out.length)),(6,(Sw kA)),(7,(aI x)),(8,(xn (a.getD ((x).toNat) 0))),(9,(Sw y)),(13,(eU a)),(14,(aI ((a.length:Nat):Int))),(15,(aI x))],[(0,aU out)],1⟩
theorem w8 (N:Nat) (a:List Int) (b:List Int) (out:List Int) (x:Int) (y:Int) (fT:(List Int)→Int→Int→Option ((List Int))) (oN:tg N a b fT):FR N a b out x y (nO N a b out x y fT):=by
 intro kA r h E hE
 unfold nO at h
 obtain ⟨c4,h⟩:=ab h
 refine ae hE 0 [] [] (kp [1] ++ [(5,.kQ ((out.set ((x).toNat) (IntKind.u16.wrap ((IntKind.u32.wrap ((IntKind.u32.wrap ((IntKind.u32.wrap ((a.getD ((x).toNat) 0)))+(gZ .u32 kA 16))) - y))))).length))] ++ kp [6,13,14,15]) [(0,.arr 0 ((out.set ((x).toNat) (IntKind.u16.wrap ((IntKind.u32.wrap ((IntKind.u32.wrap ((IntKind.u32.wrap ((a.getD ((x).toNat) 0)))+(gZ .u32 kA 16))) - y))))).length) (fun zi=>(cU .u16) ((out.set ((x).toNat) (IntKind.u16.wrap ((IntKind.u32.wrap ((IntKind.u32.wrap ((IntKind.u32.wrap ((a.getD ((x).toNat) 0)))+(gZ .u32 kA 16))) - y))))).getD zi 0)))] 193 (pc (show (0:Int)≤16 by decide) (pc c4 (pc (dS c4) (pc (aA out ((x).toNat) (IntKind.u16.wrap ((IntKind.u32.wrap ((IntKind.u32.wrap ((IntKind.u32.wrap ((a.getD ((x).toNat) 0)))+(gZ .u32 kA 16))) - y))))) (pc (aA out ((x).toNat) (IntKind.u16.wrap ((IntKind.u32.wrap ((IntKind.u32.wrap ((IntKind.u32.wrap ((a.getD ((x).toNat) 0)))+(gZ .u32 kA 16))) - y))))) (pc (cL (cU .u16) 0 out ((x).toNat) (IntKind.u16.wrap ((IntKind.u32.wrap ((IntKind.u32.wrap ((IntKind.u32.wrap ((a.getD ((x).toNat) 0)))+(gZ .u32 kA 16))) - y))))) pn)))))) ?_
 refine ae hE 1 [] [] (kp [1,5,6,13,14,15]) (kq [0]) 225 pn ?_
 exact cV hE 1 [] (kp [1,5,6,13,14,15]) (kq [0]) 1 pn (oN _ _ _ _ h E hE)
theorem w9 (N:Nat) (a:List Int) (b:List Int) (out:List Int) (x:Int) (fT:(List Int)→Int→Int→Option ((List Int))) (oN:tg N a b fT):FQ N a b out x (nP N a b out x fT):=by
 intro y r h E hE
 unfold nP at h
 refine ae hE 0 [] [] (kp [1,5,6,7,8,9,13,14,15]) (kq [0]) 17 pn ?_
 refine ae hE 2 [] [] (kp [1,5,6,7,8,9,13,14,15,35]) (kq [0]) 81 pn ?_
 refine dm 0 35 h (fun ta h=>?_) (fun ta h=>?_)
 ·refine ae hE 0 [] [] (kp [1,5,6,7,8,9,13,14,15]) (kq [0]) 97 pn ?_
  exact cV hE 0 [] (kp [1,5,6,7,8,9,13,14,15]) (kq [0]) 1 pn (w8 N _ _ _ _ _ _ oN _ _ h E hE)
 ·exact cV hE 1 [] (kp [1,5,6,7,8,9,13,14,15]) (kq [0]) 1 pn (w8 N _ _ _ _ _ _ oN _ _ h E hE)
theorem DU (N a b fuel):tg N a b (g9 N a b fuel):=by
 induction fuel with
 | zero=>intro _ _ _ r h;rw [g9.eq_1] at h;cases h
 | succ fuel ih =>
  intro out borrow x r h E hE
  rw [g9.eq_2] at h
  refine ae hE 1 [] [] (kp [1,5,6,13,14,15,16]) (kq [0]) 17 pn ?_
  refine dm 1 16 h (fun dW h=>?_) (fun dW h=>?_)
  ·obtain ⟨c2,h⟩:=ab h
   refine ae hE 4 [] [] (kp [1,5,6,7,8,13,14,15]) (kq [0]) 97 (pc c2 pn) ?_
   refine ae hE 1 [] [] (kp [1,5,7,8,9,13,14,15]) (kq [0]) 129 pn ?_
   refine ae hE 2 [] [] (kp [1,5,7,8,9,13,14,15,24]) (kq [0]) 193 pn ?_
   refine dm 0 24 h (fun jh h=>?_) (fun jh h=>?_)
   ·obtain ⟨c3,h⟩:=ab h
    refine ae hE 0 [] [] (kp [1,5,7,8,9,13,14,15]) (kq [0]) 321 (pc c3 pn) ?_
    exact cV hE 1 [] (kp [1,5,7,8,9,13,14,15]) (kq [0]) 1 pn (w9 N _ _ _ _ _ ih _ _ h E hE)
   ·exact cV hE 2 [] (kp [1,5,7,8,9,13,14,15]) (kq [0]) 1 pn (w9 N _ _ _ _ _ ih _ _ h E hE)
  ·obtain ⟨b7,hr,h⟩:=aQ h
   refine ae hE 2 [(1,⟨[],true,(eU b7),[],0,true,none⟩)] [] (kp [4]) [] 65 (pc (fc _ _ _ hr) (pc (z1 out.length) pn)) ?_
   obtain rfl:=cJ h
   exact cP hE 0 Tryz.f127 [] (kp [4]) [] 65 pn [] pn
theorem Bt (N a b r) (h:qw N a b=some r):Sd 127 [(eU a),(eU b)] [] 0 (eU r) []:=by
 unfold qw at h
 refine gU (fu:=Tryz.f127) (c:=CJ 1) (nt:=50) (fun hm=>rfl) ?_
 intro E hE
 refine ae hE 1 [] [] (kp [0,1]) [] 16 pn ?_
 obtain ⟨c,h⟩:=ab h
 refine ae hE 1 [] [] (kp [0,1] ++ [(5,.kQ ((List.replicate a.length 0:List Int).length))]) [(48,.arr 48 ((List.replicate a.length 0:List Int).length) (fun zi=>(cU .u16) ((List.replicate a.length 0:List Int).getD zi 0)))] 80 (pc (show 0≤((a.length:Nat):Int) from c.1) (pc (show ((a.length:Nat):Int)≤((a.length:Nat):Int) from (Int.le_refl _)) (pc (show (2:Int) * ((a.length:Nat):Int)≤281474976710656 from c.2.1) (pc (show ((a.length:Nat):Int)≤9223372036854775807 from c.2.2) (pc (show a.length=(List.replicate a.length 0:List Int).length from (di).symm) (pc (show a.length=(List.replicate a.length 0:List Int).length from (di).symm) (pc (show ∀ zi,zi < (List.replicate a.length 0:List Int).length→(fun zi=>(cU .u16) ((List.replicate a.length 0:List Int).getD zi 0)) zi=(fun _=>[(xn 0)]) zi from (fun zq iw=>r8 (cU .u16) 0 0 a.length zq iw)) pn))))))) ?_
 refine ae hE 1 [] [] (kp [0,1,5,6]) (kq [48]) 96 pn ?_
 refine ae hE 2 [] [] (kp [1,5,6,13,14,15]) (kq [48]) 144 pn ?_
 exact cV hE 2 [] (kp [1,5,6,13,14,15]) [(0,.ag 48)] 1 pn (DU N _ _ N _ _ _ _ h E hE)
noncomputable abbrev Zx:=bV Tryz.f99
theorem LO (N a b r) (h:Bf N a b=some r):Sd 99 [(.agg (lk a)),(.agg (lk b))] [] 0 (.agg (lk r)) []:=by
 unfold Bf at h
 refine gU (fu:=Tryz.f99) (c:=Zx 1) (nt:=40) (fun hm=>rfl) ?_
 intro E hE
 refine ae hE 1 [] [] (kp [2,3,4]) (kq [0,16,32]) 48 pn ?_
 obtain ⟨b7,hr,h⟩:=aQ h
 obtain ⟨jJ,eJ,h⟩:=aQ h
 refine ae hE 1 [(2,oT (eU b7)),(5,oT (eU jJ))] [] (kp [2,3,4,5,6]) (kq [0,16,32]) 176 (pc o1 (pc (fc _ _ _ hr) (pc o1 (pc (fc _ _ _ eJ) pn)))) ?_
 refine ae hE 2 [] [] (kp [2,3,4,5,6,17]) (kq [0,16,32]) 256 (pc o1 (pc o1 pn)) ?_
 refine dm 0 17 h (fun dW h=>?_) (fun dW h=>?_)
 ·obtain ⟨Fq,jP,h⟩:=aQ h
  obtain ⟨Lw,mz,h⟩:=aQ h
  refine ae hE 1 [(4,oT (eU Fq)),(5,oT (.agg (lk Lw)))] [] (kp [4]) (kq [32]) 368 (pc o1 (pc (Ki _ _ _ _ jP) (pc (j5 _ _ _ _ mz) (pc o1 pn)))) ?_
  obtain rfl:=cJ h
  exact cP hE 0 Tryz.f99 [] (kp [4]) [(16,.ag 32)] 368 pn [16] (pc o1 pn)
 ·obtain ⟨ki,qz,h⟩:=aQ h
  refine ae hE 3 [(2,oT (aI ki))] [] (kp [2,3,4,5,6,27]) (kq [0,16,32]) 320 (pc (ya _ _ _ _ qz) pn) ?_
  refine dm 0 27 h (fun jh h=>?_) (fun jh h=>?_)
  ·obtain ⟨sS,vj,h⟩:=aQ h
   obtain ⟨Fo,wv,h⟩:=aQ h
   refine ae hE 1 [(4,oT (eU sS)),(5,oT (.agg (lk Fo)))] [] (kp [4]) (kq [32]) 432 (pc o1 (pc (Bt _ _ _ _ vj) (pc (j5 _ _ _ _ wv) (pc o1 pn)))) ?_
   obtain rfl:=cJ h
   exact cP hE 0 Tryz.f99 [] (kp [4]) [(16,.ag 32)] 432 pn [16] (pc o1 pn)
  ·obtain ⟨wh,DI,h⟩:=aQ h
   obtain ⟨U6,DH,h⟩:=aQ h
   refine ae hE 2 [(4,oT (eU wh)),(5,oT (.agg (lk U6)))] [] (kp [4]) (kq [32]) 432 (pc o1 (pc (Bt _ _ _ _ DI) (pc (j5 _ _ _ _ DH) (pc o1 pn)))) ?_
   obtain rfl:=cJ h
   exact cP hE 0 Tryz.f99 [] (kp [4]) [(16,.ag 32)] 432 pn [16] (pc o1 pn)
noncomputable abbrev Zy:=bV Tryz.f59
theorem eH (N x y r) (h:eY N x y=some r):Sd 59 [(.agg (aj x)),(.agg (aj y))] [] 0 (.agg (aj r)) []:=by
 unfold eY at h
 refine gU (fu:=Tryz.f59) (c:=Zy 1) (nt:=32) (fun hm=>rfl) ?_
 intro E hE
 refine ae hE 1 [] [] (kp [2,3,4]) (kq [0,16,32]) 48 pn ?_
 obtain ⟨gj,hr,h⟩:=aQ h
 refine ae hE 2 [(1,oT (aB gj))] [] (kp [2,3,4,8]) (kq [0,16,32]) 80 (pc o1 (pc (ji _ _ _ hr) pn)) ?_
 refine dm 0 8 h (fun dW h=>?_) (fun dW h=>?_)
 ·obtain ⟨wg,eJ,h⟩:=aQ h
  refine ae hE 1 [(1,oT (.agg (aj wg)))] [] (kp [4]) (kq [32]) 128 (pc o1 (pc (qH _ _ _ eJ) (pc o1 pn))) ?_
  obtain rfl:=cJ h
  exact cP hE 0 Tryz.f59 [] (kp [4]) [(16,.ag 32)] 128 pn [16] (pc o1 pn)
 ·obtain ⟨sU,jP,h⟩:=aQ h
  refine ae hE 3 [(1,oT (aB sU))] [] (kp [2,3,4,12]) (kq [0,16,32]) 112 (pc o1 (pc (ji _ _ _ jP) pn)) ?_
  refine dm 0 12 h (fun jh h=>?_) (fun jh h=>?_)
  ·obtain ⟨eN,mz,h⟩:=aQ h
   refine ae hE 1 [(1,oT (.agg (aj eN)))] [] (kp [4]) (kq [32]) 160 (pc o1 (pc (qH _ _ _ mz) (pc o1 pn))) ?_
   obtain rfl:=cJ h
   exact cP hE 0 Tryz.f59 [] (kp [4]) [(16,.ag 32)] 160 pn [16] (pc o1 pn)
  ·obtain ⟨jK,qz,h⟩:=aQ h
   obtain ⟨oK,vj,h⟩:=aQ h
   refine ae hE 2 [(1,oT (.agg (lk jK))),(3,oT (.agg (lk oK)))] [] (kp [2,3,4,5,6]) (kq [0,16,32,176,192]) 240 (pc o1 (pc (jQ _ _ _ qz) (pc o1 (pc (jQ _ _ _ vj) (pc o1 (pc o1 pn)))))) ?_
   obtain ⟨sV,wv,h⟩:=aQ h
   obtain ⟨nw,DI,h⟩:=aQ h
   obtain ⟨LC,DH,h⟩:=aQ h
   obtain ⟨Fs,wu,h⟩:=aQ h
   obtain ⟨B6,yj,h⟩:=aQ h
   refine ae hE 1 [(3,oT (.agg (lk sV))),(7,oT (.agg (lk nw))),(8,oT (.agg (lk LC))),(11,oT (.agg (lk Fs))),(12,oT (.agg (aj B6)))] [] (kp [4]) (kq [32]) 464 (pc o1 (pc o1 (pc (oX _ _ _ _ wv) (pc o1 (pc o1 (pc (oX _ _ _ _ DI) (pc (LO _ _ _ _ DH) (pc o1 (pc o1 (pc (oX _ _ _ _ wu) (pc (jD _ _ _ _ yj) (pc o1 pn)))))))))))) ?_
   obtain rfl:=cJ h
   exact cP hE 0 Tryz.f59 [] (kp [4]) [(16,.ag 32)] 464 pn [16] (pc o1 pn)
noncomputable abbrev Zz:=bV Tryz.f49
theorem fk (N x y r) (h:eZ N x y=some r):Sd 49 [(.agg (aj x)),(.agg (aj y))] [] 0 (.agg (aj r)) []:=by
 unfold eZ at h
 refine gU (fu:=Tryz.f49) (c:=Zz 1) (nt:=9) (fun hm=>rfl) ?_
 intro E hE
 refine ae hE 1 [] [] (kp [2,3,4]) (kq [0,16,32]) 48 pn ?_
 obtain ⟨aY,hr,h⟩:=aQ h
 obtain ⟨bk,eJ,h⟩:=aQ h
 refine ae hE 1 [(2,oT (.agg (aj aY))),(3,oT (.agg (aj bk)))] [] (kp [4]) (kq [32]) 128 (pc o1 (pc o1 (pc (kJ _ _ _ hr) (pc (eH _ _ _ _ eJ) (pc o1 pn))))) ?_
 obtain rfl:=cJ h
 exact cP hE 0 Tryz.f49 [] (kp [4]) [(16,.ag 32)] 128 pn [16] (pc o1 pn)
noncomputable abbrev ZA:=bV Tryz.f58
theorem jj (N x y r) (h:gx N x y=some r):Sd 58 [(.agg (aj x)),(.agg (aj y))] [] 0 (aI r) []:=by
 unfold gx at h
 refine gU (fu:=Tryz.f58) (c:=ZA 1) (nt:=9) (fun hm=>rfl) ?_
 intro E hE
 refine ae hE 1 [] [] (kp [2,3]) (kq [0,16]) 48 pn ?_
 obtain ⟨av,hr,h⟩:=aQ h
 obtain ⟨aN,eJ,h⟩:=aQ h
 refine ae hE 1 [(2,oT (.agg (aj av))),(3,oT (aI aN))] [] (kp [4]) [] 128 (pc o1 (pc o1 (pc (fk _ _ _ _ hr) (pc (qI _ _ _ eJ) pn)))) ?_
 obtain rfl:=cJ h
 exact cP hE 0 Tryz.f58 [] (kp [4]) [] 128 pn [] pn
noncomputable abbrev ZC:=bV Tryz.f106
theorem tT (N x y r) (h:qT N x y=some r):Sd 106 [(.agg (aj x)),(.agg (aj y))] [] 0 (.agg (aj r)) []:=by
 unfold qT at h
 refine gU (fu:=Tryz.f106) (c:=ZC 1) (nt:=16) (fun hm=>rfl) ?_
 intro E hE
 refine ae hE 1 [] [] (kp [2,3,4]) (kq [0,16,32]) 48 pn ?_
 obtain ⟨jK,hr,h⟩:=aQ h
 obtain ⟨sV,eJ,h⟩:=aQ h
 obtain ⟨oK,jP,h⟩:=aQ h
 obtain ⟨nw,mz,h⟩:=aQ h
 obtain ⟨B6,qz,h⟩:=aQ h
 refine ae hE 1 [(3,oT (.agg (lk jK))),(4,oT (.agg (lk sV))),(6,oT (.agg (lk oK))),(9,oT (.agg (lk nw))),(10,oT (.agg (aj B6)))] [] (kp [4]) (kq [32]) 240 (pc o1 (pc o1 (pc (jQ _ _ _ hr) (pc (oX _ _ _ _ eJ) (pc o1 (pc (jQ _ _ _ jP) (pc o1 (pc (oX _ _ _ _ mz) (pc (jD _ _ _ _ qz) (pc o1 pn)))))))))) ?_
 obtain rfl:=cJ h
 exact cP hE 0 Tryz.f106 [] (kp [4]) [(16,.ag 32)] 240 pn [16] (pc o1 pn)
noncomputable abbrev ZD:=bV Tryz.f60
theorem cT (N x y r) (h:dE N x y=some r):Sd 60 [(.agg (aj x)),(.agg (aj y))] [] 0 (.agg (aj r)) []:=by
 unfold dE at h
 refine gU (fu:=Tryz.f60) (c:=ZD 1) (nt:=16) (fun hm=>rfl) ?_
 intro E hE
 refine ae hE 1 [] [] (kp [2,3,4]) (kq [0,16,32]) 48 pn ?_
 obtain ⟨sV,hr,h⟩:=aQ h
 obtain ⟨jK,eJ,h⟩:=aQ h
 obtain ⟨oK,jP,h⟩:=aQ h
 obtain ⟨nw,mz,h⟩:=aQ h
 obtain ⟨B6,qz,h⟩:=aQ h
 refine ae hE 1 [(4,oT (.agg (lk sV))),(6,oT (.agg (lk jK))),(8,oT (.agg (lk oK))),(9,oT (.agg (lk nw))),(10,oT (.agg (aj B6)))] [] (kp [4]) (kq [32]) 240 (pc o1 (pc o1 (pc (oX _ _ _ _ hr) (pc o1 (pc (jQ _ _ _ eJ) (pc o1 (pc (jQ _ _ _ jP) (pc (oX _ _ _ _ mz) (pc (jD _ _ _ _ qz) (pc o1 pn)))))))))) ?_
 obtain rfl:=cJ h
 exact cP hE 0 Tryz.f60 [] (kp [4]) [(16,.ag 32)] 240 pn [16] (pc o1 pn)
noncomputable abbrev Qj:=bV Tryz.f107
def q8 (N:Nat) (j:Int) (f:aa) (C0:List aa) (K:(List aa)→Int→Option ((List aa))):Prop:=∀ (bw:List aa) (x:Int) (r:(List aa)),K bw x=some r→∀ E,bq E 1→aD Tryz.prog E 107 49 (bd E [(0,aO 4 aj aa.d r)] (.tup [])) [.code (Qj 28),.inLoop (Qj 28),.inBlock 0] ⟨[(1,(.os 0 0 bw.length)),(2,(.os 0 0 bw.length)),(3,(aI j)),(9,(.op 1 0 0)),(12,(aI ((C0.length:Nat):Int))),(13,(aI x))],[(0,aO 4 aj aa.d bw),(1,vO 4 (aj f))],2⟩
def yk (N:Nat) (j:Int) (f:aa) (C0:List aa) (x:Int) (K:(List aa)→Option ((List aa))):Prop:=∀ (cd:List aa) (r:(List aa)),K cd=some r→∀ E,bq E 1→aD Tryz.prog E 107 49 (bd E [(0,aO 4 aj aa.d r)] (.tup [])) [.code (Qj 231),.inLoop (Qj 28),.inBlock 0] ⟨[(1,(.os 0 0 cd.length)),(2,(.os 0 0 cd.length)),(3,(aI j)),(9,(.op 1 0 0)),(12,(aI ((C0.length:Nat):Int))),(13,(aI x))],[(0,aO 4 aj aa.d cd),(1,vO 4 (aj f))],2⟩
theorem mS (N:Nat) (j:Int) (f:aa) (C0:List aa) (x:Int) (k5:(List aa)→Int→Option ((List aa))) (xq:q8 N j f C0 k5):yk N j f C0 x (kj N j f C0 x k5):=by
 intro cd r h E hE
 unfold kj at h
 refine ae hE 0 [] [] (kp [1,2,3,9,12,13]) (kq [0,1]) 34 pn ?_
 exact cV hE 1 [] (kp [1,2,3,9,12,13]) (kq [0,1]) 2 pn (xq _ _ _ h E hE)
theorem xr (N j f C0 fuel):q8 N j f C0 (gy N j f C0 fuel):=by
 induction fuel with
 | zero=>intro _ _ r h;rw [gy.eq_1] at h;cases h
 | succ fuel ih =>
  intro bw x r h E hE
  rw [gy.eq_2] at h
  refine ae hE 1 [] [] (kp [1,2,3,9,12,13,14]) (kq [0,1]) 18 pn ?_
  refine dm 1 14 h (fun dW h=>?_) (fun dW h=>?_)
  ·refine ae hE 4 [] [] (kp [1,2,3,9,10,12,13]) (kq [0,1]) 50 pn ?_
   refine ae hE 1 [] [] (kp [1,2,3,9,10,12,13,18]) (kq [0,1]) 98 pn ?_
   refine dm 0 18 h (fun jh h=>?_) (fun jh h=>?_)
   ·obtain ⟨c,h⟩:=ab h
    obtain ⟨bL,hr,h⟩:=aQ h
    refine ae hE 0 [(7,oT (.agg (aj bL)))] [] ([(1,.kQ ((bw.set ((x).toNat) bL).length)),(2,.kQ ((bw.set ((x).toNat) bL).length))] ++ kp [3,9,12,13]) ([(0,.arr 0 ((bw.set ((x).toNat) bL).length) (fun zi=>aj ((bw.set ((x).toNat) bL).getD zi aa.d)))] ++ kq [1]) 258 (pc o1 (pc c (pc (dS c) (pc (cT _ _ _ _ hr) (pc c (pc (dS c) (pc (aA bw ((x).toNat) bL) (pc (aA bw ((x).toNat) bL) (pc (aA bw ((x).toNat) bL) (pc (cL aj aa.d bw ((x).toNat) bL) pn)))))))))) ?_
    exact cV hE 1 [] (kp [1,2,3,9,12,13]) (kq [0,1]) 2 pn (mS N _ _ _ _ _ ih _ _ h E hE)
   ·obtain ⟨c2,h⟩:=ab h
    obtain ⟨gj,eJ,h⟩:=aQ h
    refine ae hE 1 [(4,oT (aB gj))] [] (kp [1,2,3,9,10,12,13,33]) (kq [0,1]) 194 (pc c2 (pc (dS c2) (pc (ji _ _ _ eJ) pn))) ?_
    refine dm 0 33 h (fun ta h=>?_) (fun ta h=>?_)
    ·obtain ⟨cw,jP,h⟩:=aQ h
     obtain ⟨bk,mz,h⟩:=aQ h
     refine ae hE 0 [(11,oT (.agg (aj cw))),(12,oT (.agg (aj bk)))] [] ([(1,.kQ ((bw.set ((x).toNat) bk).length)),(2,.kQ ((bw.set ((x).toNat) bk).length))] ++ kp [3,9,12,13]) ([(0,.arr 0 ((bw.set ((x).toNat) bk).length) (fun zi=>aj ((bw.set ((x).toNat) bk).getD zi aa.d)))] ++ kq [1]) 434 (pc c2 (pc (dS c2) (pc o1 (pc c2 (pc (dS c2) (pc (cT _ _ _ _ jP) (pc (eH _ _ _ _ mz) (pc c2 (pc (dS c2) (pc (aA bw ((x).toNat) bk) (pc (aA bw ((x).toNat) bk) (pc (aA bw ((x).toNat) bk) (pc (cL aj aa.d bw ((x).toNat) bk) pn))))))))))))) ?_
     exact cV hE 1 [] (kp [1,2,3,9,12,13]) (kq [0,1]) 2 pn (mS N _ _ _ _ _ ih _ _ h E hE)
    ·exact cV hE 2 [] (kp [1,2,3,9,12,13]) (kq [0,1]) 2 pn (mS N _ _ _ _ _ ih _ _ h E hE)
  ·obtain rfl:=cJ h
   exact Zf hE 1 Tryz.f107 [] [] (kq [0]) 49 pn [] pn
theorem Aq (N j f C0 r) (h:rv N j f C0=some r):Sd 107 [.m9,(.os 0 0 C0.length),(.os 0 0 C0.length),(aI j),(.agg (aj f))] [(0,aO 4 aj aa.d C0)] 1 (.tup []) [(0,aO 4 aj aa.d r)]:=by
 unfold rv at h
 refine gU (fu:=Tryz.f107) (c:=Qj 1) (nt:=49) (fun hm=>absurd hm (by decide)) ?_
 intro E hE
 refine ae hE 1 [] [] (kp [1,2,3,9]) (kq [0,1]) 17 pn ?_
 refine ae hE 1 [] [] (kp [1,2,3,9,12,13]) (kq [0,1]) 65 pn ?_
 exact cV hE 2 [] (kp [1,2,3,9,12,13]) (kq [0,1]) 2 pn (xr N _ _ _ N _ _ _ h E hE)
noncomputable abbrev Qk:=bV Tryz.f107
def pj (N:Nat) (j:Int) (f:aa) (C0:List aa) (C1:List aa) (K:(List aa)→Int→Option ((List aa))):Prop:=∀ (bw:List aa) (x:Int) (r:(List aa)),K bw x=some r→∀ E,bq E 2→aD Tryz.prog E 107 49 (bd E [(0,aO 4 aj aa.d r),(1,aO 4 aj aa.d C1)] (.tup [])) [.code (Qk 28),.inLoop (Qk 28),.inBlock 0] ⟨[(1,(.os 0 0 bw.length)),(2,(.os 1 0 C1.length)),(3,(aI j)),(9,(.op 2 0 0)),(12,(aI ((C0.length:Nat):Int))),(13,(aI x))],[(0,aO 4 aj aa.d bw),(1,aO 4 aj aa.d C1),(2,vO 4 (aj f))],3⟩
def vk (N:Nat) (j:Int) (f:aa) (C0:List aa) (C1:List aa) (x:Int) (K:(List aa)→Option ((List aa))):Prop:=∀ (cd:List aa) (r:(List aa)),K cd=some r→∀ E,bq E 2→aD Tryz.prog E 107 49 (bd E [(0,aO 4 aj aa.d r),(1,aO 4 aj aa.d C1)] (.tup [])) [.code (Qk 231),.inLoop (Qk 28),.inBlock 0] ⟨[(1,(.os 0 0 cd.length)),(2,(.os 1 0 C1.length)),(3,(aI j)),(9,(.op 2 0 0)),(12,(aI ((C0.length:Nat):Int))),(13,(aI x))],[(0,aO 4 aj aa.d cd),(1,aO 4 aj aa.d C1),(2,vO 4 (aj f))],3⟩
theorem lp (N:Nat) (j:Int) (f:aa) (C0:List aa) (C1:List aa) (x:Int) (jt:(List aa)→Int→Option ((List aa))) (uy:pj N j f C0 C1 jt):vk N j f C0 C1 x (fQ N j f C0 C1 x jt):=by
 intro cd r h E hE
 unfold fQ at h
 refine ae hE 0 [] [] (kp [1,2,3,9,12,13]) (kq [0,1,2]) 35 pn ?_
 exact cV hE 1 [] (kp [1,2,3,9,12,13]) (kq [0,1,2]) 3 pn (uy _ _ _ h E hE)
theorem uz (N j f C0 C1 fuel):pj N j f C0 C1 (cF N j f C0 C1 fuel):=by
 induction fuel with
 | zero=>intro _ _ r h;rw [cF.eq_1] at h;cases h
 | succ fuel ih =>
  intro bw x r h E hE
  rw [cF.eq_2] at h
  refine ae hE 1 [] [] (kp [1,2,3,9,12,13,14]) (kq [0,1,2]) 19 pn ?_
  refine dm 1 14 h (fun dW h=>?_) (fun dW h=>?_)
  ·refine ae hE 4 [] [] (kp [1,2,3,9,10,12,13]) (kq [0,1,2]) 51 pn ?_
   refine ae hE 1 [] [] (kp [1,2,3,9,10,12,13,18]) (kq [0,1,2]) 99 pn ?_
   refine dm 0 18 h (fun jh h=>?_) (fun jh h=>?_)
   ·obtain ⟨c,h⟩:=ab h
    obtain ⟨bL,hr,h⟩:=aQ h
    obtain ⟨c2,h⟩:=ab h
    refine ae hE 0 [(7,oT (.agg (aj bL)))] [] ([(1,.kQ ((bw.set ((x).toNat) bL).length))] ++ kp [2,3,9,12,13]) ([(0,.arr 0 ((bw.set ((x).toNat) bL).length) (fun zi=>aj ((bw.set ((x).toNat) bL).getD zi aa.d)))] ++ kq [1,2]) 259 (pc o1 (pc c (pc (dS c) (pc (cT _ _ _ _ hr) (pc c2 (pc (dS c2) (pc (aA bw ((x).toNat) bL) (pc (aA bw ((x).toNat) bL) (pc (cL aj aa.d bw ((x).toNat) bL) pn))))))))) ?_
    exact cV hE 1 [] (kp [1,2,3,9,12,13]) (kq [0,1,2]) 3 pn (lp N _ _ _ _ _ _ ih _ _ h E hE)
   ·obtain ⟨c3,h⟩:=ab h
    obtain ⟨gj,eJ,h⟩:=aQ h
    refine ae hE 1 [(4,oT (aB gj))] [] (kp [1,2,3,9,10,12,13,33]) (kq [0,1,2]) 195 (pc c3 (pc (dS c3) (pc (ji _ _ _ eJ) pn))) ?_
    refine dm 0 33 h (fun ta h=>?_) (fun ta h=>?_)
    ·obtain ⟨c4,h⟩:=ab h
     obtain ⟨cw,jP,h⟩:=aQ h
     obtain ⟨bk,mz,h⟩:=aQ h
     refine ae hE 0 [(11,oT (.agg (aj cw))),(12,oT (.agg (aj bk)))] [] ([(1,.kQ ((bw.set ((x).toNat) bk).length))] ++ kp [2,3,9,12,13]) ([(0,.arr 0 ((bw.set ((x).toNat) bk).length) (fun zi=>aj ((bw.set ((x).toNat) bk).getD zi aa.d)))] ++ kq [1,2]) 435 (pc c4 (pc (dS c4) (pc o1 (pc c3 (pc (dS c3) (pc (cT _ _ _ _ jP) (pc (eH _ _ _ _ mz) (pc c4 (pc (dS c4) (pc (aA bw ((x).toNat) bk) (pc (aA bw ((x).toNat) bk) (pc (cL aj aa.d bw ((x).toNat) bk) pn)))))))))))) ?_
     exact cV hE 1 [] (kp [1,2,3,9,12,13]) (kq [0,1,2]) 3 pn (lp N _ _ _ _ _ _ ih _ _ h E hE)
    ·exact cV hE 2 [] (kp [1,2,3,9,12,13]) (kq [0,1,2]) 3 pn (lp N _ _ _ _ _ _ ih _ _ h E hE)
  ·obtain rfl:=cJ h
   exact Zf hE 1 Tryz.f107 [] [] (kq [0,1]) 50 pn [] pn
theorem mT (N j f C0 C1 r) (h:iR N j f C0 C1=some r):Sd 107 [.m9,(.os 0 0 C0.length),(.os 1 0 C1.length),(aI j),(.agg (aj f))] [(0,aO 4 aj aa.d C0),(1,aO 4 aj aa.d C1)] 2 (.tup []) [(0,aO 4 aj aa.d r),(1,aO 4 aj aa.d C1)]:=by
 unfold iR at h
 refine gU (fu:=Tryz.f107) (c:=Qk 1) (nt:=49) (fun hm=>absurd hm (by decide)) ?_
 intro E hE
 refine ae hE 1 [] [] (kp [1,2,3,9]) (kq [0,1,2]) 18 pn ?_
 refine ae hE 1 [] [] (kp [1,2,3,9,12,13]) (kq [0,1,2]) 66 pn ?_
 exact cV hE 2 [] (kp [1,2,3,9,12,13]) (kq [0,1,2]) 3 pn (uz N _ _ _ _ N _ _ _ h E hE)
noncomputable abbrev Bu:=bV Tryz.f72
def p8 (N:Nat) (i:Int) (j:Int) (C0:Int) (bw:Int) (cd:Bool) (de:List Int) (dj:Bool) (dk:List Int) (dc:Int) (C1:List Int) (C2:List Int) (C3:List (List aa)) (C4:List aa) (C5:List aa) (K:(List aa)→Int→Option (lR×(List Int)×(List Int)×(List (List aa))×(List aa)×(List aa))):Prop:=∀ (sW:List aa) (x:Int) (r:lR×(List Int)×(List Int)×(List (List aa))×(List aa)×(List aa)),K sW x=some r→∀ E,bq E 6→aD Tryz.prog E 72 194 (bd E [(0,vN 12 [(aI r.1.xk),(aI r.1.xl),(.os 1 0 r.2.1.length),(.os 2 0 r.2.2.1.length),(.os 3 0 r.2.2.2.1.length),(.os 4 0 r.2.2.2.2.1.length),(.os 5 0 r.2.2.2.2.2.length),(aB r.1.ak.fN.fG),(eU r.1.ak.fN.fL),(aB r.1.ak.fD.fG),(eU r.1.ak.fD.fL),(aI r.1.cu)]),(1,aO 1 cI 0 r.2.1),(2,aO 1 cI 0 r.2.2.1),(3,aM 4 aj aa.d r.2.2.2.1),(4,aO 4 aj aa.d r.2.2.2.2.1),(5,aO 4 aj aa.d r.2.2.2.2.2)] (.tup [])) [.code (Bu 116),.inLoop (Bu 116),.inBlock 0,.code (Bu 15)] ⟨[(0,(.op 0 0 0)),(1,(aI i)),(2,(aI j)),(6,(.op 7 0 0)),(7,(.os 6 0 sW.length)),(30,(aI (((C3.getD ((i).toNat) []).length:Nat):Int))),(31,(aI x))],[(0,vN 12 [(aI C0),(aI bw),(.os 1 0 C1.length),(.os 2 0 C2.length),(.os 3 0 C3.length),(.os 4 0 C4.length),(.os 5 0 C5.length),(aB cd),(eU de),(aB dj),(eU dk),(aI dc)]),(1,aO 1 cI 0 C1),(2,aO 1 cI 0 C2),(3,⟨false,1,C3.length,false,aW [((i).toNat,6,sW.length)] (mG C3)⟩),(4,aO 4 aj aa.d C4),(5,aO 4 aj aa.d C5),(6,aO 4 aj aa.d sW),(7,vO 4 [(aB ((((C3.getD ((i).toNat) []).getD ((j).toNat) aa.d).fN).fG)),(eU ((((C3.getD ((i).toNat) []).getD ((j).toNat) aa.d).fN).fL)),(aB ((((C3.getD ((i).toNat) []).getD ((j).toNat) aa.d).fD).fG)),(eU ((((C3.getD ((i).toNat) []).getD ((j).toNat) aa.d).fD).fL))])],8⟩
def wx (N:Nat) (i:Int) (j:Int) (C0:Int) (bw:Int) (cd:Bool) (de:List Int) (dj:Bool) (dk:List Int) (dc:Int) (C1:List Int) (C2:List Int) (C3:List (List aa)) (C4:List aa) (C5:List aa) (x:Int) (K:(List aa)→Option (lR×(List Int)×(List Int)×(List (List aa))×(List aa)×(List aa))):Prop:=∀ (Ft:List aa) (r:lR×(List Int)×(List Int)×(List (List aa))×(List aa)×(List aa)),K Ft=some r→∀ E,bq E 6→aD Tryz.prog E 72 194 (bd E [(0,vN 12 [(aI r.1.xk),(aI r.1.xl),(.os 1 0 r.2.1.length),(.os 2 0 r.2.2.1.length),(.os 3 0 r.2.2.2.1.length),(.os 4 0 r.2.2.2.2.1.length),(.os 5 0 r.2.2.2.2.2.length),(aB r.1.ak.fN.fG),(eU r.1.ak.fN.fL),(aB r.1.ak.fD.fG),(eU r.1.ak.fD.fL),(aI r.1.cu)]),(1,aO 1 cI 0 r.2.1),(2,aO 1 cI 0 r.2.2.1),(3,aM 4 aj aa.d r.2.2.2.1),(4,aO 4 aj aa.d r.2.2.2.2.1),(5,aO 4 aj aa.d r.2.2.2.2.2)] (.tup [])) [.code (Bu 935),.inLoop (Bu 116),.inBlock 0,.code (Bu 15)] ⟨[(0,(.op 0 0 0)),(1,(aI i)),(2,(aI j)),(6,(.op 7 0 0)),(7,(.os 6 0 Ft.length)),(30,(aI (((C3.getD ((i).toNat) []).length:Nat):Int))),(31,(aI x))],[(0,vN 12 [(aI C0),(aI bw),(.os 1 0 C1.length),(.os 2 0 C2.length),(.os 3 0 C3.length),(.os 4 0 C4.length),(.os 5 0 C5.length),(aB cd),(eU de),(aB dj),(eU dk),(aI dc)]),(1,aO 1 cI 0 C1),(2,aO 1 cI 0 C2),(3,⟨false,1,C3.length,false,aW [((i).toNat,6,Ft.length)] (mG C3)⟩),(4,aO 4 aj aa.d C4),(5,aO 4 aj aa.d C5),(6,aO 4 aj aa.d Ft),(7,vO 4 [(aB ((((C3.getD ((i).toNat) []).getD ((j).toNat) aa.d).fN).fG)),(eU ((((C3.getD ((i).toNat) []).getD ((j).toNat) aa.d).fN).fL)),(aB ((((C3.getD ((i).toNat) []).getD ((j).toNat) aa.d).fD).fG)),(eU ((((C3.getD ((i).toNat) []).getD ((j).toNat) aa.d).fD).fL))])],8⟩
theorem pk (N:Nat) (i:Int) (j:Int) (C0:Int) (bw:Int) (cd:Bool) (de:List Int) (dj:Bool) (dk:List Int) (dc:Int) (C1:List Int) (C2:List Int) (C3:List (List aa)) (C4:List aa) (C5:List aa) (x:Int) (jM:(List aa)→Int→Option (lR×(List Int)×(List Int)×(List (List aa))×(List aa)×(List aa))) (vn:p8 N i j C0 bw cd de dj dk dc C1 C2 C3 C4 C5 jM):wx N i j C0 bw cd de dj dk dc C1 C2 C3 C4 C5 x (jn N i j C0 bw cd de dj dk dc C1 C2 C3 C4 C5 x jM):=by
 intro Ft r h E hE
 unfold jn at h
 refine ae hE 0 [] [] (kp [0,1,2,6,7,30,31]) (kq [0,1,2] ++ [(3,.qg 3 (C3.length) [((i).toNat,6,Ft.length)] (mG C3))] ++ kq [4,5,6,7]) 40 (pc (Eq.refl C3.length) (pc (mC C3 [((i).toNat,6,Ft.length)]) (pc (iM C3) pn))) ?_
 exact cV hE 1 [] (kp [0,1,2,6,7,30,31]) (kq [0,1,2] ++ [(3,.qg 3 (C3.length) [((i).toNat,6,Ft.length)] (mG C3))] ++ kq [4,5,6,7]) 8 (pc (Eq.refl C3.length) (pc (mC C3 [((i).toNat,6,Ft.length)]) (pc (iM C3) pn))) (vn _ _ _ h E hE)
def p9 (N:Nat) (i:Int) (j:Int) (C0:Int) (bw:Int) (cd:Bool) (de:List Int) (dj:Bool) (dk:List Int) (dc:Int) (C1:List Int) (C2:List Int) (C3:List (List aa)) (C5:List aa) (K:(List (List aa))→(List aa)→(List aa)→Int→Option (lR×(List Int)×(List Int)×(List (List aa))×(List aa)×(List aa))):Prop:=∀ (b8:List (List aa)) (bR:List aa) (oj:List aa) (x2:Int) (r:lR×(List Int)×(List Int)×(List (List aa))×(List aa)×(List aa)),K b8 bR oj x2=some r→∀ E,bq E 6→aD Tryz.prog E 72 194 (bd E [(0,vN 12 [(aI r.1.xk),(aI r.1.xl),(.os 1 0 r.2.1.length),(.os 2 0 r.2.2.1.length),(.os 3 0 r.2.2.2.1.length),(.os 4 0 r.2.2.2.2.1.length),(.os 5 0 r.2.2.2.2.2.length),(aB r.1.ak.fN.fG),(eU r.1.ak.fN.fL),(aB r.1.ak.fD.fG),(eU r.1.ak.fD.fL),(aI r.1.cu)]),(1,aO 1 cI 0 r.2.1),(2,aO 1 cI 0 r.2.2.1),(3,aM 4 aj aa.d r.2.2.2.1),(4,aO 4 aj aa.d r.2.2.2.2.1),(5,aO 4 aj aa.d r.2.2.2.2.2)] (.tup [])) [.code (Bu 1012),.inLoop (Bu 1012),.inBlock 2,.code (Bu 127)] ⟨[(0,(.op 0 0 0)),(1,(aI i)),(2,(aI j)),(7,(.os 6 0 bR.length)),(74,(aI ((C3.length:Nat):Int))),(75,(aI x2))],[(0,vN 12 [(aI C0),(aI bw),(.os 1 0 C1.length),(.os 2 0 C2.length),(.os 3 0 b8.length),(.os 4 0 oj.length),(.os 5 0 C5.length),(aB cd),(eU de),(aB dj),(eU dk),(aI dc)]),(1,aO 1 cI 0 C1),(2,aO 1 cI 0 C2),(3,⟨false,1,b8.length,false,aW [((i).toNat,6,bR.length)] (mG b8)⟩),(4,aO 4 aj aa.d oj),(5,aO 4 aj aa.d C5),(6,aO 4 aj aa.d bR)],7⟩
def wy (N:Nat) (i:Int) (j:Int) (C0:Int) (bw:Int) (cd:Bool) (de:List Int) (dj:Bool) (dk:List Int) (dc:Int) (C1:List Int) (C2:List Int) (C3:List (List aa)) (C5:List aa) (x2:Int) (K:(List (List aa))→(List aa)→(List aa)→Option (lR×(List Int)×(List Int)×(List (List aa))×(List aa)×(List aa))):Prop:=∀ (ly:List (List aa)) (Fu:List aa) (pS:List aa) (r:lR×(List Int)×(List Int)×(List (List aa))×(List aa)×(List aa)),K ly Fu pS=some r→∀ E,bq E 6→aD Tryz.prog E 72 194 (bd E [(0,vN 12 [(aI r.1.xk),(aI r.1.xl),(.os 1 0 r.2.1.length),(.os 2 0 r.2.2.1.length),(.os 3 0 r.2.2.2.1.length),(.os 4 0 r.2.2.2.2.1.length),(.os 5 0 r.2.2.2.2.2.length),(aB r.1.ak.fN.fG),(eU r.1.ak.fN.fL),(aB r.1.ak.fD.fG),(eU r.1.ak.fD.fL),(aI r.1.cu)]),(1,aO 1 cI 0 r.2.1),(2,aO 1 cI 0 r.2.2.1),(3,aM 4 aj aa.d r.2.2.2.1),(4,aO 4 aj aa.d r.2.2.2.2.1),(5,aO 4 aj aa.d r.2.2.2.2.2)] (.tup [])) [.code (Bu 8103),.inLoop (Bu 1012),.inBlock 2,.code (Bu 127)] ⟨[(0,(.op 0 0 0)),(1,(aI i)),(2,(aI j)),(7,(.os 6 0 Fu.length)),(74,(aI ((C3.length:Nat):Int))),(75,(aI x2))],[(0,vN 12 [(aI C0),(aI bw),(.os 1 0 C1.length),(.os 2 0 C2.length),(.os 3 0 ly.length),(.os 4 0 pS.length),(.os 5 0 C5.length),(aB cd),(eU de),(aB dj),(eU dk),(aI dc)]),(1,aO 1 cI 0 C1),(2,aO 1 cI 0 C2),(3,⟨false,1,ly.length,false,aW [((i).toNat,6,Fu.length)] (mG ly)⟩),(4,aO 4 aj aa.d pS),(5,aO 4 aj aa.d C5),(6,aO 4 aj aa.d Fu)],7⟩
theorem gL (N:Nat) (i:Int) (j:Int) (C0:Int) (bw:Int) (cd:Bool) (de:List Int) (dj:Bool) (dk:List Int) (dc:Int) (C1:List Int) (C2:List Int) (C3:List (List aa)) (C5:List aa) (x2:Int) (jN:(List (List aa))→(List aa)→(List aa)→Int→Option (lR×(List Int)×(List Int)×(List (List aa))×(List aa)×(List aa))) (vo:p9 N i j C0 bw cd de dj dk dc C1 C2 C3 C5 jN):wy N i j C0 bw cd de dj dk dc C1 C2 C3 C5 x2 (dx N i j C0 bw cd de dj dk dc C1 C2 C3 C5 x2 jN):=by
 intro ly Fu pS r h E hE
 unfold dx at h
 refine ae hE 0 [] [] (kp [0,1,2,7,74,75]) (kq [0,1,2] ++ [(3,.qg 3 (ly.length) [((i).toNat,6,Fu.length)] (mG ly))] ++ kq [4,5,6]) 39 (pc (Eq.refl ly.length) (pc (mC ly [((i).toNat,6,Fu.length)]) (pc (iM ly) pn))) ?_
 exact cV hE 1 [] (kp [0,1,2,7,74,75]) (kq [0,1,2] ++ [(3,.qg 3 (ly.length) [((i).toNat,6,Fu.length)] (mG ly))] ++ kq [4,5,6]) 7 (pc (Eq.refl ly.length) (pc (mC ly [((i).toNat,6,Fu.length)]) (pc (iM ly) pn))) (vo _ _ _ _ _ h E hE)
def wz (N:Nat) (i:Int) (j:Int) (C0:Int) (bw:Int) (dc:Int) (C1:List Int) (C2:List Int) (b8:List (List aa)) (bR:List aa) (oj:List aa) (K:(List aa)→Bool→(List Int)→Bool→(List Int)→Option (lR×(List Int)×(List Int)×(List (List aa))×(List aa)×(List aa))):Prop:=∀ (gC:List aa) (qh:Bool) (qi:List Int) (tF:Bool) (tG:List Int) (r:lR×(List Int)×(List Int)×(List (List aa))×(List aa)×(List aa)),K gC qh qi tF tG=some r→∀ E,bq E 6→aD Tryz.prog E 72 194 (bd E [(0,vN 12 [(aI r.1.xk),(aI r.1.xl),(.os 1 0 r.2.1.length),(.os 2 0 r.2.2.1.length),(.os 3 0 r.2.2.2.1.length),(.os 4 0 r.2.2.2.2.1.length),(.os 5 0 r.2.2.2.2.2.length),(aB r.1.ak.fN.fG),(eU r.1.ak.fN.fL),(aB r.1.ak.fD.fG),(eU r.1.ak.fD.fL),(aI r.1.cu)]),(1,aO 1 cI 0 r.2.1),(2,aO 1 cI 0 r.2.2.1),(3,aM 4 aj aa.d r.2.2.2.1),(4,aO 4 aj aa.d r.2.2.2.2.1),(5,aO 4 aj aa.d r.2.2.2.2.2)] (.tup [])) [.code (Bu 255)] ⟨[(0,(.op 0 0 0)),(1,(aI i)),(2,(aI j))],[(0,vN 12 [(aI C0),(aI bw),(.os 1 0 C1.length),(.os 2 0 C2.length),(.os 3 0 ((b8.set ((i).toNat) bR).length)),(.os 4 0 oj.length),(.os 5 0 gC.length),(aB qh),(eU qi),(aB tF),(eU tG),(aI dc)]),(1,aO 1 cI 0 C1),(2,aO 1 cI 0 C2),(3,aM 4 aj aa.d (b8.set ((i).toNat) bR)),(4,aO 4 aj aa.d oj),(5,aO 4 aj aa.d gC)],6⟩
theorem po (N i j C0 bw dc C1 C2 b8 bR oj):wz N i j C0 bw dc C1 C2 b8 bR oj (gB N i j C0 bw dc C1 C2 b8 bR oj):=by
 intro gC qh qi tF tG r h E hE
 unfold gB at h
 obtain ⟨Vf,h⟩:=ab h
 obtain ⟨X6,h⟩:=ab h
 refine ae hE 0 [] [] [] ([(0,.var 0 [.ag,.ag,.kQ ((C1.set ((i).toNat) (C2.getD ((j).toNat) 0)).length),.kQ ((C2.set ((j).toNat) (C1.getD ((i).toNat) 0)).length),.ag,.ag,.ag,.ag,.ag,.ag,.ag,.ag]),(1,.arr 1 ((C1.set ((i).toNat) (C2.getD ((j).toNat) 0)).length) (fun zi=>cI ((C1.set ((i).toNat) (C2.getD ((j).toNat) 0)).getD zi 0))),(2,.arr 2 ((C2.set ((j).toNat) (C1.getD ((i).toNat) 0)).length) (fun zi=>cI ((C2.set ((j).toNat) (C1.getD ((i).toNat) 0)).getD zi 0)))] ++ kq [3,4,5]) 454 (pc o1 (pc o1 (pc o1 (pc Vf (pc (dS Vf) (pc o1 (pc X6 (pc (dS X6) (pc X6 (pc (dS X6) (pc Vf (pc (dS Vf) (pc (aA C1 ((i).toNat) (C2.getD ((j).toNat) 0)) (pc (aA C2 ((j).toNat) (C1.getD ((i).toNat) 0)) (pc (aA C1 ((i).toNat) (C2.getD ((j).toNat) 0)) (pc (cL cI 0 C1 ((i).toNat) (C2.getD ((j).toNat) 0)) (pc (aA C2 ((j).toNat) (C1.getD ((i).toNat) 0)) (pc (cL cI 0 C2 ((j).toNat) (C1.getD ((i).toNat) 0)) pn)))))))))))))))))) ?_
 obtain rfl:=cJ h
 exact Zf hE 0 Tryz.f72 [] [] (kq [0,1,2,3,4,5]) 454 pn [] pn
theorem vp (N i j C0 bw cd de dj dk dc C1 C2 C3 C5 fuel):p9 N i j C0 bw cd de dj dk dc C1 C2 C3 C5 (ca N i j C0 bw cd de dj dk dc C1 C2 C3 C5 fuel):=by
 induction fuel with
 | zero=>intro _ _ _ _ r h;rw [ca.eq_1] at h;cases h
 | succ fuel ih =>
  intro b8 bR oj x2 r h E hE
  rw [ca.eq_2] at h
  refine ae hE 1 [] [] (kp [0,1,2,7,74,75,76]) (kq [0,1,2] ++ [(3,.qg 3 (b8.length) [((i).toNat,6,bR.length)] (mG b8))] ++ kq [4,5,6]) 23 (pc (Eq.refl b8.length) (pc (mC b8 [((i).toNat,6,bR.length)]) (pc (iM b8) pn))) ?_
  refine dm 1 76 h (fun ta h=>?_) (fun ta h=>?_)
  ·refine ae hE 4 [] [] (kp [0,1,2,7,9,74,75]) (kq [0,1,2] ++ [(3,.qg 3 (b8.length) [((i).toNat,6,bR.length)] (mG b8))] ++ kq [4,5,6]) 55 (pc (Eq.refl b8.length) (pc (mC b8 [((i).toNat,6,bR.length)]) (pc (iM b8) pn))) ?_
   rcases condSplit h with ⟨hA,h⟩ | ⟨hA,h⟩
   ·obtain ⟨c9,h⟩:=ab h
    obtain ⟨N4,h⟩:=ab h
    refine ae hE 1 [(6,oF (.os 6 0 bR.length))] [] (kp [0,1,2,7,9,10,74,75]) (kq [0,1,2] ++ [(3,.qg 3 (b8.length) [((i).toNat,6,bR.length)] (mG b8))] ++ kq [4,5,6,215]) 247 (pc o1 (pc c9 (pc (dS c9) (pc (show (aW [((i).toNat,6,bR.length)] (mG b8) ((x2).toNat))[0]?=some (.os 6 0 bR.length) from (gO (qC hA))) (pc N4 (pc (dS N4) (pc o1 (pc (Eq.refl b8.length) (pc (mC b8 [((i).toNat,6,bR.length)]) (pc (iM b8) pn)))))))))) ?_
    obtain ⟨gj,wv,h⟩:=aQ h
    refine ae hE 1 [(5,oT (aB gj))] [] (kp [0,1,2,7,9,10,74,75,95]) (kq [0,1,2] ++ [(3,.qg 3 (b8.length) [((i).toNat,6,bR.length)] (mG b8))] ++ kq [4,5,6,215]) 375 (pc (fun hg:(x2 != i)=true=>(pc o1 pn)) (pc (fun hg:(x2 != i)=true=>(pc (ji _ _ _ (aF wv hg)) (pc hg pn))) (pc (fun hg:(x2 != i)=true=>(pc hg pn)) (pc (fun hq:(x2 != i)=true=>(pc hq pn)) (pc (Eq.refl b8.length) (pc (mC b8 [((i).toNat,6,bR.length)]) (pc (iM b8) pn))))))) ?_
    refine dm 0 95 h (fun CE h=>?_) (fun CE h=>?_)
    ·obtain ⟨Jw,h⟩:=ab h
     obtain ⟨NZ,h⟩:=ab h
     obtain ⟨bL,DI,h⟩:=aQ h
     obtain ⟨bk,DH,h⟩:=aQ h
     refine ae hE 1 [(20,oT (.agg (aj bL))),(21,oT (.agg (aj bk)))] [] (kp [0,1,2,7,9,10,74,75]) ([(0,.var 0 [.ag,.ag,.ag,.ag,.ag,.kQ ((oj.set ((x2).toNat) bk).length),.ag,.ag,.ag,.ag,.ag,.ag])] ++ kq [1,2] ++ [(3,.qg 3 (b8.length) [((i).toNat,6,bR.length)] (mG b8)),(4,.arr 4 ((oj.set ((x2).toNat) bk).length) (fun zi=>aj ((oj.set ((x2).toNat) bk).getD zi aa.d)))] ++ kq [5,6,215]) 759 (pc o1 (pc o1 (pc Jw (pc (dS Jw) (pc o1 (pc o1 (pc NZ (pc (dS NZ) (pc (cT _ _ _ _ DI) (pc (eH _ _ _ _ DH) (pc Jw (pc (dS Jw) (pc (aA oj ((x2).toNat) bk) (pc (Eq.refl b8.length) (pc (mC b8 [((i).toNat,6,bR.length)]) (pc (iM b8) (pc (aA oj ((x2).toNat) bk) (pc (cL aj aa.d oj ((x2).toNat) bk) pn)))))))))))))))))) ?_
     rcases condSplit h with ⟨Vg,h⟩ | ⟨Vg,h⟩
     ·obtain ⟨GP,wu,h⟩:=aQ h
      obtain ⟨Kh,h⟩:=ab h
      refine ae hE 0 [(7,oF (.os 6 0 bR.length)),(11,⟨[6],false,(.tup []),[(0,aO 4 aj aa.d GP)],0,false,none⟩)] [] (kp [0,1,2] ++ [(7,.kQ (GP.length))] ++ kp [74,75]) (kq [0,1,2] ++ [(3,.qg 3 (b8.length) [((i).toNat,6,GP.length)] (mG b8))] ++ kq [4,5,6]) 951 (pc o1 (pc c9 (pc (dS c9) (pc (show (aW [((i).toNat,6,bR.length)] (mG b8) ((x2).toNat))[0]?=some (.os 6 0 bR.length) from (gO (qC Vg))) (pc o1 (pc (Aq _ _ _ _ _ wu) (pc (show bR.length=GP.length from (Eq.symm Kh)) (pc (Eq.refl b8.length) (pc (show ∀ zm,zm < b8.length→aW [((i).toNat,6,GP.length)] (mG b8) zm=aW [((i).toNat,6,bR.length)] (mG b8) zm from (fun zm _=>(congrArg (fun zn=>aW [((i).toNat,6,zn)] (mG b8) zm) (Eq.symm (Eq.symm Kh))))) (pc (iM b8) pn)))))))))) ?_
      exact cV hE 1 [] (kp [0,1,2,7,74,75]) (kq [0,1,2] ++ [(3,.qg 3 (b8.length) [((i).toNat,6,GP.length)] (mG b8))] ++ kq [4,5,6]) 7 (pc (Eq.refl b8.length) (pc (mC b8 [((i).toNat,6,GP.length)]) (pc (iM b8) pn))) (gL N _ _ _ _ _ _ _ _ _ _ _ _ _ _ _ ih _ _ _ _ h E hE)
     ·obtain ⟨MP,h⟩:=ab h
      refine Sp 3 ((x2).toNat) 4 ((b8.getD ((x2).toNat) []).length) (fun zi=>aj ((b8.getD ((x2).toNat) []).getD zi aa.d)) (pc MP (pc (show aW [((i).toNat,6,bR.length)] (mG b8) ((x2).toNat)=mR 4 aj aa.d (b8.getD ((x2).toNat) []) from (if_neg (rV Vg))) pn)) ?_
      obtain ⟨ny,yj,h⟩:=aQ h
      obtain ⟨T8,h⟩:=ab h
      refine ae hE 0 [(7,oF (.os 759 0 ((b8.getD ((x2).toNat) []).length))),(11,⟨[759,6],false,(.tup []),[(0,aO 4 aj aa.d ny),(1,aO 4 aj aa.d bR)],0,false,none⟩)] [] (kp [0,1,2,7,74,75]) (kq [0,1,2] ++ [(3,.qg 3 (b8.length) [((x2).toNat,759,ny.length),((i).toNat,6,bR.length)] (mG b8))] ++ kq [4,5,6,759]) 967 (pc o1 (pc c9 (pc (dS c9) (pc (show (aW [((x2).toNat,759,(b8.getD ((x2).toNat) []).length),((i).toNat,6,bR.length)] (mG b8) ((x2).toNat))[0]?=some (.os 759 0 ((b8.getD ((x2).toNat) []).length)) from (gO rfl)) (pc o1 (pc (mT _ _ _ _ _ _ yj) (pc (Eq.refl b8.length) (pc (show ∀ zm,zm < b8.length→aW [((x2).toNat,759,ny.length),((i).toNat,6,bR.length)] (mG b8) zm=aW [((x2).toNat,759,(b8.getD ((x2).toNat) []).length),((i).toNat,6,bR.length)] (mG b8) zm from (fun zm _=>(congrArg (fun zn=>aW [((x2).toNat,759,zn),((i).toNat,6,bR.length)] (mG b8) zm) (Eq.symm (Eq.symm T8))))) (pc (iM b8) pn))))))))) ?_
      refine P5 3 759 ((x2).toNat) (pc MP (pc (show aW [((x2).toNat,759,ny.length),((i).toNat,6,bR.length)] (mG b8) ((x2).toNat)=[.os 759 0 ny.length] from if_pos rfl) (pc (show ∀ zj,zj < ny.length→nY (aj (ny.getD zj aa.d))=true from fun _ _=>rfl) pn))) ?_
      refine P4 hE [] (kp [0,1,2,7,74,75]) ([(0,.var 0 [.ag,.ag,.ag,.ag,.kQ ((b8.set ((x2).toNat) ny).length),.ag,.ag,.ag,.ag,.ag,.ag,.ag])] ++ kq [1,2] ++ [(3,.qg 3 ((b8.set ((x2).toNat) ny).length) [((i).toNat,6,bR.length)] (mG (b8.set ((x2).toNat) ny)))] ++ kq [4,5,6]) 967 (pc (aA b8 ((x2).toNat) ny) (pc (aA b8 ((x2).toNat) ny) (pc (Bc (sz:=4) (c:=aj) (d:=aa.d) b8 ((x2).toNat) 759 ny.length ny [((i).toNat,6,bR.length)] MP (Zg (Ne.symm (rV Vg)) Fm)) (pc (iM (b8.set ((x2).toNat) ny)) pn)))) ?_
      exact cV hE 1 [] (kp [0,1,2,7,74,75]) (kq [0,1,2] ++ [(3,.qg 3 ((b8.set ((x2).toNat) ny).length) [((i).toNat,6,bR.length)] (mG (b8.set ((x2).toNat) ny)))] ++ kq [4,5,6]) 7 (pc (Eq.refl ((b8.set ((x2).toNat) ny).length)) (pc (mC (b8.set ((x2).toNat) ny) [((i).toNat,6,bR.length)]) (pc (iM (b8.set ((x2).toNat) ny)) pn))) (gL N _ _ _ _ _ _ _ _ _ _ _ _ _ _ _ ih _ _ _ _ h E hE)
    ·exact cV hE 2 [] (kp [0,1,2,7,74,75]) (kq [0,1,2] ++ [(3,.qg 3 (b8.length) [((i).toNat,6,bR.length)] (mG b8))] ++ kq [4,5,6]) 7 (pc (Eq.refl b8.length) (pc (mC b8 [((i).toNat,6,bR.length)]) (pc (iM b8) pn))) (gL N _ _ _ _ _ _ _ _ _ _ _ _ _ _ _ ih _ _ _ _ h E hE)
   ·obtain ⟨N3,h⟩:=ab h
    refine Sp 3 ((x2).toNat) 4 ((b8.getD ((x2).toNat) []).length) (fun zi=>aj ((b8.getD ((x2).toNat) []).getD zi aa.d)) (pc N3 (pc (show aW [((i).toNat,6,bR.length)] (mG b8) ((x2).toNat)=mR 4 aj aa.d (b8.getD ((x2).toNat) []) from (if_neg (rV hA))) pn)) ?_
    obtain ⟨Vh,h⟩:=ab h
    obtain ⟨WX,h⟩:=ab h
    refine ae hE 1 [(6,oF (.os 55 0 ((b8.getD ((x2).toNat) []).length)))] [] (kp [0,1,2,7,9,10,74,75]) (kq [0,1,2] ++ [(3,.qg 3 (b8.length) [((x2).toNat,55,(b8.getD ((x2).toNat) []).length),((i).toNat,6,bR.length)] (mG b8))] ++ kq [4,5,6,55,231]) 263 (pc o1 (pc Vh (pc (dS Vh) (pc (show (aW [((x2).toNat,55,(b8.getD ((x2).toNat) []).length),((i).toNat,6,bR.length)] (mG b8) ((x2).toNat))[0]?=some (.os 55 0 ((b8.getD ((x2).toNat) []).length)) from (gO rfl)) (pc WX (pc (dS WX) (pc o1 (pc (Eq.refl b8.length) (pc (mC b8 [((x2).toNat,55,(b8.getD ((x2).toNat) []).length),((i).toNat,6,bR.length)]) (pc (iM b8) pn)))))))))) ?_
    refine P5 3 55 ((x2).toNat) (pc N3 (pc (show aW [((x2).toNat,55,(b8.getD ((x2).toNat) []).length),((i).toNat,6,bR.length)] (mG b8) ((x2).toNat)=[.os 55 0 (b8.getD ((x2).toNat) []).length] from if_pos rfl) (pc (show ∀ zj,zj < (b8.getD ((x2).toNat) []).length→nY (aj ((b8.getD ((x2).toNat) []).getD zj aa.d))=true from fun _ _=>rfl) pn))) ?_
    refine P4 hE [] (kp [0,1,2,7,9,10,74,75]) (kq [0,1,2] ++ [(3,.qg 3 (b8.length) [((i).toNat,6,bR.length)] (mG b8))] ++ kq [4,5,6,231]) 263 (pc (Eq.refl (b8.length)) (pc (uW (sz:=4) (c:=aj) (d:=aa.d) b8 ((x2).toNat) 55 ((b8.getD ((x2).toNat) []).length) [((i).toNat,6,bR.length)] (Zg (Ne.symm (rV hA)) Fm)) (pc (iM b8) pn))) ?_
    obtain ⟨sU,FT,h⟩:=aQ h
    refine ae hE 1 [(5,oT (aB sU))] [] (kp [0,1,2,7,9,10,74,75,95]) (kq [0,1,2] ++ [(3,.qg 3 (b8.length) [((i).toNat,6,bR.length)] (mG b8))] ++ kq [4,5,6,231]) 391 (pc (fun hg:(x2 != i)=true=>(pc o1 pn)) (pc (fun hg:(x2 != i)=true=>(pc (ji _ _ _ (aF FT hg)) (pc hg pn))) (pc (fun hg:(x2 != i)=true=>(pc hg pn)) (pc (fun hq:(x2 != i)=true=>(pc hq pn)) (pc (Eq.refl b8.length) (pc (mC b8 [((i).toNat,6,bR.length)]) (pc (iM b8) pn))))))) ?_
    refine dm 0 95 h (fun IQ h=>?_) (fun IQ h=>?_)
    ·obtain ⟨Vi,h⟩:=ab h
     obtain ⟨WY,h⟩:=ab h
     obtain ⟨cw,FU,h⟩:=aQ h
     obtain ⟨eu,IV,h⟩:=aQ h
     refine ae hE 1 [(20,oT (.agg (aj cw))),(21,oT (.agg (aj eu)))] [] (kp [0,1,2,7,9,10,74,75]) ([(0,.var 0 [.ag,.ag,.ag,.ag,.ag,.kQ ((oj.set ((x2).toNat) eu).length),.ag,.ag,.ag,.ag,.ag,.ag])] ++ kq [1,2] ++ [(3,.qg 3 (b8.length) [((i).toNat,6,bR.length)] (mG b8)),(4,.arr 4 ((oj.set ((x2).toNat) eu).length) (fun zi=>aj ((oj.set ((x2).toNat) eu).getD zi aa.d)))] ++ kq [5,6,231]) 775 (pc o1 (pc o1 (pc Vi (pc (dS Vi) (pc o1 (pc o1 (pc WY (pc (dS WY) (pc (cT _ _ _ _ FU) (pc (eH _ _ _ _ IV) (pc Vi (pc (dS Vi) (pc (aA oj ((x2).toNat) eu) (pc (Eq.refl b8.length) (pc (mC b8 [((i).toNat,6,bR.length)]) (pc (iM b8) (pc (aA oj ((x2).toNat) eu) (pc (cL aj aa.d oj ((x2).toNat) eu) pn)))))))))))))))))) ?_
     refine Sp 3 ((x2).toNat) 4 ((b8.getD ((x2).toNat) []).length) (fun zi=>aj ((b8.getD ((x2).toNat) []).getD zi aa.d)) (pc N3 (pc (show aW [((i).toNat,6,bR.length)] (mG b8) ((x2).toNat)=mR 4 aj aa.d (b8.getD ((x2).toNat) []) from (if_neg (rV hA))) pn)) ?_
     obtain ⟨nz,Vj,h⟩:=aQ h
     obtain ⟨X7,h⟩:=ab h
     refine ae hE 0 [(7,oF (.os 775 0 ((b8.getD ((x2).toNat) []).length))),(11,⟨[775,6],false,(.tup []),[(0,aO 4 aj aa.d nz),(1,aO 4 aj aa.d bR)],0,false,none⟩)] [] (kp [0,1,2,7,74,75]) (kq [0,1,2] ++ [(3,.qg 3 (b8.length) [((x2).toNat,775,nz.length),((i).toNat,6,bR.length)] (mG b8))] ++ kq [4,5,6,775]) 983 (pc o1 (pc Vh (pc (dS Vh) (pc (show (aW [((x2).toNat,775,(b8.getD ((x2).toNat) []).length),((i).toNat,6,bR.length)] (mG b8) ((x2).toNat))[0]?=some (.os 775 0 ((b8.getD ((x2).toNat) []).length)) from (gO rfl)) (pc o1 (pc (mT _ _ _ _ _ _ Vj) (pc (Eq.refl b8.length) (pc (show ∀ zm,zm < b8.length→aW [((x2).toNat,775,nz.length),((i).toNat,6,bR.length)] (mG b8) zm=aW [((x2).toNat,775,(b8.getD ((x2).toNat) []).length),((i).toNat,6,bR.length)] (mG b8) zm from (fun zm _=>(congrArg (fun zn=>aW [((x2).toNat,775,zn),((i).toNat,6,bR.length)] (mG b8) zm) (Eq.symm (Eq.symm X7))))) (pc (iM b8) pn))))))))) ?_
     refine P5 3 775 ((x2).toNat) (pc N3 (pc (show aW [((x2).toNat,775,nz.length),((i).toNat,6,bR.length)] (mG b8) ((x2).toNat)=[.os 775 0 nz.length] from if_pos rfl) (pc (show ∀ zj,zj < nz.length→nY (aj (nz.getD zj aa.d))=true from fun _ _=>rfl) pn))) ?_
     refine P4 hE [] (kp [0,1,2,7,74,75]) ([(0,.var 0 [.ag,.ag,.ag,.ag,.kQ ((b8.set ((x2).toNat) nz).length),.ag,.ag,.ag,.ag,.ag,.ag,.ag])] ++ kq [1,2] ++ [(3,.qg 3 ((b8.set ((x2).toNat) nz).length) [((i).toNat,6,bR.length)] (mG (b8.set ((x2).toNat) nz)))] ++ kq [4,5,6]) 983 (pc (aA b8 ((x2).toNat) nz) (pc (aA b8 ((x2).toNat) nz) (pc (Bc (sz:=4) (c:=aj) (d:=aa.d) b8 ((x2).toNat) 775 nz.length nz [((i).toNat,6,bR.length)] N3 (Zg (Ne.symm (rV hA)) Fm)) (pc (iM (b8.set ((x2).toNat) nz)) pn)))) ?_
     exact cV hE 1 [] (kp [0,1,2,7,74,75]) (kq [0,1,2] ++ [(3,.qg 3 ((b8.set ((x2).toNat) nz).length) [((i).toNat,6,bR.length)] (mG (b8.set ((x2).toNat) nz)))] ++ kq [4,5,6]) 7 (pc (Eq.refl ((b8.set ((x2).toNat) nz).length)) (pc (mC (b8.set ((x2).toNat) nz) [((i).toNat,6,bR.length)]) (pc (iM (b8.set ((x2).toNat) nz)) pn))) (gL N _ _ _ _ _ _ _ _ _ _ _ _ _ _ _ ih _ _ _ _ h E hE)
    ·exact cV hE 2 [] (kp [0,1,2,7,74,75]) (kq [0,1,2] ++ [(3,.qg 3 (b8.length) [((i).toNat,6,bR.length)] (mG b8))] ++ kq [4,5,6]) 7 (pc (Eq.refl b8.length) (pc (mC b8 [((i).toNat,6,bR.length)]) (pc (iM b8) pn))) (gL N _ _ _ _ _ _ _ _ _ _ _ _ _ _ _ ih _ _ _ _ h E hE)
  ·obtain ⟨X8,h⟩:=ab h
   refine ae hE 3 [] [] (kp [0,1,2,7,11]) (kq [0,1,2] ++ [(3,.qg 3 (b8.length) [((i).toNat,6,bR.length)] (mG b8))] ++ kq [4,5,6,135]) 167 (pc o1 (pc X8 (pc (dS X8) (pc o1 (pc (Eq.refl b8.length) (pc (mC b8 [((i).toNat,6,bR.length)]) (pc (iM b8) pn))))))) ?_
   obtain ⟨Fv,Vk,h⟩:=aQ h
   refine ae hE 1 [(1,oT (aB Fv))] [] (kp [0,1,2,7,11,141]) (kq [0,1,2] ++ [(3,.qg 3 (b8.length) [((i).toNat,6,bR.length)] (mG b8))] ++ kq [4,5,6,135]) 215 (pc o1 (pc (ji _ _ _ Vk) (pc (Eq.refl b8.length) (pc (mC b8 [((i).toNat,6,bR.length)]) (pc (iM b8) pn))))) ?_
   refine dm 0 141 h (fun SD h=>?_) (fun SD h=>?_)
   ·obtain ⟨V2,h⟩:=ab h
    obtain ⟨dT,Vl,h⟩:=aQ h
    obtain ⟨fB,ZE,h⟩:=aQ h
    refine ae hE 1 [(13,oT (.agg (aj dT))),(14,oT (.agg (aj fB)))] [] (kp [0,1,2,7,11]) (kq [0,1,2] ++ [(3,.qg 3 (b8.length) [((i).toNat,6,bR.length)] (mG b8))] ++ kq [4,5,6,135]) 503 (pc o1 (pc o1 (pc o1 (pc V2 (pc (dS V2) (pc (cT _ _ _ _ Vl) (pc (eH _ _ _ _ ZE) (pc o1 (pc (Eq.refl b8.length) (pc (mC b8 [((i).toNat,6,bR.length)]) (pc (iM b8) pn))))))))))) ?_
    obtain ⟨HQ,ZF,h⟩:=aQ h
    obtain ⟨V3,h⟩:=ab h
    refine ae hE 0 [(8,⟨[5,6],false,(.tup []),[(0,aO 4 aj aa.d HQ),(1,aO 4 aj aa.d bR)],0,false,none⟩)] [] (kp [0,1,2]) ([(0,.var 0 [.ag,.ag,.ag,.ag,.ag,.ag,.kQ (HQ.length),.ag,.ag,.ag,.ag,.ag])] ++ kq [1,2] ++ [(3,.qg 3 (b8.length) [((i).toNat,6,bR.length)] (mG b8))] ++ kq [4,5,6]) 647 (pc o1 (pc o1 (pc (mT _ _ _ _ _ _ ZF) (pc (show C5.length=HQ.length from (Eq.symm V3)) (pc (Eq.refl b8.length) (pc (mC b8 [((i).toNat,6,bR.length)]) (pc (iM b8) pn))))))) ?_
    obtain ⟨V4,h⟩:=ab h
    refine P5 3 6 ((i).toNat) (pc V4 (pc (show aW [((i).toNat,6,bR.length)] (mG b8) ((i).toNat)=[.os 6 0 bR.length] from if_pos rfl) (pc (show ∀ zj,zj < bR.length→nY (aj (bR.getD zj aa.d))=true from fun _ _=>rfl) pn))) ?_
    refine P4 hE [] (kp [0,1,2]) ([(0,.var 0 [.ag,.ag,.ag,.ag,.kQ ((b8.set ((i).toNat) bR).length),.ag,.ag,.ag,.ag,.ag,.ag,.ag])] ++ kq [1,2] ++ [(3,.qg 3 ((b8.set ((i).toNat) bR).length) [] (mG (b8.set ((i).toNat) bR)))] ++ kq [4,5]) 647 (pc (aA b8 ((i).toNat) bR) (pc (aA b8 ((i).toNat) bR) (pc (Bc (sz:=4) (c:=aj) (d:=aa.d) b8 ((i).toNat) 6 bR.length bR [] V4 Fm) (pc (iM (b8.set ((i).toNat) bR)) pn)))) ?_
    exact cV hE 0 [] (kp [0,1,2]) (kq [0,1,2,3,4,5]) 6 pn (po N _ _ _ _ _ _ _ _ _ _ _ _ _ _ _ _ h E hE)
   ·obtain ⟨c29,h⟩:=ab h
    refine P5 3 6 ((i).toNat) (pc c29 (pc (show aW [((i).toNat,6,bR.length)] (mG b8) ((i).toNat)=[.os 6 0 bR.length] from if_pos rfl) (pc (show ∀ zj,zj < bR.length→nY (aj (bR.getD zj aa.d))=true from fun _ _=>rfl) pn))) ?_
    refine P4 hE [] (kp [0,1,2]) ([(0,.var 0 [.ag,.ag,.ag,.ag,.kQ ((b8.set ((i).toNat) bR).length),.ag,.ag,.ag,.ag,.ag,.ag,.ag])] ++ kq [1,2] ++ [(3,.qg 3 ((b8.set ((i).toNat) bR).length) [] (mG (b8.set ((i).toNat) bR)))] ++ kq [4,5,135]) 215 (pc (aA b8 ((i).toNat) bR) (pc (aA b8 ((i).toNat) bR) (pc (Bc (sz:=4) (c:=aj) (d:=aa.d) b8 ((i).toNat) 6 bR.length bR [] c29 Fm) (pc (iM (b8.set ((i).toNat) bR)) pn)))) ?_
    exact cV hE 1 [] (kp [0,1,2]) (kq [0,1,2,3,4,5]) 6 pn (po N _ _ _ _ _ _ _ _ _ _ _ _ _ _ _ _ h E hE)
theorem vq (N i j C0 bw cd de dj dk dc C1 C2 C3 C4 C5 fuel):p8 N i j C0 bw cd de dj dk dc C1 C2 C3 C4 C5 (dy N i j C0 bw cd de dj dk dc C1 C2 C3 C4 C5 fuel):=by
 induction fuel with
 | zero=>intro _ _ r h;rw [dy.eq_1] at h;cases h
 | succ fuel ih =>
  intro sW x r h E hE
  rw [dy.eq_2] at h
  refine ae hE 1 [] [] (kp [0,1,2,6,7,30,31,32]) (kq [0,1,2] ++ [(3,.qg 3 (C3.length) [((i).toNat,6,sW.length)] (mG C3))] ++ kq [4,5,6,7]) 24 (pc (Eq.refl C3.length) (pc (mC C3 [((i).toNat,6,sW.length)]) (pc (iM C3) pn))) ?_
  refine dm 1 32 h (fun dW h=>?_) (fun dW h=>?_)
  ·refine ae hE 4 [] [] (kp [0,1,2,6,7,8,30,31]) (kq [0,1,2] ++ [(3,.qg 3 (C3.length) [((i).toNat,6,sW.length)] (mG C3))] ++ kq [4,5,6,7]) 56 (pc (Eq.refl C3.length) (pc (mC C3 [((i).toNat,6,sW.length)]) (pc (iM C3) pn))) ?_
   refine ae hE 1 [] [] (kp [0,1,2,6,7,8,30,31,36]) (kq [0,1,2] ++ [(3,.qg 3 (C3.length) [((i).toNat,6,sW.length)] (mG C3))] ++ kq [4,5,6,7]) 104 (pc (Eq.refl C3.length) (pc (mC C3 [((i).toNat,6,sW.length)]) (pc (iM C3) pn))) ?_
   refine dm 0 36 h (fun jh h=>?_) (fun jh h=>?_)
   ·obtain ⟨c5,h⟩:=ab h
    obtain ⟨kn,hr,h⟩:=aQ h
    obtain ⟨aY,eJ,h⟩:=aQ h
    refine ae hE 0 [(7,oT (.agg (aj kn))),(8,oT (.agg (aj aY)))] [] (kp [0,1,2,6] ++ [(7,.kQ ((sW.set ((x).toNat) aY).length))] ++ kp [30,31]) (kq [0,1,2] ++ [(3,.qg 3 (C3.length) [((i).toNat,6,(sW.set ((x).toNat) aY).length)] (mG C3))] ++ kq [4,5] ++ [(6,.arr 6 ((sW.set ((x).toNat) aY).length) (fun zi=>aj ((sW.set ((x).toNat) aY).getD zi aa.d)))] ++ kq [7]) 280 (pc c5 (pc (dS c5) (pc o1 (pc (tT _ _ _ _ hr) (pc (kJ _ _ _ eJ) (pc c5 (pc (dS c5) (pc (aA sW ((x).toNat) aY) (pc (Eq.refl C3.length) (pc (show ∀ zm,zm < C3.length→aW [((i).toNat,6,(sW.set ((x).toNat) aY).length)] (mG C3) zm=aW [((i).toNat,6,sW.length)] (mG C3) zm from (fun zm _=>(congrArg (fun zn=>aW [((i).toNat,6,zn)] (mG C3) zm) (Eq.symm (ni rfl))))) (pc (iM C3) (pc (aA sW ((x).toNat) aY) (pc (cL aj aa.d sW ((x).toNat) aY) pn))))))))))))) ?_
    exact cV hE 1 [] (kp [0,1,2,6,7,30,31]) (kq [0,1,2] ++ [(3,.qg 3 (C3.length) [((i).toNat,6,(sW.set ((x).toNat) aY).length)] (mG C3))] ++ kq [4,5,6,7]) 8 (pc (Eq.refl C3.length) (pc (mC C3 [((i).toNat,6,(sW.set ((x).toNat) aY).length)]) (pc (iM C3) pn))) (pk N _ _ _ _ _ _ _ _ _ _ _ _ _ _ _ _ ih _ _ h E hE)
   ·exact cV hE 2 [] (kp [0,1,2,6,7,30,31]) (kq [0,1,2] ++ [(3,.qg 3 (C3.length) [((i).toNat,6,sW.length)] (mG C3))] ++ kq [4,5,6,7]) 8 (pc (Eq.refl C3.length) (pc (mC C3 [((i).toNat,6,sW.length)]) (pc (iM C3) pn))) (pk N _ _ _ _ _ _ _ _ _ _ _ _ _ _ _ _ ih _ _ h E hE)
  ·obtain ⟨aw,jP,h⟩:=aQ h
   obtain ⟨kE,mz,h⟩:=aQ h
   obtain ⟨c6,h⟩:=ab h
   refine ae hE 2 [(2,oT (.agg (aj aw))),(4,oT (.agg (aj kE)))] [] (kp [0,1,2,6] ++ [(7,.kQ ((sW.set ((j).toNat) kE).length))]) (kq [0,1,2] ++ [(3,.qg 3 (C3.length) [((i).toNat,6,(sW.set ((j).toNat) kE).length)] (mG C3))] ++ kq [4,5] ++ [(6,.arr 6 ((sW.set ((j).toNat) kE).length) (fun zi=>aj ((sW.set ((j).toNat) kE).getD zi aa.d)))] ++ kq [7]) 136 (pc (gX _ _ _ jP) (pc o1 (pc (tT _ _ _ _ mz) (pc c6 (pc (dS c6) (pc (aA sW ((j).toNat) kE) (pc (Eq.refl C3.length) (pc (show ∀ zm,zm < C3.length→aW [((i).toNat,6,(sW.set ((j).toNat) kE).length)] (mG C3) zm=aW [((i).toNat,6,sW.length)] (mG C3) zm from (fun zm _=>(congrArg (fun zn=>aW [((i).toNat,6,zn)] (mG C3) zm) (Eq.symm (ni rfl))))) (pc (iM C3) (pc (aA sW ((j).toNat) kE) (pc (cL aj aa.d sW ((j).toNat) kE) pn))))))))))) ?_
   obtain ⟨c7,h⟩:=ab h
   obtain ⟨LD,qz,h⟩:=aQ h
   obtain ⟨l3,vj,h⟩:=aQ h
   refine ae hE 1 [(13,oT (.agg (aj LD))),(14,oT (.agg (aj l3)))] [] (kp [0,1,2,7]) ([(0,.var 0 [.ag,.ag,.ag,.ag,.ag,.kQ ((C4.set ((i).toNat) l3).length),.ag,.ag,.ag,.ag,.ag,.ag])] ++ kq [1,2] ++ [(3,.qg 3 (C3.length) [((i).toNat,6,(sW.set ((j).toNat) kE).length)] (mG C3)),(4,.arr 4 ((C4.set ((i).toNat) l3).length) (fun zi=>aj ((C4.set ((i).toNat) l3).getD zi aa.d)))] ++ kq [5,6]) 408 (pc o1 (pc o1 (pc c7 (pc (dS c7) (pc o1 (pc (tT _ _ _ _ qz) (pc (kJ _ _ _ vj) (pc c7 (pc (dS c7) (pc (aA C4 ((i).toNat) l3) (pc (Eq.refl C3.length) (pc (mC C3 [((i).toNat,6,(sW.set ((j).toNat) kE).length)]) (pc (iM C3) (pc (aA C4 ((i).toNat) l3) (pc (cL aj aa.d C4 ((i).toNat) l3) pn))))))))))))))) ?_
   refine ae hE 2 [] [] (kp [0,1,2,7,74,75]) (kq [0,1,2] ++ [(3,.qg 3 (C3.length) [((i).toNat,6,(sW.set ((j).toNat) kE).length)] (mG C3))] ++ kq [4,5,6]) 504 (pc o1 (pc (Eq.refl C3.length) (pc (mC C3 [((i).toNat,6,(sW.set ((j).toNat) kE).length)]) (pc (iM C3) pn)))) ?_
   exact cV hE 2 [] (kp [0,1,2,7,74,75]) (kq [0,1,2] ++ [(3,.qg 3 (C3.length) [((i).toNat,6,(sW.set ((j).toNat) kE).length)] (mG C3))] ++ kq [4,5,6]) 7 (pc (Eq.refl C3.length) (pc (mC C3 [((i).toNat,6,(sW.set ((j).toNat) kE).length)]) (pc (iM C3) pn))) (vp N _ _ _ _ _ _ _ _ _ _ _ _ _ N _ _ _ _ _ h E hE)
theorem nF (N i j C0 bw cd de dj dk dc C1 C2 C3 C4 C5 r) (h:ju N i j C0 bw cd de dj dk dc C1 C2 C3 C4 C5=some r):Sd 72 [(.op 0 0 0),(aI i),(aI j)] [(0,vN 12 [(aI C0),(aI bw),(.os 1 0 C1.length),(.os 2 0 C2.length),(.os 3 0 C3.length),(.os 4 0 C4.length),(.os 5 0 C5.length),(aB cd),(eU de),(aB dj),(eU dk),(aI dc)]),(1,aO 1 cI 0 C1),(2,aO 1 cI 0 C2),(3,aM 4 aj aa.d C3),(4,aO 4 aj aa.d C4),(5,aO 4 aj aa.d C5)] 6 (.tup []) [(0,vN 12 [(aI r.1.xk),(aI r.1.xl),(.os 1 0 r.2.1.length),(.os 2 0 r.2.2.1.length),(.os 3 0 r.2.2.2.1.length),(.os 4 0 r.2.2.2.2.1.length),(.os 5 0 r.2.2.2.2.2.length),(aB r.1.ak.fN.fG),(eU r.1.ak.fN.fL),(aB r.1.ak.fD.fG),(eU r.1.ak.fD.fL),(aI r.1.cu)]),(1,aO 1 cI 0 r.2.1),(2,aO 1 cI 0 r.2.2.1),(3,aM 4 aj aa.d r.2.2.2.1),(4,aO 4 aj aa.d r.2.2.2.2.1),(5,aO 4 aj aa.d r.2.2.2.2.2)]:=by
 unfold ju at h
 refine gU (fu:=Tryz.f72) (c:=Bu 1) (nt:=194) (fun hm=>absurd hm (by decide)) ?_
 intro E hE
 obtain ⟨c2,h⟩:=ab h
 refine Sp 3 ((i).toNat) 4 ((C3.getD ((i).toNat) []).length) (fun zi=>aj ((C3.getD ((i).toNat) []).getD zi aa.d)) (pc c2 (pc (show aW [] (mG C3) ((i).toNat)=mR 4 aj aa.d (C3.getD ((i).toNat) []) from rfl) pn)) ?_
 obtain ⟨c3,h⟩:=ab h
 obtain ⟨c4,h⟩:=ab h
 refine ae hE 1 [(6,oF (.os 6 0 ((C3.getD ((i).toNat) []).length)))] [] (kp [0,1,2,6]) (kq [0,1,2] ++ [(3,.qg 3 (C3.length) [((i).toNat,6,(C3.getD ((i).toNat) []).length)] (mG C3))] ++ kq [4,5,6,182]) 214 (pc o1 (pc c3 (pc (dS c3) (pc (show (aW [((i).toNat,6,(C3.getD ((i).toNat) []).length)] (mG C3) ((i).toNat))[0]?=some (.os 6 0 ((C3.getD ((i).toNat) []).length)) from (gO rfl)) (pc c4 (pc (dS c4) (pc o1 (pc (Eq.refl C3.length) (pc (mC C3 [((i).toNat,6,(C3.getD ((i).toNat) []).length)]) (pc (iM C3) pn)))))))))) ?_
 refine P5 3 6 ((i).toNat) (pc c2 (pc (show aW [((i).toNat,6,(C3.getD ((i).toNat) []).length)] (mG C3) ((i).toNat)=[.os 6 0 (C3.getD ((i).toNat) []).length] from if_pos rfl) (pc (show ∀ zj,zj < (C3.getD ((i).toNat) []).length→nY (aj ((C3.getD ((i).toNat) []).getD zj aa.d))=true from fun _ _=>rfl) pn))) ?_
 refine P4 hE [] (kp [0,1,2,6]) (kq [0,1,2] ++ [(3,.qg 3 (C3.length) [] (mG C3))] ++ kq [4,5,182]) 214 (pc (Eq.refl (C3.length)) (pc (uW (sz:=4) (c:=aj) (d:=aa.d) C3 ((i).toNat) 6 ((C3.getD ((i).toNat) []).length) [] Fm) (pc (iM C3) pn))) ?_
 refine Sp 3 ((i).toNat) 4 ((C3.getD ((i).toNat) []).length) (fun zi=>aj ((C3.getD ((i).toNat) []).getD zi aa.d)) (pc c2 (pc (show aW [] (mG C3) ((i).toNat)=mR 4 aj aa.d (C3.getD ((i).toNat) []) from rfl) pn)) ?_
 refine ae hE 1 [(6,oF (.os 214 0 ((C3.getD ((i).toNat) []).length)))] [] (kp [0,1,2,6,7]) (kq [0,1,2] ++ [(3,.qg 3 (C3.length) [((i).toNat,214,(C3.getD ((i).toNat) []).length)] (mG C3))] ++ kq [4,5,182,214]) 358 (pc o1 (pc c3 (pc (dS c3) (pc (show (aW [((i).toNat,214,(C3.getD ((i).toNat) []).length)] (mG C3) ((i).toNat))[0]?=some (.os 214 0 ((C3.getD ((i).toNat) []).length)) from (gO rfl)) (pc (Eq.refl C3.length) (pc (mC C3 [((i).toNat,214,(C3.getD ((i).toNat) []).length)]) (pc (iM C3) pn))))))) ?_
 refine ae hE 2 [] [] (kp [0,1,2,6,7,30,31]) (kq [0,1,2] ++ [(3,.qg 3 (C3.length) [((i).toNat,214,(C3.getD ((i).toNat) []).length)] (mG C3))] ++ kq [4,5,182,214]) 406 (pc (Eq.refl C3.length) (pc (mC C3 [((i).toNat,214,(C3.getD ((i).toNat) []).length)]) (pc (iM C3) pn))) ?_
 exact cV hE 2 [] (kp [0,1,2,6,7,30,31]) (kq [0,1,2] ++ [(3,.qg 3 (C3.length) [((i).toNat,214,(C3.getD ((i).toNat) []).length)] (mG C3))] ++ kq [4,5] ++ [(6,.ag 214),(7,.ag 182)]) 8 (pc (Eq.refl C3.length) (pc (mC C3 [((i).toNat,214,(C3.getD ((i).toNat) []).length)]) (pc (iM C3) pn))) (vq N _ _ _ _ _ _ _ _ _ _ _ _ _ _ N _ _ _ h E hE)
noncomputable abbrev LP:=bV Tryz.f108
def n4 (N:Nat) (C0:Int) (bw:Int) (cd:Bool) (de:List Int) (dj:Bool) (dk:List Int) (dc:Int) (C1:List Int) (C2:List Int) (C3:List (List aa)) (C4:List aa) (C5:List aa) (K:Int→Int→Option (Int)):Prop:=∀ (dD:Int) (x:Int) (r:Int),K dD x=some r→∀ E,bq E 6→aD Tryz.prog E 108 46 (bd E [(0,vN 12 [(aI C0),(aI bw),(.os 1 0 C1.length),(.os 2 0 C2.length),(.os 3 0 C3.length),(.os 4 0 C4.length),(.os 5 0 C5.length),(aB cd),(eU de),(aB dj),(eU dk),(aI dc)]),(1,aO 1 cI 0 C1),(2,aO 1 cI 0 C2),(3,aM 4 aj aa.d C3),(4,aO 4 aj aa.d C4),(5,aO 4 aj aa.d C5)] (aI r)) [.code (LP 116),.inLoop (LP 116),.inBlock 0,.code (LP 15)] ⟨[(0,(.op 0 0 0)),(3,(aI dD)),(9,(aI ((C2.length:Nat):Int))),(10,(aI x))],[(0,vN 12 [(aI C0),(aI bw),(.os 1 0 C1.length),(.os 2 0 C2.length),(.os 3 0 C3.length),(.os 4 0 C4.length),(.os 5 0 C5.length),(aB cd),(eU de),(aB dj),(eU dk),(aI dc)]),(1,aO 1 cI 0 C1),(2,aO 1 cI 0 C2),(3,aM 4 aj aa.d C3),(4,aO 4 aj aa.d C4),(5,aO 4 aj aa.d C5)],6⟩
def tJ (N:Nat) (C0:Int) (bw:Int) (cd:Bool) (de:List Int) (dj:Bool) (dk:List Int) (dc:Int) (C1:List Int) (C2:List Int) (C3:List (List aa)) (C4:List aa) (C5:List aa) (x:Int) (K:Int→Option (Int)):Prop:=∀ (x6:Int) (r:Int),K x6=some r→∀ E,bq E 6→aD Tryz.prog E 108 46 (bd E [(0,vN 12 [(aI C0),(aI bw),(.os 1 0 C1.length),(.os 2 0 C2.length),(.os 3 0 C3.length),(.os 4 0 C4.length),(.os 5 0 C5.length),(aB cd),(eU de),(aB dj),(eU dk),(aI dc)]),(1,aO 1 cI 0 C1),(2,aO 1 cI 0 C2),(3,aM 4 aj aa.d C3),(4,aO 4 aj aa.d C4),(5,aO 4 aj aa.d C5)] (aI r)) [.code (LP 935),.inLoop (LP 116),.inBlock 0,.code (LP 15)] ⟨[(0,(.op 0 0 0)),(3,(aI x6)),(9,(aI ((C2.length:Nat):Int))),(10,(aI x))],[(0,vN 12 [(aI C0),(aI bw),(.os 1 0 C1.length),(.os 2 0 C2.length),(.os 3 0 C3.length),(.os 4 0 C4.length),(.os 5 0 C5.length),(aB cd),(eU de),(aB dj),(eU dk),(aI dc)]),(1,aO 1 cI 0 C1),(2,aO 1 cI 0 C2),(3,aM 4 aj aa.d C3),(4,aO 4 aj aa.d C4),(5,aO 4 aj aa.d C5)],6⟩
theorem nG (N:Nat) (C0:Int) (bw:Int) (cd:Bool) (de:List Int) (dj:Bool) (dk:List Int) (dc:Int) (C1:List Int) (C2:List Int) (C3:List (List aa)) (C4:List aa) (C5:List aa) (x:Int) (iB:Int→Int→Option (Int)) (th:n4 N C0 bw cd de dj dk dc C1 C2 C3 C4 C5 iB):tJ N C0 bw cd de dj dk dc C1 C2 C3 C4 C5 x (gD N C0 bw cd de dj dk dc C1 C2 C3 C4 C5 x iB):=by
 intro x6 r h E hE
 unfold gD at h
 refine ae hE 0 [] [] (kp [0,3,9,10]) (kq [0,1,2,3,4,5]) 38 pn ?_
 exact cV hE 1 [] (kp [0,3,9,10]) (kq [0,1,2,3,4,5]) 6 pn (th _ _ _ h E hE)
theorem ti (N C0 bw cd de dj dk dc C1 C2 C3 C4 C5 fuel):n4 N C0 bw cd de dj dk dc C1 C2 C3 C4 C5 (bF N C0 bw cd de dj dk dc C1 C2 C3 C4 C5 fuel):=by
 induction fuel with
 | zero=>intro _ _ r h;rw [bF.eq_1] at h;cases h
 | succ fuel ih =>
  intro dD x r h E hE
  rw [bF.eq_2] at h
  refine ae hE 1 [] [] (kp [0,3,9,10,11]) (kq [0,1,2,3,4,5]) 22 pn ?_
  refine dm 1 11 h (fun dW h=>?_) (fun dW h=>?_)
  ·refine ae hE 4 [] [] (kp [0,3,4,9,10]) (kq [0,1,2,3,4,5]) 54 pn ?_
   obtain ⟨c,h⟩:=ab h
   obtain ⟨aN,hr,h⟩:=aQ h
   obtain ⟨c2,h⟩:=ab h
   obtain ⟨c3,h⟩:=ab h
   refine ae hE 1 [(7,oT (aI aN))] [] (kp [0,3,4,9,10,42]) (kq [0,1,2,3,4,5]) 534 (pc o1 (pc c (pc (dS c) (pc (qI _ _ _ hr) (pc (fun hg:(decide (aN > 0))=true=>(pc hg pn)) (pc (fun hg:((decide (aN > 0)) && ((decide (aN > 0)) && (!(decide (dD < 0)))))=true=>(pc hg pn)) (pc (fun hg:((decide (aN > 0)) && ((decide (aN > 0)) && (!(decide (dD < 0)))))=true=>(pc hg pn)) (pc (fun hg:((decide (aN > 0)) && ((decide (aN > 0)) && (!(decide (dD < 0)))))=true=>(pc hg (pc o1 pn))) (pc (fun hg:((decide (aN > 0)) && ((decide (aN > 0)) && (!(decide (dD < 0)))))=true=>(pc hg (pc hg (pc (c2 hg) pn)))) (pc (fun hg:((decide (aN > 0)) && ((decide (aN > 0)) && (!(decide (dD < 0)))))=true=>(pc hg (pc (dS (c2 hg)) pn))) (pc (fun hg:((decide (aN > 0)) && ((decide (aN > 0)) && (!(decide (dD < 0)))))=true=>(pc hg pn)) (pc (fun hg:((decide (aN > 0)) && ((decide (aN > 0)) && (!(decide (dD < 0)))))=true=>(pc hg pn)) (pc (fun hg:((decide (aN > 0)) && ((decide (aN > 0)) && (!(decide (dD < 0)))))=true=>(pc hg (pc o1 pn))) (pc (fun hg:((decide (aN > 0)) && ((decide (aN > 0)) && (!(decide (dD < 0)))))=true=>(pc hg (pc hg (pc (c3 hg) pn)))) (pc (fun hg:((decide (aN > 0)) && ((decide (aN > 0)) && (!(decide (dD < 0)))))=true=>(pc hg (pc (dS (c3 hg)) pn))) (pc (fun hg:((decide (aN > 0)) && ((decide (aN > 0)) && (!(decide (dD < 0)))))=true=>(pc hg (pc hg pn))) (pc (fun hg:(decide (aN > 0))=true=>(pc hg (pc hg (pc (fun hq:(!(decide (dD < 0)))=true=>(pc (show ((decide (aN > 0)) && ((decide (aN > 0)) && (!(decide (dD < 0)))))=true from (lU hg (lU hg hq))) pn)) pn)))) (pc (fun hq:(decide (aN > 0))=true=>(pc hq pn)) pn)))))))))))))))))) ?_
   refine dm 0 42 h (fun jh h=>?_) (fun jh h=>?_)
   ·refine ae hE 0 [] [] (kp [0,3,9,10]) (kq [0,1,2,3,4,5]) 566 pn ?_
    exact cV hE 1 [] (kp [0,3,9,10]) (kq [0,1,2,3,4,5]) 6 pn (nG N _ _ _ _ _ _ _ _ _ _ _ _ _ _ ih _ _ h E hE)
   ·exact cV hE 2 [] (kp [0,3,9,10]) (kq [0,1,2,3,4,5]) 6 pn (nG N _ _ _ _ _ _ _ _ _ _ _ _ _ _ ih _ _ h E hE)
  ·refine ae hE 2 [] [] (kp [2]) (kq [0,1,2,3,4,5]) 54 pn ?_
   obtain rfl:=cJ h
   exact cP hE 0 Tryz.f108 [] (kp [2]) (kq [0,1,2,3,4,5]) 54 pn [] pn
theorem vt (N C0 bw cd de dj dk dc C1 C2 C3 C4 C5 r) (h:k6 N C0 bw cd de dj dk dc C1 C2 C3 C4 C5=some r):Sd 108 [(.op 0 0 0)] [(0,vN 12 [(aI C0),(aI bw),(.os 1 0 C1.length),(.os 2 0 C2.length),(.os 3 0 C3.length),(.os 4 0 C4.length),(.os 5 0 C5.length),(aB cd),(eU de),(aB dj),(eU dk),(aI dc)]),(1,aO 1 cI 0 C1),(2,aO 1 cI 0 C2),(3,aM 4 aj aa.d C3),(4,aO 4 aj aa.d C4),(5,aO 4 aj aa.d C5)] 6 (aI r) [(0,vN 12 [(aI C0),(aI bw),(.os 1 0 C1.length),(.os 2 0 C2.length),(.os 3 0 C3.length),(.os 4 0 C4.length),(.os 5 0 C5.length),(aB cd),(eU de),(aB dj),(eU dk),(aI dc)]),(1,aO 1 cI 0 C1),(2,aO 1 cI 0 C2),(3,aM 4 aj aa.d C3),(4,aO 4 aj aa.d C4),(5,aO 4 aj aa.d C5)]:=by
 unfold k6 at h
 refine gU (fu:=Tryz.f108) (c:=LP 1) (nt:=46) (fun hm=>absurd hm (by decide)) ?_
 intro E hE
 refine ae hE 1 [] [] (kp [0]) (kq [0,1,2,3,4,5]) 22 pn ?_
 refine ae hE 1 [] [] (kp [0,3]) (kq [0,1,2,3,4,5]) 38 pn ?_
 refine ae hE 2 [] [] (kp [0,3,9,10]) (kq [0,1,2,3,4,5]) 134 (pc o1 pn) ?_
 exact cV hE 2 [] (kp [0,3,9,10]) (kq [0,1,2,3,4,5]) 6 pn (ti N _ _ _ _ _ _ _ _ _ _ _ _ N _ _ _ h E hE)
noncomputable abbrev DV:=bV Tryz.f109
def lq (N:Nat) (j:Int) (C0:Int) (bw:Int) (cd:Bool) (de:List Int) (dj:Bool) (dk:List Int) (dc:Int) (C1:List Int) (C2:List Int) (C3:List (List aa)) (C4:List aa) (C5:List aa) (K:Int→aa→Int→Option (Int)):Prop:=∀ (dD:Int) (least:aa) (x:Int) (r:Int),K dD least x=some r→∀ E,bq E 6→aD Tryz.prog E 109 81 (bd E [(0,vN 12 [(aI C0),(aI bw),(.os 1 0 C1.length),(.os 2 0 C2.length),(.os 3 0 C3.length),(.os 4 0 C4.length),(.os 5 0 C5.length),(aB cd),(eU de),(aB dj),(eU dk),(aI dc)]),(1,aO 1 cI 0 C1),(2,aO 1 cI 0 C2),(3,aM 4 aj aa.d C3),(4,aO 4 aj aa.d C4),(5,aO 4 aj aa.d C5)] (aI r)) [.code (DV 244),.inLoop (DV 244),.inBlock 0,.code (DV 31)] ⟨[(0,(.op 0 0 0)),(1,(aI j)),(5,(aI dD)),(6,(.op 6 0 0)),(14,(aI ((C1.length:Nat):Int))),(15,(aI x))],[(0,vN 12 [(aI C0),(aI bw),(.os 1 0 C1.length),(.os 2 0 C2.length),(.os 3 0 C3.length),(.os 4 0 C4.length),(.os 5 0 C5.length),(aB cd),(eU de),(aB dj),(eU dk),(aI dc)]),(1,aO 1 cI 0 C1),(2,aO 1 cI 0 C2),(3,aM 4 aj aa.d C3),(4,aO 4 aj aa.d C4),(5,aO 4 aj aa.d C5),(6,vO 4 (aj least))],7⟩
def uA (N:Nat) (j:Int) (C0:Int) (bw:Int) (cd:Bool) (de:List Int) (dj:Bool) (dk:List Int) (dc:Int) (C1:List Int) (C2:List Int) (C3:List (List aa)) (C4:List aa) (C5:List aa) (x:Int) (K:Int→aa→Option (Int)):Prop:=∀ (x6:Int) (bB:aa) (r:Int),K x6 bB=some r→∀ E,bq E 6→aD Tryz.prog E 109 81 (bd E [(0,vN 12 [(aI C0),(aI bw),(.os 1 0 C1.length),(.os 2 0 C2.length),(.os 3 0 C3.length),(.os 4 0 C4.length),(.os 5 0 C5.length),(aB cd),(eU de),(aB dj),(eU dk),(aI dc)]),(1,aO 1 cI 0 C1),(2,aO 1 cI 0 C2),(3,aM 4 aj aa.d C3),(4,aO 4 aj aa.d C4),(5,aO 4 aj aa.d C5)] (aI r)) [.code (DV 1959),.inLoop (DV 244),.inBlock 0,.code (DV 31)] ⟨[(0,(.op 0 0 0)),(1,(aI j)),(5,(aI x6)),(6,(.op 6 0 0)),(14,(aI ((C1.length:Nat):Int))),(15,(aI x))],[(0,vN 12 [(aI C0),(aI bw),(.os 1 0 C1.length),(.os 2 0 C2.length),(.os 3 0 C3.length),(.os 4 0 C4.length),(.os 5 0 C5.length),(aB cd),(eU de),(aB dj),(eU dk),(aI dc)]),(1,aO 1 cI 0 C1),(2,aO 1 cI 0 C2),(3,aM 4 aj aa.d C3),(4,aO 4 aj aa.d C4),(5,aO 4 aj aa.d C5),(6,vO 4 (aj bB))],7⟩
theorem kH (N:Nat) (j:Int) (C0:Int) (bw:Int) (cd:Bool) (de:List Int) (dj:Bool) (dk:List Int) (dc:Int) (C1:List Int) (C2:List Int) (C3:List (List aa)) (C4:List aa) (C5:List aa) (x:Int) (bW:Int→aa→Int→Option (Int)) (iC:lq N j C0 bw cd de dj dk dc C1 C2 C3 C4 C5 bW):uA N j C0 bw cd de dj dk dc C1 C2 C3 C4 C5 x (ek N j C0 bw cd de dj dk dc C1 C2 C3 C4 C5 x bW):=by
 intro x6 bB r h E hE
 unfold ek at h
 refine ae hE 0 [] [] (kp [0,1,5,6,14,15]) (kq [0,1,2,3,4,5,6]) 39 pn ?_
 exact cV hE 1 [] (kp [0,1,5,6,14,15]) (kq [0,1,2,3,4,5,6]) 7 pn (iC _ _ _ _ h E hE)
def uB (N:Nat) (j:Int) (C0:Int) (bw:Int) (cd:Bool) (de:List Int) (dj:Bool) (dk:List Int) (dc:Int) (C1:List Int) (C2:List Int) (C3:List (List aa)) (C4:List aa) (C5:List aa) (dD:Int) (least:aa) (x:Int) (kn:aa) (K:Int→Option (Int)):Prop:=∀ (c7:Int) (r:Int),K c7=some r→∀ E,bq E 6→aD Tryz.prog E 109 81 (bd E [(0,vN 12 [(aI C0),(aI bw),(.os 1 0 C1.length),(.os 2 0 C2.length),(.os 3 0 C3.length),(.os 4 0 C4.length),(.os 5 0 C5.length),(aB cd),(eU de),(aB dj),(eU dk),(aI dc)]),(1,aO 1 cI 0 C1),(2,aO 1 cI 0 C2),(3,aM 4 aj aa.d C3),(4,aO 4 aj aa.d C4),(5,aO 4 aj aa.d C5)] (aI r)) [.code (DV 250686),.code (DV 250687),.inBlock 1,.code (DV 1959),.inLoop (DV 244),.inBlock 0,.code (DV 31)] ⟨[(0,(.op 0 0 0)),(1,(aI j)),(5,(aI dD)),(6,(.op 6 0 0)),(7,(aI x)),(8,(.op 7 0 0)),(9,(aI c7)),(14,(aI ((C1.length:Nat):Int))),(15,(aI x))],[(0,vN 12 [(aI C0),(aI bw),(.os 1 0 C1.length),(.os 2 0 C2.length),(.os 3 0 C3.length),(.os 4 0 C4.length),(.os 5 0 C5.length),(aB cd),(eU de),(aB dj),(eU dk),(aI dc)]),(1,aO 1 cI 0 C1),(2,aO 1 cI 0 C2),(3,aM 4 aj aa.d C3),(4,aO 4 aj aa.d C4),(5,aO 4 aj aa.d C5),(6,vO 4 (aj least)),(7,vO 4 (aj kn))],8⟩
theorem n5 (N:Nat) (j:Int) (C0:Int) (bw:Int) (cd:Bool) (de:List Int) (dj:Bool) (dk:List Int) (dc:Int) (C1:List Int) (C2:List Int) (C3:List (List aa)) (C4:List aa) (C5:List aa) (dD:Int) (least:aa) (x:Int) (kn:aa) (bW:Int→aa→Int→Option (Int)) (iC:lq N j C0 bw cd de dj dk dc C1 C2 C3 C4 C5 bW):uB N j C0 bw cd de dj dk dc C1 C2 C3 C4 C5 dD least x kn (fw N j C0 bw cd de dj dk dc C1 C2 C3 C4 C5 dD least x kn bW):=by
 intro c7 r h E hE
 unfold fw at h
 obtain ⟨c8,h⟩:=ab h
 obtain ⟨c9,h⟩:=ab h
 refine ae hE 0 [] [] (kp [0,1,5,6,7,8,14,15,76]) (kq [0,1,2,3,4,5,6,7]) 376 (pc (fun hg:(!(decide (c7 < 0)))=true=>(pc hg pn)) (pc (fun hg:((!(decide (c7 < 0))) && ((!(decide (c7 < 0))) && (c7 == 0)))=true=>(pc hg pn)) (pc (fun hg:((!(decide (c7 < 0))) && ((!(decide (c7 < 0))) && (c7 == 0)))=true=>(pc hg pn)) (pc (fun hg:((!(decide (c7 < 0))) && ((!(decide (c7 < 0))) && (c7 == 0)))=true=>(pc hg (pc o1 pn))) (pc (fun hg:((!(decide (c7 < 0))) && ((!(decide (c7 < 0))) && (c7 == 0)))=true=>(pc hg (pc hg (pc (c8 hg) pn)))) (pc (fun hg:((!(decide (c7 < 0))) && ((!(decide (c7 < 0))) && (c7 == 0)))=true=>(pc hg (pc (dS (c8 hg)) pn))) (pc (fun hg:((!(decide (c7 < 0))) && ((!(decide (c7 < 0))) && (c7 == 0)))=true=>(pc hg pn)) (pc (fun hg:((!(decide (c7 < 0))) && ((!(decide (c7 < 0))) && (c7 == 0)))=true=>(pc hg pn)) (pc (fun hg:((!(decide (c7 < 0))) && ((!(decide (c7 < 0))) && (c7 == 0)))=true=>(pc hg (pc o1 pn))) (pc (fun hg:((!(decide (c7 < 0))) && ((!(decide (c7 < 0))) && (c7 == 0)))=true=>(pc hg (pc hg (pc (c9 hg) pn)))) (pc (fun hg:((!(decide (c7 < 0))) && ((!(decide (c7 < 0))) && (c7 == 0)))=true=>(pc hg (pc (dS (c9 hg)) pn))) (pc (fun hg:((!(decide (c7 < 0))) && ((!(decide (c7 < 0))) && (c7 == 0)))=true=>(pc hg (pc hg pn))) (pc (fun hg:(!(decide (c7 < 0)))=true=>(pc hg (pc hg (pc (fun hq:(c7 == 0)=true=>(pc (show ((!(decide (c7 < 0))) && ((!(decide (c7 < 0))) && (c7 == 0)))=true from (lU hg (lU hg hq))) pn)) pn)))) (pc (fun hq:(!(decide (c7 < 0)))=true=>(pc hq pn)) pn)))))))))))))) ?_
 refine dm 0 76 h (fun CE h=>?_) (fun CE h=>?_)
 ·refine ae hE 0 [] [] (kp [0,1,5,6,14,15]) (kq [0,1,2,3,4,5,6]) 440 (pc o1 (pc o1 pn)) ?_
  exact cV hE 1 [] (kp [0,1,5,6,14,15]) (kq [0,1,2,3,4,5,6]) 7 pn (kH N _ _ _ _ _ _ _ _ _ _ _ _ _ _ _ iC _ _ _ h E hE)
 ·exact cV hE 2 [] (kp [0,1,5,6,14,15]) (kq [0,1,2,3,4,5,6]) 7 pn (kH N _ _ _ _ _ _ _ _ _ _ _ _ _ _ _ iC _ _ _ h E hE)
theorem tK (N j C0 bw cd de dj dk dc C1 C2 C3 C4 C5 fuel):lq N j C0 bw cd de dj dk dc C1 C2 C3 C4 C5 (bM N j C0 bw cd de dj dk dc C1 C2 C3 C4 C5 fuel):=by
 induction fuel with
 | zero=>intro _ _ _ r h;rw [bM.eq_1] at h;cases h
 | succ fuel ih =>
  intro dD least x r h E hE
  rw [bM.eq_2] at h
  refine ae hE 1 [] [] (kp [0,1,5,6,14,15,16]) (kq [0,1,2,3,4,5,6]) 23 pn ?_
  refine dm 1 16 h (fun dW h=>?_) (fun dW h=>?_)
  ·refine ae hE 4 [] [] (kp [0,1,5,6,7,14,15]) (kq [0,1,2,3,4,5,6]) 55 pn ?_
   obtain ⟨c2,h⟩:=ab h
   refine Sp 3 ((x).toNat) 4 ((C3.getD ((x).toNat) []).length) (fun zi=>aj ((C3.getD ((x).toNat) []).getD zi aa.d)) (pc c2 (pc (show aW [] (mG C3) ((x).toNat)=mR 4 aj aa.d (C3.getD ((x).toNat) []) from rfl) pn)) ?_
   obtain ⟨c3,h⟩:=ab h
   obtain ⟨c4,h⟩:=ab h
   obtain ⟨aN,hr,h⟩:=aQ h
   refine ae hE 2 [(6,oF (.os 55 0 ((C3.getD ((x).toNat) []).length))),(10,oT (aI aN))] [] (kp [0,1,5,6,7,14,15,29]) (kq [0,1,2] ++ [(3,.qg 3 (C3.length) [((x).toNat,55,(C3.getD ((x).toNat) []).length)] (mG C3))] ++ kq [4,5,6,55]) 263 (pc o1 (pc c3 (pc (dS c3) (pc (show (aW [((x).toNat,55,(C3.getD ((x).toNat) []).length)] (mG C3) ((x).toNat))[0]?=some (.os 55 0 ((C3.getD ((x).toNat) []).length)) from (gO rfl)) (pc c4 (pc (dS c4) (pc (qI _ _ _ hr) (pc (Eq.refl C3.length) (pc (mC C3 [((x).toNat,55,(C3.getD ((x).toNat) []).length)]) (pc (iM C3) pn)))))))))) ?_
   refine P5 3 55 ((x).toNat) (pc c2 (pc (show aW [((x).toNat,55,(C3.getD ((x).toNat) []).length)] (mG C3) ((x).toNat)=[.os 55 0 (C3.getD ((x).toNat) []).length] from if_pos rfl) (pc (show ∀ zj,zj < (C3.getD ((x).toNat) []).length→nY (aj ((C3.getD ((x).toNat) []).getD zj aa.d))=true from fun _ _=>rfl) pn))) ?_
   refine P4 hE [] (kp [0,1,5,6,7,14,15,29]) (kq [0,1,2] ++ [(3,.qg 3 (C3.length) [] (mG C3))] ++ kq [4,5,6]) 263 (pc (Eq.refl (C3.length)) (pc (uW (sz:=4) (c:=aj) (d:=aa.d) C3 ((x).toNat) 55 ((C3.getD ((x).toNat) []).length) [] Fm) (pc (iM C3) pn))) ?_
   refine dm 0 29 h (fun jh h=>?_) (fun jh h=>?_)
   ·exact cV hE 1 [] (kp [0,1,5,6,14,15]) (kq [0,1,2,3,4,5,6]) 7 pn (kH N _ _ _ _ _ _ _ _ _ _ _ _ _ _ _ ih _ _ _ h E hE)
   ·refine Sp 3 ((x).toNat) 4 ((C3.getD ((x).toNat) []).length) (fun zi=>aj ((C3.getD ((x).toNat) []).getD zi aa.d)) (pc c2 (pc (show aW [] (mG C3) ((x).toNat)=mR 4 aj aa.d (C3.getD ((x).toNat) []) from rfl) pn)) ?_
    obtain ⟨c6,h⟩:=ab h
    obtain ⟨aY,eJ,h⟩:=aQ h
    obtain ⟨kn,jP,h⟩:=aQ h
    refine ae hE 2 [(13,oF (.os 263 0 ((C3.getD ((x).toNat) []).length))),(17,oT (.agg (aj aY))),(18,oT (.agg (aj kn)))] [] (kp [0,1,5,6,7,8,14,15]) (kq [0,1,2] ++ [(3,.qg 3 (C3.length) [((x).toNat,263,(C3.getD ((x).toNat) []).length)] (mG C3))] ++ kq [4,5,6,263,583]) 615 (pc o1 (pc c6 (pc (dS c6) (pc o1 (pc c3 (pc (dS c3) (pc (show (aW [((x).toNat,263,(C3.getD ((x).toNat) []).length)] (mG C3) ((x).toNat))[0]?=some (.os 263 0 ((C3.getD ((x).toNat) []).length)) from (gO rfl)) (pc c4 (pc (dS c4) (pc (kJ _ _ _ eJ) (pc (tT _ _ _ _ jP) (pc o1 (pc (Eq.refl C3.length) (pc (mC C3 [((x).toNat,263,(C3.getD ((x).toNat) []).length)]) (pc (iM C3) pn))))))))))))))) ?_
    refine P5 3 263 ((x).toNat) (pc c2 (pc (show aW [((x).toNat,263,(C3.getD ((x).toNat) []).length)] (mG C3) ((x).toNat)=[.os 263 0 (C3.getD ((x).toNat) []).length] from if_pos rfl) (pc (show ∀ zj,zj < (C3.getD ((x).toNat) []).length→nY (aj ((C3.getD ((x).toNat) []).getD zj aa.d))=true from fun _ _=>rfl) pn))) ?_
    refine P4 hE [] (kp [0,1,5,6,7,8,14,15]) (kq [0,1,2] ++ [(3,.qg 3 (C3.length) [] (mG C3))] ++ kq [4,5,6,583]) 615 (pc (Eq.refl (C3.length)) (pc (uW (sz:=4) (c:=aj) (d:=aa.d) C3 ((x).toNat) 263 ((C3.getD ((x).toNat) []).length) [] Fm) (pc (iM C3) pn))) ?_
    refine ae hE 1 [] [] (kp [0,1,5,6,7,8,9,14,15]) (kq [0,1,2,3,4,5,6,583]) 631 pn ?_
    refine ae hE 2 [] [] (kp [0,1,5,6,7,8,9,14,15,50]) (kq [0,1,2,3,4,5,6,583]) 663 pn ?_
    refine dm 0 50 h (fun ta h=>?_) (fun ta h=>?_)
    ·obtain ⟨eE,mz,h⟩:=aQ h
     refine ae hE 0 [(2,oT (aI eE))] [] (kp [0,1,5,6,7,8,9,14,15]) (kq [0,1,2,3,4,5,6,583]) 727 (pc o1 (pc o1 (pc (jj _ _ _ _ mz) pn))) ?_
     exact cV hE 1 [] (kp [0,1,5,6,7,8,9,14,15]) (kq [0,1,2,3,4,5,6] ++ [(7,.ag 583)]) 8 pn (n5 N _ _ _ _ _ _ _ _ _ _ _ _ _ _ _ _ _ _ ih _ _ h E hE)
    ·exact cV hE 2 [] (kp [0,1,5,6,7,8,9,14,15]) (kq [0,1,2,3,4,5,6] ++ [(7,.ag 583)]) 8 pn (n5 N _ _ _ _ _ _ _ _ _ _ _ _ _ _ _ _ _ _ ih _ _ h E hE)
  ·refine ae hE 2 [] [] (kp [4]) (kq [0,1,2,3,4,5]) 55 pn ?_
   obtain rfl:=cJ h
   exact cP hE 0 Tryz.f109 [] (kp [4]) (kq [0,1,2,3,4,5]) 55 pn [] pn
theorem wA (N j C0 bw cd de dj dk dc C1 C2 C3 C4 C5 r) (h:lz N j C0 bw cd de dj dk dc C1 C2 C3 C4 C5=some r):Sd 109 [(.op 0 0 0),(aI j)] [(0,vN 12 [(aI C0),(aI bw),(.os 1 0 C1.length),(.os 2 0 C2.length),(.os 3 0 C3.length),(.os 4 0 C4.length),(.os 5 0 C5.length),(aB cd),(eU de),(aB dj),(eU dk),(aI dc)]),(1,aO 1 cI 0 C1),(2,aO 1 cI 0 C2),(3,aM 4 aj aa.d C3),(4,aO 4 aj aa.d C4),(5,aO 4 aj aa.d C5)] 6 (aI r) [(0,vN 12 [(aI C0),(aI bw),(.os 1 0 C1.length),(.os 2 0 C2.length),(.os 3 0 C3.length),(.os 4 0 C4.length),(.os 5 0 C5.length),(aB cd),(eU de),(aB dj),(eU dk),(aI dc)]),(1,aO 1 cI 0 C1),(2,aO 1 cI 0 C2),(3,aM 4 aj aa.d C3),(4,aO 4 aj aa.d C4),(5,aO 4 aj aa.d C5)]:=by
 unfold lz at h
 refine gU (fu:=Tryz.f109) (c:=DV 1) (nt:=81) (fun hm=>absurd hm (by decide)) ?_
 intro E hE
 refine ae hE 1 [] [] (kp [0,1]) (kq [0,1,2,3,4,5]) 22 pn ?_
 refine ae hE 1 [] [] (kp [0,1,5]) (kq [0,1,2,3,4,5]) 38 pn ?_
 refine ae hE 1 [] [] (kp [0,1,5,6]) (kq [0,1,2,3,4,5,38]) 54 pn ?_
 refine ae hE 2 [] [] (kp [0,1,5,6,14,15]) (kq [0,1,2,3,4,5,38]) 150 (pc o1 pn) ?_
 exact cV hE 2 [] (kp [0,1,5,6,14,15]) (kq [0,1,2,3,4,5] ++ [(6,.var 38 [.ag,.sl (([]:List Int).length) (fun zi=>(cU .u16) (([]:List Int).getD zi 0)),.ag,.sl (([]:List Int).length) (fun zi=>(cU .u16) (([]:List Int).getD zi 0))])]) 7 (pc (Eq.refl 0) (pc (Eq.refl 0) pn)) (tK N _ _ _ _ _ _ _ _ _ _ _ _ _ N _ _ _ _ h E hE)
noncomputable abbrev Vm:=bV Tryz.f73
def wC (N:Nat) (K:Int→Int→(List Int)→(List Int)→(List (List aa))→(List aa)→(List aa)→Bool→(List Int)→Bool→(List Int)→Int→Option (Int×lR×(List Int)×(List Int)×(List (List aa))×(List aa)×(List aa))):Prop:=∀ (b8:Int) (oj:Int) (ly:List Int) (pS:List Int) (gC:List (List aa)) (qh:List aa) (qi:List aa) (tF:Bool) (tG:List Int) (zy:Bool) (zz:List Int) (x7:Int) (r:Int×lR×(List Int)×(List Int)×(List (List aa))×(List aa)×(List aa)),K b8 oj ly pS gC qh qi tF tG zy zz x7=some r→∀ E,bq E 6→aD Tryz.prog E 73 19 (bd E [(0,vN 12 [(aI r.2.1.xk),(aI r.2.1.xl),(.os 1 0 r.2.2.1.length),(.os 2 0 r.2.2.2.1.length),(.os 3 0 r.2.2.2.2.1.length),(.os 4 0 r.2.2.2.2.2.1.length),(.os 5 0 r.2.2.2.2.2.2.length),(aB r.2.1.ak.fN.fG),(eU r.2.1.ak.fN.fL),(aB r.2.1.ak.fD.fG),(eU r.2.1.ak.fD.fL),(aI r.2.1.cu)]),(1,aO 1 cI 0 r.2.2.1),(2,aO 1 cI 0 r.2.2.2.1),(3,aM 4 aj aa.d r.2.2.2.2.1),(4,aO 4 aj aa.d r.2.2.2.2.2.1),(5,aO 4 aj aa.d r.2.2.2.2.2.2)] (aI r.1)) [.code (Vm 12),.inLoop (Vm 12),.inBlock 0] ⟨[(0,(.op 0 0 0))],[(0,vN 12 [(aI b8),(aI oj),(.os 1 0 ly.length),(.os 2 0 pS.length),(.os 3 0 gC.length),(.os 4 0 qh.length),(.os 5 0 qi.length),(aB tF),(eU tG),(aB zy),(eU zz),(aI x7)]),(1,aO 1 cI 0 ly),(2,aO 1 cI 0 pS),(3,aM 4 aj aa.d gC),(4,aO 4 aj aa.d qh),(5,aO 4 aj aa.d qi)],6⟩
theorem vu (N fuel):wC N (dz N fuel):=by
 induction fuel with
 | zero=>intro _ _ _ _ _ _ _ _ _ _ _ _ r h;rw [dz.eq_1] at h;cases h
 | succ fuel ih =>
  intro b8 oj ly pS gC qh qi tF tG zy zz x7 r h E hE
  rw [dz.eq_2] at h
  obtain ⟨sG,hr,h⟩:=aQ h
  refine ae hE 2 [(1,⟨[0,1,2,3,4,5],true,(aI sG),[],0,false,none⟩)] [] (kp [0,3]) (kq [0,1,2,3,4,5]) 54 (pc (vt _ _ _ _ _ _ _ _ _ _ _ _ _ _ hr) (pc (iM gC) pn)) ?_
  refine ae hE 2 [] [] (kp [0,3,8]) (kq [0,1,2,3,4,5]) 86 pn ?_
  refine dm 0 8 h (fun dW h=>?_) (fun dW h=>?_)
  ·refine ae hE 1 [] [] (kp [2]) (kq [0,1,2,3,4,5]) 102 pn ?_
   obtain rfl:=cJ h
   exact cP hE 0 Tryz.f73 [] (kp [2]) (kq [0,1,2,3,4,5]) 102 pn [] pn
  ·obtain ⟨Bg,eJ,h⟩:=aQ h
   refine ae hE 2 [(2,⟨[0,1,2,3,4,5],true,(aI Bg),[],0,false,none⟩)] [] (kp [0,3,4]) (kq [0,1,2,3,4,5]) 150 (pc (wA _ _ _ _ _ _ _ _ _ _ _ _ _ _ _ eJ) (pc (iM gC) pn)) ?_
   refine ae hE 2 [] [] (kp [0,3,4,13]) (kq [0,1,2,3,4,5]) 182 pn ?_
   refine dm 0 13 h (fun jh h=>?_) (fun jh h=>?_)
   ·refine ae hE 1 [] [] (kp [2]) (kq [0,1,2,3,4,5]) 214 pn ?_
    obtain rfl:=cJ h
    exact cP hE 0 Tryz.f73 [] (kp [2]) (kq [0,1,2,3,4,5]) 214 pn [] pn
   ·obtain ⟨bu,jP,h⟩:=aQ h
    obtain ⟨c,h⟩:=ab h
    obtain ⟨c2,h⟩:=ab h
    obtain ⟨c3,h⟩:=ab h
    obtain ⟨c4,h⟩:=ab h
    obtain ⟨c5,h⟩:=ab h
    refine ae hE 1 [(3,⟨[0,1,2,3,4,5],false,(.tup []),[(0,vN 12 [(aI bu.1.xk),(aI bu.1.xl),(.os 1 0 bu.2.1.length),(.os 2 0 bu.2.2.1.length),(.os 3 0 bu.2.2.2.1.length),(.os 4 0 bu.2.2.2.2.1.length),(.os 5 0 bu.2.2.2.2.2.length),(aB bu.1.ak.fN.fG),(eU bu.1.ak.fN.fL),(aB bu.1.ak.fD.fG),(eU bu.1.ak.fD.fL),(aI bu.1.cu)]),(1,aO 1 cI 0 bu.2.1),(2,aO 1 cI 0 bu.2.2.1),(3,aM 4 aj aa.d bu.2.2.2.1),(4,aO 4 aj aa.d bu.2.2.2.2.1),(5,aO 4 aj aa.d bu.2.2.2.2.2)],0,false,none⟩)] [] (kp [0]) (kq [0,1,2,3,4,5]) 246 (pc (nF _ _ _ _ _ _ _ _ _ _ _ _ _ _ _ _ jP) pn) ?_
    exact cV hE 2 [] (kp [0]) (kq [0,1,2,3,4,5]) 6 pn (ih _ _ _ _ _ _ _ _ _ _ _ _ _ h E hE)
theorem yl (N C0 bw cd de dj dk dc C1 C2 C3 C4 C5 r) (h:pT N C0 bw cd de dj dk dc C1 C2 C3 C4 C5=some r):Sd 73 [(.op 0 0 0)] [(0,vN 12 [(aI C0),(aI bw),(.os 1 0 C1.length),(.os 2 0 C2.length),(.os 3 0 C3.length),(.os 4 0 C4.length),(.os 5 0 C5.length),(aB cd),(eU de),(aB dj),(eU dk),(aI dc)]),(1,aO 1 cI 0 C1),(2,aO 1 cI 0 C2),(3,aM 4 aj aa.d C3),(4,aO 4 aj aa.d C4),(5,aO 4 aj aa.d C5)] 6 (aI r.1) [(0,vN 12 [(aI r.2.1.xk),(aI r.2.1.xl),(.os 1 0 r.2.2.1.length),(.os 2 0 r.2.2.2.1.length),(.os 3 0 r.2.2.2.2.1.length),(.os 4 0 r.2.2.2.2.2.1.length),(.os 5 0 r.2.2.2.2.2.2.length),(aB r.2.1.ak.fN.fG),(eU r.2.1.ak.fN.fL),(aB r.2.1.ak.fD.fG),(eU r.2.1.ak.fD.fL),(aI r.2.1.cu)]),(1,aO 1 cI 0 r.2.2.1),(2,aO 1 cI 0 r.2.2.2.1),(3,aM 4 aj aa.d r.2.2.2.2.1),(4,aO 4 aj aa.d r.2.2.2.2.2.1),(5,aO 4 aj aa.d r.2.2.2.2.2.2)]:=by
 unfold pT at h
 refine gU (fu:=Tryz.f73) (c:=Vm 1) (nt:=19) (fun hm=>absurd hm (by decide)) ?_
 intro E hE
 refine ae hE 1 [] [] (kp [0]) (kq [0,1,2,3,4,5]) 22 pn ?_
 exact cV hE 2 [] (kp [0]) (kq [0,1,2,3,4,5]) 6 pn (vu N N _ _ _ _ _ _ _ _ _ _ _ _ _ h E hE)
noncomputable abbrev SE:=bV Tryz.f75
def sj (N:Nat) (s:List Int) (v:Int) (K:Int→Option (Int)):Prop:=∀ (x:Int) (r:Int),K x=some r→∀ E,bq E 0→aD Tryz.prog E 75 19 (bd E [] (aI r)) [.code (SE 52),.inLoop (SE 52),.inBlock 0,.code (SE 7)] ⟨[(0,(aH cI 0 s)),(1,(aI v)),(7,(aI ((s.length:Nat):Int))),(8,(aI x))],[],0⟩
theorem rD (N s v fuel):sj N s v (cl N s v fuel):=by
 induction fuel with
 | zero=>intro _ r h;rw [cl.eq_1] at h;cases h
 | succ fuel ih =>
  intro x r h E hE
  rw [cl.eq_2] at h
  refine ae hE 1 [] [] (kp [0,1,7,8,9]) [] 16 pn ?_
  refine dm 1 9 h (fun dW h=>?_) (fun dW h=>?_)
  ·refine ae hE 4 [] [] (kp [0,1,5,7,8]) [] 48 pn ?_
   obtain ⟨c,h⟩:=ab h
   refine ae hE 1 [] [] (kp [0,1,5,7,8,16]) [] 144 (pc c pn) ?_
   refine dm 0 16 h (fun jh h=>?_) (fun jh h=>?_)
   ·refine ae hE 1 [] [] (kp [4]) [] 176 pn ?_
    obtain rfl:=cJ h
    exact cP hE 0 Tryz.f75 [] (kp [4]) [] 176 pn [] pn
   ·refine ae hE 2 [] [] (kp [0,1,7,8]) [] 176 pn ?_
    exact cV hE 1 [] (kp [0,1,7,8]) [] 0 pn (ih _ _ h E hE)
  ·refine ae hE 2 [] [] (kp [4]) [] 32 pn ?_
   obtain rfl:=cJ h
   exact cP hE 0 Tryz.f75 [] (kp [4]) [] 48 pn [] pn
theorem iE (N s v r) (h:ep N s v=some r):Sd 75 [(aH cI 0 s),(aI v)] [] 0 (aI r) []:=by
 unfold ep at h
 refine gU (fu:=Tryz.f75) (c:=SE 1) (nt:=19) (fun hm=>rfl) ?_
 intro E hE
 refine ae hE 1 [] [] (kp [0,1]) [] 16 pn ?_
 refine ae hE 2 [] [] (kp [0,1,7,8]) [] 64 pn ?_
 exact cV hE 2 [] (kp [0,1,7,8]) [] 0 pn (rD N _ _ N _ _ h E hE)
noncomputable abbrev ZG:=bV Tryz.f77
theorem vv (N x r) (h:k7 N x=some r):Sd 77 [(.agg (aj x))] [] 0 (aB r) []:=by
 unfold k7 at h
 refine gU (fu:=Tryz.f77) (c:=ZG 1) (nt:=6) (fun hm=>rfl) ?_
 intro E hE
 refine ae hE 1 [] [] (kp [1]) (kq [0]) 32 pn ?_
 obtain ⟨gj,hr,h⟩:=aQ h
 refine ae hE 1 [(1,oT (aB gj))] [] (kp [2]) [] 96 (pc o1 (pc (ji _ _ _ hr) pn)) ?_
 obtain rfl:=cJ h
 exact cP hE 0 Tryz.f77 [] (kp [2]) [] 96 pn [] pn
end Go.Den
