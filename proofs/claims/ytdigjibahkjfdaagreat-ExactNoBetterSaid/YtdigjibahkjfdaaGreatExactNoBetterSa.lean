/- Each function of the program does what its Lean function computes (part 1). No conditions. -/
import Derived.Test.YtdigjibahkjfdaaGreatExactNoBetterDen
import Derived.Test.YtdigjibahkjfdaaGreatProg
set_option linter.unusedVariables false
set_option maxRecDepth 100000
namespace Go.Den
open Go.Ab Go.Proofs Go.Ab.aw
abbrev Sd:=Sound Tryz.prog
abbrev eU (a:List Int):AV:=aK (cU .u16) 0 a
abbrev aU (a:List Int):Ob:=aO 1 (cU .u16) 0 a
abbrev IW (x:Int):AV:=.atom (.int .u64 x)
abbrev Vg (x:Int):AV:=.atom (.int .u32 x)
abbrev wO (x:Int):AV:=.atom (.int .u16 x)
theorem gX {P:Program} {f:FuncId} {fu:Func} {c:Code} {nt m:Nat} {args:List AV} {σ dx:du} {res:AV} (hs:m=0→σ=[]) (h:∀ E,aQ E m→aw P E f nt (aY E dx res) [.code c] ⟨tG args 0,σ,m⟩) (hf:P.funcs[f]?=some fu:=by kernel_rfl) (hb:fu.body=some c:=by kernel_rfl) (hn:fu.ntmps=nt:=by kernel_rfl) (ha:Nat.ble args.length nt=true:=by kernel_rfl):Sound P f args σ m res dx:=sor hf hb hn ha hs h
noncomputable def cy (f:Func) (n:Nat):Code:=cat (XE f) (XG n)
abbrev oT (x:AV):lZ:=⟨[],true,x,[],0,false,none⟩
abbrev oF (x:AV):lZ:=⟨[],false,x,[],0,false,none⟩
abbrev aZ (n:Nat) (g:Nat→List AV):∀ i,i < n→g i=g (bQ 0 i):=fun _ _=>rfl
abbrev mG (C:List (List aa)):Nat→List AV:=fun zm=>mR 4 ag aa.d (C.getD zm [])
theorem mC (C:List (List aa)) (l:List (Nat×Nat×Nat)):∀ zm,zm < C.length→bk l (mG C) zm=bk l (mG C) zm:=fun _ _=>rfl
theorem iM (C:List (List aa)):∀ zm,zm < C.length→Fx (mG C zm)=true:=fun _ _=>rfl
theorem dj {α:Type} {a b:α} (h:some a=some b):a=b:=Option.some.inj h
noncomputable abbrev C_4:=cy Tryz.f71
theorem A3 (N vr C0 r) (h:oL N vr C0=some r):Sd 71 [(.agg (zN vr)),(.op 0 0 0)] [(0,vO 1 [(aI C0)])] 1 (aB r) [(0,vO 1 [(aI C0)])]:=by
 unfold oL at h
 refine gX (fu:=Tryz.f71) (c:=C_4 1) (nt:=9) (fun hm=>absurd hm (by decide)) ?_
 intro E hE
 refine ah hE 1 [] [] (kp [1,2]) (kq [0,1]) 33 pn ?_
 refine ah hE 1 [] [] (kp [3]) (kq [0]) 129 (pc o1 (pc o1 pn)) ?_
 obtain rfl:=dj h
 exact dw hE 0 Tryz.f71 [] (kp [3]) (kq [0]) 129 pn [] pn
noncomputable abbrev C_3:=cy Tryz.f107
def sY (N:Nat) (s:List aE) (C0:Int) (K:Int→Option (Int)):Prop:=∀ (x:Int) (r:Int),K x=some r→∀ E,aQ E 1→aw Tryz.prog E 107 19 (aY E [(0,vO 1 [(aI C0)])] (aI r)) [.code (C_3 52),.inLoop (C_3 52),.inBlock 0,.code (C_3 7)] ⟨[(0,(aK zN aE.d s)),(1,(.fn (.func 71) [] [(.op 0 0 0)])),(7,(aI ((s.length:Nat):Int))),(8,(aI x))],[(0,vO 1 [(aI C0)])],1⟩
theorem sj (N s C0 fuel):sY N s C0 (cz N s C0 fuel):=by
 induction fuel with
 | zero=>intro _ r h;rw [cz.eq_1] at h;cases h
 | succ fuel ih =>
  intro x r h E hE
  rw [cz.eq_2] at h
  refine ah hE 1 [] [] (kp [0,1,7,8,9]) (kq [0]) 17 pn ?_
  refine dK 1 9 h (fun dQ h=>?_) (fun dQ h=>?_)
  ·refine ah hE 4 [] [] (kp [0,1,5,7,8]) (kq [0]) 49 pn ?_
   obtain ⟨c,h⟩:=ab h
   obtain ⟨yJ,hr,h⟩:=bq h
   refine ah hE 1 [(5,⟨[0],true,(aB yJ),[],0,false,none⟩)] [] (kp [0,1,5,7,8,16]) (kq [0]) 145 (pc c (pc (A3 _ _ _ _ hr) pn)) ?_
   refine dK 0 16 h (fun iZ h=>?_) (fun iZ h=>?_)
   ·refine ah hE 1 [] [] (kp [4]) (kq [0]) 177 pn ?_
    obtain rfl:=dj h
    exact dw hE 0 Tryz.f107 [] (kp [4]) (kq [0]) 177 pn [] pn
   ·refine ah hE 2 [] [] (kp [0,1,7,8]) (kq [0]) 177 pn ?_
    exact dh hE 1 [] (kp [0,1,7,8]) (kq [0]) 1 pn (ih _ _ h E hE)
  ·refine ah hE 2 [] [] (kp [4]) (kq [0]) 33 pn ?_
   obtain rfl:=dj h
   exact dw hE 0 Tryz.f107 [] (kp [4]) (kq [0]) 49 pn [] pn
theorem uq (N s C0 r) (h:l4 N s C0=some r):Sd 107 [(aK zN aE.d s),(.fn (.func 71) [] [(.op 0 0 0)])] [(0,vO 1 [(aI C0)])] 1 (aI r) [(0,vO 1 [(aI C0)])]:=by
 unfold l4 at h
 refine gX (fu:=Tryz.f107) (c:=C_3 1) (nt:=19) (fun hm=>absurd hm (by decide)) ?_
 intro E hE
 refine ah hE 1 [] [] (kp [0,1]) (kq [0]) 17 pn ?_
 refine ah hE 2 [] [] (kp [0,1,7,8]) (kq [0]) 65 pn ?_
 exact dh hE 2 [] (kp [0,1,7,8]) (kq [0]) 1 pn (sj N _ _ N _ _ h E hE)
noncomputable abbrev C_2:=cy Tryz.f70
theorem sm (N s C0 r) (h:kC N s C0=some r):Sd 70 [(aK zN aE.d s),(.fn (.func 71) [] [(.op 0 0 0)])] [(0,vO 1 [(aI C0)])] 1 (aB r) [(0,vO 1 [(aI C0)])]:=by
 unfold kC at h
 refine gX (fu:=Tryz.f70) (c:=C_2 1) (nt:=9) (fun hm=>absurd hm (by decide)) ?_
 intro E hE
 refine ah hE 1 [] [] (kp [0,1]) (kq [0]) 17 pn ?_
 obtain ⟨AS,hr,h⟩:=bq h
 refine ah hE 1 [(2,⟨[0],true,(aI AS),[],0,false,none⟩)] [] (kp [4]) (kq [0]) 97 (pc (uq _ _ _ _ hr) pn) ?_
 obtain rfl:=dj h
 exact dw hE 0 Tryz.f70 [] (kp [4]) (kq [0]) 97 pn [] pn
noncomputable abbrev C_1:=cy Tryz.f32
theorem nZ (N n l r) (h:iw N n l=some r):Sd 32 [(aI n),(aK zN aE.d l)] [] 0 (aI r) []:=by
 unfold iw at h
 refine gX (fu:=Tryz.f32) (c:=C_1 1) (nt:=17) (fun hm=>rfl) ?_
 intro E hE
 refine ah hE 1 [] [] (kp [1,2]) (kq [0]) 32 pn ?_
 refine ah hE 2 [] [] (kp [1,2,10]) (kq [0]) 128 (pc o1 (pc (fun hg:(!(decide (n < 0)))=true=>(pc o1 pn)) (pc (fun hg:(!(decide (n < 0)))=true=>(pc hg pn)) (pc (fun hq:(!(decide (n < 0)))=true=>(pc hq pn)) pn)))) ?_
 refine dK 0 10 h (fun dQ h=>?_) (fun dQ h=>?_)
 ·refine ah hE 1 [] [] (kp [4]) [] 144 pn ?_
  obtain rfl:=dj h
  exact dw hE 0 Tryz.f32 [] (kp [4]) [] 144 pn [] pn
 ·refine ah hE 3 [] [] (kp [1,2,13]) (kq [0]) 176 pn ?_
  refine dK 0 13 h (fun iZ h=>?_) (fun iZ h=>?_)
  ·refine ah hE 1 [] [] (kp [4]) [] 192 pn ?_
   obtain rfl:=dj h
   exact dw hE 0 Tryz.f32 [] (kp [4]) [] 192 pn [] pn
  ·obtain ⟨AS,hr,h⟩:=bq h
   refine ah hE 3 [(2,⟨[0],true,(aB AS),[],0,false,none⟩)] [] (kp [16]) [] 224 (pc (sm _ _ _ _ hr) pn) ?_
   refine dK 0 16 h (fun qq h=>?_) (fun qq h=>?_)
   ·refine ah hE 1 [] [] (kp [4]) [] 240 pn ?_
    obtain rfl:=dj h
    exact dw hE 0 Tryz.f32 [] (kp [4]) [] 240 pn [] pn
   ·refine ah hE 2 [] [] (kp [4]) [] 240 pn ?_
    obtain rfl:=dj h
    exact dw hE 0 Tryz.f32 [] (kp [4]) [] 240 pn [] pn
noncomputable abbrev C_8:=cy Tryz.f102
def Dn (N:Nat) (K:Int→(List Int)→Option ((List Int))):Prop:=∀ (n2:Int) (out:List Int) (r:(List Int)),K n2 out=some r→∀ E,aQ E 0→aw Tryz.prog E 102 14 (aY E [] (eU r)) [.code (C_8 56),.inLoop (C_8 56),.inBlock 0,.code (C_8 15)] ⟨[(0,(IW n2)),(3,(.os 0 0 out.length))],[(0,aU out)],1⟩
theorem B1 (N fuel):Dn N (j5 N fuel):=by
 induction fuel with
 | zero=>intro _ _ r h;rw [j5.eq_1] at h;cases h
 | succ fuel ih =>
  intro n2 out r h E hE
  rw [j5.eq_2] at h
  refine ah hE 2 [] [] (kp [0,3,5]) (kq [0]) 33 pn ?_
  refine dK 0 5 h (fun dQ h=>?_) (fun dQ h=>?_)
  ·obtain ⟨c,h⟩:=ab h
   refine ah hE 3 [] [] (kp [0] ++ [(3,.lO ((out ++ ([(IntKind.u16.wrap (n2))]:List Int)).length))]) [(97,.arr 97 ((out ++ ([(IntKind.u16.wrap (n2))]:List Int)).length) (fun zi=>(cU .u16) ((out ++ ([(IntKind.u16.wrap (n2))]:List Int)).getD zi 0)))] 129 (pc (Eq.refl out.length) (pc c (pc (z1 1) (pc (show ∀ zi,zi < 1→AV.kN ((fun zi=>([[(wO (IntKind.u16.wrap (n2)))]]:List (List AV)).getD zi []) (bQ 0 zi))=true from (AK rfl)) (pc (show (out.length+1)=(out ++ ([(IntKind.u16.wrap (n2))]:List Int)).length from (bD rfl rfl)) (pc (show out.length+1=(out ++ ([(IntKind.u16.wrap (n2))]:List Int)).length from (bD rfl rfl)) (pc (show ∀ zi,zi < (out ++ ([(IntKind.u16.wrap (n2))]:List Int)).length→(fun zi=>(cU .u16) ((out ++ ([(IntKind.u16.wrap (n2))]:List Int)).getD zi 0)) zi=((fun zm=>if zm < out.length then (fun zi=>(cU .u16) (out.getD zi 0)) zm else (fun zi=>([[(wO (IntKind.u16.wrap (n2)))]]:List (List AV)).getD zi []) (zm - out.length))) zi from (dY (cU .u16) 0 out ([(IntKind.u16.wrap (n2))]:List Int) rfl (fun _ _=>rfl) (fun zq j8=>dU (cU .u16) 0 ([(IntKind.u16.wrap (n2))]:List Int) zq j8))) pn))))))) ?_
   refine ah hE 1 [] [] (kp [0,3]) (kq [97]) 177 (pc (show (0:Int)≤16 by decide) pn) ?_
   exact dh hE 1 [] (kp [0,3]) [(0,.ai 97)] 1 pn (ih _ _ _ h E hE)
  ·refine ah hE 2 [] [] (kp [2]) (kq [0]) 65 pn ?_
   obtain rfl:=dj h
   exact dw hE 0 Tryz.f102 [0] [(2,.sl (out.length) (fun zi=>(cU .u16) (out.getD zi 0)))] [] 65 (pc (Eq.refl out.length) (pc (z1 out.length) (pc (aZ out.length (fun zi=>(cU .u16) (out.getD zi 0))) pn))) [] pn
theorem tO (N n r) (h:na N n=some r):Sd 102 [(IW n)] [] 0 (eU r) []:=by
 unfold na at h
 refine gX (fu:=Tryz.f102) (c:=C_8 1) (nt:=14) (fun hm=>rfl) ?_
 intro E hE
 refine ah hE 1 [] [] (kp [0]) [] 16 pn ?_
 refine ah hE 1 [] [] (kp [0,3]) [] 32 pn ?_
 exact dh hE 3 [] (kp [0] ++ [(3,.tF 0)]) [(0,.nil 1 (fun zi=>(cU .u16) (([]:List Int).getD zi 0)))] 1 pn (B1 N N _ _ _ h E hE)
noncomputable abbrev Vh:=cy Tryz.f57
def HQ (N:Nat) (K:(List Int)→Option ((List Int))):Prop:=∀ (n2:List Int) (r:(List Int)),K n2=some r→∀ E,aQ E 0→aw Tryz.prog E 57 21 (aY E [] (eU r)) [.code (Vh 24),.inLoop (Vh 24),.inBlock 0,.code (Vh 7)] ⟨[(0,(eU n2))],[],0⟩
theorem Gm (N fuel):HQ N (nb N fuel):=by
 induction fuel with
 | zero=>intro _ r h;rw [nb.eq_1] at h;cases h
 | succ fuel ih =>
  intro n2 r h E hE
  rw [nb.eq_2] at h
  obtain ⟨c,h⟩:=ab h
  refine ah hE 2 [] [] (kp [0,14]) [] 192 (pc (fun hg:(decide (((n2.length:Nat):Int) > 0))=true=>(pc hg pn)) (pc (fun hg:(decide (((n2.length:Nat):Int) > 0))=true=>(pc hg pn)) (pc (fun hg:(decide (((n2.length:Nat):Int) > 0))=true=>(pc hg (pc hg (pc (c hg) pn)))) (pc (fun hg:(decide (((n2.length:Nat):Int) > 0))=true=>(pc hg pn)) (pc (fun hg:(decide (((n2.length:Nat):Int) > 0))=true=>(pc hg pn)) (pc (fun hq:(decide (((n2.length:Nat):Int) > 0))=true=>(pc hq pn)) pn)))))) ?_
  refine dK 0 14 h (fun dQ h=>?_) (fun dQ h=>?_)
  ·obtain ⟨c2,h⟩:=ab h
   obtain ⟨c3,h⟩:=ab h
   refine ah hE 2 [] [] [(0,.sl (((n2.take ((ao (((n2.length:Nat):Int) - 1)).toNat)).drop 0).length) (fun zi=>(cU .u16) (((n2.take ((ao (((n2.length:Nat):Int) - 1)).toNat)).drop 0).getD zi 0)))] [] 288 (pc c2 (pc c3 (pc (show (ao (((n2.length:Nat):Int) - 1)).toNat - 0=((n2.take ((ao (((n2.length:Nat):Int) - 1)).toNat)).drop 0).length from (BN n2 0 ((ao (((n2.length:Nat):Int) - 1)).toNat) c2)) (pc (show ∀ zi,zi < ((n2.take ((ao (((n2.length:Nat):Int) - 1)).toNat)).drop 0).length→(fun zi=>(cU .u16) (((n2.take ((ao (((n2.length:Nat):Int) - 1)).toNat)).drop 0).getD zi 0)) zi=(fun zi=>(cU .u16) (n2.getD (bQ 0 zi) 0)) zi from (fun zq j8=>JA (cU .u16) 0 n2 0 ((ao (((n2.length:Nat):Int) - 1)).toNat) zq j8)) pn)))) ?_
   exact dh hE 2 [] (kp [0]) [] 0 pn (ih _ _ h E hE)
  ·refine ah hE 2 [] [] (kp [2]) [] 224 pn ?_
   obtain rfl:=dj h
   exact dw hE 0 Tryz.f57 [] (kp [2]) [] 224 pn [] pn
theorem eb (N n r) (h:fK N n=some r):Sd 57 [(eU n)] [] 0 (eU r) []:=by
 unfold fK at h
 refine gX (fu:=Tryz.f57) (c:=Vh 1) (nt:=21) (fun hm=>rfl) ?_
 intro E hE
 refine ah hE 1 [] [] (kp [0]) [] 16 pn ?_
 exact dh hE 3 [] (kp [0]) [] 0 pn (Gm N N _ _ h E hE)
noncomputable abbrev R9:=cy Tryz.f96
theorem lz (N s r) (h:dA N s=some r):Sd 96 [(eU s)] [] 0 (eU r) []:=by
 unfold dA at h
 refine gX (fu:=Tryz.f96) (c:=R9 1) (nt:=8) (fun hm=>rfl) ?_
 intro E hE
 refine ah hE 1 [] [] (kp [0]) [] 16 pn ?_
 refine ah hE 2 [] [] (kp [0,4]) [] 48 pn ?_
 refine sA 0 [.code (R9 13),.code (R9 7)] ?_
 refine aw.XF (o:=.tmp 4) (x:=R9 26) (y:=R9 27) (n:=s.length) (by kernel_rfl) (by kernel_rfl) (fun dQ=>?_) ?_
 ·replace dQ:=List.length_eq_zero_iff.1 dQ
  replace h:(some ([]:List Int))=some r:=by rw [dQ] at h;simpa using h
  refine ah hE 1 [] [] (kp [2]) [] 64 pn ?_
  obtain rfl:=dj h
  exact dw hE 0 Tryz.f96 [] [(2,.sl (([]:List Int).length) (fun zi=>(cU .u16) (([]:List Int).getD zi 0)))] [] 64 (pc (Eq.refl 0) pn) [] pn
 ·obtain ⟨c,h⟩:=ab h
  refine ah hE 2 [] [] [(2,.lO ((([]:List Int) ++ s).length))] [(80,.arr 80 ((([]:List Int) ++ s).length) (fun zi=>(cU .u16) ((([]:List Int) ++ s).getD zi 0)))] 112 (pc (Eq.refl 0) (pc c (pc (show ∀ zi,zi < s.length→AV.kN ((fun zi=>(cU .u16) (s.getD zi 0)) zi)=true from (fun _ _=>rfl)) (pc (show (0+s.length)=(([]:List Int) ++ s).length from (bD rfl rfl)) (pc (show 0+s.length=(([]:List Int) ++ s).length from (bD rfl rfl)) (pc (show ∀ zi,zi < (([]:List Int) ++ s).length→(fun zi=>(cU .u16) ((([]:List Int) ++ s).getD zi 0)) zi=((fun zm=>if zm < 0 then (fun _=>[]) zm else (fun zi=>(cU .u16) (s.getD zi 0)) (zm - 0))) zi from (dY (cU .u16) 0 ([]:List Int) s rfl (fun zq j8=>absurd j8 (dP _)) (fun _ _=>rfl))) pn)))))) ?_
  obtain rfl:=dj h
  exact dw hE 0 Tryz.f96 [80] [(2,.sl ((([]:List Int) ++ s).length) (fun zi=>(cU .u16) ((([]:List Int) ++ s).getD zi 0)))] [] 112 (pc (Eq.refl ((([]:List Int) ++ s).length)) (pc (z1 ((([]:List Int) ++ s).length)) (pc (aZ ((([]:List Int) ++ s).length) (fun zi=>(cU .u16) ((([]:List Int) ++ s).getD zi 0))) pn))) [] pn
noncomputable abbrev C_9:=cy Tryz.f61
theorem gC (N neg n r) (h:gG N neg n=some r):Sd 61 [(aB neg),(eU n)] [] 0 (.agg (iv r)) []:=by
 unfold gG at h
 refine gX (fu:=Tryz.f61) (c:=C_9 1) (nt:=15) (fun hm=>rfl) ?_
 intro E hE
 refine ah hE 1 [] [] (kp [0,1,4]) (kq [0]) 16 pn ?_
 obtain ⟨b7,hr,h⟩:=bq h
 refine ah hE 1 [(1,oT (eU b7))] [] (kp [0,1,4]) (kq [0]) 64 (pc (eb _ _ _ hr) pn) ?_
 refine ah hE 2 [] [] (kp [0,1,4,9]) (kq [0]) 112 pn ?_
 refine dK 0 9 h (fun dQ h=>?_) (fun dQ h=>?_)
 ·refine ah hE 1 [] [] (kp [4]) (kq [0]) 144 (pc o1 pn) ?_
  obtain rfl:=dj h
  exact dw hE 0 Tryz.f61 [] (kp [4]) [(16,.var 0 [.ai,.sl (([]:List Int).length) (fun zi=>(cU .u16) (([]:List Int).getD zi 0))])] 144 (pc (Eq.refl 0) pn) [16] (pc o1 pn)
 ·obtain ⟨AU,eW,h⟩:=bq h
  refine ah hE 2 [(2,oT (eU AU))] [] (kp [4]) (kq [0]) 192 (pc (lz _ _ _ eW) (pc o1 pn)) ?_
  obtain rfl:=dj h
  exact dw hE 0 Tryz.f61 [] (kp [4]) [(16,.ai 0)] 192 pn [16] (pc o1 pn)
noncomputable abbrev C_7:=cy Tryz.f64
theorem Dp (N n r) (h:AW N n=some r):Sd 64 [(aI n)] [] 0 (.agg (iv r)) []:=by
 unfold AW at h
 refine gX (fu:=Tryz.f64) (c:=C_7 1) (nt:=14) (fun hm=>rfl) ?_
 intro E hE
 refine ah hE 1 [] [] (kp [0,2]) (kq [0]) 16 pn ?_
 refine ah hE 2 [] [] (kp [0,2,4]) (kq [0]) 48 pn ?_
 refine dK 0 4 h (fun dQ h=>?_) (fun dQ h=>?_)
 ·obtain ⟨tI,hr,h⟩:=bq h
  obtain ⟨JK,eW,h⟩:=bq h
  refine ah hE 1 [(3,oT (eU tI)),(4,oT (.agg (iv JK)))] [] (kp [2]) (kq [0]) 144 (pc (tO _ _ _ hr) (pc (gC _ _ _ _ eW) (pc o1 pn))) ?_
  obtain rfl:=dj h
  exact dw hE 0 Tryz.f64 [] (kp [2]) [(16,.ai 0)] 144 pn [16] (pc o1 pn)
 ·obtain ⟨Dj,lL,h⟩:=bq h
  obtain ⟨AX,px,h⟩:=bq h
  refine ah hE 2 [(2,oT (eU Dj)),(3,oT (.agg (iv AX)))] [] (kp [2]) (kq [0]) 128 (pc (tO _ _ _ lL) (pc (gC _ _ _ _ px) (pc o1 pn))) ?_
  obtain rfl:=dj h
  exact dw hE 0 Tryz.f64 [] (kp [2]) [(16,.ai 0)] 128 pn [16] (pc o1 pn)
noncomputable abbrev Vi:=cy Tryz.f118
def HR (N:Nat) (n:List Int) (K:Int→Int→Option (Int×Bool)):Prop:=∀ (out:Int) (i:Int) (r:Int×Bool),K out i=some r→∀ E,aQ E 0→aw Tryz.prog E 118 25 (aY E [] (.tup [(IW r.1),(aB r.2)])) [.code (Vi 244),.inLoop (Vi 244),.inBlock 0,.code (Vi 31)] ⟨[(0,(eU n)),(4,(IW out)),(5,(aI i))],[],0⟩
theorem Gn (N n fuel):HR N n (lS N n fuel):=by
 induction fuel with
 | zero=>intro _ _ r h;rw [lS.eq_1] at h;cases h
 | succ fuel ih =>
  intro out i r h E hE
  rw [lS.eq_2] at h
  refine ah hE 2 [] [] (kp [0,4,5,13]) [] 32 pn ?_
  refine dK 0 13 h (fun iZ h=>?_) (fun iZ h=>?_)
  ·obtain ⟨c,h⟩:=ab h
   refine ah hE 3 [] [] (kp [0,4,5]) [] 176 (pc (show (0:Int)≤16 by decide) (pc c pn)) ?_
   refine ah hE 1 [] [] (kp [0,4,5]) [] 224 pn ?_
   exact dh hE 1 [] (kp [0,4,5]) [] 0 pn (ih _ _ _ h E hE)
  ·refine ah hE 2 [] [] (kp [2,3]) [] 80 pn ?_
   obtain rfl:=dj h
   exact dw hE 0 Tryz.f118 [] (kp [2,3]) [] 80 pn [] pn
theorem D6 (N n r) (h:vR N n=some r):Sd 118 [(eU n)] [] 0 (.tup [(IW r.1),(aB r.2)]) []:=by
 unfold vR at h
 refine gX (fu:=Tryz.f118) (c:=Vi 1) (nt:=25) (fun hm=>rfl) ?_
 intro E hE
 refine ah hE 1 [] [] (kp [0]) [] 32 pn ?_
 refine ah hE 2 [] [] (kp [0,8]) [] 80 pn ?_
 refine dK 0 8 h (fun dQ h=>?_) (fun dQ h=>?_)
 ·refine ah hE 1 [] [] (kp [2,3]) [] 112 pn ?_
  obtain rfl:=dj h
  exact dw hE 0 Tryz.f118 [] (kp [2,3]) [] 112 pn [] pn
 ·refine ah hE 2 [] [] (kp [0,4]) [] 96 pn ?_
  refine ah hE 2 [] [] (kp [0,4,5]) [] 160 pn ?_
  exact dh hE 2 [] (kp [0,4,5]) [] 0 pn (Gn N _ N _ _ _ h E hE)
noncomputable abbrev Vj:=cy Tryz.f95
def Dq (N:Nat) (a:List Int) (b:List Int) (K:Int→Option (Int)):Prop:=∀ (i:Int) (r:Int),K i=some r→∀ E,aQ E 0→aw Tryz.prog E 95 43 (aY E [] (aI r)) [.code (Vj 116),.inLoop (Vj 116),.inBlock 0,.code (Vj 15)] ⟨[(0,(eU a)),(1,(eU b)),(5,(aI i))],[],0⟩
theorem B2 (N a b fuel):Dq N a b (iL N a b fuel):=by
 induction fuel with
 | zero=>intro _ r h;rw [iL.eq_1] at h;cases h
 | succ fuel ih =>
  intro i r h E hE
  rw [iL.eq_2] at h
  refine ah hE 2 [] [] (kp [0,1,5,20]) [] 32 pn ?_
  refine dK 0 20 h (fun iZ h=>?_) (fun iZ h=>?_)
  ·obtain ⟨c,h⟩:=ab h
   obtain ⟨c2,h⟩:=ab h
   refine ah hE 4 [] [] (kp [0,1,5,31]) [] 176 (pc c (pc c2 pn)) ?_
   refine dK 0 31 h (fun qq h=>?_) (fun qq h=>?_)
   ·refine ah hE 1 [] [] (kp [4]) [] 368 (pc c (pc c2 pn)) ?_
    obtain rfl:=dj h
    exact dw hE 0 Tryz.f95 [] (kp [4]) [] 368 pn [] pn
   ·refine ah hE 2 [] [] (kp [0,1,5]) [] 224 pn ?_
    exact dh hE 1 [] (kp [0,1,5]) [] 0 pn (ih _ _ h E hE)
  ·refine ah hE 2 [] [] (kp [4]) [] 48 pn ?_
   obtain rfl:=dj h
   exact dw hE 0 Tryz.f95 [] (kp [4]) [] 48 pn [] pn
theorem yP (N a b r) (h:nc N a b=some r):Sd 95 [(eU a),(eU b)] [] 0 (aI r) []:=by
 unfold nc at h
 refine gX (fu:=Tryz.f95) (c:=Vj 1) (nt:=43) (fun hm=>rfl) ?_
 intro E hE
 refine ah hE 1 [] [] (kp [0,1]) [] 16 pn ?_
 refine ah hE 2 [] [] (kp [0,1,10]) [] 96 pn ?_
 refine dK 0 10 h (fun dQ h=>?_) (fun dQ h=>?_)
 ·refine ah hE 1 [] [] (kp [4]) [] 192 pn ?_
  obtain rfl:=dj h
  exact dw hE 0 Tryz.f95 [] (kp [4]) [] 192 pn [] pn
 ·refine ah hE 3 [] [] (kp [0,1,5]) [] 160 pn ?_
  exact dh hE 2 [] (kp [0,1,5]) [] 0 pn (B2 N _ _ N _ _ h E hE)
noncomputable abbrev Vk:=cy Tryz.f97
def Gp (N:Nat) (a:List Int) (b:Int) (K:(List Int)→Int→Int→Option ((List Int)×Int)):Prop:=∀ (q:List Int) (rest:Int) (i:Int) (r:(List Int)×Int),K q rest i=some r→∀ E,aQ E 0→aw Tryz.prog E 97 43 (aY E [] (.tup [(eU r.1),(wO r.2)])) [.code (Vk 244),.inLoop (Vk 244),.inBlock 0,.code (Vk 31)] ⟨[(0,(eU a)),(1,(wO b)),(6,(.os 0 0 q.length)),(7,(Vg rest)),(8,(aI i))],[(0,aU q)],1⟩
theorem Ep (N a b fuel):Gp N a b (kR N a b fuel):=by
 induction fuel with
 | zero=>intro _ _ _ r h;rw [kR.eq_1] at h;cases h
 | succ fuel ih =>
  intro q rest i r h E hE
  rw [kR.eq_2] at h
  refine ah hE 2 [] [] (kp [0,1,6,7,8,16]) (kq [0]) 33 pn ?_
  refine dK 0 16 h (fun dQ h=>?_) (fun dQ h=>?_)
  ·obtain ⟨c2,h⟩:=ab h
   refine ah hE 4 [] [] (kp [0,1,6,7,8]) (kq [0]) 177 (pc (show (0:Int)≤16 by decide) (pc c2 pn)) ?_
   obtain ⟨c3,h⟩:=ab h
   obtain ⟨c4,h⟩:=ab h
   refine ah hE 1 [] [] (kp [0,1] ++ [(6,.lO ((q.set ((i).toNat) (IntKind.u16.wrap ((IntKind.u32.wrap ((vM .u32 (iK .u32 rest 16) (IntKind.u32.wrap ((a.getD ((i).toNat) 0)))).tdiv (IntKind.u32.wrap (b))))))).length))] ++ kp [7,8]) [(0,.arr 0 ((q.set ((i).toNat) (IntKind.u16.wrap ((IntKind.u32.wrap ((vM .u32 (iK .u32 rest 16) (IntKind.u32.wrap ((a.getD ((i).toNat) 0)))).tdiv (IntKind.u32.wrap (b))))))).length) (fun zi=>(cU .u16) ((q.set ((i).toNat) (IntKind.u16.wrap ((IntKind.u32.wrap ((vM .u32 (iK .u32 rest 16) (IntKind.u32.wrap ((a.getD ((i).toNat) 0)))).tdiv (IntKind.u32.wrap (b))))))).getD zi 0)))] 321 (pc c3 (pc c4 (pc (dm c4) (pc (aG q ((i).toNat) (IntKind.u16.wrap ((IntKind.u32.wrap ((vM .u32 (iK .u32 rest 16) (IntKind.u32.wrap ((a.getD ((i).toNat) 0)))).tdiv (IntKind.u32.wrap (b))))))) (pc (aG q ((i).toNat) (IntKind.u16.wrap ((IntKind.u32.wrap ((vM .u32 (iK .u32 rest 16) (IntKind.u32.wrap ((a.getD ((i).toNat) 0)))).tdiv (IntKind.u32.wrap (b))))))) (pc (cH (cU .u16) 0 q ((i).toNat) (IntKind.u16.wrap ((IntKind.u32.wrap ((vM .u32 (iK .u32 rest 16) (IntKind.u32.wrap ((a.getD ((i).toNat) 0)))).tdiv (IntKind.u32.wrap (b))))))) pn)))))) ?_
   refine ah hE 0 [] [] (kp [0,1,6,7,8]) (kq [0]) 401 (pc c3 pn) ?_
   refine ah hE 1 [] [] (kp [0,1,6,7,8]) (kq [0]) 449 pn ?_
   exact dh hE 1 [] (kp [0,1,6,7,8]) (kq [0]) 1 pn (ih _ _ _ _ h E hE)
  ·obtain ⟨b7,hr,h⟩:=bq h
   refine ah hE 2 [(1,⟨[],true,(eU b7),[],0,true,none⟩)] [] (kp [4,5]) [] 129 (pc (eb _ _ _ hr) (pc (z1 q.length) pn)) ?_
   obtain rfl:=dj h
   exact dw hE 0 Tryz.f97 [] (kp [4,5]) [] 129 pn [] pn
theorem JO (N a b r) (h:vS N a b=some r):Sd 97 [(eU a),(wO b)] [] 0 (.tup [(eU r.1),(wO r.2)]) []:=by
 unfold vS at h
 refine gX (fu:=Tryz.f97) (c:=Vk 1) (nt:=43) (fun hm=>rfl) ?_
 intro E hE
 refine ah hE 1 [] [] (kp [0,1]) [] 32 pn ?_
 obtain ⟨c,h⟩:=ab h
 refine ah hE 1 [] [] (kp [0,1] ++ [(6,.lO ((List.replicate a.length 0:List Int).length))]) [(64,.arr 64 ((List.replicate a.length 0:List Int).length) (fun zi=>(cU .u16) ((List.replicate a.length 0:List Int).getD zi 0)))] 96 (pc (show 0≤((a.length:Nat):Int) from c.1) (pc (show ((a.length:Nat):Int)≤((a.length:Nat):Int) from (Int.le_refl _)) (pc (show (2:Int) * ((a.length:Nat):Int)≤281474976710656 from c.2.1) (pc (show ((a.length:Nat):Int)≤9223372036854775807 from c.2.2) (pc (show a.length=(List.replicate a.length 0:List Int).length from (de).symm) (pc (show a.length=(List.replicate a.length 0:List Int).length from (de).symm) (pc (show ∀ zi,zi < (List.replicate a.length 0:List Int).length→(fun zi=>(cU .u16) ((List.replicate a.length 0:List Int).getD zi 0)) zi=(fun _=>[(wO 0)]) zi from (fun zq j8=>qQ (cU .u16) 0 0 a.length zq j8)) pn))))))) ?_
 refine ah hE 1 [] [] (kp [0,1,6,7]) (kq [64]) 112 pn ?_
 refine ah hE 2 [] [] (kp [0,1,6,7,8]) (kq [64]) 176 pn ?_
 exact dh hE 2 [] (kp [0,1,6,7,8]) [(0,.ai 64)] 1 pn (Ep N _ _ N _ _ _ _ h E hE)
noncomputable abbrev XW:=cy Tryz.f117
def xl (N:Nat) (K:Int→Int→Option (Int)):Prop:=∀ (x2:Int) (n:Int) (r:Int),K x2 n=some r→∀ E,aQ E 0→aw Tryz.prog E 117 13 (aY E [] (aI r)) [.code (XW 14),.code (XW 15)] ⟨[(0,(wO x2)),(2,(aI n))],[],0⟩
theorem pJ (N):xl N (cM N):=by
 intro x2 n r h E hE
 unfold cM at h
 obtain ⟨c,h⟩:=ab h
 refine ah hE 0 [] [] (kp [2]) [] 112 (pc c pn) ?_
 obtain rfl:=dj h
 exact dw hE 0 Tryz.f117 [] (kp [2]) [] 112 pn [] pn
theorem yQ (N x r) (h:kS N x=some r):Sd 117 [(wO x)] [] 0 (aI r) []:=by
 unfold kS at h
 refine gX (fu:=Tryz.f117) (c:=XW 1) (nt:=13) (fun hm=>rfl) ?_
 intro E hE
 refine ah hE 1 [] [] (kp [0,2]) [] 16 pn ?_
 refine ah hE 2 [] [] (kp [0,2,4]) [] 48 pn ?_
 refine dK 0 4 h (fun dQ h=>?_) (fun dQ h=>?_)
 ·refine ah hE 1 [] [] (kp [0]) [] 96 (pc (show (0:Int)≤8 by decide) pn) ?_
  refine ah hE 0 [] [] (kp [0,2]) [] 112 pn ?_
  exact dh hE 1 [] (kp [0,2]) [] 0 pn (pJ N _ _ _ h E hE)
 ·exact dh hE 2 [] (kp [0,2]) [] 0 pn (pJ N _ _ _ h E hE)
noncomputable abbrev ac6:=cy Tryz.f98
theorem rG (N x r) (h:fc N x=some r):Sd 98 [(wO x)] [] 0 (aI r) []:=by
 unfold fc at h
 refine gX (fu:=Tryz.f98) (c:=ac6 1) (nt:=6) (fun hm=>rfl) ?_
 intro E hE
 refine ah hE 1 [] [] (kp [0]) [] 16 pn ?_
 obtain ⟨M5,hr,h⟩:=bq h
 refine ah hE 1 [(1,oT (aI M5))] [] (kp [2]) [] 80 (pc (yQ _ _ _ hr) pn) ?_
 obtain rfl:=dj h
 exact dw hE 0 Tryz.f98 [] (kp [2]) [] 80 pn [] pn
noncomputable abbrev Vl:=cy Tryz.f99
def Dr (N:Nat) (a:List Int) (Af:Int) (K:(List Int)→Int→Option ((List Int))):Prop:=∀ (out:List Int) (x:Int) (r:(List Int)),K out x=some r→∀ E,aQ E 0→aw Tryz.prog E 99 41 (aY E [(0,aU r)] (.os 0 0 r.length)) [.code (Vl 116),.inLoop (Vl 116),.inBlock 0,.code (Vl 15)] ⟨[(1,(aI Af)),(5,(.os 0 0 out.length)),(13,(eU a)),(14,(aI ((a.length:Nat):Int))),(15,(aI x))],[(0,aU out)],1⟩
theorem B3 (N a Af fuel):Dr N a Af (iP N a Af fuel):=by
 induction fuel with
 | zero=>intro _ _ r h;rw [iP.eq_1] at h;cases h
 | succ fuel ih =>
  intro out x r h E hE
  rw [iP.eq_2] at h
  refine ah hE 1 [] [] (kp [1,5,13,14,15,16]) (kq [0]) 17 pn ?_
  refine dK 1 16 h (fun dQ h=>?_) (fun dQ h=>?_)
  ·obtain ⟨c2,h⟩:=ab h
   refine ah hE 4 [] [] (kp [1,5,6,7,13,14,15]) (kq [0]) 97 (pc c2 pn) ?_
   obtain ⟨c3,h⟩:=ab h
   refine ah hE 1 [] [] (kp [1,5,6,8,13,14,15]) (kq [0]) 177 (pc c3 pn) ?_
   obtain ⟨c4,h⟩:=ab h
   refine ah hE 1 [] [] (kp [1] ++ [(5,.lO ((out.set ((x).toNat) (vM .u16 (out.getD ((x).toNat) 0) (IntKind.u16.wrap ((iK .u32 (IntKind.u32.wrap ((a.getD ((x).toNat) 0))) Af))))).length))] ++ kp [6,8,13,14,15]) [(0,.arr 0 ((out.set ((x).toNat) (vM .u16 (out.getD ((x).toNat) 0) (IntKind.u16.wrap ((iK .u32 (IntKind.u32.wrap ((a.getD ((x).toNat) 0))) Af))))).length) (fun zi=>(cU .u16) ((out.set ((x).toNat) (vM .u16 (out.getD ((x).toNat) 0) (IntKind.u16.wrap ((iK .u32 (IntKind.u32.wrap ((a.getD ((x).toNat) 0))) Af))))).getD zi 0)))] 321 (pc c4 (pc (dm c4) (pc c4 (pc (dm c4) (pc (aG out ((x).toNat) (vM .u16 (out.getD ((x).toNat) 0) (IntKind.u16.wrap ((iK .u32 (IntKind.u32.wrap ((a.getD ((x).toNat) 0))) Af))))) (pc (aG out ((x).toNat) (vM .u16 (out.getD ((x).toNat) 0) (IntKind.u16.wrap ((iK .u32 (IntKind.u32.wrap ((a.getD ((x).toNat) 0))) Af))))) (pc (cH (cU .u16) 0 out ((x).toNat) (vM .u16 (out.getD ((x).toNat) 0) (IntKind.u16.wrap ((iK .u32 (IntKind.u32.wrap ((a.getD ((x).toNat) 0))) Af))))) pn))))))) ?_
   obtain ⟨c5,h⟩:=ab h
   refine ah hE 0 [] [] (kp [1] ++ [(5,.lO (((out.set ((x).toNat) (vM .u16 (out.getD ((x).toNat) 0) (IntKind.u16.wrap ((iK .u32 (IntKind.u32.wrap ((a.getD ((x).toNat) 0))) Af))))).set ((ao (x+1)).toNat) (IntKind.u16.wrap ((ot .u32 (iK .u32 (IntKind.u32.wrap ((a.getD ((x).toNat) 0))) Af) 16)))).length))] ++ kp [13,14,15]) [(0,.arr 0 (((out.set ((x).toNat) (vM .u16 (out.getD ((x).toNat) 0) (IntKind.u16.wrap ((iK .u32 (IntKind.u32.wrap ((a.getD ((x).toNat) 0))) Af))))).set ((ao (x+1)).toNat) (IntKind.u16.wrap ((ot .u32 (iK .u32 (IntKind.u32.wrap ((a.getD ((x).toNat) 0))) Af) 16)))).length) (fun zi=>(cU .u16) (((out.set ((x).toNat) (vM .u16 (out.getD ((x).toNat) 0) (IntKind.u16.wrap ((iK .u32 (IntKind.u32.wrap ((a.getD ((x).toNat) 0))) Af))))).set ((ao (x+1)).toNat) (IntKind.u16.wrap ((ot .u32 (iK .u32 (IntKind.u32.wrap ((a.getD ((x).toNat) 0))) Af) 16)))).getD zi 0)))] 449 (pc (show (0:Int)≤16 by decide) (pc c5 (pc (dm c5) (pc (aG (out.set ((x).toNat) (vM .u16 (out.getD ((x).toNat) 0) (IntKind.u16.wrap ((iK .u32 (IntKind.u32.wrap ((a.getD ((x).toNat) 0))) Af))))) ((ao (x+1)).toNat) (IntKind.u16.wrap ((ot .u32 (iK .u32 (IntKind.u32.wrap ((a.getD ((x).toNat) 0))) Af) 16)))) (pc (aG (out.set ((x).toNat) (vM .u16 (out.getD ((x).toNat) 0) (IntKind.u16.wrap ((iK .u32 (IntKind.u32.wrap ((a.getD ((x).toNat) 0))) Af))))) ((ao (x+1)).toNat) (IntKind.u16.wrap ((ot .u32 (iK .u32 (IntKind.u32.wrap ((a.getD ((x).toNat) 0))) Af) 16)))) (pc (cH (cU .u16) 0 (out.set ((x).toNat) (vM .u16 (out.getD ((x).toNat) 0) (IntKind.u16.wrap ((iK .u32 (IntKind.u32.wrap ((a.getD ((x).toNat) 0))) Af))))) ((ao (x+1)).toNat) (IntKind.u16.wrap ((ot .u32 (iK .u32 (IntKind.u32.wrap ((a.getD ((x).toNat) 0))) Af) 16)))) pn)))))) ?_
   refine ah hE 1 [] [] (kp [1,5,13,14,15]) (kq [0]) 481 pn ?_
   exact dh hE 1 [] (kp [1,5,13,14,15]) (kq [0]) 1 pn (ih _ _ _ h E hE)
  ·refine ah hE 2 [] [] (kp [4]) (kq [0]) 49 pn ?_
   obtain rfl:=dj h
   exact dw hE 0 Tryz.f99 [] (kp [4]) (kq [0]) 49 pn [] pn
theorem yR (N a Af r) (h:py N a Af=some r):Sd 99 [(eU a),(aI Af)] [] 0 (.os 0 0 r.length) [(0,aU r)]:=by
 unfold py at h
 refine gX (fu:=Tryz.f99) (c:=Vl 1) (nt:=41) (fun hm=>rfl) ?_
 intro E hE
 refine ah hE 1 [] [] (kp [0,1]) [] 16 pn ?_
 obtain ⟨c,h⟩:=ab h
 refine ah hE 1 [] [] (kp [0,1] ++ [(5,.lO ((List.replicate ((ao (((a.length:Nat):Int)+1)).toNat) 0:List Int).length))]) [(64,.arr 64 ((List.replicate ((ao (((a.length:Nat):Int)+1)).toNat) 0:List Int).length) (fun zi=>(cU .u16) ((List.replicate ((ao (((a.length:Nat):Int)+1)).toNat) 0:List Int).getD zi 0)))] 96 (pc (show 0≤(ao (((a.length:Nat):Int)+1)) from c.1) (pc (show (ao (((a.length:Nat):Int)+1))≤(ao (((a.length:Nat):Int)+1)) from (Int.le_refl _)) (pc (show (2:Int) * (ao (((a.length:Nat):Int)+1))≤281474976710656 from c.2.1) (pc (show (ao (((a.length:Nat):Int)+1))≤9223372036854775807 from c.2.2) (pc (show (ao (((a.length:Nat):Int)+1)).toNat=(List.replicate ((ao (((a.length:Nat):Int)+1)).toNat) 0:List Int).length from (de).symm) (pc (show (ao (((a.length:Nat):Int)+1)).toNat=(List.replicate ((ao (((a.length:Nat):Int)+1)).toNat) 0:List Int).length from (de).symm) (pc (show ∀ zi,zi < (List.replicate ((ao (((a.length:Nat):Int)+1)).toNat) 0:List Int).length→(fun zi=>(cU .u16) ((List.replicate ((ao (((a.length:Nat):Int)+1)).toNat) 0:List Int).getD zi 0)) zi=(fun _=>[(wO 0)]) zi from (fun zq j8=>qQ (cU .u16) 0 0 ((ao (((a.length:Nat):Int)+1)).toNat) zq j8)) pn))))))) ?_
 refine ah hE 2 [] [] (kp [1,5,13,14,15]) (kq [64]) 144 pn ?_
 exact dh hE 2 [] (kp [1,5,13,14,15]) [(0,.ai 64)] 1 pn (B3 N _ _ N _ _ _ h E hE)
noncomputable abbrev x6:=cy Tryz.f100
def Gq (N:Nat) (uo:Nat) (un:Nat) (v:List Int) (C0:List Int) (K:Int→Int→Option (Int×(List Int))):Prop:=∀ (q:Int) (rest:Int) (r:Int×(List Int)),K q rest=some r→∀ E,aQ E 1→aw Tryz.prog E 100 161 (aY E [(0,aU r.2)] (wO r.1)) [.code (x6 248),.inLoop (x6 248),.inBlock 0,.code (x6 63)] ⟨[(0,(.os 0 uo un)),(1,(eU v)),(5,(aI ((v.length:Nat):Int))),(7,(IW q)),(8,(IW rest))],[(0,aU C0)],1⟩
def yS (N:Nat) (uo:Nat) (un:Nat) (v:List Int) (q:Int) (K:(List Int)→Int→Int→Int→Option (Int×(List Int))):Prop:=∀ (bd:List Int) (carry:Int) (borrow:Int) (x:Int) (r:Int×(List Int)),K bd carry borrow x=some r→∀ E,aQ E 1→aw Tryz.prog E 100 161 (aY E [(0,aU r.2)] (wO r.1)) [.code (x6 2036),.inLoop (x6 2036),.inBlock 2,.code (x6 255)] ⟨[(0,(.os 0 uo un)),(1,(eU v)),(5,(aI ((v.length:Nat):Int))),(7,(IW q)),(9,(IW carry)),(10,(aI borrow)),(84,(aI (ao (((v.length:Nat):Int)+1)))),(85,(aI x))],[(0,aU bd)],1⟩
def Gr (N:Nat) (uo:Nat) (un:Nat) (v:List Int) (q:Int) (bd:List Int) (borrow:Int) (x:Int) (K:Int→Option (Int×(List Int))):Prop:=∀ (x2:Int) (r:Int×(List Int)),K x2=some r→∀ E,aQ E 1→aw Tryz.prog E 100 161 (aY E [(0,aU r.2)] (wO r.1)) [.code (x6 521422),.code (x6 521423),.inBlock 3,.code (x6 16295),.inLoop (x6 2036),.inBlock 2,.code (x6 255)] ⟨[(0,(.os 0 uo un)),(1,(eU v)),(5,(aI ((v.length:Nat):Int))),(7,(IW q)),(10,(aI borrow)),(11,(aI x)),(12,(IW x2)),(84,(aI (ao (((v.length:Nat):Int)+1)))),(85,(aI x))],[(0,aU bd)],1⟩
theorem xO (N:Nat) (uo:Nat) (un:Nat) (v:List Int) (q:Int) (bd:List Int) (borrow:Int) (x:Int) (pU:(List Int)→Int→Int→Int→Option (Int×(List Int))) (Er:yS N uo un v q pU):Gr N uo un v q bd borrow x (nQ N uo un v q bd borrow x pU):=by
 intro x2 r h E hE
 unfold nQ at h
 refine ah hE 0 [] [] (kp [0,1,5,7,9,10,11,12,84,85]) (kq [0]) 49 (pc (show (0:Int)≤16 by decide) pn) ?_
 obtain ⟨Mj,h⟩:=ab h
 obtain ⟨Sa,h⟩:=ab h
 refine ah hE 1 [] [] (kp [0,1,5,7,9,11,13,84,85]) (kq [0]) 241 (pc Mj (pc (show (bQ uo (x).toNat) < bd.length by have h1:=Mj;have h2:=Sa;simp only [dq];omega) pn)) ?_
 refine ah hE 1 [] [] (kp [0,1,5,7,9,13,84,85]) [(0,.arr 0 ((bd.set (bQ uo (x).toNat) (IntKind.u16.wrap ((ao ((ao ((ao ((bd.getD (bQ uo (x).toNat) 0))) - (ao ((vP .u64 x2 65535)))))+borrow))))).length) (fun zi=>(cU .u16) ((bd.set (bQ uo (x).toNat) (IntKind.u16.wrap ((ao ((ao ((ao ((bd.getD (bQ uo (x).toNat) 0))) - (ao ((vP .u64 x2 65535)))))+borrow))))).getD zi 0)))] 337 (pc Mj (pc (show (bQ uo (x).toNat) < bd.length by have h1:=Mj;have h2:=Sa;simp only [dq];omega) (pc (aG bd (bQ uo (x).toNat) (IntKind.u16.wrap ((ao ((ao ((ao ((bd.getD (bQ uo (x).toNat) 0))) - (ao ((vP .u64 x2 65535)))))+borrow))))) (pc (cH (cU .u16) 0 bd (bQ uo (x).toNat) (IntKind.u16.wrap ((ao ((ao ((ao ((bd.getD (bQ uo (x).toNat) 0))) - (ao ((vP .u64 x2 65535)))))+borrow))))) pn)))) ?_
 refine ah hE 0 [] [] (kp [0,1,5,7,9,10,84,85]) (kq [0]) 385 (pc (show (0:Int)≤16 by decide) pn) ?_
 refine ah hE 1 [] [] (kp [0,1,5,7,9,10,84,85]) (kq [0]) 417 pn ?_
 exact dh hE 1 [] (kp [0,1,5,7,9,10,84,85]) (kq [0]) 1 pn (Er _ _ _ _ _ h E hE)
def Gs (N:Nat) (uo:Nat) (un:Nat) (v:List Int) (q:Int) (K:(List Int)→Int→Int→Option (Int×(List Int))):Prop:=∀ (bZ:List Int) (fz:Int) (x3:Int) (r:Int×(List Int)),K bZ fz x3=some r→∀ E,aQ E 1→aw Tryz.prog E 100 161 (aY E [(0,aU r.2)] (wO r.1)) [.code (x6 130740),.inLoop (x6 130740),.inBlock 4,.code (x6 16343),.code (x6 511)] ⟨[(0,(.os 0 uo un)),(1,(eU v)),(5,(aI ((v.length:Nat):Int))),(7,(IW (IntKind.u64.wrap (q - 1)))),(14,(Vg fz)),(126,(aI ((v.length:Nat):Int))),(127,(aI x3))],[(0,aU bZ)],1⟩
def Gu (N:Nat) (K:(List Int)→Int→Option (Int×(List Int))):Prop:=∀ (cL:List Int) (q2:Int) (r:Int×(List Int)),K cL q2=some r→∀ E,aQ E 1→aw Tryz.prog E 100 161 (aY E [(0,aU r.2)] (wO r.1)) [.code (x6 1022),.code (x6 1023)] ⟨[(7,(IW q2))],[(0,aU cL)],1⟩
theorem xP (N):Gu N (kT N):=by
 intro cL q2 r h E hE
 unfold kT at h
 refine ah hE 0 [] [] (kp [4]) (kq [0]) 49 pn ?_
 obtain rfl:=dj h
 exact dw hE 0 Tryz.f100 [] (kp [4]) (kq [0]) 49 pn [] pn
theorem Es (N uo un v q fuel):Gs N uo un v q (iy N uo un v q fuel):=by
 induction fuel with
 | zero=>intro _ _ _ r h;rw [iy.eq_1] at h;cases h
 | succ fuel ih =>
  intro bZ fz x3 r h E hE
  rw [iy.eq_2] at h
  refine ah hE 1 [] [] (kp [0,1,5,7,14,126,127,128]) (kq [0]) 17 pn ?_
  refine dK 1 128 h (fun Nf h=>?_) (fun Nf h=>?_)
  ·refine ah hE 4 [] [] (kp [0,1,5,7,14,15,126,127]) (kq [0]) 49 pn ?_
   obtain ⟨Ng,h⟩:=ab h
   obtain ⟨QA,h⟩:=ab h
   obtain ⟨Y0,h⟩:=ab h
   refine ah hE 1 [] [] (kp [0,1,5,7,14,15,126,127]) (kq [0]) 273 (pc Ng (pc (show (bQ uo (x3).toNat) < bZ.length by have h1:=Ng;have h2:=QA;simp only [dq];omega) (pc Y0 pn))) ?_
   refine ah hE 1 [] [] (kp [0,1,5,7,14,126,127]) [(0,.arr 0 ((bZ.set (bQ uo (x3).toNat) (IntKind.u16.wrap ((IntKind.u32.wrap (fz+(IntKind.u32.wrap ((IntKind.u32.wrap ((bZ.getD (bQ uo (x3).toNat) 0)))+(IntKind.u32.wrap ((v.getD ((x3).toNat) 0)))))))))).length) (fun zi=>(cU .u16) ((bZ.set (bQ uo (x3).toNat) (IntKind.u16.wrap ((IntKind.u32.wrap (fz+(IntKind.u32.wrap ((IntKind.u32.wrap ((bZ.getD (bQ uo (x3).toNat) 0)))+(IntKind.u32.wrap ((v.getD ((x3).toNat) 0)))))))))).getD zi 0)))] 369 (pc Ng (pc (show (bQ uo (x3).toNat) < bZ.length by have h1:=Ng;have h2:=QA;simp only [dq];omega) (pc (aG bZ (bQ uo (x3).toNat) (IntKind.u16.wrap ((IntKind.u32.wrap (fz+(IntKind.u32.wrap ((IntKind.u32.wrap ((bZ.getD (bQ uo (x3).toNat) 0)))+(IntKind.u32.wrap ((v.getD ((x3).toNat) 0)))))))))) (pc (cH (cU .u16) 0 bZ (bQ uo (x3).toNat) (IntKind.u16.wrap ((IntKind.u32.wrap (fz+(IntKind.u32.wrap ((IntKind.u32.wrap ((bZ.getD (bQ uo (x3).toNat) 0)))+(IntKind.u32.wrap ((v.getD ((x3).toNat) 0)))))))))) pn)))) ?_
   refine ah hE 0 [] [] (kp [0,1,5,7,14,126,127]) (kq [0]) 417 (pc (show (0:Int)≤16 by decide) pn) ?_
   refine ah hE 1 [] [] (kp [0,1,5,7,14,126,127]) (kq [0]) 449 pn ?_
   exact dh hE 1 [] (kp [0,1,5,7,14,126,127]) (kq [0]) 1 pn (ih _ _ _ _ h E hE)
  ·obtain ⟨XX,h⟩:=ab h
   obtain ⟨Sb,h⟩:=ab h
   refine ah hE 1 [] [] (kp [7]) [(0,.arr 0 ((bZ.set (bQ uo v.length) (IntKind.u16.wrap ((bZ.getD (bQ uo v.length) 0)+(IntKind.u16.wrap (fz))))).length) (fun zi=>(cU .u16) ((bZ.set (bQ uo v.length) (IntKind.u16.wrap ((bZ.getD (bQ uo v.length) 0)+(IntKind.u16.wrap (fz))))).getD zi 0)))] 161 (pc XX (pc (show (bQ uo v.length) < bZ.length by have h1:=XX;have h2:=Sb;simp only [dq];omega) (pc XX (pc (show (bQ uo v.length) < bZ.length by have h1:=XX;have h2:=Sb;simp only [dq];omega) (pc (aG bZ (bQ uo v.length) (IntKind.u16.wrap ((bZ.getD (bQ uo v.length) 0)+(IntKind.u16.wrap (fz))))) (pc (cH (cU .u16) 0 bZ (bQ uo v.length) (IntKind.u16.wrap ((bZ.getD (bQ uo v.length) 0)+(IntKind.u16.wrap (fz))))) pn)))))) ?_
   exact dh hE 1 [] (kp [7]) (kq [0]) 1 pn (xP N _ _ _ h E hE)
theorem Et (N uo un v q fuel):yS N uo un v q (fQ N uo un v q fuel):=by
 induction fuel with
 | zero=>intro _ _ _ _ r h;rw [fQ.eq_1] at h;cases h
 | succ fuel ih =>
  intro bd carry borrow x r h E hE
  rw [fQ.eq_2] at h
  refine ah hE 1 [] [] (kp [0,1,5,7,9,10,84,85,86]) (kq [0]) 17 pn ?_
  refine dK 1 86 h (fun iZ h=>?_) (fun iZ h=>?_)
  ·refine ah hE 4 [] [] (kp [0,1,5,7,9,10,11,84,85]) (kq [0]) 49 pn ?_
   refine ah hE 1 [] [] (kp [0,1,5,7,10,11,12,84,85]) (kq [0]) 81 pn ?_
   refine ah hE 2 [] [] (kp [0,1,5,7,10,11,12,84,85,91]) (kq [0]) 129 pn ?_
   refine dK 0 91 h (fun qq h=>?_) (fun qq h=>?_)
   ·obtain ⟨Sc,h⟩:=ab h
    refine ah hE 0 [] [] (kp [0,1,5,7,10,11,12,84,85]) (kq [0]) 289 (pc Sc pn) ?_
    exact dh hE 1 [] (kp [0,1,5,7,10,11,12,84,85]) (kq [0]) 1 pn (xO N _ _ _ _ _ _ _ _ ih _ _ h E hE)
   ·exact dh hE 2 [] (kp [0,1,5,7,10,11,12,84,85]) (kq [0]) 1 pn (xO N _ _ _ _ _ _ _ _ ih _ _ h E hE)
  ·refine ah hE 3 [] [] (kp [0,1,5,7,123]) (kq [0]) 49 pn ?_
   refine dK 0 123 h (fun Eu h=>?_) (fun Eu h=>?_)
   ·refine ah hE 1 [] [] (kp [0,1,5,7]) (kq [0]) 97 pn ?_
    refine ah hE 1 [] [] (kp [0,1,5,7,14]) (kq [0]) 113 pn ?_
    refine ah hE 2 [] [] (kp [0,1,5,7,14,126,127]) (kq [0]) 145 pn ?_
    exact dh hE 2 [] (kp [0,1,5,7,14,126,127]) (kq [0]) 1 pn (Es N _ _ _ _ N _ _ _ _ h E hE)
   ·exact dh hE 2 [] (kp [7]) (kq [0]) 1 pn (xP N _ _ _ h E hE)
theorem Ew (N uo un v C0 fuel):Gq N uo un v C0 (kU N uo un v C0 fuel):=by
 induction fuel with
 | zero=>intro _ _ r h;rw [kU.eq_1] at h;cases h
 | succ fuel ih =>
  intro q rest r h E hE
  rw [kU.eq_2] at h
  obtain ⟨c6,h⟩:=ab h
  obtain ⟨c7,h⟩:=ab h
  obtain ⟨c8,h⟩:=ab h
  refine ah hE 2 [] [] (kp [0,1,5,7,8,72]) (kq [0]) 417 (pc (fun hg:(decide (rest < 65536))=true=>(pc hg pn)) (pc (fun hg:((decide (rest < 65536)) && ((decide (rest < 65536)) && (!(decide (q > 65535)))))=true=>(pc hg pn)) (pc (fun hg:((decide (rest < 65536)) && ((decide (rest < 65536)) && (!(decide (q > 65535)))))=true=>(pc hg (pc hg (pc (c6 hg) pn)))) (pc (fun hg:((decide (rest < 65536)) && ((decide (rest < 65536)) && (!(decide (q > 65535)))))=true=>(pc hg pn)) (pc (fun hg:((decide (rest < 65536)) && ((decide (rest < 65536)) && (!(decide (q > 65535)))))=true=>(pc hg pn)) (pc (fun hg:((decide (rest < 65536)) && ((decide (rest < 65536)) && (!(decide (q > 65535)))))=true=>(pc hg (pc hg pn))) (pc (fun hg:((decide (rest < 65536)) && ((decide (rest < 65536)) && (!(decide (q > 65535)))))=true=>(pc hg (pc (show (0:Int)≤16 by decide) pn))) (pc (fun hg:((decide (rest < 65536)) && ((decide (rest < 65536)) && (!(decide (q > 65535)))))=true=>(pc hg pn)) (pc (fun hg:((decide (rest < 65536)) && ((decide (rest < 65536)) && (!(decide (q > 65535)))))=true=>(pc hg (pc hg (pc (c7 hg) pn)))) (pc (fun hg:((decide (rest < 65536)) && ((decide (rest < 65536)) && (!(decide (q > 65535)))))=true=>(pc hg (pc (show (bQ uo (ao (((v.length:Nat):Int) - 2)).toNat) < C0.length by have h1:=(c7 hg);have h2:=(c8 hg);simp only [dq];omega) pn))) (pc (fun hg:((decide (rest < 65536)) && ((decide (rest < 65536)) && (!(decide (q > 65535)))))=true=>(pc hg pn)) (pc (fun hg:((decide (rest < 65536)) && ((decide (rest < 65536)) && (!(decide (q > 65535)))))=true=>(pc hg (pc hg pn))) (pc (fun hg:((decide (rest < 65536)) && ((decide (rest < 65536)) && (!(decide (q > 65535)))))=true=>(pc hg (pc hg pn))) (pc (fun hg:(decide (rest < 65536))=true=>(pc hg (pc hg (pc (fun hq:(!(decide (q > 65535)))=true=>(pc (show ((decide (rest < 65536)) && ((decide (rest < 65536)) && (!(decide (q > 65535)))))=true from (uE hg (uE hg hq))) pn)) pn)))) (pc (fun hq:(decide (rest < 65536))=true=>(pc hq pn)) pn))))))))))))))) ?_
  refine dK 0 72 h (fun dQ h=>?_) (fun dQ h=>?_)
  ·refine ah hE 3 [] [] (kp [0,1,5,7,8]) (kq [0]) 465 pn ?_
   obtain ⟨c9,h⟩:=ab h
   refine ah hE 0 [] [] (kp [0,1,5,7,8]) (kq [0]) 609 (pc c9 pn) ?_
   exact dh hE 2 [] (kp [0,1,5,7,8]) (kq [0]) 1 pn (ih _ _ _ h E hE)
  ·refine ah hE 2 [] [] (kp [0,1,5,7,9,10]) (kq [0]) 449 pn ?_
   refine ah hE 2 [] [] (kp [0,1,5,7,9,10,84,85]) (kq [0]) 497 pn ?_
   exact dh hE 2 [] (kp [0,1,5,7,9,10,84,85]) (kq [0]) 1 pn (Et N _ _ _ _ N _ _ _ _ _ h E hE)
theorem JP (N uo un v C0 r) (h:vT N uo un v C0=some r):Sd 100 [(.os 0 uo un),(eU v)] [(0,aU C0)] 1 (wO r.1) [(0,aU r.2)]:=by
 unfold vT at h
 refine gX (fu:=Tryz.f100) (c:=x6 1) (nt:=161) (fun hm=>absurd hm (by decide)) ?_
 intro E hE
 refine ah hE 1 [] [] (kp [0,1]) (kq [0]) 17 pn ?_
 refine ah hE 1 [] [] (kp [0,1,5]) (kq [0]) 65 pn ?_
 obtain ⟨c,h⟩:=ab h
 obtain ⟨c2,h⟩:=ab h
 obtain ⟨c3,h⟩:=ab h
 refine ah hE 1 [] [] (kp [0,1,5,6]) (kq [0]) 289 (pc c (pc (show (bQ uo v.length) < C0.length by have h1:=c;have h2:=c2;simp only [dq];omega) (pc (show (0:Int)≤16 by decide) (pc c3 (pc (show (bQ uo (ao (((v.length:Nat):Int) - 1)).toNat) < C0.length by have h1:=c3;have h2:=c2;simp only [dq];omega) pn))))) ?_
 obtain ⟨c4,h⟩:=ab h
 obtain ⟨c5,h⟩:=ab h
 refine ah hE 1 [] [] (kp [0,1,5,7,8]) (kq [0]) 577 (pc c4 (pc c5 (pc c4 (pc c5 pn)))) ?_
 exact dh hE 3 [] (kp [0,1,5,7,8]) (kq [0]) 1 pn (Ew N _ _ _ _ N _ _ _ h E hE)
noncomputable abbrev Nh:=cy Tryz.f58
def Ex (N:Nat) (b:List Int) (bB:Int) (fE:(List Int)) (K:(List Int)→(List Int)→Int→Option ((List Int)×(List Int))):Prop:=∀ (q:List Int) (u:List Int) (j:Int) (r:(List Int)×(List Int)),K q u j=some r→∀ E,aQ E 0→aw Tryz.prog E 58 109 (aY E [] (.tup [(eU r.1),(eU r.2)])) [.code (Nh 4084),.inLoop (Nh 4084),.inBlock 0,.code (Nh 511)] ⟨[(4,(.os 0 0 q.length)),(8,(aI bB)),(9,(.os 1 0 u.length)),(10,(.os 2 0 (b.length - 0))),(11,(aI (((b.length - 0):Nat):Int))),(12,(aI j))],[(0,aU q),(1,aU u),(2,aU fE)],3⟩
def Ey (N:Nat) (b:List Int) (bB:Int) (q:List Int) (u:List Int) (K:(List Int)→Int→Option ((List Int)×(List Int))):Prop:=∀ (vr:List Int) (x:Int) (r:(List Int)×(List Int)),K vr x=some r→∀ E,aQ E 0→aw Tryz.prog E 58 109 (aY E [] (.tup [(eU r.1),(eU r.2)])) [.code (Nh 16372),.inLoop (Nh 16372),.inBlock 2,.code (Nh 2047)] ⟨[(4,(.os 0 0 q.length)),(5,(.os 1 0 vr.length)),(8,(aI bB)),(9,(.os 2 0 u.length)),(81,(aI (((b.length - 0):Nat):Int))),(82,(aI x))],[(0,aU q),(1,aU vr),(2,aU u)],3⟩
theorem Ds (N b bB q u fuel):Ey N b bB q u (jJ N b bB q u fuel):=by
 induction fuel with
 | zero=>intro _ _ r h;rw [jJ.eq_1] at h;cases h
 | succ fuel ih =>
  intro vr x r h E hE
  rw [jJ.eq_2] at h
  refine ah hE 1 [] [] (kp [4,5,8,9,81,82,83]) (kq [0,1,2]) 19 pn ?_
  refine dK 1 83 h (fun Eu h=>?_) (fun Eu h=>?_)
  ·refine ah hE 4 [] [] (kp [4,5,8,9,13,81,82]) (kq [0,1,2]) 51 pn ?_
   obtain ⟨Sa,h⟩:=ab h
   obtain ⟨Ng,h⟩:=ab h
   obtain ⟨QA,h⟩:=ab h
   obtain ⟨Y0,h⟩:=ab h
   refine ah hE 0 [] [] (kp [4] ++ [(5,.lO ((vr.set ((x).toNat) (IntKind.u16.wrap ((ot .u32 (vM .u32 (IntKind.u32.wrap ((u.getD ((x).toNat) 0))) (iK .u32 (IntKind.u32.wrap ((u.getD ((ao (x+1)).toNat) 0))) 16)) bB)))).length))] ++ kp [8,9,81,82]) (kq [0] ++ [(1,.arr 1 ((vr.set ((x).toNat) (IntKind.u16.wrap ((ot .u32 (vM .u32 (IntKind.u32.wrap ((u.getD ((x).toNat) 0))) (iK .u32 (IntKind.u32.wrap ((u.getD ((ao (x+1)).toNat) 0))) 16)) bB)))).length) (fun zi=>(cU .u16) ((vr.set ((x).toNat) (IntKind.u16.wrap ((ot .u32 (vM .u32 (IntKind.u32.wrap ((u.getD ((x).toNat) 0))) (iK .u32 (IntKind.u32.wrap ((u.getD ((ao (x+1)).toNat) 0))) 16)) bB)))).getD zi 0)))] ++ kq [2]) 371 (pc Sa (pc (dm Sa) (pc Ng (pc (dm Ng) (pc (show (0:Int)≤16 by decide) (pc QA (pc Y0 (pc (dm Y0) (pc (aG vr ((x).toNat) (IntKind.u16.wrap ((ot .u32 (vM .u32 (IntKind.u32.wrap ((u.getD ((x).toNat) 0))) (iK .u32 (IntKind.u32.wrap ((u.getD ((ao (x+1)).toNat) 0))) 16)) bB)))) (pc (aG vr ((x).toNat) (IntKind.u16.wrap ((ot .u32 (vM .u32 (IntKind.u32.wrap ((u.getD ((x).toNat) 0))) (iK .u32 (IntKind.u32.wrap ((u.getD ((ao (x+1)).toNat) 0))) 16)) bB)))) (pc (cH (cU .u16) 0 vr ((x).toNat) (IntKind.u16.wrap ((ot .u32 (vM .u32 (IntKind.u32.wrap ((u.getD ((x).toNat) 0))) (iK .u32 (IntKind.u32.wrap ((u.getD ((ao (x+1)).toNat) 0))) 16)) bB)))) pn))))))))))) ?_
   refine ah hE 1 [] [] (kp [4,5,8,9,81,82]) (kq [0,1,2]) 403 pn ?_
   exact dh hE 1 [] (kp [4,5,8,9,81,82]) (kq [0,1,2]) 3 pn (ih _ _ _ h E hE)
  ·obtain ⟨gu,HS,h⟩:=bq h
   obtain ⟨M6,A4,h⟩:=bq h
   refine ah hE 2 [(1,⟨[],true,(eU gu),[],0,true,none⟩),(3,⟨[],true,(eU M6),[],0,true,none⟩)] [] (kp [4,5]) [] 115 (pc (eb _ _ _ HS) (pc (z1 q.length) (pc (eb _ _ _ A4) (pc (z1 vr.length) pn)))) ?_
   obtain rfl:=dj h
   exact dw hE 0 Tryz.f58 [] (kp [4,5]) [] 115 pn [] pn
theorem Dt (N b bB fE fuel):Ex N b bB fE (jK N b bB fE fuel):=by
 induction fuel with
 | zero=>intro _ _ _ r h;rw [jK.eq_1] at h;cases h
 | succ fuel ih =>
  intro q u j r h E hE
  rw [jK.eq_2] at h
  refine ah hE 2 [] [] (kp [4,8,9,10,11,12,64]) (kq [0,1,2]) 35 pn ?_
  refine dK 0 64 h (fun qq h=>?_) (fun qq h=>?_)
  ·obtain ⟨c5,h⟩:=ab h
   obtain ⟨c6,h⟩:=ab h
   obtain ⟨c7,h⟩:=ab h
   obtain ⟨c8,h⟩:=ab h
   obtain ⟨cZ,HT,h⟩:=bq h
   obtain ⟨c9,h⟩:=ab h
   obtain ⟨Sc,h⟩:=ab h
   refine ah hE 3 [(10,⟨[1],false,(wO cZ.1),[(0,aU cZ.2)],0,false,none⟩)] [] ([(4,.lO ((q.set ((j).toNat) cZ.1).length))] ++ kp [8] ++ [(9,.lO (cZ.2.length))] ++ kp [10,11,12]) ([(0,.arr 0 ((q.set ((j).toNat) cZ.1).length) (fun zi=>(cU .u16) ((q.set ((j).toNat) cZ.1).getD zi 0)))] ++ kq [1,2]) 243 (pc c5 (pc c6 (pc c7 (pc (show Sd 100 [(.os 0 ((j).toNat) ((ao ((ao (j+(((b.length - 0):Nat):Int)))+1)).toNat - (j).toNat)),(.sl (b.length - 0) (fun zi=>(cU .u16) (fE.getD (bQ 0 zi) 0)))] [(0,aU u)] 1 (wO cZ.1) [(0,aU cZ.2)] from (Sound.conv (JP _ _ _ _ _ _ HT) (.cons (Alike.refl _) (.cons (Alike.sl (BN fE 0 b.length c8) (fun zq j8=>JA (cU .u16) 0 fE 0 b.length zq j8)) .nil)))) (pc (show ∀ zi,zi < cZ.2.length→AV.yi ((cU .u16) (cZ.2.getD zi 0))=true from (fun _ _=>rfl)) (pc (show 0+(b.length - 0)≤fE.length by have:=c8;omega) (pc Sc (pc (dm Sc) (pc (aG q ((j).toNat) cZ.1) (pc (show u.length=cZ.2.length from (Eq.symm c9)) (pc (aG q ((j).toNat) cZ.1) (pc (cH (cU .u16) 0 q ((j).toNat) cZ.1) pn)))))))))))) ?_
   refine ah hE 1 [] [] (kp [4,8,9,10,11,12]) (kq [0,1,2]) 291 pn ?_
   exact dh hE 1 [] (kp [4,8,9,10,11,12]) (kq [0,1,2]) 3 pn (ih _ _ _ _ h E hE)
  ·obtain ⟨Mj,h⟩:=ab h
   refine ah hE 2 [] [] (kp [4] ++ [(5,.lO ((List.replicate (b.length - 0) 0:List Int).length))] ++ kp [8,9,11]) (kq [0,1] ++ [(51,.arr 51 ((List.replicate (b.length - 0) 0:List Int).length) (fun zi=>(cU .u16) ((List.replicate (b.length - 0) 0:List Int).getD zi 0)))]) 83 (pc (show 0≤(((b.length - 0):Nat):Int) from Mj.1) (pc (show (((b.length - 0):Nat):Int)≤(((b.length - 0):Nat):Int) from (Int.le_refl _)) (pc (show (2:Int) * (((b.length - 0):Nat):Int)≤281474976710656 from Mj.2.1) (pc (show (((b.length - 0):Nat):Int)≤9223372036854775807 from Mj.2.2) (pc (show (b.length - 0)=(List.replicate (b.length - 0) 0:List Int).length from (de).symm) (pc (show (b.length - 0)=(List.replicate (b.length - 0) 0:List Int).length from (de).symm) (pc (show ∀ zi,zi < (List.replicate (b.length - 0) 0:List Int).length→(fun zi=>(cU .u16) ((List.replicate (b.length - 0) 0:List Int).getD zi 0)) zi=(fun _=>[(wO 0)]) zi from (fun zq j8=>qQ (cU .u16) 0 0 (b.length - 0) zq j8)) pn))))))) ?_
   refine ah hE 2 [] [] (kp [4,5,8,9,81,82]) (kq [0,1,51]) 115 pn ?_
   exact dh hE 2 [] (kp [4,5,8,9,81,82]) (kq [0] ++ [(1,.ai 51),(2,.ai 1)]) 3 pn (Ds N _ _ _ _ N _ _ _ h E hE)
theorem qU (N a b r) (h:nf N a b=some r):Sd 58 [(eU a),(eU b)] [] 0 (.tup [(eU r.1),(eU r.2)]) []:=by
 unfold nf at h
 refine gX (fu:=Tryz.f58) (c:=Nh 1) (nt:=109) (fun hm=>rfl) ?_
 intro E hE
 refine ah hE 1 [] [] (kp [0,1]) [] 32 pn ?_
 obtain ⟨j6,hr,h⟩:=bq h
 refine ah hE 2 [(2,oT (aI j6))] [] (kp [0,1,17]) [] 96 (pc (yP _ _ _ _ hr) pn) ?_
 refine dK 0 17 h (fun dQ h=>?_) (fun dQ h=>?_)
 ·obtain ⟨AU,eW,h⟩:=bq h
  refine ah hE 1 [(1,oT (eU AU))] [] (kp [4,5]) [] 160 (pc (lz _ _ _ eW) pn) ?_
  obtain rfl:=dj h
  exact dw hE 0 Tryz.f58 [] ([(4,.sl (([]:List Int).length) (fun zi=>(cU .u16) (([]:List Int).getD zi 0)))] ++ kp [5]) [] 160 (pc (Eq.refl 0) pn) [] pn
 ·refine ah hE 3 [] [] (kp [0,1,22]) [] 144 pn ?_
  refine dK 0 22 h (fun iZ h=>?_) (fun iZ h=>?_)
  ·obtain ⟨c,h⟩:=ab h
   obtain ⟨AY,lL,h⟩:=bq h
   refine ah hE 1 [(4,oT (.tup [(eU AY.1),(wO AY.2)]))] [] (kp [6,7]) [] 304 (pc c (pc (JO _ _ _ _ lL) pn)) ?_
   obtain ⟨b7,px,h⟩:=bq h
   refine ah hE 1 [(3,⟨[],true,(eU b7),[],0,true,none⟩)] [] (kp [4,5]) [] 400 (pc (show Sd 57 [(.sl 1 (fun zi=>(fun zi=>([[(wO AY.2)]]:List (List AV)).getD zi []) (bQ 0 zi)))] [] 0 (eU b7) [] from (Sound.conv (eb _ _ _ px) (.cons (Alike.sl rfl (fun zq j8=>dU (cU .u16) 0 ([AY.2]:List Int) zq j8)) .nil))) (pc (z1 1) pn)) ?_
   obtain rfl:=dj h
   exact dw hE 0 Tryz.f58 [] (kp [4,5]) [] 400 pn [] pn
  ·obtain ⟨c2,h⟩:=ab h
   obtain ⟨bB,uI,h⟩:=bq h
   refine ah hE 2 [(6,oT (aI bB))] [] (kp [0,1,8]) [] 272 (pc c2 (pc (rG _ _ _ uI) pn)) ?_
   obtain ⟨eR,yT,h⟩:=bq h
   obtain ⟨fE,Ag,h⟩:=bq h
   obtain ⟨c3,h⟩:=ab h
   refine ah hE 1 [(2,⟨[],true,(.os 0 0 eR.length),[(0,aU eR)],0,false,none⟩),(5,⟨[],true,(.os 0 0 fE.length),[(0,aU fE)],0,false,none⟩)] [] (kp [8,9,10]) (kq [304,352]) 448 (pc (yR _ _ _ _ yT) (pc (yR _ _ _ _ Ag) (pc c3 (pc (show 0≤((b.length:Nat):Int) from (Int.natCast_nonneg _)) pn)))) ?_
   refine ah hE 1 [] [] (kp [8,9,10,11]) (kq [304,352]) 496 pn ?_
   obtain ⟨c4,h⟩:=ab h
   refine ah hE 1 [] [] ([(4,.lO ((List.replicate ((ao (((eR.length:Nat):Int) - (((b.length - 0):Nat):Int))).toNat) 0:List Int).length))] ++ kp [8,9,10,11]) (kq [304,352] ++ [(560,.arr 560 ((List.replicate ((ao (((eR.length:Nat):Int) - (((b.length - 0):Nat):Int))).toNat) 0:List Int).length) (fun zi=>(cU .u16) ((List.replicate ((ao (((eR.length:Nat):Int) - (((b.length - 0):Nat):Int))).toNat) 0:List Int).getD zi 0)))]) 592 (pc (show 0≤(ao (((eR.length:Nat):Int) - (((b.length - 0):Nat):Int))) from c4.1) (pc (show (ao (((eR.length:Nat):Int) - (((b.length - 0):Nat):Int)))≤(ao (((eR.length:Nat):Int) - (((b.length - 0):Nat):Int))) from (Int.le_refl _)) (pc (show (2:Int) * (ao (((eR.length:Nat):Int) - (((b.length - 0):Nat):Int)))≤281474976710656 from c4.2.1) (pc (show (ao (((eR.length:Nat):Int) - (((b.length - 0):Nat):Int)))≤9223372036854775807 from c4.2.2) (pc (show (ao (((eR.length:Nat):Int) - (((b.length - 0):Nat):Int))).toNat=(List.replicate ((ao (((eR.length:Nat):Int) - (((b.length - 0):Nat):Int))).toNat) 0:List Int).length from (de).symm) (pc (show (ao (((eR.length:Nat):Int) - (((b.length - 0):Nat):Int))).toNat=(List.replicate ((ao (((eR.length:Nat):Int) - (((b.length - 0):Nat):Int))).toNat) 0:List Int).length from (de).symm) (pc (show ∀ zi,zi < (List.replicate ((ao (((eR.length:Nat):Int) - (((b.length - 0):Nat):Int))).toNat) 0:List Int).length→(fun zi=>(cU .u16) ((List.replicate ((ao (((eR.length:Nat):Int) - (((b.length - 0):Nat):Int))).toNat) 0:List Int).getD zi 0)) zi=(fun _=>[(wO 0)]) zi from (fun zq j8=>qQ (cU .u16) 0 0 ((ao (((eR.length:Nat):Int) - (((b.length - 0):Nat):Int))).toNat) zq j8)) pn))))))) ?_
   refine ah hE 2 [] [] (kp [4,8,9,10,11,12]) (kq [304,352,560]) 688 pn ?_
   exact dh hE 2 [] (kp [4,8,9,10,11,12]) [(0,.ai 560),(1,.ai 304),(2,.ai 352)] 3 pn (Dt N _ _ _ N _ _ _ _ h E hE)
noncomputable abbrev HU:=cy Tryz.f101
def xQ (N:Nat) (K:(List Int)→(List Int)→Option ((List Int))):Prop:=∀ (a2:List Int) (b2:List Int) (r:(List Int)),K a2 b2=some r→∀ E,aQ E 0→aw Tryz.prog E 101 45 (aY E [] (eU r)) [.code (HU 24),.inLoop (HU 24),.inBlock 0,.code (HU 7)] ⟨[(0,(eU a2)),(1,(eU b2))],[],0⟩
def Ez (N:Nat) (K:Int→Int→Option ((List Int))):Prop:=∀ (x:Int) (y:Int) (r:(List Int)),K x y=some r→∀ E,aQ E 0→aw Tryz.prog E 101 45 (aY E [] (eU r)) [.code (HU 25296),.inLoop (HU 25296),.inBlock 2,.code (HU 6325),.code (HU 791),.inBlock 1,.inLoop (HU 24),.inBlock 0,.code (HU 7)] ⟨[(5,(IW x)),(7,(IW y))],[],0⟩
theorem Du (N:Nat) (oM:(List Int)→(List Int)→Option ((List Int))) (PY:xQ N oM) (fuel:Nat):Ez N (lk N oM fuel):=by
 induction fuel with
 | zero=>intro _ _ r h;rw [lk.eq_1] at h;cases h
 | succ fuel ih =>
  intro x y r h E hE
  rw [lk.eq_2] at h
  refine ah hE 2 [] [] (kp [5,7,29]) [] 32 pn ?_
  refine dK 0 29 h (fun qq h=>?_) (fun qq h=>?_)
  ·obtain ⟨c,h⟩:=ab h
   refine ah hE 2 [] [] (kp [5,7]) [] 128 (pc c pn) ?_
   exact dh hE 2 [] (kp [5,7]) [] 0 pn (ih _ _ _ h E hE)
  ·obtain ⟨tI,lL,h⟩:=bq h
   refine ah hE 2 [(1,oT (eU tI))] [] (kp [4]) [] 80 (pc (tO _ _ _ lL) pn) ?_
   obtain rfl:=dj h
   exact dw hE 0 Tryz.f101 [] (kp [4]) [] 80 pn [] pn
theorem Dv (N fuel):xQ N (jL N fuel):=by
 induction fuel with
 | zero=>intro _ _ r h;rw [jL.eq_1] at h;cases h
 | succ fuel ih =>
  intro a2 b2 r h E hE
  rw [jL.eq_2] at h
  refine ah hE 2 [] [] (kp [0,1,13]) [] 48 pn ?_
  refine dK 0 13 h (fun dQ h=>?_) (fun dQ h=>?_)
  ·obtain ⟨IT,hr,h⟩:=bq h
   refine ah hE 3 [(1,oT (.tup [(IW IT.1),(aB IT.2)]))] [] (kp [0,1,5,6]) [] 160 (pc (D6 _ _ _ hr) pn) ?_
   obtain ⟨F6,eW,h⟩:=bq h
   refine ah hE 1 [(1,oT (.tup [(IW F6.1),(aB F6.2)]))] [] (kp [0,1,5,6,7,8]) [] 272 (pc (D6 _ _ _ eW) pn) ?_
   refine ah hE 2 [] [] (kp [0,1,5,7,27]) [] 336 (pc (fun hq:IT.2=true=>(pc hq pn)) pn) ?_
   refine dK 0 27 h (fun iZ h=>?_) (fun iZ h=>?_)
   ·exact dh hE 3 [] (kp [5,7]) [] 0 pn (Du N _ ih N _ _ _ h E hE)
   ·obtain ⟨jz,px,h⟩:=bq h
    refine ah hE 2 [(2,oT (.tup [(eU jz.1),(eU jz.2)]))] [] (kp [1,10]) [] 464 (pc (qU _ _ _ _ px) pn) ?_
    refine ah hE 0 [] [] (kp [0,1]) [] 528 pn ?_
    exact dh hE 2 [] (kp [0,1]) [] 0 pn (ih _ _ _ h E hE)
  ·refine ah hE 2 [] [] (kp [4]) [] 80 pn ?_
   obtain rfl:=dj h
   exact dw hE 0 Tryz.f101 [] (kp [4]) [] 80 pn [] pn
theorem HV (N a b r) (h:xf N a b=some r):Sd 101 [(eU a),(eU b)] [] 0 (eU r) []:=by
 unfold xf at h
 refine gX (fu:=Tryz.f101) (c:=HU 1) (nt:=45) (fun hm=>rfl) ?_
 intro E hE
 refine ah hE 1 [] [] (kp [0,1]) [] 16 pn ?_
 exact dh hE 3 [] (kp [0,1]) [] 0 pn (Dv N N _ _ _ h E hE)
noncomputable abbrev XY:=cy Tryz.f63
def B4 (N:Nat) (a:bR) (b:bR) (K:(List Int)→(List Int)→Option (aa)):Prop:=∀ (x:List Int) (y:List Int) (r:aa),K x y=some r→∀ E,aQ E 0→aw Tryz.prog E 63 48 (aY E [] (.agg (ag r))) [.code (XY 62),.code (XY 63)] ⟨[(2,(.op 0 0 0)),(3,(.op 1 0 0)),(4,(.op 2 0 0)),(5,(eU x)),(6,(eU y))],[(0,vO 2 (iv a)),(1,vO 2 (iv b)),(2,vO 4 [(aB false),.nil,(aB false),.nil])],3⟩
theorem tP (N a b):B4 N a b (mg N a b):=by
 intro x y r h E hE
 unfold mg at h
 obtain ⟨JK,yT,h⟩:=bq h
 obtain ⟨AX,Ag,h⟩:=bq h
 refine ah hE 0 [(6,oT (.agg (iv JK))),(8,oT (.agg (iv AX)))] [] (kp [4]) (kq [2]) 179 (pc o1 (pc o1 (pc (gC _ _ _ _ yT) (pc (gC _ _ _ _ Ag) (pc o1 pn))))) ?_
 obtain rfl:=dj h
 exact dw hE 0 Tryz.f63 [] (kp [4]) [(16,.ai 2)] 179 pn [16] (pc o1 pn)
theorem jn (N a b r) (h:iz N a b=some r):Sd 63 [(.agg (iv a)),(.agg (iv b))] [] 0 (.agg (ag r)) []:=by
 unfold iz at h
 refine gX (fu:=Tryz.f63) (c:=XY 1) (nt:=48) (fun hm=>rfl) ?_
 intro E hE
 refine ah hE 1 [] [] (kp [2,3,4]) (kq [0,16,32]) 48 pn ?_
 obtain ⟨b7,hr,h⟩:=bq h
 obtain ⟨gu,eW,h⟩:=bq h
 refine ah hE 1 [(2,oT (eU b7)),(5,oT (eU gu))] [] (kp [2,3,4,5,6]) (kq [0,16,32]) 176 (pc o1 (pc (eb _ _ _ hr) (pc o1 (pc (eb _ _ _ eW) pn)))) ?_
 obtain ⟨oN,lL,h⟩:=bq h
 refine ah hE 1 [(2,oT (eU oN))] [] (kp [2,3,4,5,6,7]) (kq [0,16,32]) 240 (pc (HV _ _ _ _ lL) pn) ?_
 obtain ⟨c,h⟩:=ab h
 refine ah hE 2 [] [] (kp [2,3,4,5,6,7,25]) (kq [0,16,32]) 384 (pc (fun hg:(!(((oN.length:Nat):Int) != 1))=true=>(pc hg (pc (c hg) pn))) (pc (fun hg:(!(((oN.length:Nat):Int) != 1))=true=>(pc hg pn)) (pc (fun hg:(!(((oN.length:Nat):Int) != 1))=true=>(pc hg pn)) (pc (fun hq:(!(((oN.length:Nat):Int) != 1))=true=>(pc hq pn)) pn)))) ?_
 refine dK 0 25 h (fun dQ h=>?_) (fun dQ h=>?_)
 ·obtain ⟨jz,px,h⟩:=bq h
  refine ah hE 1 [(2,oT (.tup [(eU jz.1),(eU jz.2)]))] [] (kp [2,3,4,5,6,7]) (kq [0,16,32]) 496 (pc (qU _ _ _ _ px) pn) ?_
  obtain ⟨BQ,uI,h⟩:=bq h
  refine ah hE 0 [(2,oT (.tup [(eU BQ.1),(eU BQ.2)]))] [] (kp [2,3,4,5,6]) (kq [0,16,32]) 608 (pc (qU _ _ _ _ uI) pn) ?_
  exact dh hE 1 [] (kp [2,3,4,5,6]) (kq [0] ++ [(1,.ai 16),(2,.ai 32)]) 3 pn (tP N _ _ _ _ _ h E hE)
 ·exact dh hE 2 [] (kp [2,3,4,5,6]) (kq [0] ++ [(1,.ai 16),(2,.ai 32)]) 3 pn (tP N _ _ _ _ _ h E hE)
noncomputable abbrev ac7:=cy Tryz.f103
theorem JQ (N a r) (h:zO N a=some r):Sd 103 [(.agg (iv a))] [] 0 (.agg (ag r)) []:=by
 unfold zO at h
 refine gX (fu:=Tryz.f103) (c:=ac7 1) (nt:=7) (fun hm=>rfl) ?_
 intro E hE
 refine ah hE 1 [] [] (kp [1,2]) (kq [0,16]) 32 pn ?_
 obtain ⟨CC,hr,h⟩:=bq h
 refine ah hE 1 [(3,⟨[],true,(.agg (ag CC)),[],0,true,none⟩)] [] (kp [2]) (kq [16]) 112 (pc o1 (pc (show Sd 63 [(.agg (iv a)),(.agg [(aB false),(.sl 1 (fun zi=>(fun zi=>([[(wO 1)]]:List (List AV)).getD zi []) (bQ 0 zi)))])] [] 0 (.agg (ag CC)) [] from (Sound.conv (jn _ _ _ _ hr) (.cons (Alike.refl _) (.cons (Alike.agg (.cons (Alike.refl _) (.cons (Alike.sl rfl (fun zq j8=>dU (cU .u16) 0 ([1]:List Int) zq j8)) .nil))) .nil)))) (pc (z1 1) (pc o1 pn)))) ?_
 obtain rfl:=dj h
 exact dw hE 0 Tryz.f103 [] (kp [2]) (kq [16]) 112 pn [16] (pc o1 pn)
noncomputable abbrev C_6:=cy Tryz.f66
theorem cX (N n r) (h:da N n=some r):Sd 66 [(aI n)] [] 0 (.agg (ag r)) []:=by
 unfold da at h
 refine gX (fu:=Tryz.f66) (c:=C_6 1) (nt:=6) (fun hm=>rfl) ?_
 intro E hE
 refine ah hE 1 [] [] (kp [0,2]) (kq [0]) 16 pn ?_
 obtain ⟨Kx,hr,h⟩:=bq h
 obtain ⟨M7,eW,h⟩:=bq h
 refine ah hE 1 [(1,oT (.agg (iv Kx))),(2,oT (.agg (ag M7)))] [] (kp [2]) (kq [0]) 80 (pc (Dp _ _ _ hr) (pc (JQ _ _ _ eW) (pc o1 pn))) ?_
 obtain rfl:=dj h
 exact dw hE 0 Tryz.f66 [] (kp [2]) [(16,.ai 0)] 80 pn [16] (pc o1 pn)
noncomputable abbrev ac8:=cy Tryz.f90
theorem uJ (N a r) (h:tJ N a=some r):Sd 90 [(.agg (iv a))] [] 0 (aI r) []:=by
 unfold tJ at h
 refine gX (fu:=Tryz.f90) (c:=ac8 1) (nt:=12) (fun hm=>rfl) ?_
 intro E hE
 refine ah hE 1 [] [] (kp [1]) (kq [0]) 32 pn ?_
 obtain ⟨b7,hr,h⟩:=bq h
 refine ah hE 3 [(2,oT (eU b7))] [] (kp [1,3]) (kq [0]) 128 (pc o1 (pc (eb _ _ _ hr) pn)) ?_
 refine dK 0 3 h (fun dQ h=>?_) (fun dQ h=>?_)
 ·refine ah hE 1 [] [] (kp [2]) [] 144 pn ?_
  obtain rfl:=dj h
  exact dw hE 0 Tryz.f90 [] (kp [2]) [] 144 pn [] pn
 ·refine ah hE 1 [] [] (kp [9]) [] 176 (pc o1 pn) ?_
  refine dK 0 9 h (fun iZ h=>?_) (fun iZ h=>?_)
  ·refine ah hE 1 [] [] (kp [2]) [] 192 pn ?_
   obtain rfl:=dj h
   exact dw hE 0 Tryz.f90 [] (kp [2]) [] 192 pn [] pn
  ·refine ah hE 3 [] [] (kp [2]) [] 192 pn ?_
   obtain rfl:=dj h
   exact dw hE 0 Tryz.f90 [] (kp [2]) [] 192 pn [] pn
noncomputable abbrev ac9:=cy Tryz.f91
theorem jH (N x r) (h:kJ N x=some r):Sd 91 [(.agg (ag x))] [] 0 (.agg (iv r)) []:=by
 unfold kJ at h
 refine gX (fu:=Tryz.f91) (c:=ac9 1) (nt:=11) (fun hm=>rfl) ?_
 intro E hE
 refine ah hE 1 [] [] (kp [1,2]) (kq [0,16]) 32 pn ?_
 obtain ⟨vU,hr,h⟩:=bq h
 refine ah hE 2 [(2,oT (aI vU))] [] (kp [1,2,6]) (kq [0,16]) 96 (pc o1 (pc (uJ _ _ _ hr) pn)) ?_
 refine dK 0 6 h (fun dQ h=>?_) (fun dQ h=>?_)
 ·refine ah hE 1 [] [] (kp [2]) [(16,.var 16 [.ai,.lO (([1]:List Int).length)]),(96,.arr 96 (([1]:List Int).length) (fun zi=>(cU .u16) (([1]:List Int).getD zi 0)))] 144 (pc o1 (pc (Eq.refl 1) (pc (Eq.refl 1) (pc (show ∀ zi,zi < ([1]:List Int).length→(fun zi=>(cU .u16) (([1]:List Int).getD zi 0)) zi=(fun zi=>([[(wO 1)]]:List (List AV)).getD zi []) zi from (fun zq j8=>dU (cU .u16) 0 ([1]:List Int) zq j8)) pn)))) ?_
  obtain rfl:=dj h
  exact dw hE 0 Tryz.f91 [96] (kp [2]) [(16,.var 16 [.ai,.sl (([1]:List Int).length) (fun zi=>(cU .u16) (([1]:List Int).getD zi 0))])] 144 (pc (Eq.refl (([1]:List Int).length)) (pc (z1 (([1]:List Int).length)) (pc (aZ (([1]:List Int).length) (fun zi=>(cU .u16) (([1]:List Int).getD zi 0))) pn))) [16] (pc o1 pn)
 ·refine ah hE 2 [] [] (kp [2]) (kq [16]) 144 (pc o1 (pc o1 pn)) ?_
  obtain rfl:=dj h
  exact dw hE 0 Tryz.f91 [] (kp [2]) (kq [16]) 144 pn [16] (pc o1 pn)
noncomputable abbrev ada:=cy Tryz.f72
theorem mA (N x r) (h:jl N x=some r):Sd 72 [(.agg (ag x))] [] 0 (.agg (ag r)) []:=by
 unfold jl at h
 refine gX (fu:=Tryz.f72) (c:=ada 1) (nt:=8) (fun hm=>rfl) ?_
 intro E hE
 refine ah hE 1 [] [] (kp [1,2]) (kq [0,16]) 32 pn ?_
 obtain ⟨jA,hr,h⟩:=bq h
 obtain ⟨CC,eW,h⟩:=bq h
 refine ah hE 1 [(3,oT (.agg (iv jA))),(4,oT (.agg (ag CC)))] [] (kp [2]) (kq [16]) 128 (pc o1 (pc o1 (pc (jH _ _ _ hr) (pc (jn _ _ _ _ eW) (pc o1 pn))))) ?_
 obtain rfl:=dj h
 exact dw hE 0 Tryz.f72 [] (kp [2]) (kq [16]) 128 pn [16] (pc o1 pn)
noncomputable abbrev adb:=cy Tryz.f108
theorem EA (N a r) (h:sP N a=some r):Sd 108 [(.agg (iv a))] [] 0 (.agg (iv r)) []:=by
 unfold sP at h
 refine gX (fu:=Tryz.f108) (c:=adb 1) (nt:=9) (fun hm=>rfl) ?_
 intro E hE
 refine ah hE 1 [] [] (kp [1,2]) (kq [0,16]) 32 pn ?_
 refine ah hE 1 [] [] (kp [2]) (kq [16]) 144 (pc o1 (pc o1 (pc o1 pn))) ?_
 obtain rfl:=dj h
 exact dw hE 0 Tryz.f108 [] (kp [2]) (kq [16]) 144 pn [16] (pc o1 pn)
noncomputable abbrev ade:=cy Tryz.f73
theorem gW (N x r) (h:ej N x=some r):Sd 73 [(.agg (ag x))] [] 0 (.agg (ag r)) []:=by
 unfold ej at h
 refine gX (fu:=Tryz.f73) (c:=ade 1) (nt:=9) (fun hm=>rfl) ?_
 intro E hE
 refine ah hE 1 [] [] (kp [1,2]) (kq [0,16]) 32 pn ?_
 obtain ⟨Dk,hr,h⟩:=bq h
 obtain ⟨jA,eW,h⟩:=bq h
 obtain ⟨CC,lL,h⟩:=bq h
 refine ah hE 1 [(2,oT (.agg (iv Dk))),(4,oT (.agg (iv jA))),(5,oT (.agg (ag CC)))] [] (kp [2]) (kq [16]) 144 (pc o1 (pc (EA _ _ _ hr) (pc o1 (pc (jH _ _ _ eW) (pc (jn _ _ _ _ lL) (pc o1 pn)))))) ?_
 obtain rfl:=dj h
 exact dw hE 0 Tryz.f73 [] (kp [2]) (kq [16]) 144 pn [16] (pc o1 pn)
noncomputable abbrev Gw:=cy Tryz.f33
def Gx (N:Nat) (n:Int) (l:List aE) (ar:aa) (K:(List Int)→Int→Option (jq)):Prop:=∀ (t:List Int) (x:Int) (r:jq),K t x=some r→∀ E,aQ E 0→aw Tryz.prog E 33 157 (aY E [(0,vN 12 [(aI r.tk),(aI r.tl),(.os 1 0 r.kj.length),(.os 2 0 r.m8.length),(.os 3 0 r.Ku.length),(.os 4 0 r.Kv.length),(.os 5 0 r.eY.length),(aB r.af.fN.fG),(eU r.af.fN.fL),(aB r.af.fD.fG),(eU r.af.fD.fL),(aI r.bI)]),(1,aO 1 cI 0 r.kj),(2,aO 1 cI 0 r.m8),(3,aM 4 ag aa.d r.Ku),(4,aO 4 ag aa.d r.Kv),(5,aO 4 ag aa.d r.eY)] (.op 0 0 0)) [.code (Gw 116),.inLoop (Gw 116),.inBlock 0,.code (Gw 15)] ⟨[(0,(aI n)),(1,(aK zN aE.d l)),(5,(.op 0 0 0)),(25,(aI (ao (2 * n)))),(26,(aI x))],[(0,vN 12 [(aI n),(aI ((l.length:Nat):Int)),.nil,(.os 1 0 t.length),.nil,.nil,.nil,(aB ar.fN.fG),(eU ar.fN.fL),(aB ar.fD.fG),(eU ar.fD.fL),(aI (ao ((ao (2 * n))+((l.length:Nat):Int))))]),(1,aO 1 cI 0 t)],2⟩
def tQ (N:Nat) (n:Int) (l:List aE) (ar:aa) (t:List Int) (K:(List Int)→(List (List aa))→(List aa)→Int→Option (jq)):Prop:=∀ (t2:List Int) (t3:List (List aa)) (t4:List aa) (x2:Int) (r:jq),K t2 t3 t4 x2=some r→∀ E,aQ E 0→aw Tryz.prog E 33 157 (aY E [(0,vN 12 [(aI r.tk),(aI r.tl),(.os 1 0 r.kj.length),(.os 2 0 r.m8.length),(.os 3 0 r.Ku.length),(.os 4 0 r.Kv.length),(.os 5 0 r.eY.length),(aB r.af.fN.fG),(eU r.af.fN.fL),(aB r.af.fD.fG),(eU r.af.fD.fL),(aI r.bI)]),(1,aO 1 cI 0 r.kj),(2,aO 1 cI 0 r.m8),(3,aM 4 ag aa.d r.Ku),(4,aO 4 ag aa.d r.Kv),(5,aO 4 ag aa.d r.eY)] (.op 0 0 0)) [.code (Gw 500),.inLoop (Gw 500),.inBlock 2,.code (Gw 63)] ⟨[(0,(aI n)),(5,(.op 0 0 0)),(53,(aK zN aE.d l)),(54,(aI ((l.length:Nat):Int))),(55,(aI x2))],[(0,vN 12 [(aI n),(aI ((l.length:Nat):Int)),(.os 1 0 t2.length),(.os 2 0 ((t ++ ([(ao ((ao (2 * n))+((l.length:Nat):Int)))]:List Int)).length)),(.os 3 0 t3.length),(.os 4 0 t4.length),.nil,(aB ar.fN.fG),(eU ar.fN.fL),(aB ar.fD.fG),(eU ar.fD.fL),(aI (ao ((ao (2 * n))+((l.length:Nat):Int))))]),(1,aO 1 cI 0 t2),(2,aO 1 cI 0 (t ++ ([(ao ((ao (2 * n))+((l.length:Nat):Int)))]:List Int))),(3,aM 4 ag aa.d t3),(4,aO 4 ag aa.d t4)],5⟩
def yU (N:Nat) (n:Int) (l:List aE) (ar:aa) (t:List Int) (t2:List Int) (t3:List (List aa)) (t4:List aa) (x2:Int) (K:(List aa)→Int→Option (jq)):Prop:=∀ (row:List aa) (x3:Int) (r:jq),K row x3=some r→∀ E,aQ E 0→aw Tryz.prog E 33 157 (aY E [(0,vN 12 [(aI r.tk),(aI r.tl),(.os 1 0 r.kj.length),(.os 2 0 r.m8.length),(.os 3 0 r.Ku.length),(.os 4 0 r.Kv.length),(.os 5 0 r.eY.length),(aB r.af.fN.fG),(eU r.af.fN.fL),(aB r.af.fD.fG),(eU r.af.fD.fL),(aI r.bI)]),(1,aO 1 cI 0 r.kj),(2,aO 1 cI 0 r.m8),(3,aM 4 ag aa.d r.Ku),(4,aO 4 ag aa.d r.Kv),(5,aO 4 ag aa.d r.eY)] (.op 0 0 0)) [.code (Gw 1025652),.inLoop (Gw 1025652),.inBlock 4,.code (Gw 128207),.inBlock 3,.code (Gw 4007),.inLoop (Gw 500),.inBlock 2,.code (Gw 63)] ⟨[(0,(aI n)),(5,(.op 0 0 0)),(8,(.op 5 0 0)),(9,(.os 6 0 row.length)),(53,(aK zN aE.d l)),(54,(aI ((l.length:Nat):Int))),(55,(aI x2)),(77,(aI n)),(78,(aI x3))],[(0,vN 12 [(aI n),(aI ((l.length:Nat):Int)),(.os 1 0 ((t2 ++ ([(ao ((ao (2 * n))+x2))]:List Int)).length)),(.os 2 0 ((t ++ ([(ao ((ao (2 * n))+((l.length:Nat):Int)))]:List Int)).length)),(.os 3 0 t3.length),(.os 4 0 t4.length),.nil,(aB ar.fN.fG),(eU ar.fN.fL),(aB ar.fD.fG),(eU ar.fD.fL),(aI (ao ((ao (2 * n))+((l.length:Nat):Int))))]),(1,aO 1 cI 0 (t2 ++ ([(ao ((ao (2 * n))+x2))]:List Int))),(2,aO 1 cI 0 (t ++ ([(ao ((ao (2 * n))+((l.length:Nat):Int)))]:List Int))),(3,aM 4 ag aa.d t3),(4,aO 4 ag aa.d t4),(5,vO 5 (zN (l.getD ((x2).toNat) aE.d))),(6,aO 4 ag aa.d row)],7⟩
def Gy (N:Nat) (n:Int) (l:List aE) (ar:aa) (t:List Int) (t2:List Int) (t3:List (List aa)) (t4:List aa) (x2:Int) (row:List aa) (x3:Int) (K:aa→Option (jq)):Prop:=∀ (c7:aa) (r:jq),K c7=some r→∀ E,aQ E 0→aw Tryz.prog E 33 157 (aY E [(0,vN 12 [(aI r.tk),(aI r.tl),(.os 1 0 r.kj.length),(.os 2 0 r.m8.length),(.os 3 0 r.Ku.length),(.os 4 0 r.Kv.length),(.os 5 0 r.eY.length),(aB r.af.fN.fG),(eU r.af.fN.fL),(aB r.af.fD.fG),(eU r.af.fD.fL),(aI r.bI)]),(1,aO 1 cI 0 r.kj),(2,aO 1 cI 0 r.m8),(3,aM 4 ag aa.d r.Ku),(4,aO 4 ag aa.d r.Kv),(5,aO 4 ag aa.d r.eY)] (.op 0 0 0)) [.code (Gw 131283559),.inBlock 5,.code (Gw 8205223),.inLoop (Gw 1025652),.inBlock 4,.code (Gw 128207),.inBlock 3,.code (Gw 4007),.inLoop (Gw 500),.inBlock 2,.code (Gw 63)] ⟨[(0,(aI n)),(5,(.op 0 0 0)),(8,(.op 5 0 0)),(9,(.os 6 0 row.length)),(10,(aI x3)),(11,(.op 7 0 0)),(53,(aK zN aE.d l)),(54,(aI ((l.length:Nat):Int))),(55,(aI x2)),(77,(aI n)),(78,(aI x3))],[(0,vN 12 [(aI n),(aI ((l.length:Nat):Int)),(.os 1 0 ((t2 ++ ([(ao ((ao (2 * n))+x2))]:List Int)).length)),(.os 2 0 ((t ++ ([(ao ((ao (2 * n))+((l.length:Nat):Int)))]:List Int)).length)),(.os 3 0 t3.length),(.os 4 0 t4.length),.nil,(aB ar.fN.fG),(eU ar.fN.fL),(aB ar.fD.fG),(eU ar.fD.fL),(aI (ao ((ao (2 * n))+((l.length:Nat):Int))))]),(1,aO 1 cI 0 (t2 ++ ([(ao ((ao (2 * n))+x2))]:List Int))),(2,aO 1 cI 0 (t ++ ([(ao ((ao (2 * n))+((l.length:Nat):Int)))]:List Int))),(3,aM 4 ag aa.d t3),(4,aO 4 ag aa.d t4),(5,vO 5 (zN (l.getD ((x2).toNat) aE.d))),(6,aO 4 ag aa.d row),(7,vO 4 (ag c7))],8⟩
theorem xR (N:Nat) (n:Int) (l:List aE) (ar:aa) (t:List Int) (t2:List Int) (t3:List (List aa)) (t4:List aa) (x2:Int) (row:List aa) (x3:Int) (pV:(List aa)→Int→Option (jq)) (eu:(List Int)→(List (List aa))→(List aa)→Int→Option (jq)) (EB:yU N n l ar t t2 t3 t4 x2 pV) (oU:tQ N n l ar t eu):Gy N n l ar t t2 t3 t4 x2 row x3 (nR N n l ar t t2 t3 t4 x2 row x3 pV eu):=by
 intro c7 r h E hE
 unfold nR at h
 obtain ⟨aR,px,h⟩:=bq h
 obtain ⟨c8,h⟩:=ab h
 obtain ⟨c9,h⟩:=ab h
 refine ah hE 0 [(7,oT (.agg (ag aR)))] [] (kp [0,5,8] ++ [(9,.lO (((row.set ((x3).toNat) aR).set ((ao (n+x3)).toNat) c7).length))] ++ kp [53,54,55,77,78]) (kq [0,1,2,3,4,5] ++ [(6,.arr 6 (((row.set ((x3).toNat) aR).set ((ao (n+x3)).toNat) c7).length) (fun zi=>ag (((row.set ((x3).toNat) aR).set ((ao (n+x3)).toNat) c7).getD zi aa.d)))]) 216 (pc o1 (pc (gW _ _ _ px) (pc o1 (pc c8 (pc (dm c8) (pc c9 (pc (dm c9) (pc (show row.length=((row.set ((x3).toNat) aR).set ((ao (n+x3)).toNat) c7).length from (m7 (m7 rfl))) (pc (show row.length=((row.set ((x3).toNat) aR).set ((ao (n+x3)).toNat) c7).length from (m7 (m7 rfl))) (pc (show ∀ zi,zi < ((row.set ((x3).toNat) aR).set ((ao (n+x3)).toNat) c7).length→(fun zi=>ag (((row.set ((x3).toNat) aR).set ((ao (n+x3)).toNat) c7).getD zi aa.d)) zi=((fun zm=>if zm=(ao (n+x3)).toNat then [(aB c7.fN.fG),(eU c7.fN.fL),(aB c7.fD.fG),(eU c7.fD.fL)] else ((fun zm=>if zm=(x3).toNat then [(aB aR.fN.fG),(eU aR.fN.fL),(aB aR.fD.fG),(eU aR.fD.fL)] else (fun zi=>ag (row.getD zi aa.d)) zm)) zm)) zi from (yH ag aa.d (row.set ((x3).toNat) aR) ((ao (n+x3)).toNat) c7 (yH ag aa.d row ((x3).toNat) aR (fun _ _=>rfl)))) pn)))))))))) ?_
 refine ah hE 1 [] [] (kp [0,5,8,9,53,54,55,77,78]) (kq [0,1,2,3,4,5,6]) 248 pn ?_
 exact dh hE 1 [] (kp [0,5,8,9,53,54,55,77,78]) (kq [0,1,2,3,4,5,6]) 7 pn (EB _ _ _ h E hE)
theorem EC (N:Nat) (n:Int) (l:List aE) (ar:aa) (t:List Int) (t2:List Int) (t3:List (List aa)) (t4:List aa) (x2:Int) (eu:(List Int)→(List (List aa))→(List aa)→Int→Option (jq)) (oU:tQ N n l ar t eu) (fuel:Nat):yU N n l ar t t2 t3 t4 x2 (fR N n l ar t t2 t3 t4 x2 eu fuel):=by
 induction fuel with
 | zero=>intro _ _ r h;rw [fR.eq_1] at h;cases h
 | succ fuel ih =>
  intro row x3 r h E hE
  rw [fR.eq_2] at h
  refine ah hE 1 [] [] (kp [0,5,8,9,53,54,55,77,78,79]) (kq [0,1,2,3,4,5,6]) 23 pn ?_
  refine dK 1 79 h (fun qq h=>?_) (fun qq h=>?_)
  ·refine ah hE 4 [] [] (kp [0,5,8,9,10,53,54,55,77,78]) (kq [0,1,2,3,4,5,6]) 55 pn ?_
   obtain ⟨dV,eW,h⟩:=bq h
   refine ah hE 1 [(0,oT (.agg (ag dV)))] [] (kp [0,5,8,9,10,11,53,54,55,77,78]) (kq [0,1,2,3,4,5,6,71]) 103 (pc (cX _ _ _ eW) (pc o1 pn)) ?_
   refine ah hE 2 [] [] (kp [0,5,8,9,10,11,53,54,55,77,78,86]) (kq [0,1,2,3,4,5,6,71]) 183 (pc o1 pn) ?_
   refine dK 0 86 h (fun Eu h=>?_) (fun Eu h=>?_)
   ·obtain ⟨c6,h⟩:=ab h
    obtain ⟨jB,lL,h⟩:=bq h
    refine ah hE 0 [(5,oT (.agg (ag jB)))] [] (kp [0,5,8,9,10,11,53,54,55,77,78]) (kq [0,1,2,3,4,5,6,71]) 295 (pc o1 (pc c6 (pc (mA _ _ _ lL) (pc o1 pn)))) ?_
    exact dh hE 0 [] (kp [0,5,8,9,10,11,53,54,55,77,78]) (kq [0,1,2,3,4,5,6] ++ [(7,.ai 71)]) 8 pn (xR N _ _ _ _ _ _ _ _ _ _ _ _ ih oU _ _ h E hE)
   ·exact dh hE 1 [] (kp [0,5,8,9,10,11,53,54,55,77,78]) (kq [0,1,2,3,4,5,6] ++ [(7,.ai 71)]) 8 pn (xR N _ _ _ _ _ _ _ _ _ _ _ _ ih oU _ _ h E hE)
  ·obtain ⟨b8,uI,h⟩:=bq h
   obtain ⟨Sc,h⟩:=ab h
   refine ah hE 2 [(3,oT (.agg (ag b8)))] [] (kp [0,5,8] ++ [(9,.lO ((row.set ((ao (2 * n)).toNat) b8).length))] ++ kp [53,54,55]) (kq [0,1,2,3,4,5] ++ [(6,.arr 6 ((row.set ((ao (2 * n)).toNat) b8).length) (fun zi=>ag ((row.set ((ao (2 * n)).toNat) b8).getD zi aa.d)))]) 119 (pc (cX _ _ _ uI) (pc Sc (pc (dm Sc) (pc (aG row ((ao (2 * n)).toNat) b8) (pc (aG row ((ao (2 * n)).toNat) b8) (pc (cH ag aa.d row ((ao (2 * n)).toNat) b8) pn)))))) ?_
   obtain ⟨Mj,h⟩:=ab h
   refine ah hE 1 [] [] (kp [0,5,8,53,54,55]) ([(0,.var 0 [.ai,.ai,.ai,.ai,.lO ((t3 ++ [(row.set ((ao (2 * n)).toNat) b8)]).length),.ai,.ai,.ai,.ai,.ai,.ai,.ai])] ++ kq [1,2,4,5,6] ++ [(231,.po 231 ((t3 ++ [(row.set ((ao (2 * n)).toNat) b8)]).length) [(t3.length,6,(row.set ((ao (2 * n)).toNat) b8).length)] (mG (t3 ++ [(row.set ((ao (2 * n)).toNat) b8)])))]) 295 (pc o1 (pc (Eq.refl t3.length) (pc Mj (pc (show 0+1≤1 from (aP _)) (pc (show ∀ zi,zi < 1→AV.kN ((fun zi=>([[(.os 6 0 ((row.set ((ao (2 * n)).toNat) b8).length))]]:List (List AV)).getD zi []) (bQ 0 zi))=true from (AK rfl)) (pc o1 (pc (show (t3.length+1)=(t3 ++ [(row.set ((ao (2 * n)).toNat) b8)]).length from (bD rfl rfl)) (pc (show t3.length+1=(t3 ++ [(row.set ((ao (2 * n)).toNat) b8)]).length from (bD rfl rfl)) (pc (show ∀ zm,zm < (t3 ++ [(row.set ((ao (2 * n)).toNat) b8)]).length→bk [(t3.length,6,(row.set ((ao (2 * n)).toNat) b8).length)] (mG (t3 ++ [(row.set ((ao (2 * n)).toNat) b8)])) zm=if zm < t3.length then (mG t3) zm else (fun zi=>([[(.os 6 0 ((row.set ((ao (2 * n)).toNat) b8).length))]]:List (List AV)).getD zi []) (zm - t3.length) from (U1 (b:=fun zi=>([[(.os 6 0 ((row.set ((ao (2 * n)).toNat) b8).length))]]:List (List AV)).getD zi []) t3 (row.set ((ao (2 * n)).toNat) b8) rfl rfl)) (pc (iM (t3 ++ [(row.set ((ao (2 * n)).toNat) b8)])) pn)))))))))) ?_
   refine PN 231 6 t3.length (pc (XH t3 (row.set ((ao (2 * n)).toNat) b8)) (pc (show bk [(t3.length,6,(row.set ((ao (2 * n)).toNat) b8).length)] (mG (t3 ++ [(row.set ((ao (2 * n)).toNat) b8)])) t3.length=[.os 6 0 (row.set ((ao (2 * n)).toNat) b8).length] from if_pos rfl) (pc (show ∀ zj,zj < (row.set ((ao (2 * n)).toNat) b8).length→mP (ag ((row.set ((ao (2 * n)).toNat) b8).getD zj aa.d))=true from fun _ _=>rfl) pn))) ?_
   refine Kt hE [] (kp [0,5,8,53,54,55]) (kq [0,1,2,4,5] ++ [(231,.po 231 ((t3 ++ [(row.set ((ao (2 * n)).toNat) b8)]).length) [] (mG (t3 ++ [(row.set ((ao (2 * n)).toNat) b8)])))]) 295 (pc (Eq.refl ((t3 ++ [(row.set ((ao (2 * n)).toNat) b8)]).length)) (pc (RV (sz:=4) (c:=ag) (d:=aa.d) (t3 ++ [(row.set ((ao (2 * n)).toNat) b8)]) t3.length 6 ((row.set ((ao (2 * n)).toNat) b8).length) (row.set ((ao (2 * n)).toNat) b8) [] (rj t3 (row.set ((ao (2 * n)).toNat) b8)) Dh) (pc (iM (t3 ++ [(row.set ((ao (2 * n)).toNat) b8)])) pn))) ?_
   obtain ⟨df,yT,h⟩:=bq h
   obtain ⟨Sa,h⟩:=ab h
   refine ah hE 0 [(7,oT (.agg (ag df)))] [] (kp [0,5,53,54,55]) ([(0,.var 0 [.ai,.ai,.ai,.ai,.ai,.lO ((t4 ++ ([df]:List aa)).length),.ai,.ai,.ai,.ai,.ai,.ai])] ++ kq [1,2,231] ++ [(439,.arr 439 ((t4 ++ ([df]:List aa)).length) (fun zi=>ag ((t4 ++ ([df]:List aa)).getD zi aa.d)))]) 503 (pc o1 (pc o1 (pc (mA _ _ _ yT) (pc (Eq.refl t4.length) (pc Sa (pc (z1 1) (pc (show ∀ zi,zi < 1→AV.kN ((fun zi=>([[(aB df.fN.fG),(eU df.fN.fL),(aB df.fD.fG),(eU df.fD.fL)]]:List (List AV)).getD zi []) (bQ 0 zi))=true from (AK rfl)) (pc o1 (pc (show (t4.length+1)=(t4 ++ ([df]:List aa)).length from (bD rfl rfl)) (pc (show t4.length+1=(t4 ++ ([df]:List aa)).length from (bD rfl rfl)) (pc (show ∀ zi,zi < (t4 ++ ([df]:List aa)).length→(fun zi=>ag ((t4 ++ ([df]:List aa)).getD zi aa.d)) zi=((fun zm=>if zm < t4.length then (fun zi=>ag (t4.getD zi aa.d)) zm else (fun zi=>([[(aB df.fN.fG),(eU df.fN.fL),(aB df.fD.fG),(eU df.fD.fL)]]:List (List AV)).getD zi []) (zm - t4.length))) zi from (dY ag aa.d t4 ([df]:List aa) rfl (fun _ _=>rfl) (fun zq j8=>dU ag aa.d ([df]:List aa) zq j8))) pn))))))))))) ?_
   refine ah hE 1 [] [] (kp [0,5,53,54,55]) (kq [0,1,2,231,439]) 535 pn ?_
   exact dh hE 1 [] (kp [0,5,53,54,55]) (kq [0,1,2] ++ [(3,.ai 231),(4,.ai 439)]) 5 pn (oU _ _ _ _ _ h E hE)
def Gz (N:Nat) (n:Int) (l:List aE) (ar:aa) (t:List Int) (t2:List Int) (t3:List (List aa)) (t4:List aa) (K:(List aa)→Int→Option (jq)):Prop:=∀ (t5:List aa) (x4:Int) (r:jq),K t5 x4=some r→∀ E,aQ E 0→aw Tryz.prog E 33 157 (aY E [(0,vN 12 [(aI r.tk),(aI r.tl),(.os 1 0 r.kj.length),(.os 2 0 r.m8.length),(.os 3 0 r.Ku.length),(.os 4 0 r.Kv.length),(.os 5 0 r.eY.length),(aB r.af.fN.fG),(eU r.af.fN.fL),(aB r.af.fD.fG),(eU r.af.fD.fL),(aI r.bI)]),(1,aO 1 cI 0 r.kj),(2,aO 1 cI 0 r.m8),(3,aM 4 ag aa.d r.Ku),(4,aO 4 ag aa.d r.Kv),(5,aO 4 ag aa.d r.eY)] (.op 0 0 0)) [.code (Gw 2036),.inLoop (Gw 2036),.inBlock 6,.code (Gw 255)] ⟨[(5,(.op 0 0 0)),(144,(aI (((List.replicate ((ao ((ao (2 * n))+1)).toNat) aa.d:List aa).length:Nat):Int))),(145,(aI x4))],[(0,vN 12 [(aI n),(aI ((l.length:Nat):Int)),(.os 1 0 t2.length),(.os 2 0 ((t ++ ([(ao ((ao (2 * n))+((l.length:Nat):Int)))]:List Int)).length)),(.os 3 0 t3.length),(.os 4 0 t4.length),(.os 5 0 t5.length),(aB ar.fN.fG),(eU ar.fN.fL),(aB ar.fD.fG),(eU ar.fD.fL),(aI (ao ((ao (2 * n))+((l.length:Nat):Int))))]),(1,aO 1 cI 0 t2),(2,aO 1 cI 0 (t ++ ([(ao ((ao (2 * n))+((l.length:Nat):Int)))]:List Int))),(3,aM 4 ag aa.d t3),(4,aO 4 ag aa.d t4),(5,aO 4 ag aa.d t5)],6⟩
theorem ED (N n l ar t t2 t3 t4 fuel):Gz N n l ar t t2 t3 t4 (kV N n l ar t t2 t3 t4 fuel):=by
 induction fuel with
 | zero=>intro _ _ r h;rw [kV.eq_1] at h;cases h
 | succ fuel ih =>
  intro t5 x4 r h E hE
  rw [kV.eq_2] at h
  refine ah hE 1 [] [] (kp [5,144,145,146]) (kq [0,1,2,3,4,5]) 22 pn ?_
  refine dK 1 146 h (fun Nf h=>?_) (fun Nf h=>?_)
  ·refine ah hE 4 [] [] (kp [5,12,144,145]) (kq [0,1,2,3,4,5]) 54 pn ?_
   obtain ⟨pW,Ag,h⟩:=bq h
   obtain ⟨QA,h⟩:=ab h
   refine ah hE 0 [(5,oT (.agg (ag pW)))] [] (kp [5,144,145]) ([(0,.var 0 [.ai,.ai,.ai,.ai,.ai,.ai,.lO ((t5.set ((x4).toNat) pW).length),.ai,.ai,.ai,.ai,.ai])] ++ kq [1,2,3,4] ++ [(5,.arr 5 ((t5.set ((x4).toNat) pW).length) (fun zi=>ag ((t5.set ((x4).toNat) pW).getD zi aa.d)))]) 182 (pc o1 (pc (cX _ _ _ Ag) (pc QA (pc (dm QA) (pc (aG t5 ((x4).toNat) pW) (pc (aG t5 ((x4).toNat) pW) (pc (cH ag aa.d t5 ((x4).toNat) pW) pn))))))) ?_
   refine ah hE 1 [] [] (kp [5,144,145]) (kq [0,1,2,3,4,5]) 214 pn ?_
   exact dh hE 1 [] (kp [5,144,145]) (kq [0,1,2,3,4,5]) 6 pn (ih _ _ _ h E hE)
  ·refine ah hE 2 [] [] (kp [4]) (kq [0,1,2,3,4,5]) 54 pn ?_
   obtain rfl:=dj h
   exact dw hE 0 Tryz.f33 [] (kp [4]) (kq [0,1,2,3,4,5]) 54 pn [] pn
theorem EE (N n l ar t fuel):tQ N n l ar t (jC N n l ar t fuel):=by
 induction fuel with
 | zero=>intro _ _ _ _ r h;rw [jC.eq_1] at h;cases h
 | succ fuel ih =>
  intro t2 t3 t4 x2 r h E hE
  rw [jC.eq_2] at h
  refine ah hE 1 [] [] (kp [0,5,53,54,55,56]) (kq [0,1,2,3,4]) 21 pn ?_
  refine dK 1 56 h (fun iZ h=>?_) (fun iZ h=>?_)
  ·obtain ⟨c3,h⟩:=ab h
   refine ah hE 4 [] [] (kp [0,5,7,8,53,54,55]) (kq [0,1,2,3,4,69]) 117 (pc c3 (pc o1 pn)) ?_
   obtain ⟨c4,h⟩:=ab h
   refine ah hE 1 [] [] (kp [0,5,8,53,54,55]) ([(0,.var 0 [.ai,.ai,.lO ((t2 ++ ([(ao ((ao (2 * n))+x2))]:List Int)).length),.ai,.ai,.ai,.ai,.ai,.ai,.ai,.ai,.ai])] ++ kq [2,3,4,69] ++ [(277,.arr 277 ((t2 ++ ([(ao ((ao (2 * n))+x2))]:List Int)).length) (fun zi=>cI ((t2 ++ ([(ao ((ao (2 * n))+x2))]:List Int)).getD zi 0)))]) 341 (pc o1 (pc (Eq.refl t2.length) (pc c4 (pc (z1 1) (pc (show ∀ zi,zi < 1→AV.kN ((fun zi=>([[(aI (ao ((ao (2 * n))+x2)))]]:List (List AV)).getD zi []) (bQ 0 zi))=true from (AK rfl)) (pc o1 (pc (show (t2.length+1)=(t2 ++ ([(ao ((ao (2 * n))+x2))]:List Int)).length from (bD rfl rfl)) (pc (show t2.length+1=(t2 ++ ([(ao ((ao (2 * n))+x2))]:List Int)).length from (bD rfl rfl)) (pc (show ∀ zi,zi < (t2 ++ ([(ao ((ao (2 * n))+x2))]:List Int)).length→(fun zi=>cI ((t2 ++ ([(ao ((ao (2 * n))+x2))]:List Int)).getD zi 0)) zi=((fun zm=>if zm < t2.length then (fun zi=>cI (t2.getD zi 0)) zm else (fun zi=>([[(aI (ao ((ao (2 * n))+x2)))]]:List (List AV)).getD zi []) (zm - t2.length))) zi from (dY cI 0 t2 ([(ao ((ao (2 * n))+x2))]:List Int) rfl (fun _ _=>rfl) (fun zq j8=>dU cI 0 ([(ao ((ao (2 * n))+x2))]:List Int) zq j8))) pn))))))))) ?_
   obtain ⟨c5,h⟩:=ab h
   refine ah hE 1 [] [] (kp [0,5,8] ++ [(9,.lO ((List.replicate ((ao ((ao (2 * n))+1)).toNat) aa.d:List aa).length))] ++ kp [53,54,55]) (kq [0,2,3,4,69,277] ++ [(389,.RJ 389 ((List.replicate ((ao ((ao (2 * n))+1)).toNat) aa.d:List aa).length) (fun zi=>ag ((List.replicate ((ao ((ao (2 * n))+1)).toNat) aa.d:List aa).getD zi aa.d)))]) 421 (pc (show 0≤(ao ((ao (2 * n))+1)) from c5.1) (pc (show (ao ((ao (2 * n))+1))≤(ao ((ao (2 * n))+1)) from (Int.le_refl _)) (pc (show (64:Int) * (ao ((ao (2 * n))+1))≤281474976710656 from c5.2.1) (pc (show (ao ((ao (2 * n))+1))≤9223372036854775807 from c5.2.2) (pc (show (ao ((ao (2 * n))+1)).toNat=(List.replicate ((ao ((ao (2 * n))+1)).toNat) aa.d:List aa).length from (de).symm) (pc (show (List.replicate ((ao ((ao (2 * n))+1)).toNat) aa.d:List aa).length≤(ao ((ao (2 * n))+1)).toNat from (Nat.le_of_eq (Eq.symm ((de).symm)))) (pc (show ∀ zi,zi < (List.replicate ((ao ((ao (2 * n))+1)).toNat) aa.d:List aa).length→Ks ((fun _=>[(aB false),.nil,(aB false),.nil]) zi) ((fun zi=>ag ((List.replicate ((ao ((ao (2 * n))+1)).toNat) aa.d:List aa).getD zi aa.d)) zi) from (fun zq j8=>oZ ag aa.d aa.d ((ao ((ao (2 * n))+1)).toNat) zq ⟨.inl rfl,.inr ⟨rfl,_,rfl⟩,.inl rfl,.inr ⟨rfl,_,rfl⟩,trivial⟩ j8)) pn))))))) ?_
   refine ah hE 2 [] [] (kp [0,5,8,9,53,54,55,77,78]) (kq [0,2,3,4,69,277,389]) 453 pn ?_
   exact dh hE 2 [] (kp [0,5,8,9,53,54,55,77,78]) (kq [0] ++ [(1,.ai 277)] ++ kq [2,3,4] ++ [(5,.ai 69),(6,.ai 389)]) 7 pn (EC N _ _ _ _ _ _ _ _ _ ih N _ _ _ h E hE)
  ·obtain ⟨Ng,h⟩:=ab h
   refine ah hE 2 [] [] (kp [5]) ([(0,.var 0 [.ai,.ai,.ai,.ai,.ai,.ai,.lO ((List.replicate ((ao ((ao (2 * n))+1)).toNat) aa.d:List aa).length),.ai,.ai,.ai,.ai,.ai])] ++ kq [1,2,3,4] ++ [(85,.RJ 85 ((List.replicate ((ao ((ao (2 * n))+1)).toNat) aa.d:List aa).length) (fun zi=>ag ((List.replicate ((ao ((ao (2 * n))+1)).toNat) aa.d:List aa).getD zi aa.d)))]) 149 (pc (show 0≤(ao ((ao (2 * n))+1)) from Ng.1) (pc (show (ao ((ao (2 * n))+1))≤(ao ((ao (2 * n))+1)) from (Int.le_refl _)) (pc (show (64:Int) * (ao ((ao (2 * n))+1))≤281474976710656 from Ng.2.1) (pc (show (ao ((ao (2 * n))+1))≤9223372036854775807 from Ng.2.2) (pc o1 (pc (show (ao ((ao (2 * n))+1)).toNat=(List.replicate ((ao ((ao (2 * n))+1)).toNat) aa.d:List aa).length from (de).symm) (pc (show (List.replicate ((ao ((ao (2 * n))+1)).toNat) aa.d:List aa).length≤(ao ((ao (2 * n))+1)).toNat from (Nat.le_of_eq (Eq.symm ((de).symm)))) (pc (show ∀ zi,zi < (List.replicate ((ao ((ao (2 * n))+1)).toNat) aa.d:List aa).length→Ks ((fun _=>[(aB false),.nil,(aB false),.nil]) zi) ((fun zi=>ag ((List.replicate ((ao ((ao (2 * n))+1)).toNat) aa.d:List aa).getD zi aa.d)) zi) from (fun zq j8=>oZ ag aa.d aa.d ((ao ((ao (2 * n))+1)).toNat) zq ⟨.inl rfl,.inr ⟨rfl,_,rfl⟩,.inl rfl,.inr ⟨rfl,_,rfl⟩,trivial⟩ j8)) pn)))))))) ?_
   refine ah hE 2 [] [] (kp [5,144,145]) (kq [0,1,2,3,4,85]) 245 (pc o1 pn) ?_
   exact dh hE 2 [] (kp [5,144,145]) (kq [0,1,2,3,4] ++ [(5,.ai 85)]) 6 pn (ED N _ _ _ _ _ _ _ N _ _ _ h E hE)
theorem EF (N n l ar fuel):Gx N n l ar (kW N n l ar fuel):=by
 induction fuel with
 | zero=>intro _ _ r h;rw [kW.eq_1] at h;cases h
 | succ fuel ih =>
  intro t x r h E hE
  rw [kW.eq_2] at h
  refine ah hE 1 [] [] (kp [0,1,5,25,26,27]) (kq [0,1]) 18 pn ?_
  refine dK 1 27 h (fun dQ h=>?_) (fun dQ h=>?_)
  ·refine ah hE 4 [] [] (kp [0,1,5,6,25,26]) (kq [0,1]) 50 pn ?_
   obtain ⟨c,h⟩:=ab h
   refine ah hE 0 [] [] (kp [0,1,5,25,26]) [(0,.var 0 [.ai,.ai,.ai,.lO ((t ++ ([x]:List Int)).length),.ai,.ai,.ai,.ai,.ai,.ai,.ai,.ai]),(162,.arr 162 ((t ++ ([x]:List Int)).length) (fun zi=>cI ((t ++ ([x]:List Int)).getD zi 0)))] 226 (pc o1 (pc (Eq.refl t.length) (pc c (pc (z1 1) (pc (show ∀ zi,zi < 1→AV.kN ((fun zi=>([[(aI x)]]:List (List AV)).getD zi []) (bQ 0 zi))=true from (AK rfl)) (pc o1 (pc (show (t.length+1)=(t ++ ([x]:List Int)).length from (bD rfl rfl)) (pc (show t.length+1=(t ++ ([x]:List Int)).length from (bD rfl rfl)) (pc (show ∀ zi,zi < (t ++ ([x]:List Int)).length→(fun zi=>cI ((t ++ ([x]:List Int)).getD zi 0)) zi=((fun zm=>if zm < t.length then (fun zi=>cI (t.getD zi 0)) zm else (fun zi=>([[(aI x)]]:List (List AV)).getD zi []) (zm - t.length))) zi from (dY cI 0 t ([x]:List Int) rfl (fun _ _=>rfl) (fun zq j8=>dU cI 0 ([x]:List Int) zq j8))) pn))))))))) ?_
   refine ah hE 1 [] [] (kp [0,1,5,25,26]) (kq [0,162]) 258 pn ?_
   exact dh hE 1 [] (kp [0,1,5,25,26]) (kq [0] ++ [(1,.ai 162)]) 2 pn (ih _ _ _ h E hE)
  ·obtain ⟨c2,h⟩:=ab h
   refine ah hE 2 [] [] (kp [0,1,5]) [(0,.var 0 [.ai,.ai,.ai,.lO ((t ++ ([(ao ((ao (2 * n))+((l.length:Nat):Int)))]:List Int)).length),.ai,.ai,.ai,.ai,.ai,.ai,.ai,.ai]),(178,.arr 178 ((t ++ ([(ao ((ao (2 * n))+((l.length:Nat):Int)))]:List Int)).length) (fun zi=>cI ((t ++ ([(ao ((ao (2 * n))+((l.length:Nat):Int)))]:List Int)).getD zi 0)))] 242 (pc o1 (pc o1 (pc (Eq.refl t.length) (pc c2 (pc (z1 1) (pc (show ∀ zi,zi < 1→AV.kN ((fun zi=>([[(aI (ao ((ao (2 * n))+((l.length:Nat):Int))))]]:List (List AV)).getD zi []) (bQ 0 zi))=true from (AK rfl)) (pc o1 (pc (show (t.length+1)=(t ++ ([(ao ((ao (2 * n))+((l.length:Nat):Int)))]:List Int)).length from (bD rfl rfl)) (pc (show t.length+1=(t ++ ([(ao ((ao (2 * n))+((l.length:Nat):Int)))]:List Int)).length from (bD rfl rfl)) (pc (show ∀ zi,zi < (t ++ ([(ao ((ao (2 * n))+((l.length:Nat):Int)))]:List Int)).length→(fun zi=>cI ((t ++ ([(ao ((ao (2 * n))+((l.length:Nat):Int)))]:List Int)).getD zi 0)) zi=((fun zm=>if zm < t.length then (fun zi=>cI (t.getD zi 0)) zm else (fun zi=>([[(aI (ao ((ao (2 * n))+((l.length:Nat):Int))))]]:List (List AV)).getD zi []) (zm - t.length))) zi from (dY cI 0 t ([(ao ((ao (2 * n))+((l.length:Nat):Int)))]:List Int) rfl (fun _ _=>rfl) (fun zq j8=>dU cI 0 ([(ao ((ao (2 * n))+((l.length:Nat):Int)))]:List Int) zq j8))) pn)))))))))) ?_
   refine ah hE 2 [] [] (kp [0,5,53,54,55]) (kq [0,178]) 290 pn ?_
   exact dh hE 2 [] (kp [0,5,53,54,55]) [(0,.var 0 [.ai,.ai,.tF 1,.ai,.tF 3,.tF 4,.ai,.ai,.ai,.ai,.ai,.ai]),(1,.nil 1 (fun zi=>cI (([]:List Int).getD zi 0))),(2,.ai 178),(3,.Wu (mG ([]:List (List aa)))),(4,.nil 4 (fun zi=>ag (([]:List aa).getD zi aa.d)))] 5 pn (EE N _ _ _ _ N _ _ _ _ _ h E hE)
theorem JR (N n l r) (h:vV N n l=some r):Sd 33 [(aI n),(aK zN aE.d l)] [] 0 (.op 0 0 0) [(0,vN 12 [(aI r.tk),(aI r.tl),(.os 1 0 r.kj.length),(.os 2 0 r.m8.length),(.os 3 0 r.Ku.length),(.os 4 0 r.Kv.length),(.os 5 0 r.eY.length),(aB r.af.fN.fG),(eU r.af.fN.fL),(aB r.af.fD.fG),(eU r.af.fD.fL),(aI r.bI)]),(1,aO 1 cI 0 r.kj),(2,aO 1 cI 0 r.m8),(3,aM 4 ag aa.d r.Ku),(4,aO 4 ag aa.d r.Kv),(5,aO 4 ag aa.d r.eY)]:=by
 unfold vV at h
 refine gX (fu:=Tryz.f33) (c:=Gw 1) (nt:=157) (fun hm=>rfl) ?_
 intro E hE
 refine ah hE 1 [] [] (kp [0,1]) [] 16 pn ?_
 obtain ⟨ar,hr,h⟩:=bq h
 refine ah hE 1 [(8,oT (.agg (ag ar)))] [] (kp [0,1,5]) (kq [176]) 208 (pc (cX _ _ _ hr) pn) ?_
 refine ah hE 2 [] [] (kp [0,1,5,25,26]) (kq [176]) 256 pn ?_
 exact dh hE 2 [] (kp [0,1,5,25,26]) [(0,.var 176 [.ai,.ai,.ai,.tF 1,.ai,.ai,.ai,.ai,.ai,.ai,.ai,.ai]),(1,.nil 1 (fun zi=>cI (([]:List Int).getD zi 0)))] 2 pn (EF N _ _ _ N _ _ _ h E hE)
noncomputable abbrev adf:=cy Tryz.f47
theorem iH (N x r) (h:ij N x=some r):Sd 47 [(.agg (ag x))] [] 0 (aI r) []:=by
 unfold ij at h
 refine gX (fu:=Tryz.f47) (c:=adf 1) (nt:=10) (fun hm=>rfl) ?_
 intro E hE
 refine ah hE 1 [] [] (kp [1]) (kq [0]) 32 pn ?_
 obtain ⟨vU,hr,h⟩:=bq h
 obtain ⟨jA,eW,h⟩:=bq h
 obtain ⟨M8,lL,h⟩:=bq h
 refine ah hE 1 [(2,oT (aI vU)),(4,oT (.agg (iv jA))),(5,oT (aI M8))] [] (kp [2]) [] 160 (pc o1 (pc (uJ _ _ _ hr) (pc o1 (pc (jH _ _ _ eW) (pc (uJ _ _ _ lL) pn))))) ?_
 obtain rfl:=dj h
 exact dw hE 0 Tryz.f47 [] (kp [2]) [] 160 pn [] pn
noncomputable abbrev adg:=cy Tryz.f50
theorem gD (N x r) (h:fX N x=some r):Sd 50 [(.agg (ag x))] [] 0 (aB r) []:=by
 unfold fX at h
 refine gX (fu:=Tryz.f50) (c:=adg 1) (nt:=7) (fun hm=>rfl) ?_
 intro E hE
 refine ah hE 1 [] [] (kp [1]) (kq [0]) 32 pn ?_
 obtain ⟨vU,hr,h⟩:=bq h
 refine ah hE 1 [(2,oT (aI vU))] [] (kp [2]) [] 112 (pc o1 (pc (uJ _ _ _ hr) pn)) ?_
 obtain rfl:=dj h
 exact dw hE 0 Tryz.f50 [] (kp [2]) [] 112 pn [] pn
noncomputable abbrev HW:=cy Tryz.f119
def yV (N:Nat) (a:List Int) (b:List Int) (K:(List Int)→Int→Option ((List Int))):Prop:=∀ (out:List Int) (x:Int) (r:(List Int)),K out x=some r→∀ E,aQ E 0→aw Tryz.prog E 119 67 (aY E [] (eU r)) [.code (HW 116),.inLoop (HW 116),.inBlock 0,.code (HW 15)] ⟨[(1,(eU b)),(5,(.os 0 0 out.length)),(17,(eU a)),(18,(aI ((a.length:Nat):Int))),(19,(aI x))],[(0,aU out)],1⟩
def GA (N:Nat) (a:List Int) (b:List Int) (x:Int) (K:(List Int)→Int→Int→Option ((List Int))):Prop:=∀ (fY:List Int) (carry:Int) (x2:Int) (r:(List Int)),K fY carry x2=some r→∀ E,aQ E 0→aw Tryz.prog E 119 67 (aY E [] (eU r)) [.code (HW 119604),.inLoop (HW 119604),.inBlock 2,.code (HW 14951),.inBlock 1,.code (HW 935),.inLoop (HW 116),.inBlock 0,.code (HW 15)] ⟨[(1,(eU b)),(5,(.os 0 0 fY.length)),(6,(aI x)),(7,(wO (a.getD ((x).toNat) 0))),(8,(Vg carry)),(17,(eU a)),(18,(aI ((a.length:Nat):Int))),(19,(aI x)),(24,(eU b)),(25,(aI ((b.length:Nat):Int))),(26,(aI x2))],[(0,aU fY)],1⟩
theorem EG (N:Nat) (a:List Int) (b:List Int) (x:Int) (nh:(List Int)→Int→Option ((List Int))) (EH:yV N a b nh) (fuel:Nat):GA N a b x (kX N a b x nh fuel):=by
 induction fuel with
 | zero=>intro _ _ _ r h;rw [kX.eq_1] at h;cases h
 | succ fuel ih =>
  intro fY carry x2 r h E hE
  rw [kX.eq_2] at h
  refine ah hE 1 [] [] (kp [1,5,6,7,8,17,18,19,24,25,26,27]) (kq [0]) 17 pn ?_
  refine dK 1 27 h (fun iZ h=>?_) (fun iZ h=>?_)
  ·obtain ⟨c3,h⟩:=ab h
   refine ah hE 4 [] [] (kp [1,5,6,7,8,9,10,17,18,19,24,25,26]) (kq [0]) 97 (pc c3 pn) ?_
   obtain ⟨c4,h⟩:=ab h
   refine ah hE 1 [] [] (kp [1,5,6,7,8,9,17,18,19,24,25,26]) (kq [0]) 353 (pc c4 (pc (dm c4) pn)) ?_
   refine ah hE 1 [] [] (kp [1] ++ [(5,.lO ((fY.set ((ao (x+x2)).toNat) (IntKind.u16.wrap ((IntKind.u32.wrap (carry+(IntKind.u32.wrap ((IntKind.u32.wrap ((IntKind.u32.wrap ((a.getD ((x).toNat) 0))) * (IntKind.u32.wrap ((b.getD ((x2).toNat) 0)))))+(IntKind.u32.wrap ((fY.getD ((ao (x+x2)).toNat) 0)))))))))).length))] ++ kp [6,7,8,17,18,19,24,25,26]) [(0,.arr 0 ((fY.set ((ao (x+x2)).toNat) (IntKind.u16.wrap ((IntKind.u32.wrap (carry+(IntKind.u32.wrap ((IntKind.u32.wrap ((IntKind.u32.wrap ((a.getD ((x).toNat) 0))) * (IntKind.u32.wrap ((b.getD ((x2).toNat) 0)))))+(IntKind.u32.wrap ((fY.getD ((ao (x+x2)).toNat) 0)))))))))).length) (fun zi=>(cU .u16) ((fY.set ((ao (x+x2)).toNat) (IntKind.u16.wrap ((IntKind.u32.wrap (carry+(IntKind.u32.wrap ((IntKind.u32.wrap ((IntKind.u32.wrap ((a.getD ((x).toNat) 0))) * (IntKind.u32.wrap ((b.getD ((x2).toNat) 0)))))+(IntKind.u32.wrap ((fY.getD ((ao (x+x2)).toNat) 0)))))))))).getD zi 0)))] 481 (pc c4 (pc (dm c4) (pc (aG fY ((ao (x+x2)).toNat) (IntKind.u16.wrap ((IntKind.u32.wrap (carry+(IntKind.u32.wrap ((IntKind.u32.wrap ((IntKind.u32.wrap ((a.getD ((x).toNat) 0))) * (IntKind.u32.wrap ((b.getD ((x2).toNat) 0)))))+(IntKind.u32.wrap ((fY.getD ((ao (x+x2)).toNat) 0)))))))))) (pc (aG fY ((ao (x+x2)).toNat) (IntKind.u16.wrap ((IntKind.u32.wrap (carry+(IntKind.u32.wrap ((IntKind.u32.wrap ((IntKind.u32.wrap ((a.getD ((x).toNat) 0))) * (IntKind.u32.wrap ((b.getD ((x2).toNat) 0)))))+(IntKind.u32.wrap ((fY.getD ((ao (x+x2)).toNat) 0)))))))))) (pc (cH (cU .u16) 0 fY ((ao (x+x2)).toNat) (IntKind.u16.wrap ((IntKind.u32.wrap (carry+(IntKind.u32.wrap ((IntKind.u32.wrap ((IntKind.u32.wrap ((a.getD ((x).toNat) 0))) * (IntKind.u32.wrap ((b.getD ((x2).toNat) 0)))))+(IntKind.u32.wrap ((fY.getD ((ao (x+x2)).toNat) 0)))))))))) pn))))) ?_
   refine ah hE 0 [] [] (kp [1,5,6,7,8,17,18,19,24,25,26]) (kq [0]) 529 (pc (show (0:Int)≤16 by decide) pn) ?_
   refine ah hE 1 [] [] (kp [1,5,6,7,8,17,18,19,24,25,26]) (kq [0]) 561 pn ?_
   exact dh hE 1 [] (kp [1,5,6,7,8,17,18,19,24,25,26]) (kq [0]) 1 pn (ih _ _ _ _ h E hE)
  ·obtain ⟨c5,h⟩:=ab h
   refine ah hE 1 [] [] (kp [1] ++ [(5,.lO ((fY.set ((ao (x+((b.length:Nat):Int))).toNat) (IntKind.u16.wrap (carry))).length))] ++ kp [17,18,19]) [(0,.arr 0 ((fY.set ((ao (x+((b.length:Nat):Int))).toNat) (IntKind.u16.wrap (carry))).length) (fun zi=>(cU .u16) ((fY.set ((ao (x+((b.length:Nat):Int))).toNat) (IntKind.u16.wrap (carry))).getD zi 0)))] 161 (pc c5 (pc (dm c5) (pc (aG fY ((ao (x+((b.length:Nat):Int))).toNat) (IntKind.u16.wrap (carry))) (pc (aG fY ((ao (x+((b.length:Nat):Int))).toNat) (IntKind.u16.wrap (carry))) (pc (cH (cU .u16) 0 fY ((ao (x+((b.length:Nat):Int))).toNat) (IntKind.u16.wrap (carry))) pn))))) ?_
   refine ah hE 1 [] [] (kp [1,5,17,18,19]) (kq [0]) 193 pn ?_
   exact dh hE 1 [] (kp [1,5,17,18,19]) (kq [0]) 1 pn (EH _ _ _ h E hE)
theorem EI (N a b fuel):yV N a b (kY N a b fuel):=by
 induction fuel with
 | zero=>intro _ _ r h;rw [kY.eq_1] at h;cases h
 | succ fuel ih =>
  intro out x r h E hE
  rw [kY.eq_2] at h
  refine ah hE 1 [] [] (kp [1,5,17,18,19,20]) (kq [0]) 17 pn ?_
  refine dK 1 20 h (fun dQ h=>?_) (fun dQ h=>?_)
  ·obtain ⟨c2,h⟩:=ab h
   refine ah hE 4 [] [] (kp [1,5,6,7,17,18,19]) (kq [0]) 97 (pc c2 pn) ?_
   refine ah hE 1 [] [] (kp [1,5,6,7,8,17,18,19]) (kq [0]) 113 pn ?_
   refine ah hE 2 [] [] (kp [1,5,6,7,8,17,18,19,24,25,26]) (kq [0]) 161 pn ?_
   exact dh hE 2 [] (kp [1,5,6,7,8,17,18,19,24,25,26]) (kq [0]) 1 pn (EG N _ _ _ _ ih N _ _ _ _ h E hE)
  ·obtain ⟨b7,hr,h⟩:=bq h
   refine ah hE 2 [(1,⟨[],true,(eU b7),[],0,true,none⟩)] [] (kp [4]) [] 65 (pc (eb _ _ _ hr) (pc (z1 out.length) pn)) ?_
   obtain rfl:=dj h
   exact dw hE 0 Tryz.f119 [] (kp [4]) [] 65 pn [] pn
theorem JS (N a b r) (h:tn N a b=some r):Sd 119 [(eU a),(eU b)] [] 0 (eU r) []:=by
 unfold tn at h
 refine gX (fu:=Tryz.f119) (c:=HW 1) (nt:=67) (fun hm=>rfl) ?_
 intro E hE
 refine ah hE 1 [] [] (kp [0,1]) [] 16 pn ?_
 obtain ⟨c,h⟩:=ab h
 refine ah hE 1 [] [] (kp [0,1] ++ [(5,.lO ((List.replicate ((ao (((a.length:Nat):Int)+((b.length:Nat):Int))).toNat) 0:List Int).length))]) [(96,.arr 96 ((List.replicate ((ao (((a.length:Nat):Int)+((b.length:Nat):Int))).toNat) 0:List Int).length) (fun zi=>(cU .u16) ((List.replicate ((ao (((a.length:Nat):Int)+((b.length:Nat):Int))).toNat) 0:List Int).getD zi 0)))] 128 (pc (show 0≤(ao (((a.length:Nat):Int)+((b.length:Nat):Int))) from c.1) (pc (show (ao (((a.length:Nat):Int)+((b.length:Nat):Int)))≤(ao (((a.length:Nat):Int)+((b.length:Nat):Int))) from (Int.le_refl _)) (pc (show (2:Int) * (ao (((a.length:Nat):Int)+((b.length:Nat):Int)))≤281474976710656 from c.2.1) (pc (show (ao (((a.length:Nat):Int)+((b.length:Nat):Int)))≤9223372036854775807 from c.2.2) (pc (show (ao (((a.length:Nat):Int)+((b.length:Nat):Int))).toNat=(List.replicate ((ao (((a.length:Nat):Int)+((b.length:Nat):Int))).toNat) 0:List Int).length from (de).symm) (pc (show (ao (((a.length:Nat):Int)+((b.length:Nat):Int))).toNat=(List.replicate ((ao (((a.length:Nat):Int)+((b.length:Nat):Int))).toNat) 0:List Int).length from (de).symm) (pc (show ∀ zi,zi < (List.replicate ((ao (((a.length:Nat):Int)+((b.length:Nat):Int))).toNat) 0:List Int).length→(fun zi=>(cU .u16) ((List.replicate ((ao (((a.length:Nat):Int)+((b.length:Nat):Int))).toNat) 0:List Int).getD zi 0)) zi=(fun _=>[(wO 0)]) zi from (fun zq j8=>qQ (cU .u16) 0 0 ((ao (((a.length:Nat):Int)+((b.length:Nat):Int))).toNat) zq j8)) pn))))))) ?_
 refine ah hE 2 [] [] (kp [1,5,17,18,19]) (kq [96]) 176 pn ?_
 exact dh hE 2 [] (kp [1,5,17,18,19]) [(0,.ai 96)] 1 pn (EI N _ _ N _ _ _ h E hE)
noncomputable abbrev adh:=cy Tryz.f106
theorem pa (N a b r) (h:pX N a b=some r):Sd 106 [(.agg (iv a)),(.agg (iv b))] [] 0 (.agg (iv r)) []:=by
 unfold pX at h
 refine gX (fu:=Tryz.f106) (c:=adh 1) (nt:=18) (fun hm=>rfl) ?_
 intro E hE
 refine ah hE 1 [] [] (kp [2,3,4]) (kq [0,16,32]) 48 pn ?_
 obtain ⟨b7,hr,h⟩:=bq h
 obtain ⟨gu,eW,h⟩:=bq h
 obtain ⟨sb,lL,h⟩:=bq h
 obtain ⟨JK,px,h⟩:=bq h
 refine ah hE 1 [(7,oT (eU b7)),(10,oT (eU gu)),(11,oT (eU sb)),(12,oT (.agg (iv JK)))] [] (kp [4]) (kq [32]) 272 (pc o1 (pc o1 (pc o1 (pc (eb _ _ _ hr) (pc o1 (pc (eb _ _ _ eW) (pc (JS _ _ _ _ lL) (pc (gC _ _ _ _ px) (pc o1 pn))))))))) ?_
 obtain rfl:=dj h
 exact dw hE 0 Tryz.f106 [] (kp [4]) [(16,.ai 32)] 272 pn [16] (pc o1 pn)
noncomputable abbrev GB:=cy Tryz.f59
def HX (N:Nat) (K:(List Int)→(List Int)→Option ((List Int))):Prop:=∀ (a2:List Int) (b2:List Int) (r:(List Int)),K a2 b2=some r→∀ E,aQ E 0→aw Tryz.prog E 59 56 (aY E [] (eU r)) [.code (GB 14),.code (GB 15)] ⟨[(0,(eU a2)),(1,(eU b2))],[],0⟩
def Ax (N:Nat) (a2:List Int) (b2:List Int) (K:(List Int)→Int→Int→Option ((List Int))):Prop:=∀ (out:List Int) (carry:Int) (x:Int) (r:(List Int)),K out carry x=some r→∀ E,aQ E 0→aw Tryz.prog E 59 56 (aY E [] (eU r)) [.code (GB 500),.inLoop (GB 500),.inBlock 0,.code (GB 63)] ⟨[(1,(eU b2)),(5,(.os 0 0 out.length)),(6,(Vg carry)),(20,(eU a2)),(21,(aI ((a2.length:Nat):Int))),(22,(aI x))],[(0,aU out)],1⟩
def HY (N:Nat) (a2:List Int) (b2:List Int) (out:List Int) (x:Int) (K:Int→Option ((List Int))):Prop:=∀ (fz:Int) (r:(List Int)),K fz=some r→∀ E,aQ E 0→aw Tryz.prog E 59 56 (aY E [] (eU r)) [.code (GB 128206),.code (GB 128207),.inBlock 1,.code (GB 4007),.inLoop (GB 500),.inBlock 0,.code (GB 63)] ⟨[(1,(eU b2)),(5,(.os 0 0 out.length)),(6,(Vg fz)),(20,(eU a2)),(21,(aI ((a2.length:Nat):Int))),(22,(aI x))],[(0,aU out)],1⟩
theorem yW (N:Nat) (a2:List Int) (b2:List Int) (out:List Int) (x:Int) (qS:(List Int)→Int→Int→Option ((List Int))) (GC:Ax N a2 b2 qS):HY N a2 b2 out x (pz N a2 b2 out x qS):=by
 intro fz r h E hE
 unfold pz at h
 obtain ⟨c4,h⟩:=ab h
 refine ah hE 0 [] [] (kp [1] ++ [(5,.lO ((out ++ ([(IntKind.u16.wrap (fz))]:List Int)).length))] ++ kp [6,20,21,22]) [(65,.arr 65 ((out ++ ([(IntKind.u16.wrap (fz))]:List Int)).length) (fun zi=>(cU .u16) ((out ++ ([(IntKind.u16.wrap (fz))]:List Int)).getD zi 0)))] 97 (pc (Eq.refl out.length) (pc c4 (pc (z1 1) (pc (show ∀ zi,zi < 1→AV.kN ((fun zi=>([[(wO (IntKind.u16.wrap (fz)))]]:List (List AV)).getD zi []) (bQ 0 zi))=true from (AK rfl)) (pc (show (out.length+1)=(out ++ ([(IntKind.u16.wrap (fz))]:List Int)).length from (bD rfl rfl)) (pc (show out.length+1=(out ++ ([(IntKind.u16.wrap (fz))]:List Int)).length from (bD rfl rfl)) (pc (show ∀ zi,zi < (out ++ ([(IntKind.u16.wrap (fz))]:List Int)).length→(fun zi=>(cU .u16) ((out ++ ([(IntKind.u16.wrap (fz))]:List Int)).getD zi 0)) zi=((fun zm=>if zm < out.length then (fun zi=>(cU .u16) (out.getD zi 0)) zm else (fun zi=>([[(wO (IntKind.u16.wrap (fz)))]]:List (List AV)).getD zi []) (zm - out.length))) zi from (dY (cU .u16) 0 out ([(IntKind.u16.wrap (fz))]:List Int) rfl (fun _ _=>rfl) (fun zq j8=>dU (cU .u16) 0 ([(IntKind.u16.wrap (fz))]:List Int) zq j8))) pn))))))) ?_
 refine ah hE 0 [] [] (kp [1,5,6,20,21,22]) (kq [65]) 145 (pc (show (0:Int)≤16 by decide) pn) ?_
 refine ah hE 1 [] [] (kp [1,5,6,20,21,22]) (kq [65]) 177 pn ?_
 exact dh hE 1 [] (kp [1,5,6,20,21,22]) [(0,.ai 65)] 1 pn (GC _ _ _ _ h E hE)
theorem GD (N a2 b2 fuel):Ax N a2 b2 (jM N a2 b2 fuel):=by
 induction fuel with
 | zero=>intro _ _ _ r h;rw [jM.eq_1] at h;cases h
 | succ fuel ih =>
  intro out carry x r h E hE
  rw [jM.eq_2] at h
  refine ah hE 1 [] [] (kp [1,5,6,20,21,22,23]) (kq [0]) 17 pn ?_
  refine dK 1 23 h (fun iZ h=>?_) (fun iZ h=>?_)
  ·obtain ⟨c2,h⟩:=ab h
   refine ah hE 4 [] [] (kp [1,5,6,7,8,20,21,22]) (kq [0]) 97 (pc c2 pn) ?_
   refine ah hE 1 [] [] (kp [1,5,6,7,20,21,22]) (kq [0]) 177 pn ?_
   refine ah hE 2 [] [] (kp [1,5,6,7,20,21,22,34]) (kq [0]) 241 pn ?_
   refine dK 0 34 h (fun qq h=>?_) (fun qq h=>?_)
   ·obtain ⟨c3,h⟩:=ab h
    refine ah hE 0 [] [] (kp [1,5,6,20,21,22]) (kq [0]) 369 (pc c3 pn) ?_
    exact dh hE 1 [] (kp [1,5,6,20,21,22]) (kq [0]) 1 pn (yW N _ _ _ _ _ ih _ _ h E hE)
   ·exact dh hE 2 [] (kp [1,5,6,20,21,22]) (kq [0]) 1 pn (yW N _ _ _ _ _ ih _ _ h E hE)
  ·obtain ⟨c5,h⟩:=ab h
   obtain ⟨b7,hr,h⟩:=bq h
   refine ah hE 2 [(5,⟨[],true,(eU b7),[],0,true,none⟩)] [] (kp [4]) [] 129 (pc (Eq.refl out.length) (pc c5 (pc (z1 1) (pc (show ∀ zi,zi < 1→AV.kN ((fun zi=>([[(wO (IntKind.u16.wrap (carry)))]]:List (List AV)).getD zi []) (bQ 0 zi))=true from (AK rfl)) (pc (show Sd 57 [(.sl (out.length+1) (fun zi=>((fun zm=>if zm < out.length then (fun zi=>(cU .u16) (out.getD zi 0)) zm else (fun zi=>([[(wO (IntKind.u16.wrap (carry)))]]:List (List AV)).getD zi []) (zm - out.length))) (bQ 0 zi)))] [] 0 (eU b7) [] from (Sound.conv (eb _ _ _ hr) (.cons (Alike.sl (bD rfl rfl) (dY (cU .u16) 0 out ([(IntKind.u16.wrap (carry))]:List Int) rfl (fun _ _=>rfl) (fun zq j8=>dU (cU .u16) 0 ([(IntKind.u16.wrap (carry))]:List Int) zq j8))) .nil))) (pc (z1 (out.length+1)) pn)))))) ?_
   obtain rfl:=dj h
   exact dw hE 0 Tryz.f59 [] (kp [4]) [] 129 pn [] pn
theorem yX (N):HX N (pC N):=by
 intro a2 b2 r h E hE
 unfold pC at h
 obtain ⟨c,h⟩:=ab h
 refine ah hE 0 [] [] (kp [0,1] ++ [(5,.lO ((List.replicate 0 0:List Int).length))]) [(48,.arr 48 ((List.replicate 0 0:List Int).length) (fun zi=>(cU .u16) ((List.replicate 0 0:List Int).getD zi 0)))] 80 (pc (show 0≤(0:Int) from c.1) (pc (show (0:Int)≤(ao (((a2.length:Nat):Int)+1)) from c.2.2.2) (pc (show (2:Int) * (ao (((a2.length:Nat):Int)+1))≤281474976710656 from c.2.1) (pc (show (ao (((a2.length:Nat):Int)+1))≤9223372036854775807 from c.2.2.1) (pc (show 0=(List.replicate 0 0:List Int).length from (de).symm) (pc (show 0=(List.replicate 0 0:List Int).length from (de).symm) (pc (show ∀ zi,zi < (List.replicate 0 0:List Int).length→(fun zi=>(cU .u16) ((List.replicate 0 0:List Int).getD zi 0)) zi=(fun _=>[(wO 0)]) zi from (fun zq j8=>qQ (cU .u16) 0 0 0 zq j8)) pn))))))) ?_
 refine ah hE 1 [] [] (kp [0,1,5,6]) (kq [48]) 96 pn ?_
 refine ah hE 2 [] [] (kp [1,5,6,20,21,22]) (kq [48]) 144 pn ?_
 exact dh hE 2 [] (kp [1,5,6,20,21,22]) [(0,.ai 48)] 1 pn (GD N _ _ N _ _ _ _ h E hE)
theorem D7 (N a b r) (h:tK N a b=some r):Sd 59 [(eU a),(eU b)] [] 0 (eU r) []:=by
 unfold tK at h
 refine gX (fu:=Tryz.f59) (c:=GB 1) (nt:=56) (fun hm=>rfl) ?_
 intro E hE
 refine ah hE 1 [] [] (kp [0,1]) [] 16 pn ?_
 refine ah hE 2 [] [] (kp [0,1,13]) [] 96 pn ?_
 refine dK 0 13 h (fun dQ h=>?_) (fun dQ h=>?_)
 ·refine ah hE 0 [] [] (kp [0,1]) [] 160 pn ?_
  exact dh hE 1 [] (kp [0,1]) [] 0 pn (yX N _ _ _ h E hE)
 ·exact dh hE 2 [] (kp [0,1]) [] 0 pn (yX N _ _ _ h E hE)
noncomputable abbrev Dw:=cy Tryz.f60
def tR (N:Nat) (a:List Int) (b:List Int) (K:(List Int)→Int→Int→Option ((List Int))):Prop:=∀ (out:List Int) (borrow:Int) (x:Int) (r:(List Int)),K out borrow x=some r→∀ E,aQ E 0→aw Tryz.prog E 60 50 (aY E [] (eU r)) [.code (Dw 244),.inLoop (Dw 244),.inBlock 0,.code (Dw 31)] ⟨[(1,(eU b)),(5,(.os 0 0 out.length)),(6,(Vg borrow)),(13,(eU a)),(14,(aI ((a.length:Nat):Int))),(15,(aI x))],[(0,aU out)],1⟩
def GF (N:Nat) (a:List Int) (b:List Int) (out:List Int) (x:Int) (K:Int→Option ((List Int))):Prop:=∀ (y:Int) (r:(List Int)),K y=some r→∀ E,aQ E 0→aw Tryz.prog E 60 50 (aY E [] (eU r)) [.code (Dw 62670),.code (Dw 62671),.inBlock 1,.code (Dw 1959),.inLoop (Dw 244),.inBlock 0,.code (Dw 31)] ⟨[(1,(eU b)),(5,(.os 0 0 out.length)),(7,(aI x)),(8,(wO (a.getD ((x).toNat) 0))),(9,(Vg y)),(13,(eU a)),(14,(aI ((a.length:Nat):Int))),(15,(aI x))],[(0,aU out)],1⟩
def GG (N:Nat) (a:List Int) (b:List Int) (out:List Int) (x:Int) (y:Int) (K:Int→Option ((List Int))):Prop:=∀ (kn:Int) (r:(List Int)),K kn=some r→∀ E,aQ E 0→aw Tryz.prog E 60 50 (aY E [] (eU r)) [.code (Dw 125343),.inBlock 1,.code (Dw 1959),.inLoop (Dw 244),.inBlock 0,.code (Dw 31)] ⟨[(1,(eU b)),(5,(.os 0 0 out.length)),(6,(Vg kn)),(7,(aI x)),(8,(wO (a.getD ((x).toNat) 0))),(9,(Vg y)),(13,(eU a)),(14,(aI ((a.length:Nat):Int))),(15,(aI x))],[(0,aU out)],1⟩
theorem xS (N:Nat) (a:List Int) (b:List Int) (out:List Int) (x:Int) (y:Int) (fM:(List Int)→Int→Int→Option ((List Int))) (oV:tR N a b fM):GG N a b out x y (nT N a b out x y fM):=by
 intro kn r h E hE
 unfold nT at h
 obtain ⟨c4,h⟩:=ab h
 refine ah hE 0 [] [] (kp [1] ++ [(5,.lO ((out.set ((x).toNat) (IntKind.u16.wrap ((IntKind.u32.wrap ((IntKind.u32.wrap ((IntKind.u32.wrap ((a.getD ((x).toNat) 0)))+(iK .u32 kn 16))) - y))))).length))] ++ kp [6,13,14,15]) [(0,.arr 0 ((out.set ((x).toNat) (IntKind.u16.wrap ((IntKind.u32.wrap ((IntKind.u32.wrap ((IntKind.u32.wrap ((a.getD ((x).toNat) 0)))+(iK .u32 kn 16))) - y))))).length) (fun zi=>(cU .u16) ((out.set ((x).toNat) (IntKind.u16.wrap ((IntKind.u32.wrap ((IntKind.u32.wrap ((IntKind.u32.wrap ((a.getD ((x).toNat) 0)))+(iK .u32 kn 16))) - y))))).getD zi 0)))] 193 (pc (show (0:Int)≤16 by decide) (pc c4 (pc (dm c4) (pc (aG out ((x).toNat) (IntKind.u16.wrap ((IntKind.u32.wrap ((IntKind.u32.wrap ((IntKind.u32.wrap ((a.getD ((x).toNat) 0)))+(iK .u32 kn 16))) - y))))) (pc (aG out ((x).toNat) (IntKind.u16.wrap ((IntKind.u32.wrap ((IntKind.u32.wrap ((IntKind.u32.wrap ((a.getD ((x).toNat) 0)))+(iK .u32 kn 16))) - y))))) (pc (cH (cU .u16) 0 out ((x).toNat) (IntKind.u16.wrap ((IntKind.u32.wrap ((IntKind.u32.wrap ((IntKind.u32.wrap ((a.getD ((x).toNat) 0)))+(iK .u32 kn 16))) - y))))) pn)))))) ?_
 refine ah hE 1 [] [] (kp [1,5,6,13,14,15]) (kq [0]) 225 pn ?_
 exact dh hE 1 [] (kp [1,5,6,13,14,15]) (kq [0]) 1 pn (oV _ _ _ _ h E hE)
theorem xT (N:Nat) (a:List Int) (b:List Int) (out:List Int) (x:Int) (fM:(List Int)→Int→Int→Option ((List Int))) (oV:tR N a b fM):GF N a b out x (nU N a b out x fM):=by
 intro y r h E hE
 unfold nU at h
 refine ah hE 0 [] [] (kp [1,5,6,7,8,9,13,14,15]) (kq [0]) 17 pn ?_
 refine ah hE 2 [] [] (kp [1,5,6,7,8,9,13,14,15,35]) (kq [0]) 81 pn ?_
 refine dK 0 35 h (fun qq h=>?_) (fun qq h=>?_)
 ·refine ah hE 0 [] [] (kp [1,5,6,7,8,9,13,14,15]) (kq [0]) 97 pn ?_
  exact dh hE 0 [] (kp [1,5,6,7,8,9,13,14,15]) (kq [0]) 1 pn (xS N _ _ _ _ _ _ oV _ _ h E hE)
 ·exact dh hE 1 [] (kp [1,5,6,7,8,9,13,14,15]) (kq [0]) 1 pn (xS N _ _ _ _ _ _ oV _ _ h E hE)
theorem EJ (N a b fuel):tR N a b (gH N a b fuel):=by
 induction fuel with
 | zero=>intro _ _ _ r h;rw [gH.eq_1] at h;cases h
 | succ fuel ih =>
  intro out borrow x r h E hE
  rw [gH.eq_2] at h
  refine ah hE 1 [] [] (kp [1,5,6,13,14,15,16]) (kq [0]) 17 pn ?_
  refine dK 1 16 h (fun dQ h=>?_) (fun dQ h=>?_)
  ·obtain ⟨c2,h⟩:=ab h
   refine ah hE 4 [] [] (kp [1,5,6,7,8,13,14,15]) (kq [0]) 97 (pc c2 pn) ?_
   refine ah hE 1 [] [] (kp [1,5,7,8,9,13,14,15]) (kq [0]) 129 pn ?_
   refine ah hE 2 [] [] (kp [1,5,7,8,9,13,14,15,24]) (kq [0]) 193 pn ?_
   refine dK 0 24 h (fun iZ h=>?_) (fun iZ h=>?_)
   ·obtain ⟨c3,h⟩:=ab h
    refine ah hE 0 [] [] (kp [1,5,7,8,9,13,14,15]) (kq [0]) 321 (pc c3 pn) ?_
    exact dh hE 1 [] (kp [1,5,7,8,9,13,14,15]) (kq [0]) 1 pn (xT N _ _ _ _ _ ih _ _ h E hE)
   ·exact dh hE 2 [] (kp [1,5,7,8,9,13,14,15]) (kq [0]) 1 pn (xT N _ _ _ _ _ ih _ _ h E hE)
  ·obtain ⟨b7,hr,h⟩:=bq h
   refine ah hE 2 [(1,⟨[],true,(eU b7),[],0,true,none⟩)] [] (kp [4]) [] 65 (pc (eb _ _ _ hr) (pc (z1 out.length) pn)) ?_
   obtain rfl:=dj h
   exact dw hE 0 Tryz.f60 [] (kp [4]) [] 65 pn [] pn
theorem xm (N a b r) (h:pD N a b=some r):Sd 60 [(eU a),(eU b)] [] 0 (eU r) []:=by
 unfold pD at h
 refine gX (fu:=Tryz.f60) (c:=Dw 1) (nt:=50) (fun hm=>rfl) ?_
 intro E hE
 refine ah hE 1 [] [] (kp [0,1]) [] 16 pn ?_
 obtain ⟨c,h⟩:=ab h
 refine ah hE 1 [] [] (kp [0,1] ++ [(5,.lO ((List.replicate a.length 0:List Int).length))]) [(48,.arr 48 ((List.replicate a.length 0:List Int).length) (fun zi=>(cU .u16) ((List.replicate a.length 0:List Int).getD zi 0)))] 80 (pc (show 0≤((a.length:Nat):Int) from c.1) (pc (show ((a.length:Nat):Int)≤((a.length:Nat):Int) from (Int.le_refl _)) (pc (show (2:Int) * ((a.length:Nat):Int)≤281474976710656 from c.2.1) (pc (show ((a.length:Nat):Int)≤9223372036854775807 from c.2.2) (pc (show a.length=(List.replicate a.length 0:List Int).length from (de).symm) (pc (show a.length=(List.replicate a.length 0:List Int).length from (de).symm) (pc (show ∀ zi,zi < (List.replicate a.length 0:List Int).length→(fun zi=>(cU .u16) ((List.replicate a.length 0:List Int).getD zi 0)) zi=(fun _=>[(wO 0)]) zi from (fun zq j8=>qQ (cU .u16) 0 0 a.length zq j8)) pn))))))) ?_
 refine ah hE 1 [] [] (kp [0,1,5,6]) (kq [48]) 96 pn ?_
 refine ah hE 2 [] [] (kp [1,5,6,13,14,15]) (kq [48]) 144 pn ?_
 exact dh hE 2 [] (kp [1,5,6,13,14,15]) [(0,.ai 48)] 1 pn (EJ N _ _ N _ _ _ _ h E hE)
noncomputable abbrev adi:=cy Tryz.f105
theorem Ni (N a b r) (h:BR N a b=some r):Sd 105 [(.agg (iv a)),(.agg (iv b))] [] 0 (.agg (iv r)) []:=by
 unfold BR at h
 refine gX (fu:=Tryz.f105) (c:=adi 1) (nt:=40) (fun hm=>rfl) ?_
 intro E hE
 refine ah hE 1 [] [] (kp [2,3,4]) (kq [0,16,32]) 48 pn ?_
 obtain ⟨b7,hr,h⟩:=bq h
 obtain ⟨gu,eW,h⟩:=bq h
 refine ah hE 1 [(2,oT (eU b7)),(5,oT (eU gu))] [] (kp [2,3,4,5,6]) (kq [0,16,32]) 176 (pc o1 (pc (eb _ _ _ hr) (pc o1 (pc (eb _ _ _ eW) pn)))) ?_
 refine ah hE 2 [] [] (kp [2,3,4,5,6,17]) (kq [0,16,32]) 256 (pc o1 (pc o1 pn)) ?_
 refine dK 0 17 h (fun dQ h=>?_) (fun dQ h=>?_)
 ·obtain ⟨xM,lL,h⟩:=bq h
  obtain ⟨JK,px,h⟩:=bq h
  refine ah hE 1 [(4,oT (eU xM)),(5,oT (.agg (iv JK)))] [] (kp [4]) (kq [32]) 368 (pc o1 (pc (D7 _ _ _ _ lL) (pc (gC _ _ _ _ px) (pc o1 pn)))) ?_
  obtain rfl:=dj h
  exact dw hE 0 Tryz.f105 [] (kp [4]) [(16,.ai 32)] 368 pn [16] (pc o1 pn)
 ·obtain ⟨j6,uI,h⟩:=bq h
  refine ah hE 3 [(2,oT (aI j6))] [] (kp [2,3,4,5,6,27]) (kq [0,16,32]) 320 (pc (yP _ _ _ _ uI) pn) ?_
  refine dK 0 27 h (fun iZ h=>?_) (fun iZ h=>?_)
  ·obtain ⟨o7,yT,h⟩:=bq h
   obtain ⟨AX,Ag,h⟩:=bq h
   refine ah hE 1 [(4,oT (eU o7)),(5,oT (.agg (iv AX)))] [] (kp [4]) (kq [32]) 432 (pc o1 (pc (xm _ _ _ _ yT) (pc (gC _ _ _ _ Ag) (pc o1 pn)))) ?_
   obtain rfl:=dj h
   exact dw hE 0 Tryz.f105 [] (kp [4]) [(16,.ai 32)] 432 pn [16] (pc o1 pn)
  ·obtain ⟨xg,HT,h⟩:=bq h
   obtain ⟨XT,HS,h⟩:=bq h
   refine ah hE 2 [(4,oT (eU xg)),(5,oT (.agg (iv XT)))] [] (kp [4]) (kq [32]) 432 (pc o1 (pc (xm _ _ _ _ HT) (pc (gC _ _ _ _ HS) (pc o1 pn)))) ?_
   obtain rfl:=dj h
   exact dw hE 0 Tryz.f105 [] (kp [4]) [(16,.ai 32)] 432 pn [16] (pc o1 pn)
noncomputable abbrev adj:=cy Tryz.f68
theorem eJ (N x y r) (h:dn N x y=some r):Sd 68 [(.agg (ag x)),(.agg (ag y))] [] 0 (.agg (ag r)) []:=by
 unfold dn at h
 refine gX (fu:=Tryz.f68) (c:=adj 1) (nt:=32) (fun hm=>rfl) ?_
 intro E hE
 refine ah hE 1 [] [] (kp [2,3,4]) (kq [0,16,32]) 48 pn ?_
 obtain ⟨eS,hr,h⟩:=bq h
 refine ah hE 2 [(1,oT (aB eS))] [] (kp [2,3,4,8]) (kq [0,16,32]) 80 (pc o1 (pc (gD _ _ _ hr) pn)) ?_
 refine dK 0 8 h (fun dQ h=>?_) (fun dQ h=>?_)
 ·obtain ⟨jB,eW,h⟩:=bq h
  refine ah hE 1 [(1,oT (.agg (ag jB)))] [] (kp [4]) (kq [32]) 128 (pc o1 (pc (mA _ _ _ eW) (pc o1 pn))) ?_
  obtain rfl:=dj h
  exact dw hE 0 Tryz.f68 [] (kp [4]) [(16,.ai 32)] 128 pn [16] (pc o1 pn)
 ·obtain ⟨tL,lL,h⟩:=bq h
  refine ah hE 3 [(1,oT (aB tL))] [] (kp [2,3,4,12]) (kq [0,16,32]) 112 (pc o1 (pc (gD _ _ _ lL) pn)) ?_
  refine dK 0 12 h (fun iZ h=>?_) (fun iZ h=>?_)
  ·obtain ⟨df,px,h⟩:=bq h
   refine ah hE 1 [(1,oT (.agg (ag df)))] [] (kp [4]) (kq [32]) 160 (pc o1 (pc (mA _ _ _ px) (pc o1 pn))) ?_
   obtain rfl:=dj h
   exact dw hE 0 Tryz.f68 [] (kp [4]) [(16,.ai 32)] 160 pn [16] (pc o1 pn)
  ·obtain ⟨jA,uI,h⟩:=bq h
   obtain ⟨oO,yT,h⟩:=bq h
   refine ah hE 2 [(1,oT (.agg (iv jA))),(3,oT (.agg (iv oO)))] [] (kp [2,3,4,5,6]) (kq [0,16,32,176,192]) 240 (pc o1 (pc (jH _ _ _ uI) (pc o1 (pc (jH _ _ _ yT) (pc o1 (pc o1 pn)))))) ?_
   obtain ⟨xh,Ag,h⟩:=bq h
   obtain ⟨pY,HT,h⟩:=bq h
   obtain ⟨M9,HS,h⟩:=bq h
   obtain ⟨F7,A4,h⟩:=bq h
   obtain ⟨CC,GH,h⟩:=bq h
   refine ah hE 1 [(3,oT (.agg (iv xh))),(7,oT (.agg (iv pY))),(8,oT (.agg (iv M9))),(11,oT (.agg (iv F7))),(12,oT (.agg (ag CC)))] [] (kp [4]) (kq [32]) 464 (pc o1 (pc o1 (pc (pa _ _ _ _ Ag) (pc o1 (pc o1 (pc (pa _ _ _ _ HT) (pc (Ni _ _ _ _ HS) (pc o1 (pc o1 (pc (pa _ _ _ _ A4) (pc (jn _ _ _ _ GH) (pc o1 pn)))))))))))) ?_
   obtain rfl:=dj h
   exact dw hE 0 Tryz.f68 [] (kp [4]) [(16,.ai 32)] 464 pn [16] (pc o1 pn)
noncomputable abbrev adk:=cy Tryz.f56
theorem mB (N x y r) (h:ll N x y=some r):Sd 56 [(.agg (ag x)),(.agg (ag y))] [] 0 (.agg (ag r)) []:=by
 unfold ll at h
 refine gX (fu:=Tryz.f56) (c:=adk 1) (nt:=9) (fun hm=>rfl) ?_
 intro E hE
 refine ah hE 1 [] [] (kp [2,3,4]) (kq [0,16,32]) 48 pn ?_
 obtain ⟨aR,hr,h⟩:=bq h
 obtain ⟨a9,eW,h⟩:=bq h
 refine ah hE 1 [(2,oT (.agg (ag aR))),(3,oT (.agg (ag a9)))] [] (kp [4]) (kq [32]) 128 (pc o1 (pc o1 (pc (gW _ _ _ hr) (pc (eJ _ _ _ _ eW) (pc o1 pn))))) ?_
 obtain rfl:=dj h
 exact dw hE 0 Tryz.f56 [] (kp [4]) [(16,.ai 32)] 128 pn [16] (pc o1 pn)
noncomputable abbrev adl:=cy Tryz.f23
theorem lr (N x y r) (h:gI N x y=some r):Sd 23 [(.agg (ag x)),(.agg (ag y))] [] 0 (aI r) []:=by
 unfold gI at h
 refine gX (fu:=Tryz.f23) (c:=adl 1) (nt:=9) (fun hm=>rfl) ?_
 intro E hE
 refine ah hE 1 [] [] (kp [2,3]) (kq [0,16]) 48 pn ?_
 obtain ⟨dc,hr,h⟩:=bq h
 obtain ⟨an,eW,h⟩:=bq h
 refine ah hE 1 [(2,oT (.agg (ag dc))),(3,oT (aI an))] [] (kp [4]) [] 128 (pc o1 (pc o1 (pc (mB _ _ _ _ hr) (pc (iH _ _ _ eW) pn)))) ?_
 obtain rfl:=dj h
 exact dw hE 0 Tryz.f23 [] (kp [4]) [] 128 pn [] pn
noncomputable abbrev adn:=cy Tryz.f109
theorem uK (N x y r) (h:ru N x y=some r):Sd 109 [(.agg (ag x)),(.agg (ag y))] [] 0 (.agg (ag r)) []:=by
 unfold ru at h
 refine gX (fu:=Tryz.f109) (c:=adn 1) (nt:=16) (fun hm=>rfl) ?_
 intro E hE
 refine ah hE 1 [] [] (kp [2,3,4]) (kq [0,16,32]) 48 pn ?_
 obtain ⟨jA,hr,h⟩:=bq h
 obtain ⟨xh,eW,h⟩:=bq h
 obtain ⟨oO,lL,h⟩:=bq h
 obtain ⟨pY,px,h⟩:=bq h
 obtain ⟨CC,uI,h⟩:=bq h
 refine ah hE 1 [(3,oT (.agg (iv jA))),(4,oT (.agg (iv xh))),(6,oT (.agg (iv oO))),(9,oT (.agg (iv pY))),(10,oT (.agg (ag CC)))] [] (kp [4]) (kq [32]) 240 (pc o1 (pc o1 (pc (jH _ _ _ hr) (pc (pa _ _ _ _ eW) (pc o1 (pc (jH _ _ _ lL) (pc o1 (pc (pa _ _ _ _ px) (pc (jn _ _ _ _ uI) (pc o1 pn)))))))))) ?_
 obtain rfl:=dj h
 exact dw hE 0 Tryz.f109 [] (kp [4]) [(16,.ai 32)] 240 pn [16] (pc o1 pn)
noncomputable abbrev ado:=cy Tryz.f69
theorem eK (N x y r) (h:dy N x y=some r):Sd 69 [(.agg (ag x)),(.agg (ag y))] [] 0 (.agg (ag r)) []:=by
 unfold dy at h
 refine gX (fu:=Tryz.f69) (c:=ado 1) (nt:=16) (fun hm=>rfl) ?_
 intro E hE
 refine ah hE 1 [] [] (kp [2,3,4]) (kq [0,16,32]) 48 pn ?_
 obtain ⟨xh,hr,h⟩:=bq h
 obtain ⟨jA,eW,h⟩:=bq h
 obtain ⟨oO,lL,h⟩:=bq h
 obtain ⟨pY,px,h⟩:=bq h
 obtain ⟨CC,uI,h⟩:=bq h
 refine ah hE 1 [(4,oT (.agg (iv xh))),(6,oT (.agg (iv jA))),(8,oT (.agg (iv oO))),(9,oT (.agg (iv pY))),(10,oT (.agg (ag CC)))] [] (kp [4]) (kq [32]) 240 (pc o1 (pc o1 (pc (pa _ _ _ _ hr) (pc o1 (pc (jH _ _ _ eW) (pc o1 (pc (jH _ _ _ lL) (pc (pa _ _ _ _ px) (pc (jn _ _ _ _ uI) (pc o1 pn)))))))))) ?_
 obtain rfl:=dj h
 exact dw hE 0 Tryz.f69 [] (kp [4]) [(16,.ai 32)] 240 pn [16] (pc o1 pn)
noncomputable abbrev Se:=cy Tryz.f110
def rH (N:Nat) (j:Int) (f:aa) (C0:List aa) (K:(List aa)→Int→Option ((List aa))):Prop:=∀ (bd:List aa) (x:Int) (r:(List aa)),K bd x=some r→∀ E,aQ E 1→aw Tryz.prog E 110 49 (aY E [(0,aO 4 ag aa.d r)] (.tup [])) [.code (Se 28),.inLoop (Se 28),.inBlock 0] ⟨[(1,(.os 0 0 bd.length)),(2,(.os 0 0 bd.length)),(3,(aI j)),(9,(.op 1 0 0)),(12,(aI ((C0.length:Nat):Int))),(13,(aI x))],[(0,aO 4 ag aa.d bd),(1,vO 4 (ag f))],2⟩
def yY (N:Nat) (j:Int) (f:aa) (C0:List aa) (x:Int) (K:(List aa)→Option ((List aa))):Prop:=∀ (bZ:List aa) (r:(List aa)),K bZ=some r→∀ E,aQ E 1→aw Tryz.prog E 110 49 (aY E [(0,aO 4 ag aa.d r)] (.tup [])) [.code (Se 231),.inLoop (Se 28),.inBlock 0] ⟨[(1,(.os 0 0 bZ.length)),(2,(.os 0 0 bZ.length)),(3,(aI j)),(9,(.op 1 0 0)),(12,(aI ((C0.length:Nat):Int))),(13,(aI x))],[(0,aO 4 ag aa.d bZ),(1,vO 4 (ag f))],2⟩
theorem mJ (N:Nat) (j:Int) (f:aa) (C0:List aa) (x:Int) (kZ:(List aa)→Int→Option ((List aa))) (x7:rH N j f C0 kZ):yY N j f C0 x (j7 N j f C0 x kZ):=by
 intro bZ r h E hE
 unfold j7 at h
 refine ah hE 0 [] [] (kp [1,2,3,9,12,13]) (kq [0,1]) 34 pn ?_
 exact dh hE 1 [] (kp [1,2,3,9,12,13]) (kq [0,1]) 2 pn (x7 _ _ _ h E hE)
theorem x8 (N j f C0 fuel):rH N j f C0 (fZ N j f C0 fuel):=by
 induction fuel with
 | zero=>intro _ _ r h;rw [fZ.eq_1] at h;cases h
 | succ fuel ih =>
  intro bd x r h E hE
  rw [fZ.eq_2] at h
  refine ah hE 1 [] [] (kp [1,2,3,9,12,13,14]) (kq [0,1]) 18 pn ?_
  refine dK 1 14 h (fun dQ h=>?_) (fun dQ h=>?_)
  ·refine ah hE 4 [] [] (kp [1,2,3,9,10,12,13]) (kq [0,1]) 50 pn ?_
   refine ah hE 1 [] [] (kp [1,2,3,9,10,12,13,18]) (kq [0,1]) 98 pn ?_
   refine dK 0 18 h (fun iZ h=>?_) (fun iZ h=>?_)
   ·obtain ⟨c,h⟩:=ab h
    obtain ⟨cb,hr,h⟩:=bq h
    refine ah hE 0 [(7,oT (.agg (ag cb)))] [] ([(1,.lO ((bd.set ((x).toNat) cb).length)),(2,.lO ((bd.set ((x).toNat) cb).length))] ++ kp [3,9,12,13]) ([(0,.arr 0 ((bd.set ((x).toNat) cb).length) (fun zi=>ag ((bd.set ((x).toNat) cb).getD zi aa.d)))] ++ kq [1]) 258 (pc o1 (pc c (pc (dm c) (pc (eK _ _ _ _ hr) (pc c (pc (dm c) (pc (aG bd ((x).toNat) cb) (pc (aG bd ((x).toNat) cb) (pc (aG bd ((x).toNat) cb) (pc (cH ag aa.d bd ((x).toNat) cb) pn)))))))))) ?_
    exact dh hE 1 [] (kp [1,2,3,9,12,13]) (kq [0,1]) 2 pn (mJ N _ _ _ _ _ ih _ _ h E hE)
   ·obtain ⟨c2,h⟩:=ab h
    obtain ⟨eS,eW,h⟩:=bq h
    refine ah hE 1 [(4,oT (aB eS))] [] (kp [1,2,3,9,10,12,13,33]) (kq [0,1]) 194 (pc c2 (pc (dm c2) (pc (gD _ _ _ eW) pn))) ?_
    refine dK 0 33 h (fun qq h=>?_) (fun qq h=>?_)
    ·obtain ⟨gJ,lL,h⟩:=bq h
     obtain ⟨a9,px,h⟩:=bq h
     refine ah hE 0 [(11,oT (.agg (ag gJ))),(12,oT (.agg (ag a9)))] [] ([(1,.lO ((bd.set ((x).toNat) a9).length)),(2,.lO ((bd.set ((x).toNat) a9).length))] ++ kp [3,9,12,13]) ([(0,.arr 0 ((bd.set ((x).toNat) a9).length) (fun zi=>ag ((bd.set ((x).toNat) a9).getD zi aa.d)))] ++ kq [1]) 434 (pc c2 (pc (dm c2) (pc o1 (pc c2 (pc (dm c2) (pc (eK _ _ _ _ lL) (pc (eJ _ _ _ _ px) (pc c2 (pc (dm c2) (pc (aG bd ((x).toNat) a9) (pc (aG bd ((x).toNat) a9) (pc (aG bd ((x).toNat) a9) (pc (cH ag aa.d bd ((x).toNat) a9) pn))))))))))))) ?_
     exact dh hE 1 [] (kp [1,2,3,9,12,13]) (kq [0,1]) 2 pn (mJ N _ _ _ _ _ ih _ _ h E hE)
    ·exact dh hE 2 [] (kp [1,2,3,9,12,13]) (kq [0,1]) 2 pn (mJ N _ _ _ _ _ ih _ _ h E hE)
  ·obtain rfl:=dj h
   exact rnF hE 1 Tryz.f110 [] [] (kq [0]) 49 pn [] pn
theorem A5 (N j f C0 r) (h:sd N j f C0=some r):Sd 110 [.mV,(.os 0 0 C0.length),(.os 0 0 C0.length),(aI j),(.agg (ag f))] [(0,aO 4 ag aa.d C0)] 1 (.tup []) [(0,aO 4 ag aa.d r)]:=by
 unfold sd at h
 refine gX (fu:=Tryz.f110) (c:=Se 1) (nt:=49) (fun hm=>absurd hm (by decide)) ?_
 intro E hE
 refine ah hE 1 [] [] (kp [1,2,3,9]) (kq [0,1]) 17 pn ?_
 refine ah hE 1 [] [] (kp [1,2,3,9,12,13]) (kq [0,1]) 65 pn ?_
 exact dh hE 2 [] (kp [1,2,3,9,12,13]) (kq [0,1]) 2 pn (x8 N _ _ _ N _ _ _ h E hE)
noncomputable abbrev Sf:=cy Tryz.f110
def pK (N:Nat) (j:Int) (f:aa) (C0:List aa) (C1:List aa) (K:(List aa)→Int→Option ((List aa))):Prop:=∀ (bd:List aa) (x:Int) (r:(List aa)),K bd x=some r→∀ E,aQ E 2→aw Tryz.prog E 110 49 (aY E [(0,aO 4 ag aa.d r),(1,aO 4 ag aa.d C1)] (.tup [])) [.code (Sf 28),.inLoop (Sf 28),.inBlock 0] ⟨[(1,(.os 0 0 bd.length)),(2,(.os 1 0 C1.length)),(3,(aI j)),(9,(.op 2 0 0)),(12,(aI ((C0.length:Nat):Int))),(13,(aI x))],[(0,aO 4 ag aa.d bd),(1,aO 4 ag aa.d C1),(2,vO 4 (ag f))],3⟩
def v8 (N:Nat) (j:Int) (f:aa) (C0:List aa) (C1:List aa) (x:Int) (K:(List aa)→Option ((List aa))):Prop:=∀ (bZ:List aa) (r:(List aa)),K bZ=some r→∀ E,aQ E 2→aw Tryz.prog E 110 49 (aY E [(0,aO 4 ag aa.d r),(1,aO 4 ag aa.d C1)] (.tup [])) [.code (Sf 231),.inLoop (Sf 28),.inBlock 0] ⟨[(1,(.os 0 0 bZ.length)),(2,(.os 1 0 C1.length)),(3,(aI j)),(9,(.op 2 0 0)),(12,(aI ((C0.length:Nat):Int))),(13,(aI x))],[(0,aO 4 ag aa.d bZ),(1,aO 4 ag aa.d C1),(2,vO 4 (ag f))],3⟩
theorem lu (N:Nat) (j:Int) (f:aa) (C0:List aa) (C1:List aa) (x:Int) (jf:(List aa)→Int→Option ((List aa))) (vd:pK N j f C0 C1 jf):v8 N j f C0 C1 x (fF N j f C0 C1 x jf):=by
 intro bZ r h E hE
 unfold fF at h
 refine ah hE 0 [] [] (kp [1,2,3,9,12,13]) (kq [0,1,2]) 35 pn ?_
 exact dh hE 1 [] (kp [1,2,3,9,12,13]) (kq [0,1,2]) 3 pn (vd _ _ _ h E hE)
theorem ve (N j f C0 C1 fuel):pK N j f C0 C1 (cW N j f C0 C1 fuel):=by
 induction fuel with
 | zero=>intro _ _ r h;rw [cW.eq_1] at h;cases h
 | succ fuel ih =>
  intro bd x r h E hE
  rw [cW.eq_2] at h
  refine ah hE 1 [] [] (kp [1,2,3,9,12,13,14]) (kq [0,1,2]) 19 pn ?_
  refine dK 1 14 h (fun dQ h=>?_) (fun dQ h=>?_)
  ·refine ah hE 4 [] [] (kp [1,2,3,9,10,12,13]) (kq [0,1,2]) 51 pn ?_
   refine ah hE 1 [] [] (kp [1,2,3,9,10,12,13,18]) (kq [0,1,2]) 99 pn ?_
   refine dK 0 18 h (fun iZ h=>?_) (fun iZ h=>?_)
   ·obtain ⟨c,h⟩:=ab h
    obtain ⟨cb,hr,h⟩:=bq h
    obtain ⟨c2,h⟩:=ab h
    refine ah hE 0 [(7,oT (.agg (ag cb)))] [] ([(1,.lO ((bd.set ((x).toNat) cb).length))] ++ kp [2,3,9,12,13]) ([(0,.arr 0 ((bd.set ((x).toNat) cb).length) (fun zi=>ag ((bd.set ((x).toNat) cb).getD zi aa.d)))] ++ kq [1,2]) 259 (pc o1 (pc c (pc (dm c) (pc (eK _ _ _ _ hr) (pc c2 (pc (dm c2) (pc (aG bd ((x).toNat) cb) (pc (aG bd ((x).toNat) cb) (pc (cH ag aa.d bd ((x).toNat) cb) pn))))))))) ?_
    exact dh hE 1 [] (kp [1,2,3,9,12,13]) (kq [0,1,2]) 3 pn (lu N _ _ _ _ _ _ ih _ _ h E hE)
   ·obtain ⟨c3,h⟩:=ab h
    obtain ⟨eS,eW,h⟩:=bq h
    refine ah hE 1 [(4,oT (aB eS))] [] (kp [1,2,3,9,10,12,13,33]) (kq [0,1,2]) 195 (pc c3 (pc (dm c3) (pc (gD _ _ _ eW) pn))) ?_
    refine dK 0 33 h (fun qq h=>?_) (fun qq h=>?_)
    ·obtain ⟨c4,h⟩:=ab h
     obtain ⟨gJ,lL,h⟩:=bq h
     obtain ⟨a9,px,h⟩:=bq h
     refine ah hE 0 [(11,oT (.agg (ag gJ))),(12,oT (.agg (ag a9)))] [] ([(1,.lO ((bd.set ((x).toNat) a9).length))] ++ kp [2,3,9,12,13]) ([(0,.arr 0 ((bd.set ((x).toNat) a9).length) (fun zi=>ag ((bd.set ((x).toNat) a9).getD zi aa.d)))] ++ kq [1,2]) 435 (pc c4 (pc (dm c4) (pc o1 (pc c3 (pc (dm c3) (pc (eK _ _ _ _ lL) (pc (eJ _ _ _ _ px) (pc c4 (pc (dm c4) (pc (aG bd ((x).toNat) a9) (pc (aG bd ((x).toNat) a9) (pc (cH ag aa.d bd ((x).toNat) a9) pn)))))))))))) ?_
     exact dh hE 1 [] (kp [1,2,3,9,12,13]) (kq [0,1,2]) 3 pn (lu N _ _ _ _ _ _ ih _ _ h E hE)
    ·exact dh hE 2 [] (kp [1,2,3,9,12,13]) (kq [0,1,2]) 3 pn (lu N _ _ _ _ _ _ ih _ _ h E hE)
  ·obtain rfl:=dj h
   exact rnF hE 1 Tryz.f110 [] [] (kq [0,1]) 50 pn [] pn
theorem mK (N j f C0 C1 r) (h:ik N j f C0 C1=some r):Sd 110 [.mV,(.os 0 0 C0.length),(.os 1 0 C1.length),(aI j),(.agg (ag f))] [(0,aO 4 ag aa.d C0),(1,aO 4 ag aa.d C1)] 2 (.tup []) [(0,aO 4 ag aa.d r),(1,aO 4 ag aa.d C1)]:=by
 unfold ik at h
 refine gX (fu:=Tryz.f110) (c:=Sf 1) (nt:=49) (fun hm=>absurd hm (by decide)) ?_
 intro E hE
 refine ah hE 1 [] [] (kp [1,2,3,9]) (kq [0,1,2]) 18 pn ?_
 refine ah hE 1 [] [] (kp [1,2,3,9,12,13]) (kq [0,1,2]) 66 pn ?_
 exact dh hE 2 [] (kp [1,2,3,9,12,13]) (kq [0,1,2]) 3 pn (ve N _ _ _ _ N _ _ _ h E hE)
noncomputable abbrev B5:=cy Tryz.f74
def qd (N:Nat) (i:Int) (j:Int) (C0:Int) (bd:Int) (bZ:Bool) (cL:List Int) (cO:Bool) (cP:List Int) (cg:Int) (C1:List Int) (C2:List Int) (C3:List (List aa)) (C4:List aa) (C5:List aa) (K:(List aa)→Int→Option (jq×(List Int)×(List Int)×(List (List aa))×(List aa)×(List aa))):Prop:=∀ (tM:List aa) (x:Int) (r:jq×(List Int)×(List Int)×(List (List aa))×(List aa)×(List aa)),K tM x=some r→∀ E,aQ E 6→aw Tryz.prog E 74 194 (aY E [(0,vN 12 [(aI r.1.tk),(aI r.1.tl),(.os 1 0 r.2.1.length),(.os 2 0 r.2.2.1.length),(.os 3 0 r.2.2.2.1.length),(.os 4 0 r.2.2.2.2.1.length),(.os 5 0 r.2.2.2.2.2.length),(aB r.1.af.fN.fG),(eU r.1.af.fN.fL),(aB r.1.af.fD.fG),(eU r.1.af.fD.fL),(aI r.1.bI)]),(1,aO 1 cI 0 r.2.1),(2,aO 1 cI 0 r.2.2.1),(3,aM 4 ag aa.d r.2.2.2.1),(4,aO 4 ag aa.d r.2.2.2.2.1),(5,aO 4 ag aa.d r.2.2.2.2.2)] (.tup [])) [.code (B5 116),.inLoop (B5 116),.inBlock 0,.code (B5 15)] ⟨[(0,(.op 0 0 0)),(1,(aI i)),(2,(aI j)),(6,(.op 7 0 0)),(7,(.os 6 0 tM.length)),(30,(aI (((C3.getD ((i).toNat) []).length:Nat):Int))),(31,(aI x))],[(0,vN 12 [(aI C0),(aI bd),(.os 1 0 C1.length),(.os 2 0 C2.length),(.os 3 0 C3.length),(.os 4 0 C4.length),(.os 5 0 C5.length),(aB bZ),(eU cL),(aB cO),(eU cP),(aI cg)]),(1,aO 1 cI 0 C1),(2,aO 1 cI 0 C2),(3,⟨false,1,C3.length,false,bk [((i).toNat,6,tM.length)] (mG C3)⟩),(4,aO 4 ag aa.d C4),(5,aO 4 ag aa.d C5),(6,aO 4 ag aa.d tM),(7,vO 4 [(aB ((((C3.getD ((i).toNat) []).getD ((j).toNat) aa.d).fN).fG)),(eU ((((C3.getD ((i).toNat) []).getD ((j).toNat) aa.d).fN).fL)),(aB ((((C3.getD ((i).toNat) []).getD ((j).toNat) aa.d).fD).fG)),(eU ((((C3.getD ((i).toNat) []).getD ((j).toNat) aa.d).fD).fL))])],8⟩
def xn (N:Nat) (i:Int) (j:Int) (C0:Int) (bd:Int) (bZ:Bool) (cL:List Int) (cO:Bool) (cP:List Int) (cg:Int) (C1:List Int) (C2:List Int) (C3:List (List aa)) (C4:List aa) (C5:List aa) (x:Int) (K:(List aa)→Option (jq×(List Int)×(List Int)×(List (List aa))×(List aa)×(List aa))):Prop:=∀ (F8:List aa) (r:jq×(List Int)×(List Int)×(List (List aa))×(List aa)×(List aa)),K F8=some r→∀ E,aQ E 6→aw Tryz.prog E 74 194 (aY E [(0,vN 12 [(aI r.1.tk),(aI r.1.tl),(.os 1 0 r.2.1.length),(.os 2 0 r.2.2.1.length),(.os 3 0 r.2.2.2.1.length),(.os 4 0 r.2.2.2.2.1.length),(.os 5 0 r.2.2.2.2.2.length),(aB r.1.af.fN.fG),(eU r.1.af.fN.fL),(aB r.1.af.fD.fG),(eU r.1.af.fD.fL),(aI r.1.bI)]),(1,aO 1 cI 0 r.2.1),(2,aO 1 cI 0 r.2.2.1),(3,aM 4 ag aa.d r.2.2.2.1),(4,aO 4 ag aa.d r.2.2.2.2.1),(5,aO 4 ag aa.d r.2.2.2.2.2)] (.tup [])) [.code (B5 935),.inLoop (B5 116),.inBlock 0,.code (B5 15)] ⟨[(0,(.op 0 0 0)),(1,(aI i)),(2,(aI j)),(6,(.op 7 0 0)),(7,(.os 6 0 F8.length)),(30,(aI (((C3.getD ((i).toNat) []).length:Nat):Int))),(31,(aI x))],[(0,vN 12 [(aI C0),(aI bd),(.os 1 0 C1.length),(.os 2 0 C2.length),(.os 3 0 C3.length),(.os 4 0 C4.length),(.os 5 0 C5.length),(aB bZ),(eU cL),(aB cO),(eU cP),(aI cg)]),(1,aO 1 cI 0 C1),(2,aO 1 cI 0 C2),(3,⟨false,1,C3.length,false,bk [((i).toNat,6,F8.length)] (mG C3)⟩),(4,aO 4 ag aa.d C4),(5,aO 4 ag aa.d C5),(6,aO 4 ag aa.d F8),(7,vO 4 [(aB ((((C3.getD ((i).toNat) []).getD ((j).toNat) aa.d).fN).fG)),(eU ((((C3.getD ((i).toNat) []).getD ((j).toNat) aa.d).fN).fL)),(aB ((((C3.getD ((i).toNat) []).getD ((j).toNat) aa.d).fD).fG)),(eU ((((C3.getD ((i).toNat) []).getD ((j).toNat) aa.d).fD).fL))])],8⟩
theorem pL (N:Nat) (i:Int) (j:Int) (C0:Int) (bd:Int) (bZ:Bool) (cL:List Int) (cO:Bool) (cP:List Int) (cg:Int) (C1:List Int) (C2:List Int) (C3:List (List aa)) (C4:List aa) (C5:List aa) (x:Int) (jD:(List aa)→Int→Option (jq×(List Int)×(List Int)×(List (List aa))×(List aa)×(List aa))) (v9:qd N i j C0 bd bZ cL cO cP cg C1 C2 C3 C4 C5 jD):xn N i j C0 bd bZ cL cO cP cg C1 C2 C3 C4 C5 x (iQ N i j C0 bd bZ cL cO cP cg C1 C2 C3 C4 C5 x jD):=by
 intro F8 r h E hE
 unfold iQ at h
 refine ah hE 0 [] [] (kp [0,1,2,6,7,30,31]) (kq [0,1,2] ++ [(3,.po 3 (C3.length) [((i).toNat,6,F8.length)] (mG C3))] ++ kq [4,5,6,7]) 40 (pc (Eq.refl C3.length) (pc (mC C3 [((i).toNat,6,F8.length)]) (pc (iM C3) pn))) ?_
 exact dh hE 1 [] (kp [0,1,2,6,7,30,31]) (kq [0,1,2] ++ [(3,.po 3 (C3.length) [((i).toNat,6,F8.length)] (mG C3))] ++ kq [4,5,6,7]) 8 (pc (Eq.refl C3.length) (pc (mC C3 [((i).toNat,6,F8.length)]) (pc (iM C3) pn))) (v9 _ _ _ h E hE)
def qe (N:Nat) (i:Int) (j:Int) (C0:Int) (bd:Int) (bZ:Bool) (cL:List Int) (cO:Bool) (cP:List Int) (cg:Int) (C1:List Int) (C2:List Int) (C3:List (List aa)) (C5:List aa) (K:(List (List aa))→(List aa)→(List aa)→Int→Option (jq×(List Int)×(List Int)×(List (List aa))×(List aa)×(List aa))):Prop:=∀ (cd:List (List aa)) (b9:List aa) (mW:List aa) (x2:Int) (r:jq×(List Int)×(List Int)×(List (List aa))×(List aa)×(List aa)),K cd b9 mW x2=some r→∀ E,aQ E 6→aw Tryz.prog E 74 194 (aY E [(0,vN 12 [(aI r.1.tk),(aI r.1.tl),(.os 1 0 r.2.1.length),(.os 2 0 r.2.2.1.length),(.os 3 0 r.2.2.2.1.length),(.os 4 0 r.2.2.2.2.1.length),(.os 5 0 r.2.2.2.2.2.length),(aB r.1.af.fN.fG),(eU r.1.af.fN.fL),(aB r.1.af.fD.fG),(eU r.1.af.fD.fL),(aI r.1.bI)]),(1,aO 1 cI 0 r.2.1),(2,aO 1 cI 0 r.2.2.1),(3,aM 4 ag aa.d r.2.2.2.1),(4,aO 4 ag aa.d r.2.2.2.2.1),(5,aO 4 ag aa.d r.2.2.2.2.2)] (.tup [])) [.code (B5 1012),.inLoop (B5 1012),.inBlock 2,.code (B5 127)] ⟨[(0,(.op 0 0 0)),(1,(aI i)),(2,(aI j)),(7,(.os 6 0 b9.length)),(74,(aI ((C3.length:Nat):Int))),(75,(aI x2))],[(0,vN 12 [(aI C0),(aI bd),(.os 1 0 C1.length),(.os 2 0 C2.length),(.os 3 0 cd.length),(.os 4 0 mW.length),(.os 5 0 C5.length),(aB bZ),(eU cL),(aB cO),(eU cP),(aI cg)]),(1,aO 1 cI 0 C1),(2,aO 1 cI 0 C2),(3,⟨false,1,cd.length,false,bk [((i).toNat,6,b9.length)] (mG cd)⟩),(4,aO 4 ag aa.d mW),(5,aO 4 ag aa.d C5),(6,aO 4 ag aa.d b9)],7⟩
def xp (N:Nat) (i:Int) (j:Int) (C0:Int) (bd:Int) (bZ:Bool) (cL:List Int) (cO:Bool) (cP:List Int) (cg:Int) (C1:List Int) (C2:List Int) (C3:List (List aa)) (C5:List aa) (x2:Int) (K:(List (List aa))→(List aa)→(List aa)→Option (jq×(List Int)×(List Int)×(List (List aa))×(List aa)×(List aa))):Prop:=∀ (js:List (List aa)) (F9:List aa) (mI:List aa) (r:jq×(List Int)×(List Int)×(List (List aa))×(List aa)×(List aa)),K js F9 mI=some r→∀ E,aQ E 6→aw Tryz.prog E 74 194 (aY E [(0,vN 12 [(aI r.1.tk),(aI r.1.tl),(.os 1 0 r.2.1.length),(.os 2 0 r.2.2.1.length),(.os 3 0 r.2.2.2.1.length),(.os 4 0 r.2.2.2.2.1.length),(.os 5 0 r.2.2.2.2.2.length),(aB r.1.af.fN.fG),(eU r.1.af.fN.fL),(aB r.1.af.fD.fG),(eU r.1.af.fD.fL),(aI r.1.bI)]),(1,aO 1 cI 0 r.2.1),(2,aO 1 cI 0 r.2.2.1),(3,aM 4 ag aa.d r.2.2.2.1),(4,aO 4 ag aa.d r.2.2.2.2.1),(5,aO 4 ag aa.d r.2.2.2.2.2)] (.tup [])) [.code (B5 8103),.inLoop (B5 1012),.inBlock 2,.code (B5 127)] ⟨[(0,(.op 0 0 0)),(1,(aI i)),(2,(aI j)),(7,(.os 6 0 F9.length)),(74,(aI ((C3.length:Nat):Int))),(75,(aI x2))],[(0,vN 12 [(aI C0),(aI bd),(.os 1 0 C1.length),(.os 2 0 C2.length),(.os 3 0 js.length),(.os 4 0 mI.length),(.os 5 0 C5.length),(aB bZ),(eU cL),(aB cO),(eU cP),(aI cg)]),(1,aO 1 cI 0 C1),(2,aO 1 cI 0 C2),(3,⟨false,1,js.length,false,bk [((i).toNat,6,F9.length)] (mG js)⟩),(4,aO 4 ag aa.d mI),(5,aO 4 ag aa.d C5),(6,aO 4 ag aa.d F9)],7⟩
theorem gq (N:Nat) (i:Int) (j:Int) (C0:Int) (bd:Int) (bZ:Bool) (cL:List Int) (cO:Bool) (cP:List Int) (cg:Int) (C1:List Int) (C2:List Int) (C3:List (List aa)) (C5:List aa) (x2:Int) (jE:(List (List aa))→(List aa)→(List aa)→Int→Option (jq×(List Int)×(List Int)×(List (List aa))×(List aa)×(List aa))) (wa:qe N i j C0 bd bZ cL cO cP cg C1 C2 C3 C5 jE):xp N i j C0 bd bZ cL cO cP cg C1 C2 C3 C5 x2 (dD N i j C0 bd bZ cL cO cP cg C1 C2 C3 C5 x2 jE):=by
 intro js F9 mI r h E hE
 unfold dD at h
 refine ah hE 0 [] [] (kp [0,1,2,7,74,75]) (kq [0,1,2] ++ [(3,.po 3 (js.length) [((i).toNat,6,F9.length)] (mG js))] ++ kq [4,5,6]) 39 (pc (Eq.refl js.length) (pc (mC js [((i).toNat,6,F9.length)]) (pc (iM js) pn))) ?_
 exact dh hE 1 [] (kp [0,1,2,7,74,75]) (kq [0,1,2] ++ [(3,.po 3 (js.length) [((i).toNat,6,F9.length)] (mG js))] ++ kq [4,5,6]) 7 (pc (Eq.refl js.length) (pc (mC js [((i).toNat,6,F9.length)]) (pc (iM js) pn))) (wa _ _ _ _ _ h E hE)
def xq (N:Nat) (i:Int) (j:Int) (C0:Int) (bd:Int) (cg:Int) (C1:List Int) (C2:List Int) (cd:List (List aa)) (b9:List aa) (mW:List aa) (K:(List aa)→Bool→(List Int)→Bool→(List Int)→Option (jq×(List Int)×(List Int)×(List (List aa))×(List aa)×(List aa))):Prop:=∀ (fk:List aa) (il:Bool) (mX:List Int) (pP:Bool) (pQ:List Int) (r:jq×(List Int)×(List Int)×(List (List aa))×(List aa)×(List aa)),K fk il mX pP pQ=some r→∀ E,aQ E 6→aw Tryz.prog E 74 194 (aY E [(0,vN 12 [(aI r.1.tk),(aI r.1.tl),(.os 1 0 r.2.1.length),(.os 2 0 r.2.2.1.length),(.os 3 0 r.2.2.2.1.length),(.os 4 0 r.2.2.2.2.1.length),(.os 5 0 r.2.2.2.2.2.length),(aB r.1.af.fN.fG),(eU r.1.af.fN.fL),(aB r.1.af.fD.fG),(eU r.1.af.fD.fL),(aI r.1.bI)]),(1,aO 1 cI 0 r.2.1),(2,aO 1 cI 0 r.2.2.1),(3,aM 4 ag aa.d r.2.2.2.1),(4,aO 4 ag aa.d r.2.2.2.2.1),(5,aO 4 ag aa.d r.2.2.2.2.2)] (.tup [])) [.code (B5 255)] ⟨[(0,(.op 0 0 0)),(1,(aI i)),(2,(aI j))],[(0,vN 12 [(aI C0),(aI bd),(.os 1 0 C1.length),(.os 2 0 C2.length),(.os 3 0 ((cd.set ((i).toNat) b9).length)),(.os 4 0 mW.length),(.os 5 0 fk.length),(aB il),(eU mX),(aB pP),(eU pQ),(aI cg)]),(1,aO 1 cI 0 C1),(2,aO 1 cI 0 C2),(3,aM 4 ag aa.d (cd.set ((i).toNat) b9)),(4,aO 4 ag aa.d mW),(5,aO 4 ag aa.d fk)],6⟩
theorem pM (N i j C0 bd cg C1 C2 cd b9 mW):xq N i j C0 bd cg C1 C2 cd b9 mW (gi N i j C0 bd cg C1 C2 cd b9 mW):=by
 intro fk il mX pP pQ r h E hE
 unfold gi at h
 obtain ⟨XZ,h⟩:=ab h
 obtain ⟨c28,h⟩:=ab h
 refine ah hE 0 [] [] [] ([(0,.var 0 [.ai,.ai,.lO ((C1.set ((i).toNat) (C2.getD ((j).toNat) 0)).length),.lO ((C2.set ((j).toNat) (C1.getD ((i).toNat) 0)).length),.ai,.ai,.ai,.ai,.ai,.ai,.ai,.ai]),(1,.arr 1 ((C1.set ((i).toNat) (C2.getD ((j).toNat) 0)).length) (fun zi=>cI ((C1.set ((i).toNat) (C2.getD ((j).toNat) 0)).getD zi 0))),(2,.arr 2 ((C2.set ((j).toNat) (C1.getD ((i).toNat) 0)).length) (fun zi=>cI ((C2.set ((j).toNat) (C1.getD ((i).toNat) 0)).getD zi 0)))] ++ kq [3,4,5]) 454 (pc o1 (pc o1 (pc o1 (pc XZ (pc (dm XZ) (pc o1 (pc c28 (pc (dm c28) (pc c28 (pc (dm c28) (pc XZ (pc (dm XZ) (pc (aG C1 ((i).toNat) (C2.getD ((j).toNat) 0)) (pc (aG C2 ((j).toNat) (C1.getD ((i).toNat) 0)) (pc (aG C1 ((i).toNat) (C2.getD ((j).toNat) 0)) (pc (cH cI 0 C1 ((i).toNat) (C2.getD ((j).toNat) 0)) (pc (aG C2 ((j).toNat) (C1.getD ((i).toNat) 0)) (pc (cH cI 0 C2 ((j).toNat) (C1.getD ((i).toNat) 0)) pn)))))))))))))))))) ?_
 obtain rfl:=dj h
 exact rnF hE 0 Tryz.f74 [] [] (kq [0,1,2,3,4,5]) 454 pn [] pn
theorem wb (N i j C0 bd bZ cL cO cP cg C1 C2 C3 C5 fuel):qe N i j C0 bd bZ cL cO cP cg C1 C2 C3 C5 (cw N i j C0 bd bZ cL cO cP cg C1 C2 C3 C5 fuel):=by
 induction fuel with
 | zero=>intro _ _ _ _ r h;rw [cw.eq_1] at h;cases h
 | succ fuel ih =>
  intro cd b9 mW x2 r h E hE
  rw [cw.eq_2] at h
  refine ah hE 1 [] [] (kp [0,1,2,7,74,75,76]) (kq [0,1,2] ++ [(3,.po 3 (cd.length) [((i).toNat,6,b9.length)] (mG cd))] ++ kq [4,5,6]) 23 (pc (Eq.refl cd.length) (pc (mC cd [((i).toNat,6,b9.length)]) (pc (iM cd) pn))) ?_
  refine dK 1 76 h (fun qq h=>?_) (fun qq h=>?_)
  ·refine ah hE 4 [] [] (kp [0,1,2,7,9,74,75]) (kq [0,1,2] ++ [(3,.po 3 (cd.length) [((i).toNat,6,b9.length)] (mG cd))] ++ kq [4,5,6]) 55 (pc (Eq.refl cd.length) (pc (mC cd [((i).toNat,6,b9.length)]) (pc (iM cd) pn))) ?_
   rcases condSplit h with ⟨hA,h⟩ | ⟨hA,h⟩
   ·obtain ⟨c9,h⟩:=ab h
    obtain ⟨Sc,h⟩:=ab h
    refine ah hE 1 [(6,oF (.os 6 0 b9.length))] [] (kp [0,1,2,7,9,10,74,75]) (kq [0,1,2] ++ [(3,.po 3 (cd.length) [((i).toNat,6,b9.length)] (mG cd))] ++ kq [4,5,6,215]) 247 (pc o1 (pc c9 (pc (dm c9) (pc (show (bk [((i).toNat,6,b9.length)] (mG cd) ((x2).toNat))[0]?=some (.os 6 0 b9.length) from (gO (oG hA))) (pc Sc (pc (dm Sc) (pc o1 (pc (Eq.refl cd.length) (pc (mC cd [((i).toNat,6,b9.length)]) (pc (iM cd) pn)))))))))) ?_
    obtain ⟨eS,Ag,h⟩:=bq h
    refine ah hE 1 [(5,oT (aB eS))] [] (kp [0,1,2,7,9,10,74,75,95]) (kq [0,1,2] ++ [(3,.po 3 (cd.length) [((i).toNat,6,b9.length)] (mG cd))] ++ kq [4,5,6,215]) 375 (pc (fun hg:(x2 != i)=true=>(pc o1 pn)) (pc (fun hg:(x2 != i)=true=>(pc (gD _ _ _ (ax Ag hg)) (pc hg pn))) (pc (fun hg:(x2 != i)=true=>(pc hg pn)) (pc (fun hq:(x2 != i)=true=>(pc hq pn)) (pc (Eq.refl cd.length) (pc (mC cd [((i).toNat,6,b9.length)]) (pc (iM cd) pn))))))) ?_
    refine dK 0 95 h (fun Eu h=>?_) (fun Eu h=>?_)
    ·obtain ⟨Mj,h⟩:=ab h
     obtain ⟨Sa,h⟩:=ab h
     obtain ⟨cb,HT,h⟩:=bq h
     obtain ⟨a9,HS,h⟩:=bq h
     refine ah hE 1 [(20,oT (.agg (ag cb))),(21,oT (.agg (ag a9)))] [] (kp [0,1,2,7,9,10,74,75]) ([(0,.var 0 [.ai,.ai,.ai,.ai,.ai,.lO ((mW.set ((x2).toNat) a9).length),.ai,.ai,.ai,.ai,.ai,.ai])] ++ kq [1,2] ++ [(3,.po 3 (cd.length) [((i).toNat,6,b9.length)] (mG cd)),(4,.arr 4 ((mW.set ((x2).toNat) a9).length) (fun zi=>ag ((mW.set ((x2).toNat) a9).getD zi aa.d)))] ++ kq [5,6,215]) 759 (pc o1 (pc o1 (pc Mj (pc (dm Mj) (pc o1 (pc o1 (pc Sa (pc (dm Sa) (pc (eK _ _ _ _ HT) (pc (eJ _ _ _ _ HS) (pc Mj (pc (dm Mj) (pc (aG mW ((x2).toNat) a9) (pc (Eq.refl cd.length) (pc (mC cd [((i).toNat,6,b9.length)]) (pc (iM cd) (pc (aG mW ((x2).toNat) a9) (pc (cH ag aa.d mW ((x2).toNat) a9) pn)))))))))))))))))) ?_
     rcases condSplit h with ⟨X0,h⟩ | ⟨X0,h⟩
     ·obtain ⟨HP,A4,h⟩:=bq h
      obtain ⟨Ng,h⟩:=ab h
      refine ah hE 0 [(7,oF (.os 6 0 b9.length)),(11,⟨[6],false,(.tup []),[(0,aO 4 ag aa.d HP)],0,false,none⟩)] [] (kp [0,1,2] ++ [(7,.lO (HP.length))] ++ kp [74,75]) (kq [0,1,2] ++ [(3,.po 3 (cd.length) [((i).toNat,6,HP.length)] (mG cd))] ++ kq [4,5,6]) 951 (pc o1 (pc c9 (pc (dm c9) (pc (show (bk [((i).toNat,6,b9.length)] (mG cd) ((x2).toNat))[0]?=some (.os 6 0 b9.length) from (gO (oG X0))) (pc o1 (pc (A5 _ _ _ _ _ A4) (pc (show b9.length=HP.length from (Eq.symm Ng)) (pc (Eq.refl cd.length) (pc (show ∀ zm,zm < cd.length→bk [((i).toNat,6,HP.length)] (mG cd) zm=bk [((i).toNat,6,b9.length)] (mG cd) zm from (fun zm _=>(congrArg (fun zn=>bk [((i).toNat,6,zn)] (mG cd) zm) (Eq.symm (Eq.symm Ng))))) (pc (iM cd) pn)))))))))) ?_
      exact dh hE 1 [] (kp [0,1,2,7,74,75]) (kq [0,1,2] ++ [(3,.po 3 (cd.length) [((i).toNat,6,HP.length)] (mG cd))] ++ kq [4,5,6]) 7 (pc (Eq.refl cd.length) (pc (mC cd [((i).toNat,6,HP.length)]) (pc (iM cd) pn))) (gq N _ _ _ _ _ _ _ _ _ _ _ _ _ _ _ ih _ _ _ _ h E hE)
     ·obtain ⟨QA,h⟩:=ab h
      refine RU 3 ((x2).toNat) 4 ((cd.getD ((x2).toNat) []).length) (fun zi=>ag ((cd.getD ((x2).toNat) []).getD zi aa.d)) (pc QA (pc (show bk [((i).toNat,6,b9.length)] (mG cd) ((x2).toNat)=mR 4 ag aa.d (cd.getD ((x2).toNat) []) from (if_neg (lB X0))) pn)) ?_
      obtain ⟨ni,GH,h⟩:=bq h
      obtain ⟨Y0,h⟩:=ab h
      refine ah hE 0 [(7,oF (.os 759 0 ((cd.getD ((x2).toNat) []).length))),(11,⟨[759,6],false,(.tup []),[(0,aO 4 ag aa.d ni),(1,aO 4 ag aa.d b9)],0,false,none⟩)] [] (kp [0,1,2,7,74,75]) (kq [0,1,2] ++ [(3,.po 3 (cd.length) [((x2).toNat,759,ni.length),((i).toNat,6,b9.length)] (mG cd))] ++ kq [4,5,6,759]) 967 (pc o1 (pc c9 (pc (dm c9) (pc (show (bk [((x2).toNat,759,(cd.getD ((x2).toNat) []).length),((i).toNat,6,b9.length)] (mG cd) ((x2).toNat))[0]?=some (.os 759 0 ((cd.getD ((x2).toNat) []).length)) from (gO rfl)) (pc o1 (pc (mK _ _ _ _ _ _ GH) (pc (Eq.refl cd.length) (pc (show ∀ zm,zm < cd.length→bk [((x2).toNat,759,ni.length),((i).toNat,6,b9.length)] (mG cd) zm=bk [((x2).toNat,759,(cd.getD ((x2).toNat) []).length),((i).toNat,6,b9.length)] (mG cd) zm from (fun zm _=>(congrArg (fun zn=>bk [((x2).toNat,759,zn),((i).toNat,6,b9.length)] (mG cd) zm) (Eq.symm (Eq.symm Y0))))) (pc (iM cd) pn))))))))) ?_
      refine PN 3 759 ((x2).toNat) (pc QA (pc (show bk [((x2).toNat,759,ni.length),((i).toNat,6,b9.length)] (mG cd) ((x2).toNat)=[.os 759 0 ni.length] from if_pos rfl) (pc (show ∀ zj,zj < ni.length→mP (ag (ni.getD zj aa.d))=true from fun _ _=>rfl) pn))) ?_
      refine Kt hE [] (kp [0,1,2,7,74,75]) ([(0,.var 0 [.ai,.ai,.ai,.ai,.lO ((cd.set ((x2).toNat) ni).length),.ai,.ai,.ai,.ai,.ai,.ai,.ai])] ++ kq [1,2] ++ [(3,.po 3 ((cd.set ((x2).toNat) ni).length) [((i).toNat,6,b9.length)] (mG (cd.set ((x2).toNat) ni)))] ++ kq [4,5,6]) 967 (pc (aG cd ((x2).toNat) ni) (pc (aG cd ((x2).toNat) ni) (pc (BO (sz:=4) (c:=ag) (d:=aa.d) cd ((x2).toNat) 759 ni.length ni [((i).toNat,6,b9.length)] QA (neC (Ne.symm (lB X0)) Dh)) (pc (iM (cd.set ((x2).toNat) ni)) pn)))) ?_
      exact dh hE 1 [] (kp [0,1,2,7,74,75]) (kq [0,1,2] ++ [(3,.po 3 ((cd.set ((x2).toNat) ni).length) [((i).toNat,6,b9.length)] (mG (cd.set ((x2).toNat) ni)))] ++ kq [4,5,6]) 7 (pc (Eq.refl ((cd.set ((x2).toNat) ni).length)) (pc (mC (cd.set ((x2).toNat) ni) [((i).toNat,6,b9.length)]) (pc (iM (cd.set ((x2).toNat) ni)) pn))) (gq N _ _ _ _ _ _ _ _ _ _ _ _ _ _ _ ih _ _ _ _ h E hE)
    ·exact dh hE 2 [] (kp [0,1,2,7,74,75]) (kq [0,1,2] ++ [(3,.po 3 (cd.length) [((i).toNat,6,b9.length)] (mG cd))] ++ kq [4,5,6]) 7 (pc (Eq.refl cd.length) (pc (mC cd [((i).toNat,6,b9.length)]) (pc (iM cd) pn))) (gq N _ _ _ _ _ _ _ _ _ _ _ _ _ _ _ ih _ _ _ _ h E hE)
   ·obtain ⟨Sb,h⟩:=ab h
    refine RU 3 ((x2).toNat) 4 ((cd.getD ((x2).toNat) []).length) (fun zi=>ag ((cd.getD ((x2).toNat) []).getD zi aa.d)) (pc Sb (pc (show bk [((i).toNat,6,b9.length)] (mG cd) ((x2).toNat)=mR 4 ag aa.d (cd.getD ((x2).toNat) []) from (if_neg (lB hA))) pn)) ?_
    obtain ⟨c18,h⟩:=ab h
    obtain ⟨c19,h⟩:=ab h
    refine ah hE 1 [(6,oF (.os 55 0 ((cd.getD ((x2).toNat) []).length)))] [] (kp [0,1,2,7,9,10,74,75]) (kq [0,1,2] ++ [(3,.po 3 (cd.length) [((x2).toNat,55,(cd.getD ((x2).toNat) []).length),((i).toNat,6,b9.length)] (mG cd))] ++ kq [4,5,6,55,231]) 263 (pc o1 (pc c18 (pc (dm c18) (pc (show (bk [((x2).toNat,55,(cd.getD ((x2).toNat) []).length),((i).toNat,6,b9.length)] (mG cd) ((x2).toNat))[0]?=some (.os 55 0 ((cd.getD ((x2).toNat) []).length)) from (gO rfl)) (pc c19 (pc (dm c19) (pc o1 (pc (Eq.refl cd.length) (pc (mC cd [((x2).toNat,55,(cd.getD ((x2).toNat) []).length),((i).toNat,6,b9.length)]) (pc (iM cd) pn)))))))))) ?_
    refine PN 3 55 ((x2).toNat) (pc Sb (pc (show bk [((x2).toNat,55,(cd.getD ((x2).toNat) []).length),((i).toNat,6,b9.length)] (mG cd) ((x2).toNat)=[.os 55 0 (cd.getD ((x2).toNat) []).length] from if_pos rfl) (pc (show ∀ zj,zj < (cd.getD ((x2).toNat) []).length→mP (ag ((cd.getD ((x2).toNat) []).getD zj aa.d))=true from fun _ _=>rfl) pn))) ?_
    refine Kt hE [] (kp [0,1,2,7,9,10,74,75]) (kq [0,1,2] ++ [(3,.po 3 (cd.length) [((i).toNat,6,b9.length)] (mG cd))] ++ kq [4,5,6,231]) 263 (pc (Eq.refl (cd.length)) (pc (ri (sz:=4) (c:=ag) (d:=aa.d) cd ((x2).toNat) 55 ((cd.getD ((x2).toNat) []).length) [((i).toNat,6,b9.length)] (neC (Ne.symm (lB hA)) Dh)) (pc (iM cd) pn))) ?_
    obtain ⟨tL,Nj,h⟩:=bq h
    refine ah hE 1 [(5,oT (aB tL))] [] (kp [0,1,2,7,9,10,74,75,95]) (kq [0,1,2] ++ [(3,.po 3 (cd.length) [((i).toNat,6,b9.length)] (mG cd))] ++ kq [4,5,6,231]) 391 (pc (fun hg:(x2 != i)=true=>(pc o1 pn)) (pc (fun hg:(x2 != i)=true=>(pc (gD _ _ _ (ax Nj hg)) (pc hg pn))) (pc (fun hg:(x2 != i)=true=>(pc hg pn)) (pc (fun hq:(x2 != i)=true=>(pc hq pn)) (pc (Eq.refl cd.length) (pc (mC cd [((i).toNat,6,b9.length)]) (pc (iM cd) pn))))))) ?_
    refine dK 0 95 h (fun Nf h=>?_) (fun Nf h=>?_)
    ·obtain ⟨c20,h⟩:=ab h
     obtain ⟨c21,h⟩:=ab h
     obtain ⟨gJ,Nk,h⟩:=bq h
     obtain ⟨dg,Nl,h⟩:=bq h
     refine ah hE 1 [(20,oT (.agg (ag gJ))),(21,oT (.agg (ag dg)))] [] (kp [0,1,2,7,9,10,74,75]) ([(0,.var 0 [.ai,.ai,.ai,.ai,.ai,.lO ((mW.set ((x2).toNat) dg).length),.ai,.ai,.ai,.ai,.ai,.ai])] ++ kq [1,2] ++ [(3,.po 3 (cd.length) [((i).toNat,6,b9.length)] (mG cd)),(4,.arr 4 ((mW.set ((x2).toNat) dg).length) (fun zi=>ag ((mW.set ((x2).toNat) dg).getD zi aa.d)))] ++ kq [5,6,231]) 775 (pc o1 (pc o1 (pc c20 (pc (dm c20) (pc o1 (pc o1 (pc c21 (pc (dm c21) (pc (eK _ _ _ _ Nk) (pc (eJ _ _ _ _ Nl) (pc c20 (pc (dm c20) (pc (aG mW ((x2).toNat) dg) (pc (Eq.refl cd.length) (pc (mC cd [((i).toNat,6,b9.length)]) (pc (iM cd) (pc (aG mW ((x2).toNat) dg) (pc (cH ag aa.d mW ((x2).toNat) dg) pn)))))))))))))))))) ?_
     refine RU 3 ((x2).toNat) 4 ((cd.getD ((x2).toNat) []).length) (fun zi=>ag ((cd.getD ((x2).toNat) []).getD zi aa.d)) (pc Sb (pc (show bk [((i).toNat,6,b9.length)] (mG cd) ((x2).toNat)=mR 4 ag aa.d (cd.getD ((x2).toNat) []) from (if_neg (lB hA))) pn)) ?_
     obtain ⟨nj,Sg,h⟩:=bq h
     obtain ⟨c22,h⟩:=ab h
     refine ah hE 0 [(7,oF (.os 775 0 ((cd.getD ((x2).toNat) []).length))),(11,⟨[775,6],false,(.tup []),[(0,aO 4 ag aa.d nj),(1,aO 4 ag aa.d b9)],0,false,none⟩)] [] (kp [0,1,2,7,74,75]) (kq [0,1,2] ++ [(3,.po 3 (cd.length) [((x2).toNat,775,nj.length),((i).toNat,6,b9.length)] (mG cd))] ++ kq [4,5,6,775]) 983 (pc o1 (pc c18 (pc (dm c18) (pc (show (bk [((x2).toNat,775,(cd.getD ((x2).toNat) []).length),((i).toNat,6,b9.length)] (mG cd) ((x2).toNat))[0]?=some (.os 775 0 ((cd.getD ((x2).toNat) []).length)) from (gO rfl)) (pc o1 (pc (mK _ _ _ _ _ _ Sg) (pc (Eq.refl cd.length) (pc (show ∀ zm,zm < cd.length→bk [((x2).toNat,775,nj.length),((i).toNat,6,b9.length)] (mG cd) zm=bk [((x2).toNat,775,(cd.getD ((x2).toNat) []).length),((i).toNat,6,b9.length)] (mG cd) zm from (fun zm _=>(congrArg (fun zn=>bk [((x2).toNat,775,zn),((i).toNat,6,b9.length)] (mG cd) zm) (Eq.symm (Eq.symm c22))))) (pc (iM cd) pn))))))))) ?_
     refine PN 3 775 ((x2).toNat) (pc Sb (pc (show bk [((x2).toNat,775,nj.length),((i).toNat,6,b9.length)] (mG cd) ((x2).toNat)=[.os 775 0 nj.length] from if_pos rfl) (pc (show ∀ zj,zj < nj.length→mP (ag (nj.getD zj aa.d))=true from fun _ _=>rfl) pn))) ?_
     refine Kt hE [] (kp [0,1,2,7,74,75]) ([(0,.var 0 [.ai,.ai,.ai,.ai,.lO ((cd.set ((x2).toNat) nj).length),.ai,.ai,.ai,.ai,.ai,.ai,.ai])] ++ kq [1,2] ++ [(3,.po 3 ((cd.set ((x2).toNat) nj).length) [((i).toNat,6,b9.length)] (mG (cd.set ((x2).toNat) nj)))] ++ kq [4,5,6]) 983 (pc (aG cd ((x2).toNat) nj) (pc (aG cd ((x2).toNat) nj) (pc (BO (sz:=4) (c:=ag) (d:=aa.d) cd ((x2).toNat) 775 nj.length nj [((i).toNat,6,b9.length)] Sb (neC (Ne.symm (lB hA)) Dh)) (pc (iM (cd.set ((x2).toNat) nj)) pn)))) ?_
     exact dh hE 1 [] (kp [0,1,2,7,74,75]) (kq [0,1,2] ++ [(3,.po 3 ((cd.set ((x2).toNat) nj).length) [((i).toNat,6,b9.length)] (mG (cd.set ((x2).toNat) nj)))] ++ kq [4,5,6]) 7 (pc (Eq.refl ((cd.set ((x2).toNat) nj).length)) (pc (mC (cd.set ((x2).toNat) nj) [((i).toNat,6,b9.length)]) (pc (iM (cd.set ((x2).toNat) nj)) pn))) (gq N _ _ _ _ _ _ _ _ _ _ _ _ _ _ _ ih _ _ _ _ h E hE)
    ·exact dh hE 2 [] (kp [0,1,2,7,74,75]) (kq [0,1,2] ++ [(3,.po 3 (cd.length) [((i).toNat,6,b9.length)] (mG cd))] ++ kq [4,5,6]) 7 (pc (Eq.refl cd.length) (pc (mC cd [((i).toNat,6,b9.length)]) (pc (iM cd) pn))) (gq N _ _ _ _ _ _ _ _ _ _ _ _ _ _ _ ih _ _ _ _ h E hE)
  ·obtain ⟨c23,h⟩:=ab h
   refine ah hE 3 [] [] (kp [0,1,2,7,11]) (kq [0,1,2] ++ [(3,.po 3 (cd.length) [((i).toNat,6,b9.length)] (mG cd))] ++ kq [4,5,6,135]) 167 (pc o1 (pc c23 (pc (dm c23) (pc o1 (pc (Eq.refl cd.length) (pc (mC cd [((i).toNat,6,b9.length)]) (pc (iM cd) pn))))))) ?_
   obtain ⟨Ga,X1,h⟩:=bq h
   refine ah hE 1 [(1,oT (aB Ga))] [] (kp [0,1,2,7,11,141]) (kq [0,1,2] ++ [(3,.po 3 (cd.length) [((i).toNat,6,b9.length)] (mG cd))] ++ kq [4,5,6,135]) 215 (pc o1 (pc (gD _ _ _ X1) (pc (Eq.refl cd.length) (pc (mC cd [((i).toNat,6,b9.length)]) (pc (iM cd) pn))))) ?_
   refine dK 0 141 h (fun hq7 h=>?_) (fun hq7 h=>?_)
   ·obtain ⟨Y1,h⟩:=ab h
    obtain ⟨Gb,X2,h⟩:=bq h
    obtain ⟨jt,X3,h⟩:=bq h
    refine ah hE 1 [(13,oT (.agg (ag Gb))),(14,oT (.agg (ag jt)))] [] (kp [0,1,2,7,11]) (kq [0,1,2] ++ [(3,.po 3 (cd.length) [((i).toNat,6,b9.length)] (mG cd))] ++ kq [4,5,6,135]) 503 (pc o1 (pc o1 (pc o1 (pc Y1 (pc (dm Y1) (pc (eK _ _ _ _ X2) (pc (eJ _ _ _ _ X3) (pc o1 (pc (Eq.refl cd.length) (pc (mC cd [((i).toNat,6,b9.length)]) (pc (iM cd) pn))))))))))) ?_
    obtain ⟨IU,X4,h⟩:=bq h
    obtain ⟨Y2,h⟩:=ab h
    refine ah hE 0 [(8,⟨[5,6],false,(.tup []),[(0,aO 4 ag aa.d IU),(1,aO 4 ag aa.d b9)],0,false,none⟩)] [] (kp [0,1,2]) ([(0,.var 0 [.ai,.ai,.ai,.ai,.ai,.ai,.lO (IU.length),.ai,.ai,.ai,.ai,.ai])] ++ kq [1,2] ++ [(3,.po 3 (cd.length) [((i).toNat,6,b9.length)] (mG cd))] ++ kq [4,5,6]) 647 (pc o1 (pc o1 (pc (mK _ _ _ _ _ _ X4) (pc (show C5.length=IU.length from (Eq.symm Y2)) (pc (Eq.refl cd.length) (pc (mC cd [((i).toNat,6,b9.length)]) (pc (iM cd) pn))))))) ?_
    obtain ⟨Y3,h⟩:=ab h
    refine PN 3 6 ((i).toNat) (pc Y3 (pc (show bk [((i).toNat,6,b9.length)] (mG cd) ((i).toNat)=[.os 6 0 b9.length] from if_pos rfl) (pc (show ∀ zj,zj < b9.length→mP (ag (b9.getD zj aa.d))=true from fun _ _=>rfl) pn))) ?_
    refine Kt hE [] (kp [0,1,2]) ([(0,.var 0 [.ai,.ai,.ai,.ai,.lO ((cd.set ((i).toNat) b9).length),.ai,.ai,.ai,.ai,.ai,.ai,.ai])] ++ kq [1,2] ++ [(3,.po 3 ((cd.set ((i).toNat) b9).length) [] (mG (cd.set ((i).toNat) b9)))] ++ kq [4,5]) 647 (pc (aG cd ((i).toNat) b9) (pc (aG cd ((i).toNat) b9) (pc (BO (sz:=4) (c:=ag) (d:=aa.d) cd ((i).toNat) 6 b9.length b9 [] Y3 Dh) (pc (iM (cd.set ((i).toNat) b9)) pn)))) ?_
    exact dh hE 0 [] (kp [0,1,2]) (kq [0,1,2,3,4,5]) 6 pn (pM N _ _ _ _ _ _ _ _ _ _ _ _ _ _ _ _ h E hE)
   ·obtain ⟨c29,h⟩:=ab h
    refine PN 3 6 ((i).toNat) (pc c29 (pc (show bk [((i).toNat,6,b9.length)] (mG cd) ((i).toNat)=[.os 6 0 b9.length] from if_pos rfl) (pc (show ∀ zj,zj < b9.length→mP (ag (b9.getD zj aa.d))=true from fun _ _=>rfl) pn))) ?_
    refine Kt hE [] (kp [0,1,2]) ([(0,.var 0 [.ai,.ai,.ai,.ai,.lO ((cd.set ((i).toNat) b9).length),.ai,.ai,.ai,.ai,.ai,.ai,.ai])] ++ kq [1,2] ++ [(3,.po 3 ((cd.set ((i).toNat) b9).length) [] (mG (cd.set ((i).toNat) b9)))] ++ kq [4,5,135]) 215 (pc (aG cd ((i).toNat) b9) (pc (aG cd ((i).toNat) b9) (pc (BO (sz:=4) (c:=ag) (d:=aa.d) cd ((i).toNat) 6 b9.length b9 [] c29 Dh) (pc (iM (cd.set ((i).toNat) b9)) pn)))) ?_
    exact dh hE 1 [] (kp [0,1,2]) (kq [0,1,2,3,4,5]) 6 pn (pM N _ _ _ _ _ _ _ _ _ _ _ _ _ _ _ _ h E hE)
theorem wc (N i j C0 bd bZ cL cO cP cg C1 C2 C3 C4 C5 fuel):qd N i j C0 bd bZ cL cO cP cg C1 C2 C3 C4 C5 (dE N i j C0 bd bZ cL cO cP cg C1 C2 C3 C4 C5 fuel):=by
 induction fuel with
 | zero=>intro _ _ r h;rw [dE.eq_1] at h;cases h
 | succ fuel ih =>
  intro tM x r h E hE
  rw [dE.eq_2] at h
  refine ah hE 1 [] [] (kp [0,1,2,6,7,30,31,32]) (kq [0,1,2] ++ [(3,.po 3 (C3.length) [((i).toNat,6,tM.length)] (mG C3))] ++ kq [4,5,6,7]) 24 (pc (Eq.refl C3.length) (pc (mC C3 [((i).toNat,6,tM.length)]) (pc (iM C3) pn))) ?_
  refine dK 1 32 h (fun dQ h=>?_) (fun dQ h=>?_)
  ·refine ah hE 4 [] [] (kp [0,1,2,6,7,8,30,31]) (kq [0,1,2] ++ [(3,.po 3 (C3.length) [((i).toNat,6,tM.length)] (mG C3))] ++ kq [4,5,6,7]) 56 (pc (Eq.refl C3.length) (pc (mC C3 [((i).toNat,6,tM.length)]) (pc (iM C3) pn))) ?_
   refine ah hE 1 [] [] (kp [0,1,2,6,7,8,30,31,36]) (kq [0,1,2] ++ [(3,.po 3 (C3.length) [((i).toNat,6,tM.length)] (mG C3))] ++ kq [4,5,6,7]) 104 (pc (Eq.refl C3.length) (pc (mC C3 [((i).toNat,6,tM.length)]) (pc (iM C3) pn))) ?_
   refine dK 0 36 h (fun iZ h=>?_) (fun iZ h=>?_)
   ·obtain ⟨c5,h⟩:=ab h
    obtain ⟨ku,hr,h⟩:=bq h
    obtain ⟨aR,eW,h⟩:=bq h
    refine ah hE 0 [(7,oT (.agg (ag ku))),(8,oT (.agg (ag aR)))] [] (kp [0,1,2,6] ++ [(7,.lO ((tM.set ((x).toNat) aR).length))] ++ kp [30,31]) (kq [0,1,2] ++ [(3,.po 3 (C3.length) [((i).toNat,6,(tM.set ((x).toNat) aR).length)] (mG C3))] ++ kq [4,5] ++ [(6,.arr 6 ((tM.set ((x).toNat) aR).length) (fun zi=>ag ((tM.set ((x).toNat) aR).getD zi aa.d)))] ++ kq [7]) 280 (pc c5 (pc (dm c5) (pc o1 (pc (uK _ _ _ _ hr) (pc (gW _ _ _ eW) (pc c5 (pc (dm c5) (pc (aG tM ((x).toNat) aR) (pc (Eq.refl C3.length) (pc (show ∀ zm,zm < C3.length→bk [((i).toNat,6,(tM.set ((x).toNat) aR).length)] (mG C3) zm=bk [((i).toNat,6,tM.length)] (mG C3) zm from (fun zm _=>(congrArg (fun zn=>bk [((i).toNat,6,zn)] (mG C3) zm) (Eq.symm (m7 rfl))))) (pc (iM C3) (pc (aG tM ((x).toNat) aR) (pc (cH ag aa.d tM ((x).toNat) aR) pn))))))))))))) ?_
    exact dh hE 1 [] (kp [0,1,2,6,7,30,31]) (kq [0,1,2] ++ [(3,.po 3 (C3.length) [((i).toNat,6,(tM.set ((x).toNat) aR).length)] (mG C3))] ++ kq [4,5,6,7]) 8 (pc (Eq.refl C3.length) (pc (mC C3 [((i).toNat,6,(tM.set ((x).toNat) aR).length)]) (pc (iM C3) pn))) (pL N _ _ _ _ _ _ _ _ _ _ _ _ _ _ _ _ ih _ _ h E hE)
   ·exact dh hE 2 [] (kp [0,1,2,6,7,30,31]) (kq [0,1,2] ++ [(3,.po 3 (C3.length) [((i).toNat,6,tM.length)] (mG C3))] ++ kq [4,5,6,7]) 8 (pc (Eq.refl C3.length) (pc (mC C3 [((i).toNat,6,tM.length)]) (pc (iM C3) pn))) (pL N _ _ _ _ _ _ _ _ _ _ _ _ _ _ _ _ ih _ _ h E hE)
  ·obtain ⟨ar,lL,h⟩:=bq h
   obtain ⟨kD,px,h⟩:=bq h
   obtain ⟨c6,h⟩:=ab h
   refine ah hE 2 [(2,oT (.agg (ag ar))),(4,oT (.agg (ag kD)))] [] (kp [0,1,2,6] ++ [(7,.lO ((tM.set ((j).toNat) kD).length))]) (kq [0,1,2] ++ [(3,.po 3 (C3.length) [((i).toNat,6,(tM.set ((j).toNat) kD).length)] (mG C3))] ++ kq [4,5] ++ [(6,.arr 6 ((tM.set ((j).toNat) kD).length) (fun zi=>ag ((tM.set ((j).toNat) kD).getD zi aa.d)))] ++ kq [7]) 136 (pc (cX _ _ _ lL) (pc o1 (pc (uK _ _ _ _ px) (pc c6 (pc (dm c6) (pc (aG tM ((j).toNat) kD) (pc (Eq.refl C3.length) (pc (show ∀ zm,zm < C3.length→bk [((i).toNat,6,(tM.set ((j).toNat) kD).length)] (mG C3) zm=bk [((i).toNat,6,tM.length)] (mG C3) zm from (fun zm _=>(congrArg (fun zn=>bk [((i).toNat,6,zn)] (mG C3) zm) (Eq.symm (m7 rfl))))) (pc (iM C3) (pc (aG tM ((j).toNat) kD) (pc (cH ag aa.d tM ((j).toNat) kD) pn))))))))))) ?_
   obtain ⟨c7,h⟩:=ab h
   obtain ⟨Na,uI,h⟩:=bq h
   obtain ⟨dL,yT,h⟩:=bq h
   refine ah hE 1 [(13,oT (.agg (ag Na))),(14,oT (.agg (ag dL)))] [] (kp [0,1,2,7]) ([(0,.var 0 [.ai,.ai,.ai,.ai,.ai,.lO ((C4.set ((i).toNat) dL).length),.ai,.ai,.ai,.ai,.ai,.ai])] ++ kq [1,2] ++ [(3,.po 3 (C3.length) [((i).toNat,6,(tM.set ((j).toNat) kD).length)] (mG C3)),(4,.arr 4 ((C4.set ((i).toNat) dL).length) (fun zi=>ag ((C4.set ((i).toNat) dL).getD zi aa.d)))] ++ kq [5,6]) 408 (pc o1 (pc o1 (pc c7 (pc (dm c7) (pc o1 (pc (uK _ _ _ _ uI) (pc (gW _ _ _ yT) (pc c7 (pc (dm c7) (pc (aG C4 ((i).toNat) dL) (pc (Eq.refl C3.length) (pc (mC C3 [((i).toNat,6,(tM.set ((j).toNat) kD).length)]) (pc (iM C3) (pc (aG C4 ((i).toNat) dL) (pc (cH ag aa.d C4 ((i).toNat) dL) pn))))))))))))))) ?_
   refine ah hE 2 [] [] (kp [0,1,2,7,74,75]) (kq [0,1,2] ++ [(3,.po 3 (C3.length) [((i).toNat,6,(tM.set ((j).toNat) kD).length)] (mG C3))] ++ kq [4,5,6]) 504 (pc o1 (pc (Eq.refl C3.length) (pc (mC C3 [((i).toNat,6,(tM.set ((j).toNat) kD).length)]) (pc (iM C3) pn)))) ?_
   exact dh hE 2 [] (kp [0,1,2,7,74,75]) (kq [0,1,2] ++ [(3,.po 3 (C3.length) [((i).toNat,6,(tM.set ((j).toNat) kD).length)] (mG C3))] ++ kq [4,5,6]) 7 (pc (Eq.refl C3.length) (pc (mC C3 [((i).toNat,6,(tM.set ((j).toNat) kD).length)]) (pc (iM C3) pn))) (wb N _ _ _ _ _ _ _ _ _ _ _ _ _ N _ _ _ _ _ h E hE)
theorem nz (N i j C0 bd bZ cL cO cP cg C1 C2 C3 C4 C5 r) (h:jg N i j C0 bd bZ cL cO cP cg C1 C2 C3 C4 C5=some r):Sd 74 [(.op 0 0 0),(aI i),(aI j)] [(0,vN 12 [(aI C0),(aI bd),(.os 1 0 C1.length),(.os 2 0 C2.length),(.os 3 0 C3.length),(.os 4 0 C4.length),(.os 5 0 C5.length),(aB bZ),(eU cL),(aB cO),(eU cP),(aI cg)]),(1,aO 1 cI 0 C1),(2,aO 1 cI 0 C2),(3,aM 4 ag aa.d C3),(4,aO 4 ag aa.d C4),(5,aO 4 ag aa.d C5)] 6 (.tup []) [(0,vN 12 [(aI r.1.tk),(aI r.1.tl),(.os 1 0 r.2.1.length),(.os 2 0 r.2.2.1.length),(.os 3 0 r.2.2.2.1.length),(.os 4 0 r.2.2.2.2.1.length),(.os 5 0 r.2.2.2.2.2.length),(aB r.1.af.fN.fG),(eU r.1.af.fN.fL),(aB r.1.af.fD.fG),(eU r.1.af.fD.fL),(aI r.1.bI)]),(1,aO 1 cI 0 r.2.1),(2,aO 1 cI 0 r.2.2.1),(3,aM 4 ag aa.d r.2.2.2.1),(4,aO 4 ag aa.d r.2.2.2.2.1),(5,aO 4 ag aa.d r.2.2.2.2.2)]:=by
 unfold jg at h
 refine gX (fu:=Tryz.f74) (c:=B5 1) (nt:=194) (fun hm=>absurd hm (by decide)) ?_
 intro E hE
 obtain ⟨c2,h⟩:=ab h
 refine RU 3 ((i).toNat) 4 ((C3.getD ((i).toNat) []).length) (fun zi=>ag ((C3.getD ((i).toNat) []).getD zi aa.d)) (pc c2 (pc (show bk [] (mG C3) ((i).toNat)=mR 4 ag aa.d (C3.getD ((i).toNat) []) from rfl) pn)) ?_
 obtain ⟨c3,h⟩:=ab h
 obtain ⟨c4,h⟩:=ab h
 refine ah hE 1 [(6,oF (.os 6 0 ((C3.getD ((i).toNat) []).length)))] [] (kp [0,1,2,6]) (kq [0,1,2] ++ [(3,.po 3 (C3.length) [((i).toNat,6,(C3.getD ((i).toNat) []).length)] (mG C3))] ++ kq [4,5,6,182]) 214 (pc o1 (pc c3 (pc (dm c3) (pc (show (bk [((i).toNat,6,(C3.getD ((i).toNat) []).length)] (mG C3) ((i).toNat))[0]?=some (.os 6 0 ((C3.getD ((i).toNat) []).length)) from (gO rfl)) (pc c4 (pc (dm c4) (pc o1 (pc (Eq.refl C3.length) (pc (mC C3 [((i).toNat,6,(C3.getD ((i).toNat) []).length)]) (pc (iM C3) pn)))))))))) ?_
 refine PN 3 6 ((i).toNat) (pc c2 (pc (show bk [((i).toNat,6,(C3.getD ((i).toNat) []).length)] (mG C3) ((i).toNat)=[.os 6 0 (C3.getD ((i).toNat) []).length] from if_pos rfl) (pc (show ∀ zj,zj < (C3.getD ((i).toNat) []).length→mP (ag ((C3.getD ((i).toNat) []).getD zj aa.d))=true from fun _ _=>rfl) pn))) ?_
 refine Kt hE [] (kp [0,1,2,6]) (kq [0,1,2] ++ [(3,.po 3 (C3.length) [] (mG C3))] ++ kq [4,5,182]) 214 (pc (Eq.refl (C3.length)) (pc (ri (sz:=4) (c:=ag) (d:=aa.d) C3 ((i).toNat) 6 ((C3.getD ((i).toNat) []).length) [] Dh) (pc (iM C3) pn))) ?_
 refine RU 3 ((i).toNat) 4 ((C3.getD ((i).toNat) []).length) (fun zi=>ag ((C3.getD ((i).toNat) []).getD zi aa.d)) (pc c2 (pc (show bk [] (mG C3) ((i).toNat)=mR 4 ag aa.d (C3.getD ((i).toNat) []) from rfl) pn)) ?_
 refine ah hE 1 [(6,oF (.os 214 0 ((C3.getD ((i).toNat) []).length)))] [] (kp [0,1,2,6,7]) (kq [0,1,2] ++ [(3,.po 3 (C3.length) [((i).toNat,214,(C3.getD ((i).toNat) []).length)] (mG C3))] ++ kq [4,5,182,214]) 358 (pc o1 (pc c3 (pc (dm c3) (pc (show (bk [((i).toNat,214,(C3.getD ((i).toNat) []).length)] (mG C3) ((i).toNat))[0]?=some (.os 214 0 ((C3.getD ((i).toNat) []).length)) from (gO rfl)) (pc (Eq.refl C3.length) (pc (mC C3 [((i).toNat,214,(C3.getD ((i).toNat) []).length)]) (pc (iM C3) pn))))))) ?_
 refine ah hE 2 [] [] (kp [0,1,2,6,7,30,31]) (kq [0,1,2] ++ [(3,.po 3 (C3.length) [((i).toNat,214,(C3.getD ((i).toNat) []).length)] (mG C3))] ++ kq [4,5,182,214]) 406 (pc (Eq.refl C3.length) (pc (mC C3 [((i).toNat,214,(C3.getD ((i).toNat) []).length)]) (pc (iM C3) pn))) ?_
 exact dh hE 2 [] (kp [0,1,2,6,7,30,31]) (kq [0,1,2] ++ [(3,.po 3 (C3.length) [((i).toNat,214,(C3.getD ((i).toNat) []).length)] (mG C3))] ++ kq [4,5] ++ [(6,.ai 214),(7,.ai 182)]) 8 (pc (Eq.refl C3.length) (pc (mC C3 [((i).toNat,214,(C3.getD ((i).toNat) []).length)]) (pc (iM C3) pn))) (wc N _ _ _ _ _ _ _ _ _ _ _ _ _ _ N _ _ _ h E hE)
noncomputable abbrev Nm:=cy Tryz.f80
def n7 (N:Nat) (C0:Int) (bd:Int) (bZ:Bool) (cL:List Int) (cO:Bool) (cP:List Int) (cg:Int) (C1:List Int) (C2:List Int) (C3:List (List aa)) (C4:List aa) (C5:List aa) (K:Int→Int→Option (Int)):Prop:=∀ (dJ:Int) (x:Int) (r:Int),K dJ x=some r→∀ E,aQ E 6→aw Tryz.prog E 80 46 (aY E [(0,vN 12 [(aI C0),(aI bd),(.os 1 0 C1.length),(.os 2 0 C2.length),(.os 3 0 C3.length),(.os 4 0 C4.length),(.os 5 0 C5.length),(aB bZ),(eU cL),(aB cO),(eU cP),(aI cg)]),(1,aO 1 cI 0 C1),(2,aO 1 cI 0 C2),(3,aM 4 ag aa.d C3),(4,aO 4 ag aa.d C4),(5,aO 4 ag aa.d C5)] (aI r)) [.code (Nm 116),.inLoop (Nm 116),.inBlock 0,.code (Nm 15)] ⟨[(0,(.op 0 0 0)),(3,(aI dJ)),(9,(aI ((C2.length:Nat):Int))),(10,(aI x))],[(0,vN 12 [(aI C0),(aI bd),(.os 1 0 C1.length),(.os 2 0 C2.length),(.os 3 0 C3.length),(.os 4 0 C4.length),(.os 5 0 C5.length),(aB bZ),(eU cL),(aB cO),(eU cP),(aI cg)]),(1,aO 1 cI 0 C1),(2,aO 1 cI 0 C2),(3,aM 4 ag aa.d C3),(4,aO 4 ag aa.d C4),(5,aO 4 ag aa.d C5)],6⟩
def ur (N:Nat) (C0:Int) (bd:Int) (bZ:Bool) (cL:List Int) (cO:Bool) (cP:List Int) (cg:Int) (C1:List Int) (C2:List Int) (C3:List (List aa)) (C4:List aa) (C5:List aa) (x:Int) (K:Int→Option (Int)):Prop:=∀ (yK:Int) (r:Int),K yK=some r→∀ E,aQ E 6→aw Tryz.prog E 80 46 (aY E [(0,vN 12 [(aI C0),(aI bd),(.os 1 0 C1.length),(.os 2 0 C2.length),(.os 3 0 C3.length),(.os 4 0 C4.length),(.os 5 0 C5.length),(aB bZ),(eU cL),(aB cO),(eU cP),(aI cg)]),(1,aO 1 cI 0 C1),(2,aO 1 cI 0 C2),(3,aM 4 ag aa.d C3),(4,aO 4 ag aa.d C4),(5,aO 4 ag aa.d C5)] (aI r)) [.code (Nm 935),.inLoop (Nm 116),.inBlock 0,.code (Nm 15)] ⟨[(0,(.op 0 0 0)),(3,(aI yK)),(9,(aI ((C2.length:Nat):Int))),(10,(aI x))],[(0,vN 12 [(aI C0),(aI bd),(.os 1 0 C1.length),(.os 2 0 C2.length),(.os 3 0 C3.length),(.os 4 0 C4.length),(.os 5 0 C5.length),(aB bZ),(eU cL),(aB cO),(eU cP),(aI cg)]),(1,aO 1 cI 0 C1),(2,aO 1 cI 0 C2),(3,aM 4 ag aa.d C3),(4,aO 4 ag aa.d C4),(5,aO 4 ag aa.d C5)],6⟩
theorem nA (N:Nat) (C0:Int) (bd:Int) (bZ:Bool) (cL:List Int) (cO:Bool) (cP:List Int) (cg:Int) (C1:List Int) (C2:List Int) (C3:List (List aa)) (C4:List aa) (C5:List aa) (x:Int) (g9:Int→Int→Option (Int)) (tS:n7 N C0 bd bZ cL cO cP cg C1 C2 C3 C4 C5 g9):ur N C0 bd bZ cL cO cP cg C1 C2 C3 C4 C5 x (gj N C0 bd bZ cL cO cP cg C1 C2 C3 C4 C5 x g9):=by
 intro yK r h E hE
 unfold gj at h
 refine ah hE 0 [] [] (kp [0,3,9,10]) (kq [0,1,2,3,4,5]) 38 pn ?_
 exact dh hE 1 [] (kp [0,3,9,10]) (kq [0,1,2,3,4,5]) 6 pn (tS _ _ _ h E hE)
theorem tT (N C0 bd bZ cL cO cP cg C1 C2 C3 C4 C5 fuel):n7 N C0 bd bZ cL cO cP cg C1 C2 C3 C4 C5 (bM N C0 bd bZ cL cO cP cg C1 C2 C3 C4 C5 fuel):=by
 induction fuel with
 | zero=>intro _ _ r h;rw [bM.eq_1] at h;cases h
 | succ fuel ih =>
  intro dJ x r h E hE
  rw [bM.eq_2] at h
  refine ah hE 1 [] [] (kp [0,3,9,10,11]) (kq [0,1,2,3,4,5]) 22 pn ?_
  refine dK 1 11 h (fun dQ h=>?_) (fun dQ h=>?_)
  ·refine ah hE 4 [] [] (kp [0,3,4,9,10]) (kq [0,1,2,3,4,5]) 54 pn ?_
   obtain ⟨c,h⟩:=ab h
   obtain ⟨an,hr,h⟩:=bq h
   obtain ⟨c2,h⟩:=ab h
   obtain ⟨c3,h⟩:=ab h
   refine ah hE 1 [(7,oT (aI an))] [] (kp [0,3,4,9,10,42]) (kq [0,1,2,3,4,5]) 534 (pc o1 (pc c (pc (dm c) (pc (iH _ _ _ hr) (pc (fun hg:(decide (an > 0))=true=>(pc hg pn)) (pc (fun hg:((decide (an > 0)) && ((decide (an > 0)) && (!(decide (dJ < 0)))))=true=>(pc hg pn)) (pc (fun hg:((decide (an > 0)) && ((decide (an > 0)) && (!(decide (dJ < 0)))))=true=>(pc hg pn)) (pc (fun hg:((decide (an > 0)) && ((decide (an > 0)) && (!(decide (dJ < 0)))))=true=>(pc hg (pc o1 pn))) (pc (fun hg:((decide (an > 0)) && ((decide (an > 0)) && (!(decide (dJ < 0)))))=true=>(pc hg (pc hg (pc (c2 hg) pn)))) (pc (fun hg:((decide (an > 0)) && ((decide (an > 0)) && (!(decide (dJ < 0)))))=true=>(pc hg (pc (dm (c2 hg)) pn))) (pc (fun hg:((decide (an > 0)) && ((decide (an > 0)) && (!(decide (dJ < 0)))))=true=>(pc hg pn)) (pc (fun hg:((decide (an > 0)) && ((decide (an > 0)) && (!(decide (dJ < 0)))))=true=>(pc hg pn)) (pc (fun hg:((decide (an > 0)) && ((decide (an > 0)) && (!(decide (dJ < 0)))))=true=>(pc hg (pc o1 pn))) (pc (fun hg:((decide (an > 0)) && ((decide (an > 0)) && (!(decide (dJ < 0)))))=true=>(pc hg (pc hg (pc (c3 hg) pn)))) (pc (fun hg:((decide (an > 0)) && ((decide (an > 0)) && (!(decide (dJ < 0)))))=true=>(pc hg (pc (dm (c3 hg)) pn))) (pc (fun hg:((decide (an > 0)) && ((decide (an > 0)) && (!(decide (dJ < 0)))))=true=>(pc hg (pc hg pn))) (pc (fun hg:(decide (an > 0))=true=>(pc hg (pc hg (pc (fun hq:(!(decide (dJ < 0)))=true=>(pc (show ((decide (an > 0)) && ((decide (an > 0)) && (!(decide (dJ < 0)))))=true from (uE hg (uE hg hq))) pn)) pn)))) (pc (fun hq:(decide (an > 0))=true=>(pc hq pn)) pn)))))))))))))))))) ?_
   refine dK 0 42 h (fun iZ h=>?_) (fun iZ h=>?_)
   ·refine ah hE 0 [] [] (kp [0,3,9,10]) (kq [0,1,2,3,4,5]) 566 pn ?_
    exact dh hE 1 [] (kp [0,3,9,10]) (kq [0,1,2,3,4,5]) 6 pn (nA N _ _ _ _ _ _ _ _ _ _ _ _ _ _ ih _ _ h E hE)
   ·exact dh hE 2 [] (kp [0,3,9,10]) (kq [0,1,2,3,4,5]) 6 pn (nA N _ _ _ _ _ _ _ _ _ _ _ _ _ _ ih _ _ h E hE)
  ·refine ah hE 2 [] [] (kp [2]) (kq [0,1,2,3,4,5]) 54 pn ?_
   obtain rfl:=dj h
   exact dw hE 0 Tryz.f80 [] (kp [2]) (kq [0,1,2,3,4,5]) 54 pn [] pn
theorem we (N C0 bd bZ cL cO cP cg C1 C2 C3 C4 C5 r) (h:k5 N C0 bd bZ cL cO cP cg C1 C2 C3 C4 C5=some r):Sd 80 [(.op 0 0 0)] [(0,vN 12 [(aI C0),(aI bd),(.os 1 0 C1.length),(.os 2 0 C2.length),(.os 3 0 C3.length),(.os 4 0 C4.length),(.os 5 0 C5.length),(aB bZ),(eU cL),(aB cO),(eU cP),(aI cg)]),(1,aO 1 cI 0 C1),(2,aO 1 cI 0 C2),(3,aM 4 ag aa.d C3),(4,aO 4 ag aa.d C4),(5,aO 4 ag aa.d C5)] 6 (aI r) [(0,vN 12 [(aI C0),(aI bd),(.os 1 0 C1.length),(.os 2 0 C2.length),(.os 3 0 C3.length),(.os 4 0 C4.length),(.os 5 0 C5.length),(aB bZ),(eU cL),(aB cO),(eU cP),(aI cg)]),(1,aO 1 cI 0 C1),(2,aO 1 cI 0 C2),(3,aM 4 ag aa.d C3),(4,aO 4 ag aa.d C4),(5,aO 4 ag aa.d C5)]:=by
 unfold k5 at h
 refine gX (fu:=Tryz.f80) (c:=Nm 1) (nt:=46) (fun hm=>absurd hm (by decide)) ?_
 intro E hE
 refine ah hE 1 [] [] (kp [0]) (kq [0,1,2,3,4,5]) 22 pn ?_
 refine ah hE 1 [] [] (kp [0,3]) (kq [0,1,2,3,4,5]) 38 pn ?_
 refine ah hE 2 [] [] (kp [0,3,9,10]) (kq [0,1,2,3,4,5]) 134 (pc o1 pn) ?_
 exact dh hE 2 [] (kp [0,3,9,10]) (kq [0,1,2,3,4,5]) 6 pn (tT N _ _ _ _ _ _ _ _ _ _ _ _ N _ _ _ h E hE)
noncomputable abbrev EK:=cy Tryz.f81
def lv (N:Nat) (j:Int) (C0:Int) (bd:Int) (bZ:Bool) (cL:List Int) (cO:Bool) (cP:List Int) (cg:Int) (C1:List Int) (C2:List Int) (C3:List (List aa)) (C4:List aa) (C5:List aa) (K:Int→aa→Int→Option (Int)):Prop:=∀ (dJ:Int) (least:aa) (x:Int) (r:Int),K dJ least x=some r→∀ E,aQ E 6→aw Tryz.prog E 81 81 (aY E [(0,vN 12 [(aI C0),(aI bd),(.os 1 0 C1.length),(.os 2 0 C2.length),(.os 3 0 C3.length),(.os 4 0 C4.length),(.os 5 0 C5.length),(aB bZ),(eU cL),(aB cO),(eU cP),(aI cg)]),(1,aO 1 cI 0 C1),(2,aO 1 cI 0 C2),(3,aM 4 ag aa.d C3),(4,aO 4 ag aa.d C4),(5,aO 4 ag aa.d C5)] (aI r)) [.code (EK 244),.inLoop (EK 244),.inBlock 0,.code (EK 31)] ⟨[(0,(.op 0 0 0)),(1,(aI j)),(5,(aI dJ)),(6,(.op 6 0 0)),(14,(aI ((C1.length:Nat):Int))),(15,(aI x))],[(0,vN 12 [(aI C0),(aI bd),(.os 1 0 C1.length),(.os 2 0 C2.length),(.os 3 0 C3.length),(.os 4 0 C4.length),(.os 5 0 C5.length),(aB bZ),(eU cL),(aB cO),(eU cP),(aI cg)]),(1,aO 1 cI 0 C1),(2,aO 1 cI 0 C2),(3,aM 4 ag aa.d C3),(4,aO 4 ag aa.d C4),(5,aO 4 ag aa.d C5),(6,vO 4 (ag least))],7⟩
def vf (N:Nat) (j:Int) (C0:Int) (bd:Int) (bZ:Bool) (cL:List Int) (cO:Bool) (cP:List Int) (cg:Int) (C1:List Int) (C2:List Int) (C3:List (List aa)) (C4:List aa) (C5:List aa) (x:Int) (K:Int→aa→Option (Int)):Prop:=∀ (yK:Int) (Gc:aa) (r:Int),K yK Gc=some r→∀ E,aQ E 6→aw Tryz.prog E 81 81 (aY E [(0,vN 12 [(aI C0),(aI bd),(.os 1 0 C1.length),(.os 2 0 C2.length),(.os 3 0 C3.length),(.os 4 0 C4.length),(.os 5 0 C5.length),(aB bZ),(eU cL),(aB cO),(eU cP),(aI cg)]),(1,aO 1 cI 0 C1),(2,aO 1 cI 0 C2),(3,aM 4 ag aa.d C3),(4,aO 4 ag aa.d C4),(5,aO 4 ag aa.d C5)] (aI r)) [.code (EK 1959),.inLoop (EK 244),.inBlock 0,.code (EK 31)] ⟨[(0,(.op 0 0 0)),(1,(aI j)),(5,(aI yK)),(6,(.op 6 0 0)),(14,(aI ((C1.length:Nat):Int))),(15,(aI x))],[(0,vN 12 [(aI C0),(aI bd),(.os 1 0 C1.length),(.os 2 0 C2.length),(.os 3 0 C3.length),(.os 4 0 C4.length),(.os 5 0 C5.length),(aB bZ),(eU cL),(aB cO),(eU cP),(aI cg)]),(1,aO 1 cI 0 C1),(2,aO 1 cI 0 C2),(3,aM 4 ag aa.d C3),(4,aO 4 ag aa.d C4),(5,aO 4 ag aa.d C5),(6,vO 4 (ag Gc))],7⟩
theorem kG (N:Nat) (j:Int) (C0:Int) (bd:Int) (bZ:Bool) (cL:List Int) (cO:Bool) (cP:List Int) (cg:Int) (C1:List Int) (C2:List Int) (C3:List (List aa)) (C4:List aa) (C5:List aa) (x:Int) (cl:Int→aa→Int→Option (Int)) (hO:lv N j C0 bd bZ cL cO cP cg C1 C2 C3 C4 C5 cl):vf N j C0 bd bZ cL cO cP cg C1 C2 C3 C4 C5 x (ek N j C0 bd bZ cL cO cP cg C1 C2 C3 C4 C5 x cl):=by
 intro yK Gc r h E hE
 unfold ek at h
 refine ah hE 0 [] [] (kp [0,1,5,6,14,15]) (kq [0,1,2,3,4,5,6]) 39 pn ?_
 exact dh hE 1 [] (kp [0,1,5,6,14,15]) (kq [0,1,2,3,4,5,6]) 7 pn (hO _ _ _ _ h E hE)
def vg (N:Nat) (j:Int) (C0:Int) (bd:Int) (bZ:Bool) (cL:List Int) (cO:Bool) (cP:List Int) (cg:Int) (C1:List Int) (C2:List Int) (C3:List (List aa)) (C4:List aa) (C5:List aa) (dJ:Int) (least:aa) (x:Int) (ku:aa) (K:Int→Option (Int)):Prop:=∀ (c7:Int) (r:Int),K c7=some r→∀ E,aQ E 6→aw Tryz.prog E 81 81 (aY E [(0,vN 12 [(aI C0),(aI bd),(.os 1 0 C1.length),(.os 2 0 C2.length),(.os 3 0 C3.length),(.os 4 0 C4.length),(.os 5 0 C5.length),(aB bZ),(eU cL),(aB cO),(eU cP),(aI cg)]),(1,aO 1 cI 0 C1),(2,aO 1 cI 0 C2),(3,aM 4 ag aa.d C3),(4,aO 4 ag aa.d C4),(5,aO 4 ag aa.d C5)] (aI r)) [.code (EK 250686),.code (EK 250687),.inBlock 1,.code (EK 1959),.inLoop (EK 244),.inBlock 0,.code (EK 31)] ⟨[(0,(.op 0 0 0)),(1,(aI j)),(5,(aI dJ)),(6,(.op 6 0 0)),(7,(aI x)),(8,(.op 7 0 0)),(9,(aI c7)),(14,(aI ((C1.length:Nat):Int))),(15,(aI x))],[(0,vN 12 [(aI C0),(aI bd),(.os 1 0 C1.length),(.os 2 0 C2.length),(.os 3 0 C3.length),(.os 4 0 C4.length),(.os 5 0 C5.length),(aB bZ),(eU cL),(aB cO),(eU cP),(aI cg)]),(1,aO 1 cI 0 C1),(2,aO 1 cI 0 C2),(3,aM 4 ag aa.d C3),(4,aO 4 ag aa.d C4),(5,aO 4 ag aa.d C5),(6,vO 4 (ag least)),(7,vO 4 (ag ku))],8⟩
theorem n8 (N:Nat) (j:Int) (C0:Int) (bd:Int) (bZ:Bool) (cL:List Int) (cO:Bool) (cP:List Int) (cg:Int) (C1:List Int) (C2:List Int) (C3:List (List aa)) (C4:List aa) (C5:List aa) (dJ:Int) (least:aa) (x:Int) (ku:aa) (cl:Int→aa→Int→Option (Int)) (hO:lv N j C0 bd bZ cL cO cP cg C1 C2 C3 C4 C5 cl):vg N j C0 bd bZ cL cO cP cg C1 C2 C3 C4 C5 dJ least x ku (fq N j C0 bd bZ cL cO cP cg C1 C2 C3 C4 C5 dJ least x ku cl):=by
 intro c7 r h E hE
 unfold fq at h
 obtain ⟨c8,h⟩:=ab h
 obtain ⟨c9,h⟩:=ab h
 refine ah hE 0 [] [] (kp [0,1,5,6,7,8,14,15,76]) (kq [0,1,2,3,4,5,6,7]) 376 (pc (fun hg:(!(decide (c7 < 0)))=true=>(pc hg pn)) (pc (fun hg:((!(decide (c7 < 0))) && ((!(decide (c7 < 0))) && (c7 == 0)))=true=>(pc hg pn)) (pc (fun hg:((!(decide (c7 < 0))) && ((!(decide (c7 < 0))) && (c7 == 0)))=true=>(pc hg pn)) (pc (fun hg:((!(decide (c7 < 0))) && ((!(decide (c7 < 0))) && (c7 == 0)))=true=>(pc hg (pc o1 pn))) (pc (fun hg:((!(decide (c7 < 0))) && ((!(decide (c7 < 0))) && (c7 == 0)))=true=>(pc hg (pc hg (pc (c8 hg) pn)))) (pc (fun hg:((!(decide (c7 < 0))) && ((!(decide (c7 < 0))) && (c7 == 0)))=true=>(pc hg (pc (dm (c8 hg)) pn))) (pc (fun hg:((!(decide (c7 < 0))) && ((!(decide (c7 < 0))) && (c7 == 0)))=true=>(pc hg pn)) (pc (fun hg:((!(decide (c7 < 0))) && ((!(decide (c7 < 0))) && (c7 == 0)))=true=>(pc hg pn)) (pc (fun hg:((!(decide (c7 < 0))) && ((!(decide (c7 < 0))) && (c7 == 0)))=true=>(pc hg (pc o1 pn))) (pc (fun hg:((!(decide (c7 < 0))) && ((!(decide (c7 < 0))) && (c7 == 0)))=true=>(pc hg (pc hg (pc (c9 hg) pn)))) (pc (fun hg:((!(decide (c7 < 0))) && ((!(decide (c7 < 0))) && (c7 == 0)))=true=>(pc hg (pc (dm (c9 hg)) pn))) (pc (fun hg:((!(decide (c7 < 0))) && ((!(decide (c7 < 0))) && (c7 == 0)))=true=>(pc hg (pc hg pn))) (pc (fun hg:(!(decide (c7 < 0)))=true=>(pc hg (pc hg (pc (fun hq:(c7 == 0)=true=>(pc (show ((!(decide (c7 < 0))) && ((!(decide (c7 < 0))) && (c7 == 0)))=true from (uE hg (uE hg hq))) pn)) pn)))) (pc (fun hq:(!(decide (c7 < 0)))=true=>(pc hq pn)) pn)))))))))))))) ?_
 refine dK 0 76 h (fun Eu h=>?_) (fun Eu h=>?_)
 ·refine ah hE 0 [] [] (kp [0,1,5,6,14,15]) (kq [0,1,2,3,4,5,6]) 440 (pc o1 (pc o1 pn)) ?_
  exact dh hE 1 [] (kp [0,1,5,6,14,15]) (kq [0,1,2,3,4,5,6]) 7 pn (kG N _ _ _ _ _ _ _ _ _ _ _ _ _ _ _ hO _ _ _ h E hE)
 ·exact dh hE 2 [] (kp [0,1,5,6,14,15]) (kq [0,1,2,3,4,5,6]) 7 pn (kG N _ _ _ _ _ _ _ _ _ _ _ _ _ _ _ hO _ _ _ h E hE)
theorem uu (N j C0 bd bZ cL cO cP cg C1 C2 C3 C4 C5 fuel):lv N j C0 bd bZ cL cO cP cg C1 C2 C3 C4 C5 (bU N j C0 bd bZ cL cO cP cg C1 C2 C3 C4 C5 fuel):=by
 induction fuel with
 | zero=>intro _ _ _ r h;rw [bU.eq_1] at h;cases h
 | succ fuel ih =>
  intro dJ least x r h E hE
  rw [bU.eq_2] at h
  refine ah hE 1 [] [] (kp [0,1,5,6,14,15,16]) (kq [0,1,2,3,4,5,6]) 23 pn ?_
  refine dK 1 16 h (fun dQ h=>?_) (fun dQ h=>?_)
  ·refine ah hE 4 [] [] (kp [0,1,5,6,7,14,15]) (kq [0,1,2,3,4,5,6]) 55 pn ?_
   obtain ⟨c2,h⟩:=ab h
   refine RU 3 ((x).toNat) 4 ((C3.getD ((x).toNat) []).length) (fun zi=>ag ((C3.getD ((x).toNat) []).getD zi aa.d)) (pc c2 (pc (show bk [] (mG C3) ((x).toNat)=mR 4 ag aa.d (C3.getD ((x).toNat) []) from rfl) pn)) ?_
   obtain ⟨c3,h⟩:=ab h
   obtain ⟨c4,h⟩:=ab h
   obtain ⟨an,hr,h⟩:=bq h
   refine ah hE 2 [(6,oF (.os 55 0 ((C3.getD ((x).toNat) []).length))),(10,oT (aI an))] [] (kp [0,1,5,6,7,14,15,29]) (kq [0,1,2] ++ [(3,.po 3 (C3.length) [((x).toNat,55,(C3.getD ((x).toNat) []).length)] (mG C3))] ++ kq [4,5,6,55]) 263 (pc o1 (pc c3 (pc (dm c3) (pc (show (bk [((x).toNat,55,(C3.getD ((x).toNat) []).length)] (mG C3) ((x).toNat))[0]?=some (.os 55 0 ((C3.getD ((x).toNat) []).length)) from (gO rfl)) (pc c4 (pc (dm c4) (pc (iH _ _ _ hr) (pc (Eq.refl C3.length) (pc (mC C3 [((x).toNat,55,(C3.getD ((x).toNat) []).length)]) (pc (iM C3) pn)))))))))) ?_
   refine PN 3 55 ((x).toNat) (pc c2 (pc (show bk [((x).toNat,55,(C3.getD ((x).toNat) []).length)] (mG C3) ((x).toNat)=[.os 55 0 (C3.getD ((x).toNat) []).length] from if_pos rfl) (pc (show ∀ zj,zj < (C3.getD ((x).toNat) []).length→mP (ag ((C3.getD ((x).toNat) []).getD zj aa.d))=true from fun _ _=>rfl) pn))) ?_
   refine Kt hE [] (kp [0,1,5,6,7,14,15,29]) (kq [0,1,2] ++ [(3,.po 3 (C3.length) [] (mG C3))] ++ kq [4,5,6]) 263 (pc (Eq.refl (C3.length)) (pc (ri (sz:=4) (c:=ag) (d:=aa.d) C3 ((x).toNat) 55 ((C3.getD ((x).toNat) []).length) [] Dh) (pc (iM C3) pn))) ?_
   refine dK 0 29 h (fun iZ h=>?_) (fun iZ h=>?_)
   ·exact dh hE 1 [] (kp [0,1,5,6,14,15]) (kq [0,1,2,3,4,5,6]) 7 pn (kG N _ _ _ _ _ _ _ _ _ _ _ _ _ _ _ ih _ _ _ h E hE)
   ·refine RU 3 ((x).toNat) 4 ((C3.getD ((x).toNat) []).length) (fun zi=>ag ((C3.getD ((x).toNat) []).getD zi aa.d)) (pc c2 (pc (show bk [] (mG C3) ((x).toNat)=mR 4 ag aa.d (C3.getD ((x).toNat) []) from rfl) pn)) ?_
    obtain ⟨c6,h⟩:=ab h
    obtain ⟨aR,eW,h⟩:=bq h
    obtain ⟨ku,lL,h⟩:=bq h
    refine ah hE 2 [(13,oF (.os 263 0 ((C3.getD ((x).toNat) []).length))),(17,oT (.agg (ag aR))),(18,oT (.agg (ag ku)))] [] (kp [0,1,5,6,7,8,14,15]) (kq [0,1,2] ++ [(3,.po 3 (C3.length) [((x).toNat,263,(C3.getD ((x).toNat) []).length)] (mG C3))] ++ kq [4,5,6,263,583]) 615 (pc o1 (pc c6 (pc (dm c6) (pc o1 (pc c3 (pc (dm c3) (pc (show (bk [((x).toNat,263,(C3.getD ((x).toNat) []).length)] (mG C3) ((x).toNat))[0]?=some (.os 263 0 ((C3.getD ((x).toNat) []).length)) from (gO rfl)) (pc c4 (pc (dm c4) (pc (gW _ _ _ eW) (pc (uK _ _ _ _ lL) (pc o1 (pc (Eq.refl C3.length) (pc (mC C3 [((x).toNat,263,(C3.getD ((x).toNat) []).length)]) (pc (iM C3) pn))))))))))))))) ?_
    refine PN 3 263 ((x).toNat) (pc c2 (pc (show bk [((x).toNat,263,(C3.getD ((x).toNat) []).length)] (mG C3) ((x).toNat)=[.os 263 0 (C3.getD ((x).toNat) []).length] from if_pos rfl) (pc (show ∀ zj,zj < (C3.getD ((x).toNat) []).length→mP (ag ((C3.getD ((x).toNat) []).getD zj aa.d))=true from fun _ _=>rfl) pn))) ?_
    refine Kt hE [] (kp [0,1,5,6,7,8,14,15]) (kq [0,1,2] ++ [(3,.po 3 (C3.length) [] (mG C3))] ++ kq [4,5,6,583]) 615 (pc (Eq.refl (C3.length)) (pc (ri (sz:=4) (c:=ag) (d:=aa.d) C3 ((x).toNat) 263 ((C3.getD ((x).toNat) []).length) [] Dh) (pc (iM C3) pn))) ?_
    refine ah hE 1 [] [] (kp [0,1,5,6,7,8,9,14,15]) (kq [0,1,2,3,4,5,6,583]) 631 pn ?_
    refine ah hE 2 [] [] (kp [0,1,5,6,7,8,9,14,15,50]) (kq [0,1,2,3,4,5,6,583]) 663 pn ?_
    refine dK 0 50 h (fun qq h=>?_) (fun qq h=>?_)
    ·obtain ⟨eT,px,h⟩:=bq h
     refine ah hE 0 [(2,oT (aI eT))] [] (kp [0,1,5,6,7,8,9,14,15]) (kq [0,1,2,3,4,5,6,583]) 727 (pc o1 (pc o1 (pc (lr _ _ _ _ px) pn))) ?_
     exact dh hE 1 [] (kp [0,1,5,6,7,8,9,14,15]) (kq [0,1,2,3,4,5,6] ++ [(7,.ai 583)]) 8 pn (n8 N _ _ _ _ _ _ _ _ _ _ _ _ _ _ _ _ _ _ ih _ _ h E hE)
    ·exact dh hE 2 [] (kp [0,1,5,6,7,8,9,14,15]) (kq [0,1,2,3,4,5,6] ++ [(7,.ai 583)]) 8 pn (n8 N _ _ _ _ _ _ _ _ _ _ _ _ _ _ _ _ _ _ ih _ _ h E hE)
  ·refine ah hE 2 [] [] (kp [4]) (kq [0,1,2,3,4,5]) 55 pn ?_
   obtain rfl:=dj h
   exact dw hE 0 Tryz.f81 [] (kp [4]) (kq [0,1,2,3,4,5]) 55 pn [] pn
theorem xr (N j C0 bd bZ cL cO cP cg C1 C2 C3 C4 C5 r) (h:lC N j C0 bd bZ cL cO cP cg C1 C2 C3 C4 C5=some r):Sd 81 [(.op 0 0 0),(aI j)] [(0,vN 12 [(aI C0),(aI bd),(.os 1 0 C1.length),(.os 2 0 C2.length),(.os 3 0 C3.length),(.os 4 0 C4.length),(.os 5 0 C5.length),(aB bZ),(eU cL),(aB cO),(eU cP),(aI cg)]),(1,aO 1 cI 0 C1),(2,aO 1 cI 0 C2),(3,aM 4 ag aa.d C3),(4,aO 4 ag aa.d C4),(5,aO 4 ag aa.d C5)] 6 (aI r) [(0,vN 12 [(aI C0),(aI bd),(.os 1 0 C1.length),(.os 2 0 C2.length),(.os 3 0 C3.length),(.os 4 0 C4.length),(.os 5 0 C5.length),(aB bZ),(eU cL),(aB cO),(eU cP),(aI cg)]),(1,aO 1 cI 0 C1),(2,aO 1 cI 0 C2),(3,aM 4 ag aa.d C3),(4,aO 4 ag aa.d C4),(5,aO 4 ag aa.d C5)]:=by
 unfold lC at h
 refine gX (fu:=Tryz.f81) (c:=EK 1) (nt:=81) (fun hm=>absurd hm (by decide)) ?_
 intro E hE
 refine ah hE 1 [] [] (kp [0,1]) (kq [0,1,2,3,4,5]) 22 pn ?_
 refine ah hE 1 [] [] (kp [0,1,5]) (kq [0,1,2,3,4,5]) 38 pn ?_
 refine ah hE 1 [] [] (kp [0,1,5,6]) (kq [0,1,2,3,4,5,38]) 54 pn ?_
 refine ah hE 2 [] [] (kp [0,1,5,6,14,15]) (kq [0,1,2,3,4,5,38]) 150 (pc o1 pn) ?_
 exact dh hE 2 [] (kp [0,1,5,6,14,15]) (kq [0,1,2,3,4,5] ++ [(6,.var 38 [.ai,.sl (([]:List Int).length) (fun zi=>(cU .u16) (([]:List Int).getD zi 0)),.ai,.sl (([]:List Int).length) (fun zi=>(cU .u16) (([]:List Int).getD zi 0))])]) 7 (pc (Eq.refl 0) (pc (Eq.refl 0) pn)) (uu N _ _ _ _ _ _ _ _ _ _ _ _ _ N _ _ _ _ h E hE)
noncomputable abbrev X5:=cy Tryz.f37
def xt (N:Nat) (K:Int→Int→(List Int)→(List Int)→(List (List aa))→(List aa)→(List aa)→Bool→(List Int)→Bool→(List Int)→Int→Option (Int×jq×(List Int)×(List Int)×(List (List aa))×(List aa)×(List aa))):Prop:=∀ (cd:Int) (mW:Int) (js:List Int) (mI:List Int) (fk:List (List aa)) (il:List aa) (mX:List aa) (pP:Bool) (pQ:List Int) (sQ:Bool) (oe:List Int) (yL:Int) (r:Int×jq×(List Int)×(List Int)×(List (List aa))×(List aa)×(List aa)),K cd mW js mI fk il mX pP pQ sQ oe yL=some r→∀ E,aQ E 6→aw Tryz.prog E 37 19 (aY E [(0,vN 12 [(aI r.2.1.tk),(aI r.2.1.tl),(.os 1 0 r.2.2.1.length),(.os 2 0 r.2.2.2.1.length),(.os 3 0 r.2.2.2.2.1.length),(.os 4 0 r.2.2.2.2.2.1.length),(.os 5 0 r.2.2.2.2.2.2.length),(aB r.2.1.af.fN.fG),(eU r.2.1.af.fN.fL),(aB r.2.1.af.fD.fG),(eU r.2.1.af.fD.fL),(aI r.2.1.bI)]),(1,aO 1 cI 0 r.2.2.1),(2,aO 1 cI 0 r.2.2.2.1),(3,aM 4 ag aa.d r.2.2.2.2.1),(4,aO 4 ag aa.d r.2.2.2.2.2.1),(5,aO 4 ag aa.d r.2.2.2.2.2.2)] (aI r.1)) [.code (X5 12),.inLoop (X5 12),.inBlock 0] ⟨[(0,(.op 0 0 0))],[(0,vN 12 [(aI cd),(aI mW),(.os 1 0 js.length),(.os 2 0 mI.length),(.os 3 0 fk.length),(.os 4 0 il.length),(.os 5 0 mX.length),(aB pP),(eU pQ),(aB sQ),(eU oe),(aI yL)]),(1,aO 1 cI 0 js),(2,aO 1 cI 0 mI),(3,aM 4 ag aa.d fk),(4,aO 4 ag aa.d il),(5,aO 4 ag aa.d mX)],6⟩
theorem wg (N fuel):xt N (dG N fuel):=by
 induction fuel with
 | zero=>intro _ _ _ _ _ _ _ _ _ _ _ _ r h;rw [dG.eq_1] at h;cases h
 | succ fuel ih =>
  intro cd mW js mI fk il mX pP pQ sQ oe yL r h E hE
  rw [dG.eq_2] at h
  obtain ⟨tp,hr,h⟩:=bq h
  refine ah hE 2 [(1,⟨[0,1,2,3,4,5],true,(aI tp),[],0,false,none⟩)] [] (kp [0,3]) (kq [0,1,2,3,4,5]) 54 (pc (we _ _ _ _ _ _ _ _ _ _ _ _ _ _ hr) (pc (iM fk) pn)) ?_
  refine ah hE 2 [] [] (kp [0,3,8]) (kq [0,1,2,3,4,5]) 86 pn ?_
  refine dK 0 8 h (fun dQ h=>?_) (fun dQ h=>?_)
  ·refine ah hE 1 [] [] (kp [2]) (kq [0,1,2,3,4,5]) 102 pn ?_
   obtain rfl:=dj h
   exact dw hE 0 Tryz.f37 [] (kp [2]) (kq [0,1,2,3,4,5]) 102 pn [] pn
  ·obtain ⟨BS,eW,h⟩:=bq h
   refine ah hE 2 [(2,⟨[0,1,2,3,4,5],true,(aI BS),[],0,false,none⟩)] [] (kp [0,3,4]) (kq [0,1,2,3,4,5]) 150 (pc (xr _ _ _ _ _ _ _ _ _ _ _ _ _ _ _ eW) (pc (iM fk) pn)) ?_
   refine ah hE 2 [] [] (kp [0,3,4,13]) (kq [0,1,2,3,4,5]) 182 pn ?_
   refine dK 0 13 h (fun iZ h=>?_) (fun iZ h=>?_)
   ·refine ah hE 1 [] [] (kp [2]) (kq [0,1,2,3,4,5]) 214 pn ?_
    obtain rfl:=dj h
    exact dw hE 0 Tryz.f37 [] (kp [2]) (kq [0,1,2,3,4,5]) 214 pn [] pn
   ·obtain ⟨bE,lL,h⟩:=bq h
    obtain ⟨c,h⟩:=ab h
    obtain ⟨c2,h⟩:=ab h
    obtain ⟨c3,h⟩:=ab h
    obtain ⟨c4,h⟩:=ab h
    obtain ⟨c5,h⟩:=ab h
    refine ah hE 1 [(3,⟨[0,1,2,3,4,5],false,(.tup []),[(0,vN 12 [(aI bE.1.tk),(aI bE.1.tl),(.os 1 0 bE.2.1.length),(.os 2 0 bE.2.2.1.length),(.os 3 0 bE.2.2.2.1.length),(.os 4 0 bE.2.2.2.2.1.length),(.os 5 0 bE.2.2.2.2.2.length),(aB bE.1.af.fN.fG),(eU bE.1.af.fN.fL),(aB bE.1.af.fD.fG),(eU bE.1.af.fD.fL),(aI bE.1.bI)]),(1,aO 1 cI 0 bE.2.1),(2,aO 1 cI 0 bE.2.2.1),(3,aM 4 ag aa.d bE.2.2.2.1),(4,aO 4 ag aa.d bE.2.2.2.2.1),(5,aO 4 ag aa.d bE.2.2.2.2.2)],0,false,none⟩)] [] (kp [0]) (kq [0,1,2,3,4,5]) 246 (pc (nz _ _ _ _ _ _ _ _ _ _ _ _ _ _ _ _ lL) pn) ?_
    exact dh hE 2 [] (kp [0]) (kq [0,1,2,3,4,5]) 6 pn (ih _ _ _ _ _ _ _ _ _ _ _ _ _ h E hE)
theorem rI (N C0 bd bZ cL cO cP cg C1 C2 C3 C4 C5 r) (h:mQ N C0 bd bZ cL cO cP cg C1 C2 C3 C4 C5=some r):Sd 37 [(.op 0 0 0)] [(0,vN 12 [(aI C0),(aI bd),(.os 1 0 C1.length),(.os 2 0 C2.length),(.os 3 0 C3.length),(.os 4 0 C4.length),(.os 5 0 C5.length),(aB bZ),(eU cL),(aB cO),(eU cP),(aI cg)]),(1,aO 1 cI 0 C1),(2,aO 1 cI 0 C2),(3,aM 4 ag aa.d C3),(4,aO 4 ag aa.d C4),(5,aO 4 ag aa.d C5)] 6 (aI r.1) [(0,vN 12 [(aI r.2.1.tk),(aI r.2.1.tl),(.os 1 0 r.2.2.1.length),(.os 2 0 r.2.2.2.1.length),(.os 3 0 r.2.2.2.2.1.length),(.os 4 0 r.2.2.2.2.2.1.length),(.os 5 0 r.2.2.2.2.2.2.length),(aB r.2.1.af.fN.fG),(eU r.2.1.af.fN.fL),(aB r.2.1.af.fD.fG),(eU r.2.1.af.fD.fL),(aI r.2.1.bI)]),(1,aO 1 cI 0 r.2.2.1),(2,aO 1 cI 0 r.2.2.2.1),(3,aM 4 ag aa.d r.2.2.2.2.1),(4,aO 4 ag aa.d r.2.2.2.2.2.1),(5,aO 4 ag aa.d r.2.2.2.2.2.2)]:=by
 unfold mQ at h
 refine gX (fu:=Tryz.f37) (c:=X5 1) (nt:=19) (fun hm=>absurd hm (by decide)) ?_
 intro E hE
 refine ah hE 1 [] [] (kp [0]) (kq [0,1,2,3,4,5]) 22 pn ?_
 exact dh hE 2 [] (kp [0]) (kq [0,1,2,3,4,5]) 6 pn (wg N N _ _ _ _ _ _ _ _ _ _ _ _ _ h E hE)
noncomputable abbrev Vm:=cy Tryz.f75
def sZ (N:Nat) (s:List Int) (v:Int) (K:Int→Option (Int)):Prop:=∀ (x:Int) (r:Int),K x=some r→∀ E,aQ E 0→aw Tryz.prog E 75 19 (aY E [] (aI r)) [.code (Vm 52),.inLoop (Vm 52),.inBlock 0,.code (Vm 7)] ⟨[(0,(aK cI 0 s)),(1,(aI v)),(7,(aI ((s.length:Nat):Int))),(8,(aI x))],[],0⟩
theorem sn (N s v fuel):sZ N s v (cA N s v fuel):=by
 induction fuel with
 | zero=>intro _ r h;rw [cA.eq_1] at h;cases h
 | succ fuel ih =>
  intro x r h E hE
  rw [cA.eq_2] at h
  refine ah hE 1 [] [] (kp [0,1,7,8,9]) [] 16 pn ?_
  refine dK 1 9 h (fun dQ h=>?_) (fun dQ h=>?_)
  ·refine ah hE 4 [] [] (kp [0,1,5,7,8]) [] 48 pn ?_
   obtain ⟨c,h⟩:=ab h
   refine ah hE 1 [] [] (kp [0,1,5,7,8,16]) [] 144 (pc c pn) ?_
   refine dK 0 16 h (fun iZ h=>?_) (fun iZ h=>?_)
   ·refine ah hE 1 [] [] (kp [4]) [] 176 pn ?_
    obtain rfl:=dj h
    exact dw hE 0 Tryz.f75 [] (kp [4]) [] 176 pn [] pn
   ·refine ah hE 2 [] [] (kp [0,1,7,8]) [] 176 pn ?_
    exact dh hE 1 [] (kp [0,1,7,8]) [] 0 pn (ih _ _ h E hE)
  ·refine ah hE 2 [] [] (kp [4]) [] 32 pn ?_
   obtain rfl:=dj h
   exact dw hE 0 Tryz.f75 [] (kp [4]) [] 48 pn [] pn
theorem dz (N s v r) (h:bV N s v=some r):Sd 75 [(aK cI 0 s),(aI v)] [] 0 (aI r) []:=by
 unfold bV at h
 refine gX (fu:=Tryz.f75) (c:=Vm 1) (nt:=19) (fun hm=>rfl) ?_
 intro E hE
 refine ah hE 1 [] [] (kp [0,1]) [] 16 pn ?_
 refine ah hE 2 [] [] (kp [0,1,7,8]) [] 64 pn ?_
 exact dh hE 2 [] (kp [0,1,7,8]) [] 0 pn (sn N _ _ N _ _ h E hE)
noncomputable abbrev ads:=cy Tryz.f77
theorem wh (N x r) (h:k6 N x=some r):Sd 77 [(.agg (ag x))] [] 0 (aB r) []:=by
 unfold k6 at h
 refine gX (fu:=Tryz.f77) (c:=ads 1) (nt:=6) (fun hm=>rfl) ?_
 intro E hE
 refine ah hE 1 [] [] (kp [1]) (kq [0]) 32 pn ?_
 obtain ⟨eS,hr,h⟩:=bq h
 refine ah hE 1 [(1,oT (aB eS))] [] (kp [2]) [] 96 (pc o1 (pc (gD _ _ _ hr) pn)) ?_
 obtain rfl:=dj h
 exact dw hE 0 Tryz.f77 [] (kp [2]) [] 96 pn [] pn
end Go.Den
