/- Each function of the program does what its Lean function computes (part 1). No conditions. -/
import Derived.Test.YtdigjibahkjfdaaGreatExactMaximizeDen
import Derived.Test.YtdigjibahkjfdaaGreatProg
set_option linter.unusedVariables false
set_option maxRecDepth 100000
namespace Go.Den
open Go.Ab Go.Proofs Go.Ab.az
abbrev Sd:=Sound Tryz.prog
abbrev eU (a:List Int):AV:=aN (cU .u16) 0 a
abbrev aU (a:List Int):Ob:=aO 1 (cU .u16) 0 a
abbrev Is (x:Int):AV:=.atom (.int .u64 x)
abbrev UR (x:Int):AV:=.atom (.int .u32 x)
abbrev wq (x:Int):AV:=.atom (.int .u16 x)
theorem iy {P:Program} {f:FuncId} {fu:Func} {c:Code} {nt m:Nat} {args:List AV} {σ dr:dp} {res:AV} (hs:m=0→σ=[]) (h:∀ E,aQ E m→az P E f nt (aY E dr res) [.code c] ⟨tu args 0,σ,m⟩) (hf:P.funcs[f]?=some fu:=by kernel_rfl) (hb:fu.body=some c:=by kernel_rfl) (hn:fu.ntmps=nt:=by kernel_rfl) (ha:Nat.ble args.length nt=true:=by kernel_rfl):Sound P f args σ m res dr:=sor hf hb hn ha hs h
noncomputable def cG (f:Func) (n:Nat):Code:=cat (Xf f) (Xh n)
abbrev oT (x:AV):lW:=⟨[],true,x,[],0,false,none⟩
abbrev oF (x:AV):lW:=⟨[],false,x,[],0,false,none⟩
abbrev aZ (n:Nat) (g:Nat→List AV):∀ i,i < n→g i=g (bT 0 i):=fun _ _=>rfl
abbrev mG (C:List (List aa)):Nat→List AV:=fun zm=>mR 4 ah aa.d (C.getD zm [])
theorem mC (C:List (List aa)) (l:List (Nat×Nat×Nat)):∀ zm,zm < C.length→bk l (mG C) zm=bk l (mG C) zm:=fun _ _=>rfl
theorem iM (C:List (List aa)):∀ zm,zm < C.length→E8 (mG C zm)=true:=fun _ _=>rfl
theorem dx {α:Type} {a b:α} (h:some a=some b):a=b:=Option.some.inj h
noncomputable abbrev C_4:=cG Tryz.f71
theorem AO (N vr C0 r) (h:oO N vr C0=some r):Sd 71 [(.agg (Aj vr)),(.op 0 0 0)] [(0,vO 1 [(aI C0)])] 1 (aB r) [(0,vO 1 [(aI C0)])]:=by
 unfold oO at h
 refine iy (fu:=Tryz.f71) (c:=C_4 1) (nt:=9) (fun hm=>absurd hm (by decide)) ?_
 intro E hE
 refine aj hE 1 [] [] (kp [1,2]) (kq [0,1]) 33 pn ?_
 refine aj hE 1 [] [] (kp [3]) (kq [0]) 129 (pc o1 (pc o1 pn)) ?_
 obtain rfl:=dx h
 exact dQ hE 0 Tryz.f71 [] (kp [3]) (kq [0]) 129 pn [] pn
noncomputable abbrev C_3:=cG Tryz.f107
def sO (N:Nat) (s:List aH) (C0:Int) (K:Int→Option (Int)):Prop:=∀ (x:Int) (r:Int),K x=some r→∀ E,aQ E 1→az Tryz.prog E 107 19 (aY E [(0,vO 1 [(aI C0)])] (aI r)) [.code (C_3 52),.inLoop (C_3 52),.inBlock 0,.code (C_3 7)] ⟨[(0,(aN Aj aH.d s)),(1,(.fn (.func 71) [] [(.op 0 0 0)])),(7,(aI ((s.length:Nat):Int))),(8,(aI x))],[(0,vO 1 [(aI C0)])],1⟩
theorem sb (N s C0 fuel):sO N s C0 (cx N s C0 fuel):=by
 induction fuel with
 | zero=>intro _ r h;rw [cx.eq_1] at h;cases h
 | succ fuel ih =>
  intro x r h E hE
  rw [cx.eq_2] at h
  refine aj hE 1 [] [] (kp [0,1,7,8,9]) (kq [0]) 17 pn ?_
  refine dS 1 9 h (fun dR h=>?_) (fun dR h=>?_)
  ·refine aj hE 4 [] [] (kp [0,1,5,7,8]) (kq [0]) 49 pn ?_
   obtain ⟨c,h⟩:=ae h
   obtain ⟨yh,hr,h⟩:=bt h
   refine aj hE 1 [(5,⟨[0],true,(aB yh),[],0,false,none⟩)] [] (kp [0,1,5,7,8,16]) (kq [0]) 145 (pc c (pc (AO _ _ _ _ hr) pn)) ?_
   refine dS 0 16 h (fun iU h=>?_) (fun iU h=>?_)
   ·refine aj hE 1 [] [] (kp [4]) (kq [0]) 177 pn ?_
    obtain rfl:=dx h
    exact dQ hE 0 Tryz.f107 [] (kp [4]) (kq [0]) 177 pn [] pn
   ·refine aj hE 2 [] [] (kp [0,1,7,8]) (kq [0]) 177 pn ?_
    exact de hE 1 [] (kp [0,1,7,8]) (kq [0]) 1 pn (ih _ _ h E hE)
  ·refine aj hE 2 [] [] (kp [4]) (kq [0]) 33 pn ?_
   obtain rfl:=dx h
   exact dQ hE 0 Tryz.f107 [] (kp [4]) (kq [0]) 49 pn [] pn
theorem ue (N s C0 r) (h:lZ N s C0=some r):Sd 107 [(aN Aj aH.d s),(.fn (.func 71) [] [(.op 0 0 0)])] [(0,vO 1 [(aI C0)])] 1 (aI r) [(0,vO 1 [(aI C0)])]:=by
 unfold lZ at h
 refine iy (fu:=Tryz.f107) (c:=C_3 1) (nt:=19) (fun hm=>absurd hm (by decide)) ?_
 intro E hE
 refine aj hE 1 [] [] (kp [0,1]) (kq [0]) 17 pn ?_
 refine aj hE 2 [] [] (kp [0,1,7,8]) (kq [0]) 65 pn ?_
 exact de hE 2 [] (kp [0,1,7,8]) (kq [0]) 1 pn (sb N _ _ N _ _ h E hE)
noncomputable abbrev C_2:=cG Tryz.f70
theorem sd (N s C0 r) (h:ku N s C0=some r):Sd 70 [(aN Aj aH.d s),(.fn (.func 71) [] [(.op 0 0 0)])] [(0,vO 1 [(aI C0)])] 1 (aB r) [(0,vO 1 [(aI C0)])]:=by
 unfold ku at h
 refine iy (fu:=Tryz.f70) (c:=C_2 1) (nt:=9) (fun hm=>absurd hm (by decide)) ?_
 intro E hE
 refine aj hE 1 [] [] (kp [0,1]) (kq [0]) 17 pn ?_
 obtain ⟨MK,hr,h⟩:=bt h
 refine aj hE 1 [(2,⟨[0],true,(aI MK),[],0,false,none⟩)] [] (kp [4]) (kq [0]) 97 (pc (ue _ _ _ _ hr) pn) ?_
 obtain rfl:=dx h
 exact dQ hE 0 Tryz.f70 [] (kp [4]) (kq [0]) 97 pn [] pn
noncomputable abbrev C_1:=cG Tryz.f32
theorem vL (N n l r) (h:lg N n l=some r):Sd 32 [(aI n),(aN Aj aH.d l)] [] 0 (aI r) []:=by
 unfold lg at h
 refine iy (fu:=Tryz.f32) (c:=C_1 1) (nt:=17) (fun hm=>rfl) ?_
 intro E hE
 refine aj hE 1 [] [] (kp [1,2]) (kq [0]) 32 pn ?_
 refine aj hE 2 [] [] (kp [1,2,10]) (kq [0]) 128 (pc o1 (pc (fun hg:(!(decide (n < 0)))=true=>(pc o1 pn)) (pc (fun hg:(!(decide (n < 0)))=true=>(pc hg pn)) (pc (fun hq:(!(decide (n < 0)))=true=>(pc hq pn)) pn)))) ?_
 refine dS 0 10 h (fun dR h=>?_) (fun dR h=>?_)
 ·refine aj hE 1 [] [] (kp [4]) [] 144 pn ?_
  obtain rfl:=dx h
  exact dQ hE 0 Tryz.f32 [] (kp [4]) [] 144 pn [] pn
 ·refine aj hE 3 [] [] (kp [1,2,13]) (kq [0]) 176 pn ?_
  refine dS 0 13 h (fun iU h=>?_) (fun iU h=>?_)
  ·refine aj hE 1 [] [] (kp [4]) [] 192 pn ?_
   obtain rfl:=dx h
   exact dQ hE 0 Tryz.f32 [] (kp [4]) [] 192 pn [] pn
  ·obtain ⟨MK,hr,h⟩:=bt h
   refine aj hE 3 [(2,⟨[0],true,(aB MK),[],0,false,none⟩)] [] (kp [16]) [] 224 (pc (sd _ _ _ _ hr) pn) ?_
   refine dS 0 16 h (fun rm h=>?_) (fun rm h=>?_)
   ·refine aj hE 1 [] [] (kp [4]) [] 240 pn ?_
    obtain rfl:=dx h
    exact dQ hE 0 Tryz.f32 [] (kp [4]) [] 240 pn [] pn
   ·refine aj hE 2 [] [] (kp [4]) [] 240 pn ?_
    obtain rfl:=dx h
    exact dQ hE 0 Tryz.f32 [] (kp [4]) [] 240 pn [] pn
noncomputable abbrev C_8:=cG Tryz.f102
def CV (N:Nat) (K:Int→(List Int)→Option ((List Int))):Prop:=∀ (n2:Int) (out:List Int) (r:(List Int)),K n2 out=some r→∀ E,aQ E 0→az Tryz.prog E 102 14 (aY E [] (eU r)) [.code (C_8 56),.inLoop (C_8 56),.inBlock 0,.code (C_8 15)] ⟨[(0,(Is n2)),(3,(.os 0 0 out.length))],[(0,aU out)],1⟩
theorem BH (N fuel):CV N (jU N fuel):=by
 induction fuel with
 | zero=>intro _ _ r h;rw [jU.eq_1] at h;cases h
 | succ fuel ih =>
  intro n2 out r h E hE
  rw [jU.eq_2] at h
  refine aj hE 2 [] [] (kp [0,3,5]) (kq [0]) 33 pn ?_
  refine dS 0 5 h (fun dR h=>?_) (fun dR h=>?_)
  ·obtain ⟨c,h⟩:=ae h
   refine aj hE 3 [] [] (kp [0] ++ [(3,.lP ((out ++ ([(IntKind.u16.wrap (n2))]:List Int)).length))]) [(97,.arr 97 ((out ++ ([(IntKind.u16.wrap (n2))]:List Int)).length) (fun zi=>(cU .u16) ((out ++ ([(IntKind.u16.wrap (n2))]:List Int)).getD zi 0)))] 129 (pc (Eq.refl out.length) (pc c (pc (z1 1) (pc (show ∀ zi,zi < 1→AV.ko ((fun zi=>([[(wq (IntKind.u16.wrap (n2)))]]:List (List AV)).getD zi []) (bT 0 zi))=true from (zT rfl)) (pc (show (out.length+1)=(out ++ ([(IntKind.u16.wrap (n2))]:List Int)).length from (bA rfl rfl)) (pc (show out.length+1=(out ++ ([(IntKind.u16.wrap (n2))]:List Int)).length from (bA rfl rfl)) (pc (show ∀ zi,zi < (out ++ ([(IntKind.u16.wrap (n2))]:List Int)).length→(fun zi=>(cU .u16) ((out ++ ([(IntKind.u16.wrap (n2))]:List Int)).getD zi 0)) zi=((fun zm=>if zm < out.length then (fun zi=>(cU .u16) (out.getD zi 0)) zm else (fun zi=>([[(wq (IntKind.u16.wrap (n2)))]]:List (List AV)).getD zi []) (zm - out.length))) zi from (dT (cU .u16) 0 out ([(IntKind.u16.wrap (n2))]:List Int) rfl (fun _ _=>rfl) (fun zq j5=>dP (cU .u16) 0 ([(IntKind.u16.wrap (n2))]:List Int) zq j5))) pn))))))) ?_
   refine aj hE 1 [] [] (kp [0,3]) (kq [97]) 177 (pc (show (0:Int)≤16 by decide) pn) ?_
   exact de hE 1 [] (kp [0,3]) [(0,.ak 97)] 1 pn (ih _ _ _ h E hE)
  ·refine aj hE 2 [] [] (kp [2]) (kq [0]) 65 pn ?_
   obtain rfl:=dx h
   exact dQ hE 0 Tryz.f102 [0] [(2,.sl (out.length) (fun zi=>(cU .u16) (out.getD zi 0)))] [] 65 (pc (Eq.refl out.length) (pc (z1 out.length) (pc (aZ out.length (fun zi=>(cU .u16) (out.getD zi 0))) pn))) [] pn
theorem tE (N n r) (h:m7 N n=some r):Sd 102 [(Is n)] [] 0 (eU r) []:=by
 unfold m7 at h
 refine iy (fu:=Tryz.f102) (c:=C_8 1) (nt:=14) (fun hm=>rfl) ?_
 intro E hE
 refine aj hE 1 [] [] (kp [0]) [] 16 pn ?_
 refine aj hE 1 [] [] (kp [0,3]) [] 32 pn ?_
 exact de hE 3 [] (kp [0] ++ [(3,.sD 0)]) [(0,.nil 1 (fun zi=>(cU .u16) (([]:List Int).getD zi 0)))] 1 pn (BH N N _ _ _ h E hE)
noncomputable abbrev US:=cG Tryz.f57
def Hs (N:Nat) (K:(List Int)→Option ((List Int))):Prop:=∀ (n2:List Int) (r:(List Int)),K n2=some r→∀ E,aQ E 0→az Tryz.prog E 57 21 (aY E [] (eU r)) [.code (US 24),.inLoop (US 24),.inBlock 0,.code (US 7)] ⟨[(0,(eU n2))],[],0⟩
theorem FY (N fuel):Hs N (m8 N fuel):=by
 induction fuel with
 | zero=>intro _ r h;rw [m8.eq_1] at h;cases h
 | succ fuel ih =>
  intro n2 r h E hE
  rw [m8.eq_2] at h
  obtain ⟨c,h⟩:=ae h
  refine aj hE 2 [] [] (kp [0,14]) [] 192 (pc (fun hg:(decide (((n2.length:Nat):Int) > 0))=true=>(pc hg pn)) (pc (fun hg:(decide (((n2.length:Nat):Int) > 0))=true=>(pc hg pn)) (pc (fun hg:(decide (((n2.length:Nat):Int) > 0))=true=>(pc hg (pc hg (pc (c hg) pn)))) (pc (fun hg:(decide (((n2.length:Nat):Int) > 0))=true=>(pc hg pn)) (pc (fun hg:(decide (((n2.length:Nat):Int) > 0))=true=>(pc hg pn)) (pc (fun hq:(decide (((n2.length:Nat):Int) > 0))=true=>(pc hq pn)) pn)))))) ?_
  refine dS 0 14 h (fun dR h=>?_) (fun dR h=>?_)
  ·obtain ⟨c2,h⟩:=ae h
   obtain ⟨c3,h⟩:=ae h
   refine aj hE 2 [] [] [(0,.sl (((n2.take ((aq (((n2.length:Nat):Int) - 1)).toNat)).drop 0).length) (fun zi=>(cU .u16) (((n2.take ((aq (((n2.length:Nat):Int) - 1)).toNat)).drop 0).getD zi 0)))] [] 288 (pc c2 (pc c3 (pc (show (aq (((n2.length:Nat):Int) - 1)).toNat - 0=((n2.take ((aq (((n2.length:Nat):Int) - 1)).toNat)).drop 0).length from (Bz n2 0 ((aq (((n2.length:Nat):Int) - 1)).toNat) c2)) (pc (show ∀ zi,zi < ((n2.take ((aq (((n2.length:Nat):Int) - 1)).toNat)).drop 0).length→(fun zi=>(cU .u16) (((n2.take ((aq (((n2.length:Nat):Int) - 1)).toNat)).drop 0).getD zi 0)) zi=(fun zi=>(cU .u16) (n2.getD (bT 0 zi) 0)) zi from (fun zq j5=>Jd (cU .u16) 0 n2 0 ((aq (((n2.length:Nat):Int) - 1)).toNat) zq j5)) pn)))) ?_
   exact de hE 2 [] (kp [0]) [] 0 pn (ih _ _ h E hE)
  ·refine aj hE 2 [] [] (kp [2]) [] 224 pn ?_
   obtain rfl:=dx h
   exact dQ hE 0 Tryz.f57 [] (kp [2]) [] 224 pn [] pn
theorem ef (N n r) (h:fH N n=some r):Sd 57 [(eU n)] [] 0 (eU r) []:=by
 unfold fH at h
 refine iy (fu:=Tryz.f57) (c:=US 1) (nt:=21) (fun hm=>rfl) ?_
 intro E hE
 refine aj hE 1 [] [] (kp [0]) [] 16 pn ?_
 exact de hE 3 [] (kp [0]) [] 0 pn (FY N N _ _ h E hE)
noncomputable abbrev RJ:=cG Tryz.f96
theorem lv (N s r) (h:dz N s=some r):Sd 96 [(eU s)] [] 0 (eU r) []:=by
 unfold dz at h
 refine iy (fu:=Tryz.f96) (c:=RJ 1) (nt:=8) (fun hm=>rfl) ?_
 intro E hE
 refine aj hE 1 [] [] (kp [0]) [] 16 pn ?_
 refine aj hE 2 [] [] (kp [0,4]) [] 48 pn ?_
 refine sA 0 [.code (RJ 13),.code (RJ 7)] ?_
 refine az.Xg (o:=.tmp 4) (x:=RJ 26) (y:=RJ 27) (n:=s.length) (by kernel_rfl) (by kernel_rfl) (fun dR=>?_) ?_
 ·replace dR:=List.length_eq_zero_iff.1 dR
  replace h:(some ([]:List Int))=some r:=by rw [dR] at h;simpa using h
  refine aj hE 1 [] [] (kp [2]) [] 64 pn ?_
  obtain rfl:=dx h
  exact dQ hE 0 Tryz.f96 [] [(2,.sl (([]:List Int).length) (fun zi=>(cU .u16) (([]:List Int).getD zi 0)))] [] 64 (pc (Eq.refl 0) pn) [] pn
 ·obtain ⟨c,h⟩:=ae h
  refine aj hE 2 [] [] [(2,.lP ((([]:List Int) ++ s).length))] [(80,.arr 80 ((([]:List Int) ++ s).length) (fun zi=>(cU .u16) ((([]:List Int) ++ s).getD zi 0)))] 112 (pc (Eq.refl 0) (pc c (pc (show ∀ zi,zi < s.length→AV.ko ((fun zi=>(cU .u16) (s.getD zi 0)) zi)=true from (fun _ _=>rfl)) (pc (show (0+s.length)=(([]:List Int) ++ s).length from (bA rfl rfl)) (pc (show 0+s.length=(([]:List Int) ++ s).length from (bA rfl rfl)) (pc (show ∀ zi,zi < (([]:List Int) ++ s).length→(fun zi=>(cU .u16) ((([]:List Int) ++ s).getD zi 0)) zi=((fun zm=>if zm < 0 then (fun _=>[]) zm else (fun zi=>(cU .u16) (s.getD zi 0)) (zm - 0))) zi from (dT (cU .u16) 0 ([]:List Int) s rfl (fun zq j5=>absurd j5 (dN _)) (fun _ _=>rfl))) pn)))))) ?_
  obtain rfl:=dx h
  exact dQ hE 0 Tryz.f96 [80] [(2,.sl ((([]:List Int) ++ s).length) (fun zi=>(cU .u16) ((([]:List Int) ++ s).getD zi 0)))] [] 112 (pc (Eq.refl ((([]:List Int) ++ s).length)) (pc (z1 ((([]:List Int) ++ s).length)) (pc (aZ ((([]:List Int) ++ s).length) (fun zi=>(cU .u16) ((([]:List Int) ++ s).getD zi 0))) pn))) [] pn
noncomputable abbrev C_9:=cG Tryz.f61
theorem gz (N neg n r) (h:gH N neg n=some r):Sd 61 [(aB neg),(eU n)] [] 0 (.agg (im r)) []:=by
 unfold gH at h
 refine iy (fu:=Tryz.f61) (c:=C_9 1) (nt:=15) (fun hm=>rfl) ?_
 intro E hE
 refine aj hE 1 [] [] (kp [0,1,4]) (kq [0]) 16 pn ?_
 obtain ⟨b8,hr,h⟩:=bt h
 refine aj hE 1 [(1,oT (eU b8))] [] (kp [0,1,4]) (kq [0]) 64 (pc (ef _ _ _ hr) pn) ?_
 refine aj hE 2 [] [] (kp [0,1,4,9]) (kq [0]) 112 pn ?_
 refine dS 0 9 h (fun dR h=>?_) (fun dR h=>?_)
 ·refine aj hE 1 [] [] (kp [4]) (kq [0]) 144 (pc o1 pn) ?_
  obtain rfl:=dx h
  exact dQ hE 0 Tryz.f61 [] (kp [4]) [(16,.var 0 [.ak,.sl (([]:List Int).length) (fun zi=>(cU .u16) (([]:List Int).getD zi 0))])] 144 (pc (Eq.refl 0) pn) [16] (pc o1 pn)
 ·obtain ⟨AH,eW,h⟩:=bt h
  refine aj hE 2 [(2,oT (eU AH))] [] (kp [4]) (kq [0]) 192 (pc (lv _ _ _ eW) (pc o1 pn)) ?_
  obtain rfl:=dx h
  exact dQ hE 0 Tryz.f61 [] (kp [4]) [(16,.ak 0)] 192 pn [16] (pc o1 pn)
noncomputable abbrev C_7:=cG Tryz.f64
theorem CW (N n r) (h:AI N n=some r):Sd 64 [(aI n)] [] 0 (.agg (im r)) []:=by
 unfold AI at h
 refine iy (fu:=Tryz.f64) (c:=C_7 1) (nt:=14) (fun hm=>rfl) ?_
 intro E hE
 refine aj hE 1 [] [] (kp [0,2]) (kq [0]) 16 pn ?_
 refine aj hE 2 [] [] (kp [0,2,4]) (kq [0]) 48 pn ?_
 refine dS 0 4 h (fun dR h=>?_) (fun dR h=>?_)
 ·obtain ⟨tw,hr,h⟩:=bt h
  obtain ⟨Jm,eW,h⟩:=bt h
  refine aj hE 1 [(3,oT (eU tw)),(4,oT (.agg (im Jm)))] [] (kp [2]) (kq [0]) 144 (pc (tE _ _ _ hr) (pc (gz _ _ _ _ eW) (pc o1 pn))) ?_
  obtain rfl:=dx h
  exact dQ hE 0 Tryz.f64 [] (kp [2]) [(16,.ak 0)] 144 pn [16] (pc o1 pn)
 ·obtain ⟨CR,ly,h⟩:=bt h
  obtain ⟨AJ,oi,h⟩:=bt h
  refine aj hE 2 [(2,oT (eU CR)),(3,oT (.agg (im AJ)))] [] (kp [2]) (kq [0]) 128 (pc (tE _ _ _ ly) (pc (gz _ _ _ _ oi) (pc o1 pn))) ?_
  obtain rfl:=dx h
  exact dQ hE 0 Tryz.f64 [] (kp [2]) [(16,.ak 0)] 128 pn [16] (pc o1 pn)
noncomputable abbrev UT:=cG Tryz.f118
def Ht (N:Nat) (n:List Int) (K:Int→Int→Option (Int×Bool)):Prop:=∀ (out:Int) (i:Int) (r:Int×Bool),K out i=some r→∀ E,aQ E 0→az Tryz.prog E 118 25 (aY E [] (.tup [(Is r.1),(aB r.2)])) [.code (UT 244),.inLoop (UT 244),.inBlock 0,.code (UT 31)] ⟨[(0,(eU n)),(4,(Is out)),(5,(aI i))],[],0⟩
theorem FZ (N n fuel):Ht N n (lQ N n fuel):=by
 induction fuel with
 | zero=>intro _ _ r h;rw [lQ.eq_1] at h;cases h
 | succ fuel ih =>
  intro out i r h E hE
  rw [lQ.eq_2] at h
  refine aj hE 2 [] [] (kp [0,4,5,13]) [] 32 pn ?_
  refine dS 0 13 h (fun iU h=>?_) (fun iU h=>?_)
  ·obtain ⟨c,h⟩:=ae h
   refine aj hE 3 [] [] (kp [0,4,5]) [] 176 (pc (show (0:Int)≤16 by decide) (pc c pn)) ?_
   refine aj hE 1 [] [] (kp [0,4,5]) [] 224 pn ?_
   exact de hE 1 [] (kp [0,4,5]) [] 0 pn (ih _ _ _ h E hE)
  ·refine aj hE 2 [] [] (kp [2,3]) [] 80 pn ?_
   obtain rfl:=dx h
   exact dQ hE 0 Tryz.f118 [] (kp [2,3]) [] 80 pn [] pn
theorem DM (N n r) (h:vC N n=some r):Sd 118 [(eU n)] [] 0 (.tup [(Is r.1),(aB r.2)]) []:=by
 unfold vC at h
 refine iy (fu:=Tryz.f118) (c:=UT 1) (nt:=25) (fun hm=>rfl) ?_
 intro E hE
 refine aj hE 1 [] [] (kp [0]) [] 32 pn ?_
 refine aj hE 2 [] [] (kp [0,8]) [] 80 pn ?_
 refine dS 0 8 h (fun dR h=>?_) (fun dR h=>?_)
 ·refine aj hE 1 [] [] (kp [2,3]) [] 112 pn ?_
  obtain rfl:=dx h
  exact dQ hE 0 Tryz.f118 [] (kp [2,3]) [] 112 pn [] pn
 ·refine aj hE 2 [] [] (kp [0,4]) [] 96 pn ?_
  refine aj hE 2 [] [] (kp [0,4,5]) [] 160 pn ?_
  exact de hE 2 [] (kp [0,4,5]) [] 0 pn (FZ N _ N _ _ _ h E hE)
noncomputable abbrev UU:=cG Tryz.f95
def CX (N:Nat) (a:List Int) (b:List Int) (K:Int→Option (Int)):Prop:=∀ (i:Int) (r:Int),K i=some r→∀ E,aQ E 0→az Tryz.prog E 95 43 (aY E [] (aI r)) [.code (UU 116),.inLoop (UU 116),.inBlock 0,.code (UU 15)] ⟨[(0,(eU a)),(1,(eU b)),(5,(aI i))],[],0⟩
theorem BI (N a b fuel):CX N a b (iE N a b fuel):=by
 induction fuel with
 | zero=>intro _ r h;rw [iE.eq_1] at h;cases h
 | succ fuel ih =>
  intro i r h E hE
  rw [iE.eq_2] at h
  refine aj hE 2 [] [] (kp [0,1,5,20]) [] 32 pn ?_
  refine dS 0 20 h (fun iU h=>?_) (fun iU h=>?_)
  ·obtain ⟨c,h⟩:=ae h
   obtain ⟨c2,h⟩:=ae h
   refine aj hE 4 [] [] (kp [0,1,5,31]) [] 176 (pc c (pc c2 pn)) ?_
   refine dS 0 31 h (fun rm h=>?_) (fun rm h=>?_)
   ·refine aj hE 1 [] [] (kp [4]) [] 368 (pc c (pc c2 pn)) ?_
    obtain rfl:=dx h
    exact dQ hE 0 Tryz.f95 [] (kp [4]) [] 368 pn [] pn
   ·refine aj hE 2 [] [] (kp [0,1,5]) [] 224 pn ?_
    exact de hE 1 [] (kp [0,1,5]) [] 0 pn (ih _ _ h E hE)
  ·refine aj hE 2 [] [] (kp [4]) [] 48 pn ?_
   obtain rfl:=dx h
   exact dQ hE 0 Tryz.f95 [] (kp [4]) [] 48 pn [] pn
theorem ym (N a b r) (h:na N a b=some r):Sd 95 [(eU a),(eU b)] [] 0 (aI r) []:=by
 unfold na at h
 refine iy (fu:=Tryz.f95) (c:=UU 1) (nt:=43) (fun hm=>rfl) ?_
 intro E hE
 refine aj hE 1 [] [] (kp [0,1]) [] 16 pn ?_
 refine aj hE 2 [] [] (kp [0,1,10]) [] 96 pn ?_
 refine dS 0 10 h (fun dR h=>?_) (fun dR h=>?_)
 ·refine aj hE 1 [] [] (kp [4]) [] 192 pn ?_
  obtain rfl:=dx h
  exact dQ hE 0 Tryz.f95 [] (kp [4]) [] 192 pn [] pn
 ·refine aj hE 3 [] [] (kp [0,1,5]) [] 160 pn ?_
  exact de hE 2 [] (kp [0,1,5]) [] 0 pn (BI N _ _ N _ _ h E hE)
noncomputable abbrev UW:=cG Tryz.f97
def F0 (N:Nat) (a:List Int) (b:Int) (K:(List Int)→Int→Int→Option ((List Int)×Int)):Prop:=∀ (q:List Int) (rest:Int) (i:Int) (r:(List Int)×Int),K q rest i=some r→∀ E,aQ E 0→az Tryz.prog E 97 43 (aY E [] (.tup [(eU r.1),(wq r.2)])) [.code (UW 244),.inLoop (UW 244),.inBlock 0,.code (UW 31)] ⟨[(0,(eU a)),(1,(wq b)),(6,(.os 0 0 q.length)),(7,(UR rest)),(8,(aI i))],[(0,aU q)],1⟩
theorem D4 (N a b fuel):F0 N a b (kK N a b fuel):=by
 induction fuel with
 | zero=>intro _ _ _ r h;rw [kK.eq_1] at h;cases h
 | succ fuel ih =>
  intro q rest i r h E hE
  rw [kK.eq_2] at h
  refine aj hE 2 [] [] (kp [0,1,6,7,8,16]) (kq [0]) 33 pn ?_
  refine dS 0 16 h (fun dR h=>?_) (fun dR h=>?_)
  ·obtain ⟨c2,h⟩:=ae h
   refine aj hE 4 [] [] (kp [0,1,6,7,8]) (kq [0]) 177 (pc (show (0:Int)≤16 by decide) (pc c2 pn)) ?_
   obtain ⟨c3,h⟩:=ae h
   obtain ⟨c4,h⟩:=ae h
   refine aj hE 1 [] [] (kp [0,1] ++ [(6,.lP ((q.set ((i).toNat) (IntKind.u16.wrap ((IntKind.u32.wrap ((vz .u32 (iC .u32 rest 16) (IntKind.u32.wrap ((a.getD ((i).toNat) 0)))).tdiv (IntKind.u32.wrap (b))))))).length))] ++ kp [7,8]) [(0,.arr 0 ((q.set ((i).toNat) (IntKind.u16.wrap ((IntKind.u32.wrap ((vz .u32 (iC .u32 rest 16) (IntKind.u32.wrap ((a.getD ((i).toNat) 0)))).tdiv (IntKind.u32.wrap (b))))))).length) (fun zi=>(cU .u16) ((q.set ((i).toNat) (IntKind.u16.wrap ((IntKind.u32.wrap ((vz .u32 (iC .u32 rest 16) (IntKind.u32.wrap ((a.getD ((i).toNat) 0)))).tdiv (IntKind.u32.wrap (b))))))).getD zi 0)))] 321 (pc c3 (pc c4 (pc (dq c4) (pc (aJ q ((i).toNat) (IntKind.u16.wrap ((IntKind.u32.wrap ((vz .u32 (iC .u32 rest 16) (IntKind.u32.wrap ((a.getD ((i).toNat) 0)))).tdiv (IntKind.u32.wrap (b))))))) (pc (aJ q ((i).toNat) (IntKind.u16.wrap ((IntKind.u32.wrap ((vz .u32 (iC .u32 rest 16) (IntKind.u32.wrap ((a.getD ((i).toNat) 0)))).tdiv (IntKind.u32.wrap (b))))))) (pc (cR (cU .u16) 0 q ((i).toNat) (IntKind.u16.wrap ((IntKind.u32.wrap ((vz .u32 (iC .u32 rest 16) (IntKind.u32.wrap ((a.getD ((i).toNat) 0)))).tdiv (IntKind.u32.wrap (b))))))) pn)))))) ?_
   refine aj hE 0 [] [] (kp [0,1,6,7,8]) (kq [0]) 401 (pc c3 pn) ?_
   refine aj hE 1 [] [] (kp [0,1,6,7,8]) (kq [0]) 449 pn ?_
   exact de hE 1 [] (kp [0,1,6,7,8]) (kq [0]) 1 pn (ih _ _ _ _ h E hE)
  ·obtain ⟨b8,hr,h⟩:=bt h
   refine aj hE 2 [(1,⟨[],true,(eU b8),[],0,true,none⟩)] [] (kp [4,5]) [] 129 (pc (ef _ _ _ hr) (pc (z1 q.length) pn)) ?_
   obtain rfl:=dx h
   exact dQ hE 0 Tryz.f97 [] (kp [4,5]) [] 129 pn [] pn
theorem Ju (N a b r) (h:vD N a b=some r):Sd 97 [(eU a),(wq b)] [] 0 (.tup [(eU r.1),(wq r.2)]) []:=by
 unfold vD at h
 refine iy (fu:=Tryz.f97) (c:=UW 1) (nt:=43) (fun hm=>rfl) ?_
 intro E hE
 refine aj hE 1 [] [] (kp [0,1]) [] 32 pn ?_
 obtain ⟨c,h⟩:=ae h
 refine aj hE 1 [] [] (kp [0,1] ++ [(6,.lP ((List.replicate a.length 0:List Int).length))]) [(64,.arr 64 ((List.replicate a.length 0:List Int).length) (fun zi=>(cU .u16) ((List.replicate a.length 0:List Int).getD zi 0)))] 96 (pc (show 0≤((a.length:Nat):Int) from c.1) (pc (show ((a.length:Nat):Int)≤((a.length:Nat):Int) from (Int.le_refl _)) (pc (show (2:Int) * ((a.length:Nat):Int)≤281474976710656 from c.2.1) (pc (show ((a.length:Nat):Int)≤9223372036854775807 from c.2.2) (pc (show a.length=(List.replicate a.length 0:List Int).length from (dn).symm) (pc (show a.length=(List.replicate a.length 0:List Int).length from (dn).symm) (pc (show ∀ zi,zi < (List.replicate a.length 0:List Int).length→(fun zi=>(cU .u16) ((List.replicate a.length 0:List Int).getD zi 0)) zi=(fun _=>[(wq 0)]) zi from (fun zq j5=>qK (cU .u16) 0 0 a.length zq j5)) pn))))))) ?_
 refine aj hE 1 [] [] (kp [0,1,6,7]) (kq [64]) 112 pn ?_
 refine aj hE 2 [] [] (kp [0,1,6,7,8]) (kq [64]) 176 pn ?_
 exact de hE 2 [] (kp [0,1,6,7,8]) [(0,.ak 64)] 1 pn (D4 N _ _ N _ _ _ _ h E hE)
noncomputable abbrev Xy:=cG Tryz.f117
def wW (N:Nat) (K:Int→Int→Option (Int)):Prop:=∀ (x2:Int) (n:Int) (r:Int),K x2 n=some r→∀ E,aQ E 0→az Tryz.prog E 117 13 (aY E [] (aI r)) [.code (Xy 14),.code (Xy 15)] ⟨[(0,(wq x2)),(2,(aI n))],[],0⟩
theorem pK (N):wW N (cN N):=by
 intro x2 n r h E hE
 unfold cN at h
 obtain ⟨c,h⟩:=ae h
 refine aj hE 0 [] [] (kp [2]) [] 112 (pc c pn) ?_
 obtain rfl:=dx h
 exact dQ hE 0 Tryz.f117 [] (kp [2]) [] 112 pn [] pn
theorem yn (N x r) (h:kL N x=some r):Sd 117 [(wq x)] [] 0 (aI r) []:=by
 unfold kL at h
 refine iy (fu:=Tryz.f117) (c:=Xy 1) (nt:=13) (fun hm=>rfl) ?_
 intro E hE
 refine aj hE 1 [] [] (kp [0,2]) [] 16 pn ?_
 refine aj hE 2 [] [] (kp [0,2,4]) [] 48 pn ?_
 refine dS 0 4 h (fun dR h=>?_) (fun dR h=>?_)
 ·refine aj hE 1 [] [] (kp [0]) [] 96 (pc (show (0:Int)≤8 by decide) pn) ?_
  refine aj hE 0 [] [] (kp [0,2]) [] 112 pn ?_
  exact de hE 1 [] (kp [0,2]) [] 0 pn (pK N _ _ _ h E hE)
 ·exact de hE 2 [] (kp [0,2]) [] 0 pn (pK N _ _ _ h E hE)
noncomputable abbrev acr:=cG Tryz.f98
theorem ru (N x r) (h:eY N x=some r):Sd 98 [(wq x)] [] 0 (aI r) []:=by
 unfold eY at h
 refine iy (fu:=Tryz.f98) (c:=acr 1) (nt:=6) (fun hm=>rfl) ?_
 intro E hE
 refine aj hE 1 [] [] (kp [0]) [] 16 pn ?_
 obtain ⟨ML,hr,h⟩:=bt h
 refine aj hE 1 [(1,oT (aI ML))] [] (kp [2]) [] 80 (pc (yn _ _ _ hr) pn) ?_
 obtain rfl:=dx h
 exact dQ hE 0 Tryz.f98 [] (kp [2]) [] 80 pn [] pn
noncomputable abbrev UX:=cG Tryz.f99
def CY (N:Nat) (a:List Int) (zW:Int) (K:(List Int)→Int→Option ((List Int))):Prop:=∀ (out:List Int) (x:Int) (r:(List Int)),K out x=some r→∀ E,aQ E 0→az Tryz.prog E 99 41 (aY E [(0,aU r)] (.os 0 0 r.length)) [.code (UX 116),.inLoop (UX 116),.inBlock 0,.code (UX 15)] ⟨[(1,(aI zW)),(5,(.os 0 0 out.length)),(13,(eU a)),(14,(aI ((a.length:Nat):Int))),(15,(aI x))],[(0,aU out)],1⟩
theorem BJ (N a zW fuel):CY N a zW (iG N a zW fuel):=by
 induction fuel with
 | zero=>intro _ _ r h;rw [iG.eq_1] at h;cases h
 | succ fuel ih =>
  intro out x r h E hE
  rw [iG.eq_2] at h
  refine aj hE 1 [] [] (kp [1,5,13,14,15,16]) (kq [0]) 17 pn ?_
  refine dS 1 16 h (fun dR h=>?_) (fun dR h=>?_)
  ·obtain ⟨c2,h⟩:=ae h
   refine aj hE 4 [] [] (kp [1,5,6,7,13,14,15]) (kq [0]) 97 (pc c2 pn) ?_
   obtain ⟨c3,h⟩:=ae h
   refine aj hE 1 [] [] (kp [1,5,6,8,13,14,15]) (kq [0]) 177 (pc c3 pn) ?_
   obtain ⟨c4,h⟩:=ae h
   refine aj hE 1 [] [] (kp [1] ++ [(5,.lP ((out.set ((x).toNat) (vz .u16 (out.getD ((x).toNat) 0) (IntKind.u16.wrap ((iC .u32 (IntKind.u32.wrap ((a.getD ((x).toNat) 0))) zW))))).length))] ++ kp [6,8,13,14,15]) [(0,.arr 0 ((out.set ((x).toNat) (vz .u16 (out.getD ((x).toNat) 0) (IntKind.u16.wrap ((iC .u32 (IntKind.u32.wrap ((a.getD ((x).toNat) 0))) zW))))).length) (fun zi=>(cU .u16) ((out.set ((x).toNat) (vz .u16 (out.getD ((x).toNat) 0) (IntKind.u16.wrap ((iC .u32 (IntKind.u32.wrap ((a.getD ((x).toNat) 0))) zW))))).getD zi 0)))] 321 (pc c4 (pc (dq c4) (pc c4 (pc (dq c4) (pc (aJ out ((x).toNat) (vz .u16 (out.getD ((x).toNat) 0) (IntKind.u16.wrap ((iC .u32 (IntKind.u32.wrap ((a.getD ((x).toNat) 0))) zW))))) (pc (aJ out ((x).toNat) (vz .u16 (out.getD ((x).toNat) 0) (IntKind.u16.wrap ((iC .u32 (IntKind.u32.wrap ((a.getD ((x).toNat) 0))) zW))))) (pc (cR (cU .u16) 0 out ((x).toNat) (vz .u16 (out.getD ((x).toNat) 0) (IntKind.u16.wrap ((iC .u32 (IntKind.u32.wrap ((a.getD ((x).toNat) 0))) zW))))) pn))))))) ?_
   obtain ⟨c5,h⟩:=ae h
   refine aj hE 0 [] [] (kp [1] ++ [(5,.lP (((out.set ((x).toNat) (vz .u16 (out.getD ((x).toNat) 0) (IntKind.u16.wrap ((iC .u32 (IntKind.u32.wrap ((a.getD ((x).toNat) 0))) zW))))).set ((aq (x+1)).toNat) (IntKind.u16.wrap ((ow .u32 (iC .u32 (IntKind.u32.wrap ((a.getD ((x).toNat) 0))) zW) 16)))).length))] ++ kp [13,14,15]) [(0,.arr 0 (((out.set ((x).toNat) (vz .u16 (out.getD ((x).toNat) 0) (IntKind.u16.wrap ((iC .u32 (IntKind.u32.wrap ((a.getD ((x).toNat) 0))) zW))))).set ((aq (x+1)).toNat) (IntKind.u16.wrap ((ow .u32 (iC .u32 (IntKind.u32.wrap ((a.getD ((x).toNat) 0))) zW) 16)))).length) (fun zi=>(cU .u16) (((out.set ((x).toNat) (vz .u16 (out.getD ((x).toNat) 0) (IntKind.u16.wrap ((iC .u32 (IntKind.u32.wrap ((a.getD ((x).toNat) 0))) zW))))).set ((aq (x+1)).toNat) (IntKind.u16.wrap ((ow .u32 (iC .u32 (IntKind.u32.wrap ((a.getD ((x).toNat) 0))) zW) 16)))).getD zi 0)))] 449 (pc (show (0:Int)≤16 by decide) (pc c5 (pc (dq c5) (pc (aJ (out.set ((x).toNat) (vz .u16 (out.getD ((x).toNat) 0) (IntKind.u16.wrap ((iC .u32 (IntKind.u32.wrap ((a.getD ((x).toNat) 0))) zW))))) ((aq (x+1)).toNat) (IntKind.u16.wrap ((ow .u32 (iC .u32 (IntKind.u32.wrap ((a.getD ((x).toNat) 0))) zW) 16)))) (pc (aJ (out.set ((x).toNat) (vz .u16 (out.getD ((x).toNat) 0) (IntKind.u16.wrap ((iC .u32 (IntKind.u32.wrap ((a.getD ((x).toNat) 0))) zW))))) ((aq (x+1)).toNat) (IntKind.u16.wrap ((ow .u32 (iC .u32 (IntKind.u32.wrap ((a.getD ((x).toNat) 0))) zW) 16)))) (pc (cR (cU .u16) 0 (out.set ((x).toNat) (vz .u16 (out.getD ((x).toNat) 0) (IntKind.u16.wrap ((iC .u32 (IntKind.u32.wrap ((a.getD ((x).toNat) 0))) zW))))) ((aq (x+1)).toNat) (IntKind.u16.wrap ((ow .u32 (iC .u32 (IntKind.u32.wrap ((a.getD ((x).toNat) 0))) zW) 16)))) pn)))))) ?_
   refine aj hE 1 [] [] (kp [1,5,13,14,15]) (kq [0]) 481 pn ?_
   exact de hE 1 [] (kp [1,5,13,14,15]) (kq [0]) 1 pn (ih _ _ _ h E hE)
  ·refine aj hE 2 [] [] (kp [4]) (kq [0]) 49 pn ?_
   obtain rfl:=dx h
   exact dQ hE 0 Tryz.f99 [] (kp [4]) (kq [0]) 49 pn [] pn
theorem yp (N a zW r) (h:pC N a zW=some r):Sd 99 [(eU a),(aI zW)] [] 0 (.os 0 0 r.length) [(0,aU r)]:=by
 unfold pC at h
 refine iy (fu:=Tryz.f99) (c:=UX 1) (nt:=41) (fun hm=>rfl) ?_
 intro E hE
 refine aj hE 1 [] [] (kp [0,1]) [] 16 pn ?_
 obtain ⟨c,h⟩:=ae h
 refine aj hE 1 [] [] (kp [0,1] ++ [(5,.lP ((List.replicate ((aq (((a.length:Nat):Int)+1)).toNat) 0:List Int).length))]) [(64,.arr 64 ((List.replicate ((aq (((a.length:Nat):Int)+1)).toNat) 0:List Int).length) (fun zi=>(cU .u16) ((List.replicate ((aq (((a.length:Nat):Int)+1)).toNat) 0:List Int).getD zi 0)))] 96 (pc (show 0≤(aq (((a.length:Nat):Int)+1)) from c.1) (pc (show (aq (((a.length:Nat):Int)+1))≤(aq (((a.length:Nat):Int)+1)) from (Int.le_refl _)) (pc (show (2:Int) * (aq (((a.length:Nat):Int)+1))≤281474976710656 from c.2.1) (pc (show (aq (((a.length:Nat):Int)+1))≤9223372036854775807 from c.2.2) (pc (show (aq (((a.length:Nat):Int)+1)).toNat=(List.replicate ((aq (((a.length:Nat):Int)+1)).toNat) 0:List Int).length from (dn).symm) (pc (show (aq (((a.length:Nat):Int)+1)).toNat=(List.replicate ((aq (((a.length:Nat):Int)+1)).toNat) 0:List Int).length from (dn).symm) (pc (show ∀ zi,zi < (List.replicate ((aq (((a.length:Nat):Int)+1)).toNat) 0:List Int).length→(fun zi=>(cU .u16) ((List.replicate ((aq (((a.length:Nat):Int)+1)).toNat) 0:List Int).getD zi 0)) zi=(fun _=>[(wq 0)]) zi from (fun zq j5=>qK (cU .u16) 0 0 ((aq (((a.length:Nat):Int)+1)).toNat) zq j5)) pn))))))) ?_
 refine aj hE 2 [] [] (kp [1,5,13,14,15]) (kq [64]) 144 pn ?_
 exact de hE 2 [] (kp [1,5,13,14,15]) [(0,.ak 64)] 1 pn (BJ N _ _ N _ _ _ h E hE)
noncomputable abbrev xI:=cG Tryz.f100
def F1 (N:Nat) (uo:Nat) (un:Nat) (v:List Int) (C0:List Int) (K:Int→Int→Option (Int×(List Int))):Prop:=∀ (q:Int) (rest:Int) (r:Int×(List Int)),K q rest=some r→∀ E,aQ E 1→az Tryz.prog E 100 161 (aY E [(0,aU r.2)] (wq r.1)) [.code (xI 248),.inLoop (xI 248),.inBlock 0,.code (xI 63)] ⟨[(0,(.os 0 uo un)),(1,(eU v)),(5,(aI ((v.length:Nat):Int))),(7,(Is q)),(8,(Is rest))],[(0,aU C0)],1⟩
def yq (N:Nat) (uo:Nat) (un:Nat) (v:List Int) (q:Int) (K:(List Int)→Int→Int→Int→Option (Int×(List Int))):Prop:=∀ (bc:List Int) (carry:Int) (borrow:Int) (x:Int) (r:Int×(List Int)),K bc carry borrow x=some r→∀ E,aQ E 1→az Tryz.prog E 100 161 (aY E [(0,aU r.2)] (wq r.1)) [.code (xI 2036),.inLoop (xI 2036),.inBlock 2,.code (xI 255)] ⟨[(0,(.os 0 uo un)),(1,(eU v)),(5,(aI ((v.length:Nat):Int))),(7,(Is q)),(9,(Is carry)),(10,(aI borrow)),(84,(aI (aq (((v.length:Nat):Int)+1)))),(85,(aI x))],[(0,aU bc)],1⟩
def F2 (N:Nat) (uo:Nat) (un:Nat) (v:List Int) (q:Int) (bc:List Int) (borrow:Int) (x:Int) (K:Int→Option (Int×(List Int))):Prop:=∀ (x2:Int) (r:Int×(List Int)),K x2=some r→∀ E,aQ E 1→az Tryz.prog E 100 161 (aY E [(0,aU r.2)] (wq r.1)) [.code (xI 521422),.code (xI 521423),.inBlock 3,.code (xI 16295),.inLoop (xI 2036),.inBlock 2,.code (xI 255)] ⟨[(0,(.os 0 uo un)),(1,(eU v)),(5,(aI ((v.length:Nat):Int))),(7,(Is q)),(10,(aI borrow)),(11,(aI x)),(12,(Is x2)),(84,(aI (aq (((v.length:Nat):Int)+1)))),(85,(aI x))],[(0,aU bc)],1⟩
theorem xw (N:Nat) (uo:Nat) (un:Nat) (v:List Int) (q:Int) (bc:List Int) (borrow:Int) (x:Int) (pV:(List Int)→Int→Int→Int→Option (Int×(List Int))) (D5:yq N uo un v q pV):F2 N uo un v q bc borrow x (nO N uo un v q bc borrow x pV):=by
 intro x2 r h E hE
 unfold nO at h
 refine aj hE 0 [] [] (kp [0,1,5,7,9,10,11,12,84,85]) (kq [0]) 49 (pc (show (0:Int)≤16 by decide) pn) ?_
 obtain ⟨L0,h⟩:=ae h
 obtain ⟨RK,h⟩:=ae h
 refine aj hE 1 [] [] (kp [0,1,5,7,9,11,13,84,85]) (kq [0]) 241 (pc L0 (pc (show (bT uo (x).toNat) < bc.length by have h1:=L0;have h2:=RK;simp only [dk];omega) pn)) ?_
 refine aj hE 1 [] [] (kp [0,1,5,7,9,13,84,85]) [(0,.arr 0 ((bc.set (bT uo (x).toNat) (IntKind.u16.wrap ((aq ((aq ((aq ((bc.getD (bT uo (x).toNat) 0))) - (aq ((vA .u64 x2 65535)))))+borrow))))).length) (fun zi=>(cU .u16) ((bc.set (bT uo (x).toNat) (IntKind.u16.wrap ((aq ((aq ((aq ((bc.getD (bT uo (x).toNat) 0))) - (aq ((vA .u64 x2 65535)))))+borrow))))).getD zi 0)))] 337 (pc L0 (pc (show (bT uo (x).toNat) < bc.length by have h1:=L0;have h2:=RK;simp only [dk];omega) (pc (aJ bc (bT uo (x).toNat) (IntKind.u16.wrap ((aq ((aq ((aq ((bc.getD (bT uo (x).toNat) 0))) - (aq ((vA .u64 x2 65535)))))+borrow))))) (pc (cR (cU .u16) 0 bc (bT uo (x).toNat) (IntKind.u16.wrap ((aq ((aq ((aq ((bc.getD (bT uo (x).toNat) 0))) - (aq ((vA .u64 x2 65535)))))+borrow))))) pn)))) ?_
 refine aj hE 0 [] [] (kp [0,1,5,7,9,10,84,85]) (kq [0]) 385 (pc (show (0:Int)≤16 by decide) pn) ?_
 refine aj hE 1 [] [] (kp [0,1,5,7,9,10,84,85]) (kq [0]) 417 pn ?_
 exact de hE 1 [] (kp [0,1,5,7,9,10,84,85]) (kq [0]) 1 pn (D5 _ _ _ _ _ h E hE)
def F3 (N:Nat) (uo:Nat) (un:Nat) (v:List Int) (q:Int) (K:(List Int)→Int→Int→Option (Int×(List Int))):Prop:=∀ (bZ:List Int) (fx:Int) (x3:Int) (r:Int×(List Int)),K bZ fx x3=some r→∀ E,aQ E 1→az Tryz.prog E 100 161 (aY E [(0,aU r.2)] (wq r.1)) [.code (xI 130740),.inLoop (xI 130740),.inBlock 4,.code (xI 16343),.code (xI 511)] ⟨[(0,(.os 0 uo un)),(1,(eU v)),(5,(aI ((v.length:Nat):Int))),(7,(Is (IntKind.u64.wrap (q - 1)))),(14,(UR fx)),(126,(aI ((v.length:Nat):Int))),(127,(aI x3))],[(0,aU bZ)],1⟩
def F4 (N:Nat) (K:(List Int)→Int→Option (Int×(List Int))):Prop:=∀ (cM:List Int) (q2:Int) (r:Int×(List Int)),K cM q2=some r→∀ E,aQ E 1→az Tryz.prog E 100 161 (aY E [(0,aU r.2)] (wq r.1)) [.code (xI 1022),.code (xI 1023)] ⟨[(7,(Is q2))],[(0,aU cM)],1⟩
theorem xx (N):F4 N (kM N):=by
 intro cM q2 r h E hE
 unfold kM at h
 refine aj hE 0 [] [] (kp [4]) (kq [0]) 49 pn ?_
 obtain rfl:=dx h
 exact dQ hE 0 Tryz.f100 [] (kp [4]) (kq [0]) 49 pn [] pn
theorem D6 (N uo un v q fuel):F3 N uo un v q (iq N uo un v q fuel):=by
 induction fuel with
 | zero=>intro _ _ _ r h;rw [iq.eq_1] at h;cases h
 | succ fuel ih =>
  intro bZ fx x3 r h E hE
  rw [iq.eq_2] at h
  refine aj hE 1 [] [] (kp [0,1,5,7,14,126,127,128]) (kq [0]) 17 pn ?_
  refine dS 1 128 h (fun PD h=>?_) (fun PD h=>?_)
  ·refine aj hE 4 [] [] (kp [0,1,5,7,14,15,126,127]) (kq [0]) 49 pn ?_
   obtain ⟨MV,h⟩:=ae h
   obtain ⟨Qf,h⟩:=ae h
   obtain ⟨Yw,h⟩:=ae h
   refine aj hE 1 [] [] (kp [0,1,5,7,14,15,126,127]) (kq [0]) 273 (pc MV (pc (show (bT uo (x3).toNat) < bZ.length by have h1:=MV;have h2:=Qf;simp only [dk];omega) (pc Yw pn))) ?_
   refine aj hE 1 [] [] (kp [0,1,5,7,14,126,127]) [(0,.arr 0 ((bZ.set (bT uo (x3).toNat) (IntKind.u16.wrap ((IntKind.u32.wrap (fx+(IntKind.u32.wrap ((IntKind.u32.wrap ((bZ.getD (bT uo (x3).toNat) 0)))+(IntKind.u32.wrap ((v.getD ((x3).toNat) 0)))))))))).length) (fun zi=>(cU .u16) ((bZ.set (bT uo (x3).toNat) (IntKind.u16.wrap ((IntKind.u32.wrap (fx+(IntKind.u32.wrap ((IntKind.u32.wrap ((bZ.getD (bT uo (x3).toNat) 0)))+(IntKind.u32.wrap ((v.getD ((x3).toNat) 0)))))))))).getD zi 0)))] 369 (pc MV (pc (show (bT uo (x3).toNat) < bZ.length by have h1:=MV;have h2:=Qf;simp only [dk];omega) (pc (aJ bZ (bT uo (x3).toNat) (IntKind.u16.wrap ((IntKind.u32.wrap (fx+(IntKind.u32.wrap ((IntKind.u32.wrap ((bZ.getD (bT uo (x3).toNat) 0)))+(IntKind.u32.wrap ((v.getD ((x3).toNat) 0)))))))))) (pc (cR (cU .u16) 0 bZ (bT uo (x3).toNat) (IntKind.u16.wrap ((IntKind.u32.wrap (fx+(IntKind.u32.wrap ((IntKind.u32.wrap ((bZ.getD (bT uo (x3).toNat) 0)))+(IntKind.u32.wrap ((v.getD ((x3).toNat) 0)))))))))) pn)))) ?_
   refine aj hE 0 [] [] (kp [0,1,5,7,14,126,127]) (kq [0]) 417 (pc (show (0:Int)≤16 by decide) pn) ?_
   refine aj hE 1 [] [] (kp [0,1,5,7,14,126,127]) (kq [0]) 449 pn ?_
   exact de hE 1 [] (kp [0,1,5,7,14,126,127]) (kq [0]) 1 pn (ih _ _ _ _ h E hE)
  ·obtain ⟨Xz,h⟩:=ae h
   obtain ⟨RM,h⟩:=ae h
   refine aj hE 1 [] [] (kp [7]) [(0,.arr 0 ((bZ.set (bT uo v.length) (IntKind.u16.wrap ((bZ.getD (bT uo v.length) 0)+(IntKind.u16.wrap (fx))))).length) (fun zi=>(cU .u16) ((bZ.set (bT uo v.length) (IntKind.u16.wrap ((bZ.getD (bT uo v.length) 0)+(IntKind.u16.wrap (fx))))).getD zi 0)))] 161 (pc Xz (pc (show (bT uo v.length) < bZ.length by have h1:=Xz;have h2:=RM;simp only [dk];omega) (pc Xz (pc (show (bT uo v.length) < bZ.length by have h1:=Xz;have h2:=RM;simp only [dk];omega) (pc (aJ bZ (bT uo v.length) (IntKind.u16.wrap ((bZ.getD (bT uo v.length) 0)+(IntKind.u16.wrap (fx))))) (pc (cR (cU .u16) 0 bZ (bT uo v.length) (IntKind.u16.wrap ((bZ.getD (bT uo v.length) 0)+(IntKind.u16.wrap (fx))))) pn)))))) ?_
   exact de hE 1 [] (kp [7]) (kq [0]) 1 pn (xx N _ _ _ h E hE)
theorem D7 (N uo un v q fuel):yq N uo un v q (fQ N uo un v q fuel):=by
 induction fuel with
 | zero=>intro _ _ _ _ r h;rw [fQ.eq_1] at h;cases h
 | succ fuel ih =>
  intro bc carry borrow x r h E hE
  rw [fQ.eq_2] at h
  refine aj hE 1 [] [] (kp [0,1,5,7,9,10,84,85,86]) (kq [0]) 17 pn ?_
  refine dS 1 86 h (fun iU h=>?_) (fun iU h=>?_)
  ·refine aj hE 4 [] [] (kp [0,1,5,7,9,10,11,84,85]) (kq [0]) 49 pn ?_
   refine aj hE 1 [] [] (kp [0,1,5,7,10,11,12,84,85]) (kq [0]) 81 pn ?_
   refine aj hE 2 [] [] (kp [0,1,5,7,10,11,12,84,85,91]) (kq [0]) 129 pn ?_
   refine dS 0 91 h (fun rm h=>?_) (fun rm h=>?_)
   ·obtain ⟨RN,h⟩:=ae h
    refine aj hE 0 [] [] (kp [0,1,5,7,10,11,12,84,85]) (kq [0]) 289 (pc RN pn) ?_
    exact de hE 1 [] (kp [0,1,5,7,10,11,12,84,85]) (kq [0]) 1 pn (xw N _ _ _ _ _ _ _ _ ih _ _ h E hE)
   ·exact de hE 2 [] (kp [0,1,5,7,10,11,12,84,85]) (kq [0]) 1 pn (xw N _ _ _ _ _ _ _ _ ih _ _ h E hE)
  ·refine aj hE 3 [] [] (kp [0,1,5,7,123]) (kq [0]) 49 pn ?_
   refine dS 0 123 h (fun F5 h=>?_) (fun F5 h=>?_)
   ·refine aj hE 1 [] [] (kp [0,1,5,7]) (kq [0]) 97 pn ?_
    refine aj hE 1 [] [] (kp [0,1,5,7,14]) (kq [0]) 113 pn ?_
    refine aj hE 2 [] [] (kp [0,1,5,7,14,126,127]) (kq [0]) 145 pn ?_
    exact de hE 2 [] (kp [0,1,5,7,14,126,127]) (kq [0]) 1 pn (D6 N _ _ _ _ N _ _ _ _ h E hE)
   ·exact de hE 2 [] (kp [7]) (kq [0]) 1 pn (xx N _ _ _ h E hE)
theorem D8 (N uo un v C0 fuel):F1 N uo un v C0 (kN N uo un v C0 fuel):=by
 induction fuel with
 | zero=>intro _ _ r h;rw [kN.eq_1] at h;cases h
 | succ fuel ih =>
  intro q rest r h E hE
  rw [kN.eq_2] at h
  obtain ⟨c6,h⟩:=ae h
  obtain ⟨c7,h⟩:=ae h
  obtain ⟨c8,h⟩:=ae h
  refine aj hE 2 [] [] (kp [0,1,5,7,8,72]) (kq [0]) 417 (pc (fun hg:(decide (rest < 65536))=true=>(pc hg pn)) (pc (fun hg:((decide (rest < 65536)) && ((decide (rest < 65536)) && (!(decide (q > 65535)))))=true=>(pc hg pn)) (pc (fun hg:((decide (rest < 65536)) && ((decide (rest < 65536)) && (!(decide (q > 65535)))))=true=>(pc hg (pc hg (pc (c6 hg) pn)))) (pc (fun hg:((decide (rest < 65536)) && ((decide (rest < 65536)) && (!(decide (q > 65535)))))=true=>(pc hg pn)) (pc (fun hg:((decide (rest < 65536)) && ((decide (rest < 65536)) && (!(decide (q > 65535)))))=true=>(pc hg pn)) (pc (fun hg:((decide (rest < 65536)) && ((decide (rest < 65536)) && (!(decide (q > 65535)))))=true=>(pc hg (pc hg pn))) (pc (fun hg:((decide (rest < 65536)) && ((decide (rest < 65536)) && (!(decide (q > 65535)))))=true=>(pc hg (pc (show (0:Int)≤16 by decide) pn))) (pc (fun hg:((decide (rest < 65536)) && ((decide (rest < 65536)) && (!(decide (q > 65535)))))=true=>(pc hg pn)) (pc (fun hg:((decide (rest < 65536)) && ((decide (rest < 65536)) && (!(decide (q > 65535)))))=true=>(pc hg (pc hg (pc (c7 hg) pn)))) (pc (fun hg:((decide (rest < 65536)) && ((decide (rest < 65536)) && (!(decide (q > 65535)))))=true=>(pc hg (pc (show (bT uo (aq (((v.length:Nat):Int) - 2)).toNat) < C0.length by have h1:=(c7 hg);have h2:=(c8 hg);simp only [dk];omega) pn))) (pc (fun hg:((decide (rest < 65536)) && ((decide (rest < 65536)) && (!(decide (q > 65535)))))=true=>(pc hg pn)) (pc (fun hg:((decide (rest < 65536)) && ((decide (rest < 65536)) && (!(decide (q > 65535)))))=true=>(pc hg (pc hg pn))) (pc (fun hg:((decide (rest < 65536)) && ((decide (rest < 65536)) && (!(decide (q > 65535)))))=true=>(pc hg (pc hg pn))) (pc (fun hg:(decide (rest < 65536))=true=>(pc hg (pc hg (pc (fun hq:(!(decide (q > 65535)))=true=>(pc (show ((decide (rest < 65536)) && ((decide (rest < 65536)) && (!(decide (q > 65535)))))=true from (Ai hg (Ai hg hq))) pn)) pn)))) (pc (fun hq:(decide (rest < 65536))=true=>(pc hq pn)) pn))))))))))))))) ?_
  refine dS 0 72 h (fun dR h=>?_) (fun dR h=>?_)
  ·refine aj hE 3 [] [] (kp [0,1,5,7,8]) (kq [0]) 465 pn ?_
   obtain ⟨c9,h⟩:=ae h
   refine aj hE 0 [] [] (kp [0,1,5,7,8]) (kq [0]) 609 (pc c9 pn) ?_
   exact de hE 2 [] (kp [0,1,5,7,8]) (kq [0]) 1 pn (ih _ _ _ h E hE)
  ·refine aj hE 2 [] [] (kp [0,1,5,7,9,10]) (kq [0]) 449 pn ?_
   refine aj hE 2 [] [] (kp [0,1,5,7,9,10,84,85]) (kq [0]) 497 pn ?_
   exact de hE 2 [] (kp [0,1,5,7,9,10,84,85]) (kq [0]) 1 pn (D7 N _ _ _ _ N _ _ _ _ _ h E hE)
theorem Jv (N uo un v C0 r) (h:vE N uo un v C0=some r):Sd 100 [(.os 0 uo un),(eU v)] [(0,aU C0)] 1 (wq r.1) [(0,aU r.2)]:=by
 unfold vE at h
 refine iy (fu:=Tryz.f100) (c:=xI 1) (nt:=161) (fun hm=>absurd hm (by decide)) ?_
 intro E hE
 refine aj hE 1 [] [] (kp [0,1]) (kq [0]) 17 pn ?_
 refine aj hE 1 [] [] (kp [0,1,5]) (kq [0]) 65 pn ?_
 obtain ⟨c,h⟩:=ae h
 obtain ⟨c2,h⟩:=ae h
 obtain ⟨c3,h⟩:=ae h
 refine aj hE 1 [] [] (kp [0,1,5,6]) (kq [0]) 289 (pc c (pc (show (bT uo v.length) < C0.length by have h1:=c;have h2:=c2;simp only [dk];omega) (pc (show (0:Int)≤16 by decide) (pc c3 (pc (show (bT uo (aq (((v.length:Nat):Int) - 1)).toNat) < C0.length by have h1:=c3;have h2:=c2;simp only [dk];omega) pn))))) ?_
 obtain ⟨c4,h⟩:=ae h
 obtain ⟨c5,h⟩:=ae h
 refine aj hE 1 [] [] (kp [0,1,5,7,8]) (kq [0]) 577 (pc c4 (pc c5 (pc c4 (pc c5 pn)))) ?_
 exact de hE 3 [] (kp [0,1,5,7,8]) (kq [0]) 1 pn (D8 N _ _ _ _ N _ _ _ h E hE)
noncomputable abbrev MW:=cG Tryz.f58
def D9 (N:Nat) (b:List Int) (bD:Int) (fB:(List Int)) (K:(List Int)→(List Int)→Int→Option ((List Int)×(List Int))):Prop:=∀ (q:List Int) (u:List Int) (j:Int) (r:(List Int)×(List Int)),K q u j=some r→∀ E,aQ E 0→az Tryz.prog E 58 109 (aY E [] (.tup [(eU r.1),(eU r.2)])) [.code (MW 4084),.inLoop (MW 4084),.inBlock 0,.code (MW 511)] ⟨[(4,(.os 0 0 q.length)),(8,(aI bD)),(9,(.os 1 0 u.length)),(10,(.os 2 0 (b.length - 0))),(11,(aI (((b.length - 0):Nat):Int))),(12,(aI j))],[(0,aU q),(1,aU u),(2,aU fB)],3⟩
def Ea (N:Nat) (b:List Int) (bD:Int) (q:List Int) (u:List Int) (K:(List Int)→Int→Option ((List Int)×(List Int))):Prop:=∀ (vr:List Int) (x:Int) (r:(List Int)×(List Int)),K vr x=some r→∀ E,aQ E 0→az Tryz.prog E 58 109 (aY E [] (.tup [(eU r.1),(eU r.2)])) [.code (MW 16372),.inLoop (MW 16372),.inBlock 2,.code (MW 2047)] ⟨[(4,(.os 0 0 q.length)),(5,(.os 1 0 vr.length)),(8,(aI bD)),(9,(.os 2 0 u.length)),(81,(aI (((b.length - 0):Nat):Int))),(82,(aI x))],[(0,aU q),(1,aU vr),(2,aU u)],3⟩
theorem CZ (N b bD q u fuel):Ea N b bD q u (jC N b bD q u fuel):=by
 induction fuel with
 | zero=>intro _ _ r h;rw [jC.eq_1] at h;cases h
 | succ fuel ih =>
  intro vr x r h E hE
  rw [jC.eq_2] at h
  refine aj hE 1 [] [] (kp [4,5,8,9,81,82,83]) (kq [0,1,2]) 19 pn ?_
  refine dS 1 83 h (fun F5 h=>?_) (fun F5 h=>?_)
  ·refine aj hE 4 [] [] (kp [4,5,8,9,13,81,82]) (kq [0,1,2]) 51 pn ?_
   obtain ⟨RK,h⟩:=ae h
   obtain ⟨MV,h⟩:=ae h
   obtain ⟨Qf,h⟩:=ae h
   obtain ⟨Yw,h⟩:=ae h
   refine aj hE 0 [] [] (kp [4] ++ [(5,.lP ((vr.set ((x).toNat) (IntKind.u16.wrap ((ow .u32 (vz .u32 (IntKind.u32.wrap ((u.getD ((x).toNat) 0))) (iC .u32 (IntKind.u32.wrap ((u.getD ((aq (x+1)).toNat) 0))) 16)) bD)))).length))] ++ kp [8,9,81,82]) (kq [0] ++ [(1,.arr 1 ((vr.set ((x).toNat) (IntKind.u16.wrap ((ow .u32 (vz .u32 (IntKind.u32.wrap ((u.getD ((x).toNat) 0))) (iC .u32 (IntKind.u32.wrap ((u.getD ((aq (x+1)).toNat) 0))) 16)) bD)))).length) (fun zi=>(cU .u16) ((vr.set ((x).toNat) (IntKind.u16.wrap ((ow .u32 (vz .u32 (IntKind.u32.wrap ((u.getD ((x).toNat) 0))) (iC .u32 (IntKind.u32.wrap ((u.getD ((aq (x+1)).toNat) 0))) 16)) bD)))).getD zi 0)))] ++ kq [2]) 371 (pc RK (pc (dq RK) (pc MV (pc (dq MV) (pc (show (0:Int)≤16 by decide) (pc Qf (pc Yw (pc (dq Yw) (pc (aJ vr ((x).toNat) (IntKind.u16.wrap ((ow .u32 (vz .u32 (IntKind.u32.wrap ((u.getD ((x).toNat) 0))) (iC .u32 (IntKind.u32.wrap ((u.getD ((aq (x+1)).toNat) 0))) 16)) bD)))) (pc (aJ vr ((x).toNat) (IntKind.u16.wrap ((ow .u32 (vz .u32 (IntKind.u32.wrap ((u.getD ((x).toNat) 0))) (iC .u32 (IntKind.u32.wrap ((u.getD ((aq (x+1)).toNat) 0))) 16)) bD)))) (pc (cR (cU .u16) 0 vr ((x).toNat) (IntKind.u16.wrap ((ow .u32 (vz .u32 (IntKind.u32.wrap ((u.getD ((x).toNat) 0))) (iC .u32 (IntKind.u32.wrap ((u.getD ((aq (x+1)).toNat) 0))) 16)) bD)))) pn))))))))))) ?_
   refine aj hE 1 [] [] (kp [4,5,8,9,81,82]) (kq [0,1,2]) 403 pn ?_
   exact de hE 1 [] (kp [4,5,8,9,81,82]) (kq [0,1,2]) 3 pn (ih _ _ _ h E hE)
  ·obtain ⟨gq,Hu,h⟩:=bt h
   obtain ⟨MM,AP,h⟩:=bt h
   refine aj hE 2 [(1,⟨[],true,(eU gq),[],0,true,none⟩),(3,⟨[],true,(eU MM),[],0,true,none⟩)] [] (kp [4,5]) [] 115 (pc (ef _ _ _ Hu) (pc (z1 q.length) (pc (ef _ _ _ AP) (pc (z1 vr.length) pn)))) ?_
   obtain rfl:=dx h
   exact dQ hE 0 Tryz.f58 [] (kp [4,5]) [] 115 pn [] pn
theorem C8 (N b bD fB fuel):D9 N b bD fB (jD N b bD fB fuel):=by
 induction fuel with
 | zero=>intro _ _ _ r h;rw [jD.eq_1] at h;cases h
 | succ fuel ih =>
  intro q u j r h E hE
  rw [jD.eq_2] at h
  refine aj hE 2 [] [] (kp [4,8,9,10,11,12,64]) (kq [0,1,2]) 35 pn ?_
  refine dS 0 64 h (fun rm h=>?_) (fun rm h=>?_)
  ·obtain ⟨c5,h⟩:=ae h
   obtain ⟨c6,h⟩:=ae h
   obtain ⟨c7,h⟩:=ae h
   obtain ⟨c8,h⟩:=ae h
   obtain ⟨da,Hv,h⟩:=bt h
   obtain ⟨c9,h⟩:=ae h
   obtain ⟨RN,h⟩:=ae h
   refine aj hE 3 [(10,⟨[1],false,(wq da.1),[(0,aU da.2)],0,false,none⟩)] [] ([(4,.lP ((q.set ((j).toNat) da.1).length))] ++ kp [8] ++ [(9,.lP (da.2.length))] ++ kp [10,11,12]) ([(0,.arr 0 ((q.set ((j).toNat) da.1).length) (fun zi=>(cU .u16) ((q.set ((j).toNat) da.1).getD zi 0)))] ++ kq [1,2]) 243 (pc c5 (pc c6 (pc c7 (pc (show Sd 100 [(.os 0 ((j).toNat) ((aq ((aq (j+(((b.length - 0):Nat):Int)))+1)).toNat - (j).toNat)),(.sl (b.length - 0) (fun zi=>(cU .u16) (fB.getD (bT 0 zi) 0)))] [(0,aU u)] 1 (wq da.1) [(0,aU da.2)] from (Sound.conv (Jv _ _ _ _ _ _ Hv) (.cons (Alike.refl _) (.cons (Alike.sl (Bz fB 0 b.length c8) (fun zq j5=>Jd (cU .u16) 0 fB 0 b.length zq j5)) .nil)))) (pc (show ∀ zi,zi < da.2.length→AV.xQ ((cU .u16) (da.2.getD zi 0))=true from (fun _ _=>rfl)) (pc (show 0+(b.length - 0)≤fB.length by have:=c8;omega) (pc RN (pc (dq RN) (pc (aJ q ((j).toNat) da.1) (pc (show u.length=da.2.length from (Eq.symm c9)) (pc (aJ q ((j).toNat) da.1) (pc (cR (cU .u16) 0 q ((j).toNat) da.1) pn)))))))))))) ?_
   refine aj hE 1 [] [] (kp [4,8,9,10,11,12]) (kq [0,1,2]) 291 pn ?_
   exact de hE 1 [] (kp [4,8,9,10,11,12]) (kq [0,1,2]) 3 pn (ih _ _ _ _ h E hE)
  ·obtain ⟨L0,h⟩:=ae h
   refine aj hE 2 [] [] (kp [4] ++ [(5,.lP ((List.replicate (b.length - 0) 0:List Int).length))] ++ kp [8,9,11]) (kq [0,1] ++ [(51,.arr 51 ((List.replicate (b.length - 0) 0:List Int).length) (fun zi=>(cU .u16) ((List.replicate (b.length - 0) 0:List Int).getD zi 0)))]) 83 (pc (show 0≤(((b.length - 0):Nat):Int) from L0.1) (pc (show (((b.length - 0):Nat):Int)≤(((b.length - 0):Nat):Int) from (Int.le_refl _)) (pc (show (2:Int) * (((b.length - 0):Nat):Int)≤281474976710656 from L0.2.1) (pc (show (((b.length - 0):Nat):Int)≤9223372036854775807 from L0.2.2) (pc (show (b.length - 0)=(List.replicate (b.length - 0) 0:List Int).length from (dn).symm) (pc (show (b.length - 0)=(List.replicate (b.length - 0) 0:List Int).length from (dn).symm) (pc (show ∀ zi,zi < (List.replicate (b.length - 0) 0:List Int).length→(fun zi=>(cU .u16) ((List.replicate (b.length - 0) 0:List Int).getD zi 0)) zi=(fun _=>[(wq 0)]) zi from (fun zq j5=>qK (cU .u16) 0 0 (b.length - 0) zq j5)) pn))))))) ?_
   refine aj hE 2 [] [] (kp [4,5,8,9,81,82]) (kq [0,1,51]) 115 pn ?_
   exact de hE 2 [] (kp [4,5,8,9,81,82]) (kq [0] ++ [(1,.ak 51),(2,.ak 1)]) 3 pn (CZ N _ _ _ _ N _ _ _ h E hE)
theorem qN (N a b r) (h:nb N a b=some r):Sd 58 [(eU a),(eU b)] [] 0 (.tup [(eU r.1),(eU r.2)]) []:=by
 unfold nb at h
 refine iy (fu:=Tryz.f58) (c:=MW 1) (nt:=109) (fun hm=>rfl) ?_
 intro E hE
 refine aj hE 1 [] [] (kp [0,1]) [] 32 pn ?_
 obtain ⟨jV,hr,h⟩:=bt h
 refine aj hE 2 [(2,oT (aI jV))] [] (kp [0,1,17]) [] 96 (pc (ym _ _ _ _ hr) pn) ?_
 refine dS 0 17 h (fun dR h=>?_) (fun dR h=>?_)
 ·obtain ⟨AH,eW,h⟩:=bt h
  refine aj hE 1 [(1,oT (eU AH))] [] (kp [4,5]) [] 160 (pc (lv _ _ _ eW) pn) ?_
  obtain rfl:=dx h
  exact dQ hE 0 Tryz.f58 [] ([(4,.sl (([]:List Int).length) (fun zi=>(cU .u16) (([]:List Int).getD zi 0)))] ++ kp [5]) [] 160 (pc (Eq.refl 0) pn) [] pn
 ·refine aj hE 3 [] [] (kp [0,1,22]) [] 144 pn ?_
  refine dS 0 22 h (fun iU h=>?_) (fun iU h=>?_)
  ·obtain ⟨c,h⟩:=ae h
   obtain ⟨AK,ly,h⟩:=bt h
   refine aj hE 1 [(4,oT (.tup [(eU AK.1),(wq AK.2)]))] [] (kp [6,7]) [] 304 (pc c (pc (Ju _ _ _ _ ly) pn)) ?_
   obtain ⟨b8,oi,h⟩:=bt h
   refine aj hE 1 [(3,⟨[],true,(eU b8),[],0,true,none⟩)] [] (kp [4,5]) [] 400 (pc (show Sd 57 [(.sl 1 (fun zi=>(fun zi=>([[(wq AK.2)]]:List (List AV)).getD zi []) (bT 0 zi)))] [] 0 (eU b8) [] from (Sound.conv (ef _ _ _ oi) (.cons (Alike.sl rfl (fun zq j5=>dP (cU .u16) 0 ([AK.2]:List Int) zq j5)) .nil))) (pc (z1 1) pn)) ?_
   obtain rfl:=dx h
   exact dQ hE 0 Tryz.f58 [] (kp [4,5]) [] 400 pn [] pn
  ·obtain ⟨c2,h⟩:=ae h
   obtain ⟨bD,tZ,h⟩:=bt h
   refine aj hE 2 [(6,oT (aI bD))] [] (kp [0,1,8]) [] 272 (pc c2 (pc (ru _ _ _ tZ) pn)) ?_
   obtain ⟨eP,yu,h⟩:=bt h
   obtain ⟨fB,AQ,h⟩:=bt h
   obtain ⟨c3,h⟩:=ae h
   refine aj hE 1 [(2,⟨[],true,(.os 0 0 eP.length),[(0,aU eP)],0,false,none⟩),(5,⟨[],true,(.os 0 0 fB.length),[(0,aU fB)],0,false,none⟩)] [] (kp [8,9,10]) (kq [304,352]) 448 (pc (yp _ _ _ _ yu) (pc (yp _ _ _ _ AQ) (pc c3 (pc (show 0≤((b.length:Nat):Int) from (Int.natCast_nonneg _)) pn)))) ?_
   refine aj hE 1 [] [] (kp [8,9,10,11]) (kq [304,352]) 496 pn ?_
   obtain ⟨c4,h⟩:=ae h
   refine aj hE 1 [] [] ([(4,.lP ((List.replicate ((aq (((eP.length:Nat):Int) - (((b.length - 0):Nat):Int))).toNat) 0:List Int).length))] ++ kp [8,9,10,11]) (kq [304,352] ++ [(560,.arr 560 ((List.replicate ((aq (((eP.length:Nat):Int) - (((b.length - 0):Nat):Int))).toNat) 0:List Int).length) (fun zi=>(cU .u16) ((List.replicate ((aq (((eP.length:Nat):Int) - (((b.length - 0):Nat):Int))).toNat) 0:List Int).getD zi 0)))]) 592 (pc (show 0≤(aq (((eP.length:Nat):Int) - (((b.length - 0):Nat):Int))) from c4.1) (pc (show (aq (((eP.length:Nat):Int) - (((b.length - 0):Nat):Int)))≤(aq (((eP.length:Nat):Int) - (((b.length - 0):Nat):Int))) from (Int.le_refl _)) (pc (show (2:Int) * (aq (((eP.length:Nat):Int) - (((b.length - 0):Nat):Int)))≤281474976710656 from c4.2.1) (pc (show (aq (((eP.length:Nat):Int) - (((b.length - 0):Nat):Int)))≤9223372036854775807 from c4.2.2) (pc (show (aq (((eP.length:Nat):Int) - (((b.length - 0):Nat):Int))).toNat=(List.replicate ((aq (((eP.length:Nat):Int) - (((b.length - 0):Nat):Int))).toNat) 0:List Int).length from (dn).symm) (pc (show (aq (((eP.length:Nat):Int) - (((b.length - 0):Nat):Int))).toNat=(List.replicate ((aq (((eP.length:Nat):Int) - (((b.length - 0):Nat):Int))).toNat) 0:List Int).length from (dn).symm) (pc (show ∀ zi,zi < (List.replicate ((aq (((eP.length:Nat):Int) - (((b.length - 0):Nat):Int))).toNat) 0:List Int).length→(fun zi=>(cU .u16) ((List.replicate ((aq (((eP.length:Nat):Int) - (((b.length - 0):Nat):Int))).toNat) 0:List Int).getD zi 0)) zi=(fun _=>[(wq 0)]) zi from (fun zq j5=>qK (cU .u16) 0 0 ((aq (((eP.length:Nat):Int) - (((b.length - 0):Nat):Int))).toNat) zq j5)) pn))))))) ?_
   refine aj hE 2 [] [] (kp [4,8,9,10,11,12]) (kq [304,352,560]) 688 pn ?_
   exact de hE 2 [] (kp [4,8,9,10,11,12]) [(0,.ak 560),(1,.ak 304),(2,.ak 352)] 3 pn (C8 N _ _ _ N _ _ _ _ h E hE)
noncomputable abbrev Hw:=cG Tryz.f101
def xy (N:Nat) (K:(List Int)→(List Int)→Option ((List Int))):Prop:=∀ (a2:List Int) (b2:List Int) (r:(List Int)),K a2 b2=some r→∀ E,aQ E 0→az Tryz.prog E 101 45 (aY E [] (eU r)) [.code (Hw 24),.inLoop (Hw 24),.inBlock 0,.code (Hw 7)] ⟨[(0,(eU a2)),(1,(eU b2))],[],0⟩
def Eb (N:Nat) (K:Int→Int→Option ((List Int))):Prop:=∀ (x:Int) (y:Int) (r:(List Int)),K x y=some r→∀ E,aQ E 0→az Tryz.prog E 101 45 (aY E [] (eU r)) [.code (Hw 25296),.inLoop (Hw 25296),.inBlock 2,.code (Hw 6325),.code (Hw 791),.inBlock 1,.inLoop (Hw 24),.inBlock 0,.code (Hw 7)] ⟨[(5,(Is x)),(7,(Is y))],[],0⟩
theorem C9 (N:Nat) (oP:(List Int)→(List Int)→Option ((List Int))) (PE:xy N oP) (fuel:Nat):Eb N (lh N oP fuel):=by
 induction fuel with
 | zero=>intro _ _ r h;rw [lh.eq_1] at h;cases h
 | succ fuel ih =>
  intro x y r h E hE
  rw [lh.eq_2] at h
  refine aj hE 2 [] [] (kp [5,7,29]) [] 32 pn ?_
  refine dS 0 29 h (fun rm h=>?_) (fun rm h=>?_)
  ·obtain ⟨c,h⟩:=ae h
   refine aj hE 2 [] [] (kp [5,7]) [] 128 (pc c pn) ?_
   exact de hE 2 [] (kp [5,7]) [] 0 pn (ih _ _ _ h E hE)
  ·obtain ⟨tw,ly,h⟩:=bt h
   refine aj hE 2 [(1,oT (eU tw))] [] (kp [4]) [] 80 (pc (tE _ _ _ ly) pn) ?_
   obtain rfl:=dx h
   exact dQ hE 0 Tryz.f101 [] (kp [4]) [] 80 pn [] pn
theorem Da (N fuel):xy N (jE N fuel):=by
 induction fuel with
 | zero=>intro _ _ r h;rw [jE.eq_1] at h;cases h
 | succ fuel ih =>
  intro a2 b2 r h E hE
  rw [jE.eq_2] at h
  refine aj hE 2 [] [] (kp [0,1,13]) [] 48 pn ?_
  refine dS 0 13 h (fun dR h=>?_) (fun dR h=>?_)
  ·obtain ⟨Ip,hr,h⟩:=bt h
   refine aj hE 3 [(1,oT (.tup [(Is Ip.1),(aB Ip.2)]))] [] (kp [0,1,5,6]) [] 160 (pc (DM _ _ _ hr) pn) ?_
   obtain ⟨FJ,eW,h⟩:=bt h
   refine aj hE 1 [(1,oT (.tup [(Is FJ.1),(aB FJ.2)]))] [] (kp [0,1,5,6,7,8]) [] 272 (pc (DM _ _ _ eW) pn) ?_
   refine aj hE 2 [] [] (kp [0,1,5,7,27]) [] 336 (pc (fun hq:Ip.2=true=>(pc hq pn)) pn) ?_
   refine dS 0 27 h (fun iU h=>?_) (fun iU h=>?_)
   ·exact de hE 3 [] (kp [5,7]) [] 0 pn (C9 N _ ih N _ _ _ h E hE)
   ·obtain ⟨jt,oi,h⟩:=bt h
    refine aj hE 2 [(2,oT (.tup [(eU jt.1),(eU jt.2)]))] [] (kp [1,10]) [] 464 (pc (qN _ _ _ _ oi) pn) ?_
    refine aj hE 0 [] [] (kp [0,1]) [] 528 pn ?_
    exact de hE 2 [] (kp [0,1]) [] 0 pn (ih _ _ _ h E hE)
  ·refine aj hE 2 [] [] (kp [4]) [] 80 pn ?_
   obtain rfl:=dx h
   exact dQ hE 0 Tryz.f101 [] (kp [4]) [] 80 pn [] pn
theorem Hx (N a b r) (h:wQ N a b=some r):Sd 101 [(eU a),(eU b)] [] 0 (eU r) []:=by
 unfold wQ at h
 refine iy (fu:=Tryz.f101) (c:=Hw 1) (nt:=45) (fun hm=>rfl) ?_
 intro E hE
 refine aj hE 1 [] [] (kp [0,1]) [] 16 pn ?_
 exact de hE 3 [] (kp [0,1]) [] 0 pn (Da N N _ _ _ h E hE)
noncomputable abbrev XA:=cG Tryz.f63
def BK (N:Nat) (a:bM) (b:bM) (K:(List Int)→(List Int)→Option (aa)):Prop:=∀ (x:List Int) (y:List Int) (r:aa),K x y=some r→∀ E,aQ E 0→az Tryz.prog E 63 48 (aY E [] (.agg (ah r))) [.code (XA 62),.code (XA 63)] ⟨[(2,(.op 0 0 0)),(3,(.op 1 0 0)),(4,(.op 2 0 0)),(5,(eU x)),(6,(eU y))],[(0,vO 2 (im a)),(1,vO 2 (im b)),(2,vO 4 [(aB false),.nil,(aB false),.nil])],3⟩
theorem tF (N a b):BK N a b (mf N a b):=by
 intro x y r h E hE
 unfold mf at h
 obtain ⟨Jm,yu,h⟩:=bt h
 obtain ⟨AJ,AQ,h⟩:=bt h
 refine aj hE 0 [(6,oT (.agg (im Jm))),(8,oT (.agg (im AJ)))] [] (kp [4]) (kq [2]) 179 (pc o1 (pc o1 (pc (gz _ _ _ _ yu) (pc (gz _ _ _ _ AQ) (pc o1 pn))))) ?_
 obtain rfl:=dx h
 exact dQ hE 0 Tryz.f63 [] (kp [4]) [(16,.ak 2)] 179 pn [16] (pc o1 pn)
theorem jh (N a b r) (h:iu N a b=some r):Sd 63 [(.agg (im a)),(.agg (im b))] [] 0 (.agg (ah r)) []:=by
 unfold iu at h
 refine iy (fu:=Tryz.f63) (c:=XA 1) (nt:=48) (fun hm=>rfl) ?_
 intro E hE
 refine aj hE 1 [] [] (kp [2,3,4]) (kq [0,16,32]) 48 pn ?_
 obtain ⟨b8,hr,h⟩:=bt h
 obtain ⟨gq,eW,h⟩:=bt h
 refine aj hE 1 [(2,oT (eU b8)),(5,oT (eU gq))] [] (kp [2,3,4,5,6]) (kq [0,16,32]) 176 (pc o1 (pc (ef _ _ _ hr) (pc o1 (pc (ef _ _ _ eW) pn)))) ?_
 obtain ⟨oQ,ly,h⟩:=bt h
 refine aj hE 1 [(2,oT (eU oQ))] [] (kp [2,3,4,5,6,7]) (kq [0,16,32]) 240 (pc (Hx _ _ _ _ ly) pn) ?_
 obtain ⟨c,h⟩:=ae h
 refine aj hE 2 [] [] (kp [2,3,4,5,6,7,25]) (kq [0,16,32]) 384 (pc (fun hg:(!(((oQ.length:Nat):Int) != 1))=true=>(pc hg (pc (c hg) pn))) (pc (fun hg:(!(((oQ.length:Nat):Int) != 1))=true=>(pc hg pn)) (pc (fun hg:(!(((oQ.length:Nat):Int) != 1))=true=>(pc hg pn)) (pc (fun hq:(!(((oQ.length:Nat):Int) != 1))=true=>(pc hq pn)) pn)))) ?_
 refine dS 0 25 h (fun dR h=>?_) (fun dR h=>?_)
 ·obtain ⟨jt,oi,h⟩:=bt h
  refine aj hE 1 [(2,oT (.tup [(eU jt.1),(eU jt.2)]))] [] (kp [2,3,4,5,6,7]) (kq [0,16,32]) 496 (pc (qN _ _ _ _ oi) pn) ?_
  obtain ⟨BC,tZ,h⟩:=bt h
  refine aj hE 0 [(2,oT (.tup [(eU BC.1),(eU BC.2)]))] [] (kp [2,3,4,5,6]) (kq [0,16,32]) 608 (pc (qN _ _ _ _ tZ) pn) ?_
  exact de hE 1 [] (kp [2,3,4,5,6]) (kq [0] ++ [(1,.ak 16),(2,.ak 32)]) 3 pn (tF N _ _ _ _ _ h E hE)
 ·exact de hE 2 [] (kp [2,3,4,5,6]) (kq [0] ++ [(1,.ak 16),(2,.ak 32)]) 3 pn (tF N _ _ _ _ _ h E hE)
noncomputable abbrev acs:=cG Tryz.f103
theorem Jw (N a r) (h:zB N a=some r):Sd 103 [(.agg (im a))] [] 0 (.agg (ah r)) []:=by
 unfold zB at h
 refine iy (fu:=Tryz.f103) (c:=acs 1) (nt:=7) (fun hm=>rfl) ?_
 intro E hE
 refine aj hE 1 [] [] (kp [1,2]) (kq [0,16]) 32 pn ?_
 obtain ⟨Cg,hr,h⟩:=bt h
 refine aj hE 1 [(3,⟨[],true,(.agg (ah Cg)),[],0,true,none⟩)] [] (kp [2]) (kq [16]) 112 (pc o1 (pc (show Sd 63 [(.agg (im a)),(.agg [(aB false),(.sl 1 (fun zi=>(fun zi=>([[(wq 1)]]:List (List AV)).getD zi []) (bT 0 zi)))])] [] 0 (.agg (ah Cg)) [] from (Sound.conv (jh _ _ _ _ hr) (.cons (Alike.refl _) (.cons (Alike.agg (.cons (Alike.refl _) (.cons (Alike.sl rfl (fun zq j5=>dP (cU .u16) 0 ([1]:List Int) zq j5)) .nil))) .nil)))) (pc (z1 1) (pc o1 pn)))) ?_
 obtain rfl:=dx h
 exact dQ hE 0 Tryz.f103 [] (kp [2]) (kq [16]) 112 pn [16] (pc o1 pn)
noncomputable abbrev C_6:=cG Tryz.f66
theorem dL (N n r) (h:du N n=some r):Sd 66 [(aI n)] [] 0 (.agg (ah r)) []:=by
 unfold du at h
 refine iy (fu:=Tryz.f66) (c:=C_6 1) (nt:=6) (fun hm=>rfl) ?_
 intro E hE
 refine aj hE 1 [] [] (kp [0,2]) (kq [0]) 16 pn ?_
 obtain ⟨J9,hr,h⟩:=bt h
 obtain ⟨MN,eW,h⟩:=bt h
 refine aj hE 1 [(1,oT (.agg (im J9))),(2,oT (.agg (ah MN)))] [] (kp [2]) (kq [0]) 80 (pc (CW _ _ _ hr) (pc (Jw _ _ _ eW) (pc o1 pn))) ?_
 obtain rfl:=dx h
 exact dQ hE 0 Tryz.f66 [] (kp [2]) [(16,.ak 0)] 80 pn [16] (pc o1 pn)
noncomputable abbrev acu:=cG Tryz.f90
theorem uy (N a r) (h:tz N a=some r):Sd 90 [(.agg (im a))] [] 0 (aI r) []:=by
 unfold tz at h
 refine iy (fu:=Tryz.f90) (c:=acu 1) (nt:=12) (fun hm=>rfl) ?_
 intro E hE
 refine aj hE 1 [] [] (kp [1]) (kq [0]) 32 pn ?_
 obtain ⟨b8,hr,h⟩:=bt h
 refine aj hE 3 [(2,oT (eU b8))] [] (kp [1,3]) (kq [0]) 128 (pc o1 (pc (ef _ _ _ hr) pn)) ?_
 refine dS 0 3 h (fun dR h=>?_) (fun dR h=>?_)
 ·refine aj hE 1 [] [] (kp [2]) [] 144 pn ?_
  obtain rfl:=dx h
  exact dQ hE 0 Tryz.f90 [] (kp [2]) [] 144 pn [] pn
 ·refine aj hE 1 [] [] (kp [9]) [] 176 (pc o1 pn) ?_
  refine dS 0 9 h (fun iU h=>?_) (fun iU h=>?_)
  ·refine aj hE 1 [] [] (kp [2]) [] 192 pn ?_
   obtain rfl:=dx h
   exact dQ hE 0 Tryz.f90 [] (kp [2]) [] 192 pn [] pn
  ·refine aj hE 3 [] [] (kp [2]) [] 192 pn ?_
   obtain rfl:=dx h
   exact dQ hE 0 Tryz.f90 [] (kp [2]) [] 192 pn [] pn
noncomputable abbrev acv:=cG Tryz.f91
theorem jA (N x r) (h:kC N x=some r):Sd 91 [(.agg (ah x))] [] 0 (.agg (im r)) []:=by
 unfold kC at h
 refine iy (fu:=Tryz.f91) (c:=acv 1) (nt:=11) (fun hm=>rfl) ?_
 intro E hE
 refine aj hE 1 [] [] (kp [1,2]) (kq [0,16]) 32 pn ?_
 obtain ⟨vF,hr,h⟩:=bt h
 refine aj hE 2 [(2,oT (aI vF))] [] (kp [1,2,6]) (kq [0,16]) 96 (pc o1 (pc (uy _ _ _ hr) pn)) ?_
 refine dS 0 6 h (fun dR h=>?_) (fun dR h=>?_)
 ·refine aj hE 1 [] [] (kp [2]) [(16,.var 16 [.ak,.lP (([1]:List Int).length)]),(96,.arr 96 (([1]:List Int).length) (fun zi=>(cU .u16) (([1]:List Int).getD zi 0)))] 144 (pc o1 (pc (Eq.refl 1) (pc (Eq.refl 1) (pc (show ∀ zi,zi < ([1]:List Int).length→(fun zi=>(cU .u16) (([1]:List Int).getD zi 0)) zi=(fun zi=>([[(wq 1)]]:List (List AV)).getD zi []) zi from (fun zq j5=>dP (cU .u16) 0 ([1]:List Int) zq j5)) pn)))) ?_
  obtain rfl:=dx h
  exact dQ hE 0 Tryz.f91 [96] (kp [2]) [(16,.var 16 [.ak,.sl (([1]:List Int).length) (fun zi=>(cU .u16) (([1]:List Int).getD zi 0))])] 144 (pc (Eq.refl (([1]:List Int).length)) (pc (z1 (([1]:List Int).length)) (pc (aZ (([1]:List Int).length) (fun zi=>(cU .u16) (([1]:List Int).getD zi 0))) pn))) [16] (pc o1 pn)
 ·refine aj hE 2 [] [] (kp [2]) (kq [16]) 144 (pc o1 (pc o1 pn)) ?_
  obtain rfl:=dx h
  exact dQ hE 0 Tryz.f91 [] (kp [2]) (kq [16]) 144 pn [16] (pc o1 pn)
noncomputable abbrev acw:=cG Tryz.f72
theorem mw (N x r) (h:jg N x=some r):Sd 72 [(.agg (ah x))] [] 0 (.agg (ah r)) []:=by
 unfold jg at h
 refine iy (fu:=Tryz.f72) (c:=acw 1) (nt:=8) (fun hm=>rfl) ?_
 intro E hE
 refine aj hE 1 [] [] (kp [1,2]) (kq [0,16]) 32 pn ?_
 obtain ⟨ju,hr,h⟩:=bt h
 obtain ⟨Cg,eW,h⟩:=bt h
 refine aj hE 1 [(3,oT (.agg (im ju))),(4,oT (.agg (ah Cg)))] [] (kp [2]) (kq [16]) 128 (pc o1 (pc o1 (pc (jA _ _ _ hr) (pc (jh _ _ _ _ eW) (pc o1 pn))))) ?_
 obtain rfl:=dx h
 exact dQ hE 0 Tryz.f72 [] (kp [2]) (kq [16]) 128 pn [16] (pc o1 pn)
noncomputable abbrev acx:=cG Tryz.f108
theorem Ec (N a r) (h:sJ N a=some r):Sd 108 [(.agg (im a))] [] 0 (.agg (im r)) []:=by
 unfold sJ at h
 refine iy (fu:=Tryz.f108) (c:=acx 1) (nt:=9) (fun hm=>rfl) ?_
 intro E hE
 refine aj hE 1 [] [] (kp [1,2]) (kq [0,16]) 32 pn ?_
 refine aj hE 1 [] [] (kp [2]) (kq [16]) 144 (pc o1 (pc o1 (pc o1 pn))) ?_
 obtain rfl:=dx h
 exact dQ hE 0 Tryz.f108 [] (kp [2]) (kq [16]) 144 pn [16] (pc o1 pn)
noncomputable abbrev acy:=cG Tryz.f73
theorem gU (N x r) (h:en N x=some r):Sd 73 [(.agg (ah x))] [] 0 (.agg (ah r)) []:=by
 unfold en at h
 refine iy (fu:=Tryz.f73) (c:=acy 1) (nt:=9) (fun hm=>rfl) ?_
 intro E hE
 refine aj hE 1 [] [] (kp [1,2]) (kq [0,16]) 32 pn ?_
 obtain ⟨CS,hr,h⟩:=bt h
 obtain ⟨ju,eW,h⟩:=bt h
 obtain ⟨Cg,ly,h⟩:=bt h
 refine aj hE 1 [(2,oT (.agg (im CS))),(4,oT (.agg (im ju))),(5,oT (.agg (ah Cg)))] [] (kp [2]) (kq [16]) 144 (pc o1 (pc (Ec _ _ _ hr) (pc o1 (pc (jA _ _ _ eW) (pc (jh _ _ _ _ ly) (pc o1 pn)))))) ?_
 obtain rfl:=dx h
 exact dQ hE 0 Tryz.f73 [] (kp [2]) (kq [16]) 144 pn [16] (pc o1 pn)
noncomputable abbrev F6:=cG Tryz.f33
def F7 (N:Nat) (n:Int) (l:List aH) (aw:aa) (K:(List Int)→Int→Option (jj)):Prop:=∀ (t:List Int) (x:Int) (r:jj),K t x=some r→∀ E,aQ E 0→az Tryz.prog E 33 157 (aY E [(0,vN 12 [(aI r.rf),(aI r.rh),(.os 1 0 r.gY.length),(.os 2 0 r.lF.length),(.os 3 0 r.Hd.length),(.os 4 0 r.He.length),(.os 5 0 r.dJ.length),(aB r.af.fN.fG),(eU r.af.fN.fL),(aB r.af.fD.fG),(eU r.af.fD.fL),(aI r.bC)]),(1,aO 1 cI 0 r.gY),(2,aO 1 cI 0 r.lF),(3,aM 4 ah aa.d r.Hd),(4,aO 4 ah aa.d r.He),(5,aO 4 ah aa.d r.dJ)] (.op 0 0 0)) [.code (F6 116),.inLoop (F6 116),.inBlock 0,.code (F6 15)] ⟨[(0,(aI n)),(1,(aN Aj aH.d l)),(5,(.op 0 0 0)),(25,(aI (aq (2 * n)))),(26,(aI x))],[(0,vN 12 [(aI n),(aI ((l.length:Nat):Int)),.nil,(.os 1 0 t.length),.nil,.nil,.nil,(aB aw.fN.fG),(eU aw.fN.fL),(aB aw.fD.fG),(eU aw.fD.fL),(aI (aq ((aq (2 * n))+((l.length:Nat):Int))))]),(1,aO 1 cI 0 t)],2⟩
def tG (N:Nat) (n:Int) (l:List aH) (aw:aa) (t:List Int) (K:(List Int)→(List (List aa))→(List aa)→Int→Option (jj)):Prop:=∀ (t2:List Int) (t3:List (List aa)) (t4:List aa) (x2:Int) (r:jj),K t2 t3 t4 x2=some r→∀ E,aQ E 0→az Tryz.prog E 33 157 (aY E [(0,vN 12 [(aI r.rf),(aI r.rh),(.os 1 0 r.gY.length),(.os 2 0 r.lF.length),(.os 3 0 r.Hd.length),(.os 4 0 r.He.length),(.os 5 0 r.dJ.length),(aB r.af.fN.fG),(eU r.af.fN.fL),(aB r.af.fD.fG),(eU r.af.fD.fL),(aI r.bC)]),(1,aO 1 cI 0 r.gY),(2,aO 1 cI 0 r.lF),(3,aM 4 ah aa.d r.Hd),(4,aO 4 ah aa.d r.He),(5,aO 4 ah aa.d r.dJ)] (.op 0 0 0)) [.code (F6 500),.inLoop (F6 500),.inBlock 2,.code (F6 63)] ⟨[(0,(aI n)),(5,(.op 0 0 0)),(53,(aN Aj aH.d l)),(54,(aI ((l.length:Nat):Int))),(55,(aI x2))],[(0,vN 12 [(aI n),(aI ((l.length:Nat):Int)),(.os 1 0 t2.length),(.os 2 0 ((t ++ ([(aq ((aq (2 * n))+((l.length:Nat):Int)))]:List Int)).length)),(.os 3 0 t3.length),(.os 4 0 t4.length),.nil,(aB aw.fN.fG),(eU aw.fN.fL),(aB aw.fD.fG),(eU aw.fD.fL),(aI (aq ((aq (2 * n))+((l.length:Nat):Int))))]),(1,aO 1 cI 0 t2),(2,aO 1 cI 0 (t ++ ([(aq ((aq (2 * n))+((l.length:Nat):Int)))]:List Int))),(3,aM 4 ah aa.d t3),(4,aO 4 ah aa.d t4)],5⟩
def yw (N:Nat) (n:Int) (l:List aH) (aw:aa) (t:List Int) (t2:List Int) (t3:List (List aa)) (t4:List aa) (x2:Int) (K:(List aa)→Int→Option (jj)):Prop:=∀ (row:List aa) (x3:Int) (r:jj),K row x3=some r→∀ E,aQ E 0→az Tryz.prog E 33 157 (aY E [(0,vN 12 [(aI r.rf),(aI r.rh),(.os 1 0 r.gY.length),(.os 2 0 r.lF.length),(.os 3 0 r.Hd.length),(.os 4 0 r.He.length),(.os 5 0 r.dJ.length),(aB r.af.fN.fG),(eU r.af.fN.fL),(aB r.af.fD.fG),(eU r.af.fD.fL),(aI r.bC)]),(1,aO 1 cI 0 r.gY),(2,aO 1 cI 0 r.lF),(3,aM 4 ah aa.d r.Hd),(4,aO 4 ah aa.d r.He),(5,aO 4 ah aa.d r.dJ)] (.op 0 0 0)) [.code (F6 1025652),.inLoop (F6 1025652),.inBlock 4,.code (F6 128207),.inBlock 3,.code (F6 4007),.inLoop (F6 500),.inBlock 2,.code (F6 63)] ⟨[(0,(aI n)),(5,(.op 0 0 0)),(8,(.op 5 0 0)),(9,(.os 6 0 row.length)),(53,(aN Aj aH.d l)),(54,(aI ((l.length:Nat):Int))),(55,(aI x2)),(77,(aI n)),(78,(aI x3))],[(0,vN 12 [(aI n),(aI ((l.length:Nat):Int)),(.os 1 0 ((t2 ++ ([(aq ((aq (2 * n))+x2))]:List Int)).length)),(.os 2 0 ((t ++ ([(aq ((aq (2 * n))+((l.length:Nat):Int)))]:List Int)).length)),(.os 3 0 t3.length),(.os 4 0 t4.length),.nil,(aB aw.fN.fG),(eU aw.fN.fL),(aB aw.fD.fG),(eU aw.fD.fL),(aI (aq ((aq (2 * n))+((l.length:Nat):Int))))]),(1,aO 1 cI 0 (t2 ++ ([(aq ((aq (2 * n))+x2))]:List Int))),(2,aO 1 cI 0 (t ++ ([(aq ((aq (2 * n))+((l.length:Nat):Int)))]:List Int))),(3,aM 4 ah aa.d t3),(4,aO 4 ah aa.d t4),(5,vO 5 (Aj (l.getD ((x2).toNat) aH.d))),(6,aO 4 ah aa.d row)],7⟩
def F8 (N:Nat) (n:Int) (l:List aH) (aw:aa) (t:List Int) (t2:List Int) (t3:List (List aa)) (t4:List aa) (x2:Int) (row:List aa) (x3:Int) (K:aa→Option (jj)):Prop:=∀ (c7:aa) (r:jj),K c7=some r→∀ E,aQ E 0→az Tryz.prog E 33 157 (aY E [(0,vN 12 [(aI r.rf),(aI r.rh),(.os 1 0 r.gY.length),(.os 2 0 r.lF.length),(.os 3 0 r.Hd.length),(.os 4 0 r.He.length),(.os 5 0 r.dJ.length),(aB r.af.fN.fG),(eU r.af.fN.fL),(aB r.af.fD.fG),(eU r.af.fD.fL),(aI r.bC)]),(1,aO 1 cI 0 r.gY),(2,aO 1 cI 0 r.lF),(3,aM 4 ah aa.d r.Hd),(4,aO 4 ah aa.d r.He),(5,aO 4 ah aa.d r.dJ)] (.op 0 0 0)) [.code (F6 131283559),.inBlock 5,.code (F6 8205223),.inLoop (F6 1025652),.inBlock 4,.code (F6 128207),.inBlock 3,.code (F6 4007),.inLoop (F6 500),.inBlock 2,.code (F6 63)] ⟨[(0,(aI n)),(5,(.op 0 0 0)),(8,(.op 5 0 0)),(9,(.os 6 0 row.length)),(10,(aI x3)),(11,(.op 7 0 0)),(53,(aN Aj aH.d l)),(54,(aI ((l.length:Nat):Int))),(55,(aI x2)),(77,(aI n)),(78,(aI x3))],[(0,vN 12 [(aI n),(aI ((l.length:Nat):Int)),(.os 1 0 ((t2 ++ ([(aq ((aq (2 * n))+x2))]:List Int)).length)),(.os 2 0 ((t ++ ([(aq ((aq (2 * n))+((l.length:Nat):Int)))]:List Int)).length)),(.os 3 0 t3.length),(.os 4 0 t4.length),.nil,(aB aw.fN.fG),(eU aw.fN.fL),(aB aw.fD.fG),(eU aw.fD.fL),(aI (aq ((aq (2 * n))+((l.length:Nat):Int))))]),(1,aO 1 cI 0 (t2 ++ ([(aq ((aq (2 * n))+x2))]:List Int))),(2,aO 1 cI 0 (t ++ ([(aq ((aq (2 * n))+((l.length:Nat):Int)))]:List Int))),(3,aM 4 ah aa.d t3),(4,aO 4 ah aa.d t4),(5,vO 5 (Aj (l.getD ((x2).toNat) aH.d))),(6,aO 4 ah aa.d row),(7,vO 4 (ah c7))],8⟩
theorem xz (N:Nat) (n:Int) (l:List aH) (aw:aa) (t:List Int) (t2:List Int) (t3:List (List aa)) (t4:List aa) (x2:Int) (row:List aa) (x3:Int) (pW:(List aa)→Int→Option (jj)) (eF:(List Int)→(List (List aa))→(List aa)→Int→Option (jj)) (Ed:yw N n l aw t t2 t3 t4 x2 pW) (oW:tG N n l aw t eF):F8 N n l aw t t2 t3 t4 x2 row x3 (nP N n l aw t t2 t3 t4 x2 row x3 pW eF):=by
 intro c7 r h E hE
 unfold nP at h
 obtain ⟨aV,oi,h⟩:=bt h
 obtain ⟨c8,h⟩:=ae h
 obtain ⟨c9,h⟩:=ae h
 refine aj hE 0 [(7,oT (.agg (ah aV)))] [] (kp [0,5,8] ++ [(9,.lP (((row.set ((x3).toNat) aV).set ((aq (n+x3)).toNat) c7).length))] ++ kp [53,54,55,77,78]) (kq [0,1,2,3,4,5] ++ [(6,.arr 6 (((row.set ((x3).toNat) aV).set ((aq (n+x3)).toNat) c7).length) (fun zi=>ah (((row.set ((x3).toNat) aV).set ((aq (n+x3)).toNat) c7).getD zi aa.d)))]) 216 (pc o1 (pc (gU _ _ _ oi) (pc o1 (pc c8 (pc (dq c8) (pc c9 (pc (dq c9) (pc (show row.length=((row.set ((x3).toNat) aV).set ((aq (n+x3)).toNat) c7).length from (m6 (m6 rfl))) (pc (show row.length=((row.set ((x3).toNat) aV).set ((aq (n+x3)).toNat) c7).length from (m6 (m6 rfl))) (pc (show ∀ zi,zi < ((row.set ((x3).toNat) aV).set ((aq (n+x3)).toNat) c7).length→(fun zi=>ah (((row.set ((x3).toNat) aV).set ((aq (n+x3)).toNat) c7).getD zi aa.d)) zi=((fun zm=>if zm=(aq (n+x3)).toNat then [(aB c7.fN.fG),(eU c7.fN.fL),(aB c7.fD.fG),(eU c7.fD.fL)] else ((fun zm=>if zm=(x3).toNat then [(aB aV.fN.fG),(eU aV.fN.fL),(aB aV.fD.fG),(eU aV.fD.fL)] else (fun zi=>ah (row.getD zi aa.d)) zm)) zm)) zi from (yf ah aa.d (row.set ((x3).toNat) aV) ((aq (n+x3)).toNat) c7 (yf ah aa.d row ((x3).toNat) aV (fun _ _=>rfl)))) pn)))))))))) ?_
 refine aj hE 1 [] [] (kp [0,5,8,9,53,54,55,77,78]) (kq [0,1,2,3,4,5,6]) 248 pn ?_
 exact de hE 1 [] (kp [0,5,8,9,53,54,55,77,78]) (kq [0,1,2,3,4,5,6]) 7 pn (Ed _ _ _ h E hE)
theorem Ee (N:Nat) (n:Int) (l:List aH) (aw:aa) (t:List Int) (t2:List Int) (t3:List (List aa)) (t4:List aa) (x2:Int) (eF:(List Int)→(List (List aa))→(List aa)→Int→Option (jj)) (oW:tG N n l aw t eF) (fuel:Nat):yw N n l aw t t2 t3 t4 x2 (fR N n l aw t t2 t3 t4 x2 eF fuel):=by
 induction fuel with
 | zero=>intro _ _ r h;rw [fR.eq_1] at h;cases h
 | succ fuel ih =>
  intro row x3 r h E hE
  rw [fR.eq_2] at h
  refine aj hE 1 [] [] (kp [0,5,8,9,53,54,55,77,78,79]) (kq [0,1,2,3,4,5,6]) 23 pn ?_
  refine dS 1 79 h (fun rm h=>?_) (fun rm h=>?_)
  ·refine aj hE 4 [] [] (kp [0,5,8,9,10,53,54,55,77,78]) (kq [0,1,2,3,4,5,6]) 55 pn ?_
   obtain ⟨eZ,eW,h⟩:=bt h
   refine aj hE 1 [(0,oT (.agg (ah eZ)))] [] (kp [0,5,8,9,10,11,53,54,55,77,78]) (kq [0,1,2,3,4,5,6,71]) 103 (pc (dL _ _ _ eW) (pc o1 pn)) ?_
   refine aj hE 2 [] [] (kp [0,5,8,9,10,11,53,54,55,77,78,86]) (kq [0,1,2,3,4,5,6,71]) 183 (pc o1 pn) ?_
   refine dS 0 86 h (fun F5 h=>?_) (fun F5 h=>?_)
   ·obtain ⟨c6,h⟩:=ae h
    obtain ⟨jv,ly,h⟩:=bt h
    refine aj hE 0 [(5,oT (.agg (ah jv)))] [] (kp [0,5,8,9,10,11,53,54,55,77,78]) (kq [0,1,2,3,4,5,6,71]) 295 (pc o1 (pc c6 (pc (mw _ _ _ ly) (pc o1 pn)))) ?_
    exact de hE 0 [] (kp [0,5,8,9,10,11,53,54,55,77,78]) (kq [0,1,2,3,4,5,6] ++ [(7,.ak 71)]) 8 pn (xz N _ _ _ _ _ _ _ _ _ _ _ _ ih oW _ _ h E hE)
   ·exact de hE 1 [] (kp [0,5,8,9,10,11,53,54,55,77,78]) (kq [0,1,2,3,4,5,6] ++ [(7,.ak 71)]) 8 pn (xz N _ _ _ _ _ _ _ _ _ _ _ _ ih oW _ _ h E hE)
  ·obtain ⟨b9,tZ,h⟩:=bt h
   obtain ⟨RN,h⟩:=ae h
   refine aj hE 2 [(3,oT (.agg (ah b9)))] [] (kp [0,5,8] ++ [(9,.lP ((row.set ((aq (2 * n)).toNat) b9).length))] ++ kp [53,54,55]) (kq [0,1,2,3,4,5] ++ [(6,.arr 6 ((row.set ((aq (2 * n)).toNat) b9).length) (fun zi=>ah ((row.set ((aq (2 * n)).toNat) b9).getD zi aa.d)))]) 119 (pc (dL _ _ _ tZ) (pc RN (pc (dq RN) (pc (aJ row ((aq (2 * n)).toNat) b9) (pc (aJ row ((aq (2 * n)).toNat) b9) (pc (cR ah aa.d row ((aq (2 * n)).toNat) b9) pn)))))) ?_
   obtain ⟨L0,h⟩:=ae h
   refine aj hE 1 [] [] (kp [0,5,8,53,54,55]) ([(0,.var 0 [.ak,.ak,.ak,.ak,.lP ((t3 ++ [(row.set ((aq (2 * n)).toNat) b9)]).length),.ak,.ak,.ak,.ak,.ak,.ak,.ak])] ++ kq [1,2,4,5,6] ++ [(231,.pz 231 ((t3 ++ [(row.set ((aq (2 * n)).toNat) b9)]).length) [(t3.length,6,(row.set ((aq (2 * n)).toNat) b9).length)] (mG (t3 ++ [(row.set ((aq (2 * n)).toNat) b9)])))]) 295 (pc o1 (pc (Eq.refl t3.length) (pc L0 (pc (show 0+1≤1 from (aR _)) (pc (show ∀ zi,zi < 1→AV.ko ((fun zi=>([[(.os 6 0 ((row.set ((aq (2 * n)).toNat) b9).length))]]:List (List AV)).getD zi []) (bT 0 zi))=true from (zT rfl)) (pc o1 (pc (show (t3.length+1)=(t3 ++ [(row.set ((aq (2 * n)).toNat) b9)]).length from (bA rfl rfl)) (pc (show t3.length+1=(t3 ++ [(row.set ((aq (2 * n)).toNat) b9)]).length from (bA rfl rfl)) (pc (show ∀ zm,zm < (t3 ++ [(row.set ((aq (2 * n)).toNat) b9)]).length→bk [(t3.length,6,(row.set ((aq (2 * n)).toNat) b9).length)] (mG (t3 ++ [(row.set ((aq (2 * n)).toNat) b9)])) zm=if zm < t3.length then (mG t3) zm else (fun zi=>([[(.os 6 0 ((row.set ((aq (2 * n)).toNat) b9).length))]]:List (List AV)).getD zi []) (zm - t3.length) from (UC (b:=fun zi=>([[(.os 6 0 ((row.set ((aq (2 * n)).toNat) b9).length))]]:List (List AV)).getD zi []) t3 (row.set ((aq (2 * n)).toNat) b9) rfl rfl)) (pc (iM (t3 ++ [(row.set ((aq (2 * n)).toNat) b9)])) pn)))))))))) ?_
   refine Pt 231 6 t3.length (pc (Xi t3 (row.set ((aq (2 * n)).toNat) b9)) (pc (show bk [(t3.length,6,(row.set ((aq (2 * n)).toNat) b9).length)] (mG (t3 ++ [(row.set ((aq (2 * n)).toNat) b9)])) t3.length=[.os 6 0 (row.set ((aq (2 * n)).toNat) b9).length] from if_pos rfl) (pc (show ∀ zj,zj < (row.set ((aq (2 * n)).toNat) b9).length→mL (ah ((row.set ((aq (2 * n)).toNat) b9).getD zj aa.d))=true from fun _ _=>rfl) pn))) ?_
   refine J7 hE [] (kp [0,5,8,53,54,55]) (kq [0,1,2,4,5] ++ [(231,.pz 231 ((t3 ++ [(row.set ((aq (2 * n)).toNat) b9)]).length) [] (mG (t3 ++ [(row.set ((aq (2 * n)).toNat) b9)])))]) 295 (pc (Eq.refl ((t3 ++ [(row.set ((aq (2 * n)).toNat) b9)]).length)) (pc (Rs (sz:=4) (c:=ah) (d:=aa.d) (t3 ++ [(row.set ((aq (2 * n)).toNat) b9)]) t3.length 6 ((row.set ((aq (2 * n)).toNat) b9).length) (row.set ((aq (2 * n)).toNat) b9) [] (qZ t3 (row.set ((aq (2 * n)).toNat) b9)) CO) (pc (iM (t3 ++ [(row.set ((aq (2 * n)).toNat) b9)])) pn))) ?_
   obtain ⟨df,yu,h⟩:=bt h
   obtain ⟨RK,h⟩:=ae h
   refine aj hE 0 [(7,oT (.agg (ah df)))] [] (kp [0,5,53,54,55]) ([(0,.var 0 [.ak,.ak,.ak,.ak,.ak,.lP ((t4 ++ ([df]:List aa)).length),.ak,.ak,.ak,.ak,.ak,.ak])] ++ kq [1,2,231] ++ [(439,.arr 439 ((t4 ++ ([df]:List aa)).length) (fun zi=>ah ((t4 ++ ([df]:List aa)).getD zi aa.d)))]) 503 (pc o1 (pc o1 (pc (mw _ _ _ yu) (pc (Eq.refl t4.length) (pc RK (pc (z1 1) (pc (show ∀ zi,zi < 1→AV.ko ((fun zi=>([[(aB df.fN.fG),(eU df.fN.fL),(aB df.fD.fG),(eU df.fD.fL)]]:List (List AV)).getD zi []) (bT 0 zi))=true from (zT rfl)) (pc o1 (pc (show (t4.length+1)=(t4 ++ ([df]:List aa)).length from (bA rfl rfl)) (pc (show t4.length+1=(t4 ++ ([df]:List aa)).length from (bA rfl rfl)) (pc (show ∀ zi,zi < (t4 ++ ([df]:List aa)).length→(fun zi=>ah ((t4 ++ ([df]:List aa)).getD zi aa.d)) zi=((fun zm=>if zm < t4.length then (fun zi=>ah (t4.getD zi aa.d)) zm else (fun zi=>([[(aB df.fN.fG),(eU df.fN.fL),(aB df.fD.fG),(eU df.fD.fL)]]:List (List AV)).getD zi []) (zm - t4.length))) zi from (dT ah aa.d t4 ([df]:List aa) rfl (fun _ _=>rfl) (fun zq j5=>dP ah aa.d ([df]:List aa) zq j5))) pn))))))))))) ?_
   refine aj hE 1 [] [] (kp [0,5,53,54,55]) (kq [0,1,2,231,439]) 535 pn ?_
   exact de hE 1 [] (kp [0,5,53,54,55]) (kq [0,1,2] ++ [(3,.ak 231),(4,.ak 439)]) 5 pn (oW _ _ _ _ _ h E hE)
def F9 (N:Nat) (n:Int) (l:List aH) (aw:aa) (t:List Int) (t2:List Int) (t3:List (List aa)) (t4:List aa) (K:(List aa)→Int→Option (jj)):Prop:=∀ (t5:List aa) (x4:Int) (r:jj),K t5 x4=some r→∀ E,aQ E 0→az Tryz.prog E 33 157 (aY E [(0,vN 12 [(aI r.rf),(aI r.rh),(.os 1 0 r.gY.length),(.os 2 0 r.lF.length),(.os 3 0 r.Hd.length),(.os 4 0 r.He.length),(.os 5 0 r.dJ.length),(aB r.af.fN.fG),(eU r.af.fN.fL),(aB r.af.fD.fG),(eU r.af.fD.fL),(aI r.bC)]),(1,aO 1 cI 0 r.gY),(2,aO 1 cI 0 r.lF),(3,aM 4 ah aa.d r.Hd),(4,aO 4 ah aa.d r.He),(5,aO 4 ah aa.d r.dJ)] (.op 0 0 0)) [.code (F6 2036),.inLoop (F6 2036),.inBlock 6,.code (F6 255)] ⟨[(5,(.op 0 0 0)),(144,(aI (((List.replicate ((aq ((aq (2 * n))+1)).toNat) aa.d:List aa).length:Nat):Int))),(145,(aI x4))],[(0,vN 12 [(aI n),(aI ((l.length:Nat):Int)),(.os 1 0 t2.length),(.os 2 0 ((t ++ ([(aq ((aq (2 * n))+((l.length:Nat):Int)))]:List Int)).length)),(.os 3 0 t3.length),(.os 4 0 t4.length),(.os 5 0 t5.length),(aB aw.fN.fG),(eU aw.fN.fL),(aB aw.fD.fG),(eU aw.fD.fL),(aI (aq ((aq (2 * n))+((l.length:Nat):Int))))]),(1,aO 1 cI 0 t2),(2,aO 1 cI 0 (t ++ ([(aq ((aq (2 * n))+((l.length:Nat):Int)))]:List Int))),(3,aM 4 ah aa.d t3),(4,aO 4 ah aa.d t4),(5,aO 4 ah aa.d t5)],6⟩
theorem Ef (N n l aw t t2 t3 t4 fuel):F9 N n l aw t t2 t3 t4 (kO N n l aw t t2 t3 t4 fuel):=by
 induction fuel with
 | zero=>intro _ _ r h;rw [kO.eq_1] at h;cases h
 | succ fuel ih =>
  intro t5 x4 r h E hE
  rw [kO.eq_2] at h
  refine aj hE 1 [] [] (kp [5,144,145,146]) (kq [0,1,2,3,4,5]) 22 pn ?_
  refine dS 1 146 h (fun PD h=>?_) (fun PD h=>?_)
  ·refine aj hE 4 [] [] (kp [5,12,144,145]) (kq [0,1,2,3,4,5]) 54 pn ?_
   obtain ⟨pX,AQ,h⟩:=bt h
   obtain ⟨Qf,h⟩:=ae h
   refine aj hE 0 [(5,oT (.agg (ah pX)))] [] (kp [5,144,145]) ([(0,.var 0 [.ak,.ak,.ak,.ak,.ak,.ak,.lP ((t5.set ((x4).toNat) pX).length),.ak,.ak,.ak,.ak,.ak])] ++ kq [1,2,3,4] ++ [(5,.arr 5 ((t5.set ((x4).toNat) pX).length) (fun zi=>ah ((t5.set ((x4).toNat) pX).getD zi aa.d)))]) 182 (pc o1 (pc (dL _ _ _ AQ) (pc Qf (pc (dq Qf) (pc (aJ t5 ((x4).toNat) pX) (pc (aJ t5 ((x4).toNat) pX) (pc (cR ah aa.d t5 ((x4).toNat) pX) pn))))))) ?_
   refine aj hE 1 [] [] (kp [5,144,145]) (kq [0,1,2,3,4,5]) 214 pn ?_
   exact de hE 1 [] (kp [5,144,145]) (kq [0,1,2,3,4,5]) 6 pn (ih _ _ _ h E hE)
  ·refine aj hE 2 [] [] (kp [4]) (kq [0,1,2,3,4,5]) 54 pn ?_
   obtain rfl:=dx h
   exact dQ hE 0 Tryz.f33 [] (kp [4]) (kq [0,1,2,3,4,5]) 54 pn [] pn
theorem Eg (N n l aw t fuel):tG N n l aw t (jw N n l aw t fuel):=by
 induction fuel with
 | zero=>intro _ _ _ _ r h;rw [jw.eq_1] at h;cases h
 | succ fuel ih =>
  intro t2 t3 t4 x2 r h E hE
  rw [jw.eq_2] at h
  refine aj hE 1 [] [] (kp [0,5,53,54,55,56]) (kq [0,1,2,3,4]) 21 pn ?_
  refine dS 1 56 h (fun iU h=>?_) (fun iU h=>?_)
  ·obtain ⟨c3,h⟩:=ae h
   refine aj hE 4 [] [] (kp [0,5,7,8,53,54,55]) (kq [0,1,2,3,4,69]) 117 (pc c3 (pc o1 pn)) ?_
   obtain ⟨c4,h⟩:=ae h
   refine aj hE 1 [] [] (kp [0,5,8,53,54,55]) ([(0,.var 0 [.ak,.ak,.lP ((t2 ++ ([(aq ((aq (2 * n))+x2))]:List Int)).length),.ak,.ak,.ak,.ak,.ak,.ak,.ak,.ak,.ak])] ++ kq [2,3,4,69] ++ [(277,.arr 277 ((t2 ++ ([(aq ((aq (2 * n))+x2))]:List Int)).length) (fun zi=>cI ((t2 ++ ([(aq ((aq (2 * n))+x2))]:List Int)).getD zi 0)))]) 341 (pc o1 (pc (Eq.refl t2.length) (pc c4 (pc (z1 1) (pc (show ∀ zi,zi < 1→AV.ko ((fun zi=>([[(aI (aq ((aq (2 * n))+x2)))]]:List (List AV)).getD zi []) (bT 0 zi))=true from (zT rfl)) (pc o1 (pc (show (t2.length+1)=(t2 ++ ([(aq ((aq (2 * n))+x2))]:List Int)).length from (bA rfl rfl)) (pc (show t2.length+1=(t2 ++ ([(aq ((aq (2 * n))+x2))]:List Int)).length from (bA rfl rfl)) (pc (show ∀ zi,zi < (t2 ++ ([(aq ((aq (2 * n))+x2))]:List Int)).length→(fun zi=>cI ((t2 ++ ([(aq ((aq (2 * n))+x2))]:List Int)).getD zi 0)) zi=((fun zm=>if zm < t2.length then (fun zi=>cI (t2.getD zi 0)) zm else (fun zi=>([[(aI (aq ((aq (2 * n))+x2)))]]:List (List AV)).getD zi []) (zm - t2.length))) zi from (dT cI 0 t2 ([(aq ((aq (2 * n))+x2))]:List Int) rfl (fun _ _=>rfl) (fun zq j5=>dP cI 0 ([(aq ((aq (2 * n))+x2))]:List Int) zq j5))) pn))))))))) ?_
   obtain ⟨c5,h⟩:=ae h
   refine aj hE 1 [] [] (kp [0,5,8] ++ [(9,.lP ((List.replicate ((aq ((aq (2 * n))+1)).toNat) aa.d:List aa).length))] ++ kp [53,54,55]) (kq [0,2,3,4,69,277] ++ [(389,.Tz 389 ((List.replicate ((aq ((aq (2 * n))+1)).toNat) aa.d:List aa).length) (fun zi=>ah ((List.replicate ((aq ((aq (2 * n))+1)).toNat) aa.d:List aa).getD zi aa.d)))]) 421 (pc (show 0≤(aq ((aq (2 * n))+1)) from c5.1) (pc (show (aq ((aq (2 * n))+1))≤(aq ((aq (2 * n))+1)) from (Int.le_refl _)) (pc (show (64:Int) * (aq ((aq (2 * n))+1))≤281474976710656 from c5.2.1) (pc (show (aq ((aq (2 * n))+1))≤9223372036854775807 from c5.2.2) (pc (show (aq ((aq (2 * n))+1)).toNat=(List.replicate ((aq ((aq (2 * n))+1)).toNat) aa.d:List aa).length from (dn).symm) (pc (show (List.replicate ((aq ((aq (2 * n))+1)).toNat) aa.d:List aa).length≤(aq ((aq (2 * n))+1)).toNat from (Nat.le_of_eq (Eq.symm ((dn).symm)))) (pc (show ∀ zi,zi < (List.replicate ((aq ((aq (2 * n))+1)).toNat) aa.d:List aa).length→KJ ((fun _=>[(aB false),.nil,(aB false),.nil]) zi) ((fun zi=>ah ((List.replicate ((aq ((aq (2 * n))+1)).toNat) aa.d:List aa).getD zi aa.d)) zi) from (fun zq j5=>qC ah aa.d aa.d ((aq ((aq (2 * n))+1)).toNat) zq ⟨.inl rfl,.inr ⟨rfl,_,rfl⟩,.inl rfl,.inr ⟨rfl,_,rfl⟩,trivial⟩ j5)) pn))))))) ?_
   refine aj hE 2 [] [] (kp [0,5,8,9,53,54,55,77,78]) (kq [0,2,3,4,69,277,389]) 453 pn ?_
   exact de hE 2 [] (kp [0,5,8,9,53,54,55,77,78]) (kq [0] ++ [(1,.ak 277)] ++ kq [2,3,4] ++ [(5,.ak 69),(6,.ak 389)]) 7 pn (Ee N _ _ _ _ _ _ _ _ _ ih N _ _ _ h E hE)
  ·obtain ⟨MV,h⟩:=ae h
   refine aj hE 2 [] [] (kp [5]) ([(0,.var 0 [.ak,.ak,.ak,.ak,.ak,.ak,.lP ((List.replicate ((aq ((aq (2 * n))+1)).toNat) aa.d:List aa).length),.ak,.ak,.ak,.ak,.ak])] ++ kq [1,2,3,4] ++ [(85,.Tz 85 ((List.replicate ((aq ((aq (2 * n))+1)).toNat) aa.d:List aa).length) (fun zi=>ah ((List.replicate ((aq ((aq (2 * n))+1)).toNat) aa.d:List aa).getD zi aa.d)))]) 149 (pc (show 0≤(aq ((aq (2 * n))+1)) from MV.1) (pc (show (aq ((aq (2 * n))+1))≤(aq ((aq (2 * n))+1)) from (Int.le_refl _)) (pc (show (64:Int) * (aq ((aq (2 * n))+1))≤281474976710656 from MV.2.1) (pc (show (aq ((aq (2 * n))+1))≤9223372036854775807 from MV.2.2) (pc o1 (pc (show (aq ((aq (2 * n))+1)).toNat=(List.replicate ((aq ((aq (2 * n))+1)).toNat) aa.d:List aa).length from (dn).symm) (pc (show (List.replicate ((aq ((aq (2 * n))+1)).toNat) aa.d:List aa).length≤(aq ((aq (2 * n))+1)).toNat from (Nat.le_of_eq (Eq.symm ((dn).symm)))) (pc (show ∀ zi,zi < (List.replicate ((aq ((aq (2 * n))+1)).toNat) aa.d:List aa).length→KJ ((fun _=>[(aB false),.nil,(aB false),.nil]) zi) ((fun zi=>ah ((List.replicate ((aq ((aq (2 * n))+1)).toNat) aa.d:List aa).getD zi aa.d)) zi) from (fun zq j5=>qC ah aa.d aa.d ((aq ((aq (2 * n))+1)).toNat) zq ⟨.inl rfl,.inr ⟨rfl,_,rfl⟩,.inl rfl,.inr ⟨rfl,_,rfl⟩,trivial⟩ j5)) pn)))))))) ?_
   refine aj hE 2 [] [] (kp [5,144,145]) (kq [0,1,2,3,4,85]) 245 (pc o1 pn) ?_
   exact de hE 2 [] (kp [5,144,145]) (kq [0,1,2,3,4] ++ [(5,.ak 85)]) 6 pn (Ef N _ _ _ _ _ _ _ N _ _ _ h E hE)
theorem Eh (N n l aw fuel):F7 N n l aw (kP N n l aw fuel):=by
 induction fuel with
 | zero=>intro _ _ r h;rw [kP.eq_1] at h;cases h
 | succ fuel ih =>
  intro t x r h E hE
  rw [kP.eq_2] at h
  refine aj hE 1 [] [] (kp [0,1,5,25,26,27]) (kq [0,1]) 18 pn ?_
  refine dS 1 27 h (fun dR h=>?_) (fun dR h=>?_)
  ·refine aj hE 4 [] [] (kp [0,1,5,6,25,26]) (kq [0,1]) 50 pn ?_
   obtain ⟨c,h⟩:=ae h
   refine aj hE 0 [] [] (kp [0,1,5,25,26]) [(0,.var 0 [.ak,.ak,.ak,.lP ((t ++ ([x]:List Int)).length),.ak,.ak,.ak,.ak,.ak,.ak,.ak,.ak]),(162,.arr 162 ((t ++ ([x]:List Int)).length) (fun zi=>cI ((t ++ ([x]:List Int)).getD zi 0)))] 226 (pc o1 (pc (Eq.refl t.length) (pc c (pc (z1 1) (pc (show ∀ zi,zi < 1→AV.ko ((fun zi=>([[(aI x)]]:List (List AV)).getD zi []) (bT 0 zi))=true from (zT rfl)) (pc o1 (pc (show (t.length+1)=(t ++ ([x]:List Int)).length from (bA rfl rfl)) (pc (show t.length+1=(t ++ ([x]:List Int)).length from (bA rfl rfl)) (pc (show ∀ zi,zi < (t ++ ([x]:List Int)).length→(fun zi=>cI ((t ++ ([x]:List Int)).getD zi 0)) zi=((fun zm=>if zm < t.length then (fun zi=>cI (t.getD zi 0)) zm else (fun zi=>([[(aI x)]]:List (List AV)).getD zi []) (zm - t.length))) zi from (dT cI 0 t ([x]:List Int) rfl (fun _ _=>rfl) (fun zq j5=>dP cI 0 ([x]:List Int) zq j5))) pn))))))))) ?_
   refine aj hE 1 [] [] (kp [0,1,5,25,26]) (kq [0,162]) 258 pn ?_
   exact de hE 1 [] (kp [0,1,5,25,26]) (kq [0] ++ [(1,.ak 162)]) 2 pn (ih _ _ _ h E hE)
  ·obtain ⟨c2,h⟩:=ae h
   refine aj hE 2 [] [] (kp [0,1,5]) [(0,.var 0 [.ak,.ak,.ak,.lP ((t ++ ([(aq ((aq (2 * n))+((l.length:Nat):Int)))]:List Int)).length),.ak,.ak,.ak,.ak,.ak,.ak,.ak,.ak]),(178,.arr 178 ((t ++ ([(aq ((aq (2 * n))+((l.length:Nat):Int)))]:List Int)).length) (fun zi=>cI ((t ++ ([(aq ((aq (2 * n))+((l.length:Nat):Int)))]:List Int)).getD zi 0)))] 242 (pc o1 (pc o1 (pc (Eq.refl t.length) (pc c2 (pc (z1 1) (pc (show ∀ zi,zi < 1→AV.ko ((fun zi=>([[(aI (aq ((aq (2 * n))+((l.length:Nat):Int))))]]:List (List AV)).getD zi []) (bT 0 zi))=true from (zT rfl)) (pc o1 (pc (show (t.length+1)=(t ++ ([(aq ((aq (2 * n))+((l.length:Nat):Int)))]:List Int)).length from (bA rfl rfl)) (pc (show t.length+1=(t ++ ([(aq ((aq (2 * n))+((l.length:Nat):Int)))]:List Int)).length from (bA rfl rfl)) (pc (show ∀ zi,zi < (t ++ ([(aq ((aq (2 * n))+((l.length:Nat):Int)))]:List Int)).length→(fun zi=>cI ((t ++ ([(aq ((aq (2 * n))+((l.length:Nat):Int)))]:List Int)).getD zi 0)) zi=((fun zm=>if zm < t.length then (fun zi=>cI (t.getD zi 0)) zm else (fun zi=>([[(aI (aq ((aq (2 * n))+((l.length:Nat):Int))))]]:List (List AV)).getD zi []) (zm - t.length))) zi from (dT cI 0 t ([(aq ((aq (2 * n))+((l.length:Nat):Int)))]:List Int) rfl (fun _ _=>rfl) (fun zq j5=>dP cI 0 ([(aq ((aq (2 * n))+((l.length:Nat):Int)))]:List Int) zq j5))) pn)))))))))) ?_
   refine aj hE 2 [] [] (kp [0,5,53,54,55]) (kq [0,178]) 290 pn ?_
   exact de hE 2 [] (kp [0,5,53,54,55]) [(0,.var 0 [.ak,.ak,.sD 1,.ak,.sD 3,.sD 4,.ak,.ak,.ak,.ak,.ak,.ak]),(1,.nil 1 (fun zi=>cI (([]:List Int).getD zi 0))),(2,.ak 178),(3,.V6 (mG ([]:List (List aa)))),(4,.nil 4 (fun zi=>ah (([]:List aa).getD zi aa.d)))] 5 pn (Eg N _ _ _ _ N _ _ _ _ _ h E hE)
theorem BL (N n l r) (h:ta N n l=some r):Sd 33 [(aI n),(aN Aj aH.d l)] [] 0 (.op 0 0 0) [(0,vN 12 [(aI r.rf),(aI r.rh),(.os 1 0 r.gY.length),(.os 2 0 r.lF.length),(.os 3 0 r.Hd.length),(.os 4 0 r.He.length),(.os 5 0 r.dJ.length),(aB r.af.fN.fG),(eU r.af.fN.fL),(aB r.af.fD.fG),(eU r.af.fD.fL),(aI r.bC)]),(1,aO 1 cI 0 r.gY),(2,aO 1 cI 0 r.lF),(3,aM 4 ah aa.d r.Hd),(4,aO 4 ah aa.d r.He),(5,aO 4 ah aa.d r.dJ)]:=by
 unfold ta at h
 refine iy (fu:=Tryz.f33) (c:=F6 1) (nt:=157) (fun hm=>rfl) ?_
 intro E hE
 refine aj hE 1 [] [] (kp [0,1]) [] 16 pn ?_
 obtain ⟨aw,hr,h⟩:=bt h
 refine aj hE 1 [(8,oT (.agg (ah aw)))] [] (kp [0,1,5]) (kq [176]) 208 (pc (dL _ _ _ hr) pn) ?_
 refine aj hE 2 [] [] (kp [0,1,5,25,26]) (kq [176]) 256 pn ?_
 exact de hE 2 [] (kp [0,1,5,25,26]) [(0,.var 176 [.ak,.ak,.ak,.sD 1,.ak,.ak,.ak,.ak,.ak,.ak,.ak,.ak]),(1,.nil 1 (fun zi=>cI (([]:List Int).getD zi 0)))] 2 pn (Eh N _ _ _ N _ _ _ h E hE)
noncomputable abbrev acz:=cG Tryz.f47
theorem ln (N x r) (h:jW N x=some r):Sd 47 [(.agg (ah x))] [] 0 (aI r) []:=by
 unfold jW at h
 refine iy (fu:=Tryz.f47) (c:=acz 1) (nt:=10) (fun hm=>rfl) ?_
 intro E hE
 refine aj hE 1 [] [] (kp [1]) (kq [0]) 32 pn ?_
 obtain ⟨vF,hr,h⟩:=bt h
 obtain ⟨ju,eW,h⟩:=bt h
 obtain ⟨MO,ly,h⟩:=bt h
 refine aj hE 1 [(2,oT (aI vF)),(4,oT (.agg (im ju))),(5,oT (aI MO))] [] (kp [2]) [] 160 (pc o1 (pc (uy _ _ _ hr) (pc o1 (pc (jA _ _ _ eW) (pc (uy _ _ _ ly) pn))))) ?_
 obtain rfl:=dx h
 exact dQ hE 0 Tryz.f47 [] (kp [2]) [] 160 pn [] pn
noncomputable abbrev acA:=cG Tryz.f50
theorem iz (N x r) (h:gI N x=some r):Sd 50 [(.agg (ah x))] [] 0 (aB r) []:=by
 unfold gI at h
 refine iy (fu:=Tryz.f50) (c:=acA 1) (nt:=7) (fun hm=>rfl) ?_
 intro E hE
 refine aj hE 1 [] [] (kp [1]) (kq [0]) 32 pn ?_
 obtain ⟨vF,hr,h⟩:=bt h
 refine aj hE 1 [(2,oT (aI vF))] [] (kp [2]) [] 112 (pc o1 (pc (uy _ _ _ hr) pn)) ?_
 obtain rfl:=dx h
 exact dQ hE 0 Tryz.f50 [] (kp [2]) [] 112 pn [] pn
noncomputable abbrev Hy:=cG Tryz.f119
def yy (N:Nat) (a:List Int) (b:List Int) (K:(List Int)→Int→Option ((List Int))):Prop:=∀ (out:List Int) (x:Int) (r:(List Int)),K out x=some r→∀ E,aQ E 0→az Tryz.prog E 119 67 (aY E [] (eU r)) [.code (Hy 116),.inLoop (Hy 116),.inBlock 0,.code (Hy 15)] ⟨[(1,(eU b)),(5,(.os 0 0 out.length)),(17,(eU a)),(18,(aI ((a.length:Nat):Int))),(19,(aI x))],[(0,aU out)],1⟩
def Ga (N:Nat) (a:List Int) (b:List Int) (x:Int) (K:(List Int)→Int→Int→Option ((List Int))):Prop:=∀ (fX:List Int) (carry:Int) (x2:Int) (r:(List Int)),K fX carry x2=some r→∀ E,aQ E 0→az Tryz.prog E 119 67 (aY E [] (eU r)) [.code (Hy 119604),.inLoop (Hy 119604),.inBlock 2,.code (Hy 14951),.inBlock 1,.code (Hy 935),.inLoop (Hy 116),.inBlock 0,.code (Hy 15)] ⟨[(1,(eU b)),(5,(.os 0 0 fX.length)),(6,(aI x)),(7,(wq (a.getD ((x).toNat) 0))),(8,(UR carry)),(17,(eU a)),(18,(aI ((a.length:Nat):Int))),(19,(aI x)),(24,(eU b)),(25,(aI ((b.length:Nat):Int))),(26,(aI x2))],[(0,aU fX)],1⟩
theorem Ei (N:Nat) (a:List Int) (b:List Int) (x:Int) (nc:(List Int)→Int→Option ((List Int))) (Ej:yy N a b nc) (fuel:Nat):Ga N a b x (kQ N a b x nc fuel):=by
 induction fuel with
 | zero=>intro _ _ _ r h;rw [kQ.eq_1] at h;cases h
 | succ fuel ih =>
  intro fX carry x2 r h E hE
  rw [kQ.eq_2] at h
  refine aj hE 1 [] [] (kp [1,5,6,7,8,17,18,19,24,25,26,27]) (kq [0]) 17 pn ?_
  refine dS 1 27 h (fun iU h=>?_) (fun iU h=>?_)
  ·obtain ⟨c3,h⟩:=ae h
   refine aj hE 4 [] [] (kp [1,5,6,7,8,9,10,17,18,19,24,25,26]) (kq [0]) 97 (pc c3 pn) ?_
   obtain ⟨c4,h⟩:=ae h
   refine aj hE 1 [] [] (kp [1,5,6,7,8,9,17,18,19,24,25,26]) (kq [0]) 353 (pc c4 (pc (dq c4) pn)) ?_
   refine aj hE 1 [] [] (kp [1] ++ [(5,.lP ((fX.set ((aq (x+x2)).toNat) (IntKind.u16.wrap ((IntKind.u32.wrap (carry+(IntKind.u32.wrap ((IntKind.u32.wrap ((IntKind.u32.wrap ((a.getD ((x).toNat) 0))) * (IntKind.u32.wrap ((b.getD ((x2).toNat) 0)))))+(IntKind.u32.wrap ((fX.getD ((aq (x+x2)).toNat) 0)))))))))).length))] ++ kp [6,7,8,17,18,19,24,25,26]) [(0,.arr 0 ((fX.set ((aq (x+x2)).toNat) (IntKind.u16.wrap ((IntKind.u32.wrap (carry+(IntKind.u32.wrap ((IntKind.u32.wrap ((IntKind.u32.wrap ((a.getD ((x).toNat) 0))) * (IntKind.u32.wrap ((b.getD ((x2).toNat) 0)))))+(IntKind.u32.wrap ((fX.getD ((aq (x+x2)).toNat) 0)))))))))).length) (fun zi=>(cU .u16) ((fX.set ((aq (x+x2)).toNat) (IntKind.u16.wrap ((IntKind.u32.wrap (carry+(IntKind.u32.wrap ((IntKind.u32.wrap ((IntKind.u32.wrap ((a.getD ((x).toNat) 0))) * (IntKind.u32.wrap ((b.getD ((x2).toNat) 0)))))+(IntKind.u32.wrap ((fX.getD ((aq (x+x2)).toNat) 0)))))))))).getD zi 0)))] 481 (pc c4 (pc (dq c4) (pc (aJ fX ((aq (x+x2)).toNat) (IntKind.u16.wrap ((IntKind.u32.wrap (carry+(IntKind.u32.wrap ((IntKind.u32.wrap ((IntKind.u32.wrap ((a.getD ((x).toNat) 0))) * (IntKind.u32.wrap ((b.getD ((x2).toNat) 0)))))+(IntKind.u32.wrap ((fX.getD ((aq (x+x2)).toNat) 0)))))))))) (pc (aJ fX ((aq (x+x2)).toNat) (IntKind.u16.wrap ((IntKind.u32.wrap (carry+(IntKind.u32.wrap ((IntKind.u32.wrap ((IntKind.u32.wrap ((a.getD ((x).toNat) 0))) * (IntKind.u32.wrap ((b.getD ((x2).toNat) 0)))))+(IntKind.u32.wrap ((fX.getD ((aq (x+x2)).toNat) 0)))))))))) (pc (cR (cU .u16) 0 fX ((aq (x+x2)).toNat) (IntKind.u16.wrap ((IntKind.u32.wrap (carry+(IntKind.u32.wrap ((IntKind.u32.wrap ((IntKind.u32.wrap ((a.getD ((x).toNat) 0))) * (IntKind.u32.wrap ((b.getD ((x2).toNat) 0)))))+(IntKind.u32.wrap ((fX.getD ((aq (x+x2)).toNat) 0)))))))))) pn))))) ?_
   refine aj hE 0 [] [] (kp [1,5,6,7,8,17,18,19,24,25,26]) (kq [0]) 529 (pc (show (0:Int)≤16 by decide) pn) ?_
   refine aj hE 1 [] [] (kp [1,5,6,7,8,17,18,19,24,25,26]) (kq [0]) 561 pn ?_
   exact de hE 1 [] (kp [1,5,6,7,8,17,18,19,24,25,26]) (kq [0]) 1 pn (ih _ _ _ _ h E hE)
  ·obtain ⟨c5,h⟩:=ae h
   refine aj hE 1 [] [] (kp [1] ++ [(5,.lP ((fX.set ((aq (x+((b.length:Nat):Int))).toNat) (IntKind.u16.wrap (carry))).length))] ++ kp [17,18,19]) [(0,.arr 0 ((fX.set ((aq (x+((b.length:Nat):Int))).toNat) (IntKind.u16.wrap (carry))).length) (fun zi=>(cU .u16) ((fX.set ((aq (x+((b.length:Nat):Int))).toNat) (IntKind.u16.wrap (carry))).getD zi 0)))] 161 (pc c5 (pc (dq c5) (pc (aJ fX ((aq (x+((b.length:Nat):Int))).toNat) (IntKind.u16.wrap (carry))) (pc (aJ fX ((aq (x+((b.length:Nat):Int))).toNat) (IntKind.u16.wrap (carry))) (pc (cR (cU .u16) 0 fX ((aq (x+((b.length:Nat):Int))).toNat) (IntKind.u16.wrap (carry))) pn))))) ?_
   refine aj hE 1 [] [] (kp [1,5,17,18,19]) (kq [0]) 193 pn ?_
   exact de hE 1 [] (kp [1,5,17,18,19]) (kq [0]) 1 pn (Ej _ _ _ h E hE)
theorem Ek (N a b fuel):yy N a b (kR N a b fuel):=by
 induction fuel with
 | zero=>intro _ _ r h;rw [kR.eq_1] at h;cases h
 | succ fuel ih =>
  intro out x r h E hE
  rw [kR.eq_2] at h
  refine aj hE 1 [] [] (kp [1,5,17,18,19,20]) (kq [0]) 17 pn ?_
  refine dS 1 20 h (fun dR h=>?_) (fun dR h=>?_)
  ·obtain ⟨c2,h⟩:=ae h
   refine aj hE 4 [] [] (kp [1,5,6,7,17,18,19]) (kq [0]) 97 (pc c2 pn) ?_
   refine aj hE 1 [] [] (kp [1,5,6,7,8,17,18,19]) (kq [0]) 113 pn ?_
   refine aj hE 2 [] [] (kp [1,5,6,7,8,17,18,19,24,25,26]) (kq [0]) 161 pn ?_
   exact de hE 2 [] (kp [1,5,6,7,8,17,18,19,24,25,26]) (kq [0]) 1 pn (Ei N _ _ _ _ ih N _ _ _ _ h E hE)
  ·obtain ⟨b8,hr,h⟩:=bt h
   refine aj hE 2 [(1,⟨[],true,(eU b8),[],0,true,none⟩)] [] (kp [4]) [] 65 (pc (ef _ _ _ hr) (pc (z1 out.length) pn)) ?_
   obtain rfl:=dx h
   exact dQ hE 0 Tryz.f119 [] (kp [4]) [] 65 pn [] pn
theorem Jx (N a b r) (h:tc N a b=some r):Sd 119 [(eU a),(eU b)] [] 0 (eU r) []:=by
 unfold tc at h
 refine iy (fu:=Tryz.f119) (c:=Hy 1) (nt:=67) (fun hm=>rfl) ?_
 intro E hE
 refine aj hE 1 [] [] (kp [0,1]) [] 16 pn ?_
 obtain ⟨c,h⟩:=ae h
 refine aj hE 1 [] [] (kp [0,1] ++ [(5,.lP ((List.replicate ((aq (((a.length:Nat):Int)+((b.length:Nat):Int))).toNat) 0:List Int).length))]) [(96,.arr 96 ((List.replicate ((aq (((a.length:Nat):Int)+((b.length:Nat):Int))).toNat) 0:List Int).length) (fun zi=>(cU .u16) ((List.replicate ((aq (((a.length:Nat):Int)+((b.length:Nat):Int))).toNat) 0:List Int).getD zi 0)))] 128 (pc (show 0≤(aq (((a.length:Nat):Int)+((b.length:Nat):Int))) from c.1) (pc (show (aq (((a.length:Nat):Int)+((b.length:Nat):Int)))≤(aq (((a.length:Nat):Int)+((b.length:Nat):Int))) from (Int.le_refl _)) (pc (show (2:Int) * (aq (((a.length:Nat):Int)+((b.length:Nat):Int)))≤281474976710656 from c.2.1) (pc (show (aq (((a.length:Nat):Int)+((b.length:Nat):Int)))≤9223372036854775807 from c.2.2) (pc (show (aq (((a.length:Nat):Int)+((b.length:Nat):Int))).toNat=(List.replicate ((aq (((a.length:Nat):Int)+((b.length:Nat):Int))).toNat) 0:List Int).length from (dn).symm) (pc (show (aq (((a.length:Nat):Int)+((b.length:Nat):Int))).toNat=(List.replicate ((aq (((a.length:Nat):Int)+((b.length:Nat):Int))).toNat) 0:List Int).length from (dn).symm) (pc (show ∀ zi,zi < (List.replicate ((aq (((a.length:Nat):Int)+((b.length:Nat):Int))).toNat) 0:List Int).length→(fun zi=>(cU .u16) ((List.replicate ((aq (((a.length:Nat):Int)+((b.length:Nat):Int))).toNat) 0:List Int).getD zi 0)) zi=(fun _=>[(wq 0)]) zi from (fun zq j5=>qK (cU .u16) 0 0 ((aq (((a.length:Nat):Int)+((b.length:Nat):Int))).toNat) zq j5)) pn))))))) ?_
 refine aj hE 2 [] [] (kp [1,5,17,18,19]) (kq [96]) 176 pn ?_
 exact de hE 2 [] (kp [1,5,17,18,19]) [(0,.ak 96)] 1 pn (Ek N _ _ N _ _ _ h E hE)
noncomputable abbrev acB:=cG Tryz.f106
theorem pg (N a b r) (h:pY N a b=some r):Sd 106 [(.agg (im a)),(.agg (im b))] [] 0 (.agg (im r)) []:=by
 unfold pY at h
 refine iy (fu:=Tryz.f106) (c:=acB 1) (nt:=18) (fun hm=>rfl) ?_
 intro E hE
 refine aj hE 1 [] [] (kp [2,3,4]) (kq [0,16,32]) 48 pn ?_
 obtain ⟨b8,hr,h⟩:=bt h
 obtain ⟨gq,eW,h⟩:=bt h
 obtain ⟨rY,ly,h⟩:=bt h
 obtain ⟨Jm,oi,h⟩:=bt h
 refine aj hE 1 [(7,oT (eU b8)),(10,oT (eU gq)),(11,oT (eU rY)),(12,oT (.agg (im Jm)))] [] (kp [4]) (kq [32]) 272 (pc o1 (pc o1 (pc o1 (pc (ef _ _ _ hr) (pc o1 (pc (ef _ _ _ eW) (pc (Jx _ _ _ _ ly) (pc (gz _ _ _ _ oi) (pc o1 pn))))))))) ?_
 obtain rfl:=dx h
 exact dQ hE 0 Tryz.f106 [] (kp [4]) [(16,.ak 32)] 272 pn [16] (pc o1 pn)
noncomputable abbrev Gb:=cG Tryz.f59
def Hz (N:Nat) (K:(List Int)→(List Int)→Option ((List Int))):Prop:=∀ (a2:List Int) (b2:List Int) (r:(List Int)),K a2 b2=some r→∀ E,aQ E 0→az Tryz.prog E 59 56 (aY E [] (eU r)) [.code (Gb 14),.code (Gb 15)] ⟨[(0,(eU a2)),(1,(eU b2))],[],0⟩
def Ak (N:Nat) (a2:List Int) (b2:List Int) (K:(List Int)→Int→Int→Option ((List Int))):Prop:=∀ (out:List Int) (carry:Int) (x:Int) (r:(List Int)),K out carry x=some r→∀ E,aQ E 0→az Tryz.prog E 59 56 (aY E [] (eU r)) [.code (Gb 500),.inLoop (Gb 500),.inBlock 0,.code (Gb 63)] ⟨[(1,(eU b2)),(5,(.os 0 0 out.length)),(6,(UR carry)),(20,(eU a2)),(21,(aI ((a2.length:Nat):Int))),(22,(aI x))],[(0,aU out)],1⟩
def HA (N:Nat) (a2:List Int) (b2:List Int) (out:List Int) (x:Int) (K:Int→Option ((List Int))):Prop:=∀ (fx:Int) (r:(List Int)),K fx=some r→∀ E,aQ E 0→az Tryz.prog E 59 56 (aY E [] (eU r)) [.code (Gb 128206),.code (Gb 128207),.inBlock 1,.code (Gb 4007),.inLoop (Gb 500),.inBlock 0,.code (Gb 63)] ⟨[(1,(eU b2)),(5,(.os 0 0 out.length)),(6,(UR fx)),(20,(eU a2)),(21,(aI ((a2.length:Nat):Int))),(22,(aI x))],[(0,aU out)],1⟩
theorem yz (N:Nat) (a2:List Int) (b2:List Int) (out:List Int) (x:Int) (qM:(List Int)→Int→Int→Option ((List Int))) (Gc:Ak N a2 b2 qM):HA N a2 b2 out x (pD N a2 b2 out x qM):=by
 intro fx r h E hE
 unfold pD at h
 obtain ⟨c4,h⟩:=ae h
 refine aj hE 0 [] [] (kp [1] ++ [(5,.lP ((out ++ ([(IntKind.u16.wrap (fx))]:List Int)).length))] ++ kp [6,20,21,22]) [(65,.arr 65 ((out ++ ([(IntKind.u16.wrap (fx))]:List Int)).length) (fun zi=>(cU .u16) ((out ++ ([(IntKind.u16.wrap (fx))]:List Int)).getD zi 0)))] 97 (pc (Eq.refl out.length) (pc c4 (pc (z1 1) (pc (show ∀ zi,zi < 1→AV.ko ((fun zi=>([[(wq (IntKind.u16.wrap (fx)))]]:List (List AV)).getD zi []) (bT 0 zi))=true from (zT rfl)) (pc (show (out.length+1)=(out ++ ([(IntKind.u16.wrap (fx))]:List Int)).length from (bA rfl rfl)) (pc (show out.length+1=(out ++ ([(IntKind.u16.wrap (fx))]:List Int)).length from (bA rfl rfl)) (pc (show ∀ zi,zi < (out ++ ([(IntKind.u16.wrap (fx))]:List Int)).length→(fun zi=>(cU .u16) ((out ++ ([(IntKind.u16.wrap (fx))]:List Int)).getD zi 0)) zi=((fun zm=>if zm < out.length then (fun zi=>(cU .u16) (out.getD zi 0)) zm else (fun zi=>([[(wq (IntKind.u16.wrap (fx)))]]:List (List AV)).getD zi []) (zm - out.length))) zi from (dT (cU .u16) 0 out ([(IntKind.u16.wrap (fx))]:List Int) rfl (fun _ _=>rfl) (fun zq j5=>dP (cU .u16) 0 ([(IntKind.u16.wrap (fx))]:List Int) zq j5))) pn))))))) ?_
 refine aj hE 0 [] [] (kp [1,5,6,20,21,22]) (kq [65]) 145 (pc (show (0:Int)≤16 by decide) pn) ?_
 refine aj hE 1 [] [] (kp [1,5,6,20,21,22]) (kq [65]) 177 pn ?_
 exact de hE 1 [] (kp [1,5,6,20,21,22]) [(0,.ak 65)] 1 pn (Gc _ _ _ _ h E hE)
theorem Gd (N a2 b2 fuel):Ak N a2 b2 (jF N a2 b2 fuel):=by
 induction fuel with
 | zero=>intro _ _ _ r h;rw [jF.eq_1] at h;cases h
 | succ fuel ih =>
  intro out carry x r h E hE
  rw [jF.eq_2] at h
  refine aj hE 1 [] [] (kp [1,5,6,20,21,22,23]) (kq [0]) 17 pn ?_
  refine dS 1 23 h (fun iU h=>?_) (fun iU h=>?_)
  ·obtain ⟨c2,h⟩:=ae h
   refine aj hE 4 [] [] (kp [1,5,6,7,8,20,21,22]) (kq [0]) 97 (pc c2 pn) ?_
   refine aj hE 1 [] [] (kp [1,5,6,7,20,21,22]) (kq [0]) 177 pn ?_
   refine aj hE 2 [] [] (kp [1,5,6,7,20,21,22,34]) (kq [0]) 241 pn ?_
   refine dS 0 34 h (fun rm h=>?_) (fun rm h=>?_)
   ·obtain ⟨c3,h⟩:=ae h
    refine aj hE 0 [] [] (kp [1,5,6,20,21,22]) (kq [0]) 369 (pc c3 pn) ?_
    exact de hE 1 [] (kp [1,5,6,20,21,22]) (kq [0]) 1 pn (yz N _ _ _ _ _ ih _ _ h E hE)
   ·exact de hE 2 [] (kp [1,5,6,20,21,22]) (kq [0]) 1 pn (yz N _ _ _ _ _ ih _ _ h E hE)
  ·obtain ⟨c5,h⟩:=ae h
   obtain ⟨b8,hr,h⟩:=bt h
   refine aj hE 2 [(5,⟨[],true,(eU b8),[],0,true,none⟩)] [] (kp [4]) [] 129 (pc (Eq.refl out.length) (pc c5 (pc (z1 1) (pc (show ∀ zi,zi < 1→AV.ko ((fun zi=>([[(wq (IntKind.u16.wrap (carry)))]]:List (List AV)).getD zi []) (bT 0 zi))=true from (zT rfl)) (pc (show Sd 57 [(.sl (out.length+1) (fun zi=>((fun zm=>if zm < out.length then (fun zi=>(cU .u16) (out.getD zi 0)) zm else (fun zi=>([[(wq (IntKind.u16.wrap (carry)))]]:List (List AV)).getD zi []) (zm - out.length))) (bT 0 zi)))] [] 0 (eU b8) [] from (Sound.conv (ef _ _ _ hr) (.cons (Alike.sl (bA rfl rfl) (dT (cU .u16) 0 out ([(IntKind.u16.wrap (carry))]:List Int) rfl (fun _ _=>rfl) (fun zq j5=>dP (cU .u16) 0 ([(IntKind.u16.wrap (carry))]:List Int) zq j5))) .nil))) (pc (z1 (out.length+1)) pn)))))) ?_
   obtain rfl:=dx h
   exact dQ hE 0 Tryz.f59 [] (kp [4]) [] 129 pn [] pn
theorem yA (N):Hz N (pE N):=by
 intro a2 b2 r h E hE
 unfold pE at h
 obtain ⟨c,h⟩:=ae h
 refine aj hE 0 [] [] (kp [0,1] ++ [(5,.lP ((List.replicate 0 0:List Int).length))]) [(48,.arr 48 ((List.replicate 0 0:List Int).length) (fun zi=>(cU .u16) ((List.replicate 0 0:List Int).getD zi 0)))] 80 (pc (show 0≤(0:Int) from c.1) (pc (show (0:Int)≤(aq (((a2.length:Nat):Int)+1)) from c.2.2.2) (pc (show (2:Int) * (aq (((a2.length:Nat):Int)+1))≤281474976710656 from c.2.1) (pc (show (aq (((a2.length:Nat):Int)+1))≤9223372036854775807 from c.2.2.1) (pc (show 0=(List.replicate 0 0:List Int).length from (dn).symm) (pc (show 0=(List.replicate 0 0:List Int).length from (dn).symm) (pc (show ∀ zi,zi < (List.replicate 0 0:List Int).length→(fun zi=>(cU .u16) ((List.replicate 0 0:List Int).getD zi 0)) zi=(fun _=>[(wq 0)]) zi from (fun zq j5=>qK (cU .u16) 0 0 0 zq j5)) pn))))))) ?_
 refine aj hE 1 [] [] (kp [0,1,5,6]) (kq [48]) 96 pn ?_
 refine aj hE 2 [] [] (kp [1,5,6,20,21,22]) (kq [48]) 144 pn ?_
 exact de hE 2 [] (kp [1,5,6,20,21,22]) [(0,.ak 48)] 1 pn (Gd N _ _ N _ _ _ _ h E hE)
theorem DN (N a b r) (h:tA N a b=some r):Sd 59 [(eU a),(eU b)] [] 0 (eU r) []:=by
 unfold tA at h
 refine iy (fu:=Tryz.f59) (c:=Gb 1) (nt:=56) (fun hm=>rfl) ?_
 intro E hE
 refine aj hE 1 [] [] (kp [0,1]) [] 16 pn ?_
 refine aj hE 2 [] [] (kp [0,1,13]) [] 96 pn ?_
 refine dS 0 13 h (fun dR h=>?_) (fun dR h=>?_)
 ·refine aj hE 0 [] [] (kp [0,1]) [] 160 pn ?_
  exact de hE 1 [] (kp [0,1]) [] 0 pn (yA N _ _ _ h E hE)
 ·exact de hE 2 [] (kp [0,1]) [] 0 pn (yA N _ _ _ h E hE)
noncomputable abbrev Db:=cG Tryz.f60
def tH (N:Nat) (a:List Int) (b:List Int) (K:(List Int)→Int→Int→Option ((List Int))):Prop:=∀ (out:List Int) (borrow:Int) (x:Int) (r:(List Int)),K out borrow x=some r→∀ E,aQ E 0→az Tryz.prog E 60 50 (aY E [] (eU r)) [.code (Db 244),.inLoop (Db 244),.inBlock 0,.code (Db 31)] ⟨[(1,(eU b)),(5,(.os 0 0 out.length)),(6,(UR borrow)),(13,(eU a)),(14,(aI ((a.length:Nat):Int))),(15,(aI x))],[(0,aU out)],1⟩
def Gf (N:Nat) (a:List Int) (b:List Int) (out:List Int) (x:Int) (K:Int→Option ((List Int))):Prop:=∀ (y:Int) (r:(List Int)),K y=some r→∀ E,aQ E 0→az Tryz.prog E 60 50 (aY E [] (eU r)) [.code (Db 62670),.code (Db 62671),.inBlock 1,.code (Db 1959),.inLoop (Db 244),.inBlock 0,.code (Db 31)] ⟨[(1,(eU b)),(5,(.os 0 0 out.length)),(7,(aI x)),(8,(wq (a.getD ((x).toNat) 0))),(9,(UR y)),(13,(eU a)),(14,(aI ((a.length:Nat):Int))),(15,(aI x))],[(0,aU out)],1⟩
def Gg (N:Nat) (a:List Int) (b:List Int) (out:List Int) (x:Int) (y:Int) (K:Int→Option ((List Int))):Prop:=∀ (kg:Int) (r:(List Int)),K kg=some r→∀ E,aQ E 0→az Tryz.prog E 60 50 (aY E [] (eU r)) [.code (Db 125343),.inBlock 1,.code (Db 1959),.inLoop (Db 244),.inBlock 0,.code (Db 31)] ⟨[(1,(eU b)),(5,(.os 0 0 out.length)),(6,(UR kg)),(7,(aI x)),(8,(wq (a.getD ((x).toNat) 0))),(9,(UR y)),(13,(eU a)),(14,(aI ((a.length:Nat):Int))),(15,(aI x))],[(0,aU out)],1⟩
theorem xA (N:Nat) (a:List Int) (b:List Int) (out:List Int) (x:Int) (y:Int) (fI:(List Int)→Int→Int→Option ((List Int))) (oX:tH N a b fI):Gg N a b out x y (nQ N a b out x y fI):=by
 intro kg r h E hE
 unfold nQ at h
 obtain ⟨c4,h⟩:=ae h
 refine aj hE 0 [] [] (kp [1] ++ [(5,.lP ((out.set ((x).toNat) (IntKind.u16.wrap ((IntKind.u32.wrap ((IntKind.u32.wrap ((IntKind.u32.wrap ((a.getD ((x).toNat) 0)))+(iC .u32 kg 16))) - y))))).length))] ++ kp [6,13,14,15]) [(0,.arr 0 ((out.set ((x).toNat) (IntKind.u16.wrap ((IntKind.u32.wrap ((IntKind.u32.wrap ((IntKind.u32.wrap ((a.getD ((x).toNat) 0)))+(iC .u32 kg 16))) - y))))).length) (fun zi=>(cU .u16) ((out.set ((x).toNat) (IntKind.u16.wrap ((IntKind.u32.wrap ((IntKind.u32.wrap ((IntKind.u32.wrap ((a.getD ((x).toNat) 0)))+(iC .u32 kg 16))) - y))))).getD zi 0)))] 193 (pc (show (0:Int)≤16 by decide) (pc c4 (pc (dq c4) (pc (aJ out ((x).toNat) (IntKind.u16.wrap ((IntKind.u32.wrap ((IntKind.u32.wrap ((IntKind.u32.wrap ((a.getD ((x).toNat) 0)))+(iC .u32 kg 16))) - y))))) (pc (aJ out ((x).toNat) (IntKind.u16.wrap ((IntKind.u32.wrap ((IntKind.u32.wrap ((IntKind.u32.wrap ((a.getD ((x).toNat) 0)))+(iC .u32 kg 16))) - y))))) (pc (cR (cU .u16) 0 out ((x).toNat) (IntKind.u16.wrap ((IntKind.u32.wrap ((IntKind.u32.wrap ((IntKind.u32.wrap ((a.getD ((x).toNat) 0)))+(iC .u32 kg 16))) - y))))) pn)))))) ?_
 refine aj hE 1 [] [] (kp [1,5,6,13,14,15]) (kq [0]) 225 pn ?_
 exact de hE 1 [] (kp [1,5,6,13,14,15]) (kq [0]) 1 pn (oX _ _ _ _ h E hE)
theorem xB (N:Nat) (a:List Int) (b:List Int) (out:List Int) (x:Int) (fI:(List Int)→Int→Int→Option ((List Int))) (oX:tH N a b fI):Gf N a b out x (nR N a b out x fI):=by
 intro y r h E hE
 unfold nR at h
 refine aj hE 0 [] [] (kp [1,5,6,7,8,9,13,14,15]) (kq [0]) 17 pn ?_
 refine aj hE 2 [] [] (kp [1,5,6,7,8,9,13,14,15,35]) (kq [0]) 81 pn ?_
 refine dS 0 35 h (fun rm h=>?_) (fun rm h=>?_)
 ·refine aj hE 0 [] [] (kp [1,5,6,7,8,9,13,14,15]) (kq [0]) 97 pn ?_
  exact de hE 0 [] (kp [1,5,6,7,8,9,13,14,15]) (kq [0]) 1 pn (xA N _ _ _ _ _ _ oX _ _ h E hE)
 ·exact de hE 1 [] (kp [1,5,6,7,8,9,13,14,15]) (kq [0]) 1 pn (xA N _ _ _ _ _ _ oX _ _ h E hE)
theorem El (N a b fuel):tH N a b (gJ N a b fuel):=by
 induction fuel with
 | zero=>intro _ _ _ r h;rw [gJ.eq_1] at h;cases h
 | succ fuel ih =>
  intro out borrow x r h E hE
  rw [gJ.eq_2] at h
  refine aj hE 1 [] [] (kp [1,5,6,13,14,15,16]) (kq [0]) 17 pn ?_
  refine dS 1 16 h (fun dR h=>?_) (fun dR h=>?_)
  ·obtain ⟨c2,h⟩:=ae h
   refine aj hE 4 [] [] (kp [1,5,6,7,8,13,14,15]) (kq [0]) 97 (pc c2 pn) ?_
   refine aj hE 1 [] [] (kp [1,5,7,8,9,13,14,15]) (kq [0]) 129 pn ?_
   refine aj hE 2 [] [] (kp [1,5,7,8,9,13,14,15,24]) (kq [0]) 193 pn ?_
   refine dS 0 24 h (fun iU h=>?_) (fun iU h=>?_)
   ·obtain ⟨c3,h⟩:=ae h
    refine aj hE 0 [] [] (kp [1,5,7,8,9,13,14,15]) (kq [0]) 321 (pc c3 pn) ?_
    exact de hE 1 [] (kp [1,5,7,8,9,13,14,15]) (kq [0]) 1 pn (xB N _ _ _ _ _ ih _ _ h E hE)
   ·exact de hE 2 [] (kp [1,5,7,8,9,13,14,15]) (kq [0]) 1 pn (xB N _ _ _ _ _ ih _ _ h E hE)
  ·obtain ⟨b8,hr,h⟩:=bt h
   refine aj hE 2 [(1,⟨[],true,(eU b8),[],0,true,none⟩)] [] (kp [4]) [] 65 (pc (ef _ _ _ hr) (pc (z1 out.length) pn)) ?_
   obtain rfl:=dx h
   exact dQ hE 0 Tryz.f60 [] (kp [4]) [] 65 pn [] pn
theorem wX (N a b r) (h:pF N a b=some r):Sd 60 [(eU a),(eU b)] [] 0 (eU r) []:=by
 unfold pF at h
 refine iy (fu:=Tryz.f60) (c:=Db 1) (nt:=50) (fun hm=>rfl) ?_
 intro E hE
 refine aj hE 1 [] [] (kp [0,1]) [] 16 pn ?_
 obtain ⟨c,h⟩:=ae h
 refine aj hE 1 [] [] (kp [0,1] ++ [(5,.lP ((List.replicate a.length 0:List Int).length))]) [(48,.arr 48 ((List.replicate a.length 0:List Int).length) (fun zi=>(cU .u16) ((List.replicate a.length 0:List Int).getD zi 0)))] 80 (pc (show 0≤((a.length:Nat):Int) from c.1) (pc (show ((a.length:Nat):Int)≤((a.length:Nat):Int) from (Int.le_refl _)) (pc (show (2:Int) * ((a.length:Nat):Int)≤281474976710656 from c.2.1) (pc (show ((a.length:Nat):Int)≤9223372036854775807 from c.2.2) (pc (show a.length=(List.replicate a.length 0:List Int).length from (dn).symm) (pc (show a.length=(List.replicate a.length 0:List Int).length from (dn).symm) (pc (show ∀ zi,zi < (List.replicate a.length 0:List Int).length→(fun zi=>(cU .u16) ((List.replicate a.length 0:List Int).getD zi 0)) zi=(fun _=>[(wq 0)]) zi from (fun zq j5=>qK (cU .u16) 0 0 a.length zq j5)) pn))))))) ?_
 refine aj hE 1 [] [] (kp [0,1,5,6]) (kq [48]) 96 pn ?_
 refine aj hE 2 [] [] (kp [1,5,6,13,14,15]) (kq [48]) 144 pn ?_
 exact de hE 2 [] (kp [1,5,6,13,14,15]) [(0,.ak 48)] 1 pn (El N _ _ N _ _ _ _ h E hE)
noncomputable abbrev acC:=cG Tryz.f105
theorem MY (N a b r) (h:BD N a b=some r):Sd 105 [(.agg (im a)),(.agg (im b))] [] 0 (.agg (im r)) []:=by
 unfold BD at h
 refine iy (fu:=Tryz.f105) (c:=acC 1) (nt:=40) (fun hm=>rfl) ?_
 intro E hE
 refine aj hE 1 [] [] (kp [2,3,4]) (kq [0,16,32]) 48 pn ?_
 obtain ⟨b8,hr,h⟩:=bt h
 obtain ⟨gq,eW,h⟩:=bt h
 refine aj hE 1 [(2,oT (eU b8)),(5,oT (eU gq))] [] (kp [2,3,4,5,6]) (kq [0,16,32]) 176 (pc o1 (pc (ef _ _ _ hr) (pc o1 (pc (ef _ _ _ eW) pn)))) ?_
 refine aj hE 2 [] [] (kp [2,3,4,5,6,17]) (kq [0,16,32]) 256 (pc o1 (pc o1 pn)) ?_
 refine dS 0 17 h (fun dR h=>?_) (fun dR h=>?_)
 ·obtain ⟨xr,ly,h⟩:=bt h
  obtain ⟨Jm,oi,h⟩:=bt h
  refine aj hE 1 [(4,oT (eU xr)),(5,oT (.agg (im Jm)))] [] (kp [4]) (kq [32]) 368 (pc o1 (pc (DN _ _ _ _ ly) (pc (gz _ _ _ _ oi) (pc o1 pn)))) ?_
  obtain rfl:=dx h
  exact dQ hE 0 Tryz.f105 [] (kp [4]) [(16,.ak 32)] 368 pn [16] (pc o1 pn)
 ·obtain ⟨jV,tZ,h⟩:=bt h
  refine aj hE 3 [(2,oT (aI jV))] [] (kp [2,3,4,5,6,27]) (kq [0,16,32]) 320 (pc (ym _ _ _ _ tZ) pn) ?_
  refine dS 0 27 h (fun iU h=>?_) (fun iU h=>?_)
  ·obtain ⟨pa,yu,h⟩:=bt h
   obtain ⟨AJ,AQ,h⟩:=bt h
   refine aj hE 1 [(4,oT (eU pa)),(5,oT (.agg (im AJ)))] [] (kp [4]) (kq [32]) 432 (pc o1 (pc (wX _ _ _ _ yu) (pc (gz _ _ _ _ AQ) (pc o1 pn)))) ?_
   obtain rfl:=dx h
   exact dQ hE 0 Tryz.f105 [] (kp [4]) [(16,.ak 32)] 432 pn [16] (pc o1 pn)
  ·obtain ⟨wR,Hv,h⟩:=bt h
   obtain ⟨Xu,Hu,h⟩:=bt h
   refine aj hE 2 [(4,oT (eU wR)),(5,oT (.agg (im Xu)))] [] (kp [4]) (kq [32]) 432 (pc o1 (pc (wX _ _ _ _ Hv) (pc (gz _ _ _ _ Hu) (pc o1 pn)))) ?_
   obtain rfl:=dx h
   exact dQ hE 0 Tryz.f105 [] (kp [4]) [(16,.ak 32)] 432 pn [16] (pc o1 pn)
noncomputable abbrev acD:=cG Tryz.f68
theorem gC (N x y r) (h:er N x y=some r):Sd 68 [(.agg (ah x)),(.agg (ah y))] [] 0 (.agg (ah r)) []:=by
 unfold er at h
 refine iy (fu:=Tryz.f68) (c:=acD 1) (nt:=32) (fun hm=>rfl) ?_
 intro E hE
 refine aj hE 1 [] [] (kp [2,3,4]) (kq [0,16,32]) 48 pn ?_
 obtain ⟨fS,hr,h⟩:=bt h
 refine aj hE 2 [(1,oT (aB fS))] [] (kp [2,3,4,8]) (kq [0,16,32]) 80 (pc o1 (pc (iz _ _ _ hr) pn)) ?_
 refine dS 0 8 h (fun dR h=>?_) (fun dR h=>?_)
 ·obtain ⟨jv,eW,h⟩:=bt h
  refine aj hE 1 [(1,oT (.agg (ah jv)))] [] (kp [4]) (kq [32]) 128 (pc o1 (pc (mw _ _ _ eW) (pc o1 pn))) ?_
  obtain rfl:=dx h
  exact dQ hE 0 Tryz.f68 [] (kp [4]) [(16,.ak 32)] 128 pn [16] (pc o1 pn)
 ·obtain ⟨tB,ly,h⟩:=bt h
  refine aj hE 3 [(1,oT (aB tB))] [] (kp [2,3,4,12]) (kq [0,16,32]) 112 (pc o1 (pc (iz _ _ _ ly) pn)) ?_
  refine dS 0 12 h (fun iU h=>?_) (fun iU h=>?_)
  ·obtain ⟨df,oi,h⟩:=bt h
   refine aj hE 1 [(1,oT (.agg (ah df)))] [] (kp [4]) (kq [32]) 160 (pc o1 (pc (mw _ _ _ oi) (pc o1 pn))) ?_
   obtain rfl:=dx h
   exact dQ hE 0 Tryz.f68 [] (kp [4]) [(16,.ak 32)] 160 pn [16] (pc o1 pn)
  ·obtain ⟨ju,tZ,h⟩:=bt h
   obtain ⟨oS,yu,h⟩:=bt h
   refine aj hE 2 [(1,oT (.agg (im ju))),(3,oT (.agg (im oS)))] [] (kp [2,3,4,5,6]) (kq [0,16,32,176,192]) 240 (pc o1 (pc (jA _ _ _ tZ) (pc o1 (pc (jA _ _ _ yu) (pc o1 (pc o1 pn)))))) ?_
   obtain ⟨wS,AQ,h⟩:=bt h
   obtain ⟨pZ,Hv,h⟩:=bt h
   obtain ⟨MP,Hu,h⟩:=bt h
   obtain ⟨FK,AP,h⟩:=bt h
   obtain ⟨Cg,Gh,h⟩:=bt h
   refine aj hE 1 [(3,oT (.agg (im wS))),(7,oT (.agg (im pZ))),(8,oT (.agg (im MP))),(11,oT (.agg (im FK))),(12,oT (.agg (ah Cg)))] [] (kp [4]) (kq [32]) 464 (pc o1 (pc o1 (pc (pg _ _ _ _ AQ) (pc o1 (pc o1 (pc (pg _ _ _ _ Hv) (pc (MY _ _ _ _ Hu) (pc o1 (pc o1 (pc (pg _ _ _ _ AP) (pc (jh _ _ _ _ Gh) (pc o1 pn)))))))))))) ?_
   obtain rfl:=dx h
   exact dQ hE 0 Tryz.f68 [] (kp [4]) [(16,.ak 32)] 464 pn [16] (pc o1 pn)
noncomputable abbrev acE:=cG Tryz.f56
theorem my (N x y r) (h:lj N x y=some r):Sd 56 [(.agg (ah x)),(.agg (ah y))] [] 0 (.agg (ah r)) []:=by
 unfold lj at h
 refine iy (fu:=Tryz.f56) (c:=acE 1) (nt:=9) (fun hm=>rfl) ?_
 intro E hE
 refine aj hE 1 [] [] (kp [2,3,4]) (kq [0,16,32]) 48 pn ?_
 obtain ⟨aV,hr,h⟩:=bt h
 obtain ⟨bz,eW,h⟩:=bt h
 refine aj hE 1 [(2,oT (.agg (ah aV))),(3,oT (.agg (ah bz)))] [] (kp [4]) (kq [32]) 128 (pc o1 (pc o1 (pc (gU _ _ _ hr) (pc (gC _ _ _ _ eW) (pc o1 pn))))) ?_
 obtain rfl:=dx h
 exact dQ hE 0 Tryz.f56 [] (kp [4]) [(16,.ak 32)] 128 pn [16] (pc o1 pn)
noncomputable abbrev acF:=cG Tryz.f23
theorem Al (N x y r) (h:pe N x y=some r):Sd 23 [(.agg (ah x)),(.agg (ah y))] [] 0 (aI r) []:=by
 unfold pe at h
 refine iy (fu:=Tryz.f23) (c:=acF 1) (nt:=9) (fun hm=>rfl) ?_
 intro E hE
 refine aj hE 1 [] [] (kp [2,3]) (kq [0,16]) 48 pn ?_
 obtain ⟨dc,hr,h⟩:=bt h
 obtain ⟨au,eW,h⟩:=bt h
 refine aj hE 1 [(2,oT (.agg (ah dc))),(3,oT (aI au))] [] (kp [4]) [] 128 (pc o1 (pc o1 (pc (my _ _ _ _ hr) (pc (ln _ _ _ eW) pn)))) ?_
 obtain rfl:=dx h
 exact dQ hE 0 Tryz.f23 [] (kp [4]) [] 128 pn [] pn
noncomputable abbrev acG:=cG Tryz.f109
theorem uz (N x y r) (h:ri N x y=some r):Sd 109 [(.agg (ah x)),(.agg (ah y))] [] 0 (.agg (ah r)) []:=by
 unfold ri at h
 refine iy (fu:=Tryz.f109) (c:=acG 1) (nt:=16) (fun hm=>rfl) ?_
 intro E hE
 refine aj hE 1 [] [] (kp [2,3,4]) (kq [0,16,32]) 48 pn ?_
 obtain ⟨ju,hr,h⟩:=bt h
 obtain ⟨wS,eW,h⟩:=bt h
 obtain ⟨oS,ly,h⟩:=bt h
 obtain ⟨pZ,oi,h⟩:=bt h
 obtain ⟨Cg,tZ,h⟩:=bt h
 refine aj hE 1 [(3,oT (.agg (im ju))),(4,oT (.agg (im wS))),(6,oT (.agg (im oS))),(9,oT (.agg (im pZ))),(10,oT (.agg (ah Cg)))] [] (kp [4]) (kq [32]) 240 (pc o1 (pc o1 (pc (jA _ _ _ hr) (pc (pg _ _ _ _ eW) (pc o1 (pc (jA _ _ _ ly) (pc o1 (pc (pg _ _ _ _ oi) (pc (jh _ _ _ _ tZ) (pc o1 pn)))))))))) ?_
 obtain rfl:=dx h
 exact dQ hE 0 Tryz.f109 [] (kp [4]) [(16,.ak 32)] 240 pn [16] (pc o1 pn)
noncomputable abbrev acH:=cG Tryz.f69
theorem gD (N x y r) (h:e8 N x y=some r):Sd 69 [(.agg (ah x)),(.agg (ah y))] [] 0 (.agg (ah r)) []:=by
 unfold e8 at h
 refine iy (fu:=Tryz.f69) (c:=acH 1) (nt:=16) (fun hm=>rfl) ?_
 intro E hE
 refine aj hE 1 [] [] (kp [2,3,4]) (kq [0,16,32]) 48 pn ?_
 obtain ⟨wS,hr,h⟩:=bt h
 obtain ⟨ju,eW,h⟩:=bt h
 obtain ⟨oS,ly,h⟩:=bt h
 obtain ⟨pZ,oi,h⟩:=bt h
 obtain ⟨Cg,tZ,h⟩:=bt h
 refine aj hE 1 [(4,oT (.agg (im wS))),(6,oT (.agg (im ju))),(8,oT (.agg (im oS))),(9,oT (.agg (im pZ))),(10,oT (.agg (ah Cg)))] [] (kp [4]) (kq [32]) 240 (pc o1 (pc o1 (pc (pg _ _ _ _ hr) (pc o1 (pc (jA _ _ _ eW) (pc o1 (pc (jA _ _ _ ly) (pc (pg _ _ _ _ oi) (pc (jh _ _ _ _ tZ) (pc o1 pn)))))))))) ?_
 obtain rfl:=dx h
 exact dQ hE 0 Tryz.f69 [] (kp [4]) [(16,.ak 32)] 240 pn [16] (pc o1 pn)
noncomputable abbrev RO:=cG Tryz.f110
def rz (N:Nat) (j:Int) (f:aa) (C0:List aa) (K:(List aa)→Int→Option ((List aa))):Prop:=∀ (bc:List aa) (x:Int) (r:(List aa)),K bc x=some r→∀ E,aQ E 1→az Tryz.prog E 110 49 (aY E [(0,aO 4 ah aa.d r)] (.tup [])) [.code (RO 28),.inLoop (RO 28),.inBlock 0] ⟨[(1,(.os 0 0 bc.length)),(2,(.os 0 0 bc.length)),(3,(aI j)),(9,(.op 1 0 0)),(12,(aI ((C0.length:Nat):Int))),(13,(aI x))],[(0,aO 4 ah aa.d bc),(1,vO 4 (ah f))],2⟩
def yB (N:Nat) (j:Int) (f:aa) (C0:List aa) (x:Int) (K:(List aa)→Option ((List aa))):Prop:=∀ (bZ:List aa) (r:(List aa)),K bZ=some r→∀ E,aQ E 1→az Tryz.prog E 110 49 (aY E [(0,aO 4 ah aa.d r)] (.tup [])) [.code (RO 231),.inLoop (RO 28),.inBlock 0] ⟨[(1,(.os 0 0 bZ.length)),(2,(.os 0 0 bZ.length)),(3,(aI j)),(9,(.op 1 0 0)),(12,(aI ((C0.length:Nat):Int))),(13,(aI x))],[(0,aO 4 ah aa.d bZ),(1,vO 4 (ah f))],2⟩
theorem mF (N:Nat) (j:Int) (f:aa) (C0:List aa) (x:Int) (kS:(List aa)→Int→Option ((List aa))) (xJ:rz N j f C0 kS):yB N j f C0 x (jX N j f C0 x kS):=by
 intro bZ r h E hE
 unfold jX at h
 refine aj hE 0 [] [] (kp [1,2,3,9,12,13]) (kq [0,1]) 34 pn ?_
 exact de hE 1 [] (kp [1,2,3,9,12,13]) (kq [0,1]) 2 pn (xJ _ _ _ h E hE)
theorem xK (N j f C0 fuel):rz N j f C0 (fY N j f C0 fuel):=by
 induction fuel with
 | zero=>intro _ _ r h;rw [fY.eq_1] at h;cases h
 | succ fuel ih =>
  intro bc x r h E hE
  rw [fY.eq_2] at h
  refine aj hE 1 [] [] (kp [1,2,3,9,12,13,14]) (kq [0,1]) 18 pn ?_
  refine dS 1 14 h (fun dR h=>?_) (fun dR h=>?_)
  ·refine aj hE 4 [] [] (kp [1,2,3,9,10,12,13]) (kq [0,1]) 50 pn ?_
   refine aj hE 1 [] [] (kp [1,2,3,9,10,12,13,18]) (kq [0,1]) 98 pn ?_
   refine dS 0 18 h (fun iU h=>?_) (fun iU h=>?_)
   ·obtain ⟨c,h⟩:=ae h
    obtain ⟨cy,hr,h⟩:=bt h
    refine aj hE 0 [(7,oT (.agg (ah cy)))] [] ([(1,.lP ((bc.set ((x).toNat) cy).length)),(2,.lP ((bc.set ((x).toNat) cy).length))] ++ kp [3,9,12,13]) ([(0,.arr 0 ((bc.set ((x).toNat) cy).length) (fun zi=>ah ((bc.set ((x).toNat) cy).getD zi aa.d)))] ++ kq [1]) 258 (pc o1 (pc c (pc (dq c) (pc (gD _ _ _ _ hr) (pc c (pc (dq c) (pc (aJ bc ((x).toNat) cy) (pc (aJ bc ((x).toNat) cy) (pc (aJ bc ((x).toNat) cy) (pc (cR ah aa.d bc ((x).toNat) cy) pn)))))))))) ?_
    exact de hE 1 [] (kp [1,2,3,9,12,13]) (kq [0,1]) 2 pn (mF N _ _ _ _ _ ih _ _ h E hE)
   ·obtain ⟨c2,h⟩:=ae h
    obtain ⟨fS,eW,h⟩:=bt h
    refine aj hE 1 [(4,oT (aB fS))] [] (kp [1,2,3,9,10,12,13,33]) (kq [0,1]) 194 (pc c2 (pc (dq c2) (pc (iz _ _ _ eW) pn))) ?_
    refine dS 0 33 h (fun rm h=>?_) (fun rm h=>?_)
    ·obtain ⟨gK,ly,h⟩:=bt h
     obtain ⟨bz,oi,h⟩:=bt h
     refine aj hE 0 [(11,oT (.agg (ah gK))),(12,oT (.agg (ah bz)))] [] ([(1,.lP ((bc.set ((x).toNat) bz).length)),(2,.lP ((bc.set ((x).toNat) bz).length))] ++ kp [3,9,12,13]) ([(0,.arr 0 ((bc.set ((x).toNat) bz).length) (fun zi=>ah ((bc.set ((x).toNat) bz).getD zi aa.d)))] ++ kq [1]) 434 (pc c2 (pc (dq c2) (pc o1 (pc c2 (pc (dq c2) (pc (gD _ _ _ _ ly) (pc (gC _ _ _ _ oi) (pc c2 (pc (dq c2) (pc (aJ bc ((x).toNat) bz) (pc (aJ bc ((x).toNat) bz) (pc (aJ bc ((x).toNat) bz) (pc (cR ah aa.d bc ((x).toNat) bz) pn))))))))))))) ?_
     exact de hE 1 [] (kp [1,2,3,9,12,13]) (kq [0,1]) 2 pn (mF N _ _ _ _ _ ih _ _ h E hE)
    ·exact de hE 2 [] (kp [1,2,3,9,12,13]) (kq [0,1]) 2 pn (mF N _ _ _ _ _ ih _ _ h E hE)
  ·obtain rfl:=dx h
   exact rnF hE 1 Tryz.f110 [] [] (kq [0]) 49 pn [] pn
theorem AR (N j f C0 r) (h:r7 N j f C0=some r):Sd 110 [.mU,(.os 0 0 C0.length),(.os 0 0 C0.length),(aI j),(.agg (ah f))] [(0,aO 4 ah aa.d C0)] 1 (.tup []) [(0,aO 4 ah aa.d r)]:=by
 unfold r7 at h
 refine iy (fu:=Tryz.f110) (c:=RO 1) (nt:=49) (fun hm=>absurd hm (by decide)) ?_
 intro E hE
 refine aj hE 1 [] [] (kp [1,2,3,9]) (kq [0,1]) 17 pn ?_
 refine aj hE 1 [] [] (kp [1,2,3,9,12,13]) (kq [0,1]) 65 pn ?_
 exact de hE 2 [] (kp [1,2,3,9,12,13]) (kq [0,1]) 2 pn (xK N _ _ _ N _ _ _ h E hE)
noncomputable abbrev RP:=cG Tryz.f110
def pL (N:Nat) (j:Int) (f:aa) (C0:List aa) (C1:List aa) (K:(List aa)→Int→Option ((List aa))):Prop:=∀ (bc:List aa) (x:Int) (r:(List aa)),K bc x=some r→∀ E,aQ E 2→az Tryz.prog E 110 49 (aY E [(0,aO 4 ah aa.d r),(1,aO 4 ah aa.d C1)] (.tup [])) [.code (RP 28),.inLoop (RP 28),.inBlock 0] ⟨[(1,(.os 0 0 bc.length)),(2,(.os 1 0 C1.length)),(3,(aI j)),(9,(.op 2 0 0)),(12,(aI ((C0.length:Nat):Int))),(13,(aI x))],[(0,aO 4 ah aa.d bc),(1,aO 4 ah aa.d C1),(2,vO 4 (ah f))],3⟩
def vM (N:Nat) (j:Int) (f:aa) (C0:List aa) (C1:List aa) (x:Int) (K:(List aa)→Option ((List aa))):Prop:=∀ (bZ:List aa) (r:(List aa)),K bZ=some r→∀ E,aQ E 2→az Tryz.prog E 110 49 (aY E [(0,aO 4 ah aa.d r),(1,aO 4 ah aa.d C1)] (.tup [])) [.code (RP 231),.inLoop (RP 28),.inBlock 0] ⟨[(1,(.os 0 0 bZ.length)),(2,(.os 1 0 C1.length)),(3,(aI j)),(9,(.op 2 0 0)),(12,(aI ((C0.length:Nat):Int))),(13,(aI x))],[(0,aO 4 ah aa.d bZ),(1,aO 4 ah aa.d C1),(2,vO 4 (ah f))],3⟩
theorem lp (N:Nat) (j:Int) (f:aa) (C0:List aa) (C1:List aa) (x:Int) (iZ:(List aa)→Int→Option ((List aa))) (uS:pL N j f C0 C1 iZ):vM N j f C0 C1 x (fC N j f C0 C1 x iZ):=by
 intro bZ r h E hE
 unfold fC at h
 refine aj hE 0 [] [] (kp [1,2,3,9,12,13]) (kq [0,1,2]) 35 pn ?_
 exact de hE 1 [] (kp [1,2,3,9,12,13]) (kq [0,1,2]) 3 pn (uS _ _ _ h E hE)
theorem uT (N j f C0 C1 fuel):pL N j f C0 C1 (cY N j f C0 C1 fuel):=by
 induction fuel with
 | zero=>intro _ _ r h;rw [cY.eq_1] at h;cases h
 | succ fuel ih =>
  intro bc x r h E hE
  rw [cY.eq_2] at h
  refine aj hE 1 [] [] (kp [1,2,3,9,12,13,14]) (kq [0,1,2]) 19 pn ?_
  refine dS 1 14 h (fun dR h=>?_) (fun dR h=>?_)
  ·refine aj hE 4 [] [] (kp [1,2,3,9,10,12,13]) (kq [0,1,2]) 51 pn ?_
   refine aj hE 1 [] [] (kp [1,2,3,9,10,12,13,18]) (kq [0,1,2]) 99 pn ?_
   refine dS 0 18 h (fun iU h=>?_) (fun iU h=>?_)
   ·obtain ⟨c,h⟩:=ae h
    obtain ⟨cy,hr,h⟩:=bt h
    obtain ⟨c2,h⟩:=ae h
    refine aj hE 0 [(7,oT (.agg (ah cy)))] [] ([(1,.lP ((bc.set ((x).toNat) cy).length))] ++ kp [2,3,9,12,13]) ([(0,.arr 0 ((bc.set ((x).toNat) cy).length) (fun zi=>ah ((bc.set ((x).toNat) cy).getD zi aa.d)))] ++ kq [1,2]) 259 (pc o1 (pc c (pc (dq c) (pc (gD _ _ _ _ hr) (pc c2 (pc (dq c2) (pc (aJ bc ((x).toNat) cy) (pc (aJ bc ((x).toNat) cy) (pc (cR ah aa.d bc ((x).toNat) cy) pn))))))))) ?_
    exact de hE 1 [] (kp [1,2,3,9,12,13]) (kq [0,1,2]) 3 pn (lp N _ _ _ _ _ _ ih _ _ h E hE)
   ·obtain ⟨c3,h⟩:=ae h
    obtain ⟨fS,eW,h⟩:=bt h
    refine aj hE 1 [(4,oT (aB fS))] [] (kp [1,2,3,9,10,12,13,33]) (kq [0,1,2]) 195 (pc c3 (pc (dq c3) (pc (iz _ _ _ eW) pn))) ?_
    refine dS 0 33 h (fun rm h=>?_) (fun rm h=>?_)
    ·obtain ⟨c4,h⟩:=ae h
     obtain ⟨gK,ly,h⟩:=bt h
     obtain ⟨bz,oi,h⟩:=bt h
     refine aj hE 0 [(11,oT (.agg (ah gK))),(12,oT (.agg (ah bz)))] [] ([(1,.lP ((bc.set ((x).toNat) bz).length))] ++ kp [2,3,9,12,13]) ([(0,.arr 0 ((bc.set ((x).toNat) bz).length) (fun zi=>ah ((bc.set ((x).toNat) bz).getD zi aa.d)))] ++ kq [1,2]) 435 (pc c4 (pc (dq c4) (pc o1 (pc c3 (pc (dq c3) (pc (gD _ _ _ _ ly) (pc (gC _ _ _ _ oi) (pc c4 (pc (dq c4) (pc (aJ bc ((x).toNat) bz) (pc (aJ bc ((x).toNat) bz) (pc (cR ah aa.d bc ((x).toNat) bz) pn)))))))))))) ?_
     exact de hE 1 [] (kp [1,2,3,9,12,13]) (kq [0,1,2]) 3 pn (lp N _ _ _ _ _ _ ih _ _ h E hE)
    ·exact de hE 2 [] (kp [1,2,3,9,12,13]) (kq [0,1,2]) 3 pn (lp N _ _ _ _ _ _ ih _ _ h E hE)
  ·obtain rfl:=dx h
   exact rnF hE 1 Tryz.f110 [] [] (kq [0,1]) 50 pn [] pn
theorem mH (N j f C0 C1 r) (h:hO N j f C0 C1=some r):Sd 110 [.mU,(.os 0 0 C0.length),(.os 1 0 C1.length),(aI j),(.agg (ah f))] [(0,aO 4 ah aa.d C0),(1,aO 4 ah aa.d C1)] 2 (.tup []) [(0,aO 4 ah aa.d r),(1,aO 4 ah aa.d C1)]:=by
 unfold hO at h
 refine iy (fu:=Tryz.f110) (c:=RP 1) (nt:=49) (fun hm=>absurd hm (by decide)) ?_
 intro E hE
 refine aj hE 1 [] [] (kp [1,2,3,9]) (kq [0,1,2]) 18 pn ?_
 refine aj hE 1 [] [] (kp [1,2,3,9,12,13]) (kq [0,1,2]) 66 pn ?_
 exact de hE 2 [] (kp [1,2,3,9,12,13]) (kq [0,1,2]) 3 pn (uT N _ _ _ _ N _ _ _ h E hE)
noncomputable abbrev BM:=cG Tryz.f74
def qa (N:Nat) (i:Int) (j:Int) (C0:Int) (bc:Int) (bZ:Bool) (cM:List Int) (cP:Bool) (cQ:List Int) (cg:Int) (C1:List Int) (C2:List Int) (C3:List (List aa)) (C4:List aa) (C5:List aa) (K:(List aa)→Int→Option (jj×(List Int)×(List Int)×(List (List aa))×(List aa)×(List aa))):Prop:=∀ (tC:List aa) (x:Int) (r:jj×(List Int)×(List Int)×(List (List aa))×(List aa)×(List aa)),K tC x=some r→∀ E,aQ E 6→az Tryz.prog E 74 194 (aY E [(0,vN 12 [(aI r.1.rf),(aI r.1.rh),(.os 1 0 r.2.1.length),(.os 2 0 r.2.2.1.length),(.os 3 0 r.2.2.2.1.length),(.os 4 0 r.2.2.2.2.1.length),(.os 5 0 r.2.2.2.2.2.length),(aB r.1.af.fN.fG),(eU r.1.af.fN.fL),(aB r.1.af.fD.fG),(eU r.1.af.fD.fL),(aI r.1.bC)]),(1,aO 1 cI 0 r.2.1),(2,aO 1 cI 0 r.2.2.1),(3,aM 4 ah aa.d r.2.2.2.1),(4,aO 4 ah aa.d r.2.2.2.2.1),(5,aO 4 ah aa.d r.2.2.2.2.2)] (.tup [])) [.code (BM 116),.inLoop (BM 116),.inBlock 0,.code (BM 15)] ⟨[(0,(.op 0 0 0)),(1,(aI i)),(2,(aI j)),(6,(.op 7 0 0)),(7,(.os 6 0 tC.length)),(30,(aI (((C3.getD ((i).toNat) []).length:Nat):Int))),(31,(aI x))],[(0,vN 12 [(aI C0),(aI bc),(.os 1 0 C1.length),(.os 2 0 C2.length),(.os 3 0 C3.length),(.os 4 0 C4.length),(.os 5 0 C5.length),(aB bZ),(eU cM),(aB cP),(eU cQ),(aI cg)]),(1,aO 1 cI 0 C1),(2,aO 1 cI 0 C2),(3,⟨false,1,C3.length,false,bk [((i).toNat,6,tC.length)] (mG C3)⟩),(4,aO 4 ah aa.d C4),(5,aO 4 ah aa.d C5),(6,aO 4 ah aa.d tC),(7,vO 4 [(aB ((((C3.getD ((i).toNat) []).getD ((j).toNat) aa.d).fN).fG)),(eU ((((C3.getD ((i).toNat) []).getD ((j).toNat) aa.d).fN).fL)),(aB ((((C3.getD ((i).toNat) []).getD ((j).toNat) aa.d).fD).fG)),(eU ((((C3.getD ((i).toNat) []).getD ((j).toNat) aa.d).fD).fL))])],8⟩
def wY (N:Nat) (i:Int) (j:Int) (C0:Int) (bc:Int) (bZ:Bool) (cM:List Int) (cP:Bool) (cQ:List Int) (cg:Int) (C1:List Int) (C2:List Int) (C3:List (List aa)) (C4:List aa) (C5:List aa) (x:Int) (K:(List aa)→Option (jj×(List Int)×(List Int)×(List (List aa))×(List aa)×(List aa))):Prop:=∀ (FL:List aa) (r:jj×(List Int)×(List Int)×(List (List aa))×(List aa)×(List aa)),K FL=some r→∀ E,aQ E 6→az Tryz.prog E 74 194 (aY E [(0,vN 12 [(aI r.1.rf),(aI r.1.rh),(.os 1 0 r.2.1.length),(.os 2 0 r.2.2.1.length),(.os 3 0 r.2.2.2.1.length),(.os 4 0 r.2.2.2.2.1.length),(.os 5 0 r.2.2.2.2.2.length),(aB r.1.af.fN.fG),(eU r.1.af.fN.fL),(aB r.1.af.fD.fG),(eU r.1.af.fD.fL),(aI r.1.bC)]),(1,aO 1 cI 0 r.2.1),(2,aO 1 cI 0 r.2.2.1),(3,aM 4 ah aa.d r.2.2.2.1),(4,aO 4 ah aa.d r.2.2.2.2.1),(5,aO 4 ah aa.d r.2.2.2.2.2)] (.tup [])) [.code (BM 935),.inLoop (BM 116),.inBlock 0,.code (BM 15)] ⟨[(0,(.op 0 0 0)),(1,(aI i)),(2,(aI j)),(6,(.op 7 0 0)),(7,(.os 6 0 FL.length)),(30,(aI (((C3.getD ((i).toNat) []).length:Nat):Int))),(31,(aI x))],[(0,vN 12 [(aI C0),(aI bc),(.os 1 0 C1.length),(.os 2 0 C2.length),(.os 3 0 C3.length),(.os 4 0 C4.length),(.os 5 0 C5.length),(aB bZ),(eU cM),(aB cP),(eU cQ),(aI cg)]),(1,aO 1 cI 0 C1),(2,aO 1 cI 0 C2),(3,⟨false,1,C3.length,false,bk [((i).toNat,6,FL.length)] (mG C3)⟩),(4,aO 4 ah aa.d C4),(5,aO 4 ah aa.d C5),(6,aO 4 ah aa.d FL),(7,vO 4 [(aB ((((C3.getD ((i).toNat) []).getD ((j).toNat) aa.d).fN).fG)),(eU ((((C3.getD ((i).toNat) []).getD ((j).toNat) aa.d).fN).fL)),(aB ((((C3.getD ((i).toNat) []).getD ((j).toNat) aa.d).fD).fG)),(eU ((((C3.getD ((i).toNat) []).getD ((j).toNat) aa.d).fD).fL))])],8⟩
theorem pM (N:Nat) (i:Int) (j:Int) (C0:Int) (bc:Int) (bZ:Bool) (cM:List Int) (cP:Bool) (cQ:List Int) (cg:Int) (C1:List Int) (C2:List Int) (C3:List (List aa)) (C4:List aa) (C5:List aa) (x:Int) (jx:(List aa)→Int→Option (jj×(List Int)×(List Int)×(List (List aa))×(List aa)×(List aa))) (vP:qa N i j C0 bc bZ cM cP cQ cg C1 C2 C3 C4 C5 jx):wY N i j C0 bc bZ cM cP cQ cg C1 C2 C3 C4 C5 x (iH N i j C0 bc bZ cM cP cQ cg C1 C2 C3 C4 C5 x jx):=by
 intro FL r h E hE
 unfold iH at h
 refine aj hE 0 [] [] (kp [0,1,2,6,7,30,31]) (kq [0,1,2] ++ [(3,.pz 3 (C3.length) [((i).toNat,6,FL.length)] (mG C3))] ++ kq [4,5,6,7]) 40 (pc (Eq.refl C3.length) (pc (mC C3 [((i).toNat,6,FL.length)]) (pc (iM C3) pn))) ?_
 exact de hE 1 [] (kp [0,1,2,6,7,30,31]) (kq [0,1,2] ++ [(3,.pz 3 (C3.length) [((i).toNat,6,FL.length)] (mG C3))] ++ kq [4,5,6,7]) 8 (pc (Eq.refl C3.length) (pc (mC C3 [((i).toNat,6,FL.length)]) (pc (iM C3) pn))) (vP _ _ _ h E hE)
def qc (N:Nat) (i:Int) (j:Int) (C0:Int) (bc:Int) (bZ:Bool) (cM:List Int) (cP:Bool) (cQ:List Int) (cg:Int) (C1:List Int) (C2:List Int) (C3:List (List aa)) (C5:List aa) (K:(List (List aa))→(List aa)→(List aa)→Int→Option (jj×(List Int)×(List Int)×(List (List aa))×(List aa)×(List aa))):Prop:=∀ (cd:List (List aa)) (ca:List aa) (mV:List aa) (x2:Int) (r:jj×(List Int)×(List Int)×(List (List aa))×(List aa)×(List aa)),K cd ca mV x2=some r→∀ E,aQ E 6→az Tryz.prog E 74 194 (aY E [(0,vN 12 [(aI r.1.rf),(aI r.1.rh),(.os 1 0 r.2.1.length),(.os 2 0 r.2.2.1.length),(.os 3 0 r.2.2.2.1.length),(.os 4 0 r.2.2.2.2.1.length),(.os 5 0 r.2.2.2.2.2.length),(aB r.1.af.fN.fG),(eU r.1.af.fN.fL),(aB r.1.af.fD.fG),(eU r.1.af.fD.fL),(aI r.1.bC)]),(1,aO 1 cI 0 r.2.1),(2,aO 1 cI 0 r.2.2.1),(3,aM 4 ah aa.d r.2.2.2.1),(4,aO 4 ah aa.d r.2.2.2.2.1),(5,aO 4 ah aa.d r.2.2.2.2.2)] (.tup [])) [.code (BM 1012),.inLoop (BM 1012),.inBlock 2,.code (BM 127)] ⟨[(0,(.op 0 0 0)),(1,(aI i)),(2,(aI j)),(7,(.os 6 0 ca.length)),(74,(aI ((C3.length:Nat):Int))),(75,(aI x2))],[(0,vN 12 [(aI C0),(aI bc),(.os 1 0 C1.length),(.os 2 0 C2.length),(.os 3 0 cd.length),(.os 4 0 mV.length),(.os 5 0 C5.length),(aB bZ),(eU cM),(aB cP),(eU cQ),(aI cg)]),(1,aO 1 cI 0 C1),(2,aO 1 cI 0 C2),(3,⟨false,1,cd.length,false,bk [((i).toNat,6,ca.length)] (mG cd)⟩),(4,aO 4 ah aa.d mV),(5,aO 4 ah aa.d C5),(6,aO 4 ah aa.d ca)],7⟩
def wZ (N:Nat) (i:Int) (j:Int) (C0:Int) (bc:Int) (bZ:Bool) (cM:List Int) (cP:Bool) (cQ:List Int) (cg:Int) (C1:List Int) (C2:List Int) (C3:List (List aa)) (C5:List aa) (x2:Int) (K:(List (List aa))→(List aa)→(List aa)→Option (jj×(List Int)×(List Int)×(List (List aa))×(List aa)×(List aa))):Prop:=∀ (jl:List (List aa)) (FM:List aa) (mE:List aa) (r:jj×(List Int)×(List Int)×(List (List aa))×(List aa)×(List aa)),K jl FM mE=some r→∀ E,aQ E 6→az Tryz.prog E 74 194 (aY E [(0,vN 12 [(aI r.1.rf),(aI r.1.rh),(.os 1 0 r.2.1.length),(.os 2 0 r.2.2.1.length),(.os 3 0 r.2.2.2.1.length),(.os 4 0 r.2.2.2.2.1.length),(.os 5 0 r.2.2.2.2.2.length),(aB r.1.af.fN.fG),(eU r.1.af.fN.fL),(aB r.1.af.fD.fG),(eU r.1.af.fD.fL),(aI r.1.bC)]),(1,aO 1 cI 0 r.2.1),(2,aO 1 cI 0 r.2.2.1),(3,aM 4 ah aa.d r.2.2.2.1),(4,aO 4 ah aa.d r.2.2.2.2.1),(5,aO 4 ah aa.d r.2.2.2.2.2)] (.tup [])) [.code (BM 8103),.inLoop (BM 1012),.inBlock 2,.code (BM 127)] ⟨[(0,(.op 0 0 0)),(1,(aI i)),(2,(aI j)),(7,(.os 6 0 FM.length)),(74,(aI ((C3.length:Nat):Int))),(75,(aI x2))],[(0,vN 12 [(aI C0),(aI bc),(.os 1 0 C1.length),(.os 2 0 C2.length),(.os 3 0 jl.length),(.os 4 0 mE.length),(.os 5 0 C5.length),(aB bZ),(eU cM),(aB cP),(eU cQ),(aI cg)]),(1,aO 1 cI 0 C1),(2,aO 1 cI 0 C2),(3,⟨false,1,jl.length,false,bk [((i).toNat,6,FM.length)] (mG jl)⟩),(4,aO 4 ah aa.d mE),(5,aO 4 ah aa.d C5),(6,aO 4 ah aa.d FM)],7⟩
theorem gn (N:Nat) (i:Int) (j:Int) (C0:Int) (bc:Int) (bZ:Bool) (cM:List Int) (cP:Bool) (cQ:List Int) (cg:Int) (C1:List Int) (C2:List Int) (C3:List (List aa)) (C5:List aa) (x2:Int) (jy:(List (List aa))→(List aa)→(List aa)→Int→Option (jj×(List Int)×(List Int)×(List (List aa))×(List aa)×(List aa))) (vQ:qc N i j C0 bc bZ cM cP cQ cg C1 C2 C3 C5 jy):wZ N i j C0 bc bZ cM cP cQ cg C1 C2 C3 C5 x2 (dC N i j C0 bc bZ cM cP cQ cg C1 C2 C3 C5 x2 jy):=by
 intro jl FM mE r h E hE
 unfold dC at h
 refine aj hE 0 [] [] (kp [0,1,2,7,74,75]) (kq [0,1,2] ++ [(3,.pz 3 (jl.length) [((i).toNat,6,FM.length)] (mG jl))] ++ kq [4,5,6]) 39 (pc (Eq.refl jl.length) (pc (mC jl [((i).toNat,6,FM.length)]) (pc (iM jl) pn))) ?_
 exact de hE 1 [] (kp [0,1,2,7,74,75]) (kq [0,1,2] ++ [(3,.pz 3 (jl.length) [((i).toNat,6,FM.length)] (mG jl))] ++ kq [4,5,6]) 7 (pc (Eq.refl jl.length) (pc (mC jl [((i).toNat,6,FM.length)]) (pc (iM jl) pn))) (vQ _ _ _ _ _ h E hE)
def w5 (N:Nat) (i:Int) (j:Int) (C0:Int) (bc:Int) (cg:Int) (C1:List Int) (C2:List Int) (cd:List (List aa)) (ca:List aa) (mV:List aa) (K:(List aa)→Bool→(List Int)→Bool→(List Int)→Option (jj×(List Int)×(List Int)×(List (List aa))×(List aa)×(List aa))):Prop:=∀ (fh:List aa) (ia:Bool) (mW:List Int) (pR:Bool) (pS:List Int) (r:jj×(List Int)×(List Int)×(List (List aa))×(List aa)×(List aa)),K fh ia mW pR pS=some r→∀ E,aQ E 6→az Tryz.prog E 74 194 (aY E [(0,vN 12 [(aI r.1.rf),(aI r.1.rh),(.os 1 0 r.2.1.length),(.os 2 0 r.2.2.1.length),(.os 3 0 r.2.2.2.1.length),(.os 4 0 r.2.2.2.2.1.length),(.os 5 0 r.2.2.2.2.2.length),(aB r.1.af.fN.fG),(eU r.1.af.fN.fL),(aB r.1.af.fD.fG),(eU r.1.af.fD.fL),(aI r.1.bC)]),(1,aO 1 cI 0 r.2.1),(2,aO 1 cI 0 r.2.2.1),(3,aM 4 ah aa.d r.2.2.2.1),(4,aO 4 ah aa.d r.2.2.2.2.1),(5,aO 4 ah aa.d r.2.2.2.2.2)] (.tup [])) [.code (BM 255)] ⟨[(0,(.op 0 0 0)),(1,(aI i)),(2,(aI j))],[(0,vN 12 [(aI C0),(aI bc),(.os 1 0 C1.length),(.os 2 0 C2.length),(.os 3 0 ((cd.set ((i).toNat) ca).length)),(.os 4 0 mV.length),(.os 5 0 fh.length),(aB ia),(eU mW),(aB pR),(eU pS),(aI cg)]),(1,aO 1 cI 0 C1),(2,aO 1 cI 0 C2),(3,aM 4 ah aa.d (cd.set ((i).toNat) ca)),(4,aO 4 ah aa.d mV),(5,aO 4 ah aa.d fh)],6⟩
theorem pN (N i j C0 bc cg C1 C2 cd ca mV):w5 N i j C0 bc cg C1 C2 cd ca mV (gi N i j C0 bc cg C1 C2 cd ca mV):=by
 intro fh ia mW pR pS r h E hE
 unfold gi at h
 obtain ⟨XB,h⟩:=ae h
 obtain ⟨c28,h⟩:=ae h
 refine aj hE 0 [] [] [] ([(0,.var 0 [.ak,.ak,.lP ((C1.set ((i).toNat) (C2.getD ((j).toNat) 0)).length),.lP ((C2.set ((j).toNat) (C1.getD ((i).toNat) 0)).length),.ak,.ak,.ak,.ak,.ak,.ak,.ak,.ak]),(1,.arr 1 ((C1.set ((i).toNat) (C2.getD ((j).toNat) 0)).length) (fun zi=>cI ((C1.set ((i).toNat) (C2.getD ((j).toNat) 0)).getD zi 0))),(2,.arr 2 ((C2.set ((j).toNat) (C1.getD ((i).toNat) 0)).length) (fun zi=>cI ((C2.set ((j).toNat) (C1.getD ((i).toNat) 0)).getD zi 0)))] ++ kq [3,4,5]) 454 (pc o1 (pc o1 (pc o1 (pc XB (pc (dq XB) (pc o1 (pc c28 (pc (dq c28) (pc c28 (pc (dq c28) (pc XB (pc (dq XB) (pc (aJ C1 ((i).toNat) (C2.getD ((j).toNat) 0)) (pc (aJ C2 ((j).toNat) (C1.getD ((i).toNat) 0)) (pc (aJ C1 ((i).toNat) (C2.getD ((j).toNat) 0)) (pc (cR cI 0 C1 ((i).toNat) (C2.getD ((j).toNat) 0)) (pc (aJ C2 ((j).toNat) (C1.getD ((i).toNat) 0)) (pc (cR cI 0 C2 ((j).toNat) (C1.getD ((i).toNat) 0)) pn)))))))))))))))))) ?_
 obtain rfl:=dx h
 exact rnF hE 0 Tryz.f74 [] [] (kq [0,1,2,3,4,5]) 454 pn [] pn
theorem vR (N i j C0 bc bZ cM cP cQ cg C1 C2 C3 C5 fuel):qc N i j C0 bc bZ cM cP cQ cg C1 C2 C3 C5 (cu N i j C0 bc bZ cM cP cQ cg C1 C2 C3 C5 fuel):=by
 induction fuel with
 | zero=>intro _ _ _ _ r h;rw [cu.eq_1] at h;cases h
 | succ fuel ih =>
  intro cd ca mV x2 r h E hE
  rw [cu.eq_2] at h
  refine aj hE 1 [] [] (kp [0,1,2,7,74,75,76]) (kq [0,1,2] ++ [(3,.pz 3 (cd.length) [((i).toNat,6,ca.length)] (mG cd))] ++ kq [4,5,6]) 23 (pc (Eq.refl cd.length) (pc (mC cd [((i).toNat,6,ca.length)]) (pc (iM cd) pn))) ?_
  refine dS 1 76 h (fun rm h=>?_) (fun rm h=>?_)
  ·refine aj hE 4 [] [] (kp [0,1,2,7,9,74,75]) (kq [0,1,2] ++ [(3,.pz 3 (cd.length) [((i).toNat,6,ca.length)] (mG cd))] ++ kq [4,5,6]) 55 (pc (Eq.refl cd.length) (pc (mC cd [((i).toNat,6,ca.length)]) (pc (iM cd) pn))) ?_
   rcases condSplit h with ⟨hA,h⟩ | ⟨hA,h⟩
   ·obtain ⟨c9,h⟩:=ae h
    obtain ⟨RN,h⟩:=ae h
    refine aj hE 1 [(6,oF (.os 6 0 ca.length))] [] (kp [0,1,2,7,9,10,74,75]) (kq [0,1,2] ++ [(3,.pz 3 (cd.length) [((i).toNat,6,ca.length)] (mG cd))] ++ kq [4,5,6,215]) 247 (pc o1 (pc c9 (pc (dq c9) (pc (show (bk [((i).toNat,6,ca.length)] (mG cd) ((x2).toNat))[0]?=some (.os 6 0 ca.length) from (gO (oJ hA))) (pc RN (pc (dq RN) (pc o1 (pc (Eq.refl cd.length) (pc (mC cd [((i).toNat,6,ca.length)]) (pc (iM cd) pn)))))))))) ?_
    obtain ⟨fS,AQ,h⟩:=bt h
    refine aj hE 1 [(5,oT (aB fS))] [] (kp [0,1,2,7,9,10,74,75,95]) (kq [0,1,2] ++ [(3,.pz 3 (cd.length) [((i).toNat,6,ca.length)] (mG cd))] ++ kq [4,5,6,215]) 375 (pc (fun hg:(x2 != i)=true=>(pc o1 pn)) (pc (fun hg:(x2 != i)=true=>(pc (iz _ _ _ (aG AQ hg)) (pc hg pn))) (pc (fun hg:(x2 != i)=true=>(pc hg pn)) (pc (fun hq:(x2 != i)=true=>(pc hq pn)) (pc (Eq.refl cd.length) (pc (mC cd [((i).toNat,6,ca.length)]) (pc (iM cd) pn))))))) ?_
    refine dS 0 95 h (fun F5 h=>?_) (fun F5 h=>?_)
    ·obtain ⟨L0,h⟩:=ae h
     obtain ⟨RK,h⟩:=ae h
     obtain ⟨cy,Hv,h⟩:=bt h
     obtain ⟨bz,Hu,h⟩:=bt h
     refine aj hE 1 [(20,oT (.agg (ah cy))),(21,oT (.agg (ah bz)))] [] (kp [0,1,2,7,9,10,74,75]) ([(0,.var 0 [.ak,.ak,.ak,.ak,.ak,.lP ((mV.set ((x2).toNat) bz).length),.ak,.ak,.ak,.ak,.ak,.ak])] ++ kq [1,2] ++ [(3,.pz 3 (cd.length) [((i).toNat,6,ca.length)] (mG cd)),(4,.arr 4 ((mV.set ((x2).toNat) bz).length) (fun zi=>ah ((mV.set ((x2).toNat) bz).getD zi aa.d)))] ++ kq [5,6,215]) 759 (pc o1 (pc o1 (pc L0 (pc (dq L0) (pc o1 (pc o1 (pc RK (pc (dq RK) (pc (gD _ _ _ _ Hv) (pc (gC _ _ _ _ Hu) (pc L0 (pc (dq L0) (pc (aJ mV ((x2).toNat) bz) (pc (Eq.refl cd.length) (pc (mC cd [((i).toNat,6,ca.length)]) (pc (iM cd) (pc (aJ mV ((x2).toNat) bz) (pc (cR ah aa.d mV ((x2).toNat) bz) pn)))))))))))))))))) ?_
     rcases condSplit h with ⟨XC,h⟩ | ⟨XC,h⟩
     ·obtain ⟨Hr,AP,h⟩:=bt h
      obtain ⟨MV,h⟩:=ae h
      refine aj hE 0 [(7,oF (.os 6 0 ca.length)),(11,⟨[6],false,(.tup []),[(0,aO 4 ah aa.d Hr)],0,false,none⟩)] [] (kp [0,1,2] ++ [(7,.lP (Hr.length))] ++ kp [74,75]) (kq [0,1,2] ++ [(3,.pz 3 (cd.length) [((i).toNat,6,Hr.length)] (mG cd))] ++ kq [4,5,6]) 951 (pc o1 (pc c9 (pc (dq c9) (pc (show (bk [((i).toNat,6,ca.length)] (mG cd) ((x2).toNat))[0]?=some (.os 6 0 ca.length) from (gO (oJ XC))) (pc o1 (pc (AR _ _ _ _ _ AP) (pc (show ca.length=Hr.length from (Eq.symm MV)) (pc (Eq.refl cd.length) (pc (show ∀ zm,zm < cd.length→bk [((i).toNat,6,Hr.length)] (mG cd) zm=bk [((i).toNat,6,ca.length)] (mG cd) zm from (fun zm _=>(congrArg (fun zn=>bk [((i).toNat,6,zn)] (mG cd) zm) (Eq.symm (Eq.symm MV))))) (pc (iM cd) pn)))))))))) ?_
      exact de hE 1 [] (kp [0,1,2,7,74,75]) (kq [0,1,2] ++ [(3,.pz 3 (cd.length) [((i).toNat,6,Hr.length)] (mG cd))] ++ kq [4,5,6]) 7 (pc (Eq.refl cd.length) (pc (mC cd [((i).toNat,6,Hr.length)]) (pc (iM cd) pn))) (gn N _ _ _ _ _ _ _ _ _ _ _ _ _ _ _ ih _ _ _ _ h E hE)
     ·obtain ⟨Qf,h⟩:=ae h
      refine Rr 3 ((x2).toNat) 4 ((cd.getD ((x2).toNat) []).length) (fun zi=>ah ((cd.getD ((x2).toNat) []).getD zi aa.d)) (pc Qf (pc (show bk [((i).toNat,6,ca.length)] (mG cd) ((x2).toNat)=mR 4 ah aa.d (cd.getD ((x2).toNat) []) from (if_neg (lz XC))) pn)) ?_
      obtain ⟨nf,Gh,h⟩:=bt h
      obtain ⟨Yw,h⟩:=ae h
      refine aj hE 0 [(7,oF (.os 759 0 ((cd.getD ((x2).toNat) []).length))),(11,⟨[759,6],false,(.tup []),[(0,aO 4 ah aa.d nf),(1,aO 4 ah aa.d ca)],0,false,none⟩)] [] (kp [0,1,2,7,74,75]) (kq [0,1,2] ++ [(3,.pz 3 (cd.length) [((x2).toNat,759,nf.length),((i).toNat,6,ca.length)] (mG cd))] ++ kq [4,5,6,759]) 967 (pc o1 (pc c9 (pc (dq c9) (pc (show (bk [((x2).toNat,759,(cd.getD ((x2).toNat) []).length),((i).toNat,6,ca.length)] (mG cd) ((x2).toNat))[0]?=some (.os 759 0 ((cd.getD ((x2).toNat) []).length)) from (gO rfl)) (pc o1 (pc (mH _ _ _ _ _ _ Gh) (pc (Eq.refl cd.length) (pc (show ∀ zm,zm < cd.length→bk [((x2).toNat,759,nf.length),((i).toNat,6,ca.length)] (mG cd) zm=bk [((x2).toNat,759,(cd.getD ((x2).toNat) []).length),((i).toNat,6,ca.length)] (mG cd) zm from (fun zm _=>(congrArg (fun zn=>bk [((x2).toNat,759,zn),((i).toNat,6,ca.length)] (mG cd) zm) (Eq.symm (Eq.symm Yw))))) (pc (iM cd) pn))))))))) ?_
      refine Pt 3 759 ((x2).toNat) (pc Qf (pc (show bk [((x2).toNat,759,nf.length),((i).toNat,6,ca.length)] (mG cd) ((x2).toNat)=[.os 759 0 nf.length] from if_pos rfl) (pc (show ∀ zj,zj < nf.length→mL (ah (nf.getD zj aa.d))=true from fun _ _=>rfl) pn))) ?_
      refine J7 hE [] (kp [0,1,2,7,74,75]) ([(0,.var 0 [.ak,.ak,.ak,.ak,.lP ((cd.set ((x2).toNat) nf).length),.ak,.ak,.ak,.ak,.ak,.ak,.ak])] ++ kq [1,2] ++ [(3,.pz 3 ((cd.set ((x2).toNat) nf).length) [((i).toNat,6,ca.length)] (mG (cd.set ((x2).toNat) nf)))] ++ kq [4,5,6]) 967 (pc (aJ cd ((x2).toNat) nf) (pc (aJ cd ((x2).toNat) nf) (pc (BA (sz:=4) (c:=ah) (d:=aa.d) cd ((x2).toNat) 759 nf.length nf [((i).toNat,6,ca.length)] Qf (neC (Ne.symm (lz XC)) CO)) (pc (iM (cd.set ((x2).toNat) nf)) pn)))) ?_
      exact de hE 1 [] (kp [0,1,2,7,74,75]) (kq [0,1,2] ++ [(3,.pz 3 ((cd.set ((x2).toNat) nf).length) [((i).toNat,6,ca.length)] (mG (cd.set ((x2).toNat) nf)))] ++ kq [4,5,6]) 7 (pc (Eq.refl ((cd.set ((x2).toNat) nf).length)) (pc (mC (cd.set ((x2).toNat) nf) [((i).toNat,6,ca.length)]) (pc (iM (cd.set ((x2).toNat) nf)) pn))) (gn N _ _ _ _ _ _ _ _ _ _ _ _ _ _ _ ih _ _ _ _ h E hE)
    ·exact de hE 2 [] (kp [0,1,2,7,74,75]) (kq [0,1,2] ++ [(3,.pz 3 (cd.length) [((i).toNat,6,ca.length)] (mG cd))] ++ kq [4,5,6]) 7 (pc (Eq.refl cd.length) (pc (mC cd [((i).toNat,6,ca.length)]) (pc (iM cd) pn))) (gn N _ _ _ _ _ _ _ _ _ _ _ _ _ _ _ ih _ _ _ _ h E hE)
   ·obtain ⟨RM,h⟩:=ae h
    refine Rr 3 ((x2).toNat) 4 ((cd.getD ((x2).toNat) []).length) (fun zi=>ah ((cd.getD ((x2).toNat) []).getD zi aa.d)) (pc RM (pc (show bk [((i).toNat,6,ca.length)] (mG cd) ((x2).toNat)=mR 4 ah aa.d (cd.getD ((x2).toNat) []) from (if_neg (lz hA))) pn)) ?_
    obtain ⟨ZO,h⟩:=ae h
    obtain ⟨c19,h⟩:=ae h
    refine aj hE 1 [(6,oF (.os 55 0 ((cd.getD ((x2).toNat) []).length)))] [] (kp [0,1,2,7,9,10,74,75]) (kq [0,1,2] ++ [(3,.pz 3 (cd.length) [((x2).toNat,55,(cd.getD ((x2).toNat) []).length),((i).toNat,6,ca.length)] (mG cd))] ++ kq [4,5,6,55,231]) 263 (pc o1 (pc ZO (pc (dq ZO) (pc (show (bk [((x2).toNat,55,(cd.getD ((x2).toNat) []).length),((i).toNat,6,ca.length)] (mG cd) ((x2).toNat))[0]?=some (.os 55 0 ((cd.getD ((x2).toNat) []).length)) from (gO rfl)) (pc c19 (pc (dq c19) (pc o1 (pc (Eq.refl cd.length) (pc (mC cd [((x2).toNat,55,(cd.getD ((x2).toNat) []).length),((i).toNat,6,ca.length)]) (pc (iM cd) pn)))))))))) ?_
    refine Pt 3 55 ((x2).toNat) (pc RM (pc (show bk [((x2).toNat,55,(cd.getD ((x2).toNat) []).length),((i).toNat,6,ca.length)] (mG cd) ((x2).toNat)=[.os 55 0 (cd.getD ((x2).toNat) []).length] from if_pos rfl) (pc (show ∀ zj,zj < (cd.getD ((x2).toNat) []).length→mL (ah ((cd.getD ((x2).toNat) []).getD zj aa.d))=true from fun _ _=>rfl) pn))) ?_
    refine J7 hE [] (kp [0,1,2,7,9,10,74,75]) (kq [0,1,2] ++ [(3,.pz 3 (cd.length) [((i).toNat,6,ca.length)] (mG cd))] ++ kq [4,5,6,231]) 263 (pc (Eq.refl (cd.length)) (pc (qY (sz:=4) (c:=ah) (d:=aa.d) cd ((x2).toNat) 55 ((cd.getD ((x2).toNat) []).length) [((i).toNat,6,ca.length)] (neC (Ne.symm (lz hA)) CO)) (pc (iM cd) pn))) ?_
    obtain ⟨tB,MZ,h⟩:=bt h
    refine aj hE 1 [(5,oT (aB tB))] [] (kp [0,1,2,7,9,10,74,75,95]) (kq [0,1,2] ++ [(3,.pz 3 (cd.length) [((i).toNat,6,ca.length)] (mG cd))] ++ kq [4,5,6,231]) 391 (pc (fun hg:(x2 != i)=true=>(pc o1 pn)) (pc (fun hg:(x2 != i)=true=>(pc (iz _ _ _ (aG MZ hg)) (pc hg pn))) (pc (fun hg:(x2 != i)=true=>(pc hg pn)) (pc (fun hq:(x2 != i)=true=>(pc hq pn)) (pc (Eq.refl cd.length) (pc (mC cd [((i).toNat,6,ca.length)]) (pc (iM cd) pn))))))) ?_
    refine dS 0 95 h (fun PD h=>?_) (fun PD h=>?_)
    ·obtain ⟨ZP,h⟩:=ae h
     obtain ⟨c21,h⟩:=ae h
     obtain ⟨gK,M0,h⟩:=bt h
     obtain ⟨dg,M1,h⟩:=bt h
     refine aj hE 1 [(20,oT (.agg (ah gK))),(21,oT (.agg (ah dg)))] [] (kp [0,1,2,7,9,10,74,75]) ([(0,.var 0 [.ak,.ak,.ak,.ak,.ak,.lP ((mV.set ((x2).toNat) dg).length),.ak,.ak,.ak,.ak,.ak,.ak])] ++ kq [1,2] ++ [(3,.pz 3 (cd.length) [((i).toNat,6,ca.length)] (mG cd)),(4,.arr 4 ((mV.set ((x2).toNat) dg).length) (fun zi=>ah ((mV.set ((x2).toNat) dg).getD zi aa.d)))] ++ kq [5,6,231]) 775 (pc o1 (pc o1 (pc ZP (pc (dq ZP) (pc o1 (pc o1 (pc c21 (pc (dq c21) (pc (gD _ _ _ _ M0) (pc (gC _ _ _ _ M1) (pc ZP (pc (dq ZP) (pc (aJ mV ((x2).toNat) dg) (pc (Eq.refl cd.length) (pc (mC cd [((i).toNat,6,ca.length)]) (pc (iM cd) (pc (aJ mV ((x2).toNat) dg) (pc (cR ah aa.d mV ((x2).toNat) dg) pn)))))))))))))))))) ?_
     refine Rr 3 ((x2).toNat) 4 ((cd.getD ((x2).toNat) []).length) (fun zi=>ah ((cd.getD ((x2).toNat) []).getD zi aa.d)) (pc RM (pc (show bk [((i).toNat,6,ca.length)] (mG cd) ((x2).toNat)=mR 4 ah aa.d (cd.getD ((x2).toNat) []) from (if_neg (lz hA))) pn)) ?_
     obtain ⟨nh,RR,h⟩:=bt h
     obtain ⟨c22,h⟩:=ae h
     refine aj hE 0 [(7,oF (.os 775 0 ((cd.getD ((x2).toNat) []).length))),(11,⟨[775,6],false,(.tup []),[(0,aO 4 ah aa.d nh),(1,aO 4 ah aa.d ca)],0,false,none⟩)] [] (kp [0,1,2,7,74,75]) (kq [0,1,2] ++ [(3,.pz 3 (cd.length) [((x2).toNat,775,nh.length),((i).toNat,6,ca.length)] (mG cd))] ++ kq [4,5,6,775]) 983 (pc o1 (pc ZO (pc (dq ZO) (pc (show (bk [((x2).toNat,775,(cd.getD ((x2).toNat) []).length),((i).toNat,6,ca.length)] (mG cd) ((x2).toNat))[0]?=some (.os 775 0 ((cd.getD ((x2).toNat) []).length)) from (gO rfl)) (pc o1 (pc (mH _ _ _ _ _ _ RR) (pc (Eq.refl cd.length) (pc (show ∀ zm,zm < cd.length→bk [((x2).toNat,775,nh.length),((i).toNat,6,ca.length)] (mG cd) zm=bk [((x2).toNat,775,(cd.getD ((x2).toNat) []).length),((i).toNat,6,ca.length)] (mG cd) zm from (fun zm _=>(congrArg (fun zn=>bk [((x2).toNat,775,zn),((i).toNat,6,ca.length)] (mG cd) zm) (Eq.symm (Eq.symm c22))))) (pc (iM cd) pn))))))))) ?_
     refine Pt 3 775 ((x2).toNat) (pc RM (pc (show bk [((x2).toNat,775,nh.length),((i).toNat,6,ca.length)] (mG cd) ((x2).toNat)=[.os 775 0 nh.length] from if_pos rfl) (pc (show ∀ zj,zj < nh.length→mL (ah (nh.getD zj aa.d))=true from fun _ _=>rfl) pn))) ?_
     refine J7 hE [] (kp [0,1,2,7,74,75]) ([(0,.var 0 [.ak,.ak,.ak,.ak,.lP ((cd.set ((x2).toNat) nh).length),.ak,.ak,.ak,.ak,.ak,.ak,.ak])] ++ kq [1,2] ++ [(3,.pz 3 ((cd.set ((x2).toNat) nh).length) [((i).toNat,6,ca.length)] (mG (cd.set ((x2).toNat) nh)))] ++ kq [4,5,6]) 983 (pc (aJ cd ((x2).toNat) nh) (pc (aJ cd ((x2).toNat) nh) (pc (BA (sz:=4) (c:=ah) (d:=aa.d) cd ((x2).toNat) 775 nh.length nh [((i).toNat,6,ca.length)] RM (neC (Ne.symm (lz hA)) CO)) (pc (iM (cd.set ((x2).toNat) nh)) pn)))) ?_
     exact de hE 1 [] (kp [0,1,2,7,74,75]) (kq [0,1,2] ++ [(3,.pz 3 ((cd.set ((x2).toNat) nh).length) [((i).toNat,6,ca.length)] (mG (cd.set ((x2).toNat) nh)))] ++ kq [4,5,6]) 7 (pc (Eq.refl ((cd.set ((x2).toNat) nh).length)) (pc (mC (cd.set ((x2).toNat) nh) [((i).toNat,6,ca.length)]) (pc (iM (cd.set ((x2).toNat) nh)) pn))) (gn N _ _ _ _ _ _ _ _ _ _ _ _ _ _ _ ih _ _ _ _ h E hE)
    ·exact de hE 2 [] (kp [0,1,2,7,74,75]) (kq [0,1,2] ++ [(3,.pz 3 (cd.length) [((i).toNat,6,ca.length)] (mG cd))] ++ kq [4,5,6]) 7 (pc (Eq.refl cd.length) (pc (mC cd [((i).toNat,6,ca.length)]) (pc (iM cd) pn))) (gn N _ _ _ _ _ _ _ _ _ _ _ _ _ _ _ ih _ _ _ _ h E hE)
  ·obtain ⟨c23,h⟩:=ae h
   refine aj hE 3 [] [] (kp [0,1,2,7,11]) (kq [0,1,2] ++ [(3,.pz 3 (cd.length) [((i).toNat,6,ca.length)] (mG cd))] ++ kq [4,5,6,135]) 167 (pc o1 (pc c23 (pc (dq c23) (pc o1 (pc (Eq.refl cd.length) (pc (mC cd [((i).toNat,6,ca.length)]) (pc (iM cd) pn))))))) ?_
   obtain ⟨FN,XD,h⟩:=bt h
   refine aj hE 1 [(1,oT (aB FN))] [] (kp [0,1,2,7,11,141]) (kq [0,1,2] ++ [(3,.pz 3 (cd.length) [((i).toNat,6,ca.length)] (mG cd))] ++ kq [4,5,6,135]) 215 (pc o1 (pc (iz _ _ _ XD) (pc (Eq.refl cd.length) (pc (mC cd [((i).toNat,6,ca.length)]) (pc (iM cd) pn))))) ?_
   refine dS 0 141 h (fun hq7 h=>?_) (fun hq7 h=>?_)
   ·obtain ⟨Yx,h⟩:=ae h
    obtain ⟨FO,XE,h⟩:=bt h
    obtain ⟨jm,XF,h⟩:=bt h
    refine aj hE 1 [(13,oT (.agg (ah FO))),(14,oT (.agg (ah jm)))] [] (kp [0,1,2,7,11]) (kq [0,1,2] ++ [(3,.pz 3 (cd.length) [((i).toNat,6,ca.length)] (mG cd))] ++ kq [4,5,6,135]) 503 (pc o1 (pc o1 (pc o1 (pc Yx (pc (dq Yx) (pc (gD _ _ _ _ XE) (pc (gC _ _ _ _ XF) (pc o1 (pc (Eq.refl cd.length) (pc (mC cd [((i).toNat,6,ca.length)]) (pc (iM cd) pn))))))))))) ?_
    obtain ⟨Iq,XG,h⟩:=bt h
    obtain ⟨Yy,h⟩:=ae h
    refine aj hE 0 [(8,⟨[5,6],false,(.tup []),[(0,aO 4 ah aa.d Iq),(1,aO 4 ah aa.d ca)],0,false,none⟩)] [] (kp [0,1,2]) ([(0,.var 0 [.ak,.ak,.ak,.ak,.ak,.ak,.lP (Iq.length),.ak,.ak,.ak,.ak,.ak])] ++ kq [1,2] ++ [(3,.pz 3 (cd.length) [((i).toNat,6,ca.length)] (mG cd))] ++ kq [4,5,6]) 647 (pc o1 (pc o1 (pc (mH _ _ _ _ _ _ XG) (pc (show C5.length=Iq.length from (Eq.symm Yy)) (pc (Eq.refl cd.length) (pc (mC cd [((i).toNat,6,ca.length)]) (pc (iM cd) pn))))))) ?_
    obtain ⟨Yz,h⟩:=ae h
    refine Pt 3 6 ((i).toNat) (pc Yz (pc (show bk [((i).toNat,6,ca.length)] (mG cd) ((i).toNat)=[.os 6 0 ca.length] from if_pos rfl) (pc (show ∀ zj,zj < ca.length→mL (ah (ca.getD zj aa.d))=true from fun _ _=>rfl) pn))) ?_
    refine J7 hE [] (kp [0,1,2]) ([(0,.var 0 [.ak,.ak,.ak,.ak,.lP ((cd.set ((i).toNat) ca).length),.ak,.ak,.ak,.ak,.ak,.ak,.ak])] ++ kq [1,2] ++ [(3,.pz 3 ((cd.set ((i).toNat) ca).length) [] (mG (cd.set ((i).toNat) ca)))] ++ kq [4,5]) 647 (pc (aJ cd ((i).toNat) ca) (pc (aJ cd ((i).toNat) ca) (pc (BA (sz:=4) (c:=ah) (d:=aa.d) cd ((i).toNat) 6 ca.length ca [] Yz CO) (pc (iM (cd.set ((i).toNat) ca)) pn)))) ?_
    exact de hE 0 [] (kp [0,1,2]) (kq [0,1,2,3,4,5]) 6 pn (pN N _ _ _ _ _ _ _ _ _ _ _ _ _ _ _ _ h E hE)
   ·obtain ⟨c29,h⟩:=ae h
    refine Pt 3 6 ((i).toNat) (pc c29 (pc (show bk [((i).toNat,6,ca.length)] (mG cd) ((i).toNat)=[.os 6 0 ca.length] from if_pos rfl) (pc (show ∀ zj,zj < ca.length→mL (ah (ca.getD zj aa.d))=true from fun _ _=>rfl) pn))) ?_
    refine J7 hE [] (kp [0,1,2]) ([(0,.var 0 [.ak,.ak,.ak,.ak,.lP ((cd.set ((i).toNat) ca).length),.ak,.ak,.ak,.ak,.ak,.ak,.ak])] ++ kq [1,2] ++ [(3,.pz 3 ((cd.set ((i).toNat) ca).length) [] (mG (cd.set ((i).toNat) ca)))] ++ kq [4,5,135]) 215 (pc (aJ cd ((i).toNat) ca) (pc (aJ cd ((i).toNat) ca) (pc (BA (sz:=4) (c:=ah) (d:=aa.d) cd ((i).toNat) 6 ca.length ca [] c29 CO) (pc (iM (cd.set ((i).toNat) ca)) pn)))) ?_
    exact de hE 1 [] (kp [0,1,2]) (kq [0,1,2,3,4,5]) 6 pn (pN N _ _ _ _ _ _ _ _ _ _ _ _ _ _ _ _ h E hE)
theorem vS (N i j C0 bc bZ cM cP cQ cg C1 C2 C3 C4 C5 fuel):qa N i j C0 bc bZ cM cP cQ cg C1 C2 C3 C4 C5 (dD N i j C0 bc bZ cM cP cQ cg C1 C2 C3 C4 C5 fuel):=by
 induction fuel with
 | zero=>intro _ _ r h;rw [dD.eq_1] at h;cases h
 | succ fuel ih =>
  intro tC x r h E hE
  rw [dD.eq_2] at h
  refine aj hE 1 [] [] (kp [0,1,2,6,7,30,31,32]) (kq [0,1,2] ++ [(3,.pz 3 (C3.length) [((i).toNat,6,tC.length)] (mG C3))] ++ kq [4,5,6,7]) 24 (pc (Eq.refl C3.length) (pc (mC C3 [((i).toNat,6,tC.length)]) (pc (iM C3) pn))) ?_
  refine dS 1 32 h (fun dR h=>?_) (fun dR h=>?_)
  ·refine aj hE 4 [] [] (kp [0,1,2,6,7,8,30,31]) (kq [0,1,2] ++ [(3,.pz 3 (C3.length) [((i).toNat,6,tC.length)] (mG C3))] ++ kq [4,5,6,7]) 56 (pc (Eq.refl C3.length) (pc (mC C3 [((i).toNat,6,tC.length)]) (pc (iM C3) pn))) ?_
   refine aj hE 1 [] [] (kp [0,1,2,6,7,8,30,31,36]) (kq [0,1,2] ++ [(3,.pz 3 (C3.length) [((i).toNat,6,tC.length)] (mG C3))] ++ kq [4,5,6,7]) 104 (pc (Eq.refl C3.length) (pc (mC C3 [((i).toNat,6,tC.length)]) (pc (iM C3) pn))) ?_
   refine dS 0 36 h (fun iU h=>?_) (fun iU h=>?_)
   ·obtain ⟨c5,h⟩:=ae h
    obtain ⟨kn,hr,h⟩:=bt h
    obtain ⟨aV,eW,h⟩:=bt h
    refine aj hE 0 [(7,oT (.agg (ah kn))),(8,oT (.agg (ah aV)))] [] (kp [0,1,2,6] ++ [(7,.lP ((tC.set ((x).toNat) aV).length))] ++ kp [30,31]) (kq [0,1,2] ++ [(3,.pz 3 (C3.length) [((i).toNat,6,(tC.set ((x).toNat) aV).length)] (mG C3))] ++ kq [4,5] ++ [(6,.arr 6 ((tC.set ((x).toNat) aV).length) (fun zi=>ah ((tC.set ((x).toNat) aV).getD zi aa.d)))] ++ kq [7]) 280 (pc c5 (pc (dq c5) (pc o1 (pc (uz _ _ _ _ hr) (pc (gU _ _ _ eW) (pc c5 (pc (dq c5) (pc (aJ tC ((x).toNat) aV) (pc (Eq.refl C3.length) (pc (show ∀ zm,zm < C3.length→bk [((i).toNat,6,(tC.set ((x).toNat) aV).length)] (mG C3) zm=bk [((i).toNat,6,tC.length)] (mG C3) zm from (fun zm _=>(congrArg (fun zn=>bk [((i).toNat,6,zn)] (mG C3) zm) (Eq.symm (m6 rfl))))) (pc (iM C3) (pc (aJ tC ((x).toNat) aV) (pc (cR ah aa.d tC ((x).toNat) aV) pn))))))))))))) ?_
    exact de hE 1 [] (kp [0,1,2,6,7,30,31]) (kq [0,1,2] ++ [(3,.pz 3 (C3.length) [((i).toNat,6,(tC.set ((x).toNat) aV).length)] (mG C3))] ++ kq [4,5,6,7]) 8 (pc (Eq.refl C3.length) (pc (mC C3 [((i).toNat,6,(tC.set ((x).toNat) aV).length)]) (pc (iM C3) pn))) (pM N _ _ _ _ _ _ _ _ _ _ _ _ _ _ _ _ ih _ _ h E hE)
   ·exact de hE 2 [] (kp [0,1,2,6,7,30,31]) (kq [0,1,2] ++ [(3,.pz 3 (C3.length) [((i).toNat,6,tC.length)] (mG C3))] ++ kq [4,5,6,7]) 8 (pc (Eq.refl C3.length) (pc (mC C3 [((i).toNat,6,tC.length)]) (pc (iM C3) pn))) (pM N _ _ _ _ _ _ _ _ _ _ _ _ _ _ _ _ ih _ _ h E hE)
  ·obtain ⟨aw,ly,h⟩:=bt h
   obtain ⟨kx,oi,h⟩:=bt h
   obtain ⟨c6,h⟩:=ae h
   refine aj hE 2 [(2,oT (.agg (ah aw))),(4,oT (.agg (ah kx)))] [] (kp [0,1,2,6] ++ [(7,.lP ((tC.set ((j).toNat) kx).length))]) (kq [0,1,2] ++ [(3,.pz 3 (C3.length) [((i).toNat,6,(tC.set ((j).toNat) kx).length)] (mG C3))] ++ kq [4,5] ++ [(6,.arr 6 ((tC.set ((j).toNat) kx).length) (fun zi=>ah ((tC.set ((j).toNat) kx).getD zi aa.d)))] ++ kq [7]) 136 (pc (dL _ _ _ ly) (pc o1 (pc (uz _ _ _ _ oi) (pc c6 (pc (dq c6) (pc (aJ tC ((j).toNat) kx) (pc (Eq.refl C3.length) (pc (show ∀ zm,zm < C3.length→bk [((i).toNat,6,(tC.set ((j).toNat) kx).length)] (mG C3) zm=bk [((i).toNat,6,tC.length)] (mG C3) zm from (fun zm _=>(congrArg (fun zn=>bk [((i).toNat,6,zn)] (mG C3) zm) (Eq.symm (m6 rfl))))) (pc (iM C3) (pc (aJ tC ((j).toNat) kx) (pc (cR ah aa.d tC ((j).toNat) kx) pn))))))))))) ?_
   obtain ⟨c7,h⟩:=ae h
   obtain ⟨MQ,tZ,h⟩:=bt h
   obtain ⟨dK,yu,h⟩:=bt h
   refine aj hE 1 [(13,oT (.agg (ah MQ))),(14,oT (.agg (ah dK)))] [] (kp [0,1,2,7]) ([(0,.var 0 [.ak,.ak,.ak,.ak,.ak,.lP ((C4.set ((i).toNat) dK).length),.ak,.ak,.ak,.ak,.ak,.ak])] ++ kq [1,2] ++ [(3,.pz 3 (C3.length) [((i).toNat,6,(tC.set ((j).toNat) kx).length)] (mG C3)),(4,.arr 4 ((C4.set ((i).toNat) dK).length) (fun zi=>ah ((C4.set ((i).toNat) dK).getD zi aa.d)))] ++ kq [5,6]) 408 (pc o1 (pc o1 (pc c7 (pc (dq c7) (pc o1 (pc (uz _ _ _ _ tZ) (pc (gU _ _ _ yu) (pc c7 (pc (dq c7) (pc (aJ C4 ((i).toNat) dK) (pc (Eq.refl C3.length) (pc (mC C3 [((i).toNat,6,(tC.set ((j).toNat) kx).length)]) (pc (iM C3) (pc (aJ C4 ((i).toNat) dK) (pc (cR ah aa.d C4 ((i).toNat) dK) pn))))))))))))))) ?_
   refine aj hE 2 [] [] (kp [0,1,2,7,74,75]) (kq [0,1,2] ++ [(3,.pz 3 (C3.length) [((i).toNat,6,(tC.set ((j).toNat) kx).length)] (mG C3))] ++ kq [4,5,6]) 504 (pc o1 (pc (Eq.refl C3.length) (pc (mC C3 [((i).toNat,6,(tC.set ((j).toNat) kx).length)]) (pc (iM C3) pn)))) ?_
   exact de hE 2 [] (kp [0,1,2,7,74,75]) (kq [0,1,2] ++ [(3,.pz 3 (C3.length) [((i).toNat,6,(tC.set ((j).toNat) kx).length)] (mG C3))] ++ kq [4,5,6]) 7 (pc (Eq.refl C3.length) (pc (mC C3 [((i).toNat,6,(tC.set ((j).toNat) kx).length)]) (pc (iM C3) pn))) (vR N _ _ _ _ _ _ _ _ _ _ _ _ _ N _ _ _ _ _ h E hE)
theorem nv (N i j C0 bc bZ cM cP cQ cg C1 C2 C3 C4 C5 r) (h:ja N i j C0 bc bZ cM cP cQ cg C1 C2 C3 C4 C5=some r):Sd 74 [(.op 0 0 0),(aI i),(aI j)] [(0,vN 12 [(aI C0),(aI bc),(.os 1 0 C1.length),(.os 2 0 C2.length),(.os 3 0 C3.length),(.os 4 0 C4.length),(.os 5 0 C5.length),(aB bZ),(eU cM),(aB cP),(eU cQ),(aI cg)]),(1,aO 1 cI 0 C1),(2,aO 1 cI 0 C2),(3,aM 4 ah aa.d C3),(4,aO 4 ah aa.d C4),(5,aO 4 ah aa.d C5)] 6 (.tup []) [(0,vN 12 [(aI r.1.rf),(aI r.1.rh),(.os 1 0 r.2.1.length),(.os 2 0 r.2.2.1.length),(.os 3 0 r.2.2.2.1.length),(.os 4 0 r.2.2.2.2.1.length),(.os 5 0 r.2.2.2.2.2.length),(aB r.1.af.fN.fG),(eU r.1.af.fN.fL),(aB r.1.af.fD.fG),(eU r.1.af.fD.fL),(aI r.1.bC)]),(1,aO 1 cI 0 r.2.1),(2,aO 1 cI 0 r.2.2.1),(3,aM 4 ah aa.d r.2.2.2.1),(4,aO 4 ah aa.d r.2.2.2.2.1),(5,aO 4 ah aa.d r.2.2.2.2.2)]:=by
 unfold ja at h
 refine iy (fu:=Tryz.f74) (c:=BM 1) (nt:=194) (fun hm=>absurd hm (by decide)) ?_
 intro E hE
 obtain ⟨c2,h⟩:=ae h
 refine Rr 3 ((i).toNat) 4 ((C3.getD ((i).toNat) []).length) (fun zi=>ah ((C3.getD ((i).toNat) []).getD zi aa.d)) (pc c2 (pc (show bk [] (mG C3) ((i).toNat)=mR 4 ah aa.d (C3.getD ((i).toNat) []) from rfl) pn)) ?_
 obtain ⟨c3,h⟩:=ae h
 obtain ⟨c4,h⟩:=ae h
 refine aj hE 1 [(6,oF (.os 6 0 ((C3.getD ((i).toNat) []).length)))] [] (kp [0,1,2,6]) (kq [0,1,2] ++ [(3,.pz 3 (C3.length) [((i).toNat,6,(C3.getD ((i).toNat) []).length)] (mG C3))] ++ kq [4,5,6,182]) 214 (pc o1 (pc c3 (pc (dq c3) (pc (show (bk [((i).toNat,6,(C3.getD ((i).toNat) []).length)] (mG C3) ((i).toNat))[0]?=some (.os 6 0 ((C3.getD ((i).toNat) []).length)) from (gO rfl)) (pc c4 (pc (dq c4) (pc o1 (pc (Eq.refl C3.length) (pc (mC C3 [((i).toNat,6,(C3.getD ((i).toNat) []).length)]) (pc (iM C3) pn)))))))))) ?_
 refine Pt 3 6 ((i).toNat) (pc c2 (pc (show bk [((i).toNat,6,(C3.getD ((i).toNat) []).length)] (mG C3) ((i).toNat)=[.os 6 0 (C3.getD ((i).toNat) []).length] from if_pos rfl) (pc (show ∀ zj,zj < (C3.getD ((i).toNat) []).length→mL (ah ((C3.getD ((i).toNat) []).getD zj aa.d))=true from fun _ _=>rfl) pn))) ?_
 refine J7 hE [] (kp [0,1,2,6]) (kq [0,1,2] ++ [(3,.pz 3 (C3.length) [] (mG C3))] ++ kq [4,5,182]) 214 (pc (Eq.refl (C3.length)) (pc (qY (sz:=4) (c:=ah) (d:=aa.d) C3 ((i).toNat) 6 ((C3.getD ((i).toNat) []).length) [] CO) (pc (iM C3) pn))) ?_
 refine Rr 3 ((i).toNat) 4 ((C3.getD ((i).toNat) []).length) (fun zi=>ah ((C3.getD ((i).toNat) []).getD zi aa.d)) (pc c2 (pc (show bk [] (mG C3) ((i).toNat)=mR 4 ah aa.d (C3.getD ((i).toNat) []) from rfl) pn)) ?_
 refine aj hE 1 [(6,oF (.os 214 0 ((C3.getD ((i).toNat) []).length)))] [] (kp [0,1,2,6,7]) (kq [0,1,2] ++ [(3,.pz 3 (C3.length) [((i).toNat,214,(C3.getD ((i).toNat) []).length)] (mG C3))] ++ kq [4,5,182,214]) 358 (pc o1 (pc c3 (pc (dq c3) (pc (show (bk [((i).toNat,214,(C3.getD ((i).toNat) []).length)] (mG C3) ((i).toNat))[0]?=some (.os 214 0 ((C3.getD ((i).toNat) []).length)) from (gO rfl)) (pc (Eq.refl C3.length) (pc (mC C3 [((i).toNat,214,(C3.getD ((i).toNat) []).length)]) (pc (iM C3) pn))))))) ?_
 refine aj hE 2 [] [] (kp [0,1,2,6,7,30,31]) (kq [0,1,2] ++ [(3,.pz 3 (C3.length) [((i).toNat,214,(C3.getD ((i).toNat) []).length)] (mG C3))] ++ kq [4,5,182,214]) 406 (pc (Eq.refl C3.length) (pc (mC C3 [((i).toNat,214,(C3.getD ((i).toNat) []).length)]) (pc (iM C3) pn))) ?_
 exact de hE 2 [] (kp [0,1,2,6,7,30,31]) (kq [0,1,2] ++ [(3,.pz 3 (C3.length) [((i).toNat,214,(C3.getD ((i).toNat) []).length)] (mG C3))] ++ kq [4,5] ++ [(6,.ak 214),(7,.ak 182)]) 8 (pc (Eq.refl C3.length) (pc (mC C3 [((i).toNat,214,(C3.getD ((i).toNat) []).length)]) (pc (iM C3) pn))) (vS N _ _ _ _ _ _ _ _ _ _ _ _ _ _ N _ _ _ h E hE)
noncomputable abbrev M3:=cG Tryz.f80
def n7 (N:Nat) (C0:Int) (bc:Int) (bZ:Bool) (cM:List Int) (cP:Bool) (cQ:List Int) (cg:Int) (C1:List Int) (C2:List Int) (C3:List (List aa)) (C4:List aa) (C5:List aa) (K:Int→Int→Option (Int)):Prop:=∀ (dI:Int) (x:Int) (r:Int),K dI x=some r→∀ E,aQ E 6→az Tryz.prog E 80 46 (aY E [(0,vN 12 [(aI C0),(aI bc),(.os 1 0 C1.length),(.os 2 0 C2.length),(.os 3 0 C3.length),(.os 4 0 C4.length),(.os 5 0 C5.length),(aB bZ),(eU cM),(aB cP),(eU cQ),(aI cg)]),(1,aO 1 cI 0 C1),(2,aO 1 cI 0 C2),(3,aM 4 ah aa.d C3),(4,aO 4 ah aa.d C4),(5,aO 4 ah aa.d C5)] (aI r)) [.code (M3 116),.inLoop (M3 116),.inBlock 0,.code (M3 15)] ⟨[(0,(.op 0 0 0)),(3,(aI dI)),(9,(aI ((C2.length:Nat):Int))),(10,(aI x))],[(0,vN 12 [(aI C0),(aI bc),(.os 1 0 C1.length),(.os 2 0 C2.length),(.os 3 0 C3.length),(.os 4 0 C4.length),(.os 5 0 C5.length),(aB bZ),(eU cM),(aB cP),(eU cQ),(aI cg)]),(1,aO 1 cI 0 C1),(2,aO 1 cI 0 C2),(3,aM 4 ah aa.d C3),(4,aO 4 ah aa.d C4),(5,aO 4 ah aa.d C5)],6⟩
def uf (N:Nat) (C0:Int) (bc:Int) (bZ:Bool) (cM:List Int) (cP:Bool) (cQ:List Int) (cg:Int) (C1:List Int) (C2:List Int) (C3:List (List aa)) (C4:List aa) (C5:List aa) (x:Int) (K:Int→Option (Int)):Prop:=∀ (yi:Int) (r:Int),K yi=some r→∀ E,aQ E 6→az Tryz.prog E 80 46 (aY E [(0,vN 12 [(aI C0),(aI bc),(.os 1 0 C1.length),(.os 2 0 C2.length),(.os 3 0 C3.length),(.os 4 0 C4.length),(.os 5 0 C5.length),(aB bZ),(eU cM),(aB cP),(eU cQ),(aI cg)]),(1,aO 1 cI 0 C1),(2,aO 1 cI 0 C2),(3,aM 4 ah aa.d C3),(4,aO 4 ah aa.d C4),(5,aO 4 ah aa.d C5)] (aI r)) [.code (M3 935),.inLoop (M3 116),.inBlock 0,.code (M3 15)] ⟨[(0,(.op 0 0 0)),(3,(aI yi)),(9,(aI ((C2.length:Nat):Int))),(10,(aI x))],[(0,vN 12 [(aI C0),(aI bc),(.os 1 0 C1.length),(.os 2 0 C2.length),(.os 3 0 C3.length),(.os 4 0 C4.length),(.os 5 0 C5.length),(aB bZ),(eU cM),(aB cP),(eU cQ),(aI cg)]),(1,aO 1 cI 0 C1),(2,aO 1 cI 0 C2),(3,aM 4 ah aa.d C3),(4,aO 4 ah aa.d C4),(5,aO 4 ah aa.d C5)],6⟩
theorem nw (N:Nat) (C0:Int) (bc:Int) (bZ:Bool) (cM:List Int) (cP:Bool) (cQ:List Int) (cg:Int) (C1:List Int) (C2:List Int) (C3:List (List aa)) (C4:List aa) (C5:List aa) (x:Int) (gZ:Int→Int→Option (Int)) (tI:n7 N C0 bc bZ cM cP cQ cg C1 C2 C3 C4 C5 gZ):uf N C0 bc bZ cM cP cQ cg C1 C2 C3 C4 C5 x (gj N C0 bc bZ cM cP cQ cg C1 C2 C3 C4 C5 x gZ):=by
 intro yi r h E hE
 unfold gj at h
 refine aj hE 0 [] [] (kp [0,3,9,10]) (kq [0,1,2,3,4,5]) 38 pn ?_
 exact de hE 1 [] (kp [0,3,9,10]) (kq [0,1,2,3,4,5]) 6 pn (tI _ _ _ h E hE)
theorem tJ (N C0 bc bZ cM cP cQ cg C1 C2 C3 C4 C5 fuel):n7 N C0 bc bZ cM cP cQ cg C1 C2 C3 C4 C5 (bN N C0 bc bZ cM cP cQ cg C1 C2 C3 C4 C5 fuel):=by
 induction fuel with
 | zero=>intro _ _ r h;rw [bN.eq_1] at h;cases h
 | succ fuel ih =>
  intro dI x r h E hE
  rw [bN.eq_2] at h
  refine aj hE 1 [] [] (kp [0,3,9,10,11]) (kq [0,1,2,3,4,5]) 22 pn ?_
  refine dS 1 11 h (fun dR h=>?_) (fun dR h=>?_)
  ·refine aj hE 4 [] [] (kp [0,3,4,9,10]) (kq [0,1,2,3,4,5]) 54 pn ?_
   obtain ⟨c,h⟩:=ae h
   obtain ⟨au,hr,h⟩:=bt h
   obtain ⟨c2,h⟩:=ae h
   obtain ⟨c3,h⟩:=ae h
   refine aj hE 1 [(7,oT (aI au))] [] (kp [0,3,4,9,10,42]) (kq [0,1,2,3,4,5]) 534 (pc o1 (pc c (pc (dq c) (pc (ln _ _ _ hr) (pc (fun hg:(decide (au > 0))=true=>(pc hg pn)) (pc (fun hg:((decide (au > 0)) && ((decide (au > 0)) && (!(decide (dI < 0)))))=true=>(pc hg pn)) (pc (fun hg:((decide (au > 0)) && ((decide (au > 0)) && (!(decide (dI < 0)))))=true=>(pc hg pn)) (pc (fun hg:((decide (au > 0)) && ((decide (au > 0)) && (!(decide (dI < 0)))))=true=>(pc hg (pc o1 pn))) (pc (fun hg:((decide (au > 0)) && ((decide (au > 0)) && (!(decide (dI < 0)))))=true=>(pc hg (pc hg (pc (c2 hg) pn)))) (pc (fun hg:((decide (au > 0)) && ((decide (au > 0)) && (!(decide (dI < 0)))))=true=>(pc hg (pc (dq (c2 hg)) pn))) (pc (fun hg:((decide (au > 0)) && ((decide (au > 0)) && (!(decide (dI < 0)))))=true=>(pc hg pn)) (pc (fun hg:((decide (au > 0)) && ((decide (au > 0)) && (!(decide (dI < 0)))))=true=>(pc hg pn)) (pc (fun hg:((decide (au > 0)) && ((decide (au > 0)) && (!(decide (dI < 0)))))=true=>(pc hg (pc o1 pn))) (pc (fun hg:((decide (au > 0)) && ((decide (au > 0)) && (!(decide (dI < 0)))))=true=>(pc hg (pc hg (pc (c3 hg) pn)))) (pc (fun hg:((decide (au > 0)) && ((decide (au > 0)) && (!(decide (dI < 0)))))=true=>(pc hg (pc (dq (c3 hg)) pn))) (pc (fun hg:((decide (au > 0)) && ((decide (au > 0)) && (!(decide (dI < 0)))))=true=>(pc hg (pc hg pn))) (pc (fun hg:(decide (au > 0))=true=>(pc hg (pc hg (pc (fun hq:(!(decide (dI < 0)))=true=>(pc (show ((decide (au > 0)) && ((decide (au > 0)) && (!(decide (dI < 0)))))=true from (Ai hg (Ai hg hq))) pn)) pn)))) (pc (fun hq:(decide (au > 0))=true=>(pc hq pn)) pn)))))))))))))))))) ?_
   refine dS 0 42 h (fun iU h=>?_) (fun iU h=>?_)
   ·refine aj hE 0 [] [] (kp [0,3,9,10]) (kq [0,1,2,3,4,5]) 566 pn ?_
    exact de hE 1 [] (kp [0,3,9,10]) (kq [0,1,2,3,4,5]) 6 pn (nw N _ _ _ _ _ _ _ _ _ _ _ _ _ _ ih _ _ h E hE)
   ·exact de hE 2 [] (kp [0,3,9,10]) (kq [0,1,2,3,4,5]) 6 pn (nw N _ _ _ _ _ _ _ _ _ _ _ _ _ _ ih _ _ h E hE)
  ·refine aj hE 2 [] [] (kp [2]) (kq [0,1,2,3,4,5]) 54 pn ?_
   obtain rfl:=dx h
   exact dQ hE 0 Tryz.f80 [] (kp [2]) (kq [0,1,2,3,4,5]) 54 pn [] pn
theorem vT (N C0 bc bZ cM cP cQ cg C1 C2 C3 C4 C5 r) (h:kT N C0 bc bZ cM cP cQ cg C1 C2 C3 C4 C5=some r):Sd 80 [(.op 0 0 0)] [(0,vN 12 [(aI C0),(aI bc),(.os 1 0 C1.length),(.os 2 0 C2.length),(.os 3 0 C3.length),(.os 4 0 C4.length),(.os 5 0 C5.length),(aB bZ),(eU cM),(aB cP),(eU cQ),(aI cg)]),(1,aO 1 cI 0 C1),(2,aO 1 cI 0 C2),(3,aM 4 ah aa.d C3),(4,aO 4 ah aa.d C4),(5,aO 4 ah aa.d C5)] 6 (aI r) [(0,vN 12 [(aI C0),(aI bc),(.os 1 0 C1.length),(.os 2 0 C2.length),(.os 3 0 C3.length),(.os 4 0 C4.length),(.os 5 0 C5.length),(aB bZ),(eU cM),(aB cP),(eU cQ),(aI cg)]),(1,aO 1 cI 0 C1),(2,aO 1 cI 0 C2),(3,aM 4 ah aa.d C3),(4,aO 4 ah aa.d C4),(5,aO 4 ah aa.d C5)]:=by
 unfold kT at h
 refine iy (fu:=Tryz.f80) (c:=M3 1) (nt:=46) (fun hm=>absurd hm (by decide)) ?_
 intro E hE
 refine aj hE 1 [] [] (kp [0]) (kq [0,1,2,3,4,5]) 22 pn ?_
 refine aj hE 1 [] [] (kp [0,3]) (kq [0,1,2,3,4,5]) 38 pn ?_
 refine aj hE 2 [] [] (kp [0,3,9,10]) (kq [0,1,2,3,4,5]) 134 (pc o1 pn) ?_
 exact de hE 2 [] (kp [0,3,9,10]) (kq [0,1,2,3,4,5]) 6 pn (tJ N _ _ _ _ _ _ _ _ _ _ _ _ N _ _ _ h E hE)
noncomputable abbrev Em:=cG Tryz.f81
def lq (N:Nat) (j:Int) (C0:Int) (bc:Int) (bZ:Bool) (cM:List Int) (cP:Bool) (cQ:List Int) (cg:Int) (C1:List Int) (C2:List Int) (C3:List (List aa)) (C4:List aa) (C5:List aa) (K:Int→aa→Int→Option (Int)):Prop:=∀ (dI:Int) (least:aa) (x:Int) (r:Int),K dI least x=some r→∀ E,aQ E 6→az Tryz.prog E 81 81 (aY E [(0,vN 12 [(aI C0),(aI bc),(.os 1 0 C1.length),(.os 2 0 C2.length),(.os 3 0 C3.length),(.os 4 0 C4.length),(.os 5 0 C5.length),(aB bZ),(eU cM),(aB cP),(eU cQ),(aI cg)]),(1,aO 1 cI 0 C1),(2,aO 1 cI 0 C2),(3,aM 4 ah aa.d C3),(4,aO 4 ah aa.d C4),(5,aO 4 ah aa.d C5)] (aI r)) [.code (Em 244),.inLoop (Em 244),.inBlock 0,.code (Em 31)] ⟨[(0,(.op 0 0 0)),(1,(aI j)),(5,(aI dI)),(6,(.op 6 0 0)),(14,(aI ((C1.length:Nat):Int))),(15,(aI x))],[(0,vN 12 [(aI C0),(aI bc),(.os 1 0 C1.length),(.os 2 0 C2.length),(.os 3 0 C3.length),(.os 4 0 C4.length),(.os 5 0 C5.length),(aB bZ),(eU cM),(aB cP),(eU cQ),(aI cg)]),(1,aO 1 cI 0 C1),(2,aO 1 cI 0 C2),(3,aM 4 ah aa.d C3),(4,aO 4 ah aa.d C4),(5,aO 4 ah aa.d C5),(6,vO 4 (ah least))],7⟩
def uU (N:Nat) (j:Int) (C0:Int) (bc:Int) (bZ:Bool) (cM:List Int) (cP:Bool) (cQ:List Int) (cg:Int) (C1:List Int) (C2:List Int) (C3:List (List aa)) (C4:List aa) (C5:List aa) (x:Int) (K:Int→aa→Option (Int)):Prop:=∀ (yi:Int) (FP:aa) (r:Int),K yi FP=some r→∀ E,aQ E 6→az Tryz.prog E 81 81 (aY E [(0,vN 12 [(aI C0),(aI bc),(.os 1 0 C1.length),(.os 2 0 C2.length),(.os 3 0 C3.length),(.os 4 0 C4.length),(.os 5 0 C5.length),(aB bZ),(eU cM),(aB cP),(eU cQ),(aI cg)]),(1,aO 1 cI 0 C1),(2,aO 1 cI 0 C2),(3,aM 4 ah aa.d C3),(4,aO 4 ah aa.d C4),(5,aO 4 ah aa.d C5)] (aI r)) [.code (Em 1959),.inLoop (Em 244),.inBlock 0,.code (Em 31)] ⟨[(0,(.op 0 0 0)),(1,(aI j)),(5,(aI yi)),(6,(.op 6 0 0)),(14,(aI ((C1.length:Nat):Int))),(15,(aI x))],[(0,vN 12 [(aI C0),(aI bc),(.os 1 0 C1.length),(.os 2 0 C2.length),(.os 3 0 C3.length),(.os 4 0 C4.length),(.os 5 0 C5.length),(aB bZ),(eU cM),(aB cP),(eU cQ),(aI cg)]),(1,aO 1 cI 0 C1),(2,aO 1 cI 0 C2),(3,aM 4 ah aa.d C3),(4,aO 4 ah aa.d C4),(5,aO 4 ah aa.d C5),(6,vO 4 (ah FP))],7⟩
theorem ky (N:Nat) (j:Int) (C0:Int) (bc:Int) (bZ:Bool) (cM:List Int) (cP:Bool) (cQ:List Int) (cg:Int) (C1:List Int) (C2:List Int) (C3:List (List aa)) (C4:List aa) (C5:List aa) (x:Int) (cj:Int→aa→Int→Option (Int)) (g7:lq N j C0 bc bZ cM cP cQ cg C1 C2 C3 C4 C5 cj):uU N j C0 bc bZ cM cP cQ cg C1 C2 C3 C4 C5 x (eu N j C0 bc bZ cM cP cQ cg C1 C2 C3 C4 C5 x cj):=by
 intro yi FP r h E hE
 unfold eu at h
 refine aj hE 0 [] [] (kp [0,1,5,6,14,15]) (kq [0,1,2,3,4,5,6]) 39 pn ?_
 exact de hE 1 [] (kp [0,1,5,6,14,15]) (kq [0,1,2,3,4,5,6]) 7 pn (g7 _ _ _ _ h E hE)
def uV (N:Nat) (j:Int) (C0:Int) (bc:Int) (bZ:Bool) (cM:List Int) (cP:Bool) (cQ:List Int) (cg:Int) (C1:List Int) (C2:List Int) (C3:List (List aa)) (C4:List aa) (C5:List aa) (dI:Int) (least:aa) (x:Int) (kn:aa) (K:Int→Option (Int)):Prop:=∀ (c7:Int) (r:Int),K c7=some r→∀ E,aQ E 6→az Tryz.prog E 81 81 (aY E [(0,vN 12 [(aI C0),(aI bc),(.os 1 0 C1.length),(.os 2 0 C2.length),(.os 3 0 C3.length),(.os 4 0 C4.length),(.os 5 0 C5.length),(aB bZ),(eU cM),(aB cP),(eU cQ),(aI cg)]),(1,aO 1 cI 0 C1),(2,aO 1 cI 0 C2),(3,aM 4 ah aa.d C3),(4,aO 4 ah aa.d C4),(5,aO 4 ah aa.d C5)] (aI r)) [.code (Em 250686),.code (Em 250687),.inBlock 1,.code (Em 1959),.inLoop (Em 244),.inBlock 0,.code (Em 31)] ⟨[(0,(.op 0 0 0)),(1,(aI j)),(5,(aI dI)),(6,(.op 6 0 0)),(7,(aI x)),(8,(.op 7 0 0)),(9,(aI c7)),(14,(aI ((C1.length:Nat):Int))),(15,(aI x))],[(0,vN 12 [(aI C0),(aI bc),(.os 1 0 C1.length),(.os 2 0 C2.length),(.os 3 0 C3.length),(.os 4 0 C4.length),(.os 5 0 C5.length),(aB bZ),(eU cM),(aB cP),(eU cQ),(aI cg)]),(1,aO 1 cI 0 C1),(2,aO 1 cI 0 C2),(3,aM 4 ah aa.d C3),(4,aO 4 ah aa.d C4),(5,aO 4 ah aa.d C5),(6,vO 4 (ah least)),(7,vO 4 (ah kn))],8⟩
theorem n8 (N:Nat) (j:Int) (C0:Int) (bc:Int) (bZ:Bool) (cM:List Int) (cP:Bool) (cQ:List Int) (cg:Int) (C1:List Int) (C2:List Int) (C3:List (List aa)) (C4:List aa) (C5:List aa) (dI:Int) (least:aa) (x:Int) (kn:aa) (cj:Int→aa→Int→Option (Int)) (g7:lq N j C0 bc bZ cM cP cQ cg C1 C2 C3 C4 C5 cj):uV N j C0 bc bZ cM cP cQ cg C1 C2 C3 C4 C5 dI least x kn (fm N j C0 bc bZ cM cP cQ cg C1 C2 C3 C4 C5 dI least x kn cj):=by
 intro c7 r h E hE
 unfold fm at h
 obtain ⟨c8,h⟩:=ae h
 obtain ⟨c9,h⟩:=ae h
 refine aj hE 0 [] [] (kp [0,1,5,6,7,8,14,15,76]) (kq [0,1,2,3,4,5,6,7]) 376 (pc (fun hg:(!(decide (c7 < 0)))=true=>(pc hg pn)) (pc (fun hg:((!(decide (c7 < 0))) && ((!(decide (c7 < 0))) && (c7 == 0)))=true=>(pc hg pn)) (pc (fun hg:((!(decide (c7 < 0))) && ((!(decide (c7 < 0))) && (c7 == 0)))=true=>(pc hg pn)) (pc (fun hg:((!(decide (c7 < 0))) && ((!(decide (c7 < 0))) && (c7 == 0)))=true=>(pc hg (pc o1 pn))) (pc (fun hg:((!(decide (c7 < 0))) && ((!(decide (c7 < 0))) && (c7 == 0)))=true=>(pc hg (pc hg (pc (c8 hg) pn)))) (pc (fun hg:((!(decide (c7 < 0))) && ((!(decide (c7 < 0))) && (c7 == 0)))=true=>(pc hg (pc (dq (c8 hg)) pn))) (pc (fun hg:((!(decide (c7 < 0))) && ((!(decide (c7 < 0))) && (c7 == 0)))=true=>(pc hg pn)) (pc (fun hg:((!(decide (c7 < 0))) && ((!(decide (c7 < 0))) && (c7 == 0)))=true=>(pc hg pn)) (pc (fun hg:((!(decide (c7 < 0))) && ((!(decide (c7 < 0))) && (c7 == 0)))=true=>(pc hg (pc o1 pn))) (pc (fun hg:((!(decide (c7 < 0))) && ((!(decide (c7 < 0))) && (c7 == 0)))=true=>(pc hg (pc hg (pc (c9 hg) pn)))) (pc (fun hg:((!(decide (c7 < 0))) && ((!(decide (c7 < 0))) && (c7 == 0)))=true=>(pc hg (pc (dq (c9 hg)) pn))) (pc (fun hg:((!(decide (c7 < 0))) && ((!(decide (c7 < 0))) && (c7 == 0)))=true=>(pc hg (pc hg pn))) (pc (fun hg:(!(decide (c7 < 0)))=true=>(pc hg (pc hg (pc (fun hq:(c7 == 0)=true=>(pc (show ((!(decide (c7 < 0))) && ((!(decide (c7 < 0))) && (c7 == 0)))=true from (Ai hg (Ai hg hq))) pn)) pn)))) (pc (fun hq:(!(decide (c7 < 0)))=true=>(pc hq pn)) pn)))))))))))))) ?_
 refine dS 0 76 h (fun F5 h=>?_) (fun F5 h=>?_)
 ·refine aj hE 0 [] [] (kp [0,1,5,6,14,15]) (kq [0,1,2,3,4,5,6]) 440 (pc o1 (pc o1 pn)) ?_
  exact de hE 1 [] (kp [0,1,5,6,14,15]) (kq [0,1,2,3,4,5,6]) 7 pn (ky N _ _ _ _ _ _ _ _ _ _ _ _ _ _ _ g7 _ _ _ h E hE)
 ·exact de hE 2 [] (kp [0,1,5,6,14,15]) (kq [0,1,2,3,4,5,6]) 7 pn (ky N _ _ _ _ _ _ _ _ _ _ _ _ _ _ _ g7 _ _ _ h E hE)
theorem ug (N j C0 bc bZ cM cP cQ cg C1 C2 C3 C4 C5 fuel):lq N j C0 bc bZ cM cP cQ cg C1 C2 C3 C4 C5 (bW N j C0 bc bZ cM cP cQ cg C1 C2 C3 C4 C5 fuel):=by
 induction fuel with
 | zero=>intro _ _ _ r h;rw [bW.eq_1] at h;cases h
 | succ fuel ih =>
  intro dI least x r h E hE
  rw [bW.eq_2] at h
  refine aj hE 1 [] [] (kp [0,1,5,6,14,15,16]) (kq [0,1,2,3,4,5,6]) 23 pn ?_
  refine dS 1 16 h (fun dR h=>?_) (fun dR h=>?_)
  ·refine aj hE 4 [] [] (kp [0,1,5,6,7,14,15]) (kq [0,1,2,3,4,5,6]) 55 pn ?_
   obtain ⟨c2,h⟩:=ae h
   refine Rr 3 ((x).toNat) 4 ((C3.getD ((x).toNat) []).length) (fun zi=>ah ((C3.getD ((x).toNat) []).getD zi aa.d)) (pc c2 (pc (show bk [] (mG C3) ((x).toNat)=mR 4 ah aa.d (C3.getD ((x).toNat) []) from rfl) pn)) ?_
   obtain ⟨c3,h⟩:=ae h
   obtain ⟨c4,h⟩:=ae h
   obtain ⟨au,hr,h⟩:=bt h
   refine aj hE 2 [(6,oF (.os 55 0 ((C3.getD ((x).toNat) []).length))),(10,oT (aI au))] [] (kp [0,1,5,6,7,14,15,29]) (kq [0,1,2] ++ [(3,.pz 3 (C3.length) [((x).toNat,55,(C3.getD ((x).toNat) []).length)] (mG C3))] ++ kq [4,5,6,55]) 263 (pc o1 (pc c3 (pc (dq c3) (pc (show (bk [((x).toNat,55,(C3.getD ((x).toNat) []).length)] (mG C3) ((x).toNat))[0]?=some (.os 55 0 ((C3.getD ((x).toNat) []).length)) from (gO rfl)) (pc c4 (pc (dq c4) (pc (ln _ _ _ hr) (pc (Eq.refl C3.length) (pc (mC C3 [((x).toNat,55,(C3.getD ((x).toNat) []).length)]) (pc (iM C3) pn)))))))))) ?_
   refine Pt 3 55 ((x).toNat) (pc c2 (pc (show bk [((x).toNat,55,(C3.getD ((x).toNat) []).length)] (mG C3) ((x).toNat)=[.os 55 0 (C3.getD ((x).toNat) []).length] from if_pos rfl) (pc (show ∀ zj,zj < (C3.getD ((x).toNat) []).length→mL (ah ((C3.getD ((x).toNat) []).getD zj aa.d))=true from fun _ _=>rfl) pn))) ?_
   refine J7 hE [] (kp [0,1,5,6,7,14,15,29]) (kq [0,1,2] ++ [(3,.pz 3 (C3.length) [] (mG C3))] ++ kq [4,5,6]) 263 (pc (Eq.refl (C3.length)) (pc (qY (sz:=4) (c:=ah) (d:=aa.d) C3 ((x).toNat) 55 ((C3.getD ((x).toNat) []).length) [] CO) (pc (iM C3) pn))) ?_
   refine dS 0 29 h (fun iU h=>?_) (fun iU h=>?_)
   ·exact de hE 1 [] (kp [0,1,5,6,14,15]) (kq [0,1,2,3,4,5,6]) 7 pn (ky N _ _ _ _ _ _ _ _ _ _ _ _ _ _ _ ih _ _ _ h E hE)
   ·refine Rr 3 ((x).toNat) 4 ((C3.getD ((x).toNat) []).length) (fun zi=>ah ((C3.getD ((x).toNat) []).getD zi aa.d)) (pc c2 (pc (show bk [] (mG C3) ((x).toNat)=mR 4 ah aa.d (C3.getD ((x).toNat) []) from rfl) pn)) ?_
    obtain ⟨c6,h⟩:=ae h
    obtain ⟨aV,eW,h⟩:=bt h
    obtain ⟨kn,ly,h⟩:=bt h
    refine aj hE 2 [(13,oF (.os 263 0 ((C3.getD ((x).toNat) []).length))),(17,oT (.agg (ah aV))),(18,oT (.agg (ah kn)))] [] (kp [0,1,5,6,7,8,14,15]) (kq [0,1,2] ++ [(3,.pz 3 (C3.length) [((x).toNat,263,(C3.getD ((x).toNat) []).length)] (mG C3))] ++ kq [4,5,6,263,583]) 615 (pc o1 (pc c6 (pc (dq c6) (pc o1 (pc c3 (pc (dq c3) (pc (show (bk [((x).toNat,263,(C3.getD ((x).toNat) []).length)] (mG C3) ((x).toNat))[0]?=some (.os 263 0 ((C3.getD ((x).toNat) []).length)) from (gO rfl)) (pc c4 (pc (dq c4) (pc (gU _ _ _ eW) (pc (uz _ _ _ _ ly) (pc o1 (pc (Eq.refl C3.length) (pc (mC C3 [((x).toNat,263,(C3.getD ((x).toNat) []).length)]) (pc (iM C3) pn))))))))))))))) ?_
    refine Pt 3 263 ((x).toNat) (pc c2 (pc (show bk [((x).toNat,263,(C3.getD ((x).toNat) []).length)] (mG C3) ((x).toNat)=[.os 263 0 (C3.getD ((x).toNat) []).length] from if_pos rfl) (pc (show ∀ zj,zj < (C3.getD ((x).toNat) []).length→mL (ah ((C3.getD ((x).toNat) []).getD zj aa.d))=true from fun _ _=>rfl) pn))) ?_
    refine J7 hE [] (kp [0,1,5,6,7,8,14,15]) (kq [0,1,2] ++ [(3,.pz 3 (C3.length) [] (mG C3))] ++ kq [4,5,6,583]) 615 (pc (Eq.refl (C3.length)) (pc (qY (sz:=4) (c:=ah) (d:=aa.d) C3 ((x).toNat) 263 ((C3.getD ((x).toNat) []).length) [] CO) (pc (iM C3) pn))) ?_
    refine aj hE 1 [] [] (kp [0,1,5,6,7,8,9,14,15]) (kq [0,1,2,3,4,5,6,583]) 631 pn ?_
    refine aj hE 2 [] [] (kp [0,1,5,6,7,8,9,14,15,50]) (kq [0,1,2,3,4,5,6,583]) 663 pn ?_
    refine dS 0 50 h (fun rm h=>?_) (fun rm h=>?_)
    ·obtain ⟨l3,oi,h⟩:=bt h
     refine aj hE 0 [(2,oT (aI l3))] [] (kp [0,1,5,6,7,8,9,14,15]) (kq [0,1,2,3,4,5,6,583]) 727 (pc o1 (pc o1 (pc (Al _ _ _ _ oi) pn))) ?_
     exact de hE 1 [] (kp [0,1,5,6,7,8,9,14,15]) (kq [0,1,2,3,4,5,6] ++ [(7,.ak 583)]) 8 pn (n8 N _ _ _ _ _ _ _ _ _ _ _ _ _ _ _ _ _ _ ih _ _ h E hE)
    ·exact de hE 2 [] (kp [0,1,5,6,7,8,9,14,15]) (kq [0,1,2,3,4,5,6] ++ [(7,.ak 583)]) 8 pn (n8 N _ _ _ _ _ _ _ _ _ _ _ _ _ _ _ _ _ _ ih _ _ h E hE)
  ·refine aj hE 2 [] [] (kp [4]) (kq [0,1,2,3,4,5]) 55 pn ?_
   obtain rfl:=dx h
   exact dQ hE 0 Tryz.f81 [] (kp [4]) (kq [0,1,2,3,4,5]) 55 pn [] pn
theorem w6 (N j C0 bc bZ cM cP cQ cg C1 C2 C3 C4 C5 r) (h:lA N j C0 bc bZ cM cP cQ cg C1 C2 C3 C4 C5=some r):Sd 81 [(.op 0 0 0),(aI j)] [(0,vN 12 [(aI C0),(aI bc),(.os 1 0 C1.length),(.os 2 0 C2.length),(.os 3 0 C3.length),(.os 4 0 C4.length),(.os 5 0 C5.length),(aB bZ),(eU cM),(aB cP),(eU cQ),(aI cg)]),(1,aO 1 cI 0 C1),(2,aO 1 cI 0 C2),(3,aM 4 ah aa.d C3),(4,aO 4 ah aa.d C4),(5,aO 4 ah aa.d C5)] 6 (aI r) [(0,vN 12 [(aI C0),(aI bc),(.os 1 0 C1.length),(.os 2 0 C2.length),(.os 3 0 C3.length),(.os 4 0 C4.length),(.os 5 0 C5.length),(aB bZ),(eU cM),(aB cP),(eU cQ),(aI cg)]),(1,aO 1 cI 0 C1),(2,aO 1 cI 0 C2),(3,aM 4 ah aa.d C3),(4,aO 4 ah aa.d C4),(5,aO 4 ah aa.d C5)]:=by
 unfold lA at h
 refine iy (fu:=Tryz.f81) (c:=Em 1) (nt:=81) (fun hm=>absurd hm (by decide)) ?_
 intro E hE
 refine aj hE 1 [] [] (kp [0,1]) (kq [0,1,2,3,4,5]) 22 pn ?_
 refine aj hE 1 [] [] (kp [0,1,5]) (kq [0,1,2,3,4,5]) 38 pn ?_
 refine aj hE 1 [] [] (kp [0,1,5,6]) (kq [0,1,2,3,4,5,38]) 54 pn ?_
 refine aj hE 2 [] [] (kp [0,1,5,6,14,15]) (kq [0,1,2,3,4,5,38]) 150 (pc o1 pn) ?_
 exact de hE 2 [] (kp [0,1,5,6,14,15]) (kq [0,1,2,3,4,5] ++ [(6,.var 38 [.ak,.sl (([]:List Int).length) (fun zi=>(cU .u16) (([]:List Int).getD zi 0)),.ak,.sl (([]:List Int).length) (fun zi=>(cU .u16) (([]:List Int).getD zi 0))])]) 7 (pc (Eq.refl 0) (pc (Eq.refl 0) pn)) (ug N _ _ _ _ _ _ _ _ _ _ _ _ _ N _ _ _ _ h E hE)
noncomputable abbrev XH:=cG Tryz.f37
def w7 (N:Nat) (K:Int→Int→(List Int)→(List Int)→(List (List aa))→(List aa)→(List aa)→Bool→(List Int)→Bool→(List Int)→Int→Option (Int×jj×(List Int)×(List Int)×(List (List aa))×(List aa)×(List aa))):Prop:=∀ (cd:Int) (mV:Int) (jl:List Int) (mE:List Int) (fh:List (List aa)) (ia:List aa) (mW:List aa) (pR:Bool) (pS:List Int) (sK:Bool) (oe:List Int) (yj:Int) (r:Int×jj×(List Int)×(List Int)×(List (List aa))×(List aa)×(List aa)),K cd mV jl mE fh ia mW pR pS sK oe yj=some r→∀ E,aQ E 6→az Tryz.prog E 37 19 (aY E [(0,vN 12 [(aI r.2.1.rf),(aI r.2.1.rh),(.os 1 0 r.2.2.1.length),(.os 2 0 r.2.2.2.1.length),(.os 3 0 r.2.2.2.2.1.length),(.os 4 0 r.2.2.2.2.2.1.length),(.os 5 0 r.2.2.2.2.2.2.length),(aB r.2.1.af.fN.fG),(eU r.2.1.af.fN.fL),(aB r.2.1.af.fD.fG),(eU r.2.1.af.fD.fL),(aI r.2.1.bC)]),(1,aO 1 cI 0 r.2.2.1),(2,aO 1 cI 0 r.2.2.2.1),(3,aM 4 ah aa.d r.2.2.2.2.1),(4,aO 4 ah aa.d r.2.2.2.2.2.1),(5,aO 4 ah aa.d r.2.2.2.2.2.2)] (aI r.1)) [.code (XH 12),.inLoop (XH 12),.inBlock 0] ⟨[(0,(.op 0 0 0))],[(0,vN 12 [(aI cd),(aI mV),(.os 1 0 jl.length),(.os 2 0 mE.length),(.os 3 0 fh.length),(.os 4 0 ia.length),(.os 5 0 mW.length),(aB pR),(eU pS),(aB sK),(eU oe),(aI yj)]),(1,aO 1 cI 0 jl),(2,aO 1 cI 0 mE),(3,aM 4 ah aa.d fh),(4,aO 4 ah aa.d ia),(5,aO 4 ah aa.d mW)],6⟩
theorem vU (N fuel):w7 N (dE N fuel):=by
 induction fuel with
 | zero=>intro _ _ _ _ _ _ _ _ _ _ _ _ r h;rw [dE.eq_1] at h;cases h
 | succ fuel ih =>
  intro cd mV jl mE fh ia mW pR pS sK oe yj r h E hE
  rw [dE.eq_2] at h
  obtain ⟨td,hr,h⟩:=bt h
  refine aj hE 2 [(1,⟨[0,1,2,3,4,5],true,(aI td),[],0,false,none⟩)] [] (kp [0,3]) (kq [0,1,2,3,4,5]) 54 (pc (vT _ _ _ _ _ _ _ _ _ _ _ _ _ _ hr) (pc (iM fh) pn)) ?_
  refine aj hE 2 [] [] (kp [0,3,8]) (kq [0,1,2,3,4,5]) 86 pn ?_
  refine dS 0 8 h (fun dR h=>?_) (fun dR h=>?_)
  ·refine aj hE 1 [] [] (kp [2]) (kq [0,1,2,3,4,5]) 102 pn ?_
   obtain rfl:=dx h
   exact dQ hE 0 Tryz.f37 [] (kp [2]) (kq [0,1,2,3,4,5]) 102 pn [] pn
  ·obtain ⟨BE,eW,h⟩:=bt h
   refine aj hE 2 [(2,⟨[0,1,2,3,4,5],true,(aI BE),[],0,false,none⟩)] [] (kp [0,3,4]) (kq [0,1,2,3,4,5]) 150 (pc (w6 _ _ _ _ _ _ _ _ _ _ _ _ _ _ _ eW) (pc (iM fh) pn)) ?_
   refine aj hE 2 [] [] (kp [0,3,4,13]) (kq [0,1,2,3,4,5]) 182 pn ?_
   refine dS 0 13 h (fun iU h=>?_) (fun iU h=>?_)
   ·refine aj hE 1 [] [] (kp [2]) (kq [0,1,2,3,4,5]) 214 pn ?_
    obtain rfl:=dx h
    exact dQ hE 0 Tryz.f37 [] (kp [2]) (kq [0,1,2,3,4,5]) 214 pn [] pn
   ·obtain ⟨bF,ly,h⟩:=bt h
    obtain ⟨c,h⟩:=ae h
    obtain ⟨c2,h⟩:=ae h
    obtain ⟨c3,h⟩:=ae h
    obtain ⟨c4,h⟩:=ae h
    obtain ⟨c5,h⟩:=ae h
    refine aj hE 1 [(3,⟨[0,1,2,3,4,5],false,(.tup []),[(0,vN 12 [(aI bF.1.rf),(aI bF.1.rh),(.os 1 0 bF.2.1.length),(.os 2 0 bF.2.2.1.length),(.os 3 0 bF.2.2.2.1.length),(.os 4 0 bF.2.2.2.2.1.length),(.os 5 0 bF.2.2.2.2.2.length),(aB bF.1.af.fN.fG),(eU bF.1.af.fN.fL),(aB bF.1.af.fD.fG),(eU bF.1.af.fD.fL),(aI bF.1.bC)]),(1,aO 1 cI 0 bF.2.1),(2,aO 1 cI 0 bF.2.2.1),(3,aM 4 ah aa.d bF.2.2.2.1),(4,aO 4 ah aa.d bF.2.2.2.2.1),(5,aO 4 ah aa.d bF.2.2.2.2.2)],0,false,none⟩)] [] (kp [0]) (kq [0,1,2,3,4,5]) 246 (pc (nv _ _ _ _ _ _ _ _ _ _ _ _ _ _ _ _ ly) pn) ?_
    exact de hE 2 [] (kp [0]) (kq [0,1,2,3,4,5]) 6 pn (ih _ _ _ _ _ _ _ _ _ _ _ _ _ h E hE)
theorem rC (N C0 bc bZ cM cP cQ cg C1 C2 C3 C4 C5 r) (h:mM N C0 bc bZ cM cP cQ cg C1 C2 C3 C4 C5=some r):Sd 37 [(.op 0 0 0)] [(0,vN 12 [(aI C0),(aI bc),(.os 1 0 C1.length),(.os 2 0 C2.length),(.os 3 0 C3.length),(.os 4 0 C4.length),(.os 5 0 C5.length),(aB bZ),(eU cM),(aB cP),(eU cQ),(aI cg)]),(1,aO 1 cI 0 C1),(2,aO 1 cI 0 C2),(3,aM 4 ah aa.d C3),(4,aO 4 ah aa.d C4),(5,aO 4 ah aa.d C5)] 6 (aI r.1) [(0,vN 12 [(aI r.2.1.rf),(aI r.2.1.rh),(.os 1 0 r.2.2.1.length),(.os 2 0 r.2.2.2.1.length),(.os 3 0 r.2.2.2.2.1.length),(.os 4 0 r.2.2.2.2.2.1.length),(.os 5 0 r.2.2.2.2.2.2.length),(aB r.2.1.af.fN.fG),(eU r.2.1.af.fN.fL),(aB r.2.1.af.fD.fG),(eU r.2.1.af.fD.fL),(aI r.2.1.bC)]),(1,aO 1 cI 0 r.2.2.1),(2,aO 1 cI 0 r.2.2.2.1),(3,aM 4 ah aa.d r.2.2.2.2.1),(4,aO 4 ah aa.d r.2.2.2.2.2.1),(5,aO 4 ah aa.d r.2.2.2.2.2.2)]:=by
 unfold mM at h
 refine iy (fu:=Tryz.f37) (c:=XH 1) (nt:=19) (fun hm=>absurd hm (by decide)) ?_
 intro E hE
 refine aj hE 1 [] [] (kp [0]) (kq [0,1,2,3,4,5]) 22 pn ?_
 exact de hE 2 [] (kp [0]) (kq [0,1,2,3,4,5]) 6 pn (vU N N _ _ _ _ _ _ _ _ _ _ _ _ _ h E hE)
noncomputable abbrev UY:=cG Tryz.f75
def sP (N:Nat) (s:List Int) (v:Int) (K:Int→Option (Int)):Prop:=∀ (x:Int) (r:Int),K x=some r→∀ E,aQ E 0→az Tryz.prog E 75 19 (aY E [] (aI r)) [.code (UY 52),.inLoop (UY 52),.inBlock 0,.code (UY 7)] ⟨[(0,(aN cI 0 s)),(1,(aI v)),(7,(aI ((s.length:Nat):Int))),(8,(aI x))],[],0⟩
theorem se (N s v fuel):sP N s v (cz N s v fuel):=by
 induction fuel with
 | zero=>intro _ r h;rw [cz.eq_1] at h;cases h
 | succ fuel ih =>
  intro x r h E hE
  rw [cz.eq_2] at h
  refine aj hE 1 [] [] (kp [0,1,7,8,9]) [] 16 pn ?_
  refine dS 1 9 h (fun dR h=>?_) (fun dR h=>?_)
  ·refine aj hE 4 [] [] (kp [0,1,5,7,8]) [] 48 pn ?_
   obtain ⟨c,h⟩:=ae h
   refine aj hE 1 [] [] (kp [0,1,5,7,8,16]) [] 144 (pc c pn) ?_
   refine dS 0 16 h (fun iU h=>?_) (fun iU h=>?_)
   ·refine aj hE 1 [] [] (kp [4]) [] 176 pn ?_
    obtain rfl:=dx h
    exact dQ hE 0 Tryz.f75 [] (kp [4]) [] 176 pn [] pn
   ·refine aj hE 2 [] [] (kp [0,1,7,8]) [] 176 pn ?_
    exact de hE 1 [] (kp [0,1,7,8]) [] 0 pn (ih _ _ h E hE)
  ·refine aj hE 2 [] [] (kp [4]) [] 32 pn ?_
   obtain rfl:=dx h
   exact dQ hE 0 Tryz.f75 [] (kp [4]) [] 48 pn [] pn
theorem dy (N s v r) (h:bX N s v=some r):Sd 75 [(aN cI 0 s),(aI v)] [] 0 (aI r) []:=by
 unfold bX at h
 refine iy (fu:=Tryz.f75) (c:=UY 1) (nt:=19) (fun hm=>rfl) ?_
 intro E hE
 refine aj hE 1 [] [] (kp [0,1]) [] 16 pn ?_
 refine aj hE 2 [] [] (kp [0,1,7,8]) [] 64 pn ?_
 exact de hE 2 [] (kp [0,1,7,8]) [] 0 pn (se N _ _ N _ _ h E hE)
noncomputable abbrev acL:=cG Tryz.f77
theorem vV (N x r) (h:kU N x=some r):Sd 77 [(.agg (ah x))] [] 0 (aB r) []:=by
 unfold kU at h
 refine iy (fu:=Tryz.f77) (c:=acL 1) (nt:=6) (fun hm=>rfl) ?_
 intro E hE
 refine aj hE 1 [] [] (kp [1]) (kq [0]) 32 pn ?_
 obtain ⟨fS,hr,h⟩:=bt h
 refine aj hE 1 [(1,oT (aB fS))] [] (kp [2]) [] 96 (pc o1 (pc (iz _ _ _ hr) pn)) ?_
 obtain rfl:=dx h
 exact dQ hE 0 Tryz.f77 [] (kp [2]) [] 96 pn [] pn
end Go.Den
