/- Each function of the program does what its Lean function computes (part 1). No conditions. -/
import Derived.Test.YtlgddcmiekcdiaaGreatTopMooringCertificateDen
import Derived.Test.YtlgddcmiekcdiaaGreatProg
set_option linter.unusedVariables false
set_option maxRecDepth 100000
namespace Go.Den
open Go.Ab Go.Proofs Go.Ab.aG
abbrev Sd:=Sound Tryz.prog
abbrev eU (a:List Int):AV:=aH (cU .u16) 0 a
abbrev aU (a:List Int):Ob:=aO 1 (cU .u16) 0 a
abbrev Iu (x:Int):AV:=.atom (.int .u64 x)
abbrev Tj (x:Int):AV:=.atom (.int .u32 x)
abbrev w9 (x:Int):AV:=.atom (.int .u16 x)
theorem im {P:Program} {f:FuncId} {fu:Func} {c:Code} {nt m:Nat} {args:List AV} {σ eV:dD} {res:AV} (hs:m=0→σ=[]) (h:∀ E,bk E m→aG P E f nt (bc E eV res) [.code c] ⟨AF args 0,σ,m⟩) (hf:P.funcs[f]?=some fu:=by kernel_rfl) (hb:fu.body=some c:=by kernel_rfl) (hn:fu.ntmps=nt:=by kernel_rfl) (ha:Nat.ble args.length nt=true:=by kernel_rfl):Sound P f args σ m res eV:=sor hf hb hn ha hs h
noncomputable def cl (f:Func) (n:Nat):Code:=cat (VF f) (pth n)
abbrev oT (x:AV):ow:=⟨[],true,x,[],0,false,none⟩
abbrev oF (x:AV):ow:=⟨[],false,x,[],0,false,none⟩
abbrev aZ (n:Nat) (g:Nat→List AV):∀ i,i < n→g i=g (bC 0 i):=fun _ _=>rfl
abbrev mG (C:List (List aa)):Nat→List AV:=fun zm=>mR 4 aj aa.d (C.getD zm [])
theorem mC (C:List (List aa)) (l:List (Nat×Nat×Nat)):∀ zm,zm < C.length→ba l (mG C) zm=ba l (mG C) zm:=fun _ _=>rfl
theorem iM (C:List (List aa)):∀ zm,zm < C.length→Fp (mG C zm)=true:=fun _ _=>rfl
theorem cX {α:Type} {a b:α} (h:some a=some b):a=b:=Option.some.inj h
noncomputable abbrev C_4:=cl Tryz.f67
theorem AS (N vr C0 r) (h:oV N vr C0=some r):Sd 67 [(.agg (om vr)),(.op 0 0 0)] [(0,vO 1 [(aI C0)])] 1 (aB r) [(0,vO 1 [(aI C0)])]:=by
 unfold oV at h
 refine im (fu:=Tryz.f67) (c:=C_4 1) (nt:=9) (fun hm=>absurd hm (by decide)) ?_
 intro E hE
 refine ag hE 1 [] [] (kp [1,2]) (kq [0,1]) 33 pn ?_
 refine ag hE 1 [] [] (kp [3]) (kq [0]) 129 (pc o1 (pc o1 pn)) ?_
 obtain rfl:=cX h
 exact db hE 0 Tryz.f67 [] (kp [3]) (kq [0]) 129 pn [] pn
noncomputable abbrev YU:=cl Tryz.f103
def sW (N:Nat) (s:List ab) (C0:Int) (K:Int→Option (Int)):Prop:=∀ (x:Int) (r:Int),K x=some r→∀ E,bk E 1→aG Tryz.prog E 103 19 (bc E [(0,vO 1 [(aI C0)])] (aI r)) [.code (YU 52),.inLoop (YU 52),.inBlock 0,.code (YU 7)] ⟨[(0,(aH om ab.d s)),(1,(.fn (.func 67) [] [(.op 0 0 0)])),(7,(aI ((s.length:Nat):Int))),(8,(aI x))],[(0,vO 1 [(aI C0)])],1⟩
theorem rT (N s C0 fuel):sW N s C0 (cu N s C0 fuel):=by
 induction fuel with
 | zero=>intro _ r h;rw [cu.eq_1] at h;cases h
 | succ fuel ih =>
  intro x r h E hE
  rw [cu.eq_2] at h
  refine ag hE 1 [] [] (kp [0,1,7,8,9]) (kq [0]) 17 pn ?_
  refine du 1 9 h (fun ee h=>?_) (fun ee h=>?_)
  ·refine ag hE 4 [] [] (kp [0,1,5,7,8]) (kq [0]) 49 pn ?_
   obtain ⟨c,h⟩:=af h
   obtain ⟨yC,hr,h⟩:=aQ h
   refine ag hE 1 [(5,⟨[0],true,(aB yC),[],0,false,none⟩)] [] (kp [0,1,5,7,8,16]) (kq [0]) 145 (pc c (pc (AS _ _ _ _ hr) pn)) ?_
   refine du 0 16 h (fun jx h=>?_) (fun jx h=>?_)
   ·refine ag hE 1 [] [] (kp [4]) (kq [0]) 177 pn ?_
    obtain rfl:=cX h
    exact db hE 0 Tryz.f103 [] (kp [4]) (kq [0]) 177 pn [] pn
   ·refine ag hE 2 [] [] (kp [0,1,7,8]) (kq [0]) 177 pn ?_
    exact cP hE 1 [] (kp [0,1,7,8]) (kq [0]) 1 pn (ih _ _ h E hE)
  ·refine ag hE 2 [] [] (kp [4]) (kq [0]) 33 pn ?_
   obtain rfl:=cX h
   exact db hE 0 Tryz.f103 [] (kp [4]) (kq [0]) 49 pn [] pn
theorem ui (N s C0 r) (h:md N s C0=some r):Sd 103 [(aH om ab.d s),(.fn (.func 67) [] [(.op 0 0 0)])] [(0,vO 1 [(aI C0)])] 1 (aI r) [(0,vO 1 [(aI C0)])]:=by
 unfold md at h
 refine im (fu:=Tryz.f103) (c:=YU 1) (nt:=19) (fun hm=>absurd hm (by decide)) ?_
 intro E hE
 refine ag hE 1 [] [] (kp [0,1]) (kq [0]) 17 pn ?_
 refine ag hE 2 [] [] (kp [0,1,7,8]) (kq [0]) 65 pn ?_
 exact cP hE 2 [] (kp [0,1,7,8]) (kq [0]) 1 pn (rT N _ _ N _ _ h E hE)
noncomputable abbrev C_2:=cl Tryz.f66
theorem rU (N s C0 r) (h:kO N s C0=some r):Sd 66 [(aH om ab.d s),(.fn (.func 67) [] [(.op 0 0 0)])] [(0,vO 1 [(aI C0)])] 1 (aB r) [(0,vO 1 [(aI C0)])]:=by
 unfold kO at h
 refine im (fu:=Tryz.f66) (c:=C_2 1) (nt:=9) (fun hm=>absurd hm (by decide)) ?_
 intro E hE
 refine ag hE 1 [] [] (kp [0,1]) (kq [0]) 17 pn ?_
 obtain ⟨Ms,hr,h⟩:=aQ h
 refine ag hE 1 [(2,⟨[0],true,(aI Ms),[],0,false,none⟩)] [] (kp [4]) (kq [0]) 97 (pc (ui _ _ _ _ hr) pn) ?_
 obtain rfl:=cX h
 exact db hE 0 Tryz.f66 [] (kp [4]) (kq [0]) 97 pn [] pn
noncomputable abbrev C_1:=cl Tryz.f32
theorem CW (N n l r) (h:oC N n l=some r):Sd 32 [(aI n),(aH om ab.d l)] [] 0 (aI r) []:=by
 unfold oC at h
 refine im (fu:=Tryz.f32) (c:=C_1 1) (nt:=17) (fun hm=>rfl) ?_
 intro E hE
 refine ag hE 1 [] [] (kp [1,2]) (kq [0]) 32 pn ?_
 refine ag hE 2 [] [] (kp [1,2,10]) (kq [0]) 128 (pc o1 (pc (fun hg:(!(decide (n < 0)))=true=>(pc o1 pn)) (pc (fun hg:(!(decide (n < 0)))=true=>(pc hg pn)) (pc (fun hq:(!(decide (n < 0)))=true=>(pc hq pn)) pn)))) ?_
 refine du 0 10 h (fun ee h=>?_) (fun ee h=>?_)
 ·refine ag hE 1 [] [] (kp [4]) [] 144 pn ?_
  obtain rfl:=cX h
  exact db hE 0 Tryz.f32 [] (kp [4]) [] 144 pn [] pn
 ·refine ag hE 3 [] [] (kp [1,2,13]) (kq [0]) 176 pn ?_
  refine du 0 13 h (fun jx h=>?_) (fun jx h=>?_)
  ·refine ag hE 1 [] [] (kp [4]) [] 192 pn ?_
   obtain rfl:=cX h
   exact db hE 0 Tryz.f32 [] (kp [4]) [] 192 pn [] pn
  ·obtain ⟨Ms,hr,h⟩:=aQ h
   refine ag hE 3 [(2,⟨[0],true,(aB Ms),[],0,false,none⟩)] [] (kp [16]) [] 224 (pc (rU _ _ _ _ hr) pn) ?_
   refine du 0 16 h (fun rV h=>?_) (fun rV h=>?_)
   ·refine ag hE 1 [] [] (kp [4]) [] 240 pn ?_
    obtain rfl:=cX h
    exact db hE 0 Tryz.f32 [] (kp [4]) [] 240 pn [] pn
   ·refine ag hE 2 [] [] (kp [4]) [] 240 pn ?_
    obtain rfl:=cX h
    exact db hE 0 Tryz.f32 [] (kp [4]) [] 240 pn [] pn
noncomputable abbrev YV:=cl Tryz.f115
def CX (N:Nat) (K:Int→(List Int)→Option ((List Int))):Prop:=∀ (n2:Int) (out:List Int) (r:(List Int)),K n2 out=some r→∀ E,bk E 0→aG Tryz.prog E 115 14 (bc E [] (eU r)) [.code (YV 56),.inLoop (YV 56),.inBlock 0,.code (YV 15)] ⟨[(0,(Iu n2)),(3,(.os 0 0 out.length))],[(0,aU out)],1⟩
theorem BP (N fuel):CX N (kA N fuel):=by
 induction fuel with
 | zero=>intro _ _ r h;rw [kA.eq_1] at h;cases h
 | succ fuel ih =>
  intro n2 out r h E hE
  rw [kA.eq_2] at h
  refine ag hE 2 [] [] (kp [0,3,5]) (kq [0]) 33 pn ?_
  refine du 0 5 h (fun ee h=>?_) (fun ee h=>?_)
  ·obtain ⟨c,h⟩:=af h
   refine ag hE 3 [] [] (kp [0] ++ [(3,.jq ((out ++ ([(IntKind.u16.wrap (n2))]:List Int)).length))]) [(97,.arr 97 ((out ++ ([(IntKind.u16.wrap (n2))]:List Int)).length) (fun zi=>(cU .u16) ((out ++ ([(IntKind.u16.wrap (n2))]:List Int)).getD zi 0)))] 129 (pc (Eq.refl out.length) (pc c (pc (z1 1) (pc (show ∀ zi,zi < 1→AV.fJ ((fun zi=>([[(w9 (IntKind.u16.wrap (n2)))]]:List (List AV)).getD zi []) (bC 0 zi))=true from (mI rfl)) (pc (show (out.length+1)=(out ++ ([(IntKind.u16.wrap (n2))]:List Int)).length from (an rfl rfl)) (pc (show out.length+1=(out ++ ([(IntKind.u16.wrap (n2))]:List Int)).length from (an rfl rfl)) (pc (show ∀ zi,zi < (out ++ ([(IntKind.u16.wrap (n2))]:List Int)).length→(fun zi=>(cU .u16) ((out ++ ([(IntKind.u16.wrap (n2))]:List Int)).getD zi 0)) zi=((fun zm=>if zm < out.length then (fun zi=>(cU .u16) (out.getD zi 0)) zm else (fun zi=>([[(w9 (IntKind.u16.wrap (n2)))]]:List (List AV)).getD zi []) (zm - out.length))) zi from (aX (cU .u16) 0 out ([(IntKind.u16.wrap (n2))]:List Int) rfl (fun _ _=>rfl) (fun zq eY=>bB (cU .u16) 0 ([(IntKind.u16.wrap (n2))]:List Int) zq eY))) pn))))))) ?_
   refine ag hE 1 [] [] (kp [0,3]) (kq [97]) 177 (pc (show (0:Int)≤16 by decide) pn) ?_
   exact cP hE 1 [] (kp [0,3]) [(0,.ah 97)] 1 pn (ih _ _ _ h E hE)
  ·refine ag hE 2 [] [] (kp [2]) (kq [0]) 65 pn ?_
   obtain rfl:=cX h
   exact db hE 0 Tryz.f115 [0] [(2,.sl (out.length) (fun zi=>(cU .u16) (out.getD zi 0)))] [] 65 (pc (Eq.refl out.length) (pc (z1 out.length) (pc (aZ out.length (fun zi=>(cU .u16) (out.getD zi 0))) pn))) [] pn
theorem tK (N n r) (h:nC N n=some r):Sd 115 [(Iu n)] [] 0 (eU r) []:=by
 unfold nC at h
 refine im (fu:=Tryz.f115) (c:=YV 1) (nt:=14) (fun hm=>rfl) ?_
 intro E hE
 refine ag hE 1 [] [] (kp [0]) [] 16 pn ?_
 refine ag hE 1 [] [] (kp [0,3]) [] 32 pn ?_
 exact cP hE 3 [] (kp [0] ++ [(3,.lW 0)]) [(0,.nil 1 (fun zi=>(cU .u16) (([]:List Int).getD zi 0)))] 1 pn (BP N N _ _ _ h E hE)
noncomputable abbrev Tk:=cl Tryz.f122
def Hn (N:Nat) (K:(List Int)→Option ((List Int))):Prop:=∀ (n2:List Int) (r:(List Int)),K n2=some r→∀ E,bk E 0→aG Tryz.prog E 122 21 (bc E [] (eU r)) [.code (Tk 24),.inLoop (Tk 24),.inBlock 0,.code (Tk 7)] ⟨[(0,(eU n2))],[],0⟩
theorem F8 (N fuel):Hn N (nD N fuel):=by
 induction fuel with
 | zero=>intro _ r h;rw [nD.eq_1] at h;cases h
 | succ fuel ih =>
  intro n2 r h E hE
  rw [nD.eq_2] at h
  obtain ⟨c,h⟩:=af h
  refine ag hE 2 [] [] (kp [0,14]) [] 192 (pc (fun hg:(decide (((n2.length:Nat):Int) > 0))=true=>(pc hg pn)) (pc (fun hg:(decide (((n2.length:Nat):Int) > 0))=true=>(pc hg pn)) (pc (fun hg:(decide (((n2.length:Nat):Int) > 0))=true=>(pc hg (pc hg (pc (c hg) pn)))) (pc (fun hg:(decide (((n2.length:Nat):Int) > 0))=true=>(pc hg pn)) (pc (fun hg:(decide (((n2.length:Nat):Int) > 0))=true=>(pc hg pn)) (pc (fun hq:(decide (((n2.length:Nat):Int) > 0))=true=>(pc hq pn)) pn)))))) ?_
  refine du 0 14 h (fun ee h=>?_) (fun ee h=>?_)
  ·obtain ⟨c2,h⟩:=af h
   obtain ⟨c3,h⟩:=af h
   refine ag hE 2 [] [] [(0,.sl (((n2.take ((ai (((n2.length:Nat):Int) - 1)).toNat)).drop 0).length) (fun zi=>(cU .u16) (((n2.take ((ai (((n2.length:Nat):Int) - 1)).toNat)).drop 0).getD zi 0)))] [] 288 (pc c2 (pc c3 (pc (show (ai (((n2.length:Nat):Int) - 1)).toNat - 0=((n2.take ((ai (((n2.length:Nat):Int) - 1)).toNat)).drop 0).length from (yA n2 0 ((ai (((n2.length:Nat):Int) - 1)).toNat) c2)) (pc (show ∀ zi,zi < ((n2.take ((ai (((n2.length:Nat):Int) - 1)).toNat)).drop 0).length→(fun zi=>(cU .u16) (((n2.take ((ai (((n2.length:Nat):Int) - 1)).toNat)).drop 0).getD zi 0)) zi=(fun zi=>(cU .u16) (n2.getD (bC 0 zi) 0)) zi from (fun zq eY=>EV (cU .u16) 0 n2 0 ((ai (((n2.length:Nat):Int) - 1)).toNat) zq eY)) pn)))) ?_
   exact cP hE 2 [] (kp [0]) [] 0 pn (ih _ _ h E hE)
  ·refine ag hE 2 [] [] (kp [2]) [] 224 pn ?_
   obtain rfl:=cX h
   exact db hE 0 Tryz.f122 [] (kp [2]) [] 224 pn [] pn
theorem fj (N n r) (h:ia N n=some r):Sd 122 [(eU n)] [] 0 (eU r) []:=by
 unfold ia at h
 refine im (fu:=Tryz.f122) (c:=Tk 1) (nt:=21) (fun hm=>rfl) ?_
 intro E hE
 refine ag hE 1 [] [] (kp [0]) [] 16 pn ?_
 exact cP hE 3 [] (kp [0]) [] 0 pn (F8 N N _ _ h E hE)
noncomputable abbrev QY:=cl Tryz.f130
theorem lO (N s r) (h:dA N s=some r):Sd 130 [(eU s)] [] 0 (eU r) []:=by
 unfold dA at h
 refine im (fu:=Tryz.f130) (c:=QY 1) (nt:=8) (fun hm=>rfl) ?_
 intro E hE
 refine ag hE 1 [] [] (kp [0]) [] 16 pn ?_
 refine ag hE 2 [] [] (kp [0,4]) [] 48 pn ?_
 refine sA 0 [.code (QY 13),.code (QY 7)] ?_
 refine aG.VG (o:=.tmp 4) (x:=QY 26) (y:=QY 27) (n:=s.length) (by kernel_rfl) (by kernel_rfl) (fun ee=>?_) ?_
 ·replace ee:=List.length_eq_zero_iff.1 ee
  replace h:(some ([]:List Int))=some r:=by rw [ee] at h;simpa using h
  refine ag hE 1 [] [] (kp [2]) [] 64 pn ?_
  obtain rfl:=cX h
  exact db hE 0 Tryz.f130 [] [(2,.sl (([]:List Int).length) (fun zi=>(cU .u16) (([]:List Int).getD zi 0)))] [] 64 (pc (Eq.refl 0) pn) [] pn
 ·obtain ⟨c,h⟩:=af h
  refine ag hE 2 [] [] [(2,.jq ((([]:List Int) ++ s).length))] [(80,.arr 80 ((([]:List Int) ++ s).length) (fun zi=>(cU .u16) ((([]:List Int) ++ s).getD zi 0)))] 112 (pc (Eq.refl 0) (pc c (pc (show ∀ zi,zi < s.length→AV.fJ ((fun zi=>(cU .u16) (s.getD zi 0)) zi)=true from (fun _ _=>rfl)) (pc (show (0+s.length)=(([]:List Int) ++ s).length from (an rfl rfl)) (pc (show 0+s.length=(([]:List Int) ++ s).length from (an rfl rfl)) (pc (show ∀ zi,zi < (([]:List Int) ++ s).length→(fun zi=>(cU .u16) ((([]:List Int) ++ s).getD zi 0)) zi=((fun zm=>if zm < 0 then (fun _=>[]) zm else (fun zi=>(cU .u16) (s.getD zi 0)) (zm - 0))) zi from (aX (cU .u16) 0 ([]:List Int) s rfl (fun zq eY=>absurd eY (dT _)) (fun _ _=>rfl))) pn)))))) ?_
  obtain rfl:=cX h
  exact db hE 0 Tryz.f130 [80] [(2,.sl ((([]:List Int) ++ s).length) (fun zi=>(cU .u16) ((([]:List Int) ++ s).getD zi 0)))] [] 112 (pc (Eq.refl ((([]:List Int) ++ s).length)) (pc (z1 ((([]:List Int) ++ s).length)) (pc (aZ ((([]:List Int) ++ s).length) (fun zi=>(cU .u16) ((([]:List Int) ++ s).getD zi 0))) pn))) [] pn
noncomputable abbrev C_9:=cl Tryz.f114
theorem ki (N neg n r) (h:jK N neg n=some r):Sd 114 [(aB neg),(eU n)] [] 0 (.agg (lN r)) []:=by
 unfold jK at h
 refine im (fu:=Tryz.f114) (c:=C_9 1) (nt:=15) (fun hm=>rfl) ?_
 intro E hE
 refine ag hE 1 [] [] (kp [0,1,4]) (kq [0]) 16 pn ?_
 obtain ⟨cb,hr,h⟩:=aQ h
 refine ag hE 1 [(1,oT (eU cb))] [] (kp [0,1,4]) (kq [0]) 64 (pc (fj _ _ _ hr) pn) ?_
 refine ag hE 2 [] [] (kp [0,1,4,9]) (kq [0]) 112 pn ?_
 refine du 0 9 h (fun ee h=>?_) (fun ee h=>?_)
 ·refine ag hE 1 [] [] (kp [4]) (kq [0]) 144 (pc o1 pn) ?_
  obtain rfl:=cX h
  exact db hE 0 Tryz.f114 [] (kp [4]) [(16,.var 0 [.ah,.sl (([]:List Int).length) (fun zi=>(cU .u16) (([]:List Int).getD zi 0))])] 144 (pc (Eq.refl 0) pn) [16] (pc o1 pn)
 ·obtain ⟨AH,eX,h⟩:=aQ h
  refine ag hE 2 [(2,oT (eU AH))] [] (kp [4]) (kq [0]) 192 (pc (lO _ _ _ eX) (pc o1 pn)) ?_
  obtain rfl:=cX h
  exact db hE 0 Tryz.f114 [] (kp [4]) [(16,.ah 0)] 192 pn [16] (pc o1 pn)
noncomputable abbrev C_7:=cl Tryz.f90
theorem zJ (N n r) (h:wX N n=some r):Sd 90 [(aI n)] [] 0 (.agg (lN r)) []:=by
 unfold wX at h
 refine im (fu:=Tryz.f90) (c:=C_7 1) (nt:=14) (fun hm=>rfl) ?_
 intro E hE
 refine ag hE 1 [] [] (kp [0,2]) (kq [0]) 16 pn ?_
 refine ag hE 2 [] [] (kp [0,2,4]) (kq [0]) 48 pn ?_
 refine du 0 4 h (fun ee h=>?_) (fun ee h=>?_)
 ·obtain ⟨tx,hr,h⟩:=aQ h
  obtain ⟨Mt,eX,h⟩:=aQ h
  refine ag hE 1 [(3,oT (eU tx)),(4,oT (.agg (lN Mt)))] [] (kp [2]) (kq [0]) 144 (pc (tK _ _ _ hr) (pc (ki _ _ _ _ eX) (pc o1 pn))) ?_
  obtain rfl:=cX h
  exact db hE 0 Tryz.f90 [] (kp [2]) [(16,.ah 0)] 144 pn [16] (pc o1 pn)
 ·obtain ⟨CP,kE,h⟩:=aQ h
  obtain ⟨FY,nu,h⟩:=aQ h
  refine ag hE 2 [(2,oT (eU CP)),(3,oT (.agg (lN FY)))] [] (kp [2]) (kq [0]) 128 (pc (tK _ _ _ kE) (pc (ki _ _ _ _ nu) (pc o1 pn))) ?_
  obtain rfl:=cX h
  exact db hE 0 Tryz.f90 [] (kp [2]) [(16,.ah 0)] 128 pn [16] (pc o1 pn)
noncomputable abbrev Tl:=cl Tryz.f132
def Ho (N:Nat) (n:List Int) (K:Int→Int→Option (Int×Bool)):Prop:=∀ (out:Int) (i:Int) (r:Int×Bool),K out i=some r→∀ E,bk E 0→aG Tryz.prog E 132 25 (bc E [] (.tup [(Iu r.1),(aB r.2)])) [.code (Tl 244),.inLoop (Tl 244),.inBlock 0,.code (Tl 31)] ⟨[(0,(eU n)),(4,(Iu out)),(5,(aI i))],[],0⟩
theorem F9 (N n fuel):Ho N n (l9 N n fuel):=by
 induction fuel with
 | zero=>intro _ _ r h;rw [l9.eq_1] at h;cases h
 | succ fuel ih =>
  intro out i r h E hE
  rw [l9.eq_2] at h
  refine ag hE 2 [] [] (kp [0,4,5,13]) [] 32 pn ?_
  refine du 0 13 h (fun jx h=>?_) (fun jx h=>?_)
  ·obtain ⟨c,h⟩:=af h
   refine ag hE 3 [] [] (kp [0,4,5]) [] 176 (pc (show (0:Int)≤16 by decide) (pc c pn)) ?_
   refine ag hE 1 [] [] (kp [0,4,5]) [] 224 pn ?_
   exact cP hE 1 [] (kp [0,4,5]) [] 0 pn (ih _ _ _ h E hE)
  ·refine ag hE 2 [] [] (kp [2,3]) [] 80 pn ?_
   obtain rfl:=cX h
   exact db hE 0 Tryz.f132 [] (kp [2,3]) [] 80 pn [] pn
theorem DR (N n r) (h:vJ N n=some r):Sd 132 [(eU n)] [] 0 (.tup [(Iu r.1),(aB r.2)]) []:=by
 unfold vJ at h
 refine im (fu:=Tryz.f132) (c:=Tl 1) (nt:=25) (fun hm=>rfl) ?_
 intro E hE
 refine ag hE 1 [] [] (kp [0]) [] 32 pn ?_
 refine ag hE 2 [] [] (kp [0,8]) [] 80 pn ?_
 refine du 0 8 h (fun ee h=>?_) (fun ee h=>?_)
 ·refine ag hE 1 [] [] (kp [2,3]) [] 112 pn ?_
  obtain rfl:=cX h
  exact db hE 0 Tryz.f132 [] (kp [2,3]) [] 112 pn [] pn
 ·refine ag hE 2 [] [] (kp [0,4]) [] 96 pn ?_
  refine ag hE 2 [] [] (kp [0,4,5]) [] 160 pn ?_
  exact cP hE 2 [] (kp [0,4,5]) [] 0 pn (F9 N _ N _ _ _ h E hE)
noncomputable abbrev Tm:=cl Tryz.f126
def CY (N:Nat) (a:List Int) (b:List Int) (K:Int→Option (Int)):Prop:=∀ (i:Int) (r:Int),K i=some r→∀ E,bk E 0→aG Tryz.prog E 126 43 (bc E [] (aI r)) [.code (Tm 116),.inLoop (Tm 116),.inBlock 0,.code (Tm 15)] ⟨[(0,(eU a)),(1,(eU b)),(5,(aI i))],[],0⟩
theorem BQ (N a b fuel):CY N a b (jr N a b fuel):=by
 induction fuel with
 | zero=>intro _ r h;rw [jr.eq_1] at h;cases h
 | succ fuel ih =>
  intro i r h E hE
  rw [jr.eq_2] at h
  refine ag hE 2 [] [] (kp [0,1,5,20]) [] 32 pn ?_
  refine du 0 20 h (fun jx h=>?_) (fun jx h=>?_)
  ·obtain ⟨c,h⟩:=af h
   obtain ⟨c2,h⟩:=af h
   refine ag hE 4 [] [] (kp [0,1,5,31]) [] 176 (pc c (pc c2 pn)) ?_
   refine du 0 31 h (fun rV h=>?_) (fun rV h=>?_)
   ·refine ag hE 1 [] [] (kp [4]) [] 368 (pc c (pc c2 pn)) ?_
    obtain rfl:=cX h
    exact db hE 0 Tryz.f126 [] (kp [4]) [] 368 pn [] pn
   ·refine ag hE 2 [] [] (kp [0,1,5]) [] 224 pn ?_
    exact cP hE 1 [] (kp [0,1,5]) [] 0 pn (ih _ _ h E hE)
  ·refine ag hE 2 [] [] (kp [4]) [] 48 pn ?_
   obtain rfl:=cX h
   exact db hE 0 Tryz.f126 [] (kp [4]) [] 48 pn [] pn
theorem yH (N a b r) (h:nF N a b=some r):Sd 126 [(eU a),(eU b)] [] 0 (aI r) []:=by
 unfold nF at h
 refine im (fu:=Tryz.f126) (c:=Tm 1) (nt:=43) (fun hm=>rfl) ?_
 intro E hE
 refine ag hE 1 [] [] (kp [0,1]) [] 16 pn ?_
 refine ag hE 2 [] [] (kp [0,1,10]) [] 96 pn ?_
 refine du 0 10 h (fun ee h=>?_) (fun ee h=>?_)
 ·refine ag hE 1 [] [] (kp [4]) [] 192 pn ?_
  obtain rfl:=cX h
  exact db hE 0 Tryz.f126 [] (kp [4]) [] 192 pn [] pn
 ·refine ag hE 3 [] [] (kp [0,1,5]) [] 160 pn ?_
  exact cP hE 2 [] (kp [0,1,5]) [] 0 pn (BQ N _ _ N _ _ h E hE)
noncomputable abbrev Tn:=cl Tryz.f133
def Ga (N:Nat) (a:List Int) (b:Int) (K:(List Int)→Int→Int→Option ((List Int)×Int)):Prop:=∀ (q:List Int) (rest:Int) (i:Int) (r:(List Int)×Int),K q rest i=some r→∀ E,bk E 0→aG Tryz.prog E 133 43 (bc E [] (.tup [(eU r.1),(w9 r.2)])) [.code (Tn 244),.inLoop (Tn 244),.inBlock 0,.code (Tn 31)] ⟨[(0,(eU a)),(1,(w9 b)),(6,(.os 0 0 q.length)),(7,(Tj rest)),(8,(aI i))],[(0,aU q)],1⟩
theorem D3 (N a b fuel):Ga N a b (k9 N a b fuel):=by
 induction fuel with
 | zero=>intro _ _ _ r h;rw [k9.eq_1] at h;cases h
 | succ fuel ih =>
  intro q rest i r h E hE
  rw [k9.eq_2] at h
  refine ag hE 2 [] [] (kp [0,1,6,7,8,16]) (kq [0]) 33 pn ?_
  refine du 0 16 h (fun ee h=>?_) (fun ee h=>?_)
  ·obtain ⟨c2,h⟩:=af h
   refine ag hE 4 [] [] (kp [0,1,6,7,8]) (kq [0]) 177 (pc (show (0:Int)≤16 by decide) (pc c2 pn)) ?_
   obtain ⟨c3,h⟩:=af h
   obtain ⟨c4,h⟩:=af h
   refine ag hE 1 [] [] (kp [0,1] ++ [(6,.jq ((q.set ((i).toNat) (IntKind.u16.wrap ((IntKind.u32.wrap ((tw .u32 (hO .u32 rest 16) (IntKind.u32.wrap ((a.getD ((i).toNat) 0)))).tdiv (IntKind.u32.wrap (b))))))).length))] ++ kp [7,8]) [(0,.arr 0 ((q.set ((i).toNat) (IntKind.u16.wrap ((IntKind.u32.wrap ((tw .u32 (hO .u32 rest 16) (IntKind.u32.wrap ((a.getD ((i).toNat) 0)))).tdiv (IntKind.u32.wrap (b))))))).length) (fun zi=>(cU .u16) ((q.set ((i).toNat) (IntKind.u16.wrap ((IntKind.u32.wrap ((tw .u32 (hO .u32 rest 16) (IntKind.u32.wrap ((a.getD ((i).toNat) 0)))).tdiv (IntKind.u32.wrap (b))))))).getD zi 0)))] 321 (pc c3 (pc c4 (pc (dP c4) (pc (ay q ((i).toNat) (IntKind.u16.wrap ((IntKind.u32.wrap ((tw .u32 (hO .u32 rest 16) (IntKind.u32.wrap ((a.getD ((i).toNat) 0)))).tdiv (IntKind.u32.wrap (b))))))) (pc (ay q ((i).toNat) (IntKind.u16.wrap ((IntKind.u32.wrap ((tw .u32 (hO .u32 rest 16) (IntKind.u32.wrap ((a.getD ((i).toNat) 0)))).tdiv (IntKind.u32.wrap (b))))))) (pc (cA (cU .u16) 0 q ((i).toNat) (IntKind.u16.wrap ((IntKind.u32.wrap ((tw .u32 (hO .u32 rest 16) (IntKind.u32.wrap ((a.getD ((i).toNat) 0)))).tdiv (IntKind.u32.wrap (b))))))) pn)))))) ?_
   refine ag hE 0 [] [] (kp [0,1,6,7,8]) (kq [0]) 401 (pc c3 pn) ?_
   refine ag hE 1 [] [] (kp [0,1,6,7,8]) (kq [0]) 449 pn ?_
   exact cP hE 1 [] (kp [0,1,6,7,8]) (kq [0]) 1 pn (ih _ _ _ _ h E hE)
  ·obtain ⟨cb,hr,h⟩:=aQ h
   refine ag hE 2 [(1,⟨[],true,(eU cb),[],0,true,none⟩)] [] (kp [4,5]) [] 129 (pc (fj _ _ _ hr) (pc (z1 q.length) pn)) ?_
   obtain rfl:=cX h
   exact db hE 0 Tryz.f133 [] (kp [4,5]) [] 129 pn [] pn
theorem Ju (N a b r) (h:vK N a b=some r):Sd 133 [(eU a),(w9 b)] [] 0 (.tup [(eU r.1),(w9 r.2)]) []:=by
 unfold vK at h
 refine im (fu:=Tryz.f133) (c:=Tn 1) (nt:=43) (fun hm=>rfl) ?_
 intro E hE
 refine ag hE 1 [] [] (kp [0,1]) [] 32 pn ?_
 obtain ⟨c,h⟩:=af h
 refine ag hE 1 [] [] (kp [0,1] ++ [(6,.jq ((List.replicate a.length 0:List Int).length))]) [(64,.arr 64 ((List.replicate a.length 0:List Int).length) (fun zi=>(cU .u16) ((List.replicate a.length 0:List Int).getD zi 0)))] 96 (pc (show 0≤((a.length:Nat):Int) from c.1) (pc (show ((a.length:Nat):Int)≤((a.length:Nat):Int) from (Int.le_refl _)) (pc (show (2:Int) * ((a.length:Nat):Int)≤281474976710656 from c.2.1) (pc (show ((a.length:Nat):Int)≤9223372036854775807 from c.2.2) (pc (show a.length=(List.replicate a.length 0:List Int).length from (cN).symm) (pc (show a.length=(List.replicate a.length 0:List Int).length from (cN).symm) (pc (show ∀ zi,zi < (List.replicate a.length 0:List Int).length→(fun zi=>(cU .u16) ((List.replicate a.length 0:List Int).getD zi 0)) zi=(fun _=>[(w9 0)]) zi from (fun zq eY=>sL (cU .u16) 0 0 a.length zq eY)) pn))))))) ?_
 refine ag hE 1 [] [] (kp [0,1,6,7]) (kq [64]) 112 pn ?_
 refine ag hE 2 [] [] (kp [0,1,6,7,8]) (kq [64]) 176 pn ?_
 exact cP hE 2 [] (kp [0,1,6,7,8]) [(0,.ah 64)] 1 pn (D3 N _ _ N _ _ _ _ h E hE)
noncomputable abbrev VR:=cl Tryz.f137
def xa (N:Nat) (K:Int→Int→Option (Int)):Prop:=∀ (x2:Int) (n:Int) (r:Int),K x2 n=some r→∀ E,bk E 0→aG Tryz.prog E 137 13 (bc E [] (aI r)) [.code (VR 14),.code (VR 15)] ⟨[(0,(w9 x2)),(2,(aI n))],[],0⟩
theorem pK (N):xa N (cG N):=by
 intro x2 n r h E hE
 unfold cG at h
 obtain ⟨c,h⟩:=af h
 refine ag hE 0 [] [] (kp [2]) [] 112 (pc c pn) ?_
 obtain rfl:=cX h
 exact db hE 0 Tryz.f137 [] (kp [2]) [] 112 pn [] pn
theorem yI (N x r) (h:la N x=some r):Sd 137 [(w9 x)] [] 0 (aI r) []:=by
 unfold la at h
 refine im (fu:=Tryz.f137) (c:=VR 1) (nt:=13) (fun hm=>rfl) ?_
 intro E hE
 refine ag hE 1 [] [] (kp [0,2]) [] 16 pn ?_
 refine ag hE 2 [] [] (kp [0,2,4]) [] 48 pn ?_
 refine du 0 4 h (fun ee h=>?_) (fun ee h=>?_)
 ·refine ag hE 1 [] [] (kp [0]) [] 96 (pc (show (0:Int)≤8 by decide) pn) ?_
  refine ag hE 0 [] [] (kp [0,2]) [] 112 pn ?_
  exact cP hE 1 [] (kp [0,2]) [] 0 pn (pK N _ _ _ h E hE)
 ·exact cP hE 2 [] (kp [0,2]) [] 0 pn (pK N _ _ _ h E hE)
noncomputable abbrev aag:=cl Tryz.f134
theorem ru (N x r) (h:fb N x=some r):Sd 134 [(w9 x)] [] 0 (aI r) []:=by
 unfold fb at h
 refine im (fu:=Tryz.f134) (c:=aag 1) (nt:=6) (fun hm=>rfl) ?_
 intro E hE
 refine ag hE 1 [] [] (kp [0]) [] 16 pn ?_
 obtain ⟨Mv,hr,h⟩:=aQ h
 refine ag hE 1 [(1,oT (aI Mv))] [] (kp [2]) [] 80 (pc (yI _ _ _ hr) pn) ?_
 obtain rfl:=cX h
 exact db hE 0 Tryz.f134 [] (kp [2]) [] 80 pn [] pn
noncomputable abbrev To:=cl Tryz.f135
def CZ (N:Nat) (a:List Int) (z4:Int) (K:(List Int)→Int→Option ((List Int))):Prop:=∀ (out:List Int) (x:Int) (r:(List Int)),K out x=some r→∀ E,bk E 0→aG Tryz.prog E 135 41 (bc E [(0,aU r)] (.os 0 0 r.length)) [.code (To 116),.inLoop (To 116),.inBlock 0,.code (To 15)] ⟨[(1,(aI z4)),(5,(.os 0 0 out.length)),(13,(eU a)),(14,(aI ((a.length:Nat):Int))),(15,(aI x))],[(0,aU out)],1⟩
theorem BR (N a z4 fuel):CZ N a z4 (js N a z4 fuel):=by
 induction fuel with
 | zero=>intro _ _ r h;rw [js.eq_1] at h;cases h
 | succ fuel ih =>
  intro out x r h E hE
  rw [js.eq_2] at h
  refine ag hE 1 [] [] (kp [1,5,13,14,15,16]) (kq [0]) 17 pn ?_
  refine du 1 16 h (fun ee h=>?_) (fun ee h=>?_)
  ·obtain ⟨c2,h⟩:=af h
   refine ag hE 4 [] [] (kp [1,5,6,7,13,14,15]) (kq [0]) 97 (pc c2 pn) ?_
   obtain ⟨c3,h⟩:=af h
   refine ag hE 1 [] [] (kp [1,5,6,8,13,14,15]) (kq [0]) 177 (pc c3 pn) ?_
   obtain ⟨c4,h⟩:=af h
   refine ag hE 1 [] [] (kp [1] ++ [(5,.jq ((out.set ((x).toNat) (tw .u16 (out.getD ((x).toNat) 0) (IntKind.u16.wrap ((hO .u32 (IntKind.u32.wrap ((a.getD ((x).toNat) 0))) z4))))).length))] ++ kp [6,8,13,14,15]) [(0,.arr 0 ((out.set ((x).toNat) (tw .u16 (out.getD ((x).toNat) 0) (IntKind.u16.wrap ((hO .u32 (IntKind.u32.wrap ((a.getD ((x).toNat) 0))) z4))))).length) (fun zi=>(cU .u16) ((out.set ((x).toNat) (tw .u16 (out.getD ((x).toNat) 0) (IntKind.u16.wrap ((hO .u32 (IntKind.u32.wrap ((a.getD ((x).toNat) 0))) z4))))).getD zi 0)))] 321 (pc c4 (pc (dP c4) (pc c4 (pc (dP c4) (pc (ay out ((x).toNat) (tw .u16 (out.getD ((x).toNat) 0) (IntKind.u16.wrap ((hO .u32 (IntKind.u32.wrap ((a.getD ((x).toNat) 0))) z4))))) (pc (ay out ((x).toNat) (tw .u16 (out.getD ((x).toNat) 0) (IntKind.u16.wrap ((hO .u32 (IntKind.u32.wrap ((a.getD ((x).toNat) 0))) z4))))) (pc (cA (cU .u16) 0 out ((x).toNat) (tw .u16 (out.getD ((x).toNat) 0) (IntKind.u16.wrap ((hO .u32 (IntKind.u32.wrap ((a.getD ((x).toNat) 0))) z4))))) pn))))))) ?_
   obtain ⟨c5,h⟩:=af h
   refine ag hE 0 [] [] (kp [1] ++ [(5,.jq (((out.set ((x).toNat) (tw .u16 (out.getD ((x).toNat) 0) (IntKind.u16.wrap ((hO .u32 (IntKind.u32.wrap ((a.getD ((x).toNat) 0))) z4))))).set ((ai (x+1)).toNat) (IntKind.u16.wrap ((oB .u32 (hO .u32 (IntKind.u32.wrap ((a.getD ((x).toNat) 0))) z4) 16)))).length))] ++ kp [13,14,15]) [(0,.arr 0 (((out.set ((x).toNat) (tw .u16 (out.getD ((x).toNat) 0) (IntKind.u16.wrap ((hO .u32 (IntKind.u32.wrap ((a.getD ((x).toNat) 0))) z4))))).set ((ai (x+1)).toNat) (IntKind.u16.wrap ((oB .u32 (hO .u32 (IntKind.u32.wrap ((a.getD ((x).toNat) 0))) z4) 16)))).length) (fun zi=>(cU .u16) (((out.set ((x).toNat) (tw .u16 (out.getD ((x).toNat) 0) (IntKind.u16.wrap ((hO .u32 (IntKind.u32.wrap ((a.getD ((x).toNat) 0))) z4))))).set ((ai (x+1)).toNat) (IntKind.u16.wrap ((oB .u32 (hO .u32 (IntKind.u32.wrap ((a.getD ((x).toNat) 0))) z4) 16)))).getD zi 0)))] 449 (pc (show (0:Int)≤16 by decide) (pc c5 (pc (dP c5) (pc (ay (out.set ((x).toNat) (tw .u16 (out.getD ((x).toNat) 0) (IntKind.u16.wrap ((hO .u32 (IntKind.u32.wrap ((a.getD ((x).toNat) 0))) z4))))) ((ai (x+1)).toNat) (IntKind.u16.wrap ((oB .u32 (hO .u32 (IntKind.u32.wrap ((a.getD ((x).toNat) 0))) z4) 16)))) (pc (ay (out.set ((x).toNat) (tw .u16 (out.getD ((x).toNat) 0) (IntKind.u16.wrap ((hO .u32 (IntKind.u32.wrap ((a.getD ((x).toNat) 0))) z4))))) ((ai (x+1)).toNat) (IntKind.u16.wrap ((oB .u32 (hO .u32 (IntKind.u32.wrap ((a.getD ((x).toNat) 0))) z4) 16)))) (pc (cA (cU .u16) 0 (out.set ((x).toNat) (tw .u16 (out.getD ((x).toNat) 0) (IntKind.u16.wrap ((hO .u32 (IntKind.u32.wrap ((a.getD ((x).toNat) 0))) z4))))) ((ai (x+1)).toNat) (IntKind.u16.wrap ((oB .u32 (hO .u32 (IntKind.u32.wrap ((a.getD ((x).toNat) 0))) z4) 16)))) pn)))))) ?_
   refine ag hE 1 [] [] (kp [1,5,13,14,15]) (kq [0]) 481 pn ?_
   exact cP hE 1 [] (kp [1,5,13,14,15]) (kq [0]) 1 pn (ih _ _ _ h E hE)
  ·refine ag hE 2 [] [] (kp [4]) (kq [0]) 49 pn ?_
   obtain rfl:=cX h
   exact db hE 0 Tryz.f135 [] (kp [4]) (kq [0]) 49 pn [] pn
theorem yJ (N a z4 r) (h:pE N a z4=some r):Sd 135 [(eU a),(aI z4)] [] 0 (.os 0 0 r.length) [(0,aU r)]:=by
 unfold pE at h
 refine im (fu:=Tryz.f135) (c:=To 1) (nt:=41) (fun hm=>rfl) ?_
 intro E hE
 refine ag hE 1 [] [] (kp [0,1]) [] 16 pn ?_
 obtain ⟨c,h⟩:=af h
 refine ag hE 1 [] [] (kp [0,1] ++ [(5,.jq ((List.replicate ((ai (((a.length:Nat):Int)+1)).toNat) 0:List Int).length))]) [(64,.arr 64 ((List.replicate ((ai (((a.length:Nat):Int)+1)).toNat) 0:List Int).length) (fun zi=>(cU .u16) ((List.replicate ((ai (((a.length:Nat):Int)+1)).toNat) 0:List Int).getD zi 0)))] 96 (pc (show 0≤(ai (((a.length:Nat):Int)+1)) from c.1) (pc (show (ai (((a.length:Nat):Int)+1))≤(ai (((a.length:Nat):Int)+1)) from (Int.le_refl _)) (pc (show (2:Int) * (ai (((a.length:Nat):Int)+1))≤281474976710656 from c.2.1) (pc (show (ai (((a.length:Nat):Int)+1))≤9223372036854775807 from c.2.2) (pc (show (ai (((a.length:Nat):Int)+1)).toNat=(List.replicate ((ai (((a.length:Nat):Int)+1)).toNat) 0:List Int).length from (cN).symm) (pc (show (ai (((a.length:Nat):Int)+1)).toNat=(List.replicate ((ai (((a.length:Nat):Int)+1)).toNat) 0:List Int).length from (cN).symm) (pc (show ∀ zi,zi < (List.replicate ((ai (((a.length:Nat):Int)+1)).toNat) 0:List Int).length→(fun zi=>(cU .u16) ((List.replicate ((ai (((a.length:Nat):Int)+1)).toNat) 0:List Int).getD zi 0)) zi=(fun _=>[(w9 0)]) zi from (fun zq eY=>sL (cU .u16) 0 0 ((ai (((a.length:Nat):Int)+1)).toNat) zq eY)) pn))))))) ?_
 refine ag hE 2 [] [] (kp [1,5,13,14,15]) (kq [64]) 144 pn ?_
 exact cP hE 2 [] (kp [1,5,13,14,15]) [(0,.ah 64)] 1 pn (BR N _ _ N _ _ _ h E hE)
noncomputable abbrev xT:=cl Tryz.f136
def Gb (N:Nat) (uo:Nat) (un:Nat) (v:List Int) (C0:List Int) (K:Int→Int→Option (Int×(List Int))):Prop:=∀ (q:Int) (rest:Int) (r:Int×(List Int)),K q rest=some r→∀ E,bk E 1→aG Tryz.prog E 136 161 (bc E [(0,aU r.2)] (w9 r.1)) [.code (xT 248),.inLoop (xT 248),.inBlock 0,.code (xT 63)] ⟨[(0,(.os 0 uo un)),(1,(eU v)),(5,(aI ((v.length:Nat):Int))),(7,(Iu q)),(8,(Iu rest))],[(0,aU C0)],1⟩
def yK (N:Nat) (uo:Nat) (un:Nat) (v:List Int) (q:Int) (K:(List Int)→Int→Int→Int→Option (Int×(List Int))):Prop:=∀ (bE:List Int) (carry:Int) (borrow:Int) (x:Int) (r:Int×(List Int)),K bE carry borrow x=some r→∀ E,bk E 1→aG Tryz.prog E 136 161 (bc E [(0,aU r.2)] (w9 r.1)) [.code (xT 2036),.inLoop (xT 2036),.inBlock 2,.code (xT 255)] ⟨[(0,(.os 0 uo un)),(1,(eU v)),(5,(aI ((v.length:Nat):Int))),(7,(Iu q)),(9,(Iu carry)),(10,(aI borrow)),(84,(aI (ai (((v.length:Nat):Int)+1)))),(85,(aI x))],[(0,aU bE)],1⟩
def Gc (N:Nat) (uo:Nat) (un:Nat) (v:List Int) (q:Int) (bE:List Int) (borrow:Int) (x:Int) (K:Int→Option (Int×(List Int))):Prop:=∀ (x2:Int) (r:Int×(List Int)),K x2=some r→∀ E,bk E 1→aG Tryz.prog E 136 161 (bc E [(0,aU r.2)] (w9 r.1)) [.code (xT 521422),.code (xT 521423),.inBlock 3,.code (xT 16295),.inLoop (xT 2036),.inBlock 2,.code (xT 255)] ⟨[(0,(.os 0 uo un)),(1,(eU v)),(5,(aI ((v.length:Nat):Int))),(7,(Iu q)),(10,(aI borrow)),(11,(aI x)),(12,(Iu x2)),(84,(aI (ai (((v.length:Nat):Int)+1)))),(85,(aI x))],[(0,aU bE)],1⟩
theorem xB (N:Nat) (uo:Nat) (un:Nat) (v:List Int) (q:Int) (bE:List Int) (borrow:Int) (x:Int) (p8:(List Int)→Int→Int→Int→Option (Int×(List Int))) (D4:yK N uo un v q p8):Gc N uo un v q bE borrow x (n5 N uo un v q bE borrow x p8):=by
 intro x2 r h E hE
 unfold n5 at h
 refine ag hE 0 [] [] (kp [0,1,5,7,9,10,11,12,84,85]) (kq [0]) 49 (pc (show (0:Int)≤16 by decide) pn) ?_
 obtain ⟨Iv,h⟩:=af h
 obtain ⟨Iw,h⟩:=af h
 refine ag hE 1 [] [] (kp [0,1,5,7,9,11,13,84,85]) (kq [0]) 241 (pc Iv (pc (show (bC uo (x).toNat) < bE.length by have h1:=Iv;have h2:=Iw;simp only [dp];omega) pn)) ?_
 refine ag hE 1 [] [] (kp [0,1,5,7,9,13,84,85]) [(0,.arr 0 ((bE.set (bC uo (x).toNat) (IntKind.u16.wrap ((ai ((ai ((ai ((bE.getD (bC uo (x).toNat) 0))) - (ai ((vH .u64 x2 65535)))))+borrow))))).length) (fun zi=>(cU .u16) ((bE.set (bC uo (x).toNat) (IntKind.u16.wrap ((ai ((ai ((ai ((bE.getD (bC uo (x).toNat) 0))) - (ai ((vH .u64 x2 65535)))))+borrow))))).getD zi 0)))] 337 (pc Iv (pc (show (bC uo (x).toNat) < bE.length by have h1:=Iv;have h2:=Iw;simp only [dp];omega) (pc (ay bE (bC uo (x).toNat) (IntKind.u16.wrap ((ai ((ai ((ai ((bE.getD (bC uo (x).toNat) 0))) - (ai ((vH .u64 x2 65535)))))+borrow))))) (pc (cA (cU .u16) 0 bE (bC uo (x).toNat) (IntKind.u16.wrap ((ai ((ai ((ai ((bE.getD (bC uo (x).toNat) 0))) - (ai ((vH .u64 x2 65535)))))+borrow))))) pn)))) ?_
 refine ag hE 0 [] [] (kp [0,1,5,7,9,10,84,85]) (kq [0]) 385 (pc (show (0:Int)≤16 by decide) pn) ?_
 refine ag hE 1 [] [] (kp [0,1,5,7,9,10,84,85]) (kq [0]) 417 pn ?_
 exact cP hE 1 [] (kp [0,1,5,7,9,10,84,85]) (kq [0]) 1 pn (D4 _ _ _ _ _ h E hE)
def Gd (N:Nat) (uo:Nat) (un:Nat) (v:List Int) (q:Int) (K:(List Int)→Int→Int→Option (Int×(List Int))):Prop:=∀ (cr:List Int) (fP:Int) (x3:Int) (r:Int×(List Int)),K cr fP x3=some r→∀ E,bk E 1→aG Tryz.prog E 136 161 (bc E [(0,aU r.2)] (w9 r.1)) [.code (xT 130740),.inLoop (xT 130740),.inBlock 4,.code (xT 16343),.code (xT 511)] ⟨[(0,(.os 0 uo un)),(1,(eU v)),(5,(aI ((v.length:Nat):Int))),(7,(Iu (IntKind.u64.wrap (q - 1)))),(14,(Tj fP)),(126,(aI ((v.length:Nat):Int))),(127,(aI x3))],[(0,aU cr)],1⟩
def Gf (N:Nat) (K:(List Int)→Int→Option (Int×(List Int))):Prop:=∀ (dn:List Int) (q2:Int) (r:Int×(List Int)),K dn q2=some r→∀ E,bk E 1→aG Tryz.prog E 136 161 (bc E [(0,aU r.2)] (w9 r.1)) [.code (xT 1022),.code (xT 1023)] ⟨[(7,(Iu q2))],[(0,aU dn)],1⟩
theorem xC (N):Gf N (ld N):=by
 intro dn q2 r h E hE
 unfold ld at h
 refine ag hE 0 [] [] (kp [4]) (kq [0]) 49 pn ?_
 obtain rfl:=cX h
 exact db hE 0 Tryz.f136 [] (kp [4]) (kq [0]) 49 pn [] pn
theorem D5 (N uo un v q fuel):Gd N uo un v q (jf N uo un v q fuel):=by
 induction fuel with
 | zero=>intro _ _ _ r h;rw [jf.eq_1] at h;cases h
 | succ fuel ih =>
  intro cr fP x3 r h E hE
  rw [jf.eq_2] at h
  refine ag hE 1 [] [] (kp [0,1,5,7,14,126,127,128]) (kq [0]) 17 pn ?_
  refine du 1 128 h (fun Jv h=>?_) (fun Jv h=>?_)
  ·refine ag hE 4 [] [] (kp [0,1,5,7,14,15,126,127]) (kq [0]) 49 pn ?_
   obtain ⟨Hd,h⟩:=af h
   obtain ⟨LX,h⟩:=af h
   obtain ⟨UO,h⟩:=af h
   refine ag hE 1 [] [] (kp [0,1,5,7,14,15,126,127]) (kq [0]) 273 (pc Hd (pc (show (bC uo (x3).toNat) < cr.length by have h1:=Hd;have h2:=LX;simp only [dp];omega) (pc UO pn))) ?_
   refine ag hE 1 [] [] (kp [0,1,5,7,14,126,127]) [(0,.arr 0 ((cr.set (bC uo (x3).toNat) (IntKind.u16.wrap ((IntKind.u32.wrap (fP+(IntKind.u32.wrap ((IntKind.u32.wrap ((cr.getD (bC uo (x3).toNat) 0)))+(IntKind.u32.wrap ((v.getD ((x3).toNat) 0)))))))))).length) (fun zi=>(cU .u16) ((cr.set (bC uo (x3).toNat) (IntKind.u16.wrap ((IntKind.u32.wrap (fP+(IntKind.u32.wrap ((IntKind.u32.wrap ((cr.getD (bC uo (x3).toNat) 0)))+(IntKind.u32.wrap ((v.getD ((x3).toNat) 0)))))))))).getD zi 0)))] 369 (pc Hd (pc (show (bC uo (x3).toNat) < cr.length by have h1:=Hd;have h2:=LX;simp only [dp];omega) (pc (ay cr (bC uo (x3).toNat) (IntKind.u16.wrap ((IntKind.u32.wrap (fP+(IntKind.u32.wrap ((IntKind.u32.wrap ((cr.getD (bC uo (x3).toNat) 0)))+(IntKind.u32.wrap ((v.getD ((x3).toNat) 0)))))))))) (pc (cA (cU .u16) 0 cr (bC uo (x3).toNat) (IntKind.u16.wrap ((IntKind.u32.wrap (fP+(IntKind.u32.wrap ((IntKind.u32.wrap ((cr.getD (bC uo (x3).toNat) 0)))+(IntKind.u32.wrap ((v.getD ((x3).toNat) 0)))))))))) pn)))) ?_
   refine ag hE 0 [] [] (kp [0,1,5,7,14,126,127]) (kq [0]) 417 (pc (show (0:Int)≤16 by decide) pn) ?_
   refine ag hE 1 [] [] (kp [0,1,5,7,14,126,127]) (kq [0]) 449 pn ?_
   exact cP hE 1 [] (kp [0,1,5,7,14,126,127]) (kq [0]) 1 pn (ih _ _ _ _ h E hE)
  ·obtain ⟨Tp,h⟩:=af h
   obtain ⟨OS,h⟩:=af h
   refine ag hE 1 [] [] (kp [7]) [(0,.arr 0 ((cr.set (bC uo v.length) (IntKind.u16.wrap ((cr.getD (bC uo v.length) 0)+(IntKind.u16.wrap (fP))))).length) (fun zi=>(cU .u16) ((cr.set (bC uo v.length) (IntKind.u16.wrap ((cr.getD (bC uo v.length) 0)+(IntKind.u16.wrap (fP))))).getD zi 0)))] 161 (pc Tp (pc (show (bC uo v.length) < cr.length by have h1:=Tp;have h2:=OS;simp only [dp];omega) (pc Tp (pc (show (bC uo v.length) < cr.length by have h1:=Tp;have h2:=OS;simp only [dp];omega) (pc (ay cr (bC uo v.length) (IntKind.u16.wrap ((cr.getD (bC uo v.length) 0)+(IntKind.u16.wrap (fP))))) (pc (cA (cU .u16) 0 cr (bC uo v.length) (IntKind.u16.wrap ((cr.getD (bC uo v.length) 0)+(IntKind.u16.wrap (fP))))) pn)))))) ?_
   exact cP hE 1 [] (kp [7]) (kq [0]) 1 pn (xC N _ _ _ h E hE)
theorem D6 (N uo un v q fuel):yK N uo un v q (gj N uo un v q fuel):=by
 induction fuel with
 | zero=>intro _ _ _ _ r h;rw [gj.eq_1] at h;cases h
 | succ fuel ih =>
  intro bE carry borrow x r h E hE
  rw [gj.eq_2] at h
  refine ag hE 1 [] [] (kp [0,1,5,7,9,10,84,85,86]) (kq [0]) 17 pn ?_
  refine du 1 86 h (fun jx h=>?_) (fun jx h=>?_)
  ·refine ag hE 4 [] [] (kp [0,1,5,7,9,10,11,84,85]) (kq [0]) 49 pn ?_
   refine ag hE 1 [] [] (kp [0,1,5,7,10,11,12,84,85]) (kq [0]) 81 pn ?_
   refine ag hE 2 [] [] (kp [0,1,5,7,10,11,12,84,85,91]) (kq [0]) 129 pn ?_
   refine du 0 91 h (fun rV h=>?_) (fun rV h=>?_)
   ·obtain ⟨MF,h⟩:=af h
    refine ag hE 0 [] [] (kp [0,1,5,7,10,11,12,84,85]) (kq [0]) 289 (pc MF pn) ?_
    exact cP hE 1 [] (kp [0,1,5,7,10,11,12,84,85]) (kq [0]) 1 pn (xB N _ _ _ _ _ _ _ _ ih _ _ h E hE)
   ·exact cP hE 2 [] (kp [0,1,5,7,10,11,12,84,85]) (kq [0]) 1 pn (xB N _ _ _ _ _ _ _ _ ih _ _ h E hE)
  ·refine ag hE 3 [] [] (kp [0,1,5,7,123]) (kq [0]) 49 pn ?_
   refine du 0 123 h (fun BS h=>?_) (fun BS h=>?_)
   ·refine ag hE 1 [] [] (kp [0,1,5,7]) (kq [0]) 97 pn ?_
    refine ag hE 1 [] [] (kp [0,1,5,7,14]) (kq [0]) 113 pn ?_
    refine ag hE 2 [] [] (kp [0,1,5,7,14,126,127]) (kq [0]) 145 pn ?_
    exact cP hE 2 [] (kp [0,1,5,7,14,126,127]) (kq [0]) 1 pn (D5 N _ _ _ _ N _ _ _ _ h E hE)
   ·exact cP hE 2 [] (kp [7]) (kq [0]) 1 pn (xC N _ _ _ h E hE)
theorem D7 (N uo un v C0 fuel):Gb N uo un v C0 (lf N uo un v C0 fuel):=by
 induction fuel with
 | zero=>intro _ _ r h;rw [lf.eq_1] at h;cases h
 | succ fuel ih =>
  intro q rest r h E hE
  rw [lf.eq_2] at h
  obtain ⟨c6,h⟩:=af h
  obtain ⟨c7,h⟩:=af h
  obtain ⟨c8,h⟩:=af h
  refine ag hE 2 [] [] (kp [0,1,5,7,8,72]) (kq [0]) 417 (pc (fun hg:(decide (rest < 65536))=true=>(pc hg pn)) (pc (fun hg:((decide (rest < 65536)) && ((decide (rest < 65536)) && (!(decide (q > 65535)))))=true=>(pc hg pn)) (pc (fun hg:((decide (rest < 65536)) && ((decide (rest < 65536)) && (!(decide (q > 65535)))))=true=>(pc hg (pc hg (pc (c6 hg) pn)))) (pc (fun hg:((decide (rest < 65536)) && ((decide (rest < 65536)) && (!(decide (q > 65535)))))=true=>(pc hg pn)) (pc (fun hg:((decide (rest < 65536)) && ((decide (rest < 65536)) && (!(decide (q > 65535)))))=true=>(pc hg pn)) (pc (fun hg:((decide (rest < 65536)) && ((decide (rest < 65536)) && (!(decide (q > 65535)))))=true=>(pc hg (pc hg pn))) (pc (fun hg:((decide (rest < 65536)) && ((decide (rest < 65536)) && (!(decide (q > 65535)))))=true=>(pc hg (pc (show (0:Int)≤16 by decide) pn))) (pc (fun hg:((decide (rest < 65536)) && ((decide (rest < 65536)) && (!(decide (q > 65535)))))=true=>(pc hg pn)) (pc (fun hg:((decide (rest < 65536)) && ((decide (rest < 65536)) && (!(decide (q > 65535)))))=true=>(pc hg (pc hg (pc (c7 hg) pn)))) (pc (fun hg:((decide (rest < 65536)) && ((decide (rest < 65536)) && (!(decide (q > 65535)))))=true=>(pc hg (pc (show (bC uo (ai (((v.length:Nat):Int) - 2)).toNat) < C0.length by have h1:=(c7 hg);have h2:=(c8 hg);simp only [dp];omega) pn))) (pc (fun hg:((decide (rest < 65536)) && ((decide (rest < 65536)) && (!(decide (q > 65535)))))=true=>(pc hg pn)) (pc (fun hg:((decide (rest < 65536)) && ((decide (rest < 65536)) && (!(decide (q > 65535)))))=true=>(pc hg (pc hg pn))) (pc (fun hg:((decide (rest < 65536)) && ((decide (rest < 65536)) && (!(decide (q > 65535)))))=true=>(pc hg (pc hg pn))) (pc (fun hg:(decide (rest < 65536))=true=>(pc hg (pc hg (pc (fun hq:(!(decide (q > 65535)))=true=>(pc (show ((decide (rest < 65536)) && ((decide (rest < 65536)) && (!(decide (q > 65535)))))=true from (jz hg (jz hg hq))) pn)) pn)))) (pc (fun hq:(decide (rest < 65536))=true=>(pc hq pn)) pn))))))))))))))) ?_
  refine du 0 72 h (fun ee h=>?_) (fun ee h=>?_)
  ·refine ag hE 3 [] [] (kp [0,1,5,7,8]) (kq [0]) 465 pn ?_
   obtain ⟨c9,h⟩:=af h
   refine ag hE 0 [] [] (kp [0,1,5,7,8]) (kq [0]) 609 (pc c9 pn) ?_
   exact cP hE 2 [] (kp [0,1,5,7,8]) (kq [0]) 1 pn (ih _ _ _ h E hE)
  ·refine ag hE 2 [] [] (kp [0,1,5,7,9,10]) (kq [0]) 449 pn ?_
   refine ag hE 2 [] [] (kp [0,1,5,7,9,10,84,85]) (kq [0]) 497 pn ?_
   exact cP hE 2 [] (kp [0,1,5,7,9,10,84,85]) (kq [0]) 1 pn (D6 N _ _ _ _ N _ _ _ _ _ h E hE)
theorem Jw (N uo un v C0 r) (h:vL N uo un v C0=some r):Sd 136 [(.os 0 uo un),(eU v)] [(0,aU C0)] 1 (w9 r.1) [(0,aU r.2)]:=by
 unfold vL at h
 refine im (fu:=Tryz.f136) (c:=xT 1) (nt:=161) (fun hm=>absurd hm (by decide)) ?_
 intro E hE
 refine ag hE 1 [] [] (kp [0,1]) (kq [0]) 17 pn ?_
 refine ag hE 1 [] [] (kp [0,1,5]) (kq [0]) 65 pn ?_
 obtain ⟨c,h⟩:=af h
 obtain ⟨c2,h⟩:=af h
 obtain ⟨c3,h⟩:=af h
 refine ag hE 1 [] [] (kp [0,1,5,6]) (kq [0]) 289 (pc c (pc (show (bC uo v.length) < C0.length by have h1:=c;have h2:=c2;simp only [dp];omega) (pc (show (0:Int)≤16 by decide) (pc c3 (pc (show (bC uo (ai (((v.length:Nat):Int) - 1)).toNat) < C0.length by have h1:=c3;have h2:=c2;simp only [dp];omega) pn))))) ?_
 obtain ⟨c4,h⟩:=af h
 obtain ⟨c5,h⟩:=af h
 refine ag hE 1 [] [] (kp [0,1,5,7,8]) (kq [0]) 577 (pc c4 (pc c5 (pc c4 (pc c5 pn)))) ?_
 exact cP hE 3 [] (kp [0,1,5,7,8]) (kq [0]) 1 pn (D7 N _ _ _ _ N _ _ _ h E hE)
noncomputable abbrev MG:=cl Tryz.f124
def D8 (N:Nat) (b:List Int) (bz:Int) (fU:(List Int)) (K:(List Int)→(List Int)→Int→Option ((List Int)×(List Int))):Prop:=∀ (q:List Int) (u:List Int) (j:Int) (r:(List Int)×(List Int)),K q u j=some r→∀ E,bk E 0→aG Tryz.prog E 124 109 (bc E [] (.tup [(eU r.1),(eU r.2)])) [.code (MG 4084),.inLoop (MG 4084),.inBlock 0,.code (MG 511)] ⟨[(4,(.os 0 0 q.length)),(8,(aI bz)),(9,(.os 1 0 u.length)),(10,(.os 2 0 (b.length - 0))),(11,(aI (((b.length - 0):Nat):Int))),(12,(aI j))],[(0,aU q),(1,aU u),(2,aU fU)],3⟩
def D9 (N:Nat) (b:List Int) (bz:Int) (q:List Int) (u:List Int) (K:(List Int)→Int→Option ((List Int)×(List Int))):Prop:=∀ (vr:List Int) (x:Int) (r:(List Int)×(List Int)),K vr x=some r→∀ E,bk E 0→aG Tryz.prog E 124 109 (bc E [] (.tup [(eU r.1),(eU r.2)])) [.code (MG 16372),.inLoop (MG 16372),.inBlock 2,.code (MG 2047)] ⟨[(4,(.os 0 0 q.length)),(5,(.os 1 0 vr.length)),(8,(aI bz)),(9,(.os 2 0 u.length)),(81,(aI (((b.length - 0):Nat):Int))),(82,(aI x))],[(0,aU q),(1,aU vr),(2,aU u)],3⟩
theorem C6 (N b bz q u fuel):D9 N b bz q u (j5 N b bz q u fuel):=by
 induction fuel with
 | zero=>intro _ _ r h;rw [j5.eq_1] at h;cases h
 | succ fuel ih =>
  intro vr x r h E hE
  rw [j5.eq_2] at h
  refine ag hE 1 [] [] (kp [4,5,8,9,81,82,83]) (kq [0,1,2]) 19 pn ?_
  refine du 1 83 h (fun BS h=>?_) (fun BS h=>?_)
  ·refine ag hE 4 [] [] (kp [4,5,8,9,13,81,82]) (kq [0,1,2]) 51 pn ?_
   obtain ⟨Iw,h⟩:=af h
   obtain ⟨Hd,h⟩:=af h
   obtain ⟨LX,h⟩:=af h
   obtain ⟨UO,h⟩:=af h
   refine ag hE 0 [] [] (kp [4] ++ [(5,.jq ((vr.set ((x).toNat) (IntKind.u16.wrap ((oB .u32 (tw .u32 (IntKind.u32.wrap ((u.getD ((x).toNat) 0))) (hO .u32 (IntKind.u32.wrap ((u.getD ((ai (x+1)).toNat) 0))) 16)) bz)))).length))] ++ kp [8,9,81,82]) (kq [0] ++ [(1,.arr 1 ((vr.set ((x).toNat) (IntKind.u16.wrap ((oB .u32 (tw .u32 (IntKind.u32.wrap ((u.getD ((x).toNat) 0))) (hO .u32 (IntKind.u32.wrap ((u.getD ((ai (x+1)).toNat) 0))) 16)) bz)))).length) (fun zi=>(cU .u16) ((vr.set ((x).toNat) (IntKind.u16.wrap ((oB .u32 (tw .u32 (IntKind.u32.wrap ((u.getD ((x).toNat) 0))) (hO .u32 (IntKind.u32.wrap ((u.getD ((ai (x+1)).toNat) 0))) 16)) bz)))).getD zi 0)))] ++ kq [2]) 371 (pc Iw (pc (dP Iw) (pc Hd (pc (dP Hd) (pc (show (0:Int)≤16 by decide) (pc LX (pc UO (pc (dP UO) (pc (ay vr ((x).toNat) (IntKind.u16.wrap ((oB .u32 (tw .u32 (IntKind.u32.wrap ((u.getD ((x).toNat) 0))) (hO .u32 (IntKind.u32.wrap ((u.getD ((ai (x+1)).toNat) 0))) 16)) bz)))) (pc (ay vr ((x).toNat) (IntKind.u16.wrap ((oB .u32 (tw .u32 (IntKind.u32.wrap ((u.getD ((x).toNat) 0))) (hO .u32 (IntKind.u32.wrap ((u.getD ((ai (x+1)).toNat) 0))) 16)) bz)))) (pc (cA (cU .u16) 0 vr ((x).toNat) (IntKind.u16.wrap ((oB .u32 (tw .u32 (IntKind.u32.wrap ((u.getD ((x).toNat) 0))) (hO .u32 (IntKind.u32.wrap ((u.getD ((ai (x+1)).toNat) 0))) 16)) bz)))) pn))))))))))) ?_
   refine ag hE 1 [] [] (kp [4,5,8,9,81,82]) (kq [0,1,2]) 403 pn ?_
   exact cP hE 1 [] (kp [4,5,8,9,81,82]) (kq [0,1,2]) 3 pn (ih _ _ _ h E hE)
  ·obtain ⟨jU,Ea,h⟩:=aQ h
   obtain ⟨Mw,xc,h⟩:=aQ h
   refine ag hE 2 [(1,⟨[],true,(eU jU),[],0,true,none⟩),(3,⟨[],true,(eU Mw),[],0,true,none⟩)] [] (kp [4,5]) [] 115 (pc (fj _ _ _ Ea) (pc (z1 q.length) (pc (fj _ _ _ xc) (pc (z1 vr.length) pn)))) ?_
   obtain rfl:=cX h
   exact db hE 0 Tryz.f124 [] (kp [4,5]) [] 115 pn [] pn
theorem C7 (N b bz fU fuel):D8 N b bz fU (j6 N b bz fU fuel):=by
 induction fuel with
 | zero=>intro _ _ _ r h;rw [j6.eq_1] at h;cases h
 | succ fuel ih =>
  intro q u j r h E hE
  rw [j6.eq_2] at h
  refine ag hE 2 [] [] (kp [4,8,9,10,11,12,64]) (kq [0,1,2]) 35 pn ?_
  refine du 0 64 h (fun rV h=>?_) (fun rV h=>?_)
  ·obtain ⟨c5,h⟩:=af h
   obtain ⟨c6,h⟩:=af h
   obtain ⟨c7,h⟩:=af h
   obtain ⟨c8,h⟩:=af h
   obtain ⟨cO,Eb,h⟩:=aQ h
   obtain ⟨c9,h⟩:=af h
   obtain ⟨MF,h⟩:=af h
   refine ag hE 3 [(10,⟨[1],false,(w9 cO.1),[(0,aU cO.2)],0,false,none⟩)] [] ([(4,.jq ((q.set ((j).toNat) cO.1).length))] ++ kp [8] ++ [(9,.jq (cO.2.length))] ++ kp [10,11,12]) ([(0,.arr 0 ((q.set ((j).toNat) cO.1).length) (fun zi=>(cU .u16) ((q.set ((j).toNat) cO.1).getD zi 0)))] ++ kq [1,2]) 243 (pc c5 (pc c6 (pc c7 (pc (show Sd 136 [(.os 0 ((j).toNat) ((ai ((ai (j+(((b.length - 0):Nat):Int)))+1)).toNat - (j).toNat)),(.sl (b.length - 0) (fun zi=>(cU .u16) (fU.getD (bC 0 zi) 0)))] [(0,aU u)] 1 (w9 cO.1) [(0,aU cO.2)] from (Sound.conv (Jw _ _ _ _ _ _ Eb) (.cons (Alike.refl _) (.cons (Alike.sl (yA fU 0 b.length c8) (fun zq eY=>EV (cU .u16) 0 fU 0 b.length zq eY)) .nil)))) (pc (show ∀ zi,zi < cO.2.length→AV.yc ((cU .u16) (cO.2.getD zi 0))=true from (fun _ _=>rfl)) (pc (show 0+(b.length - 0)≤fU.length by have:=c8;omega) (pc MF (pc (dP MF) (pc (ay q ((j).toNat) cO.1) (pc (show u.length=cO.2.length from (Eq.symm c9)) (pc (ay q ((j).toNat) cO.1) (pc (cA (cU .u16) 0 q ((j).toNat) cO.1) pn)))))))))))) ?_
   refine ag hE 1 [] [] (kp [4,8,9,10,11,12]) (kq [0,1,2]) 291 pn ?_
   exact cP hE 1 [] (kp [4,8,9,10,11,12]) (kq [0,1,2]) 3 pn (ih _ _ _ _ h E hE)
  ·obtain ⟨Iv,h⟩:=af h
   refine ag hE 2 [] [] (kp [4] ++ [(5,.jq ((List.replicate (b.length - 0) 0:List Int).length))] ++ kp [8,9,11]) (kq [0,1] ++ [(51,.arr 51 ((List.replicate (b.length - 0) 0:List Int).length) (fun zi=>(cU .u16) ((List.replicate (b.length - 0) 0:List Int).getD zi 0)))]) 83 (pc (show 0≤(((b.length - 0):Nat):Int) from Iv.1) (pc (show (((b.length - 0):Nat):Int)≤(((b.length - 0):Nat):Int) from (Int.le_refl _)) (pc (show (2:Int) * (((b.length - 0):Nat):Int)≤281474976710656 from Iv.2.1) (pc (show (((b.length - 0):Nat):Int)≤9223372036854775807 from Iv.2.2) (pc (show (b.length - 0)=(List.replicate (b.length - 0) 0:List Int).length from (cN).symm) (pc (show (b.length - 0)=(List.replicate (b.length - 0) 0:List Int).length from (cN).symm) (pc (show ∀ zi,zi < (List.replicate (b.length - 0) 0:List Int).length→(fun zi=>(cU .u16) ((List.replicate (b.length - 0) 0:List Int).getD zi 0)) zi=(fun _=>[(w9 0)]) zi from (fun zq eY=>sL (cU .u16) 0 0 (b.length - 0) zq eY)) pn))))))) ?_
   refine ag hE 2 [] [] (kp [4,5,8,9,81,82]) (kq [0,1,51]) 115 pn ?_
   exact cP hE 2 [] (kp [4,5,8,9,81,82]) (kq [0] ++ [(1,.ah 51),(2,.ah 1)]) 3 pn (C6 N _ _ _ _ N _ _ _ h E hE)
theorem u5 (N a b r) (h:pk N a b=some r):Sd 124 [(eU a),(eU b)] [] 0 (.tup [(eU r.1),(eU r.2)]) []:=by
 unfold pk at h
 refine im (fu:=Tryz.f124) (c:=MG 1) (nt:=109) (fun hm=>rfl) ?_
 intro E hE
 refine ag hE 1 [] [] (kp [0,1]) [] 32 pn ?_
 obtain ⟨kB,hr,h⟩:=aQ h
 refine ag hE 2 [(2,oT (aI kB))] [] (kp [0,1,17]) [] 96 (pc (yH _ _ _ _ hr) pn) ?_
 refine du 0 17 h (fun ee h=>?_) (fun ee h=>?_)
 ·obtain ⟨AH,eX,h⟩:=aQ h
  refine ag hE 1 [(1,oT (eU AH))] [] (kp [4,5]) [] 160 (pc (lO _ _ _ eX) pn) ?_
  obtain rfl:=cX h
  exact db hE 0 Tryz.f124 [] ([(4,.sl (([]:List Int).length) (fun zi=>(cU .u16) (([]:List Int).getD zi 0)))] ++ kp [5]) [] 160 (pc (Eq.refl 0) pn) [] pn
 ·refine ag hE 3 [] [] (kp [0,1,22]) [] 144 pn ?_
  refine du 0 22 h (fun jx h=>?_) (fun jx h=>?_)
  ·obtain ⟨c,h⟩:=af h
   obtain ⟨AI,kE,h⟩:=aQ h
   refine ag hE 1 [(4,oT (.tup [(eU AI.1),(w9 AI.2)]))] [] (kp [6,7]) [] 304 (pc c (pc (Ju _ _ _ _ kE) pn)) ?_
   obtain ⟨cb,nu,h⟩:=aQ h
   refine ag hE 1 [(3,⟨[],true,(eU cb),[],0,true,none⟩)] [] (kp [4,5]) [] 400 (pc (show Sd 122 [(.sl 1 (fun zi=>(fun zi=>([[(w9 AI.2)]]:List (List AV)).getD zi []) (bC 0 zi)))] [] 0 (eU cb) [] from (Sound.conv (fj _ _ _ nu) (.cons (Alike.sl rfl (fun zq eY=>bB (cU .u16) 0 ([AI.2]:List Int) zq eY)) .nil))) (pc (z1 1) pn)) ?_
   obtain rfl:=cX h
   exact db hE 0 Tryz.f124 [] (kp [4,5]) [] 400 pn [] pn
  ·obtain ⟨c2,h⟩:=af h
   obtain ⟨bz,rX,h⟩:=aQ h
   refine ag hE 2 [(6,oT (aI bz))] [] (kp [0,1,8]) [] 272 (pc c2 (pc (ru _ _ _ rX) pn)) ?_
   obtain ⟨eR,xU,h⟩:=aQ h
   obtain ⟨fU,yL,h⟩:=aQ h
   obtain ⟨c3,h⟩:=af h
   refine ag hE 1 [(2,⟨[],true,(.os 0 0 eR.length),[(0,aU eR)],0,false,none⟩),(5,⟨[],true,(.os 0 0 fU.length),[(0,aU fU)],0,false,none⟩)] [] (kp [8,9,10]) (kq [304,352]) 448 (pc (yJ _ _ _ _ xU) (pc (yJ _ _ _ _ yL) (pc c3 (pc (show 0≤((b.length:Nat):Int) from (Int.natCast_nonneg _)) pn)))) ?_
   refine ag hE 1 [] [] (kp [8,9,10,11]) (kq [304,352]) 496 pn ?_
   obtain ⟨c4,h⟩:=af h
   refine ag hE 1 [] [] ([(4,.jq ((List.replicate ((ai (((eR.length:Nat):Int) - (((b.length - 0):Nat):Int))).toNat) 0:List Int).length))] ++ kp [8,9,10,11]) (kq [304,352] ++ [(560,.arr 560 ((List.replicate ((ai (((eR.length:Nat):Int) - (((b.length - 0):Nat):Int))).toNat) 0:List Int).length) (fun zi=>(cU .u16) ((List.replicate ((ai (((eR.length:Nat):Int) - (((b.length - 0):Nat):Int))).toNat) 0:List Int).getD zi 0)))]) 592 (pc (show 0≤(ai (((eR.length:Nat):Int) - (((b.length - 0):Nat):Int))) from c4.1) (pc (show (ai (((eR.length:Nat):Int) - (((b.length - 0):Nat):Int)))≤(ai (((eR.length:Nat):Int) - (((b.length - 0):Nat):Int))) from (Int.le_refl _)) (pc (show (2:Int) * (ai (((eR.length:Nat):Int) - (((b.length - 0):Nat):Int)))≤281474976710656 from c4.2.1) (pc (show (ai (((eR.length:Nat):Int) - (((b.length - 0):Nat):Int)))≤9223372036854775807 from c4.2.2) (pc (show (ai (((eR.length:Nat):Int) - (((b.length - 0):Nat):Int))).toNat=(List.replicate ((ai (((eR.length:Nat):Int) - (((b.length - 0):Nat):Int))).toNat) 0:List Int).length from (cN).symm) (pc (show (ai (((eR.length:Nat):Int) - (((b.length - 0):Nat):Int))).toNat=(List.replicate ((ai (((eR.length:Nat):Int) - (((b.length - 0):Nat):Int))).toNat) 0:List Int).length from (cN).symm) (pc (show ∀ zi,zi < (List.replicate ((ai (((eR.length:Nat):Int) - (((b.length - 0):Nat):Int))).toNat) 0:List Int).length→(fun zi=>(cU .u16) ((List.replicate ((ai (((eR.length:Nat):Int) - (((b.length - 0):Nat):Int))).toNat) 0:List Int).getD zi 0)) zi=(fun _=>[(w9 0)]) zi from (fun zq eY=>sL (cU .u16) 0 0 ((ai (((eR.length:Nat):Int) - (((b.length - 0):Nat):Int))).toNat) zq eY)) pn))))))) ?_
   refine ag hE 2 [] [] (kp [4,8,9,10,11,12]) (kq [304,352,560]) 688 pn ?_
   exact cP hE 2 [] (kp [4,8,9,10,11,12]) [(0,.ah 560),(1,.ah 304),(2,.ah 352)] 3 pn (C7 N _ _ _ N _ _ _ _ h E hE)
noncomputable abbrev Hp:=cl Tryz.f123
def xD (N:Nat) (K:(List Int)→(List Int)→Option ((List Int))):Prop:=∀ (a2:List Int) (b2:List Int) (r:(List Int)),K a2 b2=some r→∀ E,bk E 0→aG Tryz.prog E 123 45 (bc E [] (eU r)) [.code (Hp 24),.inLoop (Hp 24),.inBlock 0,.code (Hp 7)] ⟨[(0,(eU a2)),(1,(eU b2))],[],0⟩
def Ec (N:Nat) (K:Int→Int→Option ((List Int))):Prop:=∀ (x:Int) (y:Int) (r:(List Int)),K x y=some r→∀ E,bk E 0→aG Tryz.prog E 123 45 (bc E [] (eU r)) [.code (Hp 25296),.inLoop (Hp 25296),.inBlock 2,.code (Hp 6325),.code (Hp 791),.inBlock 1,.inLoop (Hp 24),.inBlock 0,.code (Hp 7)] ⟨[(5,(Iu x)),(7,(Iu y))],[],0⟩
theorem C8 (N:Nat) (oW:(List Int)→(List Int)→Option ((List Int))) (OT:xD N oW) (fuel:Nat):Ec N (lC N oW fuel):=by
 induction fuel with
 | zero=>intro _ _ r h;rw [lC.eq_1] at h;cases h
 | succ fuel ih =>
  intro x y r h E hE
  rw [lC.eq_2] at h
  refine ag hE 2 [] [] (kp [5,7,29]) [] 32 pn ?_
  refine du 0 29 h (fun rV h=>?_) (fun rV h=>?_)
  ·obtain ⟨c,h⟩:=af h
   refine ag hE 2 [] [] (kp [5,7]) [] 128 (pc c pn) ?_
   exact cP hE 2 [] (kp [5,7]) [] 0 pn (ih _ _ _ h E hE)
  ·obtain ⟨tx,kE,h⟩:=aQ h
   refine ag hE 2 [(1,oT (eU tx))] [] (kp [4]) [] 80 (pc (tK _ _ _ kE) pn) ?_
   obtain rfl:=cX h
   exact db hE 0 Tryz.f123 [] (kp [4]) [] 80 pn [] pn
theorem C9 (N fuel):xD N (j7 N fuel):=by
 induction fuel with
 | zero=>intro _ _ r h;rw [j7.eq_1] at h;cases h
 | succ fuel ih =>
  intro a2 b2 r h E hE
  rw [j7.eq_2] at h
  refine ag hE 2 [] [] (kp [0,1,13]) [] 48 pn ?_
  refine du 0 13 h (fun ee h=>?_) (fun ee h=>?_)
  ·obtain ⟨Ip,hr,h⟩:=aQ h
   refine ag hE 3 [(1,oT (.tup [(Iu Ip.1),(aB Ip.2)]))] [] (kp [0,1,5,6]) [] 160 (pc (DR _ _ _ hr) pn) ?_
   obtain ⟨FZ,eX,h⟩:=aQ h
   refine ag hE 1 [(1,oT (.tup [(Iu FZ.1),(aB FZ.2)]))] [] (kp [0,1,5,6,7,8]) [] 272 (pc (DR _ _ _ eX) pn) ?_
   refine ag hE 2 [] [] (kp [0,1,5,7,27]) [] 336 (pc (fun hq:Ip.2=true=>(pc hq pn)) pn) ?_
   refine du 0 27 h (fun jx h=>?_) (fun jx h=>?_)
   ·exact cP hE 3 [] (kp [5,7]) [] 0 pn (C8 N _ ih N _ _ _ h E hE)
   ·obtain ⟨sM,nu,h⟩:=aQ h
    refine ag hE 2 [(2,oT (.tup [(eU sM.1),(eU sM.2)]))] [] (kp [1,10]) [] 464 (pc (u5 _ _ _ _ nu) pn) ?_
    refine ag hE 0 [] [] (kp [0,1]) [] 528 pn ?_
    exact cP hE 2 [] (kp [0,1]) [] 0 pn (ih _ _ _ h E hE)
  ·refine ag hE 2 [] [] (kp [4]) [] 80 pn ?_
   obtain rfl:=cX h
   exact db hE 0 Tryz.f123 [] (kp [4]) [] 80 pn [] pn
theorem Hq (N a b r) (h:wY N a b=some r):Sd 123 [(eU a),(eU b)] [] 0 (eU r) []:=by
 unfold wY at h
 refine im (fu:=Tryz.f123) (c:=Hp 1) (nt:=45) (fun hm=>rfl) ?_
 intro E hE
 refine ag hE 1 [] [] (kp [0,1]) [] 16 pn ?_
 exact cP hE 3 [] (kp [0,1]) [] 0 pn (C9 N N _ _ _ h E hE)
noncomputable abbrev VS:=cl Tryz.f98
def BT (N:Nat) (a:bP) (b:bP) (K:(List Int)→(List Int)→Option (aa)):Prop:=∀ (x:List Int) (y:List Int) (r:aa),K x y=some r→∀ E,bk E 0→aG Tryz.prog E 98 48 (bc E [] (.agg (aj r))) [.code (VS 62),.code (VS 63)] ⟨[(2,(.op 0 0 0)),(3,(.op 1 0 0)),(4,(.op 2 0 0)),(5,(eU x)),(6,(eU y))],[(0,vO 2 (lN a)),(1,vO 2 (lN b)),(2,vO 4 [(aB false),.nil,(aB false),.nil])],3⟩
theorem tL (N a b):BT N a b (mN N a b):=by
 intro x y r h E hE
 unfold mN at h
 obtain ⟨Mt,xU,h⟩:=aQ h
 obtain ⟨FY,yL,h⟩:=aQ h
 refine ag hE 0 [(6,oT (.agg (lN Mt))),(8,oT (.agg (lN FY)))] [] (kp [4]) (kq [2]) 179 (pc o1 (pc o1 (pc (ki _ _ _ _ xU) (pc (ki _ _ _ _ yL) (pc o1 pn))))) ?_
 obtain rfl:=cX h
 exact db hE 0 Tryz.f98 [] (kp [4]) [(16,.ah 2)] 179 pn [16] (pc o1 pn)
theorem jM (N a b r) (h:jg N a b=some r):Sd 98 [(.agg (lN a)),(.agg (lN b))] [] 0 (.agg (aj r)) []:=by
 unfold jg at h
 refine im (fu:=Tryz.f98) (c:=VS 1) (nt:=48) (fun hm=>rfl) ?_
 intro E hE
 refine ag hE 1 [] [] (kp [2,3,4]) (kq [0,16,32]) 48 pn ?_
 obtain ⟨cb,hr,h⟩:=aQ h
 obtain ⟨jU,eX,h⟩:=aQ h
 refine ag hE 1 [(2,oT (eU cb)),(5,oT (eU jU))] [] (kp [2,3,4,5,6]) (kq [0,16,32]) 176 (pc o1 (pc (fj _ _ _ hr) (pc o1 (pc (fj _ _ _ eX) pn)))) ?_
 obtain ⟨oX,kE,h⟩:=aQ h
 refine ag hE 1 [(2,oT (eU oX))] [] (kp [2,3,4,5,6,7]) (kq [0,16,32]) 240 (pc (Hq _ _ _ _ kE) pn) ?_
 obtain ⟨c,h⟩:=af h
 refine ag hE 2 [] [] (kp [2,3,4,5,6,7,25]) (kq [0,16,32]) 384 (pc (fun hg:(!(((oX.length:Nat):Int) != 1))=true=>(pc hg (pc (c hg) pn))) (pc (fun hg:(!(((oX.length:Nat):Int) != 1))=true=>(pc hg pn)) (pc (fun hg:(!(((oX.length:Nat):Int) != 1))=true=>(pc hg pn)) (pc (fun hq:(!(((oX.length:Nat):Int) != 1))=true=>(pc hq pn)) pn)))) ?_
 refine du 0 25 h (fun ee h=>?_) (fun ee h=>?_)
 ·obtain ⟨sM,nu,h⟩:=aQ h
  refine ag hE 1 [(2,oT (.tup [(eU sM.1),(eU sM.2)]))] [] (kp [2,3,4,5,6,7]) (kq [0,16,32]) 496 (pc (u5 _ _ _ _ nu) pn) ?_
  obtain ⟨BH,rX,h⟩:=aQ h
  refine ag hE 0 [(2,oT (.tup [(eU BH.1),(eU BH.2)]))] [] (kp [2,3,4,5,6]) (kq [0,16,32]) 608 (pc (u5 _ _ _ _ rX) pn) ?_
  exact cP hE 1 [] (kp [2,3,4,5,6]) (kq [0] ++ [(1,.ah 16),(2,.ah 32)]) 3 pn (tL N _ _ _ _ _ h E hE)
 ·exact cP hE 2 [] (kp [2,3,4,5,6]) (kq [0] ++ [(1,.ah 16),(2,.ah 32)]) 3 pn (tL N _ _ _ _ _ h E hE)
noncomputable abbrev aah:=cl Tryz.f89
theorem BU (N a r) (h:qH N a=some r):Sd 89 [(.agg (lN a))] [] 0 (.agg (aj r)) []:=by
 unfold qH at h
 refine im (fu:=Tryz.f89) (c:=aah 1) (nt:=7) (fun hm=>rfl) ?_
 intro E hE
 refine ag hE 1 [] [] (kp [1,2]) (kq [0,16]) 32 pn ?_
 obtain ⟨Cr,hr,h⟩:=aQ h
 refine ag hE 1 [(3,⟨[],true,(.agg (aj Cr)),[],0,true,none⟩)] [] (kp [2]) (kq [16]) 112 (pc o1 (pc (show Sd 98 [(.agg (lN a)),(.agg [(aB false),(.sl 1 (fun zi=>(fun zi=>([[(w9 1)]]:List (List AV)).getD zi []) (bC 0 zi)))])] [] 0 (.agg (aj Cr)) [] from (Sound.conv (jM _ _ _ _ hr) (.cons (Alike.refl _) (.cons (Alike.agg (.cons (Alike.refl _) (.cons (Alike.sl rfl (fun zq eY=>bB (cU .u16) 0 ([1]:List Int) zq eY)) .nil))) .nil)))) (pc (z1 1) (pc o1 pn)))) ?_
 obtain rfl:=cX h
 exact db hE 0 Tryz.f89 [] (kp [2]) (kq [16]) 112 pn [16] (pc o1 pn)
noncomputable abbrev C_6:=cl Tryz.f68
theorem g8 (N n r) (h:gx N n=some r):Sd 68 [(aI n)] [] 0 (.agg (aj r)) []:=by
 unfold gx at h
 refine im (fu:=Tryz.f68) (c:=C_6 1) (nt:=6) (fun hm=>rfl) ?_
 intro E hE
 refine ag hE 1 [] [] (kp [0,2]) (kq [0]) 16 pn ?_
 obtain ⟨Hc,hr,h⟩:=aQ h
 obtain ⟨AJ,eX,h⟩:=aQ h
 refine ag hE 1 [(1,oT (.agg (lN Hc))),(2,oT (.agg (aj AJ)))] [] (kp [2]) (kq [0]) 80 (pc (zJ _ _ _ hr) (pc (BU _ _ _ eX) (pc o1 pn))) ?_
 obtain rfl:=cX h
 exact db hE 0 Tryz.f68 [] (kp [2]) [(16,.ah 0)] 80 pn [16] (pc o1 pn)
noncomputable abbrev aai:=cl Tryz.f105
theorem uz (N a r) (h:tz N a=some r):Sd 105 [(.agg (lN a))] [] 0 (aI r) []:=by
 unfold tz at h
 refine im (fu:=Tryz.f105) (c:=aai 1) (nt:=12) (fun hm=>rfl) ?_
 intro E hE
 refine ag hE 1 [] [] (kp [1]) (kq [0]) 32 pn ?_
 obtain ⟨cb,hr,h⟩:=aQ h
 refine ag hE 3 [(2,oT (eU cb))] [] (kp [1,3]) (kq [0]) 128 (pc o1 (pc (fj _ _ _ hr) pn)) ?_
 refine du 0 3 h (fun ee h=>?_) (fun ee h=>?_)
 ·refine ag hE 1 [] [] (kp [2]) [] 144 pn ?_
  obtain rfl:=cX h
  exact db hE 0 Tryz.f105 [] (kp [2]) [] 144 pn [] pn
 ·refine ag hE 1 [] [] (kp [9]) [] 176 (pc o1 pn) ?_
  refine du 0 9 h (fun jx h=>?_) (fun jx h=>?_)
  ·refine ag hE 1 [] [] (kp [2]) [] 192 pn ?_
   obtain rfl:=cX h
   exact db hE 0 Tryz.f105 [] (kp [2]) [] 192 pn [] pn
  ·refine ag hE 3 [] [] (kp [2]) [] 192 pn ?_
   obtain rfl:=cX h
   exact db hE 0 Tryz.f105 [] (kp [2]) [] 192 pn [] pn
noncomputable abbrev aaj:=cl Tryz.f97
theorem j3 (N x r) (h:kT N x=some r):Sd 97 [(.agg (aj x))] [] 0 (.agg (lN r)) []:=by
 unfold kT at h
 refine im (fu:=Tryz.f97) (c:=aaj 1) (nt:=11) (fun hm=>rfl) ?_
 intro E hE
 refine ag hE 1 [] [] (kp [1,2]) (kq [0,16]) 32 pn ?_
 obtain ⟨yD,hr,h⟩:=aQ h
 refine ag hE 2 [(2,oT (aI yD))] [] (kp [1,2,6]) (kq [0,16]) 96 (pc o1 (pc (uz _ _ _ hr) pn)) ?_
 refine du 0 6 h (fun ee h=>?_) (fun ee h=>?_)
 ·refine ag hE 1 [] [] (kp [2]) [(16,.var 16 [.ah,.jq (([1]:List Int).length)]),(96,.arr 96 (([1]:List Int).length) (fun zi=>(cU .u16) (([1]:List Int).getD zi 0)))] 144 (pc o1 (pc (Eq.refl 1) (pc (Eq.refl 1) (pc (show ∀ zi,zi < ([1]:List Int).length→(fun zi=>(cU .u16) (([1]:List Int).getD zi 0)) zi=(fun zi=>([[(w9 1)]]:List (List AV)).getD zi []) zi from (fun zq eY=>bB (cU .u16) 0 ([1]:List Int) zq eY)) pn)))) ?_
  obtain rfl:=cX h
  exact db hE 0 Tryz.f97 [96] (kp [2]) [(16,.var 16 [.ah,.sl (([1]:List Int).length) (fun zi=>(cU .u16) (([1]:List Int).getD zi 0))])] 144 (pc (Eq.refl (([1]:List Int).length)) (pc (z1 (([1]:List Int).length)) (pc (aZ (([1]:List Int).length) (fun zi=>(cU .u16) (([1]:List Int).getD zi 0))) pn))) [16] (pc o1 pn)
 ·refine ag hE 2 [] [] (kp [2]) (kq [16]) 144 (pc o1 (pc o1 pn)) ?_
  obtain rfl:=cX h
  exact db hE 0 Tryz.f97 [] (kp [2]) (kq [16]) 144 pn [16] (pc o1 pn)
noncomputable abbrev aak:=cl Tryz.f69
theorem qY (N x r) (h:lD N x=some r):Sd 69 [(.agg (aj x))] [] 0 (.agg (aj r)) []:=by
 unfold lD at h
 refine im (fu:=Tryz.f69) (c:=aak 1) (nt:=8) (fun hm=>rfl) ?_
 intro E hE
 refine ag hE 1 [] [] (kp [1,2]) (kq [0,16]) 32 pn ?_
 obtain ⟨jV,hr,h⟩:=aQ h
 obtain ⟨Cr,eX,h⟩:=aQ h
 refine ag hE 1 [(3,oT (.agg (lN jV))),(4,oT (.agg (aj Cr)))] [] (kp [2]) (kq [16]) 128 (pc o1 (pc o1 (pc (j3 _ _ _ hr) (pc (jM _ _ _ _ eX) (pc o1 pn))))) ?_
 obtain rfl:=cX h
 exact db hE 0 Tryz.f69 [] (kp [2]) (kq [16]) 128 pn [16] (pc o1 pn)
noncomputable abbrev aal:=cl Tryz.f104
theorem Ed (N a r) (h:sN N a=some r):Sd 104 [(.agg (lN a))] [] 0 (.agg (lN r)) []:=by
 unfold sN at h
 refine im (fu:=Tryz.f104) (c:=aal 1) (nt:=9) (fun hm=>rfl) ?_
 intro E hE
 refine ag hE 1 [] [] (kp [1,2]) (kq [0,16]) 32 pn ?_
 refine ag hE 1 [] [] (kp [2]) (kq [16]) 144 (pc o1 (pc o1 (pc o1 pn))) ?_
 obtain rfl:=cX h
 exact db hE 0 Tryz.f104 [] (kp [2]) (kq [16]) 144 pn [16] (pc o1 pn)
noncomputable abbrev aam:=cl Tryz.f70
theorem kV (N x r) (h:gk N x=some r):Sd 70 [(.agg (aj x))] [] 0 (.agg (aj r)) []:=by
 unfold gk at h
 refine im (fu:=Tryz.f70) (c:=aam 1) (nt:=9) (fun hm=>rfl) ?_
 intro E hE
 refine ag hE 1 [] [] (kp [1,2]) (kq [0,16]) 32 pn ?_
 obtain ⟨CQ,hr,h⟩:=aQ h
 obtain ⟨jV,eX,h⟩:=aQ h
 obtain ⟨Cr,kE,h⟩:=aQ h
 refine ag hE 1 [(2,oT (.agg (lN CQ))),(4,oT (.agg (lN jV))),(5,oT (.agg (aj Cr)))] [] (kp [2]) (kq [16]) 144 (pc o1 (pc (Ed _ _ _ hr) (pc o1 (pc (j3 _ _ _ eX) (pc (jM _ _ _ _ kE) (pc o1 pn)))))) ?_
 obtain rfl:=cX h
 exact db hE 0 Tryz.f70 [] (kp [2]) (kq [16]) 144 pn [16] (pc o1 pn)
noncomputable abbrev Gg:=cl Tryz.f33
def Gh (N:Nat) (n:Int) (l:List ab) (ax:aa) (K:(List Int)→Int→Option (l7)):Prop:=∀ (t:List Int) (x:Int) (r:l7),K t x=some r→∀ E,bk E 0→aG Tryz.prog E 33 157 (bc E [(0,vN 12 [(aI r.xQ),(aI r.xR),(.os 1 0 r.kK.length),(.os 2 0 r.nB.length),(.os 3 0 r.J6.length),(.os 4 0 r.J7.length),(.os 5 0 r.fa.length),(aB r.ak.fN.fG),(eU r.ak.fN.fL),(aB r.ak.fD.fG),(eU r.ak.fD.fL),(aI r.cy)]),(1,aO 1 cI 0 r.kK),(2,aO 1 cI 0 r.nB),(3,aM 4 aj aa.d r.J6),(4,aO 4 aj aa.d r.J7),(5,aO 4 aj aa.d r.fa)] (.op 0 0 0)) [.code (Gg 116),.inLoop (Gg 116),.inBlock 0,.code (Gg 15)] ⟨[(0,(aI n)),(1,(aH om ab.d l)),(5,(.op 0 0 0)),(25,(aI (ai (2 * n)))),(26,(aI x))],[(0,vN 12 [(aI n),(aI ((l.length:Nat):Int)),.nil,(.os 1 0 t.length),.nil,.nil,.nil,(aB ax.fN.fG),(eU ax.fN.fL),(aB ax.fD.fG),(eU ax.fD.fL),(aI (ai ((ai (2 * n))+((l.length:Nat):Int))))]),(1,aO 1 cI 0 t)],2⟩
def tM (N:Nat) (n:Int) (l:List ab) (ax:aa) (t:List Int) (K:(List Int)→(List (List aa))→(List aa)→Int→Option (l7)):Prop:=∀ (t2:List Int) (t3:List (List aa)) (t4:List aa) (x2:Int) (r:l7),K t2 t3 t4 x2=some r→∀ E,bk E 0→aG Tryz.prog E 33 157 (bc E [(0,vN 12 [(aI r.xQ),(aI r.xR),(.os 1 0 r.kK.length),(.os 2 0 r.nB.length),(.os 3 0 r.J6.length),(.os 4 0 r.J7.length),(.os 5 0 r.fa.length),(aB r.ak.fN.fG),(eU r.ak.fN.fL),(aB r.ak.fD.fG),(eU r.ak.fD.fL),(aI r.cy)]),(1,aO 1 cI 0 r.kK),(2,aO 1 cI 0 r.nB),(3,aM 4 aj aa.d r.J6),(4,aO 4 aj aa.d r.J7),(5,aO 4 aj aa.d r.fa)] (.op 0 0 0)) [.code (Gg 500),.inLoop (Gg 500),.inBlock 2,.code (Gg 63)] ⟨[(0,(aI n)),(5,(.op 0 0 0)),(53,(aH om ab.d l)),(54,(aI ((l.length:Nat):Int))),(55,(aI x2))],[(0,vN 12 [(aI n),(aI ((l.length:Nat):Int)),(.os 1 0 t2.length),(.os 2 0 ((t ++ ([(ai ((ai (2 * n))+((l.length:Nat):Int)))]:List Int)).length)),(.os 3 0 t3.length),(.os 4 0 t4.length),.nil,(aB ax.fN.fG),(eU ax.fN.fL),(aB ax.fD.fG),(eU ax.fD.fL),(aI (ai ((ai (2 * n))+((l.length:Nat):Int))))]),(1,aO 1 cI 0 t2),(2,aO 1 cI 0 (t ++ ([(ai ((ai (2 * n))+((l.length:Nat):Int)))]:List Int))),(3,aM 4 aj aa.d t3),(4,aO 4 aj aa.d t4)],5⟩
def yM (N:Nat) (n:Int) (l:List ab) (ax:aa) (t:List Int) (t2:List Int) (t3:List (List aa)) (t4:List aa) (x2:Int) (K:(List aa)→Int→Option (l7)):Prop:=∀ (row:List aa) (x3:Int) (r:l7),K row x3=some r→∀ E,bk E 0→aG Tryz.prog E 33 157 (bc E [(0,vN 12 [(aI r.xQ),(aI r.xR),(.os 1 0 r.kK.length),(.os 2 0 r.nB.length),(.os 3 0 r.J6.length),(.os 4 0 r.J7.length),(.os 5 0 r.fa.length),(aB r.ak.fN.fG),(eU r.ak.fN.fL),(aB r.ak.fD.fG),(eU r.ak.fD.fL),(aI r.cy)]),(1,aO 1 cI 0 r.kK),(2,aO 1 cI 0 r.nB),(3,aM 4 aj aa.d r.J6),(4,aO 4 aj aa.d r.J7),(5,aO 4 aj aa.d r.fa)] (.op 0 0 0)) [.code (Gg 1025652),.inLoop (Gg 1025652),.inBlock 4,.code (Gg 128207),.inBlock 3,.code (Gg 4007),.inLoop (Gg 500),.inBlock 2,.code (Gg 63)] ⟨[(0,(aI n)),(5,(.op 0 0 0)),(8,(.op 5 0 0)),(9,(.os 6 0 row.length)),(53,(aH om ab.d l)),(54,(aI ((l.length:Nat):Int))),(55,(aI x2)),(77,(aI n)),(78,(aI x3))],[(0,vN 12 [(aI n),(aI ((l.length:Nat):Int)),(.os 1 0 ((t2 ++ ([(ai ((ai (2 * n))+x2))]:List Int)).length)),(.os 2 0 ((t ++ ([(ai ((ai (2 * n))+((l.length:Nat):Int)))]:List Int)).length)),(.os 3 0 t3.length),(.os 4 0 t4.length),.nil,(aB ax.fN.fG),(eU ax.fN.fL),(aB ax.fD.fG),(eU ax.fD.fL),(aI (ai ((ai (2 * n))+((l.length:Nat):Int))))]),(1,aO 1 cI 0 (t2 ++ ([(ai ((ai (2 * n))+x2))]:List Int))),(2,aO 1 cI 0 (t ++ ([(ai ((ai (2 * n))+((l.length:Nat):Int)))]:List Int))),(3,aM 4 aj aa.d t3),(4,aO 4 aj aa.d t4),(5,vO 5 (om (l.getD ((x2).toNat) ab.d))),(6,aO 4 aj aa.d row)],7⟩
def Gi (N:Nat) (n:Int) (l:List ab) (ax:aa) (t:List Int) (t2:List Int) (t3:List (List aa)) (t4:List aa) (x2:Int) (row:List aa) (x3:Int) (K:aa→Option (l7)):Prop:=∀ (c7:aa) (r:l7),K c7=some r→∀ E,bk E 0→aG Tryz.prog E 33 157 (bc E [(0,vN 12 [(aI r.xQ),(aI r.xR),(.os 1 0 r.kK.length),(.os 2 0 r.nB.length),(.os 3 0 r.J6.length),(.os 4 0 r.J7.length),(.os 5 0 r.fa.length),(aB r.ak.fN.fG),(eU r.ak.fN.fL),(aB r.ak.fD.fG),(eU r.ak.fD.fL),(aI r.cy)]),(1,aO 1 cI 0 r.kK),(2,aO 1 cI 0 r.nB),(3,aM 4 aj aa.d r.J6),(4,aO 4 aj aa.d r.J7),(5,aO 4 aj aa.d r.fa)] (.op 0 0 0)) [.code (Gg 131283559),.inBlock 5,.code (Gg 8205223),.inLoop (Gg 1025652),.inBlock 4,.code (Gg 128207),.inBlock 3,.code (Gg 4007),.inLoop (Gg 500),.inBlock 2,.code (Gg 63)] ⟨[(0,(aI n)),(5,(.op 0 0 0)),(8,(.op 5 0 0)),(9,(.os 6 0 row.length)),(10,(aI x3)),(11,(.op 7 0 0)),(53,(aH om ab.d l)),(54,(aI ((l.length:Nat):Int))),(55,(aI x2)),(77,(aI n)),(78,(aI x3))],[(0,vN 12 [(aI n),(aI ((l.length:Nat):Int)),(.os 1 0 ((t2 ++ ([(ai ((ai (2 * n))+x2))]:List Int)).length)),(.os 2 0 ((t ++ ([(ai ((ai (2 * n))+((l.length:Nat):Int)))]:List Int)).length)),(.os 3 0 t3.length),(.os 4 0 t4.length),.nil,(aB ax.fN.fG),(eU ax.fN.fL),(aB ax.fD.fG),(eU ax.fD.fL),(aI (ai ((ai (2 * n))+((l.length:Nat):Int))))]),(1,aO 1 cI 0 (t2 ++ ([(ai ((ai (2 * n))+x2))]:List Int))),(2,aO 1 cI 0 (t ++ ([(ai ((ai (2 * n))+((l.length:Nat):Int)))]:List Int))),(3,aM 4 aj aa.d t3),(4,aO 4 aj aa.d t4),(5,vO 5 (om (l.getD ((x2).toNat) ab.d))),(6,aO 4 aj aa.d row),(7,vO 4 (aj c7))],8⟩
theorem xE (N:Nat) (n:Int) (l:List ab) (ax:aa) (t:List Int) (t2:List Int) (t3:List (List aa)) (t4:List aa) (x2:Int) (row:List aa) (x3:Int) (p9:(List aa)→Int→Option (l7)) (eI:(List Int)→(List (List aa))→(List aa)→Int→Option (l7)) (Ee:yM N n l ax t t2 t3 t4 x2 p9) (o6:tM N n l ax t eI):Gi N n l ax t t2 t3 t4 x2 row x3 (n6 N n l ax t t2 t3 t4 x2 row x3 p9 eI):=by
 intro c7 r h E hE
 unfold n6 at h
 obtain ⟨bg,nu,h⟩:=aQ h
 obtain ⟨c8,h⟩:=af h
 obtain ⟨c9,h⟩:=af h
 refine ag hE 0 [(7,oT (.agg (aj bg)))] [] (kp [0,5,8] ++ [(9,.jq (((row.set ((x3).toNat) bg).set ((ai (n+x3)).toNat) c7).length))] ++ kp [53,54,55,77,78]) (kq [0,1,2,3,4,5] ++ [(6,.arr 6 (((row.set ((x3).toNat) bg).set ((ai (n+x3)).toNat) c7).length) (fun zi=>aj (((row.set ((x3).toNat) bg).set ((ai (n+x3)).toNat) c7).getD zi aa.d)))]) 216 (pc o1 (pc (kV _ _ _ nu) (pc o1 (pc c8 (pc (dP c8) (pc c9 (pc (dP c9) (pc (show row.length=((row.set ((x3).toNat) bg).set ((ai (n+x3)).toNat) c7).length from (nA (nA rfl))) (pc (show row.length=((row.set ((x3).toNat) bg).set ((ai (n+x3)).toNat) c7).length from (nA (nA rfl))) (pc (show ∀ zi,zi < ((row.set ((x3).toNat) bg).set ((ai (n+x3)).toNat) c7).length→(fun zi=>aj (((row.set ((x3).toNat) bg).set ((ai (n+x3)).toNat) c7).getD zi aa.d)) zi=((fun zm=>if zm=(ai (n+x3)).toNat then [(aB c7.fN.fG),(eU c7.fN.fL),(aB c7.fD.fG),(eU c7.fD.fL)] else ((fun zm=>if zm=(x3).toNat then [(aB bg.fN.fG),(eU bg.fN.fL),(aB bg.fD.fG),(eU bg.fD.fL)] else (fun zi=>aj (row.getD zi aa.d)) zm)) zm)) zi from (yB aj aa.d (row.set ((x3).toNat) bg) ((ai (n+x3)).toNat) c7 (yB aj aa.d row ((x3).toNat) bg (fun _ _=>rfl)))) pn)))))))))) ?_
 refine ag hE 1 [] [] (kp [0,5,8,9,53,54,55,77,78]) (kq [0,1,2,3,4,5,6]) 248 pn ?_
 exact cP hE 1 [] (kp [0,5,8,9,53,54,55,77,78]) (kq [0,1,2,3,4,5,6]) 7 pn (Ee _ _ _ h E hE)
theorem Ef (N:Nat) (n:Int) (l:List ab) (ax:aa) (t:List Int) (t2:List Int) (t3:List (List aa)) (t4:List aa) (x2:Int) (eI:(List Int)→(List (List aa))→(List aa)→Int→Option (l7)) (o6:tM N n l ax t eI) (fuel:Nat):yM N n l ax t t2 t3 t4 x2 (gl N n l ax t t2 t3 t4 x2 eI fuel):=by
 induction fuel with
 | zero=>intro _ _ r h;rw [gl.eq_1] at h;cases h
 | succ fuel ih =>
  intro row x3 r h E hE
  rw [gl.eq_2] at h
  refine ag hE 1 [] [] (kp [0,5,8,9,53,54,55,77,78,79]) (kq [0,1,2,3,4,5,6]) 23 pn ?_
  refine du 1 79 h (fun rV h=>?_) (fun rV h=>?_)
  ·refine ag hE 4 [] [] (kp [0,5,8,9,10,53,54,55,77,78]) (kq [0,1,2,3,4,5,6]) 55 pn ?_
   obtain ⟨lX,eX,h⟩:=aQ h
   refine ag hE 1 [(0,oT (.agg (aj lX)))] [] (kp [0,5,8,9,10,11,53,54,55,77,78]) (kq [0,1,2,3,4,5,6,71]) 103 (pc (g8 _ _ _ eX) (pc o1 pn)) ?_
   refine ag hE 2 [] [] (kp [0,5,8,9,10,11,53,54,55,77,78,86]) (kq [0,1,2,3,4,5,6,71]) 183 (pc o1 pn) ?_
   refine du 0 86 h (fun BS h=>?_) (fun BS h=>?_)
   ·obtain ⟨c6,h⟩:=af h
    obtain ⟨wZ,kE,h⟩:=aQ h
    refine ag hE 0 [(5,oT (.agg (aj wZ)))] [] (kp [0,5,8,9,10,11,53,54,55,77,78]) (kq [0,1,2,3,4,5,6,71]) 295 (pc o1 (pc c6 (pc (qY _ _ _ kE) (pc o1 pn)))) ?_
    exact cP hE 0 [] (kp [0,5,8,9,10,11,53,54,55,77,78]) (kq [0,1,2,3,4,5,6] ++ [(7,.ah 71)]) 8 pn (xE N _ _ _ _ _ _ _ _ _ _ _ _ ih o6 _ _ h E hE)
   ·exact cP hE 1 [] (kp [0,5,8,9,10,11,53,54,55,77,78]) (kq [0,1,2,3,4,5,6] ++ [(7,.ah 71)]) 8 pn (xE N _ _ _ _ _ _ _ _ _ _ _ _ ih o6 _ _ h E hE)
  ·obtain ⟨bX,rX,h⟩:=aQ h
   obtain ⟨MF,h⟩:=af h
   refine ag hE 2 [(3,oT (.agg (aj bX)))] [] (kp [0,5,8] ++ [(9,.jq ((row.set ((ai (2 * n)).toNat) bX).length))] ++ kp [53,54,55]) (kq [0,1,2,3,4,5] ++ [(6,.arr 6 ((row.set ((ai (2 * n)).toNat) bX).length) (fun zi=>aj ((row.set ((ai (2 * n)).toNat) bX).getD zi aa.d)))]) 119 (pc (g8 _ _ _ rX) (pc MF (pc (dP MF) (pc (ay row ((ai (2 * n)).toNat) bX) (pc (ay row ((ai (2 * n)).toNat) bX) (pc (cA aj aa.d row ((ai (2 * n)).toNat) bX) pn)))))) ?_
   obtain ⟨Iv,h⟩:=af h
   refine ag hE 1 [] [] (kp [0,5,8,53,54,55]) ([(0,.var 0 [.ah,.ah,.ah,.ah,.jq ((t3 ++ [(row.set ((ai (2 * n)).toNat) bX)]).length),.ah,.ah,.ah,.ah,.ah,.ah,.ah])] ++ kq [1,2,4,5,6] ++ [(231,.qu 231 ((t3 ++ [(row.set ((ai (2 * n)).toNat) bX)]).length) [(t3.length,6,(row.set ((ai (2 * n)).toNat) bX).length)] (mG (t3 ++ [(row.set ((ai (2 * n)).toNat) bX)])))]) 295 (pc o1 (pc (Eq.refl t3.length) (pc Iv (pc (show 0+1≤1 from (az _)) (pc (show ∀ zi,zi < 1→AV.fJ ((fun zi=>([[(.os 6 0 ((row.set ((ai (2 * n)).toNat) bX).length))]]:List (List AV)).getD zi []) (bC 0 zi))=true from (mI rfl)) (pc o1 (pc (show (t3.length+1)=(t3 ++ [(row.set ((ai (2 * n)).toNat) bX)]).length from (an rfl rfl)) (pc (show t3.length+1=(t3 ++ [(row.set ((ai (2 * n)).toNat) bX)]).length from (an rfl rfl)) (pc (show ∀ zm,zm < (t3 ++ [(row.set ((ai (2 * n)).toNat) bX)]).length→ba [(t3.length,6,(row.set ((ai (2 * n)).toNat) bX).length)] (mG (t3 ++ [(row.set ((ai (2 * n)).toNat) bX)])) zm=if zm < t3.length then (mG t3) zm else (fun zi=>([[(.os 6 0 ((row.set ((ai (2 * n)).toNat) bX).length))]]:List (List AV)).getD zi []) (zm - t3.length) from (Te (b:=fun zi=>([[(.os 6 0 ((row.set ((ai (2 * n)).toNat) bX).length))]]:List (List AV)).getD zi []) t3 (row.set ((ai (2 * n)).toNat) bX) rfl rfl)) (pc (iM (t3 ++ [(row.set ((ai (2 * n)).toNat) bX)])) pn)))))))))) ?_
   refine QJ 231 6 t3.length (pc (VH t3 (row.set ((ai (2 * n)).toNat) bX)) (pc (show ba [(t3.length,6,(row.set ((ai (2 * n)).toNat) bX).length)] (mG (t3 ++ [(row.set ((ai (2 * n)).toNat) bX)])) t3.length=[.os 6 0 (row.set ((ai (2 * n)).toNat) bX).length] from if_pos rfl) (pc (show ∀ zj,zj < (row.set ((ai (2 * n)).toNat) bX).length→og (aj ((row.set ((ai (2 * n)).toNat) bX).getD zj aa.d))=true from fun _ _=>rfl) pn))) ?_
   refine QI hE [] (kp [0,5,8,53,54,55]) (kq [0,1,2,4,5] ++ [(231,.qu 231 ((t3 ++ [(row.set ((ai (2 * n)).toNat) bX)]).length) [] (mG (t3 ++ [(row.set ((ai (2 * n)).toNat) bX)])))]) 295 (pc (Eq.refl ((t3 ++ [(row.set ((ai (2 * n)).toNat) bX)]).length)) (pc (QK (sz:=4) (c:=aj) (d:=aa.d) (t3 ++ [(row.set ((ai (2 * n)).toNat) bX)]) t3.length 6 ((row.set ((ai (2 * n)).toNat) bX).length) (row.set ((ai (2 * n)).toNat) bX) [] (rk t3 (row.set ((ai (2 * n)).toNat) bX)) FV) (pc (iM (t3 ++ [(row.set ((ai (2 * n)).toNat) bX)])) pn))) ?_
   obtain ⟨eS,xU,h⟩:=aQ h
   obtain ⟨Iw,h⟩:=af h
   refine ag hE 0 [(7,oT (.agg (aj eS)))] [] (kp [0,5,53,54,55]) ([(0,.var 0 [.ah,.ah,.ah,.ah,.ah,.jq ((t4 ++ ([eS]:List aa)).length),.ah,.ah,.ah,.ah,.ah,.ah])] ++ kq [1,2,231] ++ [(439,.arr 439 ((t4 ++ ([eS]:List aa)).length) (fun zi=>aj ((t4 ++ ([eS]:List aa)).getD zi aa.d)))]) 503 (pc o1 (pc o1 (pc (qY _ _ _ xU) (pc (Eq.refl t4.length) (pc Iw (pc (z1 1) (pc (show ∀ zi,zi < 1→AV.fJ ((fun zi=>([[(aB eS.fN.fG),(eU eS.fN.fL),(aB eS.fD.fG),(eU eS.fD.fL)]]:List (List AV)).getD zi []) (bC 0 zi))=true from (mI rfl)) (pc o1 (pc (show (t4.length+1)=(t4 ++ ([eS]:List aa)).length from (an rfl rfl)) (pc (show t4.length+1=(t4 ++ ([eS]:List aa)).length from (an rfl rfl)) (pc (show ∀ zi,zi < (t4 ++ ([eS]:List aa)).length→(fun zi=>aj ((t4 ++ ([eS]:List aa)).getD zi aa.d)) zi=((fun zm=>if zm < t4.length then (fun zi=>aj (t4.getD zi aa.d)) zm else (fun zi=>([[(aB eS.fN.fG),(eU eS.fN.fL),(aB eS.fD.fG),(eU eS.fD.fL)]]:List (List AV)).getD zi []) (zm - t4.length))) zi from (aX aj aa.d t4 ([eS]:List aa) rfl (fun _ _=>rfl) (fun zq eY=>bB aj aa.d ([eS]:List aa) zq eY))) pn))))))))))) ?_
   refine ag hE 1 [] [] (kp [0,5,53,54,55]) (kq [0,1,2,231,439]) 535 pn ?_
   exact cP hE 1 [] (kp [0,5,53,54,55]) (kq [0,1,2] ++ [(3,.ah 231),(4,.ah 439)]) 5 pn (o6 _ _ _ _ _ h E hE)
def Gj (N:Nat) (n:Int) (l:List ab) (ax:aa) (t:List Int) (t2:List Int) (t3:List (List aa)) (t4:List aa) (K:(List aa)→Int→Option (l7)):Prop:=∀ (t5:List aa) (x4:Int) (r:l7),K t5 x4=some r→∀ E,bk E 0→aG Tryz.prog E 33 157 (bc E [(0,vN 12 [(aI r.xQ),(aI r.xR),(.os 1 0 r.kK.length),(.os 2 0 r.nB.length),(.os 3 0 r.J6.length),(.os 4 0 r.J7.length),(.os 5 0 r.fa.length),(aB r.ak.fN.fG),(eU r.ak.fN.fL),(aB r.ak.fD.fG),(eU r.ak.fD.fL),(aI r.cy)]),(1,aO 1 cI 0 r.kK),(2,aO 1 cI 0 r.nB),(3,aM 4 aj aa.d r.J6),(4,aO 4 aj aa.d r.J7),(5,aO 4 aj aa.d r.fa)] (.op 0 0 0)) [.code (Gg 2036),.inLoop (Gg 2036),.inBlock 6,.code (Gg 255)] ⟨[(5,(.op 0 0 0)),(144,(aI (((List.replicate ((ai ((ai (2 * n))+1)).toNat) aa.d:List aa).length:Nat):Int))),(145,(aI x4))],[(0,vN 12 [(aI n),(aI ((l.length:Nat):Int)),(.os 1 0 t2.length),(.os 2 0 ((t ++ ([(ai ((ai (2 * n))+((l.length:Nat):Int)))]:List Int)).length)),(.os 3 0 t3.length),(.os 4 0 t4.length),(.os 5 0 t5.length),(aB ax.fN.fG),(eU ax.fN.fL),(aB ax.fD.fG),(eU ax.fD.fL),(aI (ai ((ai (2 * n))+((l.length:Nat):Int))))]),(1,aO 1 cI 0 t2),(2,aO 1 cI 0 (t ++ ([(ai ((ai (2 * n))+((l.length:Nat):Int)))]:List Int))),(3,aM 4 aj aa.d t3),(4,aO 4 aj aa.d t4),(5,aO 4 aj aa.d t5)],6⟩
theorem Eg (N n l ax t t2 t3 t4 fuel):Gj N n l ax t t2 t3 t4 (lg N n l ax t t2 t3 t4 fuel):=by
 induction fuel with
 | zero=>intro _ _ r h;rw [lg.eq_1] at h;cases h
 | succ fuel ih =>
  intro t5 x4 r h E hE
  rw [lg.eq_2] at h
  refine ag hE 1 [] [] (kp [5,144,145,146]) (kq [0,1,2,3,4,5]) 22 pn ?_
  refine du 1 146 h (fun Jv h=>?_) (fun Jv h=>?_)
  ·refine ag hE 4 [] [] (kp [5,12,144,145]) (kq [0,1,2,3,4,5]) 54 pn ?_
   obtain ⟨qa,yL,h⟩:=aQ h
   obtain ⟨LX,h⟩:=af h
   refine ag hE 0 [(5,oT (.agg (aj qa)))] [] (kp [5,144,145]) ([(0,.var 0 [.ah,.ah,.ah,.ah,.ah,.ah,.jq ((t5.set ((x4).toNat) qa).length),.ah,.ah,.ah,.ah,.ah])] ++ kq [1,2,3,4] ++ [(5,.arr 5 ((t5.set ((x4).toNat) qa).length) (fun zi=>aj ((t5.set ((x4).toNat) qa).getD zi aa.d)))]) 182 (pc o1 (pc (g8 _ _ _ yL) (pc LX (pc (dP LX) (pc (ay t5 ((x4).toNat) qa) (pc (ay t5 ((x4).toNat) qa) (pc (cA aj aa.d t5 ((x4).toNat) qa) pn))))))) ?_
   refine ag hE 1 [] [] (kp [5,144,145]) (kq [0,1,2,3,4,5]) 214 pn ?_
   exact cP hE 1 [] (kp [5,144,145]) (kq [0,1,2,3,4,5]) 6 pn (ih _ _ _ h E hE)
  ·refine ag hE 2 [] [] (kp [4]) (kq [0,1,2,3,4,5]) 54 pn ?_
   obtain rfl:=cX h
   exact db hE 0 Tryz.f33 [] (kp [4]) (kq [0,1,2,3,4,5]) 54 pn [] pn
theorem Eh (N n l ax t fuel):tM N n l ax t (jW N n l ax t fuel):=by
 induction fuel with
 | zero=>intro _ _ _ _ r h;rw [jW.eq_1] at h;cases h
 | succ fuel ih =>
  intro t2 t3 t4 x2 r h E hE
  rw [jW.eq_2] at h
  refine ag hE 1 [] [] (kp [0,5,53,54,55,56]) (kq [0,1,2,3,4]) 21 pn ?_
  refine du 1 56 h (fun jx h=>?_) (fun jx h=>?_)
  ·obtain ⟨c3,h⟩:=af h
   refine ag hE 4 [] [] (kp [0,5,7,8,53,54,55]) (kq [0,1,2,3,4,69]) 117 (pc c3 (pc o1 pn)) ?_
   obtain ⟨c4,h⟩:=af h
   refine ag hE 1 [] [] (kp [0,5,8,53,54,55]) ([(0,.var 0 [.ah,.ah,.jq ((t2 ++ ([(ai ((ai (2 * n))+x2))]:List Int)).length),.ah,.ah,.ah,.ah,.ah,.ah,.ah,.ah,.ah])] ++ kq [2,3,4,69] ++ [(277,.arr 277 ((t2 ++ ([(ai ((ai (2 * n))+x2))]:List Int)).length) (fun zi=>cI ((t2 ++ ([(ai ((ai (2 * n))+x2))]:List Int)).getD zi 0)))]) 341 (pc o1 (pc (Eq.refl t2.length) (pc c4 (pc (z1 1) (pc (show ∀ zi,zi < 1→AV.fJ ((fun zi=>([[(aI (ai ((ai (2 * n))+x2)))]]:List (List AV)).getD zi []) (bC 0 zi))=true from (mI rfl)) (pc o1 (pc (show (t2.length+1)=(t2 ++ ([(ai ((ai (2 * n))+x2))]:List Int)).length from (an rfl rfl)) (pc (show t2.length+1=(t2 ++ ([(ai ((ai (2 * n))+x2))]:List Int)).length from (an rfl rfl)) (pc (show ∀ zi,zi < (t2 ++ ([(ai ((ai (2 * n))+x2))]:List Int)).length→(fun zi=>cI ((t2 ++ ([(ai ((ai (2 * n))+x2))]:List Int)).getD zi 0)) zi=((fun zm=>if zm < t2.length then (fun zi=>cI (t2.getD zi 0)) zm else (fun zi=>([[(aI (ai ((ai (2 * n))+x2)))]]:List (List AV)).getD zi []) (zm - t2.length))) zi from (aX cI 0 t2 ([(ai ((ai (2 * n))+x2))]:List Int) rfl (fun _ _=>rfl) (fun zq eY=>bB cI 0 ([(ai ((ai (2 * n))+x2))]:List Int) zq eY))) pn))))))))) ?_
   obtain ⟨c5,h⟩:=af h
   refine ag hE 1 [] [] (kp [0,5,8] ++ [(9,.jq ((List.replicate ((ai ((ai (2 * n))+1)).toNat) aa.d:List aa).length))] ++ kp [53,54,55]) (kq [0,2,3,4,69,277] ++ [(389,.OQ 389 ((List.replicate ((ai ((ai (2 * n))+1)).toNat) aa.d:List aa).length) (fun zi=>aj ((List.replicate ((ai ((ai (2 * n))+1)).toNat) aa.d:List aa).getD zi aa.d)))]) 421 (pc (show 0≤(ai ((ai (2 * n))+1)) from c5.1) (pc (show (ai ((ai (2 * n))+1))≤(ai ((ai (2 * n))+1)) from (Int.le_refl _)) (pc (show (64:Int) * (ai ((ai (2 * n))+1))≤281474976710656 from c5.2.1) (pc (show (ai ((ai (2 * n))+1))≤9223372036854775807 from c5.2.2) (pc (show (ai ((ai (2 * n))+1)).toNat=(List.replicate ((ai ((ai (2 * n))+1)).toNat) aa.d:List aa).length from (cN).symm) (pc (show (List.replicate ((ai ((ai (2 * n))+1)).toNat) aa.d:List aa).length≤(ai ((ai (2 * n))+1)).toNat from (Nat.le_of_eq (Eq.symm ((cN).symm)))) (pc (show ∀ zi,zi < (List.replicate ((ai ((ai (2 * n))+1)).toNat) aa.d:List aa).length→Ij ((fun _=>[(aB false),.nil,(aB false),.nil]) zi) ((fun zi=>aj ((List.replicate ((ai ((ai (2 * n))+1)).toNat) aa.d:List aa).getD zi aa.d)) zi) from (fun zq eY=>mc aj aa.d aa.d ((ai ((ai (2 * n))+1)).toNat) zq ⟨.inl rfl,.inr ⟨rfl,_,rfl⟩,.inl rfl,.inr ⟨rfl,_,rfl⟩,trivial⟩ eY)) pn))))))) ?_
   refine ag hE 2 [] [] (kp [0,5,8,9,53,54,55,77,78]) (kq [0,2,3,4,69,277,389]) 453 pn ?_
   exact cP hE 2 [] (kp [0,5,8,9,53,54,55,77,78]) (kq [0] ++ [(1,.ah 277)] ++ kq [2,3,4] ++ [(5,.ah 69),(6,.ah 389)]) 7 pn (Ef N _ _ _ _ _ _ _ _ _ ih N _ _ _ h E hE)
  ·obtain ⟨Hd,h⟩:=af h
   refine ag hE 2 [] [] (kp [5]) ([(0,.var 0 [.ah,.ah,.ah,.ah,.ah,.ah,.jq ((List.replicate ((ai ((ai (2 * n))+1)).toNat) aa.d:List aa).length),.ah,.ah,.ah,.ah,.ah])] ++ kq [1,2,3,4] ++ [(85,.OQ 85 ((List.replicate ((ai ((ai (2 * n))+1)).toNat) aa.d:List aa).length) (fun zi=>aj ((List.replicate ((ai ((ai (2 * n))+1)).toNat) aa.d:List aa).getD zi aa.d)))]) 149 (pc (show 0≤(ai ((ai (2 * n))+1)) from Hd.1) (pc (show (ai ((ai (2 * n))+1))≤(ai ((ai (2 * n))+1)) from (Int.le_refl _)) (pc (show (64:Int) * (ai ((ai (2 * n))+1))≤281474976710656 from Hd.2.1) (pc (show (ai ((ai (2 * n))+1))≤9223372036854775807 from Hd.2.2) (pc o1 (pc (show (ai ((ai (2 * n))+1)).toNat=(List.replicate ((ai ((ai (2 * n))+1)).toNat) aa.d:List aa).length from (cN).symm) (pc (show (List.replicate ((ai ((ai (2 * n))+1)).toNat) aa.d:List aa).length≤(ai ((ai (2 * n))+1)).toNat from (Nat.le_of_eq (Eq.symm ((cN).symm)))) (pc (show ∀ zi,zi < (List.replicate ((ai ((ai (2 * n))+1)).toNat) aa.d:List aa).length→Ij ((fun _=>[(aB false),.nil,(aB false),.nil]) zi) ((fun zi=>aj ((List.replicate ((ai ((ai (2 * n))+1)).toNat) aa.d:List aa).getD zi aa.d)) zi) from (fun zq eY=>mc aj aa.d aa.d ((ai ((ai (2 * n))+1)).toNat) zq ⟨.inl rfl,.inr ⟨rfl,_,rfl⟩,.inl rfl,.inr ⟨rfl,_,rfl⟩,trivial⟩ eY)) pn)))))))) ?_
   refine ag hE 2 [] [] (kp [5,144,145]) (kq [0,1,2,3,4,85]) 245 (pc o1 pn) ?_
   exact cP hE 2 [] (kp [5,144,145]) (kq [0,1,2,3,4] ++ [(5,.ah 85)]) 6 pn (Eg N _ _ _ _ _ _ _ N _ _ _ h E hE)
theorem Ei (N n l ax fuel):Gh N n l ax (lh N n l ax fuel):=by
 induction fuel with
 | zero=>intro _ _ r h;rw [lh.eq_1] at h;cases h
 | succ fuel ih =>
  intro t x r h E hE
  rw [lh.eq_2] at h
  refine ag hE 1 [] [] (kp [0,1,5,25,26,27]) (kq [0,1]) 18 pn ?_
  refine du 1 27 h (fun ee h=>?_) (fun ee h=>?_)
  ·refine ag hE 4 [] [] (kp [0,1,5,6,25,26]) (kq [0,1]) 50 pn ?_
   obtain ⟨c,h⟩:=af h
   refine ag hE 0 [] [] (kp [0,1,5,25,26]) [(0,.var 0 [.ah,.ah,.ah,.jq ((t ++ ([x]:List Int)).length),.ah,.ah,.ah,.ah,.ah,.ah,.ah,.ah]),(162,.arr 162 ((t ++ ([x]:List Int)).length) (fun zi=>cI ((t ++ ([x]:List Int)).getD zi 0)))] 226 (pc o1 (pc (Eq.refl t.length) (pc c (pc (z1 1) (pc (show ∀ zi,zi < 1→AV.fJ ((fun zi=>([[(aI x)]]:List (List AV)).getD zi []) (bC 0 zi))=true from (mI rfl)) (pc o1 (pc (show (t.length+1)=(t ++ ([x]:List Int)).length from (an rfl rfl)) (pc (show t.length+1=(t ++ ([x]:List Int)).length from (an rfl rfl)) (pc (show ∀ zi,zi < (t ++ ([x]:List Int)).length→(fun zi=>cI ((t ++ ([x]:List Int)).getD zi 0)) zi=((fun zm=>if zm < t.length then (fun zi=>cI (t.getD zi 0)) zm else (fun zi=>([[(aI x)]]:List (List AV)).getD zi []) (zm - t.length))) zi from (aX cI 0 t ([x]:List Int) rfl (fun _ _=>rfl) (fun zq eY=>bB cI 0 ([x]:List Int) zq eY))) pn))))))))) ?_
   refine ag hE 1 [] [] (kp [0,1,5,25,26]) (kq [0,162]) 258 pn ?_
   exact cP hE 1 [] (kp [0,1,5,25,26]) (kq [0] ++ [(1,.ah 162)]) 2 pn (ih _ _ _ h E hE)
  ·obtain ⟨c2,h⟩:=af h
   refine ag hE 2 [] [] (kp [0,1,5]) [(0,.var 0 [.ah,.ah,.ah,.jq ((t ++ ([(ai ((ai (2 * n))+((l.length:Nat):Int)))]:List Int)).length),.ah,.ah,.ah,.ah,.ah,.ah,.ah,.ah]),(178,.arr 178 ((t ++ ([(ai ((ai (2 * n))+((l.length:Nat):Int)))]:List Int)).length) (fun zi=>cI ((t ++ ([(ai ((ai (2 * n))+((l.length:Nat):Int)))]:List Int)).getD zi 0)))] 242 (pc o1 (pc o1 (pc (Eq.refl t.length) (pc c2 (pc (z1 1) (pc (show ∀ zi,zi < 1→AV.fJ ((fun zi=>([[(aI (ai ((ai (2 * n))+((l.length:Nat):Int))))]]:List (List AV)).getD zi []) (bC 0 zi))=true from (mI rfl)) (pc o1 (pc (show (t.length+1)=(t ++ ([(ai ((ai (2 * n))+((l.length:Nat):Int)))]:List Int)).length from (an rfl rfl)) (pc (show t.length+1=(t ++ ([(ai ((ai (2 * n))+((l.length:Nat):Int)))]:List Int)).length from (an rfl rfl)) (pc (show ∀ zi,zi < (t ++ ([(ai ((ai (2 * n))+((l.length:Nat):Int)))]:List Int)).length→(fun zi=>cI ((t ++ ([(ai ((ai (2 * n))+((l.length:Nat):Int)))]:List Int)).getD zi 0)) zi=((fun zm=>if zm < t.length then (fun zi=>cI (t.getD zi 0)) zm else (fun zi=>([[(aI (ai ((ai (2 * n))+((l.length:Nat):Int))))]]:List (List AV)).getD zi []) (zm - t.length))) zi from (aX cI 0 t ([(ai ((ai (2 * n))+((l.length:Nat):Int)))]:List Int) rfl (fun _ _=>rfl) (fun zq eY=>bB cI 0 ([(ai ((ai (2 * n))+((l.length:Nat):Int)))]:List Int) zq eY))) pn)))))))))) ?_
   refine ag hE 2 [] [] (kp [0,5,53,54,55]) (kq [0,178]) 290 pn ?_
   exact cP hE 2 [] (kp [0,5,53,54,55]) [(0,.var 0 [.ah,.ah,.lW 1,.ah,.lW 3,.lW 4,.ah,.ah,.ah,.ah,.ah,.ah]),(1,.nil 1 (fun zi=>cI (([]:List Int).getD zi 0))),(2,.ah 178),(3,.UI (mG ([]:List (List aa)))),(4,.nil 4 (fun zi=>aj (([]:List aa).getD zi aa.d)))] 5 pn (Eh N _ _ _ _ N _ _ _ _ _ h E hE)
theorem Jx (N n l r) (h:zD N n l=some r):Sd 33 [(aI n),(aH om ab.d l)] [] 0 (.op 0 0 0) [(0,vN 12 [(aI r.xQ),(aI r.xR),(.os 1 0 r.kK.length),(.os 2 0 r.nB.length),(.os 3 0 r.J6.length),(.os 4 0 r.J7.length),(.os 5 0 r.fa.length),(aB r.ak.fN.fG),(eU r.ak.fN.fL),(aB r.ak.fD.fG),(eU r.ak.fD.fL),(aI r.cy)]),(1,aO 1 cI 0 r.kK),(2,aO 1 cI 0 r.nB),(3,aM 4 aj aa.d r.J6),(4,aO 4 aj aa.d r.J7),(5,aO 4 aj aa.d r.fa)]:=by
 unfold zD at h
 refine im (fu:=Tryz.f33) (c:=Gg 1) (nt:=157) (fun hm=>rfl) ?_
 intro E hE
 refine ag hE 1 [] [] (kp [0,1]) [] 16 pn ?_
 obtain ⟨ax,hr,h⟩:=aQ h
 refine ag hE 1 [(8,oT (.agg (aj ax)))] [] (kp [0,1,5]) (kq [176]) 208 (pc (g8 _ _ _ hr) pn) ?_
 refine ag hE 2 [] [] (kp [0,1,5,25,26]) (kq [176]) 256 pn ?_
 exact cP hE 2 [] (kp [0,1,5,25,26]) [(0,.var 176 [.ah,.ah,.ah,.lW 1,.ah,.ah,.ah,.ah,.ah,.ah,.ah,.ah]),(1,.nil 1 (fun zi=>cI (([]:List Int).getD zi 0)))] 2 pn (Ei N _ _ _ N _ _ _ h E hE)
noncomputable abbrev aan:=cl Tryz.f71
theorem qZ (N x r) (h:nG N x=some r):Sd 71 [(.agg (aj x))] [] 0 (aI r) []:=by
 unfold nG at h
 refine im (fu:=Tryz.f71) (c:=aan 1) (nt:=10) (fun hm=>rfl) ?_
 intro E hE
 refine ag hE 1 [] [] (kp [1]) (kq [0]) 32 pn ?_
 obtain ⟨yD,hr,h⟩:=aQ h
 obtain ⟨jV,eX,h⟩:=aQ h
 obtain ⟨Mx,kE,h⟩:=aQ h
 refine ag hE 1 [(2,oT (aI yD)),(4,oT (.agg (lN jV))),(5,oT (aI Mx))] [] (kp [2]) [] 160 (pc o1 (pc (uz _ _ _ hr) (pc o1 (pc (j3 _ _ _ eX) (pc (uz _ _ _ kE) pn))))) ?_
 obtain rfl:=cX h
 exact db hE 0 Tryz.f71 [] (kp [2]) [] 160 pn [] pn
noncomputable abbrev aao:=cl Tryz.f74
theorem jl (N x r) (h:ic N x=some r):Sd 74 [(.agg (aj x))] [] 0 (aB r) []:=by
 unfold ic at h
 refine im (fu:=Tryz.f74) (c:=aao 1) (nt:=7) (fun hm=>rfl) ?_
 intro E hE
 refine ag hE 1 [] [] (kp [1]) (kq [0]) 32 pn ?_
 obtain ⟨yD,hr,h⟩:=aQ h
 refine ag hE 1 [(2,oT (aI yD))] [] (kp [2]) [] 112 (pc o1 (pc (uz _ _ _ hr) pn)) ?_
 obtain rfl:=cX h
 exact db hE 0 Tryz.f74 [] (kp [2]) [] 112 pn [] pn
noncomputable abbrev Hr:=cl Tryz.f128
def yN (N:Nat) (a:List Int) (b:List Int) (K:(List Int)→Int→Option ((List Int))):Prop:=∀ (out:List Int) (x:Int) (r:(List Int)),K out x=some r→∀ E,bk E 0→aG Tryz.prog E 128 67 (bc E [] (eU r)) [.code (Hr 116),.inLoop (Hr 116),.inBlock 0,.code (Hr 15)] ⟨[(1,(eU b)),(5,(.os 0 0 out.length)),(17,(eU a)),(18,(aI ((a.length:Nat):Int))),(19,(aI x))],[(0,aU out)],1⟩
def Gk (N:Nat) (a:List Int) (b:List Int) (x:Int) (K:(List Int)→Int→Int→Option ((List Int))):Prop:=∀ (gy:List Int) (carry:Int) (x2:Int) (r:(List Int)),K gy carry x2=some r→∀ E,bk E 0→aG Tryz.prog E 128 67 (bc E [] (eU r)) [.code (Hr 119604),.inLoop (Hr 119604),.inBlock 2,.code (Hr 14951),.inBlock 1,.code (Hr 935),.inLoop (Hr 116),.inBlock 0,.code (Hr 15)] ⟨[(1,(eU b)),(5,(.os 0 0 gy.length)),(6,(aI x)),(7,(w9 (a.getD ((x).toNat) 0))),(8,(Tj carry)),(17,(eU a)),(18,(aI ((a.length:Nat):Int))),(19,(aI x)),(24,(eU b)),(25,(aI ((b.length:Nat):Int))),(26,(aI x2))],[(0,aU gy)],1⟩
theorem Ej (N:Nat) (a:List Int) (b:List Int) (x:Int) (nH:(List Int)→Int→Option ((List Int))) (Ek:yN N a b nH) (fuel:Nat):Gk N a b x (lj N a b x nH fuel):=by
 induction fuel with
 | zero=>intro _ _ _ r h;rw [lj.eq_1] at h;cases h
 | succ fuel ih =>
  intro gy carry x2 r h E hE
  rw [lj.eq_2] at h
  refine ag hE 1 [] [] (kp [1,5,6,7,8,17,18,19,24,25,26,27]) (kq [0]) 17 pn ?_
  refine du 1 27 h (fun jx h=>?_) (fun jx h=>?_)
  ·obtain ⟨c3,h⟩:=af h
   refine ag hE 4 [] [] (kp [1,5,6,7,8,9,10,17,18,19,24,25,26]) (kq [0]) 97 (pc c3 pn) ?_
   obtain ⟨c4,h⟩:=af h
   refine ag hE 1 [] [] (kp [1,5,6,7,8,9,17,18,19,24,25,26]) (kq [0]) 353 (pc c4 (pc (dP c4) pn)) ?_
   refine ag hE 1 [] [] (kp [1] ++ [(5,.jq ((gy.set ((ai (x+x2)).toNat) (IntKind.u16.wrap ((IntKind.u32.wrap (carry+(IntKind.u32.wrap ((IntKind.u32.wrap ((IntKind.u32.wrap ((a.getD ((x).toNat) 0))) * (IntKind.u32.wrap ((b.getD ((x2).toNat) 0)))))+(IntKind.u32.wrap ((gy.getD ((ai (x+x2)).toNat) 0)))))))))).length))] ++ kp [6,7,8,17,18,19,24,25,26]) [(0,.arr 0 ((gy.set ((ai (x+x2)).toNat) (IntKind.u16.wrap ((IntKind.u32.wrap (carry+(IntKind.u32.wrap ((IntKind.u32.wrap ((IntKind.u32.wrap ((a.getD ((x).toNat) 0))) * (IntKind.u32.wrap ((b.getD ((x2).toNat) 0)))))+(IntKind.u32.wrap ((gy.getD ((ai (x+x2)).toNat) 0)))))))))).length) (fun zi=>(cU .u16) ((gy.set ((ai (x+x2)).toNat) (IntKind.u16.wrap ((IntKind.u32.wrap (carry+(IntKind.u32.wrap ((IntKind.u32.wrap ((IntKind.u32.wrap ((a.getD ((x).toNat) 0))) * (IntKind.u32.wrap ((b.getD ((x2).toNat) 0)))))+(IntKind.u32.wrap ((gy.getD ((ai (x+x2)).toNat) 0)))))))))).getD zi 0)))] 481 (pc c4 (pc (dP c4) (pc (ay gy ((ai (x+x2)).toNat) (IntKind.u16.wrap ((IntKind.u32.wrap (carry+(IntKind.u32.wrap ((IntKind.u32.wrap ((IntKind.u32.wrap ((a.getD ((x).toNat) 0))) * (IntKind.u32.wrap ((b.getD ((x2).toNat) 0)))))+(IntKind.u32.wrap ((gy.getD ((ai (x+x2)).toNat) 0)))))))))) (pc (ay gy ((ai (x+x2)).toNat) (IntKind.u16.wrap ((IntKind.u32.wrap (carry+(IntKind.u32.wrap ((IntKind.u32.wrap ((IntKind.u32.wrap ((a.getD ((x).toNat) 0))) * (IntKind.u32.wrap ((b.getD ((x2).toNat) 0)))))+(IntKind.u32.wrap ((gy.getD ((ai (x+x2)).toNat) 0)))))))))) (pc (cA (cU .u16) 0 gy ((ai (x+x2)).toNat) (IntKind.u16.wrap ((IntKind.u32.wrap (carry+(IntKind.u32.wrap ((IntKind.u32.wrap ((IntKind.u32.wrap ((a.getD ((x).toNat) 0))) * (IntKind.u32.wrap ((b.getD ((x2).toNat) 0)))))+(IntKind.u32.wrap ((gy.getD ((ai (x+x2)).toNat) 0)))))))))) pn))))) ?_
   refine ag hE 0 [] [] (kp [1,5,6,7,8,17,18,19,24,25,26]) (kq [0]) 529 (pc (show (0:Int)≤16 by decide) pn) ?_
   refine ag hE 1 [] [] (kp [1,5,6,7,8,17,18,19,24,25,26]) (kq [0]) 561 pn ?_
   exact cP hE 1 [] (kp [1,5,6,7,8,17,18,19,24,25,26]) (kq [0]) 1 pn (ih _ _ _ _ h E hE)
  ·obtain ⟨c5,h⟩:=af h
   refine ag hE 1 [] [] (kp [1] ++ [(5,.jq ((gy.set ((ai (x+((b.length:Nat):Int))).toNat) (IntKind.u16.wrap (carry))).length))] ++ kp [17,18,19]) [(0,.arr 0 ((gy.set ((ai (x+((b.length:Nat):Int))).toNat) (IntKind.u16.wrap (carry))).length) (fun zi=>(cU .u16) ((gy.set ((ai (x+((b.length:Nat):Int))).toNat) (IntKind.u16.wrap (carry))).getD zi 0)))] 161 (pc c5 (pc (dP c5) (pc (ay gy ((ai (x+((b.length:Nat):Int))).toNat) (IntKind.u16.wrap (carry))) (pc (ay gy ((ai (x+((b.length:Nat):Int))).toNat) (IntKind.u16.wrap (carry))) (pc (cA (cU .u16) 0 gy ((ai (x+((b.length:Nat):Int))).toNat) (IntKind.u16.wrap (carry))) pn))))) ?_
   refine ag hE 1 [] [] (kp [1,5,17,18,19]) (kq [0]) 193 pn ?_
   exact cP hE 1 [] (kp [1,5,17,18,19]) (kq [0]) 1 pn (Ek _ _ _ h E hE)
theorem El (N a b fuel):yN N a b (lk N a b fuel):=by
 induction fuel with
 | zero=>intro _ _ r h;rw [lk.eq_1] at h;cases h
 | succ fuel ih =>
  intro out x r h E hE
  rw [lk.eq_2] at h
  refine ag hE 1 [] [] (kp [1,5,17,18,19,20]) (kq [0]) 17 pn ?_
  refine du 1 20 h (fun ee h=>?_) (fun ee h=>?_)
  ·obtain ⟨c2,h⟩:=af h
   refine ag hE 4 [] [] (kp [1,5,6,7,17,18,19]) (kq [0]) 97 (pc c2 pn) ?_
   refine ag hE 1 [] [] (kp [1,5,6,7,8,17,18,19]) (kq [0]) 113 pn ?_
   refine ag hE 2 [] [] (kp [1,5,6,7,8,17,18,19,24,25,26]) (kq [0]) 161 pn ?_
   exact cP hE 2 [] (kp [1,5,6,7,8,17,18,19,24,25,26]) (kq [0]) 1 pn (Ej N _ _ _ _ ih N _ _ _ _ h E hE)
  ·obtain ⟨cb,hr,h⟩:=aQ h
   refine ag hE 2 [(1,⟨[],true,(eU cb),[],0,true,none⟩)] [] (kp [4]) [] 65 (pc (fj _ _ _ hr) (pc (z1 out.length) pn)) ?_
   obtain rfl:=cX h
   exact db hE 0 Tryz.f128 [] (kp [4]) [] 65 pn [] pn
theorem Jy (N a b r) (h:th N a b=some r):Sd 128 [(eU a),(eU b)] [] 0 (eU r) []:=by
 unfold th at h
 refine im (fu:=Tryz.f128) (c:=Hr 1) (nt:=67) (fun hm=>rfl) ?_
 intro E hE
 refine ag hE 1 [] [] (kp [0,1]) [] 16 pn ?_
 obtain ⟨c,h⟩:=af h
 refine ag hE 1 [] [] (kp [0,1] ++ [(5,.jq ((List.replicate ((ai (((a.length:Nat):Int)+((b.length:Nat):Int))).toNat) 0:List Int).length))]) [(96,.arr 96 ((List.replicate ((ai (((a.length:Nat):Int)+((b.length:Nat):Int))).toNat) 0:List Int).length) (fun zi=>(cU .u16) ((List.replicate ((ai (((a.length:Nat):Int)+((b.length:Nat):Int))).toNat) 0:List Int).getD zi 0)))] 128 (pc (show 0≤(ai (((a.length:Nat):Int)+((b.length:Nat):Int))) from c.1) (pc (show (ai (((a.length:Nat):Int)+((b.length:Nat):Int)))≤(ai (((a.length:Nat):Int)+((b.length:Nat):Int))) from (Int.le_refl _)) (pc (show (2:Int) * (ai (((a.length:Nat):Int)+((b.length:Nat):Int)))≤281474976710656 from c.2.1) (pc (show (ai (((a.length:Nat):Int)+((b.length:Nat):Int)))≤9223372036854775807 from c.2.2) (pc (show (ai (((a.length:Nat):Int)+((b.length:Nat):Int))).toNat=(List.replicate ((ai (((a.length:Nat):Int)+((b.length:Nat):Int))).toNat) 0:List Int).length from (cN).symm) (pc (show (ai (((a.length:Nat):Int)+((b.length:Nat):Int))).toNat=(List.replicate ((ai (((a.length:Nat):Int)+((b.length:Nat):Int))).toNat) 0:List Int).length from (cN).symm) (pc (show ∀ zi,zi < (List.replicate ((ai (((a.length:Nat):Int)+((b.length:Nat):Int))).toNat) 0:List Int).length→(fun zi=>(cU .u16) ((List.replicate ((ai (((a.length:Nat):Int)+((b.length:Nat):Int))).toNat) 0:List Int).getD zi 0)) zi=(fun _=>[(w9 0)]) zi from (fun zq eY=>sL (cU .u16) 0 0 ((ai (((a.length:Nat):Int)+((b.length:Nat):Int))).toNat) zq eY)) pn))))))) ?_
 refine ag hE 2 [] [] (kp [1,5,17,18,19]) (kq [96]) 176 pn ?_
 exact cP hE 2 [] (kp [1,5,17,18,19]) [(0,.ah 96)] 1 pn (El N _ _ N _ _ _ h E hE)
noncomputable abbrev aap:=cl Tryz.f100
theorem po (N a b r) (h:qc N a b=some r):Sd 100 [(.agg (lN a)),(.agg (lN b))] [] 0 (.agg (lN r)) []:=by
 unfold qc at h
 refine im (fu:=Tryz.f100) (c:=aap 1) (nt:=18) (fun hm=>rfl) ?_
 intro E hE
 refine ag hE 1 [] [] (kp [2,3,4]) (kq [0,16,32]) 48 pn ?_
 obtain ⟨cb,hr,h⟩:=aQ h
 obtain ⟨jU,eX,h⟩:=aQ h
 obtain ⟨rO,kE,h⟩:=aQ h
 obtain ⟨Mt,nu,h⟩:=aQ h
 refine ag hE 1 [(7,oT (eU cb)),(10,oT (eU jU)),(11,oT (eU rO)),(12,oT (.agg (lN Mt)))] [] (kp [4]) (kq [32]) 272 (pc o1 (pc o1 (pc o1 (pc (fj _ _ _ hr) (pc o1 (pc (fj _ _ _ eX) (pc (Jy _ _ _ _ kE) (pc (ki _ _ _ _ nu) (pc o1 pn))))))))) ?_
 obtain rfl:=cX h
 exact db hE 0 Tryz.f100 [] (kp [4]) [(16,.ah 32)] 272 pn [16] (pc o1 pn)
noncomputable abbrev Gl:=cl Tryz.f125
def Hs (N:Nat) (K:(List Int)→(List Int)→Option ((List Int))):Prop:=∀ (a2:List Int) (b2:List Int) (r:(List Int)),K a2 b2=some r→∀ E,bk E 0→aG Tryz.prog E 125 56 (bc E [] (eU r)) [.code (Gl 14),.code (Gl 15)] ⟨[(0,(eU a2)),(1,(eU b2))],[],0⟩
def An (N:Nat) (a2:List Int) (b2:List Int) (K:(List Int)→Int→Int→Option ((List Int))):Prop:=∀ (out:List Int) (carry:Int) (x:Int) (r:(List Int)),K out carry x=some r→∀ E,bk E 0→aG Tryz.prog E 125 56 (bc E [] (eU r)) [.code (Gl 500),.inLoop (Gl 500),.inBlock 0,.code (Gl 63)] ⟨[(1,(eU b2)),(5,(.os 0 0 out.length)),(6,(Tj carry)),(20,(eU a2)),(21,(aI ((a2.length:Nat):Int))),(22,(aI x))],[(0,aU out)],1⟩
def Ht (N:Nat) (a2:List Int) (b2:List Int) (out:List Int) (x:Int) (K:Int→Option ((List Int))):Prop:=∀ (fP:Int) (r:(List Int)),K fP=some r→∀ E,bk E 0→aG Tryz.prog E 125 56 (bc E [] (eU r)) [.code (Gl 128206),.code (Gl 128207),.inBlock 1,.code (Gl 4007),.inLoop (Gl 500),.inBlock 0,.code (Gl 63)] ⟨[(1,(eU b2)),(5,(.os 0 0 out.length)),(6,(Tj fP)),(20,(eU a2)),(21,(aI ((a2.length:Nat):Int))),(22,(aI x))],[(0,aU out)],1⟩
theorem yO (N:Nat) (a2:List Int) (b2:List Int) (out:List Int) (x:Int) (qU:(List Int)→Int→Int→Option ((List Int))) (Gm:An N a2 b2 qU):Ht N a2 b2 out x (pF N a2 b2 out x qU):=by
 intro fP r h E hE
 unfold pF at h
 obtain ⟨c4,h⟩:=af h
 refine ag hE 0 [] [] (kp [1] ++ [(5,.jq ((out ++ ([(IntKind.u16.wrap (fP))]:List Int)).length))] ++ kp [6,20,21,22]) [(65,.arr 65 ((out ++ ([(IntKind.u16.wrap (fP))]:List Int)).length) (fun zi=>(cU .u16) ((out ++ ([(IntKind.u16.wrap (fP))]:List Int)).getD zi 0)))] 97 (pc (Eq.refl out.length) (pc c4 (pc (z1 1) (pc (show ∀ zi,zi < 1→AV.fJ ((fun zi=>([[(w9 (IntKind.u16.wrap (fP)))]]:List (List AV)).getD zi []) (bC 0 zi))=true from (mI rfl)) (pc (show (out.length+1)=(out ++ ([(IntKind.u16.wrap (fP))]:List Int)).length from (an rfl rfl)) (pc (show out.length+1=(out ++ ([(IntKind.u16.wrap (fP))]:List Int)).length from (an rfl rfl)) (pc (show ∀ zi,zi < (out ++ ([(IntKind.u16.wrap (fP))]:List Int)).length→(fun zi=>(cU .u16) ((out ++ ([(IntKind.u16.wrap (fP))]:List Int)).getD zi 0)) zi=((fun zm=>if zm < out.length then (fun zi=>(cU .u16) (out.getD zi 0)) zm else (fun zi=>([[(w9 (IntKind.u16.wrap (fP)))]]:List (List AV)).getD zi []) (zm - out.length))) zi from (aX (cU .u16) 0 out ([(IntKind.u16.wrap (fP))]:List Int) rfl (fun _ _=>rfl) (fun zq eY=>bB (cU .u16) 0 ([(IntKind.u16.wrap (fP))]:List Int) zq eY))) pn))))))) ?_
 refine ag hE 0 [] [] (kp [1,5,6,20,21,22]) (kq [65]) 145 (pc (show (0:Int)≤16 by decide) pn) ?_
 refine ag hE 1 [] [] (kp [1,5,6,20,21,22]) (kq [65]) 177 pn ?_
 exact cP hE 1 [] (kp [1,5,6,20,21,22]) [(0,.ah 65)] 1 pn (Gm _ _ _ _ h E hE)
theorem Gn (N a2 b2 fuel):An N a2 b2 (j8 N a2 b2 fuel):=by
 induction fuel with
 | zero=>intro _ _ _ r h;rw [j8.eq_1] at h;cases h
 | succ fuel ih =>
  intro out carry x r h E hE
  rw [j8.eq_2] at h
  refine ag hE 1 [] [] (kp [1,5,6,20,21,22,23]) (kq [0]) 17 pn ?_
  refine du 1 23 h (fun jx h=>?_) (fun jx h=>?_)
  ·obtain ⟨c2,h⟩:=af h
   refine ag hE 4 [] [] (kp [1,5,6,7,8,20,21,22]) (kq [0]) 97 (pc c2 pn) ?_
   refine ag hE 1 [] [] (kp [1,5,6,7,20,21,22]) (kq [0]) 177 pn ?_
   refine ag hE 2 [] [] (kp [1,5,6,7,20,21,22,34]) (kq [0]) 241 pn ?_
   refine du 0 34 h (fun rV h=>?_) (fun rV h=>?_)
   ·obtain ⟨c3,h⟩:=af h
    refine ag hE 0 [] [] (kp [1,5,6,20,21,22]) (kq [0]) 369 (pc c3 pn) ?_
    exact cP hE 1 [] (kp [1,5,6,20,21,22]) (kq [0]) 1 pn (yO N _ _ _ _ _ ih _ _ h E hE)
   ·exact cP hE 2 [] (kp [1,5,6,20,21,22]) (kq [0]) 1 pn (yO N _ _ _ _ _ ih _ _ h E hE)
  ·obtain ⟨c5,h⟩:=af h
   obtain ⟨cb,hr,h⟩:=aQ h
   refine ag hE 2 [(5,⟨[],true,(eU cb),[],0,true,none⟩)] [] (kp [4]) [] 129 (pc (Eq.refl out.length) (pc c5 (pc (z1 1) (pc (show ∀ zi,zi < 1→AV.fJ ((fun zi=>([[(w9 (IntKind.u16.wrap (carry)))]]:List (List AV)).getD zi []) (bC 0 zi))=true from (mI rfl)) (pc (show Sd 122 [(.sl (out.length+1) (fun zi=>((fun zm=>if zm < out.length then (fun zi=>(cU .u16) (out.getD zi 0)) zm else (fun zi=>([[(w9 (IntKind.u16.wrap (carry)))]]:List (List AV)).getD zi []) (zm - out.length))) (bC 0 zi)))] [] 0 (eU cb) [] from (Sound.conv (fj _ _ _ hr) (.cons (Alike.sl (an rfl rfl) (aX (cU .u16) 0 out ([(IntKind.u16.wrap (carry))]:List Int) rfl (fun _ _=>rfl) (fun zq eY=>bB (cU .u16) 0 ([(IntKind.u16.wrap (carry))]:List Int) zq eY))) .nil))) (pc (z1 (out.length+1)) pn)))))) ?_
   obtain rfl:=cX h
   exact db hE 0 Tryz.f125 [] (kp [4]) [] 129 pn [] pn
theorem yP (N):Hs N (pG N):=by
 intro a2 b2 r h E hE
 unfold pG at h
 obtain ⟨c,h⟩:=af h
 refine ag hE 0 [] [] (kp [0,1] ++ [(5,.jq ((List.replicate 0 0:List Int).length))]) [(48,.arr 48 ((List.replicate 0 0:List Int).length) (fun zi=>(cU .u16) ((List.replicate 0 0:List Int).getD zi 0)))] 80 (pc (show 0≤(0:Int) from c.1) (pc (show (0:Int)≤(ai (((a2.length:Nat):Int)+1)) from c.2.2.2) (pc (show (2:Int) * (ai (((a2.length:Nat):Int)+1))≤281474976710656 from c.2.1) (pc (show (ai (((a2.length:Nat):Int)+1))≤9223372036854775807 from c.2.2.1) (pc (show 0=(List.replicate 0 0:List Int).length from (cN).symm) (pc (show 0=(List.replicate 0 0:List Int).length from (cN).symm) (pc (show ∀ zi,zi < (List.replicate 0 0:List Int).length→(fun zi=>(cU .u16) ((List.replicate 0 0:List Int).getD zi 0)) zi=(fun _=>[(w9 0)]) zi from (fun zq eY=>sL (cU .u16) 0 0 0 zq eY)) pn))))))) ?_
 refine ag hE 1 [] [] (kp [0,1,5,6]) (kq [48]) 96 pn ?_
 refine ag hE 2 [] [] (kp [1,5,6,20,21,22]) (kq [48]) 144 pn ?_
 exact cP hE 2 [] (kp [1,5,6,20,21,22]) [(0,.ah 48)] 1 pn (Gn N _ _ N _ _ _ _ h E hE)
theorem KU (N a b r) (h:vM N a b=some r):Sd 125 [(eU a),(eU b)] [] 0 (eU r) []:=by
 unfold vM at h
 refine im (fu:=Tryz.f125) (c:=Gl 1) (nt:=56) (fun hm=>rfl) ?_
 intro E hE
 refine ag hE 1 [] [] (kp [0,1]) [] 16 pn ?_
 refine ag hE 2 [] [] (kp [0,1,13]) [] 96 pn ?_
 refine du 0 13 h (fun ee h=>?_) (fun ee h=>?_)
 ·refine ag hE 0 [] [] (kp [0,1]) [] 160 pn ?_
  exact cP hE 1 [] (kp [0,1]) [] 0 pn (yP N _ _ _ h E hE)
 ·exact cP hE 2 [] (kp [0,1]) [] 0 pn (yP N _ _ _ h E hE)
noncomputable abbrev Da:=cl Tryz.f127
def tN (N:Nat) (a:List Int) (b:List Int) (K:(List Int)→Int→Int→Option ((List Int))):Prop:=∀ (out:List Int) (borrow:Int) (x:Int) (r:(List Int)),K out borrow x=some r→∀ E,bk E 0→aG Tryz.prog E 127 50 (bc E [] (eU r)) [.code (Da 244),.inLoop (Da 244),.inBlock 0,.code (Da 31)] ⟨[(1,(eU b)),(5,(.os 0 0 out.length)),(6,(Tj borrow)),(13,(eU a)),(14,(aI ((a.length:Nat):Int))),(15,(aI x))],[(0,aU out)],1⟩
def Gp (N:Nat) (a:List Int) (b:List Int) (out:List Int) (x:Int) (K:Int→Option ((List Int))):Prop:=∀ (y:Int) (r:(List Int)),K y=some r→∀ E,bk E 0→aG Tryz.prog E 127 50 (bc E [] (eU r)) [.code (Da 62670),.code (Da 62671),.inBlock 1,.code (Da 1959),.inLoop (Da 244),.inBlock 0,.code (Da 31)] ⟨[(1,(eU b)),(5,(.os 0 0 out.length)),(7,(aI x)),(8,(w9 (a.getD ((x).toNat) 0))),(9,(Tj y)),(13,(eU a)),(14,(aI ((a.length:Nat):Int))),(15,(aI x))],[(0,aU out)],1⟩
def Gq (N:Nat) (a:List Int) (b:List Int) (out:List Int) (x:Int) (y:Int) (K:Int→Option ((List Int))):Prop:=∀ (kL:Int) (r:(List Int)),K kL=some r→∀ E,bk E 0→aG Tryz.prog E 127 50 (bc E [] (eU r)) [.code (Da 125343),.inBlock 1,.code (Da 1959),.inLoop (Da 244),.inBlock 0,.code (Da 31)] ⟨[(1,(eU b)),(5,(.os 0 0 out.length)),(6,(Tj kL)),(7,(aI x)),(8,(w9 (a.getD ((x).toNat) 0))),(9,(Tj y)),(13,(eU a)),(14,(aI ((a.length:Nat):Int))),(15,(aI x))],[(0,aU out)],1⟩
theorem xF (N:Nat) (a:List Int) (b:List Int) (out:List Int) (x:Int) (y:Int) (fY:(List Int)→Int→Int→Option ((List Int))) (o7:tN N a b fY):Gq N a b out x y (n7 N a b out x y fY):=by
 intro kL r h E hE
 unfold n7 at h
 obtain ⟨c4,h⟩:=af h
 refine ag hE 0 [] [] (kp [1] ++ [(5,.jq ((out.set ((x).toNat) (IntKind.u16.wrap ((IntKind.u32.wrap ((IntKind.u32.wrap ((IntKind.u32.wrap ((a.getD ((x).toNat) 0)))+(hO .u32 kL 16))) - y))))).length))] ++ kp [6,13,14,15]) [(0,.arr 0 ((out.set ((x).toNat) (IntKind.u16.wrap ((IntKind.u32.wrap ((IntKind.u32.wrap ((IntKind.u32.wrap ((a.getD ((x).toNat) 0)))+(hO .u32 kL 16))) - y))))).length) (fun zi=>(cU .u16) ((out.set ((x).toNat) (IntKind.u16.wrap ((IntKind.u32.wrap ((IntKind.u32.wrap ((IntKind.u32.wrap ((a.getD ((x).toNat) 0)))+(hO .u32 kL 16))) - y))))).getD zi 0)))] 193 (pc (show (0:Int)≤16 by decide) (pc c4 (pc (dP c4) (pc (ay out ((x).toNat) (IntKind.u16.wrap ((IntKind.u32.wrap ((IntKind.u32.wrap ((IntKind.u32.wrap ((a.getD ((x).toNat) 0)))+(hO .u32 kL 16))) - y))))) (pc (ay out ((x).toNat) (IntKind.u16.wrap ((IntKind.u32.wrap ((IntKind.u32.wrap ((IntKind.u32.wrap ((a.getD ((x).toNat) 0)))+(hO .u32 kL 16))) - y))))) (pc (cA (cU .u16) 0 out ((x).toNat) (IntKind.u16.wrap ((IntKind.u32.wrap ((IntKind.u32.wrap ((IntKind.u32.wrap ((a.getD ((x).toNat) 0)))+(hO .u32 kL 16))) - y))))) pn)))))) ?_
 refine ag hE 1 [] [] (kp [1,5,6,13,14,15]) (kq [0]) 225 pn ?_
 exact cP hE 1 [] (kp [1,5,6,13,14,15]) (kq [0]) 1 pn (o7 _ _ _ _ h E hE)
theorem xG (N:Nat) (a:List Int) (b:List Int) (out:List Int) (x:Int) (fY:(List Int)→Int→Int→Option ((List Int))) (o7:tN N a b fY):Gp N a b out x (n8 N a b out x fY):=by
 intro y r h E hE
 unfold n8 at h
 refine ag hE 0 [] [] (kp [1,5,6,7,8,9,13,14,15]) (kq [0]) 17 pn ?_
 refine ag hE 2 [] [] (kp [1,5,6,7,8,9,13,14,15,35]) (kq [0]) 81 pn ?_
 refine du 0 35 h (fun rV h=>?_) (fun rV h=>?_)
 ·refine ag hE 0 [] [] (kp [1,5,6,7,8,9,13,14,15]) (kq [0]) 97 pn ?_
  exact cP hE 0 [] (kp [1,5,6,7,8,9,13,14,15]) (kq [0]) 1 pn (xF N _ _ _ _ _ _ o7 _ _ h E hE)
 ·exact cP hE 1 [] (kp [1,5,6,7,8,9,13,14,15]) (kq [0]) 1 pn (xF N _ _ _ _ _ _ o7 _ _ h E hE)
theorem Em (N a b fuel):tN N a b (ig N a b fuel):=by
 induction fuel with
 | zero=>intro _ _ _ r h;rw [ig.eq_1] at h;cases h
 | succ fuel ih =>
  intro out borrow x r h E hE
  rw [ig.eq_2] at h
  refine ag hE 1 [] [] (kp [1,5,6,13,14,15,16]) (kq [0]) 17 pn ?_
  refine du 1 16 h (fun ee h=>?_) (fun ee h=>?_)
  ·obtain ⟨c2,h⟩:=af h
   refine ag hE 4 [] [] (kp [1,5,6,7,8,13,14,15]) (kq [0]) 97 (pc c2 pn) ?_
   refine ag hE 1 [] [] (kp [1,5,7,8,9,13,14,15]) (kq [0]) 129 pn ?_
   refine ag hE 2 [] [] (kp [1,5,7,8,9,13,14,15,24]) (kq [0]) 193 pn ?_
   refine du 0 24 h (fun jx h=>?_) (fun jx h=>?_)
   ·obtain ⟨c3,h⟩:=af h
    refine ag hE 0 [] [] (kp [1,5,7,8,9,13,14,15]) (kq [0]) 321 (pc c3 pn) ?_
    exact cP hE 1 [] (kp [1,5,7,8,9,13,14,15]) (kq [0]) 1 pn (xG N _ _ _ _ _ ih _ _ h E hE)
   ·exact cP hE 2 [] (kp [1,5,7,8,9,13,14,15]) (kq [0]) 1 pn (xG N _ _ _ _ _ ih _ _ h E hE)
  ·obtain ⟨cb,hr,h⟩:=aQ h
   refine ag hE 2 [(1,⟨[],true,(eU cb),[],0,true,none⟩)] [] (kp [4]) [] 65 (pc (fj _ _ _ hr) (pc (z1 out.length) pn)) ?_
   obtain rfl:=cX h
   exact db hE 0 Tryz.f127 [] (kp [4]) [] 65 pn [] pn
theorem BV (N a b r) (h:qI N a b=some r):Sd 127 [(eU a),(eU b)] [] 0 (eU r) []:=by
 unfold qI at h
 refine im (fu:=Tryz.f127) (c:=Da 1) (nt:=50) (fun hm=>rfl) ?_
 intro E hE
 refine ag hE 1 [] [] (kp [0,1]) [] 16 pn ?_
 obtain ⟨c,h⟩:=af h
 refine ag hE 1 [] [] (kp [0,1] ++ [(5,.jq ((List.replicate a.length 0:List Int).length))]) [(48,.arr 48 ((List.replicate a.length 0:List Int).length) (fun zi=>(cU .u16) ((List.replicate a.length 0:List Int).getD zi 0)))] 80 (pc (show 0≤((a.length:Nat):Int) from c.1) (pc (show ((a.length:Nat):Int)≤((a.length:Nat):Int) from (Int.le_refl _)) (pc (show (2:Int) * ((a.length:Nat):Int)≤281474976710656 from c.2.1) (pc (show ((a.length:Nat):Int)≤9223372036854775807 from c.2.2) (pc (show a.length=(List.replicate a.length 0:List Int).length from (cN).symm) (pc (show a.length=(List.replicate a.length 0:List Int).length from (cN).symm) (pc (show ∀ zi,zi < (List.replicate a.length 0:List Int).length→(fun zi=>(cU .u16) ((List.replicate a.length 0:List Int).getD zi 0)) zi=(fun _=>[(w9 0)]) zi from (fun zq eY=>sL (cU .u16) 0 0 a.length zq eY)) pn))))))) ?_
 refine ag hE 1 [] [] (kp [0,1,5,6]) (kq [48]) 96 pn ?_
 refine ag hE 2 [] [] (kp [1,5,6,13,14,15]) (kq [48]) 144 pn ?_
 exact cP hE 2 [] (kp [1,5,6,13,14,15]) [(0,.ah 48)] 1 pn (Em N _ _ N _ _ _ _ h E hE)
noncomputable abbrev aaq:=cl Tryz.f99
theorem MH (N a b r) (h:BI N a b=some r):Sd 99 [(.agg (lN a)),(.agg (lN b))] [] 0 (.agg (lN r)) []:=by
 unfold BI at h
 refine im (fu:=Tryz.f99) (c:=aaq 1) (nt:=40) (fun hm=>rfl) ?_
 intro E hE
 refine ag hE 1 [] [] (kp [2,3,4]) (kq [0,16,32]) 48 pn ?_
 obtain ⟨cb,hr,h⟩:=aQ h
 obtain ⟨jU,eX,h⟩:=aQ h
 refine ag hE 1 [(2,oT (eU cb)),(5,oT (eU jU))] [] (kp [2,3,4,5,6]) (kq [0,16,32]) 176 (pc o1 (pc (fj _ _ _ hr) (pc o1 (pc (fj _ _ _ eX) pn)))) ?_
 refine ag hE 2 [] [] (kp [2,3,4,5,6,17]) (kq [0,16,32]) 256 (pc o1 (pc o1 pn)) ?_
 refine du 0 17 h (fun ee h=>?_) (fun ee h=>?_)
 ·obtain ⟨F0,kE,h⟩:=aQ h
  obtain ⟨Mt,nu,h⟩:=aQ h
  refine ag hE 1 [(4,oT (eU F0)),(5,oT (.agg (lN Mt)))] [] (kp [4]) (kq [32]) 368 (pc o1 (pc (KU _ _ _ _ kE) (pc (ki _ _ _ _ nu) (pc o1 pn)))) ?_
  obtain rfl:=cX h
  exact db hE 0 Tryz.f99 [] (kp [4]) [(16,.ah 32)] 368 pn [16] (pc o1 pn)
 ·obtain ⟨kB,rX,h⟩:=aQ h
  refine ag hE 3 [(2,oT (aI kB))] [] (kp [2,3,4,5,6,27]) (kq [0,16,32]) 320 (pc (yH _ _ _ _ rX) pn) ?_
  refine du 0 27 h (fun jx h=>?_) (fun jx h=>?_)
  ·obtain ⟨tA,xU,h⟩:=aQ h
   obtain ⟨FY,yL,h⟩:=aQ h
   refine ag hE 1 [(4,oT (eU tA)),(5,oT (.agg (lN FY)))] [] (kp [4]) (kq [32]) 432 (pc o1 (pc (BV _ _ _ _ xU) (pc (ki _ _ _ _ yL) (pc o1 pn)))) ?_
   obtain rfl:=cX h
   exact db hE 0 Tryz.f99 [] (kp [4]) [(16,.ah 32)] 432 pn [16] (pc o1 pn)
  ·obtain ⟨w5,Eb,h⟩:=aQ h
   obtain ⟨VK,Ea,h⟩:=aQ h
   refine ag hE 2 [(4,oT (eU w5)),(5,oT (.agg (lN VK)))] [] (kp [4]) (kq [32]) 432 (pc o1 (pc (BV _ _ _ _ Eb) (pc (ki _ _ _ _ Ea) (pc o1 pn)))) ?_
   obtain rfl:=cX h
   exact db hE 0 Tryz.f99 [] (kp [4]) [(16,.ah 32)] 432 pn [16] (pc o1 pn)
noncomputable abbrev aar:=cl Tryz.f59
theorem eN (N x y r) (h:fc N x y=some r):Sd 59 [(.agg (aj x)),(.agg (aj y))] [] 0 (.agg (aj r)) []:=by
 unfold fc at h
 refine im (fu:=Tryz.f59) (c:=aar 1) (nt:=32) (fun hm=>rfl) ?_
 intro E hE
 refine ag hE 1 [] [] (kp [2,3,4]) (kq [0,16,32]) 48 pn ?_
 obtain ⟨gn,hr,h⟩:=aQ h
 refine ag hE 2 [(1,oT (aB gn))] [] (kp [2,3,4,8]) (kq [0,16,32]) 80 (pc o1 (pc (jl _ _ _ hr) pn)) ?_
 refine du 0 8 h (fun ee h=>?_) (fun ee h=>?_)
 ·obtain ⟨wZ,eX,h⟩:=aQ h
  refine ag hE 1 [(1,oT (.agg (aj wZ)))] [] (kp [4]) (kq [32]) 128 (pc o1 (pc (qY _ _ _ eX) (pc o1 pn))) ?_
  obtain rfl:=cX h
  exact db hE 0 Tryz.f59 [] (kp [4]) [(16,.ah 32)] 128 pn [16] (pc o1 pn)
 ·obtain ⟨tB,kE,h⟩:=aQ h
  refine ag hE 3 [(1,oT (aB tB))] [] (kp [2,3,4,12]) (kq [0,16,32]) 112 (pc o1 (pc (jl _ _ _ kE) pn)) ?_
  refine du 0 12 h (fun jx h=>?_) (fun jx h=>?_)
  ·obtain ⟨eS,nu,h⟩:=aQ h
   refine ag hE 1 [(1,oT (.agg (aj eS)))] [] (kp [4]) (kq [32]) 160 (pc o1 (pc (qY _ _ _ nu) (pc o1 pn))) ?_
   obtain rfl:=cX h
   exact db hE 0 Tryz.f59 [] (kp [4]) [(16,.ah 32)] 160 pn [16] (pc o1 pn)
  ·obtain ⟨jV,rX,h⟩:=aQ h
   obtain ⟨oY,xU,h⟩:=aQ h
   refine ag hE 2 [(1,oT (.agg (lN jV))),(3,oT (.agg (lN oY)))] [] (kp [2,3,4,5,6]) (kq [0,16,32,176,192]) 240 (pc o1 (pc (j3 _ _ _ rX) (pc o1 (pc (j3 _ _ _ xU) (pc o1 (pc o1 pn)))))) ?_
   obtain ⟨tC,yL,h⟩:=aQ h
   obtain ⟨nI,Eb,h⟩:=aQ h
   obtain ⟨My,Ea,h⟩:=aQ h
   obtain ⟨F1,xc,h⟩:=aQ h
   obtain ⟨Cr,yQ,h⟩:=aQ h
   refine ag hE 1 [(3,oT (.agg (lN tC))),(7,oT (.agg (lN nI))),(8,oT (.agg (lN My))),(11,oT (.agg (lN F1))),(12,oT (.agg (aj Cr)))] [] (kp [4]) (kq [32]) 464 (pc o1 (pc o1 (pc (po _ _ _ _ yL) (pc o1 (pc o1 (pc (po _ _ _ _ Eb) (pc (MH _ _ _ _ Ea) (pc o1 (pc o1 (pc (po _ _ _ _ xc) (pc (jM _ _ _ _ yQ) (pc o1 pn)))))))))))) ?_
   obtain rfl:=cX h
   exact db hE 0 Tryz.f59 [] (kp [4]) [(16,.ah 32)] 464 pn [16] (pc o1 pn)
noncomputable abbrev aas:=cl Tryz.f49
theorem ft (N x y r) (h:fe N x y=some r):Sd 49 [(.agg (aj x)),(.agg (aj y))] [] 0 (.agg (aj r)) []:=by
 unfold fe at h
 refine im (fu:=Tryz.f49) (c:=aas 1) (nt:=9) (fun hm=>rfl) ?_
 intro E hE
 refine ag hE 1 [] [] (kp [2,3,4]) (kq [0,16,32]) 48 pn ?_
 obtain ⟨bg,hr,h⟩:=aQ h
 obtain ⟨bO,eX,h⟩:=aQ h
 refine ag hE 1 [(2,oT (.agg (aj bg))),(3,oT (.agg (aj bO)))] [] (kp [4]) (kq [32]) 128 (pc o1 (pc o1 (pc (kV _ _ _ hr) (pc (eN _ _ _ _ eX) (pc o1 pn))))) ?_
 obtain rfl:=cX h
 exact db hE 0 Tryz.f49 [] (kp [4]) [(16,.ah 32)] 128 pn [16] (pc o1 pn)
noncomputable abbrev aat:=cl Tryz.f58
theorem jm (N x y r) (h:gz N x y=some r):Sd 58 [(.agg (aj x)),(.agg (aj y))] [] 0 (aI r) []:=by
 unfold gz at h
 refine im (fu:=Tryz.f58) (c:=aat 1) (nt:=9) (fun hm=>rfl) ?_
 intro E hE
 refine ag hE 1 [] [] (kp [2,3]) (kq [0,16]) 48 pn ?_
 obtain ⟨av,hr,h⟩:=aQ h
 obtain ⟨aL,eX,h⟩:=aQ h
 refine ag hE 1 [(2,oT (.agg (aj av))),(3,oT (aI aL))] [] (kp [4]) [] 128 (pc o1 (pc o1 (pc (ft _ _ _ _ hr) (pc (qZ _ _ _ eX) pn)))) ?_
 obtain rfl:=cX h
 exact db hE 0 Tryz.f58 [] (kp [4]) [] 128 pn [] pn
noncomputable abbrev aau:=cl Tryz.f106
theorem uA (N x y r) (h:rl N x y=some r):Sd 106 [(.agg (aj x)),(.agg (aj y))] [] 0 (.agg (aj r)) []:=by
 unfold rl at h
 refine im (fu:=Tryz.f106) (c:=aau 1) (nt:=16) (fun hm=>rfl) ?_
 intro E hE
 refine ag hE 1 [] [] (kp [2,3,4]) (kq [0,16,32]) 48 pn ?_
 obtain ⟨jV,hr,h⟩:=aQ h
 obtain ⟨tC,eX,h⟩:=aQ h
 obtain ⟨oY,kE,h⟩:=aQ h
 obtain ⟨nI,nu,h⟩:=aQ h
 obtain ⟨Cr,rX,h⟩:=aQ h
 refine ag hE 1 [(3,oT (.agg (lN jV))),(4,oT (.agg (lN tC))),(6,oT (.agg (lN oY))),(9,oT (.agg (lN nI))),(10,oT (.agg (aj Cr)))] [] (kp [4]) (kq [32]) 240 (pc o1 (pc o1 (pc (j3 _ _ _ hr) (pc (po _ _ _ _ eX) (pc o1 (pc (j3 _ _ _ kE) (pc o1 (pc (po _ _ _ _ nu) (pc (jM _ _ _ _ rX) (pc o1 pn)))))))))) ?_
 obtain rfl:=cX h
 exact db hE 0 Tryz.f106 [] (kp [4]) [(16,.ah 32)] 240 pn [16] (pc o1 pn)
noncomputable abbrev aav:=cl Tryz.f60
theorem dd (N x y r) (h:dQ N x y=some r):Sd 60 [(.agg (aj x)),(.agg (aj y))] [] 0 (.agg (aj r)) []:=by
 unfold dQ at h
 refine im (fu:=Tryz.f60) (c:=aav 1) (nt:=16) (fun hm=>rfl) ?_
 intro E hE
 refine ag hE 1 [] [] (kp [2,3,4]) (kq [0,16,32]) 48 pn ?_
 obtain ⟨tC,hr,h⟩:=aQ h
 obtain ⟨jV,eX,h⟩:=aQ h
 obtain ⟨oY,kE,h⟩:=aQ h
 obtain ⟨nI,nu,h⟩:=aQ h
 obtain ⟨Cr,rX,h⟩:=aQ h
 refine ag hE 1 [(4,oT (.agg (lN tC))),(6,oT (.agg (lN jV))),(8,oT (.agg (lN oY))),(9,oT (.agg (lN nI))),(10,oT (.agg (aj Cr)))] [] (kp [4]) (kq [32]) 240 (pc o1 (pc o1 (pc (po _ _ _ _ hr) (pc o1 (pc (j3 _ _ _ eX) (pc o1 (pc (j3 _ _ _ kE) (pc (po _ _ _ _ nu) (pc (jM _ _ _ _ rX) (pc o1 pn)))))))))) ?_
 obtain rfl:=cX h
 exact db hE 0 Tryz.f60 [] (kp [4]) [(16,.ah 32)] 240 pn [16] (pc o1 pn)
noncomputable abbrev QZ:=cl Tryz.f107
def rv (N:Nat) (j:Int) (f:aa) (C0:List aa) (K:(List aa)→Int→Option ((List aa))):Prop:=∀ (bE:List aa) (x:Int) (r:(List aa)),K bE x=some r→∀ E,bk E 1→aG Tryz.prog E 107 49 (bc E [(0,aO 4 aj aa.d r)] (.tup [])) [.code (QZ 28),.inLoop (QZ 28),.inBlock 0] ⟨[(1,(.os 0 0 bE.length)),(2,(.os 0 0 bE.length)),(3,(aI j)),(9,(.op 1 0 0)),(12,(aI ((C0.length:Nat):Int))),(13,(aI x))],[(0,aO 4 aj aa.d bE),(1,vO 4 (aj f))],2⟩
def yR (N:Nat) (j:Int) (f:aa) (C0:List aa) (x:Int) (K:(List aa)→Option ((List aa))):Prop:=∀ (cr:List aa) (r:(List aa)),K cr=some r→∀ E,bk E 1→aG Tryz.prog E 107 49 (bc E [(0,aO 4 aj aa.d r)] (.tup [])) [.code (QZ 231),.inLoop (QZ 28),.inBlock 0] ⟨[(1,(.os 0 0 cr.length)),(2,(.os 0 0 cr.length)),(3,(aI j)),(9,(.op 1 0 0)),(12,(aI ((C0.length:Nat):Int))),(13,(aI x))],[(0,aO 4 aj aa.d cr),(1,vO 4 (aj f))],2⟩
theorem nb (N:Nat) (j:Int) (f:aa) (C0:List aa) (x:Int) (ll:(List aa)→Int→Option ((List aa))) (xV:rv N j f C0 ll):yR N j f C0 x (kC N j f C0 x ll):=by
 intro cr r h E hE
 unfold kC at h
 refine ag hE 0 [] [] (kp [1,2,3,9,12,13]) (kq [0,1]) 34 pn ?_
 exact cP hE 1 [] (kp [1,2,3,9,12,13]) (kq [0,1]) 2 pn (xV _ _ _ h E hE)
theorem xW (N j f C0 fuel):rv N j f C0 (gA N j f C0 fuel):=by
 induction fuel with
 | zero=>intro _ _ r h;rw [gA.eq_1] at h;cases h
 | succ fuel ih =>
  intro bE x r h E hE
  rw [gA.eq_2] at h
  refine ag hE 1 [] [] (kp [1,2,3,9,12,13,14]) (kq [0,1]) 18 pn ?_
  refine du 1 14 h (fun ee h=>?_) (fun ee h=>?_)
  ·refine ag hE 4 [] [] (kp [1,2,3,9,10,12,13]) (kq [0,1]) 50 pn ?_
   refine ag hE 1 [] [] (kp [1,2,3,9,10,12,13,18]) (kq [0,1]) 98 pn ?_
   refine du 0 18 h (fun jx h=>?_) (fun jx h=>?_)
   ·obtain ⟨c,h⟩:=af h
    obtain ⟨cE,hr,h⟩:=aQ h
    refine ag hE 0 [(7,oT (.agg (aj cE)))] [] ([(1,.jq ((bE.set ((x).toNat) cE).length)),(2,.jq ((bE.set ((x).toNat) cE).length))] ++ kp [3,9,12,13]) ([(0,.arr 0 ((bE.set ((x).toNat) cE).length) (fun zi=>aj ((bE.set ((x).toNat) cE).getD zi aa.d)))] ++ kq [1]) 258 (pc o1 (pc c (pc (dP c) (pc (dd _ _ _ _ hr) (pc c (pc (dP c) (pc (ay bE ((x).toNat) cE) (pc (ay bE ((x).toNat) cE) (pc (ay bE ((x).toNat) cE) (pc (cA aj aa.d bE ((x).toNat) cE) pn)))))))))) ?_
    exact cP hE 1 [] (kp [1,2,3,9,12,13]) (kq [0,1]) 2 pn (nb N _ _ _ _ _ ih _ _ h E hE)
   ·obtain ⟨c2,h⟩:=af h
    obtain ⟨gn,eX,h⟩:=aQ h
    refine ag hE 1 [(4,oT (aB gn))] [] (kp [1,2,3,9,10,12,13,33]) (kq [0,1]) 194 (pc c2 (pc (dP c2) (pc (jl _ _ _ eX) pn))) ?_
    refine du 0 33 h (fun rV h=>?_) (fun rV h=>?_)
    ·obtain ⟨dG,kE,h⟩:=aQ h
     obtain ⟨bO,nu,h⟩:=aQ h
     refine ag hE 0 [(11,oT (.agg (aj dG))),(12,oT (.agg (aj bO)))] [] ([(1,.jq ((bE.set ((x).toNat) bO).length)),(2,.jq ((bE.set ((x).toNat) bO).length))] ++ kp [3,9,12,13]) ([(0,.arr 0 ((bE.set ((x).toNat) bO).length) (fun zi=>aj ((bE.set ((x).toNat) bO).getD zi aa.d)))] ++ kq [1]) 434 (pc c2 (pc (dP c2) (pc o1 (pc c2 (pc (dP c2) (pc (dd _ _ _ _ kE) (pc (eN _ _ _ _ nu) (pc c2 (pc (dP c2) (pc (ay bE ((x).toNat) bO) (pc (ay bE ((x).toNat) bO) (pc (ay bE ((x).toNat) bO) (pc (cA aj aa.d bE ((x).toNat) bO) pn))))))))))))) ?_
     exact cP hE 1 [] (kp [1,2,3,9,12,13]) (kq [0,1]) 2 pn (nb N _ _ _ _ _ ih _ _ h E hE)
    ·exact cP hE 2 [] (kp [1,2,3,9,12,13]) (kq [0,1]) 2 pn (nb N _ _ _ _ _ ih _ _ h E hE)
  ·obtain rfl:=cX h
   exact Z6 hE 1 Tryz.f107 [] [] (kq [0]) 49 pn [] pn
theorem AU (N j f C0 r) (h:rP N j f C0=some r):Sd 107 [.mH,(.os 0 0 C0.length),(.os 0 0 C0.length),(aI j),(.agg (aj f))] [(0,aO 4 aj aa.d C0)] 1 (.tup []) [(0,aO 4 aj aa.d r)]:=by
 unfold rP at h
 refine im (fu:=Tryz.f107) (c:=QZ 1) (nt:=49) (fun hm=>absurd hm (by decide)) ?_
 intro E hE
 refine ag hE 1 [] [] (kp [1,2,3,9]) (kq [0,1]) 17 pn ?_
 refine ag hE 1 [] [] (kp [1,2,3,9,12,13]) (kq [0,1]) 65 pn ?_
 exact cP hE 2 [] (kp [1,2,3,9,12,13]) (kq [0,1]) 2 pn (xW N _ _ _ N _ _ _ h E hE)
noncomputable abbrev Q1:=cl Tryz.f107
def pL (N:Nat) (j:Int) (f:aa) (C0:List aa) (C1:List aa) (K:(List aa)→Int→Option ((List aa))):Prop:=∀ (bE:List aa) (x:Int) (r:(List aa)),K bE x=some r→∀ E,bk E 2→aG Tryz.prog E 107 49 (bc E [(0,aO 4 aj aa.d r),(1,aO 4 aj aa.d C1)] (.tup [])) [.code (Q1 28),.inLoop (Q1 28),.inBlock 0] ⟨[(1,(.os 0 0 bE.length)),(2,(.os 1 0 C1.length)),(3,(aI j)),(9,(.op 2 0 0)),(12,(aI ((C0.length:Nat):Int))),(13,(aI x))],[(0,aO 4 aj aa.d bE),(1,aO 4 aj aa.d C1),(2,vO 4 (aj f))],3⟩
def vU (N:Nat) (j:Int) (f:aa) (C0:List aa) (C1:List aa) (x:Int) (K:(List aa)→Option ((List aa))):Prop:=∀ (cr:List aa) (r:(List aa)),K cr=some r→∀ E,bk E 2→aG Tryz.prog E 107 49 (bc E [(0,aO 4 aj aa.d r),(1,aO 4 aj aa.d C1)] (.tup [])) [.code (Q1 231),.inLoop (Q1 28),.inBlock 0] ⟨[(1,(.os 0 0 cr.length)),(2,(.os 1 0 C1.length)),(3,(aI j)),(9,(.op 2 0 0)),(12,(aI ((C0.length:Nat):Int))),(13,(aI x))],[(0,aO 4 aj aa.d cr),(1,aO 4 aj aa.d C1),(2,vO 4 (aj f))],3⟩
theorem lH (N:Nat) (j:Int) (f:aa) (C0:List aa) (C1:List aa) (x:Int) (jA:(List aa)→Int→Option ((List aa))) (u6:pL N j f C0 C1 jA):vU N j f C0 C1 x (fV N j f C0 C1 x jA):=by
 intro cr r h E hE
 unfold fV at h
 refine ag hE 0 [] [] (kp [1,2,3,9,12,13]) (kq [0,1,2]) 35 pn ?_
 exact cP hE 1 [] (kp [1,2,3,9,12,13]) (kq [0,1,2]) 3 pn (u6 _ _ _ h E hE)
theorem u7 (N j f C0 C1 fuel):pL N j f C0 C1 (cL N j f C0 C1 fuel):=by
 induction fuel with
 | zero=>intro _ _ r h;rw [cL.eq_1] at h;cases h
 | succ fuel ih =>
  intro bE x r h E hE
  rw [cL.eq_2] at h
  refine ag hE 1 [] [] (kp [1,2,3,9,12,13,14]) (kq [0,1,2]) 19 pn ?_
  refine du 1 14 h (fun ee h=>?_) (fun ee h=>?_)
  ·refine ag hE 4 [] [] (kp [1,2,3,9,10,12,13]) (kq [0,1,2]) 51 pn ?_
   refine ag hE 1 [] [] (kp [1,2,3,9,10,12,13,18]) (kq [0,1,2]) 99 pn ?_
   refine du 0 18 h (fun jx h=>?_) (fun jx h=>?_)
   ·obtain ⟨c,h⟩:=af h
    obtain ⟨cE,hr,h⟩:=aQ h
    obtain ⟨c2,h⟩:=af h
    refine ag hE 0 [(7,oT (.agg (aj cE)))] [] ([(1,.jq ((bE.set ((x).toNat) cE).length))] ++ kp [2,3,9,12,13]) ([(0,.arr 0 ((bE.set ((x).toNat) cE).length) (fun zi=>aj ((bE.set ((x).toNat) cE).getD zi aa.d)))] ++ kq [1,2]) 259 (pc o1 (pc c (pc (dP c) (pc (dd _ _ _ _ hr) (pc c2 (pc (dP c2) (pc (ay bE ((x).toNat) cE) (pc (ay bE ((x).toNat) cE) (pc (cA aj aa.d bE ((x).toNat) cE) pn))))))))) ?_
    exact cP hE 1 [] (kp [1,2,3,9,12,13]) (kq [0,1,2]) 3 pn (lH N _ _ _ _ _ _ ih _ _ h E hE)
   ·obtain ⟨c3,h⟩:=af h
    obtain ⟨gn,eX,h⟩:=aQ h
    refine ag hE 1 [(4,oT (aB gn))] [] (kp [1,2,3,9,10,12,13,33]) (kq [0,1,2]) 195 (pc c3 (pc (dP c3) (pc (jl _ _ _ eX) pn))) ?_
    refine du 0 33 h (fun rV h=>?_) (fun rV h=>?_)
    ·obtain ⟨c4,h⟩:=af h
     obtain ⟨dG,kE,h⟩:=aQ h
     obtain ⟨bO,nu,h⟩:=aQ h
     refine ag hE 0 [(11,oT (.agg (aj dG))),(12,oT (.agg (aj bO)))] [] ([(1,.jq ((bE.set ((x).toNat) bO).length))] ++ kp [2,3,9,12,13]) ([(0,.arr 0 ((bE.set ((x).toNat) bO).length) (fun zi=>aj ((bE.set ((x).toNat) bO).getD zi aa.d)))] ++ kq [1,2]) 435 (pc c4 (pc (dP c4) (pc o1 (pc c3 (pc (dP c3) (pc (dd _ _ _ _ kE) (pc (eN _ _ _ _ nu) (pc c4 (pc (dP c4) (pc (ay bE ((x).toNat) bO) (pc (ay bE ((x).toNat) bO) (pc (cA aj aa.d bE ((x).toNat) bO) pn)))))))))))) ?_
     exact cP hE 1 [] (kp [1,2,3,9,12,13]) (kq [0,1,2]) 3 pn (lH N _ _ _ _ _ _ ih _ _ h E hE)
    ·exact cP hE 2 [] (kp [1,2,3,9,12,13]) (kq [0,1,2]) 3 pn (lH N _ _ _ _ _ _ ih _ _ h E hE)
  ·obtain rfl:=cX h
   exact Z6 hE 1 Tryz.f107 [] [] (kq [0,1]) 50 pn [] pn
theorem nc (N j f C0 C1 r) (h:iZ N j f C0 C1=some r):Sd 107 [.mH,(.os 0 0 C0.length),(.os 1 0 C1.length),(aI j),(.agg (aj f))] [(0,aO 4 aj aa.d C0),(1,aO 4 aj aa.d C1)] 2 (.tup []) [(0,aO 4 aj aa.d r),(1,aO 4 aj aa.d C1)]:=by
 unfold iZ at h
 refine im (fu:=Tryz.f107) (c:=Q1 1) (nt:=49) (fun hm=>absurd hm (by decide)) ?_
 intro E hE
 refine ag hE 1 [] [] (kp [1,2,3,9]) (kq [0,1,2]) 18 pn ?_
 refine ag hE 1 [] [] (kp [1,2,3,9,12,13]) (kq [0,1,2]) 66 pn ?_
 exact cP hE 2 [] (kp [1,2,3,9,12,13]) (kq [0,1,2]) 3 pn (u7 N _ _ _ _ N _ _ _ h E hE)
noncomputable abbrev BW:=cl Tryz.f72
def qk (N:Nat) (i:Int) (j:Int) (C0:Int) (bE:Int) (cr:Bool) (dn:List Int) (dw:Bool) (dx:List Int) (dk:Int) (C1:List Int) (C2:List Int) (C3:List (List aa)) (C4:List aa) (C5:List aa) (K:(List aa)→Int→Option (l7×(List Int)×(List Int)×(List (List aa))×(List aa)×(List aa))):Prop:=∀ (tD:List aa) (x:Int) (r:l7×(List Int)×(List Int)×(List (List aa))×(List aa)×(List aa)),K tD x=some r→∀ E,bk E 6→aG Tryz.prog E 72 194 (bc E [(0,vN 12 [(aI r.1.xQ),(aI r.1.xR),(.os 1 0 r.2.1.length),(.os 2 0 r.2.2.1.length),(.os 3 0 r.2.2.2.1.length),(.os 4 0 r.2.2.2.2.1.length),(.os 5 0 r.2.2.2.2.2.length),(aB r.1.ak.fN.fG),(eU r.1.ak.fN.fL),(aB r.1.ak.fD.fG),(eU r.1.ak.fD.fL),(aI r.1.cy)]),(1,aO 1 cI 0 r.2.1),(2,aO 1 cI 0 r.2.2.1),(3,aM 4 aj aa.d r.2.2.2.1),(4,aO 4 aj aa.d r.2.2.2.2.1),(5,aO 4 aj aa.d r.2.2.2.2.2)] (.tup [])) [.code (BW 116),.inLoop (BW 116),.inBlock 0,.code (BW 15)] ⟨[(0,(.op 0 0 0)),(1,(aI i)),(2,(aI j)),(6,(.op 7 0 0)),(7,(.os 6 0 tD.length)),(30,(aI (((C3.getD ((i).toNat) []).length:Nat):Int))),(31,(aI x))],[(0,vN 12 [(aI C0),(aI bE),(.os 1 0 C1.length),(.os 2 0 C2.length),(.os 3 0 C3.length),(.os 4 0 C4.length),(.os 5 0 C5.length),(aB cr),(eU dn),(aB dw),(eU dx),(aI dk)]),(1,aO 1 cI 0 C1),(2,aO 1 cI 0 C2),(3,⟨false,1,C3.length,false,ba [((i).toNat,6,tD.length)] (mG C3)⟩),(4,aO 4 aj aa.d C4),(5,aO 4 aj aa.d C5),(6,aO 4 aj aa.d tD),(7,vO 4 [(aB ((((C3.getD ((i).toNat) []).getD ((j).toNat) aa.d).fN).fG)),(eU ((((C3.getD ((i).toNat) []).getD ((j).toNat) aa.d).fN).fL)),(aB ((((C3.getD ((i).toNat) []).getD ((j).toNat) aa.d).fD).fG)),(eU ((((C3.getD ((i).toNat) []).getD ((j).toNat) aa.d).fD).fL))])],8⟩
def xd (N:Nat) (i:Int) (j:Int) (C0:Int) (bE:Int) (cr:Bool) (dn:List Int) (dw:Bool) (dx:List Int) (dk:Int) (C1:List Int) (C2:List Int) (C3:List (List aa)) (C4:List aa) (C5:List aa) (x:Int) (K:(List aa)→Option (l7×(List Int)×(List Int)×(List (List aa))×(List aa)×(List aa))):Prop:=∀ (F2:List aa) (r:l7×(List Int)×(List Int)×(List (List aa))×(List aa)×(List aa)),K F2=some r→∀ E,bk E 6→aG Tryz.prog E 72 194 (bc E [(0,vN 12 [(aI r.1.xQ),(aI r.1.xR),(.os 1 0 r.2.1.length),(.os 2 0 r.2.2.1.length),(.os 3 0 r.2.2.2.1.length),(.os 4 0 r.2.2.2.2.1.length),(.os 5 0 r.2.2.2.2.2.length),(aB r.1.ak.fN.fG),(eU r.1.ak.fN.fL),(aB r.1.ak.fD.fG),(eU r.1.ak.fD.fL),(aI r.1.cy)]),(1,aO 1 cI 0 r.2.1),(2,aO 1 cI 0 r.2.2.1),(3,aM 4 aj aa.d r.2.2.2.1),(4,aO 4 aj aa.d r.2.2.2.2.1),(5,aO 4 aj aa.d r.2.2.2.2.2)] (.tup [])) [.code (BW 935),.inLoop (BW 116),.inBlock 0,.code (BW 15)] ⟨[(0,(.op 0 0 0)),(1,(aI i)),(2,(aI j)),(6,(.op 7 0 0)),(7,(.os 6 0 F2.length)),(30,(aI (((C3.getD ((i).toNat) []).length:Nat):Int))),(31,(aI x))],[(0,vN 12 [(aI C0),(aI bE),(.os 1 0 C1.length),(.os 2 0 C2.length),(.os 3 0 C3.length),(.os 4 0 C4.length),(.os 5 0 C5.length),(aB cr),(eU dn),(aB dw),(eU dx),(aI dk)]),(1,aO 1 cI 0 C1),(2,aO 1 cI 0 C2),(3,⟨false,1,C3.length,false,ba [((i).toNat,6,F2.length)] (mG C3)⟩),(4,aO 4 aj aa.d C4),(5,aO 4 aj aa.d C5),(6,aO 4 aj aa.d F2),(7,vO 4 [(aB ((((C3.getD ((i).toNat) []).getD ((j).toNat) aa.d).fN).fG)),(eU ((((C3.getD ((i).toNat) []).getD ((j).toNat) aa.d).fN).fL)),(aB ((((C3.getD ((i).toNat) []).getD ((j).toNat) aa.d).fD).fG)),(eU ((((C3.getD ((i).toNat) []).getD ((j).toNat) aa.d).fD).fL))])],8⟩
theorem pM (N:Nat) (i:Int) (j:Int) (C0:Int) (bE:Int) (cr:Bool) (dn:List Int) (dw:Bool) (dx:List Int) (dk:Int) (C1:List Int) (C2:List Int) (C3:List (List aa)) (C4:List aa) (C5:List aa) (x:Int) (jX:(List aa)→Int→Option (l7×(List Int)×(List Int)×(List (List aa))×(List aa)×(List aa))) (vV:qk N i j C0 bE cr dn dw dx dk C1 C2 C3 C4 C5 jX):xd N i j C0 bE cr dn dw dx dk C1 C2 C3 C4 C5 x (jt N i j C0 bE cr dn dw dx dk C1 C2 C3 C4 C5 x jX):=by
 intro F2 r h E hE
 unfold jt at h
 refine ag hE 0 [] [] (kp [0,1,2,6,7,30,31]) (kq [0,1,2] ++ [(3,.qu 3 (C3.length) [((i).toNat,6,F2.length)] (mG C3))] ++ kq [4,5,6,7]) 40 (pc (Eq.refl C3.length) (pc (mC C3 [((i).toNat,6,F2.length)]) (pc (iM C3) pn))) ?_
 exact cP hE 1 [] (kp [0,1,2,6,7,30,31]) (kq [0,1,2] ++ [(3,.qu 3 (C3.length) [((i).toNat,6,F2.length)] (mG C3))] ++ kq [4,5,6,7]) 8 (pc (Eq.refl C3.length) (pc (mC C3 [((i).toNat,6,F2.length)]) (pc (iM C3) pn))) (vV _ _ _ h E hE)
def ql (N:Nat) (i:Int) (j:Int) (C0:Int) (bE:Int) (cr:Bool) (dn:List Int) (dw:Bool) (dx:List Int) (dk:Int) (C1:List Int) (C2:List Int) (C3:List (List aa)) (C5:List aa) (K:(List (List aa))→(List aa)→(List aa)→Int→Option (l7×(List Int)×(List Int)×(List (List aa))×(List aa)×(List aa))):Prop:=∀ (cm:List (List aa)) (bZ:List aa) (oD:List aa) (x2:Int) (r:l7×(List Int)×(List Int)×(List (List aa))×(List aa)×(List aa)),K cm bZ oD x2=some r→∀ E,bk E 6→aG Tryz.prog E 72 194 (bc E [(0,vN 12 [(aI r.1.xQ),(aI r.1.xR),(.os 1 0 r.2.1.length),(.os 2 0 r.2.2.1.length),(.os 3 0 r.2.2.2.1.length),(.os 4 0 r.2.2.2.2.1.length),(.os 5 0 r.2.2.2.2.2.length),(aB r.1.ak.fN.fG),(eU r.1.ak.fN.fL),(aB r.1.ak.fD.fG),(eU r.1.ak.fD.fL),(aI r.1.cy)]),(1,aO 1 cI 0 r.2.1),(2,aO 1 cI 0 r.2.2.1),(3,aM 4 aj aa.d r.2.2.2.1),(4,aO 4 aj aa.d r.2.2.2.2.1),(5,aO 4 aj aa.d r.2.2.2.2.2)] (.tup [])) [.code (BW 1012),.inLoop (BW 1012),.inBlock 2,.code (BW 127)] ⟨[(0,(.op 0 0 0)),(1,(aI i)),(2,(aI j)),(7,(.os 6 0 bZ.length)),(74,(aI ((C3.length:Nat):Int))),(75,(aI x2))],[(0,vN 12 [(aI C0),(aI bE),(.os 1 0 C1.length),(.os 2 0 C2.length),(.os 3 0 cm.length),(.os 4 0 oD.length),(.os 5 0 C5.length),(aB cr),(eU dn),(aB dw),(eU dx),(aI dk)]),(1,aO 1 cI 0 C1),(2,aO 1 cI 0 C2),(3,⟨false,1,cm.length,false,ba [((i).toNat,6,bZ.length)] (mG cm)⟩),(4,aO 4 aj aa.d oD),(5,aO 4 aj aa.d C5),(6,aO 4 aj aa.d bZ)],7⟩
def xe (N:Nat) (i:Int) (j:Int) (C0:Int) (bE:Int) (cr:Bool) (dn:List Int) (dw:Bool) (dx:List Int) (dk:Int) (C1:List Int) (C2:List Int) (C3:List (List aa)) (C5:List aa) (x2:Int) (K:(List (List aa))→(List aa)→(List aa)→Option (l7×(List Int)×(List Int)×(List (List aa))×(List aa)×(List aa))):Prop:=∀ (lP:List (List aa)) (F3:List aa) (qd:List aa) (r:l7×(List Int)×(List Int)×(List (List aa))×(List aa)×(List aa)),K lP F3 qd=some r→∀ E,bk E 6→aG Tryz.prog E 72 194 (bc E [(0,vN 12 [(aI r.1.xQ),(aI r.1.xR),(.os 1 0 r.2.1.length),(.os 2 0 r.2.2.1.length),(.os 3 0 r.2.2.2.1.length),(.os 4 0 r.2.2.2.2.1.length),(.os 5 0 r.2.2.2.2.2.length),(aB r.1.ak.fN.fG),(eU r.1.ak.fN.fL),(aB r.1.ak.fD.fG),(eU r.1.ak.fD.fL),(aI r.1.cy)]),(1,aO 1 cI 0 r.2.1),(2,aO 1 cI 0 r.2.2.1),(3,aM 4 aj aa.d r.2.2.2.1),(4,aO 4 aj aa.d r.2.2.2.2.1),(5,aO 4 aj aa.d r.2.2.2.2.2)] (.tup [])) [.code (BW 8103),.inLoop (BW 1012),.inBlock 2,.code (BW 127)] ⟨[(0,(.op 0 0 0)),(1,(aI i)),(2,(aI j)),(7,(.os 6 0 F3.length)),(74,(aI ((C3.length:Nat):Int))),(75,(aI x2))],[(0,vN 12 [(aI C0),(aI bE),(.os 1 0 C1.length),(.os 2 0 C2.length),(.os 3 0 lP.length),(.os 4 0 qd.length),(.os 5 0 C5.length),(aB cr),(eU dn),(aB dw),(eU dx),(aI dk)]),(1,aO 1 cI 0 C1),(2,aO 1 cI 0 C2),(3,⟨false,1,lP.length,false,ba [((i).toNat,6,F3.length)] (mG lP)⟩),(4,aO 4 aj aa.d qd),(5,aO 4 aj aa.d C5),(6,aO 4 aj aa.d F3)],7⟩
theorem gR (N:Nat) (i:Int) (j:Int) (C0:Int) (bE:Int) (cr:Bool) (dn:List Int) (dw:Bool) (dx:List Int) (dk:Int) (C1:List Int) (C2:List Int) (C3:List (List aa)) (C5:List aa) (x2:Int) (jY:(List (List aa))→(List aa)→(List aa)→Int→Option (l7×(List Int)×(List Int)×(List (List aa))×(List aa)×(List aa))) (vW:ql N i j C0 bE cr dn dw dx dk C1 C2 C3 C5 jY):xe N i j C0 bE cr dn dw dx dk C1 C2 C3 C5 x2 (dH N i j C0 bE cr dn dw dx dk C1 C2 C3 C5 x2 jY):=by
 intro lP F3 qd r h E hE
 unfold dH at h
 refine ag hE 0 [] [] (kp [0,1,2,7,74,75]) (kq [0,1,2] ++ [(3,.qu 3 (lP.length) [((i).toNat,6,F3.length)] (mG lP))] ++ kq [4,5,6]) 39 (pc (Eq.refl lP.length) (pc (mC lP [((i).toNat,6,F3.length)]) (pc (iM lP) pn))) ?_
 exact cP hE 1 [] (kp [0,1,2,7,74,75]) (kq [0,1,2] ++ [(3,.qu 3 (lP.length) [((i).toNat,6,F3.length)] (mG lP))] ++ kq [4,5,6]) 7 (pc (Eq.refl lP.length) (pc (mC lP [((i).toNat,6,F3.length)]) (pc (iM lP) pn))) (vW _ _ _ _ _ h E hE)
def xf (N:Nat) (i:Int) (j:Int) (C0:Int) (bE:Int) (dk:Int) (C1:List Int) (C2:List Int) (cm:List (List aa)) (bZ:List aa) (oD:List aa) (K:(List aa)→Bool→(List Int)→Bool→(List Int)→Option (l7×(List Int)×(List Int)×(List (List aa))×(List aa)×(List aa))):Prop:=∀ (gG:List aa) (qw:Bool) (qx:List Int) (uf:Bool) (ug:List Int) (r:l7×(List Int)×(List Int)×(List (List aa))×(List aa)×(List aa)),K gG qw qx uf ug=some r→∀ E,bk E 6→aG Tryz.prog E 72 194 (bc E [(0,vN 12 [(aI r.1.xQ),(aI r.1.xR),(.os 1 0 r.2.1.length),(.os 2 0 r.2.2.1.length),(.os 3 0 r.2.2.2.1.length),(.os 4 0 r.2.2.2.2.1.length),(.os 5 0 r.2.2.2.2.2.length),(aB r.1.ak.fN.fG),(eU r.1.ak.fN.fL),(aB r.1.ak.fD.fG),(eU r.1.ak.fD.fL),(aI r.1.cy)]),(1,aO 1 cI 0 r.2.1),(2,aO 1 cI 0 r.2.2.1),(3,aM 4 aj aa.d r.2.2.2.1),(4,aO 4 aj aa.d r.2.2.2.2.1),(5,aO 4 aj aa.d r.2.2.2.2.2)] (.tup [])) [.code (BW 255)] ⟨[(0,(.op 0 0 0)),(1,(aI i)),(2,(aI j))],[(0,vN 12 [(aI C0),(aI bE),(.os 1 0 C1.length),(.os 2 0 C2.length),(.os 3 0 ((cm.set ((i).toNat) bZ).length)),(.os 4 0 oD.length),(.os 5 0 gG.length),(aB qw),(eU qx),(aB uf),(eU ug),(aI dk)]),(1,aO 1 cI 0 C1),(2,aO 1 cI 0 C2),(3,aM 4 aj aa.d (cm.set ((i).toNat) bZ)),(4,aO 4 aj aa.d oD),(5,aO 4 aj aa.d gG)],6⟩
theorem pN (N i j C0 bE dk C1 C2 cm bZ oD):xf N i j C0 bE dk C1 C2 cm bZ oD (gF N i j C0 bE dk C1 C2 cm bZ oD):=by
 intro gG qw qx uf ug r h E hE
 unfold gF at h
 obtain ⟨VT,h⟩:=af h
 obtain ⟨YW,h⟩:=af h
 refine ag hE 0 [] [] [] ([(0,.var 0 [.ah,.ah,.jq ((C1.set ((i).toNat) (C2.getD ((j).toNat) 0)).length),.jq ((C2.set ((j).toNat) (C1.getD ((i).toNat) 0)).length),.ah,.ah,.ah,.ah,.ah,.ah,.ah,.ah]),(1,.arr 1 ((C1.set ((i).toNat) (C2.getD ((j).toNat) 0)).length) (fun zi=>cI ((C1.set ((i).toNat) (C2.getD ((j).toNat) 0)).getD zi 0))),(2,.arr 2 ((C2.set ((j).toNat) (C1.getD ((i).toNat) 0)).length) (fun zi=>cI ((C2.set ((j).toNat) (C1.getD ((i).toNat) 0)).getD zi 0)))] ++ kq [3,4,5]) 454 (pc o1 (pc o1 (pc o1 (pc VT (pc (dP VT) (pc o1 (pc YW (pc (dP YW) (pc YW (pc (dP YW) (pc VT (pc (dP VT) (pc (ay C1 ((i).toNat) (C2.getD ((j).toNat) 0)) (pc (ay C2 ((j).toNat) (C1.getD ((i).toNat) 0)) (pc (ay C1 ((i).toNat) (C2.getD ((j).toNat) 0)) (pc (cA cI 0 C1 ((i).toNat) (C2.getD ((j).toNat) 0)) (pc (ay C2 ((j).toNat) (C1.getD ((i).toNat) 0)) (pc (cA cI 0 C2 ((j).toNat) (C1.getD ((i).toNat) 0)) pn)))))))))))))))))) ?_
 obtain rfl:=cX h
 exact Z6 hE 0 Tryz.f72 [] [] (kq [0,1,2,3,4,5]) 454 pn [] pn
theorem vX (N i j C0 bE cr dn dw dx dk C1 C2 C3 C5 fuel):ql N i j C0 bE cr dn dw dx dk C1 C2 C3 C5 (cn N i j C0 bE cr dn dw dx dk C1 C2 C3 C5 fuel):=by
 induction fuel with
 | zero=>intro _ _ _ _ r h;rw [cn.eq_1] at h;cases h
 | succ fuel ih =>
  intro cm bZ oD x2 r h E hE
  rw [cn.eq_2] at h
  refine ag hE 1 [] [] (kp [0,1,2,7,74,75,76]) (kq [0,1,2] ++ [(3,.qu 3 (cm.length) [((i).toNat,6,bZ.length)] (mG cm))] ++ kq [4,5,6]) 23 (pc (Eq.refl cm.length) (pc (mC cm [((i).toNat,6,bZ.length)]) (pc (iM cm) pn))) ?_
  refine du 1 76 h (fun rV h=>?_) (fun rV h=>?_)
  ·refine ag hE 4 [] [] (kp [0,1,2,7,9,74,75]) (kq [0,1,2] ++ [(3,.qu 3 (cm.length) [((i).toNat,6,bZ.length)] (mG cm))] ++ kq [4,5,6]) 55 (pc (Eq.refl cm.length) (pc (mC cm [((i).toNat,6,bZ.length)]) (pc (iM cm) pn))) ?_
   rcases condSplit h with ⟨hA,h⟩ | ⟨hA,h⟩
   ·obtain ⟨c9,h⟩:=af h
    obtain ⟨MF,h⟩:=af h
    refine ag hE 1 [(6,oF (.os 6 0 bZ.length))] [] (kp [0,1,2,7,9,10,74,75]) (kq [0,1,2] ++ [(3,.qu 3 (cm.length) [((i).toNat,6,bZ.length)] (mG cm))] ++ kq [4,5,6,215]) 247 (pc o1 (pc c9 (pc (dP c9) (pc (show (ba [((i).toNat,6,bZ.length)] (mG cm) ((x2).toNat))[0]?=some (.os 6 0 bZ.length) from (gO (qS hA))) (pc MF (pc (dP MF) (pc o1 (pc (Eq.refl cm.length) (pc (mC cm [((i).toNat,6,bZ.length)]) (pc (iM cm) pn)))))))))) ?_
    obtain ⟨gn,yL,h⟩:=aQ h
    refine ag hE 1 [(5,oT (aB gn))] [] (kp [0,1,2,7,9,10,74,75,95]) (kq [0,1,2] ++ [(3,.qu 3 (cm.length) [((i).toNat,6,bZ.length)] (mG cm))] ++ kq [4,5,6,215]) 375 (pc (fun hg:(x2 != i)=true=>(pc o1 pn)) (pc (fun hg:(x2 != i)=true=>(pc (jl _ _ _ (aR yL hg)) (pc hg pn))) (pc (fun hg:(x2 != i)=true=>(pc hg pn)) (pc (fun hq:(x2 != i)=true=>(pc hq pn)) (pc (Eq.refl cm.length) (pc (mC cm [((i).toNat,6,bZ.length)]) (pc (iM cm) pn))))))) ?_
    refine du 0 95 h (fun BS h=>?_) (fun BS h=>?_)
    ·obtain ⟨Iv,h⟩:=af h
     obtain ⟨Iw,h⟩:=af h
     obtain ⟨cE,Eb,h⟩:=aQ h
     obtain ⟨bO,Ea,h⟩:=aQ h
     refine ag hE 1 [(20,oT (.agg (aj cE))),(21,oT (.agg (aj bO)))] [] (kp [0,1,2,7,9,10,74,75]) ([(0,.var 0 [.ah,.ah,.ah,.ah,.ah,.jq ((oD.set ((x2).toNat) bO).length),.ah,.ah,.ah,.ah,.ah,.ah])] ++ kq [1,2] ++ [(3,.qu 3 (cm.length) [((i).toNat,6,bZ.length)] (mG cm)),(4,.arr 4 ((oD.set ((x2).toNat) bO).length) (fun zi=>aj ((oD.set ((x2).toNat) bO).getD zi aa.d)))] ++ kq [5,6,215]) 759 (pc o1 (pc o1 (pc Iv (pc (dP Iv) (pc o1 (pc o1 (pc Iw (pc (dP Iw) (pc (dd _ _ _ _ Eb) (pc (eN _ _ _ _ Ea) (pc Iv (pc (dP Iv) (pc (ay oD ((x2).toNat) bO) (pc (Eq.refl cm.length) (pc (mC cm [((i).toNat,6,bZ.length)]) (pc (iM cm) (pc (ay oD ((x2).toNat) bO) (pc (cA aj aa.d oD ((x2).toNat) bO) pn)))))))))))))))))) ?_
     rcases condSplit h with ⟨VU,h⟩ | ⟨VU,h⟩
     ·obtain ⟨Hm,xc,h⟩:=aQ h
      obtain ⟨Hd,h⟩:=af h
      refine ag hE 0 [(7,oF (.os 6 0 bZ.length)),(11,⟨[6],false,(.tup []),[(0,aO 4 aj aa.d Hm)],0,false,none⟩)] [] (kp [0,1,2] ++ [(7,.jq (Hm.length))] ++ kp [74,75]) (kq [0,1,2] ++ [(3,.qu 3 (cm.length) [((i).toNat,6,Hm.length)] (mG cm))] ++ kq [4,5,6]) 951 (pc o1 (pc c9 (pc (dP c9) (pc (show (ba [((i).toNat,6,bZ.length)] (mG cm) ((x2).toNat))[0]?=some (.os 6 0 bZ.length) from (gO (qS VU))) (pc o1 (pc (AU _ _ _ _ _ xc) (pc (show bZ.length=Hm.length from (Eq.symm Hd)) (pc (Eq.refl cm.length) (pc (show ∀ zm,zm < cm.length→ba [((i).toNat,6,Hm.length)] (mG cm) zm=ba [((i).toNat,6,bZ.length)] (mG cm) zm from (fun zm _=>(congrArg (fun zn=>ba [((i).toNat,6,zn)] (mG cm) zm) (Eq.symm (Eq.symm Hd))))) (pc (iM cm) pn)))))))))) ?_
      exact cP hE 1 [] (kp [0,1,2,7,74,75]) (kq [0,1,2] ++ [(3,.qu 3 (cm.length) [((i).toNat,6,Hm.length)] (mG cm))] ++ kq [4,5,6]) 7 (pc (Eq.refl cm.length) (pc (mC cm [((i).toNat,6,Hm.length)]) (pc (iM cm) pn))) (gR N _ _ _ _ _ _ _ _ _ _ _ _ _ _ _ ih _ _ _ _ h E hE)
     ·obtain ⟨LX,h⟩:=af h
      refine Td 3 ((x2).toNat) 4 ((cm.getD ((x2).toNat) []).length) (fun zi=>aj ((cm.getD ((x2).toNat) []).getD zi aa.d)) (pc LX (pc (show ba [((i).toNat,6,bZ.length)] (mG cm) ((x2).toNat)=mR 4 aj aa.d (cm.getD ((x2).toNat) []) from (if_neg (sG VU))) pn)) ?_
      obtain ⟨nJ,yQ,h⟩:=aQ h
      obtain ⟨UO,h⟩:=af h
      refine ag hE 0 [(7,oF (.os 759 0 ((cm.getD ((x2).toNat) []).length))),(11,⟨[759,6],false,(.tup []),[(0,aO 4 aj aa.d nJ),(1,aO 4 aj aa.d bZ)],0,false,none⟩)] [] (kp [0,1,2,7,74,75]) (kq [0,1,2] ++ [(3,.qu 3 (cm.length) [((x2).toNat,759,nJ.length),((i).toNat,6,bZ.length)] (mG cm))] ++ kq [4,5,6,759]) 967 (pc o1 (pc c9 (pc (dP c9) (pc (show (ba [((x2).toNat,759,(cm.getD ((x2).toNat) []).length),((i).toNat,6,bZ.length)] (mG cm) ((x2).toNat))[0]?=some (.os 759 0 ((cm.getD ((x2).toNat) []).length)) from (gO rfl)) (pc o1 (pc (nc _ _ _ _ _ _ yQ) (pc (Eq.refl cm.length) (pc (show ∀ zm,zm < cm.length→ba [((x2).toNat,759,nJ.length),((i).toNat,6,bZ.length)] (mG cm) zm=ba [((x2).toNat,759,(cm.getD ((x2).toNat) []).length),((i).toNat,6,bZ.length)] (mG cm) zm from (fun zm _=>(congrArg (fun zn=>ba [((x2).toNat,759,zn),((i).toNat,6,bZ.length)] (mG cm) zm) (Eq.symm (Eq.symm UO))))) (pc (iM cm) pn))))))))) ?_
      refine QJ 3 759 ((x2).toNat) (pc LX (pc (show ba [((x2).toNat,759,nJ.length),((i).toNat,6,bZ.length)] (mG cm) ((x2).toNat)=[.os 759 0 nJ.length] from if_pos rfl) (pc (show ∀ zj,zj < nJ.length→og (aj (nJ.getD zj aa.d))=true from fun _ _=>rfl) pn))) ?_
      refine QI hE [] (kp [0,1,2,7,74,75]) ([(0,.var 0 [.ah,.ah,.ah,.ah,.jq ((cm.set ((x2).toNat) nJ).length),.ah,.ah,.ah,.ah,.ah,.ah,.ah])] ++ kq [1,2] ++ [(3,.qu 3 ((cm.set ((x2).toNat) nJ).length) [((i).toNat,6,bZ.length)] (mG (cm.set ((x2).toNat) nJ)))] ++ kq [4,5,6]) 967 (pc (ay cm ((x2).toNat) nJ) (pc (ay cm ((x2).toNat) nJ) (pc (BF (sz:=4) (c:=aj) (d:=aa.d) cm ((x2).toNat) 759 nJ.length nJ [((i).toNat,6,bZ.length)] LX (Z7 (Ne.symm (sG VU)) FV)) (pc (iM (cm.set ((x2).toNat) nJ)) pn)))) ?_
      exact cP hE 1 [] (kp [0,1,2,7,74,75]) (kq [0,1,2] ++ [(3,.qu 3 ((cm.set ((x2).toNat) nJ).length) [((i).toNat,6,bZ.length)] (mG (cm.set ((x2).toNat) nJ)))] ++ kq [4,5,6]) 7 (pc (Eq.refl ((cm.set ((x2).toNat) nJ).length)) (pc (mC (cm.set ((x2).toNat) nJ) [((i).toNat,6,bZ.length)]) (pc (iM (cm.set ((x2).toNat) nJ)) pn))) (gR N _ _ _ _ _ _ _ _ _ _ _ _ _ _ _ ih _ _ _ _ h E hE)
    ·exact cP hE 2 [] (kp [0,1,2,7,74,75]) (kq [0,1,2] ++ [(3,.qu 3 (cm.length) [((i).toNat,6,bZ.length)] (mG cm))] ++ kq [4,5,6]) 7 (pc (Eq.refl cm.length) (pc (mC cm [((i).toNat,6,bZ.length)]) (pc (iM cm) pn))) (gR N _ _ _ _ _ _ _ _ _ _ _ _ _ _ _ ih _ _ _ _ h E hE)
   ·obtain ⟨OS,h⟩:=af h
    refine Td 3 ((x2).toNat) 4 ((cm.getD ((x2).toNat) []).length) (fun zi=>aj ((cm.getD ((x2).toNat) []).getD zi aa.d)) (pc OS (pc (show ba [((i).toNat,6,bZ.length)] (mG cm) ((x2).toNat)=mR 4 aj aa.d (cm.getD ((x2).toNat) []) from (if_neg (sG hA))) pn)) ?_
    obtain ⟨VV,h⟩:=af h
    obtain ⟨XE,h⟩:=af h
    refine ag hE 1 [(6,oF (.os 55 0 ((cm.getD ((x2).toNat) []).length)))] [] (kp [0,1,2,7,9,10,74,75]) (kq [0,1,2] ++ [(3,.qu 3 (cm.length) [((x2).toNat,55,(cm.getD ((x2).toNat) []).length),((i).toNat,6,bZ.length)] (mG cm))] ++ kq [4,5,6,55,231]) 263 (pc o1 (pc VV (pc (dP VV) (pc (show (ba [((x2).toNat,55,(cm.getD ((x2).toNat) []).length),((i).toNat,6,bZ.length)] (mG cm) ((x2).toNat))[0]?=some (.os 55 0 ((cm.getD ((x2).toNat) []).length)) from (gO rfl)) (pc XE (pc (dP XE) (pc o1 (pc (Eq.refl cm.length) (pc (mC cm [((x2).toNat,55,(cm.getD ((x2).toNat) []).length),((i).toNat,6,bZ.length)]) (pc (iM cm) pn)))))))))) ?_
    refine QJ 3 55 ((x2).toNat) (pc OS (pc (show ba [((x2).toNat,55,(cm.getD ((x2).toNat) []).length),((i).toNat,6,bZ.length)] (mG cm) ((x2).toNat)=[.os 55 0 (cm.getD ((x2).toNat) []).length] from if_pos rfl) (pc (show ∀ zj,zj < (cm.getD ((x2).toNat) []).length→og (aj ((cm.getD ((x2).toNat) []).getD zj aa.d))=true from fun _ _=>rfl) pn))) ?_
    refine QI hE [] (kp [0,1,2,7,9,10,74,75]) (kq [0,1,2] ++ [(3,.qu 3 (cm.length) [((i).toNat,6,bZ.length)] (mG cm))] ++ kq [4,5,6,231]) 263 (pc (Eq.refl (cm.length)) (pc (vI (sz:=4) (c:=aj) (d:=aa.d) cm ((x2).toNat) 55 ((cm.getD ((x2).toNat) []).length) [((i).toNat,6,bZ.length)] (Z7 (Ne.symm (sG hA)) FV)) (pc (iM cm) pn))) ?_
    obtain ⟨tB,Db,h⟩:=aQ h
    refine ag hE 1 [(5,oT (aB tB))] [] (kp [0,1,2,7,9,10,74,75,95]) (kq [0,1,2] ++ [(3,.qu 3 (cm.length) [((i).toNat,6,bZ.length)] (mG cm))] ++ kq [4,5,6,231]) 391 (pc (fun hg:(x2 != i)=true=>(pc o1 pn)) (pc (fun hg:(x2 != i)=true=>(pc (jl _ _ _ (aR Db hg)) (pc hg pn))) (pc (fun hg:(x2 != i)=true=>(pc hg pn)) (pc (fun hq:(x2 != i)=true=>(pc hq pn)) (pc (Eq.refl cm.length) (pc (mC cm [((i).toNat,6,bZ.length)]) (pc (iM cm) pn))))))) ?_
    refine du 0 95 h (fun Jv h=>?_) (fun Jv h=>?_)
    ·obtain ⟨VW,h⟩:=af h
     obtain ⟨XF,h⟩:=af h
     obtain ⟨dG,Dc,h⟩:=aQ h
     obtain ⟨ju,Jz,h⟩:=aQ h
     refine ag hE 1 [(20,oT (.agg (aj dG))),(21,oT (.agg (aj ju)))] [] (kp [0,1,2,7,9,10,74,75]) ([(0,.var 0 [.ah,.ah,.ah,.ah,.ah,.jq ((oD.set ((x2).toNat) ju).length),.ah,.ah,.ah,.ah,.ah,.ah])] ++ kq [1,2] ++ [(3,.qu 3 (cm.length) [((i).toNat,6,bZ.length)] (mG cm)),(4,.arr 4 ((oD.set ((x2).toNat) ju).length) (fun zi=>aj ((oD.set ((x2).toNat) ju).getD zi aa.d)))] ++ kq [5,6,231]) 775 (pc o1 (pc o1 (pc VW (pc (dP VW) (pc o1 (pc o1 (pc XF (pc (dP XF) (pc (dd _ _ _ _ Dc) (pc (eN _ _ _ _ Jz) (pc VW (pc (dP VW) (pc (ay oD ((x2).toNat) ju) (pc (Eq.refl cm.length) (pc (mC cm [((i).toNat,6,bZ.length)]) (pc (iM cm) (pc (ay oD ((x2).toNat) ju) (pc (cA aj aa.d oD ((x2).toNat) ju) pn)))))))))))))))))) ?_
     refine Td 3 ((x2).toNat) 4 ((cm.getD ((x2).toNat) []).length) (fun zi=>aj ((cm.getD ((x2).toNat) []).getD zi aa.d)) (pc OS (pc (show ba [((i).toNat,6,bZ.length)] (mG cm) ((x2).toNat)=mR 4 aj aa.d (cm.getD ((x2).toNat) []) from (if_neg (sG hA))) pn)) ?_
     obtain ⟨nL,Q2,h⟩:=aQ h
     obtain ⟨YX,h⟩:=af h
     refine ag hE 0 [(7,oF (.os 775 0 ((cm.getD ((x2).toNat) []).length))),(11,⟨[775,6],false,(.tup []),[(0,aO 4 aj aa.d nL),(1,aO 4 aj aa.d bZ)],0,false,none⟩)] [] (kp [0,1,2,7,74,75]) (kq [0,1,2] ++ [(3,.qu 3 (cm.length) [((x2).toNat,775,nL.length),((i).toNat,6,bZ.length)] (mG cm))] ++ kq [4,5,6,775]) 983 (pc o1 (pc VV (pc (dP VV) (pc (show (ba [((x2).toNat,775,(cm.getD ((x2).toNat) []).length),((i).toNat,6,bZ.length)] (mG cm) ((x2).toNat))[0]?=some (.os 775 0 ((cm.getD ((x2).toNat) []).length)) from (gO rfl)) (pc o1 (pc (nc _ _ _ _ _ _ Q2) (pc (Eq.refl cm.length) (pc (show ∀ zm,zm < cm.length→ba [((x2).toNat,775,nL.length),((i).toNat,6,bZ.length)] (mG cm) zm=ba [((x2).toNat,775,(cm.getD ((x2).toNat) []).length),((i).toNat,6,bZ.length)] (mG cm) zm from (fun zm _=>(congrArg (fun zn=>ba [((x2).toNat,775,zn),((i).toNat,6,bZ.length)] (mG cm) zm) (Eq.symm (Eq.symm YX))))) (pc (iM cm) pn))))))))) ?_
     refine QJ 3 775 ((x2).toNat) (pc OS (pc (show ba [((x2).toNat,775,nL.length),((i).toNat,6,bZ.length)] (mG cm) ((x2).toNat)=[.os 775 0 nL.length] from if_pos rfl) (pc (show ∀ zj,zj < nL.length→og (aj (nL.getD zj aa.d))=true from fun _ _=>rfl) pn))) ?_
     refine QI hE [] (kp [0,1,2,7,74,75]) ([(0,.var 0 [.ah,.ah,.ah,.ah,.jq ((cm.set ((x2).toNat) nL).length),.ah,.ah,.ah,.ah,.ah,.ah,.ah])] ++ kq [1,2] ++ [(3,.qu 3 ((cm.set ((x2).toNat) nL).length) [((i).toNat,6,bZ.length)] (mG (cm.set ((x2).toNat) nL)))] ++ kq [4,5,6]) 983 (pc (ay cm ((x2).toNat) nL) (pc (ay cm ((x2).toNat) nL) (pc (BF (sz:=4) (c:=aj) (d:=aa.d) cm ((x2).toNat) 775 nL.length nL [((i).toNat,6,bZ.length)] OS (Z7 (Ne.symm (sG hA)) FV)) (pc (iM (cm.set ((x2).toNat) nL)) pn)))) ?_
     exact cP hE 1 [] (kp [0,1,2,7,74,75]) (kq [0,1,2] ++ [(3,.qu 3 ((cm.set ((x2).toNat) nL).length) [((i).toNat,6,bZ.length)] (mG (cm.set ((x2).toNat) nL)))] ++ kq [4,5,6]) 7 (pc (Eq.refl ((cm.set ((x2).toNat) nL).length)) (pc (mC (cm.set ((x2).toNat) nL) [((i).toNat,6,bZ.length)]) (pc (iM (cm.set ((x2).toNat) nL)) pn))) (gR N _ _ _ _ _ _ _ _ _ _ _ _ _ _ _ ih _ _ _ _ h E hE)
    ·exact cP hE 2 [] (kp [0,1,2,7,74,75]) (kq [0,1,2] ++ [(3,.qu 3 (cm.length) [((i).toNat,6,bZ.length)] (mG cm))] ++ kq [4,5,6]) 7 (pc (Eq.refl cm.length) (pc (mC cm [((i).toNat,6,bZ.length)]) (pc (iM cm) pn))) (gR N _ _ _ _ _ _ _ _ _ _ _ _ _ _ _ ih _ _ _ _ h E hE)
  ·obtain ⟨YZ,h⟩:=af h
   refine ag hE 3 [] [] (kp [0,1,2,7,11]) (kq [0,1,2] ++ [(3,.qu 3 (cm.length) [((i).toNat,6,bZ.length)] (mG cm))] ++ kq [4,5,6,135]) 167 (pc o1 (pc YZ (pc (dP YZ) (pc o1 (pc (Eq.refl cm.length) (pc (mC cm [((i).toNat,6,bZ.length)]) (pc (iM cm) pn))))))) ?_
   obtain ⟨F4,Q3,h⟩:=aQ h
   refine ag hE 1 [(1,oT (aB F4))] [] (kp [0,1,2,7,11,141]) (kq [0,1,2] ++ [(3,.qu 3 (cm.length) [((i).toNat,6,bZ.length)] (mG cm))] ++ kq [4,5,6,135]) 215 (pc o1 (pc (jl _ _ _ Q3) (pc (Eq.refl cm.length) (pc (mC cm [((i).toNat,6,bZ.length)]) (pc (iM cm) pn))))) ?_
   refine du 0 141 h (fun VX h=>?_) (fun VX h=>?_)
   ·obtain ⟨WK,h⟩:=af h
    obtain ⟨ij,VY,h⟩:=aQ h
    obtain ⟨ln,aaw,h⟩:=aQ h
    refine ag hE 1 [(13,oT (.agg (aj ij))),(14,oT (.agg (aj ln)))] [] (kp [0,1,2,7,11]) (kq [0,1,2] ++ [(3,.qu 3 (cm.length) [((i).toNat,6,bZ.length)] (mG cm))] ++ kq [4,5,6,135]) 503 (pc o1 (pc o1 (pc o1 (pc WK (pc (dP WK) (pc (dd _ _ _ _ VY) (pc (eN _ _ _ _ aaw) (pc o1 (pc (Eq.refl cm.length) (pc (mC cm [((i).toNat,6,bZ.length)]) (pc (iM cm) pn))))))))))) ?_
    obtain ⟨Iq,aax,h⟩:=aQ h
    obtain ⟨WL,h⟩:=af h
    refine ag hE 0 [(8,⟨[5,6],false,(.tup []),[(0,aO 4 aj aa.d Iq),(1,aO 4 aj aa.d bZ)],0,false,none⟩)] [] (kp [0,1,2]) ([(0,.var 0 [.ah,.ah,.ah,.ah,.ah,.ah,.jq (Iq.length),.ah,.ah,.ah,.ah,.ah])] ++ kq [1,2] ++ [(3,.qu 3 (cm.length) [((i).toNat,6,bZ.length)] (mG cm))] ++ kq [4,5,6]) 647 (pc o1 (pc o1 (pc (nc _ _ _ _ _ _ aax) (pc (show C5.length=Iq.length from (Eq.symm WL)) (pc (Eq.refl cm.length) (pc (mC cm [((i).toNat,6,bZ.length)]) (pc (iM cm) pn))))))) ?_
    obtain ⟨WM,h⟩:=af h
    refine QJ 3 6 ((i).toNat) (pc WM (pc (show ba [((i).toNat,6,bZ.length)] (mG cm) ((i).toNat)=[.os 6 0 bZ.length] from if_pos rfl) (pc (show ∀ zj,zj < bZ.length→og (aj (bZ.getD zj aa.d))=true from fun _ _=>rfl) pn))) ?_
    refine QI hE [] (kp [0,1,2]) ([(0,.var 0 [.ah,.ah,.ah,.ah,.jq ((cm.set ((i).toNat) bZ).length),.ah,.ah,.ah,.ah,.ah,.ah,.ah])] ++ kq [1,2] ++ [(3,.qu 3 ((cm.set ((i).toNat) bZ).length) [] (mG (cm.set ((i).toNat) bZ)))] ++ kq [4,5]) 647 (pc (ay cm ((i).toNat) bZ) (pc (ay cm ((i).toNat) bZ) (pc (BF (sz:=4) (c:=aj) (d:=aa.d) cm ((i).toNat) 6 bZ.length bZ [] WM FV) (pc (iM (cm.set ((i).toNat) bZ)) pn)))) ?_
    exact cP hE 0 [] (kp [0,1,2]) (kq [0,1,2,3,4,5]) 6 pn (pN N _ _ _ _ _ _ _ _ _ _ _ _ _ _ _ _ h E hE)
   ·obtain ⟨c29,h⟩:=af h
    refine QJ 3 6 ((i).toNat) (pc c29 (pc (show ba [((i).toNat,6,bZ.length)] (mG cm) ((i).toNat)=[.os 6 0 bZ.length] from if_pos rfl) (pc (show ∀ zj,zj < bZ.length→og (aj (bZ.getD zj aa.d))=true from fun _ _=>rfl) pn))) ?_
    refine QI hE [] (kp [0,1,2]) ([(0,.var 0 [.ah,.ah,.ah,.ah,.jq ((cm.set ((i).toNat) bZ).length),.ah,.ah,.ah,.ah,.ah,.ah,.ah])] ++ kq [1,2] ++ [(3,.qu 3 ((cm.set ((i).toNat) bZ).length) [] (mG (cm.set ((i).toNat) bZ)))] ++ kq [4,5,135]) 215 (pc (ay cm ((i).toNat) bZ) (pc (ay cm ((i).toNat) bZ) (pc (BF (sz:=4) (c:=aj) (d:=aa.d) cm ((i).toNat) 6 bZ.length bZ [] c29 FV) (pc (iM (cm.set ((i).toNat) bZ)) pn)))) ?_
    exact cP hE 1 [] (kp [0,1,2]) (kq [0,1,2,3,4,5]) 6 pn (pN N _ _ _ _ _ _ _ _ _ _ _ _ _ _ _ _ h E hE)
theorem vY (N i j C0 bE cr dn dw dx dk C1 C2 C3 C4 C5 fuel):qk N i j C0 bE cr dn dw dx dk C1 C2 C3 C4 C5 (dI N i j C0 bE cr dn dw dx dk C1 C2 C3 C4 C5 fuel):=by
 induction fuel with
 | zero=>intro _ _ r h;rw [dI.eq_1] at h;cases h
 | succ fuel ih =>
  intro tD x r h E hE
  rw [dI.eq_2] at h
  refine ag hE 1 [] [] (kp [0,1,2,6,7,30,31,32]) (kq [0,1,2] ++ [(3,.qu 3 (C3.length) [((i).toNat,6,tD.length)] (mG C3))] ++ kq [4,5,6,7]) 24 (pc (Eq.refl C3.length) (pc (mC C3 [((i).toNat,6,tD.length)]) (pc (iM C3) pn))) ?_
  refine du 1 32 h (fun ee h=>?_) (fun ee h=>?_)
  ·refine ag hE 4 [] [] (kp [0,1,2,6,7,8,30,31]) (kq [0,1,2] ++ [(3,.qu 3 (C3.length) [((i).toNat,6,tD.length)] (mG C3))] ++ kq [4,5,6,7]) 56 (pc (Eq.refl C3.length) (pc (mC C3 [((i).toNat,6,tD.length)]) (pc (iM C3) pn))) ?_
   refine ag hE 1 [] [] (kp [0,1,2,6,7,8,30,31,36]) (kq [0,1,2] ++ [(3,.qu 3 (C3.length) [((i).toNat,6,tD.length)] (mG C3))] ++ kq [4,5,6,7]) 104 (pc (Eq.refl C3.length) (pc (mC C3 [((i).toNat,6,tD.length)]) (pc (iM C3) pn))) ?_
   refine du 0 36 h (fun jx h=>?_) (fun jx h=>?_)
   ·obtain ⟨c5,h⟩:=af h
    obtain ⟨kD,hr,h⟩:=aQ h
    obtain ⟨bg,eX,h⟩:=aQ h
    refine ag hE 0 [(7,oT (.agg (aj kD))),(8,oT (.agg (aj bg)))] [] (kp [0,1,2,6] ++ [(7,.jq ((tD.set ((x).toNat) bg).length))] ++ kp [30,31]) (kq [0,1,2] ++ [(3,.qu 3 (C3.length) [((i).toNat,6,(tD.set ((x).toNat) bg).length)] (mG C3))] ++ kq [4,5] ++ [(6,.arr 6 ((tD.set ((x).toNat) bg).length) (fun zi=>aj ((tD.set ((x).toNat) bg).getD zi aa.d)))] ++ kq [7]) 280 (pc c5 (pc (dP c5) (pc o1 (pc (uA _ _ _ _ hr) (pc (kV _ _ _ eX) (pc c5 (pc (dP c5) (pc (ay tD ((x).toNat) bg) (pc (Eq.refl C3.length) (pc (show ∀ zm,zm < C3.length→ba [((i).toNat,6,(tD.set ((x).toNat) bg).length)] (mG C3) zm=ba [((i).toNat,6,tD.length)] (mG C3) zm from (fun zm _=>(congrArg (fun zn=>ba [((i).toNat,6,zn)] (mG C3) zm) (Eq.symm (nA rfl))))) (pc (iM C3) (pc (ay tD ((x).toNat) bg) (pc (cA aj aa.d tD ((x).toNat) bg) pn))))))))))))) ?_
    exact cP hE 1 [] (kp [0,1,2,6,7,30,31]) (kq [0,1,2] ++ [(3,.qu 3 (C3.length) [((i).toNat,6,(tD.set ((x).toNat) bg).length)] (mG C3))] ++ kq [4,5,6,7]) 8 (pc (Eq.refl C3.length) (pc (mC C3 [((i).toNat,6,(tD.set ((x).toNat) bg).length)]) (pc (iM C3) pn))) (pM N _ _ _ _ _ _ _ _ _ _ _ _ _ _ _ _ ih _ _ h E hE)
   ·exact cP hE 2 [] (kp [0,1,2,6,7,30,31]) (kq [0,1,2] ++ [(3,.qu 3 (C3.length) [((i).toNat,6,tD.length)] (mG C3))] ++ kq [4,5,6,7]) 8 (pc (Eq.refl C3.length) (pc (mC C3 [((i).toNat,6,tD.length)]) (pc (iM C3) pn))) (pM N _ _ _ _ _ _ _ _ _ _ _ _ _ _ _ _ ih _ _ h E hE)
  ·obtain ⟨ax,kE,h⟩:=aQ h
   obtain ⟨kP,nu,h⟩:=aQ h
   obtain ⟨c6,h⟩:=af h
   refine ag hE 2 [(2,oT (.agg (aj ax))),(4,oT (.agg (aj kP)))] [] (kp [0,1,2,6] ++ [(7,.jq ((tD.set ((j).toNat) kP).length))]) (kq [0,1,2] ++ [(3,.qu 3 (C3.length) [((i).toNat,6,(tD.set ((j).toNat) kP).length)] (mG C3))] ++ kq [4,5] ++ [(6,.arr 6 ((tD.set ((j).toNat) kP).length) (fun zi=>aj ((tD.set ((j).toNat) kP).getD zi aa.d)))] ++ kq [7]) 136 (pc (g8 _ _ _ kE) (pc o1 (pc (uA _ _ _ _ nu) (pc c6 (pc (dP c6) (pc (ay tD ((j).toNat) kP) (pc (Eq.refl C3.length) (pc (show ∀ zm,zm < C3.length→ba [((i).toNat,6,(tD.set ((j).toNat) kP).length)] (mG C3) zm=ba [((i).toNat,6,tD.length)] (mG C3) zm from (fun zm _=>(congrArg (fun zn=>ba [((i).toNat,6,zn)] (mG C3) zm) (Eq.symm (nA rfl))))) (pc (iM C3) (pc (ay tD ((j).toNat) kP) (pc (cA aj aa.d tD ((j).toNat) kP) pn))))))))))) ?_
   obtain ⟨c7,h⟩:=af h
   obtain ⟨Mz,rX,h⟩:=aQ h
   obtain ⟨me,xU,h⟩:=aQ h
   refine ag hE 1 [(13,oT (.agg (aj Mz))),(14,oT (.agg (aj me)))] [] (kp [0,1,2,7]) ([(0,.var 0 [.ah,.ah,.ah,.ah,.ah,.jq ((C4.set ((i).toNat) me).length),.ah,.ah,.ah,.ah,.ah,.ah])] ++ kq [1,2] ++ [(3,.qu 3 (C3.length) [((i).toNat,6,(tD.set ((j).toNat) kP).length)] (mG C3)),(4,.arr 4 ((C4.set ((i).toNat) me).length) (fun zi=>aj ((C4.set ((i).toNat) me).getD zi aa.d)))] ++ kq [5,6]) 408 (pc o1 (pc o1 (pc c7 (pc (dP c7) (pc o1 (pc (uA _ _ _ _ rX) (pc (kV _ _ _ xU) (pc c7 (pc (dP c7) (pc (ay C4 ((i).toNat) me) (pc (Eq.refl C3.length) (pc (mC C3 [((i).toNat,6,(tD.set ((j).toNat) kP).length)]) (pc (iM C3) (pc (ay C4 ((i).toNat) me) (pc (cA aj aa.d C4 ((i).toNat) me) pn))))))))))))))) ?_
   refine ag hE 2 [] [] (kp [0,1,2,7,74,75]) (kq [0,1,2] ++ [(3,.qu 3 (C3.length) [((i).toNat,6,(tD.set ((j).toNat) kP).length)] (mG C3))] ++ kq [4,5,6]) 504 (pc o1 (pc (Eq.refl C3.length) (pc (mC C3 [((i).toNat,6,(tD.set ((j).toNat) kP).length)]) (pc (iM C3) pn)))) ?_
   exact cP hE 2 [] (kp [0,1,2,7,74,75]) (kq [0,1,2] ++ [(3,.qu 3 (C3.length) [((i).toNat,6,(tD.set ((j).toNat) kP).length)] (mG C3))] ++ kq [4,5,6]) 7 (pc (Eq.refl C3.length) (pc (mC C3 [((i).toNat,6,(tD.set ((j).toNat) kP).length)]) (pc (iM C3) pn))) (vX N _ _ _ _ _ _ _ _ _ _ _ _ _ N _ _ _ _ _ h E hE)
theorem nR (N i j C0 bE cr dn dw dx dk C1 C2 C3 C4 C5 r) (h:jB N i j C0 bE cr dn dw dx dk C1 C2 C3 C4 C5=some r):Sd 72 [(.op 0 0 0),(aI i),(aI j)] [(0,vN 12 [(aI C0),(aI bE),(.os 1 0 C1.length),(.os 2 0 C2.length),(.os 3 0 C3.length),(.os 4 0 C4.length),(.os 5 0 C5.length),(aB cr),(eU dn),(aB dw),(eU dx),(aI dk)]),(1,aO 1 cI 0 C1),(2,aO 1 cI 0 C2),(3,aM 4 aj aa.d C3),(4,aO 4 aj aa.d C4),(5,aO 4 aj aa.d C5)] 6 (.tup []) [(0,vN 12 [(aI r.1.xQ),(aI r.1.xR),(.os 1 0 r.2.1.length),(.os 2 0 r.2.2.1.length),(.os 3 0 r.2.2.2.1.length),(.os 4 0 r.2.2.2.2.1.length),(.os 5 0 r.2.2.2.2.2.length),(aB r.1.ak.fN.fG),(eU r.1.ak.fN.fL),(aB r.1.ak.fD.fG),(eU r.1.ak.fD.fL),(aI r.1.cy)]),(1,aO 1 cI 0 r.2.1),(2,aO 1 cI 0 r.2.2.1),(3,aM 4 aj aa.d r.2.2.2.1),(4,aO 4 aj aa.d r.2.2.2.2.1),(5,aO 4 aj aa.d r.2.2.2.2.2)]:=by
 unfold jB at h
 refine im (fu:=Tryz.f72) (c:=BW 1) (nt:=194) (fun hm=>absurd hm (by decide)) ?_
 intro E hE
 obtain ⟨c2,h⟩:=af h
 refine Td 3 ((i).toNat) 4 ((C3.getD ((i).toNat) []).length) (fun zi=>aj ((C3.getD ((i).toNat) []).getD zi aa.d)) (pc c2 (pc (show ba [] (mG C3) ((i).toNat)=mR 4 aj aa.d (C3.getD ((i).toNat) []) from rfl) pn)) ?_
 obtain ⟨c3,h⟩:=af h
 obtain ⟨c4,h⟩:=af h
 refine ag hE 1 [(6,oF (.os 6 0 ((C3.getD ((i).toNat) []).length)))] [] (kp [0,1,2,6]) (kq [0,1,2] ++ [(3,.qu 3 (C3.length) [((i).toNat,6,(C3.getD ((i).toNat) []).length)] (mG C3))] ++ kq [4,5,6,182]) 214 (pc o1 (pc c3 (pc (dP c3) (pc (show (ba [((i).toNat,6,(C3.getD ((i).toNat) []).length)] (mG C3) ((i).toNat))[0]?=some (.os 6 0 ((C3.getD ((i).toNat) []).length)) from (gO rfl)) (pc c4 (pc (dP c4) (pc o1 (pc (Eq.refl C3.length) (pc (mC C3 [((i).toNat,6,(C3.getD ((i).toNat) []).length)]) (pc (iM C3) pn)))))))))) ?_
 refine QJ 3 6 ((i).toNat) (pc c2 (pc (show ba [((i).toNat,6,(C3.getD ((i).toNat) []).length)] (mG C3) ((i).toNat)=[.os 6 0 (C3.getD ((i).toNat) []).length] from if_pos rfl) (pc (show ∀ zj,zj < (C3.getD ((i).toNat) []).length→og (aj ((C3.getD ((i).toNat) []).getD zj aa.d))=true from fun _ _=>rfl) pn))) ?_
 refine QI hE [] (kp [0,1,2,6]) (kq [0,1,2] ++ [(3,.qu 3 (C3.length) [] (mG C3))] ++ kq [4,5,182]) 214 (pc (Eq.refl (C3.length)) (pc (vI (sz:=4) (c:=aj) (d:=aa.d) C3 ((i).toNat) 6 ((C3.getD ((i).toNat) []).length) [] FV) (pc (iM C3) pn))) ?_
 refine Td 3 ((i).toNat) 4 ((C3.getD ((i).toNat) []).length) (fun zi=>aj ((C3.getD ((i).toNat) []).getD zi aa.d)) (pc c2 (pc (show ba [] (mG C3) ((i).toNat)=mR 4 aj aa.d (C3.getD ((i).toNat) []) from rfl) pn)) ?_
 refine ag hE 1 [(6,oF (.os 214 0 ((C3.getD ((i).toNat) []).length)))] [] (kp [0,1,2,6,7]) (kq [0,1,2] ++ [(3,.qu 3 (C3.length) [((i).toNat,214,(C3.getD ((i).toNat) []).length)] (mG C3))] ++ kq [4,5,182,214]) 358 (pc o1 (pc c3 (pc (dP c3) (pc (show (ba [((i).toNat,214,(C3.getD ((i).toNat) []).length)] (mG C3) ((i).toNat))[0]?=some (.os 214 0 ((C3.getD ((i).toNat) []).length)) from (gO rfl)) (pc (Eq.refl C3.length) (pc (mC C3 [((i).toNat,214,(C3.getD ((i).toNat) []).length)]) (pc (iM C3) pn))))))) ?_
 refine ag hE 2 [] [] (kp [0,1,2,6,7,30,31]) (kq [0,1,2] ++ [(3,.qu 3 (C3.length) [((i).toNat,214,(C3.getD ((i).toNat) []).length)] (mG C3))] ++ kq [4,5,182,214]) 406 (pc (Eq.refl C3.length) (pc (mC C3 [((i).toNat,214,(C3.getD ((i).toNat) []).length)]) (pc (iM C3) pn))) ?_
 exact cP hE 2 [] (kp [0,1,2,6,7,30,31]) (kq [0,1,2] ++ [(3,.qu 3 (C3.length) [((i).toNat,214,(C3.getD ((i).toNat) []).length)] (mG C3))] ++ kq [4,5] ++ [(6,.ah 214),(7,.ah 182)]) 8 (pc (Eq.refl C3.length) (pc (mC C3 [((i).toNat,214,(C3.getD ((i).toNat) []).length)]) (pc (iM C3) pn))) (vY N _ _ _ _ _ _ _ _ _ _ _ _ _ _ N _ _ _ h E hE)
noncomputable abbrev MI:=cl Tryz.f108
def oi (N:Nat) (C0:Int) (bE:Int) (cr:Bool) (dn:List Int) (dw:Bool) (dx:List Int) (dk:Int) (C1:List Int) (C2:List Int) (C3:List (List aa)) (C4:List aa) (C5:List aa) (K:Int→Int→Option (Int)):Prop:=∀ (dN:Int) (x:Int) (r:Int),K dN x=some r→∀ E,bk E 6→aG Tryz.prog E 108 46 (bc E [(0,vN 12 [(aI C0),(aI bE),(.os 1 0 C1.length),(.os 2 0 C2.length),(.os 3 0 C3.length),(.os 4 0 C4.length),(.os 5 0 C5.length),(aB cr),(eU dn),(aB dw),(eU dx),(aI dk)]),(1,aO 1 cI 0 C1),(2,aO 1 cI 0 C2),(3,aM 4 aj aa.d C3),(4,aO 4 aj aa.d C4),(5,aO 4 aj aa.d C5)] (aI r)) [.code (MI 116),.inLoop (MI 116),.inBlock 0,.code (MI 15)] ⟨[(0,(.op 0 0 0)),(3,(aI dN)),(9,(aI ((C2.length:Nat):Int))),(10,(aI x))],[(0,vN 12 [(aI C0),(aI bE),(.os 1 0 C1.length),(.os 2 0 C2.length),(.os 3 0 C3.length),(.os 4 0 C4.length),(.os 5 0 C5.length),(aB cr),(eU dn),(aB dw),(eU dx),(aI dk)]),(1,aO 1 cI 0 C1),(2,aO 1 cI 0 C2),(3,aM 4 aj aa.d C3),(4,aO 4 aj aa.d C4),(5,aO 4 aj aa.d C5)],6⟩
def uj (N:Nat) (C0:Int) (bE:Int) (cr:Bool) (dn:List Int) (dw:Bool) (dx:List Int) (dk:Int) (C1:List Int) (C2:List Int) (C3:List (List aa)) (C4:List aa) (C5:List aa) (x:Int) (K:Int→Option (Int)):Prop:=∀ (yE:Int) (r:Int),K yE=some r→∀ E,bk E 6→aG Tryz.prog E 108 46 (bc E [(0,vN 12 [(aI C0),(aI bE),(.os 1 0 C1.length),(.os 2 0 C2.length),(.os 3 0 C3.length),(.os 4 0 C4.length),(.os 5 0 C5.length),(aB cr),(eU dn),(aB dw),(eU dx),(aI dk)]),(1,aO 1 cI 0 C1),(2,aO 1 cI 0 C2),(3,aM 4 aj aa.d C3),(4,aO 4 aj aa.d C4),(5,aO 4 aj aa.d C5)] (aI r)) [.code (MI 935),.inLoop (MI 116),.inBlock 0,.code (MI 15)] ⟨[(0,(.op 0 0 0)),(3,(aI yE)),(9,(aI ((C2.length:Nat):Int))),(10,(aI x))],[(0,vN 12 [(aI C0),(aI bE),(.os 1 0 C1.length),(.os 2 0 C2.length),(.os 3 0 C3.length),(.os 4 0 C4.length),(.os 5 0 C5.length),(aB cr),(eU dn),(aB dw),(eU dx),(aI dk)]),(1,aO 1 cI 0 C1),(2,aO 1 cI 0 C2),(3,aM 4 aj aa.d C3),(4,aO 4 aj aa.d C4),(5,aO 4 aj aa.d C5)],6⟩
theorem nT (N:Nat) (C0:Int) (bE:Int) (cr:Bool) (dn:List Int) (dw:Bool) (dx:List Int) (dk:Int) (C1:List Int) (C2:List Int) (C3:List (List aa)) (C4:List aa) (C5:List aa) (x:Int) (iK:Int→Int→Option (Int)) (tO:oi N C0 bE cr dn dw dx dk C1 C2 C3 C4 C5 iK):uj N C0 bE cr dn dw dx dk C1 C2 C3 C4 C5 x (gH N C0 bE cr dn dw dx dk C1 C2 C3 C4 C5 x iK):=by
 intro yE r h E hE
 unfold gH at h
 refine ag hE 0 [] [] (kp [0,3,9,10]) (kq [0,1,2,3,4,5]) 38 pn ?_
 exact cP hE 1 [] (kp [0,3,9,10]) (kq [0,1,2,3,4,5]) 6 pn (tO _ _ _ h E hE)
theorem tP (N C0 bE cr dn dw dx dk C1 C2 C3 C4 C5 fuel):oi N C0 bE cr dn dw dx dk C1 C2 C3 C4 C5 (bL N C0 bE cr dn dw dx dk C1 C2 C3 C4 C5 fuel):=by
 induction fuel with
 | zero=>intro _ _ r h;rw [bL.eq_1] at h;cases h
 | succ fuel ih =>
  intro dN x r h E hE
  rw [bL.eq_2] at h
  refine ag hE 1 [] [] (kp [0,3,9,10,11]) (kq [0,1,2,3,4,5]) 22 pn ?_
  refine du 1 11 h (fun ee h=>?_) (fun ee h=>?_)
  ·refine ag hE 4 [] [] (kp [0,3,4,9,10]) (kq [0,1,2,3,4,5]) 54 pn ?_
   obtain ⟨c,h⟩:=af h
   obtain ⟨aL,hr,h⟩:=aQ h
   obtain ⟨c2,h⟩:=af h
   obtain ⟨c3,h⟩:=af h
   refine ag hE 1 [(7,oT (aI aL))] [] (kp [0,3,4,9,10,42]) (kq [0,1,2,3,4,5]) 534 (pc o1 (pc c (pc (dP c) (pc (qZ _ _ _ hr) (pc (fun hg:(decide (aL > 0))=true=>(pc hg pn)) (pc (fun hg:((decide (aL > 0)) && ((decide (aL > 0)) && (!(decide (dN < 0)))))=true=>(pc hg pn)) (pc (fun hg:((decide (aL > 0)) && ((decide (aL > 0)) && (!(decide (dN < 0)))))=true=>(pc hg pn)) (pc (fun hg:((decide (aL > 0)) && ((decide (aL > 0)) && (!(decide (dN < 0)))))=true=>(pc hg (pc o1 pn))) (pc (fun hg:((decide (aL > 0)) && ((decide (aL > 0)) && (!(decide (dN < 0)))))=true=>(pc hg (pc hg (pc (c2 hg) pn)))) (pc (fun hg:((decide (aL > 0)) && ((decide (aL > 0)) && (!(decide (dN < 0)))))=true=>(pc hg (pc (dP (c2 hg)) pn))) (pc (fun hg:((decide (aL > 0)) && ((decide (aL > 0)) && (!(decide (dN < 0)))))=true=>(pc hg pn)) (pc (fun hg:((decide (aL > 0)) && ((decide (aL > 0)) && (!(decide (dN < 0)))))=true=>(pc hg pn)) (pc (fun hg:((decide (aL > 0)) && ((decide (aL > 0)) && (!(decide (dN < 0)))))=true=>(pc hg (pc o1 pn))) (pc (fun hg:((decide (aL > 0)) && ((decide (aL > 0)) && (!(decide (dN < 0)))))=true=>(pc hg (pc hg (pc (c3 hg) pn)))) (pc (fun hg:((decide (aL > 0)) && ((decide (aL > 0)) && (!(decide (dN < 0)))))=true=>(pc hg (pc (dP (c3 hg)) pn))) (pc (fun hg:((decide (aL > 0)) && ((decide (aL > 0)) && (!(decide (dN < 0)))))=true=>(pc hg (pc hg pn))) (pc (fun hg:(decide (aL > 0))=true=>(pc hg (pc hg (pc (fun hq:(!(decide (dN < 0)))=true=>(pc (show ((decide (aL > 0)) && ((decide (aL > 0)) && (!(decide (dN < 0)))))=true from (jz hg (jz hg hq))) pn)) pn)))) (pc (fun hq:(decide (aL > 0))=true=>(pc hq pn)) pn)))))))))))))))))) ?_
   refine du 0 42 h (fun jx h=>?_) (fun jx h=>?_)
   ·refine ag hE 0 [] [] (kp [0,3,9,10]) (kq [0,1,2,3,4,5]) 566 pn ?_
    exact cP hE 1 [] (kp [0,3,9,10]) (kq [0,1,2,3,4,5]) 6 pn (nT N _ _ _ _ _ _ _ _ _ _ _ _ _ _ ih _ _ h E hE)
   ·exact cP hE 2 [] (kp [0,3,9,10]) (kq [0,1,2,3,4,5]) 6 pn (nT N _ _ _ _ _ _ _ _ _ _ _ _ _ _ ih _ _ h E hE)
  ·refine ag hE 2 [] [] (kp [2]) (kq [0,1,2,3,4,5]) 54 pn ?_
   obtain rfl:=cX h
   exact db hE 0 Tryz.f108 [] (kp [2]) (kq [0,1,2,3,4,5]) 54 pn [] pn
theorem vZ (N C0 bE cr dn dw dx dk C1 C2 C3 C4 C5 r) (h:lp N C0 bE cr dn dw dx dk C1 C2 C3 C4 C5=some r):Sd 108 [(.op 0 0 0)] [(0,vN 12 [(aI C0),(aI bE),(.os 1 0 C1.length),(.os 2 0 C2.length),(.os 3 0 C3.length),(.os 4 0 C4.length),(.os 5 0 C5.length),(aB cr),(eU dn),(aB dw),(eU dx),(aI dk)]),(1,aO 1 cI 0 C1),(2,aO 1 cI 0 C2),(3,aM 4 aj aa.d C3),(4,aO 4 aj aa.d C4),(5,aO 4 aj aa.d C5)] 6 (aI r) [(0,vN 12 [(aI C0),(aI bE),(.os 1 0 C1.length),(.os 2 0 C2.length),(.os 3 0 C3.length),(.os 4 0 C4.length),(.os 5 0 C5.length),(aB cr),(eU dn),(aB dw),(eU dx),(aI dk)]),(1,aO 1 cI 0 C1),(2,aO 1 cI 0 C2),(3,aM 4 aj aa.d C3),(4,aO 4 aj aa.d C4),(5,aO 4 aj aa.d C5)]:=by
 unfold lp at h
 refine im (fu:=Tryz.f108) (c:=MI 1) (nt:=46) (fun hm=>absurd hm (by decide)) ?_
 intro E hE
 refine ag hE 1 [] [] (kp [0]) (kq [0,1,2,3,4,5]) 22 pn ?_
 refine ag hE 1 [] [] (kp [0,3]) (kq [0,1,2,3,4,5]) 38 pn ?_
 refine ag hE 2 [] [] (kp [0,3,9,10]) (kq [0,1,2,3,4,5]) 134 (pc o1 pn) ?_
 exact cP hE 2 [] (kp [0,3,9,10]) (kq [0,1,2,3,4,5]) 6 pn (tP N _ _ _ _ _ _ _ _ _ _ _ _ N _ _ _ h E hE)
noncomputable abbrev En:=cl Tryz.f109
def lI (N:Nat) (j:Int) (C0:Int) (bE:Int) (cr:Bool) (dn:List Int) (dw:Bool) (dx:List Int) (dk:Int) (C1:List Int) (C2:List Int) (C3:List (List aa)) (C4:List aa) (C5:List aa) (K:Int→aa→Int→Option (Int)):Prop:=∀ (dN:Int) (least:aa) (x:Int) (r:Int),K dN least x=some r→∀ E,bk E 6→aG Tryz.prog E 109 81 (bc E [(0,vN 12 [(aI C0),(aI bE),(.os 1 0 C1.length),(.os 2 0 C2.length),(.os 3 0 C3.length),(.os 4 0 C4.length),(.os 5 0 C5.length),(aB cr),(eU dn),(aB dw),(eU dx),(aI dk)]),(1,aO 1 cI 0 C1),(2,aO 1 cI 0 C2),(3,aM 4 aj aa.d C3),(4,aO 4 aj aa.d C4),(5,aO 4 aj aa.d C5)] (aI r)) [.code (En 244),.inLoop (En 244),.inBlock 0,.code (En 31)] ⟨[(0,(.op 0 0 0)),(1,(aI j)),(5,(aI dN)),(6,(.op 6 0 0)),(14,(aI ((C1.length:Nat):Int))),(15,(aI x))],[(0,vN 12 [(aI C0),(aI bE),(.os 1 0 C1.length),(.os 2 0 C2.length),(.os 3 0 C3.length),(.os 4 0 C4.length),(.os 5 0 C5.length),(aB cr),(eU dn),(aB dw),(eU dx),(aI dk)]),(1,aO 1 cI 0 C1),(2,aO 1 cI 0 C2),(3,aM 4 aj aa.d C3),(4,aO 4 aj aa.d C4),(5,aO 4 aj aa.d C5),(6,vO 4 (aj least))],7⟩
def u9 (N:Nat) (j:Int) (C0:Int) (bE:Int) (cr:Bool) (dn:List Int) (dw:Bool) (dx:List Int) (dk:Int) (C1:List Int) (C2:List Int) (C3:List (List aa)) (C4:List aa) (C5:List aa) (x:Int) (K:Int→aa→Option (Int)):Prop:=∀ (yE:Int) (bH:aa) (r:Int),K yE bH=some r→∀ E,bk E 6→aG Tryz.prog E 109 81 (bc E [(0,vN 12 [(aI C0),(aI bE),(.os 1 0 C1.length),(.os 2 0 C2.length),(.os 3 0 C3.length),(.os 4 0 C4.length),(.os 5 0 C5.length),(aB cr),(eU dn),(aB dw),(eU dx),(aI dk)]),(1,aO 1 cI 0 C1),(2,aO 1 cI 0 C2),(3,aM 4 aj aa.d C3),(4,aO 4 aj aa.d C4),(5,aO 4 aj aa.d C5)] (aI r)) [.code (En 1959),.inLoop (En 244),.inBlock 0,.code (En 31)] ⟨[(0,(.op 0 0 0)),(1,(aI j)),(5,(aI yE)),(6,(.op 6 0 0)),(14,(aI ((C1.length:Nat):Int))),(15,(aI x))],[(0,vN 12 [(aI C0),(aI bE),(.os 1 0 C1.length),(.os 2 0 C2.length),(.os 3 0 C3.length),(.os 4 0 C4.length),(.os 5 0 C5.length),(aB cr),(eU dn),(aB dw),(eU dx),(aI dk)]),(1,aO 1 cI 0 C1),(2,aO 1 cI 0 C2),(3,aM 4 aj aa.d C3),(4,aO 4 aj aa.d C4),(5,aO 4 aj aa.d C5),(6,vO 4 (aj bH))],7⟩
theorem kS (N:Nat) (j:Int) (C0:Int) (bE:Int) (cr:Bool) (dn:List Int) (dw:Bool) (dx:List Int) (dk:Int) (C1:List Int) (C2:List Int) (C3:List (List aa)) (C4:List aa) (C5:List aa) (x:Int) (b9:Int→aa→Int→Option (Int)) (iL:lI N j C0 bE cr dn dw dx dk C1 C2 C3 C4 C5 b9):u9 N j C0 bE cr dn dw dx dk C1 C2 C3 C4 C5 x (eE N j C0 bE cr dn dw dx dk C1 C2 C3 C4 C5 x b9):=by
 intro yE bH r h E hE
 unfold eE at h
 refine ag hE 0 [] [] (kp [0,1,5,6,14,15]) (kq [0,1,2,3,4,5,6]) 39 pn ?_
 exact cP hE 1 [] (kp [0,1,5,6,14,15]) (kq [0,1,2,3,4,5,6]) 7 pn (iL _ _ _ _ h E hE)
def vb (N:Nat) (j:Int) (C0:Int) (bE:Int) (cr:Bool) (dn:List Int) (dw:Bool) (dx:List Int) (dk:Int) (C1:List Int) (C2:List Int) (C3:List (List aa)) (C4:List aa) (C5:List aa) (dN:Int) (least:aa) (x:Int) (kD:aa) (K:Int→Option (Int)):Prop:=∀ (c7:Int) (r:Int),K c7=some r→∀ E,bk E 6→aG Tryz.prog E 109 81 (bc E [(0,vN 12 [(aI C0),(aI bE),(.os 1 0 C1.length),(.os 2 0 C2.length),(.os 3 0 C3.length),(.os 4 0 C4.length),(.os 5 0 C5.length),(aB cr),(eU dn),(aB dw),(eU dx),(aI dk)]),(1,aO 1 cI 0 C1),(2,aO 1 cI 0 C2),(3,aM 4 aj aa.d C3),(4,aO 4 aj aa.d C4),(5,aO 4 aj aa.d C5)] (aI r)) [.code (En 250686),.code (En 250687),.inBlock 1,.code (En 1959),.inLoop (En 244),.inBlock 0,.code (En 31)] ⟨[(0,(.op 0 0 0)),(1,(aI j)),(5,(aI dN)),(6,(.op 6 0 0)),(7,(aI x)),(8,(.op 7 0 0)),(9,(aI c7)),(14,(aI ((C1.length:Nat):Int))),(15,(aI x))],[(0,vN 12 [(aI C0),(aI bE),(.os 1 0 C1.length),(.os 2 0 C2.length),(.os 3 0 C3.length),(.os 4 0 C4.length),(.os 5 0 C5.length),(aB cr),(eU dn),(aB dw),(eU dx),(aI dk)]),(1,aO 1 cI 0 C1),(2,aO 1 cI 0 C2),(3,aM 4 aj aa.d C3),(4,aO 4 aj aa.d C4),(5,aO 4 aj aa.d C5),(6,vO 4 (aj least)),(7,vO 4 (aj kD))],8⟩
theorem oj (N:Nat) (j:Int) (C0:Int) (bE:Int) (cr:Bool) (dn:List Int) (dw:Bool) (dx:List Int) (dk:Int) (C1:List Int) (C2:List Int) (C3:List (List aa)) (C4:List aa) (C5:List aa) (dN:Int) (least:aa) (x:Int) (kD:aa) (b9:Int→aa→Int→Option (Int)) (iL:lI N j C0 bE cr dn dw dx dk C1 C2 C3 C4 C5 b9):vb N j C0 bE cr dn dw dx dk C1 C2 C3 C4 C5 dN least x kD (fE N j C0 bE cr dn dw dx dk C1 C2 C3 C4 C5 dN least x kD b9):=by
 intro c7 r h E hE
 unfold fE at h
 obtain ⟨c8,h⟩:=af h
 obtain ⟨c9,h⟩:=af h
 refine ag hE 0 [] [] (kp [0,1,5,6,7,8,14,15,76]) (kq [0,1,2,3,4,5,6,7]) 376 (pc (fun hg:(!(decide (c7 < 0)))=true=>(pc hg pn)) (pc (fun hg:((!(decide (c7 < 0))) && ((!(decide (c7 < 0))) && (c7 == 0)))=true=>(pc hg pn)) (pc (fun hg:((!(decide (c7 < 0))) && ((!(decide (c7 < 0))) && (c7 == 0)))=true=>(pc hg pn)) (pc (fun hg:((!(decide (c7 < 0))) && ((!(decide (c7 < 0))) && (c7 == 0)))=true=>(pc hg (pc o1 pn))) (pc (fun hg:((!(decide (c7 < 0))) && ((!(decide (c7 < 0))) && (c7 == 0)))=true=>(pc hg (pc hg (pc (c8 hg) pn)))) (pc (fun hg:((!(decide (c7 < 0))) && ((!(decide (c7 < 0))) && (c7 == 0)))=true=>(pc hg (pc (dP (c8 hg)) pn))) (pc (fun hg:((!(decide (c7 < 0))) && ((!(decide (c7 < 0))) && (c7 == 0)))=true=>(pc hg pn)) (pc (fun hg:((!(decide (c7 < 0))) && ((!(decide (c7 < 0))) && (c7 == 0)))=true=>(pc hg pn)) (pc (fun hg:((!(decide (c7 < 0))) && ((!(decide (c7 < 0))) && (c7 == 0)))=true=>(pc hg (pc o1 pn))) (pc (fun hg:((!(decide (c7 < 0))) && ((!(decide (c7 < 0))) && (c7 == 0)))=true=>(pc hg (pc hg (pc (c9 hg) pn)))) (pc (fun hg:((!(decide (c7 < 0))) && ((!(decide (c7 < 0))) && (c7 == 0)))=true=>(pc hg (pc (dP (c9 hg)) pn))) (pc (fun hg:((!(decide (c7 < 0))) && ((!(decide (c7 < 0))) && (c7 == 0)))=true=>(pc hg (pc hg pn))) (pc (fun hg:(!(decide (c7 < 0)))=true=>(pc hg (pc hg (pc (fun hq:(c7 == 0)=true=>(pc (show ((!(decide (c7 < 0))) && ((!(decide (c7 < 0))) && (c7 == 0)))=true from (jz hg (jz hg hq))) pn)) pn)))) (pc (fun hq:(!(decide (c7 < 0)))=true=>(pc hq pn)) pn)))))))))))))) ?_
 refine du 0 76 h (fun BS h=>?_) (fun BS h=>?_)
 ·refine ag hE 0 [] [] (kp [0,1,5,6,14,15]) (kq [0,1,2,3,4,5,6]) 440 (pc o1 (pc o1 pn)) ?_
  exact cP hE 1 [] (kp [0,1,5,6,14,15]) (kq [0,1,2,3,4,5,6]) 7 pn (kS N _ _ _ _ _ _ _ _ _ _ _ _ _ _ _ iL _ _ _ h E hE)
 ·exact cP hE 2 [] (kp [0,1,5,6,14,15]) (kq [0,1,2,3,4,5,6]) 7 pn (kS N _ _ _ _ _ _ _ _ _ _ _ _ _ _ _ iL _ _ _ h E hE)
theorem uk (N j C0 bE cr dn dw dx dk C1 C2 C3 C4 C5 fuel):lI N j C0 bE cr dn dw dx dk C1 C2 C3 C4 C5 (bT N j C0 bE cr dn dw dx dk C1 C2 C3 C4 C5 fuel):=by
 induction fuel with
 | zero=>intro _ _ _ r h;rw [bT.eq_1] at h;cases h
 | succ fuel ih =>
  intro dN least x r h E hE
  rw [bT.eq_2] at h
  refine ag hE 1 [] [] (kp [0,1,5,6,14,15,16]) (kq [0,1,2,3,4,5,6]) 23 pn ?_
  refine du 1 16 h (fun ee h=>?_) (fun ee h=>?_)
  ·refine ag hE 4 [] [] (kp [0,1,5,6,7,14,15]) (kq [0,1,2,3,4,5,6]) 55 pn ?_
   obtain ⟨c2,h⟩:=af h
   refine Td 3 ((x).toNat) 4 ((C3.getD ((x).toNat) []).length) (fun zi=>aj ((C3.getD ((x).toNat) []).getD zi aa.d)) (pc c2 (pc (show ba [] (mG C3) ((x).toNat)=mR 4 aj aa.d (C3.getD ((x).toNat) []) from rfl) pn)) ?_
   obtain ⟨c3,h⟩:=af h
   obtain ⟨c4,h⟩:=af h
   obtain ⟨aL,hr,h⟩:=aQ h
   refine ag hE 2 [(6,oF (.os 55 0 ((C3.getD ((x).toNat) []).length))),(10,oT (aI aL))] [] (kp [0,1,5,6,7,14,15,29]) (kq [0,1,2] ++ [(3,.qu 3 (C3.length) [((x).toNat,55,(C3.getD ((x).toNat) []).length)] (mG C3))] ++ kq [4,5,6,55]) 263 (pc o1 (pc c3 (pc (dP c3) (pc (show (ba [((x).toNat,55,(C3.getD ((x).toNat) []).length)] (mG C3) ((x).toNat))[0]?=some (.os 55 0 ((C3.getD ((x).toNat) []).length)) from (gO rfl)) (pc c4 (pc (dP c4) (pc (qZ _ _ _ hr) (pc (Eq.refl C3.length) (pc (mC C3 [((x).toNat,55,(C3.getD ((x).toNat) []).length)]) (pc (iM C3) pn)))))))))) ?_
   refine QJ 3 55 ((x).toNat) (pc c2 (pc (show ba [((x).toNat,55,(C3.getD ((x).toNat) []).length)] (mG C3) ((x).toNat)=[.os 55 0 (C3.getD ((x).toNat) []).length] from if_pos rfl) (pc (show ∀ zj,zj < (C3.getD ((x).toNat) []).length→og (aj ((C3.getD ((x).toNat) []).getD zj aa.d))=true from fun _ _=>rfl) pn))) ?_
   refine QI hE [] (kp [0,1,5,6,7,14,15,29]) (kq [0,1,2] ++ [(3,.qu 3 (C3.length) [] (mG C3))] ++ kq [4,5,6]) 263 (pc (Eq.refl (C3.length)) (pc (vI (sz:=4) (c:=aj) (d:=aa.d) C3 ((x).toNat) 55 ((C3.getD ((x).toNat) []).length) [] FV) (pc (iM C3) pn))) ?_
   refine du 0 29 h (fun jx h=>?_) (fun jx h=>?_)
   ·exact cP hE 1 [] (kp [0,1,5,6,14,15]) (kq [0,1,2,3,4,5,6]) 7 pn (kS N _ _ _ _ _ _ _ _ _ _ _ _ _ _ _ ih _ _ _ h E hE)
   ·refine Td 3 ((x).toNat) 4 ((C3.getD ((x).toNat) []).length) (fun zi=>aj ((C3.getD ((x).toNat) []).getD zi aa.d)) (pc c2 (pc (show ba [] (mG C3) ((x).toNat)=mR 4 aj aa.d (C3.getD ((x).toNat) []) from rfl) pn)) ?_
    obtain ⟨c6,h⟩:=af h
    obtain ⟨bg,eX,h⟩:=aQ h
    obtain ⟨kD,kE,h⟩:=aQ h
    refine ag hE 2 [(13,oF (.os 263 0 ((C3.getD ((x).toNat) []).length))),(17,oT (.agg (aj bg))),(18,oT (.agg (aj kD)))] [] (kp [0,1,5,6,7,8,14,15]) (kq [0,1,2] ++ [(3,.qu 3 (C3.length) [((x).toNat,263,(C3.getD ((x).toNat) []).length)] (mG C3))] ++ kq [4,5,6,263,583]) 615 (pc o1 (pc c6 (pc (dP c6) (pc o1 (pc c3 (pc (dP c3) (pc (show (ba [((x).toNat,263,(C3.getD ((x).toNat) []).length)] (mG C3) ((x).toNat))[0]?=some (.os 263 0 ((C3.getD ((x).toNat) []).length)) from (gO rfl)) (pc c4 (pc (dP c4) (pc (kV _ _ _ eX) (pc (uA _ _ _ _ kE) (pc o1 (pc (Eq.refl C3.length) (pc (mC C3 [((x).toNat,263,(C3.getD ((x).toNat) []).length)]) (pc (iM C3) pn))))))))))))))) ?_
    refine QJ 3 263 ((x).toNat) (pc c2 (pc (show ba [((x).toNat,263,(C3.getD ((x).toNat) []).length)] (mG C3) ((x).toNat)=[.os 263 0 (C3.getD ((x).toNat) []).length] from if_pos rfl) (pc (show ∀ zj,zj < (C3.getD ((x).toNat) []).length→og (aj ((C3.getD ((x).toNat) []).getD zj aa.d))=true from fun _ _=>rfl) pn))) ?_
    refine QI hE [] (kp [0,1,5,6,7,8,14,15]) (kq [0,1,2] ++ [(3,.qu 3 (C3.length) [] (mG C3))] ++ kq [4,5,6,583]) 615 (pc (Eq.refl (C3.length)) (pc (vI (sz:=4) (c:=aj) (d:=aa.d) C3 ((x).toNat) 263 ((C3.getD ((x).toNat) []).length) [] FV) (pc (iM C3) pn))) ?_
    refine ag hE 1 [] [] (kp [0,1,5,6,7,8,9,14,15]) (kq [0,1,2,3,4,5,6,583]) 631 pn ?_
    refine ag hE 2 [] [] (kp [0,1,5,6,7,8,9,14,15,50]) (kq [0,1,2,3,4,5,6,583]) 663 pn ?_
    refine du 0 50 h (fun rV h=>?_) (fun rV h=>?_)
    ·obtain ⟨fS,nu,h⟩:=aQ h
     refine ag hE 0 [(2,oT (aI fS))] [] (kp [0,1,5,6,7,8,9,14,15]) (kq [0,1,2,3,4,5,6,583]) 727 (pc o1 (pc o1 (pc (jm _ _ _ _ nu) pn))) ?_
     exact cP hE 1 [] (kp [0,1,5,6,7,8,9,14,15]) (kq [0,1,2,3,4,5,6] ++ [(7,.ah 583)]) 8 pn (oj N _ _ _ _ _ _ _ _ _ _ _ _ _ _ _ _ _ _ ih _ _ h E hE)
    ·exact cP hE 2 [] (kp [0,1,5,6,7,8,9,14,15]) (kq [0,1,2,3,4,5,6] ++ [(7,.ah 583)]) 8 pn (oj N _ _ _ _ _ _ _ _ _ _ _ _ _ _ _ _ _ _ ih _ _ h E hE)
  ·refine ag hE 2 [] [] (kp [4]) (kq [0,1,2,3,4,5]) 55 pn ?_
   obtain rfl:=cX h
   exact db hE 0 Tryz.f109 [] (kp [4]) (kq [0,1,2,3,4,5]) 55 pn [] pn
theorem xg (N j C0 bE cr dn dw dx dk C1 C2 C3 C4 C5 r) (h:lQ N j C0 bE cr dn dw dx dk C1 C2 C3 C4 C5=some r):Sd 109 [(.op 0 0 0),(aI j)] [(0,vN 12 [(aI C0),(aI bE),(.os 1 0 C1.length),(.os 2 0 C2.length),(.os 3 0 C3.length),(.os 4 0 C4.length),(.os 5 0 C5.length),(aB cr),(eU dn),(aB dw),(eU dx),(aI dk)]),(1,aO 1 cI 0 C1),(2,aO 1 cI 0 C2),(3,aM 4 aj aa.d C3),(4,aO 4 aj aa.d C4),(5,aO 4 aj aa.d C5)] 6 (aI r) [(0,vN 12 [(aI C0),(aI bE),(.os 1 0 C1.length),(.os 2 0 C2.length),(.os 3 0 C3.length),(.os 4 0 C4.length),(.os 5 0 C5.length),(aB cr),(eU dn),(aB dw),(eU dx),(aI dk)]),(1,aO 1 cI 0 C1),(2,aO 1 cI 0 C2),(3,aM 4 aj aa.d C3),(4,aO 4 aj aa.d C4),(5,aO 4 aj aa.d C5)]:=by
 unfold lQ at h
 refine im (fu:=Tryz.f109) (c:=En 1) (nt:=81) (fun hm=>absurd hm (by decide)) ?_
 intro E hE
 refine ag hE 1 [] [] (kp [0,1]) (kq [0,1,2,3,4,5]) 22 pn ?_
 refine ag hE 1 [] [] (kp [0,1,5]) (kq [0,1,2,3,4,5]) 38 pn ?_
 refine ag hE 1 [] [] (kp [0,1,5,6]) (kq [0,1,2,3,4,5,38]) 54 pn ?_
 refine ag hE 2 [] [] (kp [0,1,5,6,14,15]) (kq [0,1,2,3,4,5,38]) 150 (pc o1 pn) ?_
 exact cP hE 2 [] (kp [0,1,5,6,14,15]) (kq [0,1,2,3,4,5] ++ [(6,.var 38 [.ah,.sl (([]:List Int).length) (fun zi=>(cU .u16) (([]:List Int).getD zi 0)),.ah,.sl (([]:List Int).length) (fun zi=>(cU .u16) (([]:List Int).getD zi 0))])]) 7 (pc (Eq.refl 0) (pc (Eq.refl 0) pn)) (uk N _ _ _ _ _ _ _ _ _ _ _ _ _ N _ _ _ _ h E hE)
noncomputable abbrev VZ:=cl Tryz.f73
def xh (N:Nat) (K:Int→Int→(List Int)→(List Int)→(List (List aa))→(List aa)→(List aa)→Bool→(List Int)→Bool→(List Int)→Int→Option (Int×l7×(List Int)×(List Int)×(List (List aa))×(List aa)×(List aa))):Prop:=∀ (cm:Int) (oD:Int) (lP:List Int) (qd:List Int) (gG:List (List aa)) (qw:List aa) (qx:List aa) (uf:Bool) (ug:List Int) (z5:Bool) (z6:List Int) (yF:Int) (r:Int×l7×(List Int)×(List Int)×(List (List aa))×(List aa)×(List aa)),K cm oD lP qd gG qw qx uf ug z5 z6 yF=some r→∀ E,bk E 6→aG Tryz.prog E 73 19 (bc E [(0,vN 12 [(aI r.2.1.xQ),(aI r.2.1.xR),(.os 1 0 r.2.2.1.length),(.os 2 0 r.2.2.2.1.length),(.os 3 0 r.2.2.2.2.1.length),(.os 4 0 r.2.2.2.2.2.1.length),(.os 5 0 r.2.2.2.2.2.2.length),(aB r.2.1.ak.fN.fG),(eU r.2.1.ak.fN.fL),(aB r.2.1.ak.fD.fG),(eU r.2.1.ak.fD.fL),(aI r.2.1.cy)]),(1,aO 1 cI 0 r.2.2.1),(2,aO 1 cI 0 r.2.2.2.1),(3,aM 4 aj aa.d r.2.2.2.2.1),(4,aO 4 aj aa.d r.2.2.2.2.2.1),(5,aO 4 aj aa.d r.2.2.2.2.2.2)] (aI r.1)) [.code (VZ 12),.inLoop (VZ 12),.inBlock 0] ⟨[(0,(.op 0 0 0))],[(0,vN 12 [(aI cm),(aI oD),(.os 1 0 lP.length),(.os 2 0 qd.length),(.os 3 0 gG.length),(.os 4 0 qw.length),(.os 5 0 qx.length),(aB uf),(eU ug),(aB z5),(eU z6),(aI yF)]),(1,aO 1 cI 0 lP),(2,aO 1 cI 0 qd),(3,aM 4 aj aa.d gG),(4,aO 4 aj aa.d qw),(5,aO 4 aj aa.d qx)],6⟩
theorem v5 (N fuel):xh N (dJ N fuel):=by
 induction fuel with
 | zero=>intro _ _ _ _ _ _ _ _ _ _ _ _ r h;rw [dJ.eq_1] at h;cases h
 | succ fuel ih =>
  intro cm oD lP qd gG qw qx uf ug z5 z6 yF r h E hE
  rw [dJ.eq_2] at h
  obtain ⟨ti,hr,h⟩:=aQ h
  refine ag hE 2 [(1,⟨[0,1,2,3,4,5],true,(aI ti),[],0,false,none⟩)] [] (kp [0,3]) (kq [0,1,2,3,4,5]) 54 (pc (vZ _ _ _ _ _ _ _ _ _ _ _ _ _ _ hr) (pc (iM gG) pn)) ?_
  refine ag hE 2 [] [] (kp [0,3,8]) (kq [0,1,2,3,4,5]) 86 pn ?_
  refine du 0 8 h (fun ee h=>?_) (fun ee h=>?_)
  ·refine ag hE 1 [] [] (kp [2]) (kq [0,1,2,3,4,5]) 102 pn ?_
   obtain rfl:=cX h
   exact db hE 0 Tryz.f73 [] (kp [2]) (kq [0,1,2,3,4,5]) 102 pn [] pn
  ·obtain ⟨BJ,eX,h⟩:=aQ h
   refine ag hE 2 [(2,⟨[0,1,2,3,4,5],true,(aI BJ),[],0,false,none⟩)] [] (kp [0,3,4]) (kq [0,1,2,3,4,5]) 150 (pc (xg _ _ _ _ _ _ _ _ _ _ _ _ _ _ _ eX) (pc (iM gG) pn)) ?_
   refine ag hE 2 [] [] (kp [0,3,4,13]) (kq [0,1,2,3,4,5]) 182 pn ?_
   refine du 0 13 h (fun jx h=>?_) (fun jx h=>?_)
   ·refine ag hE 1 [] [] (kp [2]) (kq [0,1,2,3,4,5]) 214 pn ?_
    obtain rfl:=cX h
    exact db hE 0 Tryz.f73 [] (kp [2]) (kq [0,1,2,3,4,5]) 214 pn [] pn
   ·obtain ⟨bD,kE,h⟩:=aQ h
    obtain ⟨c,h⟩:=af h
    obtain ⟨c2,h⟩:=af h
    obtain ⟨c3,h⟩:=af h
    obtain ⟨c4,h⟩:=af h
    obtain ⟨c5,h⟩:=af h
    refine ag hE 1 [(3,⟨[0,1,2,3,4,5],false,(.tup []),[(0,vN 12 [(aI bD.1.xQ),(aI bD.1.xR),(.os 1 0 bD.2.1.length),(.os 2 0 bD.2.2.1.length),(.os 3 0 bD.2.2.2.1.length),(.os 4 0 bD.2.2.2.2.1.length),(.os 5 0 bD.2.2.2.2.2.length),(aB bD.1.ak.fN.fG),(eU bD.1.ak.fN.fL),(aB bD.1.ak.fD.fG),(eU bD.1.ak.fD.fL),(aI bD.1.cy)]),(1,aO 1 cI 0 bD.2.1),(2,aO 1 cI 0 bD.2.2.1),(3,aM 4 aj aa.d bD.2.2.2.1),(4,aO 4 aj aa.d bD.2.2.2.2.1),(5,aO 4 aj aa.d bD.2.2.2.2.2)],0,false,none⟩)] [] (kp [0]) (kq [0,1,2,3,4,5]) 246 (pc (nR _ _ _ _ _ _ _ _ _ _ _ _ _ _ _ _ kE) pn) ?_
    exact cP hE 2 [] (kp [0]) (kq [0,1,2,3,4,5]) 6 pn (ih _ _ _ _ _ _ _ _ _ _ _ _ _ h E hE)
theorem yS (N C0 bE cr dn dw dx dk C1 C2 C3 C4 C5 r) (h:qe N C0 bE cr dn dw dx dk C1 C2 C3 C4 C5=some r):Sd 73 [(.op 0 0 0)] [(0,vN 12 [(aI C0),(aI bE),(.os 1 0 C1.length),(.os 2 0 C2.length),(.os 3 0 C3.length),(.os 4 0 C4.length),(.os 5 0 C5.length),(aB cr),(eU dn),(aB dw),(eU dx),(aI dk)]),(1,aO 1 cI 0 C1),(2,aO 1 cI 0 C2),(3,aM 4 aj aa.d C3),(4,aO 4 aj aa.d C4),(5,aO 4 aj aa.d C5)] 6 (aI r.1) [(0,vN 12 [(aI r.2.1.xQ),(aI r.2.1.xR),(.os 1 0 r.2.2.1.length),(.os 2 0 r.2.2.2.1.length),(.os 3 0 r.2.2.2.2.1.length),(.os 4 0 r.2.2.2.2.2.1.length),(.os 5 0 r.2.2.2.2.2.2.length),(aB r.2.1.ak.fN.fG),(eU r.2.1.ak.fN.fL),(aB r.2.1.ak.fD.fG),(eU r.2.1.ak.fD.fL),(aI r.2.1.cy)]),(1,aO 1 cI 0 r.2.2.1),(2,aO 1 cI 0 r.2.2.2.1),(3,aM 4 aj aa.d r.2.2.2.2.1),(4,aO 4 aj aa.d r.2.2.2.2.2.1),(5,aO 4 aj aa.d r.2.2.2.2.2.2)]:=by
 unfold qe at h
 refine im (fu:=Tryz.f73) (c:=VZ 1) (nt:=19) (fun hm=>absurd hm (by decide)) ?_
 intro E hE
 refine ag hE 1 [] [] (kp [0]) (kq [0,1,2,3,4,5]) 22 pn ?_
 exact cP hE 2 [] (kp [0]) (kq [0,1,2,3,4,5]) 6 pn (v5 N N _ _ _ _ _ _ _ _ _ _ _ _ _ h E hE)
noncomputable abbrev Tr:=cl Tryz.f75
def sX (N:Nat) (s:List Int) (v:Int) (K:Int→Option (Int)):Prop:=∀ (x:Int) (r:Int),K x=some r→∀ E,bk E 0→aG Tryz.prog E 75 19 (bc E [] (aI r)) [.code (Tr 52),.inLoop (Tr 52),.inBlock 0,.code (Tr 7)] ⟨[(0,(aH cI 0 s)),(1,(aI v)),(7,(aI ((s.length:Nat):Int))),(8,(aI x))],[],0⟩
theorem rY (N s v fuel):sX N s v (cw N s v fuel):=by
 induction fuel with
 | zero=>intro _ r h;rw [cw.eq_1] at h;cases h
 | succ fuel ih =>
  intro x r h E hE
  rw [cw.eq_2] at h
  refine ag hE 1 [] [] (kp [0,1,7,8,9]) [] 16 pn ?_
  refine du 1 9 h (fun ee h=>?_) (fun ee h=>?_)
  ·refine ag hE 4 [] [] (kp [0,1,5,7,8]) [] 48 pn ?_
   obtain ⟨c,h⟩:=af h
   refine ag hE 1 [] [] (kp [0,1,5,7,8,16]) [] 144 (pc c pn) ?_
   refine du 0 16 h (fun jx h=>?_) (fun jx h=>?_)
   ·refine ag hE 1 [] [] (kp [4]) [] 176 pn ?_
    obtain rfl:=cX h
    exact db hE 0 Tryz.f75 [] (kp [4]) [] 176 pn [] pn
   ·refine ag hE 2 [] [] (kp [0,1,7,8]) [] 176 pn ?_
    exact cP hE 1 [] (kp [0,1,7,8]) [] 0 pn (ih _ _ h E hE)
  ·refine ag hE 2 [] [] (kp [4]) [] 32 pn ?_
   obtain rfl:=cX h
   exact db hE 0 Tryz.f75 [] (kp [4]) [] 48 pn [] pn
theorem iP (N s v r) (h:eF N s v=some r):Sd 75 [(aH cI 0 s),(aI v)] [] 0 (aI r) []:=by
 unfold eF at h
 refine im (fu:=Tryz.f75) (c:=Tr 1) (nt:=19) (fun hm=>rfl) ?_
 intro E hE
 refine ag hE 1 [] [] (kp [0,1]) [] 16 pn ?_
 refine ag hE 2 [] [] (kp [0,1,7,8]) [] 64 pn ?_
 exact cP hE 2 [] (kp [0,1,7,8]) [] 0 pn (rY N _ _ N _ _ h E hE)
noncomputable abbrev aay:=cl Tryz.f77
theorem v7 (N x r) (h:lq N x=some r):Sd 77 [(.agg (aj x))] [] 0 (aB r) []:=by
 unfold lq at h
 refine im (fu:=Tryz.f77) (c:=aay 1) (nt:=6) (fun hm=>rfl) ?_
 intro E hE
 refine ag hE 1 [] [] (kp [1]) (kq [0]) 32 pn ?_
 obtain ⟨gn,hr,h⟩:=aQ h
 refine ag hE 1 [(1,oT (aB gn))] [] (kp [2]) [] 96 (pc o1 (pc (jl _ _ _ hr) pn)) ?_
 obtain rfl:=cX h
 exact db hE 0 Tryz.f77 [] (kp [2]) [] 96 pn [] pn
end Go.Den
