/- Each function of the program does what its Lean function computes (part 1). No conditions. -/
import Derived.Test.YtlgddcmiekcdiaaGreatBerthWorstDen
import Derived.Test.YtlgddcmiekcdiaaGreatProg
set_option linter.unusedVariables false
set_option maxRecDepth 100000
namespace Go.Den
open Go.Ab Go.Proofs Go.Ab.aE
abbrev Sd:=Sound Tryz.prog
abbrev eU (a:List Int):AV:=aH (cU .u16) 0 a
abbrev aU (a:List Int):Ob:=aO 1 (cU .u16) 0 a
abbrev IU (x:Int):AV:=.atom (.int .u64 x)
abbrev RY (x:Int):AV:=.atom (.int .u32 x)
abbrev wQ (x:Int):AV:=.atom (.int .u16 x)
theorem g8 {P:Program} {f:FuncId} {fu:Func} {c:Code} {nt m:Nat} {args:List AV} {σ dX:dn} {res:AV} (hs:m=0→σ=[]) (h:∀ E,bh E m→aE P E f nt (aW E dX res) [.code c] ⟨tR args 0,σ,m⟩) (hf:P.funcs[f]?=some fu:=by kernel_rfl) (hb:fu.body=some c:=by kernel_rfl) (hn:fu.ntmps=nt:=by kernel_rfl) (ha:Nat.ble args.length nt=true:=by kernel_rfl):Sound P f args σ m res dX:=sor hf hb hn ha hs h
noncomputable def b8 (f:Func) (n:Nat):Code:=cat (Um f) (pth n)
abbrev oT (x:AV):nG:=⟨[],true,x,[],0,false,none⟩
abbrev oF (x:AV):nG:=⟨[],false,x,[],0,false,none⟩
abbrev aZ (n:Nat) (g:Nat→List AV):∀ i,i < n→g i=g (bu 0 i):=fun _ _=>rfl
abbrev mG (C:List (List aa)):Nat→List AV:=fun zm=>mR 4 ak aa.d (C.getD zm [])
theorem mC (C:List (List aa)) (l:List (Nat×Nat×Nat)):∀ zm,zm < C.length→aQ l (mG C) zm=aQ l (mG C) zm:=fun _ _=>rfl
theorem iM (C:List (List aa)):∀ zm,zm < C.length→Ei (mG C zm)=true:=fun _ _=>rfl
theorem cT {α:Type} {a b:α} (h:some a=some b):a=b:=Option.some.inj h
noncomputable abbrev C_4:=b8 Tryz.f67
theorem zX (N vr C0 r) (h:og N vr C0=some r):Sd 67 [(.agg (wo vr)),(.op 0 0 0)] [(0,vO 1 [(aI C0)])] 1 (aB r) [(0,vO 1 [(aI C0)])]:=by
 unfold og at h
 refine g8 (fu:=Tryz.f67) (c:=C_4 1) (nt:=9) (fun hm=>absurd hm (by decide)) ?_
 intro E hE
 refine ae hE 1 [] [] (kp [1,2]) (kq [0,1]) 33 pn ?_
 refine ae hE 1 [] [] (kp [3]) (kq [0]) 129 (pc o1 (pc o1 pn)) ?_
 obtain rfl:=cT h
 exact cZ hE 0 Tryz.f67 [] (kp [3]) (kq [0]) 129 pn [] pn
noncomputable abbrev Xz:=b8 Tryz.f103
def rM (N:Nat) (s:List af) (C0:Int) (K:Int→Option (Int)):Prop:=∀ (x:Int) (r:Int),K x=some r→∀ E,bh E 1→aE Tryz.prog E 103 19 (aW E [(0,vO 1 [(aI C0)])] (aI r)) [.code (Xz 52),.inLoop (Xz 52),.inBlock 0,.code (Xz 7)] ⟨[(0,(aH wo af.d s)),(1,(.fn (.func 67) [] [(.op 0 0 0)])),(7,(aI ((s.length:Nat):Int))),(8,(aI x))],[(0,vO 1 [(aI C0)])],1⟩
theorem qZ (N s C0 fuel):rM N s C0 (ca N s C0 fuel):=by
 induction fuel with
 | zero=>intro _ r h;rw [ca.eq_1] at h;cases h
 | succ fuel ih =>
  intro x r h E hE
  rw [ca.eq_2] at h
  refine ae hE 1 [] [] (kp [0,1,7,8,9]) (kq [0]) 17 pn ?_
  refine dr 1 9 h (fun ee h=>?_) (fun ee h=>?_)
  ·refine ae hE 4 [] [] (kp [0,1,5,7,8]) (kq [0]) 49 pn ?_
   obtain ⟨c,h⟩:=ab h
   obtain ⟨xB,hr,h⟩:=aP h
   refine ae hE 1 [(5,⟨[0],true,(aB xB),[],0,false,none⟩)] [] (kp [0,1,5,7,8,16]) (kq [0]) 145 (pc c (pc (zX _ _ _ _ hr) pn)) ?_
   refine dr 0 16 h (fun jq h=>?_) (fun jq h=>?_)
   ·refine ae hE 1 [] [] (kp [4]) (kq [0]) 177 pn ?_
    obtain rfl:=cT h
    exact cZ hE 0 Tryz.f103 [] (kp [4]) (kq [0]) 177 pn [] pn
   ·refine ae hE 2 [] [] (kp [0,1,7,8]) (kq [0]) 177 pn ?_
    exact cP hE 1 [] (kp [0,1,7,8]) (kq [0]) 1 pn (ih _ _ h E hE)
  ·refine ae hE 2 [] [] (kp [4]) (kq [0]) 33 pn ?_
   obtain rfl:=cT h
   exact cZ hE 0 Tryz.f103 [] (kp [4]) (kq [0]) 49 pn [] pn
theorem th (N s C0 r) (h:lF N s C0=some r):Sd 103 [(aH wo af.d s),(.fn (.func 67) [] [(.op 0 0 0)])] [(0,vO 1 [(aI C0)])] 1 (aI r) [(0,vO 1 [(aI C0)])]:=by
 unfold lF at h
 refine g8 (fu:=Tryz.f103) (c:=Xz 1) (nt:=19) (fun hm=>absurd hm (by decide)) ?_
 intro E hE
 refine ae hE 1 [] [] (kp [0,1]) (kq [0]) 17 pn ?_
 refine ae hE 2 [] [] (kp [0,1,7,8]) (kq [0]) 65 pn ?_
 exact cP hE 2 [] (kp [0,1,7,8]) (kq [0]) 1 pn (qZ N _ _ N _ _ h E hE)
noncomputable abbrev C_2:=b8 Tryz.f66
theorem q7 (N s C0 r) (h:ki N s C0=some r):Sd 66 [(aH wo af.d s),(.fn (.func 67) [] [(.op 0 0 0)])] [(0,vO 1 [(aI C0)])] 1 (aB r) [(0,vO 1 [(aI C0)])]:=by
 unfold ki at h
 refine g8 (fu:=Tryz.f66) (c:=C_2 1) (nt:=9) (fun hm=>absurd hm (by decide)) ?_
 intro E hE
 refine ae hE 1 [] [] (kp [0,1]) (kq [0]) 17 pn ?_
 obtain ⟨KU,hr,h⟩:=aP h
 refine ae hE 1 [(2,⟨[0],true,(aI KU),[],0,false,none⟩)] [] (kp [4]) (kq [0]) 97 (pc (th _ _ _ _ hr) pn) ?_
 obtain rfl:=cT h
 exact cZ hE 0 Tryz.f66 [] (kp [4]) (kq [0]) 97 pn [] pn
noncomputable abbrev C_1:=b8 Tryz.f32
theorem B3 (N n l r) (h:nP N n l=some r):Sd 32 [(aI n),(aH wo af.d l)] [] 0 (aI r) []:=by
 unfold nP at h
 refine g8 (fu:=Tryz.f32) (c:=C_1 1) (nt:=17) (fun hm=>rfl) ?_
 intro E hE
 refine ae hE 1 [] [] (kp [1,2]) (kq [0]) 32 pn ?_
 refine ae hE 2 [] [] (kp [1,2,10]) (kq [0]) 128 (pc o1 (pc (fun hg:(!(decide (n < 0)))=true=>(pc o1 pn)) (pc (fun hg:(!(decide (n < 0)))=true=>(pc hg pn)) (pc (fun hq:(!(decide (n < 0)))=true=>(pc hq pn)) pn)))) ?_
 refine dr 0 10 h (fun ee h=>?_) (fun ee h=>?_)
 ·refine ae hE 1 [] [] (kp [4]) [] 144 pn ?_
  obtain rfl:=cT h
  exact cZ hE 0 Tryz.f32 [] (kp [4]) [] 144 pn [] pn
 ·refine ae hE 3 [] [] (kp [1,2,13]) (kq [0]) 176 pn ?_
  refine dr 0 13 h (fun jq h=>?_) (fun jq h=>?_)
  ·refine ae hE 1 [] [] (kp [4]) [] 192 pn ?_
   obtain rfl:=cT h
   exact cZ hE 0 Tryz.f32 [] (kp [4]) [] 192 pn [] pn
  ·obtain ⟨KU,hr,h⟩:=aP h
   refine ae hE 3 [(2,⟨[0],true,(aB KU),[],0,false,none⟩)] [] (kp [16]) [] 224 (pc (q7 _ _ _ _ hr) pn) ?_
   refine dr 0 16 h (fun ti h=>?_) (fun ti h=>?_)
   ·refine ae hE 1 [] [] (kp [4]) [] 240 pn ?_
    obtain rfl:=cT h
    exact cZ hE 0 Tryz.f32 [] (kp [4]) [] 240 pn [] pn
   ·refine ae hE 2 [] [] (kp [4]) [] 240 pn ?_
    obtain rfl:=cT h
    exact cZ hE 0 Tryz.f32 [] (kp [4]) [] 240 pn [] pn
noncomputable abbrev XA:=b8 Tryz.f115
def B4 (N:Nat) (K:Int→(List Int)→Option ((List Int))):Prop:=∀ (n2:Int) (out:List Int) (r:(List Int)),K n2 out=some r→∀ E,bh E 0→aE Tryz.prog E 115 14 (aW E [] (eU r)) [.code (XA 56),.inLoop (XA 56),.inBlock 0,.code (XA 15)] ⟨[(0,(IU n2)),(3,(.os 0 0 out.length))],[(0,aU out)],1⟩
theorem AU (N fuel):B4 N (jX N fuel):=by
 induction fuel with
 | zero=>intro _ _ r h;rw [jX.eq_1] at h;cases h
 | succ fuel ih =>
  intro n2 out r h E hE
  rw [jX.eq_2] at h
  refine ae hE 2 [] [] (kp [0,3,5]) (kq [0]) 33 pn ?_
  refine dr 0 5 h (fun ee h=>?_) (fun ee h=>?_)
  ·obtain ⟨c,h⟩:=ab h
   refine ae hE 3 [] [] (kp [0] ++ [(3,.kD ((out ++ ([(IntKind.u16.wrap (n2))]:List Int)).length))]) [(97,.arr 97 ((out ++ ([(IntKind.u16.wrap (n2))]:List Int)).length) (fun zi=>(cU .u16) ((out ++ ([(IntKind.u16.wrap (n2))]:List Int)).getD zi 0)))] 129 (pc (Eq.refl out.length) (pc c (pc (z1 1) (pc (show ∀ zi,zi < 1→AV.iy ((fun zi=>([[(wQ (IntKind.u16.wrap (n2)))]]:List (List AV)).getD zi []) (bu 0 zi))=true from (qw rfl)) (pc (show (out.length+1)=(out ++ ([(IntKind.u16.wrap (n2))]:List Int)).length from (ax rfl rfl)) (pc (show out.length+1=(out ++ ([(IntKind.u16.wrap (n2))]:List Int)).length from (ax rfl rfl)) (pc (show ∀ zi,zi < (out ++ ([(IntKind.u16.wrap (n2))]:List Int)).length→(fun zi=>(cU .u16) ((out ++ ([(IntKind.u16.wrap (n2))]:List Int)).getD zi 0)) zi=((fun zm=>if zm < out.length then (fun zi=>(cU .u16) (out.getD zi 0)) zm else (fun zi=>([[(wQ (IntKind.u16.wrap (n2)))]]:List (List AV)).getD zi []) (zm - out.length))) zi from (bL (cU .u16) 0 out ([(IntKind.u16.wrap (n2))]:List Int) rfl (fun _ _=>rfl) (fun zq g9=>b9 (cU .u16) 0 ([(IntKind.u16.wrap (n2))]:List Int) zq g9))) pn))))))) ?_
   refine ae hE 1 [] [] (kp [0,3]) (kq [97]) 177 (pc (show (0:Int)≤16 by decide) pn) ?_
   exact cP hE 1 [] (kp [0,3]) [(0,.ah 97)] 1 pn (ih _ _ _ h E hE)
  ·refine ae hE 2 [] [] (kp [2]) (kq [0]) 65 pn ?_
   obtain rfl:=cT h
   exact cZ hE 0 Tryz.f115 [0] [(2,.sl (out.length) (fun zi=>(cU .u16) (out.getD zi 0)))] [] 65 (pc (Eq.refl out.length) (pc (z1 out.length) (pc (aZ out.length (fun zi=>(cU .u16) (out.getD zi 0))) pn))) [] pn
theorem sK (N n r) (h:mO N n=some r):Sd 115 [(IU n)] [] 0 (eU r) []:=by
 unfold mO at h
 refine g8 (fu:=Tryz.f115) (c:=XA 1) (nt:=14) (fun hm=>rfl) ?_
 intro E hE
 refine ae hE 1 [] [] (kp [0]) [] 16 pn ?_
 refine ae hE 1 [] [] (kp [0,3]) [] 32 pn ?_
 exact cP hE 3 [] (kp [0] ++ [(3,.oK 0)]) [(0,.nil 1 (fun zi=>(cU .u16) (([]:List Int).getD zi 0)))] 1 pn (AU N N _ _ _ h E hE)
noncomputable abbrev RZ:=b8 Tryz.f122
def Gd (N:Nat) (K:(List Int)→Option ((List Int))):Prop:=∀ (n2:List Int) (r:(List Int)),K n2=some r→∀ E,bh E 0→aE Tryz.prog E 122 21 (aW E [] (eU r)) [.code (RZ 24),.inLoop (RZ 24),.inBlock 0,.code (RZ 7)] ⟨[(0,(eU n2))],[],0⟩
theorem E5 (N fuel):Gd N (mP N fuel):=by
 induction fuel with
 | zero=>intro _ r h;rw [mP.eq_1] at h;cases h
 | succ fuel ih =>
  intro n2 r h E hE
  rw [mP.eq_2] at h
  obtain ⟨c,h⟩:=ab h
  refine ae hE 2 [] [] (kp [0,14]) [] 192 (pc (fun hg:(decide (((n2.length:Nat):Int) > 0))=true=>(pc hg pn)) (pc (fun hg:(decide (((n2.length:Nat):Int) > 0))=true=>(pc hg pn)) (pc (fun hg:(decide (((n2.length:Nat):Int) > 0))=true=>(pc hg (pc hg (pc (c hg) pn)))) (pc (fun hg:(decide (((n2.length:Nat):Int) > 0))=true=>(pc hg pn)) (pc (fun hg:(decide (((n2.length:Nat):Int) > 0))=true=>(pc hg pn)) (pc (fun hq:(decide (((n2.length:Nat):Int) > 0))=true=>(pc hq pn)) pn)))))) ?_
  refine dr 0 14 h (fun ee h=>?_) (fun ee h=>?_)
  ·obtain ⟨c2,h⟩:=ab h
   obtain ⟨c3,h⟩:=ab h
   refine ae hE 2 [] [] [(0,.sl (((n2.take ((ag (((n2.length:Nat):Int) - 1)).toNat)).drop 0).length) (fun zi=>(cU .u16) (((n2.take ((ag (((n2.length:Nat):Int) - 1)).toNat)).drop 0).getD zi 0)))] [] 288 (pc c2 (pc c3 (pc (show (ag (((n2.length:Nat):Int) - 1)).toNat - 0=((n2.take ((ag (((n2.length:Nat):Int) - 1)).toNat)).drop 0).length from (xz n2 0 ((ag (((n2.length:Nat):Int) - 1)).toNat) c2)) (pc (show ∀ zi,zi < ((n2.take ((ag (((n2.length:Nat):Int) - 1)).toNat)).drop 0).length→(fun zi=>(cU .u16) (((n2.take ((ag (((n2.length:Nat):Int) - 1)).toNat)).drop 0).getD zi 0)) zi=(fun zi=>(cU .u16) (n2.getD (bu 0 zi) 0)) zi from (fun zq g9=>DR (cU .u16) 0 n2 0 ((ag (((n2.length:Nat):Int) - 1)).toNat) zq g9)) pn)))) ?_
   exact cP hE 2 [] (kp [0]) [] 0 pn (ih _ _ h E hE)
  ·refine ae hE 2 [] [] (kp [2]) [] 224 pn ?_
   obtain rfl:=cT h
   exact cZ hE 0 Tryz.f122 [] (kp [2]) [] 224 pn [] pn
theorem eS (N n r) (h:gK N n=some r):Sd 122 [(eU n)] [] 0 (eU r) []:=by
 unfold gK at h
 refine g8 (fu:=Tryz.f122) (c:=RZ 1) (nt:=21) (fun hm=>rfl) ?_
 intro E hE
 refine ae hE 1 [] [] (kp [0]) [] 16 pn ?_
 exact cP hE 3 [] (kp [0]) [] 0 pn (E5 N N _ _ h E hE)
noncomputable abbrev PL:=b8 Tryz.f130
theorem la (N s r) (h:dp N s=some r):Sd 130 [(eU s)] [] 0 (eU r) []:=by
 unfold dp at h
 refine g8 (fu:=Tryz.f130) (c:=PL 1) (nt:=8) (fun hm=>rfl) ?_
 intro E hE
 refine ae hE 1 [] [] (kp [0]) [] 16 pn ?_
 refine ae hE 2 [] [] (kp [0,4]) [] 48 pn ?_
 refine sA 0 [.code (PL 13),.code (PL 7)] ?_
 refine aE.Un (o:=.tmp 4) (x:=PL 26) (y:=PL 27) (n:=s.length) (by kernel_rfl) (by kernel_rfl) (fun ee=>?_) ?_
 ·replace ee:=List.length_eq_zero_iff.1 ee
  replace h:(some ([]:List Int))=some r:=by rw [ee] at h;simpa using h
  refine ae hE 1 [] [] (kp [2]) [] 64 pn ?_
  obtain rfl:=cT h
  exact cZ hE 0 Tryz.f130 [] [(2,.sl (([]:List Int).length) (fun zi=>(cU .u16) (([]:List Int).getD zi 0)))] [] 64 (pc (Eq.refl 0) pn) [] pn
 ·obtain ⟨c,h⟩:=ab h
  refine ae hE 2 [] [] [(2,.kD ((([]:List Int) ++ s).length))] [(80,.arr 80 ((([]:List Int) ++ s).length) (fun zi=>(cU .u16) ((([]:List Int) ++ s).getD zi 0)))] 112 (pc (Eq.refl 0) (pc c (pc (show ∀ zi,zi < s.length→AV.iy ((fun zi=>(cU .u16) (s.getD zi 0)) zi)=true from (fun _ _=>rfl)) (pc (show (0+s.length)=(([]:List Int) ++ s).length from (ax rfl rfl)) (pc (show 0+s.length=(([]:List Int) ++ s).length from (ax rfl rfl)) (pc (show ∀ zi,zi < (([]:List Int) ++ s).length→(fun zi=>(cU .u16) ((([]:List Int) ++ s).getD zi 0)) zi=((fun zm=>if zm < 0 then (fun _=>[]) zm else (fun zi=>(cU .u16) (s.getD zi 0)) (zm - 0))) zi from (bL (cU .u16) 0 ([]:List Int) s rfl (fun zq g9=>absurd g9 (cW _)) (fun _ _=>rfl))) pn)))))) ?_
  obtain rfl:=cT h
  exact cZ hE 0 Tryz.f130 [80] [(2,.sl ((([]:List Int) ++ s).length) (fun zi=>(cU .u16) ((([]:List Int) ++ s).getD zi 0)))] [] 112 (pc (Eq.refl ((([]:List Int) ++ s).length)) (pc (z1 ((([]:List Int) ++ s).length)) (pc (aZ ((([]:List Int) ++ s).length) (fun zi=>(cU .u16) ((([]:List Int) ++ s).getD zi 0))) pn))) [] pn
noncomputable abbrev C_9:=b8 Tryz.f114
theorem jM (N neg n r) (h:jn N neg n=some r):Sd 114 [(aB neg),(eU n)] [] 0 (.agg (lg r)) []:=by
 unfold jn at h
 refine g8 (fu:=Tryz.f114) (c:=C_9 1) (nt:=15) (fun hm=>rfl) ?_
 intro E hE
 refine ae hE 1 [] [] (kp [0,1,4]) (kq [0]) 16 pn ?_
 obtain ⟨bU,hr,h⟩:=aP h
 refine ae hE 1 [(1,oT (eU bU))] [] (kp [0,1,4]) (kq [0]) 64 (pc (eS _ _ _ hr) pn) ?_
 refine ae hE 2 [] [] (kp [0,1,4,9]) (kq [0]) 112 pn ?_
 refine dr 0 9 h (fun ee h=>?_) (fun ee h=>?_)
 ·refine ae hE 1 [] [] (kp [4]) (kq [0]) 144 (pc o1 pn) ?_
  obtain rfl:=cT h
  exact cZ hE 0 Tryz.f114 [] (kp [4]) [(16,.var 0 [.ah,.sl (([]:List Int).length) (fun zi=>(cU .u16) (([]:List Int).getD zi 0))])] 144 (pc (Eq.refl 0) pn) [16] (pc o1 pn)
 ·obtain ⟨zQ,eI,h⟩:=aP h
  refine ae hE 2 [(2,oT (eU zQ))] [] (kp [4]) (kq [0]) 192 (pc (la _ _ _ eI) (pc o1 pn)) ?_
  obtain rfl:=cT h
  exact cZ hE 0 Tryz.f114 [] (kp [4]) [(16,.ah 0)] 192 pn [16] (pc o1 pn)
noncomputable abbrev C_7:=b8 Tryz.f90
theorem yG (N n r) (h:vF N n=some r):Sd 90 [(aI n)] [] 0 (.agg (lg r)) []:=by
 unfold vF at h
 refine g8 (fu:=Tryz.f90) (c:=C_7 1) (nt:=14) (fun hm=>rfl) ?_
 intro E hE
 refine ae hE 1 [] [] (kp [0,2]) (kq [0]) 16 pn ?_
 refine ae hE 2 [] [] (kp [0,2,4]) (kq [0]) 48 pn ?_
 refine dr 0 4 h (fun ee h=>?_) (fun ee h=>?_)
 ·obtain ⟨su,hr,h⟩:=aP h
  obtain ⟨KV,eI,h⟩:=aP h
  refine ae hE 1 [(3,oT (eU su)),(4,oT (.agg (lg KV)))] [] (kp [2]) (kq [0]) 144 (pc (sK _ _ _ hr) (pc (jM _ _ _ _ eI) (pc o1 pn))) ?_
  obtain rfl:=cT h
  exact cZ hE 0 Tryz.f90 [] (kp [2]) [(16,.ah 0)] 144 pn [16] (pc o1 pn)
 ·obtain ⟨BX,kc,h⟩:=aP h
  obtain ⟨ES,nw,h⟩:=aP h
  refine ae hE 2 [(2,oT (eU BX)),(3,oT (.agg (lg ES)))] [] (kp [2]) (kq [0]) 128 (pc (sK _ _ _ kc) (pc (jM _ _ _ _ nw) (pc o1 pn))) ?_
  obtain rfl:=cT h
  exact cZ hE 0 Tryz.f90 [] (kp [2]) [(16,.ah 0)] 128 pn [16] (pc o1 pn)
noncomputable abbrev R0:=b8 Tryz.f132
def Gf (N:Nat) (n:List Int) (K:Int→Int→Option (Int×Bool)):Prop:=∀ (out:Int) (i:Int) (r:Int×Bool),K out i=some r→∀ E,bh E 0→aE Tryz.prog E 132 25 (aW E [] (.tup [(IU r.1),(aB r.2)])) [.code (R0 244),.inLoop (R0 244),.inBlock 0,.code (R0 31)] ⟨[(0,(eU n)),(4,(IU out)),(5,(aI i))],[],0⟩
theorem E6 (N n fuel):Gf N n (lA N n fuel):=by
 induction fuel with
 | zero=>intro _ _ r h;rw [lA.eq_1] at h;cases h
 | succ fuel ih =>
  intro out i r h E hE
  rw [lA.eq_2] at h
  refine ae hE 2 [] [] (kp [0,4,5,13]) [] 32 pn ?_
  refine dr 0 13 h (fun jq h=>?_) (fun jq h=>?_)
  ·obtain ⟨c,h⟩:=ab h
   refine ae hE 3 [] [] (kp [0,4,5]) [] 176 (pc (show (0:Int)≤16 by decide) (pc c pn)) ?_
   refine ae hE 1 [] [] (kp [0,4,5]) [] 224 pn ?_
   exact cP hE 1 [] (kp [0,4,5]) [] 0 pn (ih _ _ _ h E hE)
  ·refine ae hE 2 [] [] (kp [2,3]) [] 80 pn ?_
   obtain rfl:=cT h
   exact cZ hE 0 Tryz.f132 [] (kp [2,3]) [] 80 pn [] pn
theorem CO (N n r) (h:uC N n=some r):Sd 132 [(eU n)] [] 0 (.tup [(IU r.1),(aB r.2)]) []:=by
 unfold uC at h
 refine g8 (fu:=Tryz.f132) (c:=R0 1) (nt:=25) (fun hm=>rfl) ?_
 intro E hE
 refine ae hE 1 [] [] (kp [0]) [] 32 pn ?_
 refine ae hE 2 [] [] (kp [0,8]) [] 80 pn ?_
 refine dr 0 8 h (fun ee h=>?_) (fun ee h=>?_)
 ·refine ae hE 1 [] [] (kp [2,3]) [] 112 pn ?_
  obtain rfl:=cT h
  exact cZ hE 0 Tryz.f132 [] (kp [2,3]) [] 112 pn [] pn
 ·refine ae hE 2 [] [] (kp [0,4]) [] 96 pn ?_
  refine ae hE 2 [] [] (kp [0,4,5]) [] 160 pn ?_
  exact cP hE 2 [] (kp [0,4,5]) [] 0 pn (E6 N _ N _ _ _ h E hE)
noncomputable abbrev R1:=b8 Tryz.f126
def B5 (N:Nat) (a:List Int) (b:List Int) (K:Int→Option (Int)):Prop:=∀ (i:Int) (r:Int),K i=some r→∀ E,bh E 0→aE Tryz.prog E 126 43 (aW E [] (aI r)) [.code (R1 116),.inLoop (R1 116),.inBlock 0,.code (R1 15)] ⟨[(0,(eU a)),(1,(eU b)),(5,(aI i))],[],0⟩
theorem AW (N a b fuel):B5 N a b (iV N a b fuel):=by
 induction fuel with
 | zero=>intro _ r h;rw [iV.eq_1] at h;cases h
 | succ fuel ih =>
  intro i r h E hE
  rw [iV.eq_2] at h
  refine ae hE 2 [] [] (kp [0,1,5,20]) [] 32 pn ?_
  refine dr 0 20 h (fun jq h=>?_) (fun jq h=>?_)
  ·obtain ⟨c,h⟩:=ab h
   obtain ⟨c2,h⟩:=ab h
   refine ae hE 4 [] [] (kp [0,1,5,31]) [] 176 (pc c (pc c2 pn)) ?_
   refine dr 0 31 h (fun ti h=>?_) (fun ti h=>?_)
   ·refine ae hE 1 [] [] (kp [4]) [] 368 (pc c (pc c2 pn)) ?_
    obtain rfl:=cT h
    exact cZ hE 0 Tryz.f126 [] (kp [4]) [] 368 pn [] pn
   ·refine ae hE 2 [] [] (kp [0,1,5]) [] 224 pn ?_
    exact cP hE 1 [] (kp [0,1,5]) [] 0 pn (ih _ _ h E hE)
  ·refine ae hE 2 [] [] (kp [4]) [] 48 pn ?_
   obtain rfl:=cT h
   exact cZ hE 0 Tryz.f126 [] (kp [4]) [] 48 pn [] pn
theorem xG (N a b r) (h:mQ N a b=some r):Sd 126 [(eU a),(eU b)] [] 0 (aI r) []:=by
 unfold mQ at h
 refine g8 (fu:=Tryz.f126) (c:=R1 1) (nt:=43) (fun hm=>rfl) ?_
 intro E hE
 refine ae hE 1 [] [] (kp [0,1]) [] 16 pn ?_
 refine ae hE 2 [] [] (kp [0,1,10]) [] 96 pn ?_
 refine dr 0 10 h (fun ee h=>?_) (fun ee h=>?_)
 ·refine ae hE 1 [] [] (kp [4]) [] 192 pn ?_
  obtain rfl:=cT h
  exact cZ hE 0 Tryz.f126 [] (kp [4]) [] 192 pn [] pn
 ·refine ae hE 3 [] [] (kp [0,1,5]) [] 160 pn ?_
  exact cP hE 2 [] (kp [0,1,5]) [] 0 pn (AW N _ _ N _ _ h E hE)
noncomputable abbrev R2:=b8 Tryz.f133
def E7 (N:Nat) (a:List Int) (b:Int) (K:(List Int)→Int→Int→Option ((List Int)×Int)):Prop:=∀ (q:List Int) (rest:Int) (i:Int) (r:(List Int)×Int),K q rest i=some r→∀ E,bh E 0→aE Tryz.prog E 133 43 (aW E [] (.tup [(eU r.1),(wQ r.2)])) [.code (R2 244),.inLoop (R2 244),.inBlock 0,.code (R2 31)] ⟨[(0,(eU a)),(1,(wQ b)),(6,(.os 0 0 q.length)),(7,(RY rest)),(8,(aI i))],[(0,aU q)],1⟩
theorem C8 (N a b fuel):E7 N a b (kF N a b fuel):=by
 induction fuel with
 | zero=>intro _ _ _ r h;rw [kF.eq_1] at h;cases h
 | succ fuel ih =>
  intro q rest i r h E hE
  rw [kF.eq_2] at h
  refine ae hE 2 [] [] (kp [0,1,6,7,8,16]) (kq [0]) 33 pn ?_
  refine dr 0 16 h (fun ee h=>?_) (fun ee h=>?_)
  ·obtain ⟨c2,h⟩:=ab h
   refine ae hE 4 [] [] (kp [0,1,6,7,8]) (kq [0]) 177 (pc (show (0:Int)≤16 by decide) (pc c2 pn)) ?_
   obtain ⟨c3,h⟩:=ab h
   obtain ⟨c4,h⟩:=ab h
   refine ae hE 1 [] [] (kp [0,1] ++ [(6,.kD ((q.set ((i).toNat) (IntKind.u16.wrap ((IntKind.u32.wrap ((ss .u32 (gJ .u32 rest 16) (IntKind.u32.wrap ((a.getD ((i).toNat) 0)))).tdiv (IntKind.u32.wrap (b))))))).length))] ++ kp [7,8]) [(0,.arr 0 ((q.set ((i).toNat) (IntKind.u16.wrap ((IntKind.u32.wrap ((ss .u32 (gJ .u32 rest 16) (IntKind.u32.wrap ((a.getD ((i).toNat) 0)))).tdiv (IntKind.u32.wrap (b))))))).length) (fun zi=>(cU .u16) ((q.set ((i).toNat) (IntKind.u16.wrap ((IntKind.u32.wrap ((ss .u32 (gJ .u32 rest 16) (IntKind.u32.wrap ((a.getD ((i).toNat) 0)))).tdiv (IntKind.u32.wrap (b))))))).getD zi 0)))] 321 (pc c3 (pc c4 (pc (dR c4) (pc (aD q ((i).toNat) (IntKind.u16.wrap ((IntKind.u32.wrap ((ss .u32 (gJ .u32 rest 16) (IntKind.u32.wrap ((a.getD ((i).toNat) 0)))).tdiv (IntKind.u32.wrap (b))))))) (pc (aD q ((i).toNat) (IntKind.u16.wrap ((IntKind.u32.wrap ((ss .u32 (gJ .u32 rest 16) (IntKind.u32.wrap ((a.getD ((i).toNat) 0)))).tdiv (IntKind.u32.wrap (b))))))) (pc (cH (cU .u16) 0 q ((i).toNat) (IntKind.u16.wrap ((IntKind.u32.wrap ((ss .u32 (gJ .u32 rest 16) (IntKind.u32.wrap ((a.getD ((i).toNat) 0)))).tdiv (IntKind.u32.wrap (b))))))) pn)))))) ?_
   refine ae hE 0 [] [] (kp [0,1,6,7,8]) (kq [0]) 401 (pc c3 pn) ?_
   refine ae hE 1 [] [] (kp [0,1,6,7,8]) (kq [0]) 449 pn ?_
   exact cP hE 1 [] (kp [0,1,6,7,8]) (kq [0]) 1 pn (ih _ _ _ _ h E hE)
  ·obtain ⟨bU,hr,h⟩:=aP h
   refine ae hE 2 [(1,⟨[],true,(eU bU),[],0,true,none⟩)] [] (kp [4,5]) [] 129 (pc (eS _ _ _ hr) (pc (z1 q.length) pn)) ?_
   obtain rfl:=cT h
   exact cZ hE 0 Tryz.f133 [] (kp [4,5]) [] 129 pn [] pn
theorem H5 (N a b r) (h:uD N a b=some r):Sd 133 [(eU a),(wQ b)] [] 0 (.tup [(eU r.1),(wQ r.2)]) []:=by
 unfold uD at h
 refine g8 (fu:=Tryz.f133) (c:=R2 1) (nt:=43) (fun hm=>rfl) ?_
 intro E hE
 refine ae hE 1 [] [] (kp [0,1]) [] 32 pn ?_
 obtain ⟨c,h⟩:=ab h
 refine ae hE 1 [] [] (kp [0,1] ++ [(6,.kD ((List.replicate a.length 0:List Int).length))]) [(64,.arr 64 ((List.replicate a.length 0:List Int).length) (fun zi=>(cU .u16) ((List.replicate a.length 0:List Int).getD zi 0)))] 96 (pc (show 0≤((a.length:Nat):Int) from c.1) (pc (show ((a.length:Nat):Int)≤((a.length:Nat):Int) from (Int.le_refl _)) (pc (show (2:Int) * ((a.length:Nat):Int)≤281474976710656 from c.2.1) (pc (show ((a.length:Nat):Int)≤9223372036854775807 from c.2.2) (pc (show a.length=(List.replicate a.length 0:List Int).length from (dj).symm) (pc (show a.length=(List.replicate a.length 0:List Int).length from (dj).symm) (pc (show ∀ zi,zi < (List.replicate a.length 0:List Int).length→(fun zi=>(cU .u16) ((List.replicate a.length 0:List Int).getD zi 0)) zi=(fun _=>[(wQ 0)]) zi from (fun zq g9=>rG (cU .u16) 0 0 a.length zq g9)) pn))))))) ?_
 refine ae hE 1 [] [] (kp [0,1,6,7]) (kq [64]) 112 pn ?_
 refine ae hE 2 [] [] (kp [0,1,6,7,8]) (kq [64]) 176 pn ?_
 exact cP hE 2 [] (kp [0,1,6,7,8]) [(0,.ah 64)] 1 pn (C8 N _ _ N _ _ _ _ h E hE)
noncomputable abbrev UB:=b8 Tryz.f137
def vM (N:Nat) (K:Int→Int→Option (Int)):Prop:=∀ (x2:Int) (n:Int) (r:Int),K x2 n=some r→∀ E,bh E 0→aE Tryz.prog E 137 13 (aW E [] (aI r)) [.code (UB 14),.code (UB 15)] ⟨[(0,(wQ x2)),(2,(aI n))],[],0⟩
theorem oP (N):vM N (cw N):=by
 intro x2 n r h E hE
 unfold cw at h
 obtain ⟨c,h⟩:=ab h
 refine ae hE 0 [] [] (kp [2]) [] 112 (pc c pn) ?_
 obtain rfl:=cT h
 exact cZ hE 0 Tryz.f137 [] (kp [2]) [] 112 pn [] pn
theorem xH (N x r) (h:kG N x=some r):Sd 137 [(wQ x)] [] 0 (aI r) []:=by
 unfold kG at h
 refine g8 (fu:=Tryz.f137) (c:=UB 1) (nt:=13) (fun hm=>rfl) ?_
 intro E hE
 refine ae hE 1 [] [] (kp [0,2]) [] 16 pn ?_
 refine ae hE 2 [] [] (kp [0,2,4]) [] 48 pn ?_
 refine dr 0 4 h (fun ee h=>?_) (fun ee h=>?_)
 ·refine ae hE 1 [] [] (kp [0]) [] 96 (pc (show (0:Int)≤8 by decide) pn) ?_
  refine ae hE 0 [] [] (kp [0,2]) [] 112 pn ?_
  exact cP hE 1 [] (kp [0,2]) [] 0 pn (oP N _ _ _ h E hE)
 ·exact cP hE 2 [] (kp [0,2]) [] 0 pn (oP N _ _ _ h E hE)
noncomputable abbrev Y0:=b8 Tryz.f134
theorem qH (N x r) (h:eM N x=some r):Sd 134 [(wQ x)] [] 0 (aI r) []:=by
 unfold eM at h
 refine g8 (fu:=Tryz.f134) (c:=Y0 1) (nt:=6) (fun hm=>rfl) ?_
 intro E hE
 refine ae hE 1 [] [] (kp [0]) [] 16 pn ?_
 obtain ⟨KW,hr,h⟩:=aP h
 refine ae hE 1 [(1,oT (aI KW))] [] (kp [2]) [] 80 (pc (xH _ _ _ hr) pn) ?_
 obtain rfl:=cT h
 exact cZ hE 0 Tryz.f134 [] (kp [2]) [] 80 pn [] pn
noncomputable abbrev R3:=b8 Tryz.f135
def B6 (N:Nat) (a:List Int) (yU:Int) (K:(List Int)→Int→Option ((List Int))):Prop:=∀ (out:List Int) (x:Int) (r:(List Int)),K out x=some r→∀ E,bh E 0→aE Tryz.prog E 135 41 (aW E [(0,aU r)] (.os 0 0 r.length)) [.code (R3 116),.inLoop (R3 116),.inBlock 0,.code (R3 15)] ⟨[(1,(aI yU)),(5,(.os 0 0 out.length)),(13,(eU a)),(14,(aI ((a.length:Nat):Int))),(15,(aI x))],[(0,aU out)],1⟩
theorem AX (N a yU fuel):B6 N a yU (iW N a yU fuel):=by
 induction fuel with
 | zero=>intro _ _ r h;rw [iW.eq_1] at h;cases h
 | succ fuel ih =>
  intro out x r h E hE
  rw [iW.eq_2] at h
  refine ae hE 1 [] [] (kp [1,5,13,14,15,16]) (kq [0]) 17 pn ?_
  refine dr 1 16 h (fun ee h=>?_) (fun ee h=>?_)
  ·obtain ⟨c2,h⟩:=ab h
   refine ae hE 4 [] [] (kp [1,5,6,7,13,14,15]) (kq [0]) 97 (pc c2 pn) ?_
   obtain ⟨c3,h⟩:=ab h
   refine ae hE 1 [] [] (kp [1,5,6,8,13,14,15]) (kq [0]) 177 (pc c3 pn) ?_
   obtain ⟨c4,h⟩:=ab h
   refine ae hE 1 [] [] (kp [1] ++ [(5,.kD ((out.set ((x).toNat) (ss .u16 (out.getD ((x).toNat) 0) (IntKind.u16.wrap ((gJ .u32 (IntKind.u32.wrap ((a.getD ((x).toNat) 0))) yU))))).length))] ++ kp [6,8,13,14,15]) [(0,.arr 0 ((out.set ((x).toNat) (ss .u16 (out.getD ((x).toNat) 0) (IntKind.u16.wrap ((gJ .u32 (IntKind.u32.wrap ((a.getD ((x).toNat) 0))) yU))))).length) (fun zi=>(cU .u16) ((out.set ((x).toNat) (ss .u16 (out.getD ((x).toNat) 0) (IntKind.u16.wrap ((gJ .u32 (IntKind.u32.wrap ((a.getD ((x).toNat) 0))) yU))))).getD zi 0)))] 321 (pc c4 (pc (dR c4) (pc c4 (pc (dR c4) (pc (aD out ((x).toNat) (ss .u16 (out.getD ((x).toNat) 0) (IntKind.u16.wrap ((gJ .u32 (IntKind.u32.wrap ((a.getD ((x).toNat) 0))) yU))))) (pc (aD out ((x).toNat) (ss .u16 (out.getD ((x).toNat) 0) (IntKind.u16.wrap ((gJ .u32 (IntKind.u32.wrap ((a.getD ((x).toNat) 0))) yU))))) (pc (cH (cU .u16) 0 out ((x).toNat) (ss .u16 (out.getD ((x).toNat) 0) (IntKind.u16.wrap ((gJ .u32 (IntKind.u32.wrap ((a.getD ((x).toNat) 0))) yU))))) pn))))))) ?_
   obtain ⟨c5,h⟩:=ab h
   refine ae hE 0 [] [] (kp [1] ++ [(5,.kD (((out.set ((x).toNat) (ss .u16 (out.getD ((x).toNat) 0) (IntKind.u16.wrap ((gJ .u32 (IntKind.u32.wrap ((a.getD ((x).toNat) 0))) yU))))).set ((ag (x+1)).toNat) (IntKind.u16.wrap ((oy .u32 (gJ .u32 (IntKind.u32.wrap ((a.getD ((x).toNat) 0))) yU) 16)))).length))] ++ kp [13,14,15]) [(0,.arr 0 (((out.set ((x).toNat) (ss .u16 (out.getD ((x).toNat) 0) (IntKind.u16.wrap ((gJ .u32 (IntKind.u32.wrap ((a.getD ((x).toNat) 0))) yU))))).set ((ag (x+1)).toNat) (IntKind.u16.wrap ((oy .u32 (gJ .u32 (IntKind.u32.wrap ((a.getD ((x).toNat) 0))) yU) 16)))).length) (fun zi=>(cU .u16) (((out.set ((x).toNat) (ss .u16 (out.getD ((x).toNat) 0) (IntKind.u16.wrap ((gJ .u32 (IntKind.u32.wrap ((a.getD ((x).toNat) 0))) yU))))).set ((ag (x+1)).toNat) (IntKind.u16.wrap ((oy .u32 (gJ .u32 (IntKind.u32.wrap ((a.getD ((x).toNat) 0))) yU) 16)))).getD zi 0)))] 449 (pc (show (0:Int)≤16 by decide) (pc c5 (pc (dR c5) (pc (aD (out.set ((x).toNat) (ss .u16 (out.getD ((x).toNat) 0) (IntKind.u16.wrap ((gJ .u32 (IntKind.u32.wrap ((a.getD ((x).toNat) 0))) yU))))) ((ag (x+1)).toNat) (IntKind.u16.wrap ((oy .u32 (gJ .u32 (IntKind.u32.wrap ((a.getD ((x).toNat) 0))) yU) 16)))) (pc (aD (out.set ((x).toNat) (ss .u16 (out.getD ((x).toNat) 0) (IntKind.u16.wrap ((gJ .u32 (IntKind.u32.wrap ((a.getD ((x).toNat) 0))) yU))))) ((ag (x+1)).toNat) (IntKind.u16.wrap ((oy .u32 (gJ .u32 (IntKind.u32.wrap ((a.getD ((x).toNat) 0))) yU) 16)))) (pc (cH (cU .u16) 0 (out.set ((x).toNat) (ss .u16 (out.getD ((x).toNat) 0) (IntKind.u16.wrap ((gJ .u32 (IntKind.u32.wrap ((a.getD ((x).toNat) 0))) yU))))) ((ag (x+1)).toNat) (IntKind.u16.wrap ((oy .u32 (gJ .u32 (IntKind.u32.wrap ((a.getD ((x).toNat) 0))) yU) 16)))) pn)))))) ?_
   refine ae hE 1 [] [] (kp [1,5,13,14,15]) (kq [0]) 481 pn ?_
   exact cP hE 1 [] (kp [1,5,13,14,15]) (kq [0]) 1 pn (ih _ _ _ h E hE)
  ·refine ae hE 2 [] [] (kp [4]) (kq [0]) 49 pn ?_
   obtain rfl:=cT h
   exact cZ hE 0 Tryz.f135 [] (kp [4]) (kq [0]) 49 pn [] pn
theorem xI (N a yU r) (h:oL N a yU=some r):Sd 135 [(eU a),(aI yU)] [] 0 (.os 0 0 r.length) [(0,aU r)]:=by
 unfold oL at h
 refine g8 (fu:=Tryz.f135) (c:=R3 1) (nt:=41) (fun hm=>rfl) ?_
 intro E hE
 refine ae hE 1 [] [] (kp [0,1]) [] 16 pn ?_
 obtain ⟨c,h⟩:=ab h
 refine ae hE 1 [] [] (kp [0,1] ++ [(5,.kD ((List.replicate ((ag (((a.length:Nat):Int)+1)).toNat) 0:List Int).length))]) [(64,.arr 64 ((List.replicate ((ag (((a.length:Nat):Int)+1)).toNat) 0:List Int).length) (fun zi=>(cU .u16) ((List.replicate ((ag (((a.length:Nat):Int)+1)).toNat) 0:List Int).getD zi 0)))] 96 (pc (show 0≤(ag (((a.length:Nat):Int)+1)) from c.1) (pc (show (ag (((a.length:Nat):Int)+1))≤(ag (((a.length:Nat):Int)+1)) from (Int.le_refl _)) (pc (show (2:Int) * (ag (((a.length:Nat):Int)+1))≤281474976710656 from c.2.1) (pc (show (ag (((a.length:Nat):Int)+1))≤9223372036854775807 from c.2.2) (pc (show (ag (((a.length:Nat):Int)+1)).toNat=(List.replicate ((ag (((a.length:Nat):Int)+1)).toNat) 0:List Int).length from (dj).symm) (pc (show (ag (((a.length:Nat):Int)+1)).toNat=(List.replicate ((ag (((a.length:Nat):Int)+1)).toNat) 0:List Int).length from (dj).symm) (pc (show ∀ zi,zi < (List.replicate ((ag (((a.length:Nat):Int)+1)).toNat) 0:List Int).length→(fun zi=>(cU .u16) ((List.replicate ((ag (((a.length:Nat):Int)+1)).toNat) 0:List Int).getD zi 0)) zi=(fun _=>[(wQ 0)]) zi from (fun zq g9=>rG (cU .u16) 0 0 ((ag (((a.length:Nat):Int)+1)).toNat) zq g9)) pn))))))) ?_
 refine ae hE 2 [] [] (kp [1,5,13,14,15]) (kq [64]) 144 pn ?_
 exact cP hE 2 [] (kp [1,5,13,14,15]) [(0,.ah 64)] 1 pn (AX N _ _ N _ _ _ h E hE)
noncomputable abbrev wR:=b8 Tryz.f136
def E8 (N:Nat) (uo:Nat) (un:Nat) (v:List Int) (C0:List Int) (K:Int→Int→Option (Int×(List Int))):Prop:=∀ (q:Int) (rest:Int) (r:Int×(List Int)),K q rest=some r→∀ E,bh E 1→aE Tryz.prog E 136 161 (aW E [(0,aU r.2)] (wQ r.1)) [.code (wR 248),.inLoop (wR 248),.inBlock 0,.code (wR 63)] ⟨[(0,(.os 0 uo un)),(1,(eU v)),(5,(aI ((v.length:Nat):Int))),(7,(IU q)),(8,(IU rest))],[(0,aU C0)],1⟩
def xJ (N:Nat) (uo:Nat) (un:Nat) (v:List Int) (q:Int) (K:(List Int)→Int→Int→Int→Option (Int×(List Int))):Prop:=∀ (bq:List Int) (carry:Int) (borrow:Int) (x:Int) (r:Int×(List Int)),K bq carry borrow x=some r→∀ E,bh E 1→aE Tryz.prog E 136 161 (aW E [(0,aU r.2)] (wQ r.1)) [.code (wR 2036),.inLoop (wR 2036),.inBlock 2,.code (wR 255)] ⟨[(0,(.os 0 uo un)),(1,(eU v)),(5,(aI ((v.length:Nat):Int))),(7,(IU q)),(9,(IU carry)),(10,(aI borrow)),(84,(aI (ag (((v.length:Nat):Int)+1)))),(85,(aI x))],[(0,aU bq)],1⟩
def Fa (N:Nat) (uo:Nat) (un:Nat) (v:List Int) (q:Int) (bq:List Int) (borrow:Int) (x:Int) (K:Int→Option (Int×(List Int))):Prop:=∀ (x2:Int) (r:Int×(List Int)),K x2=some r→∀ E,bh E 1→aE Tryz.prog E 136 161 (aW E [(0,aU r.2)] (wQ r.1)) [.code (wR 521422),.code (wR 521423),.inBlock 3,.code (wR 16295),.inLoop (wR 2036),.inBlock 2,.code (wR 255)] ⟨[(0,(.os 0 uo un)),(1,(eU v)),(5,(aI ((v.length:Nat):Int))),(7,(IU q)),(10,(aI borrow)),(11,(aI x)),(12,(IU x2)),(84,(aI (ag (((v.length:Nat):Int)+1)))),(85,(aI x))],[(0,aU bq)],1⟩
theorem wu (N:Nat) (uo:Nat) (un:Nat) (v:List Int) (q:Int) (bq:List Int) (borrow:Int) (x:Int) (pg:(List Int)→Int→Int→Int→Option (Int×(List Int))) (C9:xJ N uo un v q pg):Fa N uo un v q bq borrow x (nh N uo un v q bq borrow x pg):=by
 intro x2 r h E hE
 unfold nh at h
 refine ae hE 0 [] [] (kp [0,1,5,7,9,10,11,12,84,85]) (kq [0]) 49 (pc (show (0:Int)≤16 by decide) pn) ?_
 obtain ⟨IV,h⟩:=ab h
 obtain ⟨Ns,h⟩:=ab h
 refine ae hE 1 [] [] (kp [0,1,5,7,9,11,13,84,85]) (kq [0]) 241 (pc IV (pc (show (bu uo (x).toNat) < bq.length by have h1:=IV;have h2:=Ns;simp only [dg];omega) pn)) ?_
 refine ae hE 1 [] [] (kp [0,1,5,7,9,13,84,85]) [(0,.arr 0 ((bq.set (bu uo (x).toNat) (IntKind.u16.wrap ((ag ((ag ((ag ((bq.getD (bu uo (x).toNat) 0))) - (ag ((Jx .u64 x2 65535)))))+borrow))))).length) (fun zi=>(cU .u16) ((bq.set (bu uo (x).toNat) (IntKind.u16.wrap ((ag ((ag ((ag ((bq.getD (bu uo (x).toNat) 0))) - (ag ((Jx .u64 x2 65535)))))+borrow))))).getD zi 0)))] 337 (pc IV (pc (show (bu uo (x).toNat) < bq.length by have h1:=IV;have h2:=Ns;simp only [dg];omega) (pc (aD bq (bu uo (x).toNat) (IntKind.u16.wrap ((ag ((ag ((ag ((bq.getD (bu uo (x).toNat) 0))) - (ag ((Jx .u64 x2 65535)))))+borrow))))) (pc (cH (cU .u16) 0 bq (bu uo (x).toNat) (IntKind.u16.wrap ((ag ((ag ((ag ((bq.getD (bu uo (x).toNat) 0))) - (ag ((Jx .u64 x2 65535)))))+borrow))))) pn)))) ?_
 refine ae hE 0 [] [] (kp [0,1,5,7,9,10,84,85]) (kq [0]) 385 (pc (show (0:Int)≤16 by decide) pn) ?_
 refine ae hE 1 [] [] (kp [0,1,5,7,9,10,84,85]) (kq [0]) 417 pn ?_
 exact cP hE 1 [] (kp [0,1,5,7,9,10,84,85]) (kq [0]) 1 pn (C9 _ _ _ _ _ h E hE)
def Fb (N:Nat) (uo:Nat) (un:Nat) (v:List Int) (q:Int) (K:(List Int)→Int→Int→Option (Int×(List Int))):Prop:=∀ (b7:List Int) (fo:Int) (x3:Int) (r:Int×(List Int)),K b7 fo x3=some r→∀ E,bh E 1→aE Tryz.prog E 136 161 (aW E [(0,aU r.2)] (wQ r.1)) [.code (wR 130740),.inLoop (wR 130740),.inBlock 4,.code (wR 16343),.code (wR 511)] ⟨[(0,(.os 0 uo un)),(1,(eU v)),(5,(aI ((v.length:Nat):Int))),(7,(IU (IntKind.u64.wrap (q - 1)))),(14,(RY fo)),(126,(aI ((v.length:Nat):Int))),(127,(aI x3))],[(0,aU b7)],1⟩
def Fc (N:Nat) (K:(List Int)→Int→Option (Int×(List Int))):Prop:=∀ (df:List Int) (q2:Int) (r:Int×(List Int)),K df q2=some r→∀ E,bh E 1→aE Tryz.prog E 136 161 (aW E [(0,aU r.2)] (wQ r.1)) [.code (wR 1022),.code (wR 1023)] ⟨[(7,(IU q2))],[(0,aU df)],1⟩
theorem wv (N):Fc N (kH N):=by
 intro df q2 r h E hE
 unfold kH at h
 refine ae hE 0 [] [] (kp [4]) (kq [0]) 49 pn ?_
 obtain rfl:=cT h
 exact cZ hE 0 Tryz.f136 [] (kp [4]) (kq [0]) 49 pn [] pn
theorem Da (N uo un v q fuel):Fb N uo un v q (iK N uo un v q fuel):=by
 induction fuel with
 | zero=>intro _ _ _ r h;rw [iK.eq_1] at h;cases h
 | succ fuel ih =>
  intro b7 fo x3 r h E hE
  rw [iK.eq_2] at h
  refine ae hE 1 [] [] (kp [0,1,5,7,14,126,127,128]) (kq [0]) 17 pn ?_
  refine dr 1 128 h (fun H6 h=>?_) (fun H6 h=>?_)
  ·refine ae hE 4 [] [] (kp [0,1,5,7,14,15,126,127]) (kq [0]) 49 pn ?_
   obtain ⟨JG,h⟩:=ab h
   obtain ⟨Mg,h⟩:=ab h
   obtain ⟨Tx,h⟩:=ab h
   refine ae hE 1 [] [] (kp [0,1,5,7,14,15,126,127]) (kq [0]) 273 (pc JG (pc (show (bu uo (x3).toNat) < b7.length by have h1:=JG;have h2:=Mg;simp only [dg];omega) (pc Tx pn))) ?_
   refine ae hE 1 [] [] (kp [0,1,5,7,14,126,127]) [(0,.arr 0 ((b7.set (bu uo (x3).toNat) (IntKind.u16.wrap ((IntKind.u32.wrap (fo+(IntKind.u32.wrap ((IntKind.u32.wrap ((b7.getD (bu uo (x3).toNat) 0)))+(IntKind.u32.wrap ((v.getD ((x3).toNat) 0)))))))))).length) (fun zi=>(cU .u16) ((b7.set (bu uo (x3).toNat) (IntKind.u16.wrap ((IntKind.u32.wrap (fo+(IntKind.u32.wrap ((IntKind.u32.wrap ((b7.getD (bu uo (x3).toNat) 0)))+(IntKind.u32.wrap ((v.getD ((x3).toNat) 0)))))))))).getD zi 0)))] 369 (pc JG (pc (show (bu uo (x3).toNat) < b7.length by have h1:=JG;have h2:=Mg;simp only [dg];omega) (pc (aD b7 (bu uo (x3).toNat) (IntKind.u16.wrap ((IntKind.u32.wrap (fo+(IntKind.u32.wrap ((IntKind.u32.wrap ((b7.getD (bu uo (x3).toNat) 0)))+(IntKind.u32.wrap ((v.getD ((x3).toNat) 0)))))))))) (pc (cH (cU .u16) 0 b7 (bu uo (x3).toNat) (IntKind.u16.wrap ((IntKind.u32.wrap (fo+(IntKind.u32.wrap ((IntKind.u32.wrap ((b7.getD (bu uo (x3).toNat) 0)))+(IntKind.u32.wrap ((v.getD ((x3).toNat) 0)))))))))) pn)))) ?_
   refine ae hE 0 [] [] (kp [0,1,5,7,14,126,127]) (kq [0]) 417 (pc (show (0:Int)≤16 by decide) pn) ?_
   refine ae hE 1 [] [] (kp [0,1,5,7,14,126,127]) (kq [0]) 449 pn ?_
   exact cP hE 1 [] (kp [0,1,5,7,14,126,127]) (kq [0]) 1 pn (ih _ _ _ _ h E hE)
  ·obtain ⟨R4,h⟩:=ab h
   obtain ⟨Nt,h⟩:=ab h
   refine ae hE 1 [] [] (kp [7]) [(0,.arr 0 ((b7.set (bu uo v.length) (IntKind.u16.wrap ((b7.getD (bu uo v.length) 0)+(IntKind.u16.wrap (fo))))).length) (fun zi=>(cU .u16) ((b7.set (bu uo v.length) (IntKind.u16.wrap ((b7.getD (bu uo v.length) 0)+(IntKind.u16.wrap (fo))))).getD zi 0)))] 161 (pc R4 (pc (show (bu uo v.length) < b7.length by have h1:=R4;have h2:=Nt;simp only [dg];omega) (pc R4 (pc (show (bu uo v.length) < b7.length by have h1:=R4;have h2:=Nt;simp only [dg];omega) (pc (aD b7 (bu uo v.length) (IntKind.u16.wrap ((b7.getD (bu uo v.length) 0)+(IntKind.u16.wrap (fo))))) (pc (cH (cU .u16) 0 b7 (bu uo v.length) (IntKind.u16.wrap ((b7.getD (bu uo v.length) 0)+(IntKind.u16.wrap (fo))))) pn)))))) ?_
   exact cP hE 1 [] (kp [7]) (kq [0]) 1 pn (wv N _ _ _ h E hE)
theorem Db (N uo un v q fuel):xJ N uo un v q (fQ N uo un v q fuel):=by
 induction fuel with
 | zero=>intro _ _ _ _ r h;rw [fQ.eq_1] at h;cases h
 | succ fuel ih =>
  intro bq carry borrow x r h E hE
  rw [fQ.eq_2] at h
  refine ae hE 1 [] [] (kp [0,1,5,7,9,10,84,85,86]) (kq [0]) 17 pn ?_
  refine dr 1 86 h (fun jq h=>?_) (fun jq h=>?_)
  ·refine ae hE 4 [] [] (kp [0,1,5,7,9,10,11,84,85]) (kq [0]) 49 pn ?_
   refine ae hE 1 [] [] (kp [0,1,5,7,10,11,12,84,85]) (kq [0]) 81 pn ?_
   refine ae hE 2 [] [] (kp [0,1,5,7,10,11,12,84,85,91]) (kq [0]) 129 pn ?_
   refine dr 0 91 h (fun ti h=>?_) (fun ti h=>?_)
   ·obtain ⟨Nu,h⟩:=ab h
    refine ae hE 0 [] [] (kp [0,1,5,7,10,11,12,84,85]) (kq [0]) 289 (pc Nu pn) ?_
    exact cP hE 1 [] (kp [0,1,5,7,10,11,12,84,85]) (kq [0]) 1 pn (wu N _ _ _ _ _ _ _ _ ih _ _ h E hE)
   ·exact cP hE 2 [] (kp [0,1,5,7,10,11,12,84,85]) (kq [0]) 1 pn (wu N _ _ _ _ _ _ _ _ ih _ _ h E hE)
  ·refine ae hE 3 [] [] (kp [0,1,5,7,123]) (kq [0]) 49 pn ?_
   refine dr 0 123 h (fun Dc h=>?_) (fun Dc h=>?_)
   ·refine ae hE 1 [] [] (kp [0,1,5,7]) (kq [0]) 97 pn ?_
    refine ae hE 1 [] [] (kp [0,1,5,7,14]) (kq [0]) 113 pn ?_
    refine ae hE 2 [] [] (kp [0,1,5,7,14,126,127]) (kq [0]) 145 pn ?_
    exact cP hE 2 [] (kp [0,1,5,7,14,126,127]) (kq [0]) 1 pn (Da N _ _ _ _ N _ _ _ _ h E hE)
   ·exact cP hE 2 [] (kp [7]) (kq [0]) 1 pn (wv N _ _ _ h E hE)
theorem Dd (N uo un v C0 fuel):E8 N uo un v C0 (kI N uo un v C0 fuel):=by
 induction fuel with
 | zero=>intro _ _ r h;rw [kI.eq_1] at h;cases h
 | succ fuel ih =>
  intro q rest r h E hE
  rw [kI.eq_2] at h
  obtain ⟨c6,h⟩:=ab h
  obtain ⟨c7,h⟩:=ab h
  obtain ⟨c8,h⟩:=ab h
  refine ae hE 2 [] [] (kp [0,1,5,7,8,72]) (kq [0]) 417 (pc (fun hg:(decide (rest < 65536))=true=>(pc hg pn)) (pc (fun hg:((decide (rest < 65536)) && ((decide (rest < 65536)) && (!(decide (q > 65535)))))=true=>(pc hg pn)) (pc (fun hg:((decide (rest < 65536)) && ((decide (rest < 65536)) && (!(decide (q > 65535)))))=true=>(pc hg (pc hg (pc (c6 hg) pn)))) (pc (fun hg:((decide (rest < 65536)) && ((decide (rest < 65536)) && (!(decide (q > 65535)))))=true=>(pc hg pn)) (pc (fun hg:((decide (rest < 65536)) && ((decide (rest < 65536)) && (!(decide (q > 65535)))))=true=>(pc hg pn)) (pc (fun hg:((decide (rest < 65536)) && ((decide (rest < 65536)) && (!(decide (q > 65535)))))=true=>(pc hg (pc hg pn))) (pc (fun hg:((decide (rest < 65536)) && ((decide (rest < 65536)) && (!(decide (q > 65535)))))=true=>(pc hg (pc (show (0:Int)≤16 by decide) pn))) (pc (fun hg:((decide (rest < 65536)) && ((decide (rest < 65536)) && (!(decide (q > 65535)))))=true=>(pc hg pn)) (pc (fun hg:((decide (rest < 65536)) && ((decide (rest < 65536)) && (!(decide (q > 65535)))))=true=>(pc hg (pc hg (pc (c7 hg) pn)))) (pc (fun hg:((decide (rest < 65536)) && ((decide (rest < 65536)) && (!(decide (q > 65535)))))=true=>(pc hg (pc (show (bu uo (ag (((v.length:Nat):Int) - 2)).toNat) < C0.length by have h1:=(c7 hg);have h2:=(c8 hg);simp only [dg];omega) pn))) (pc (fun hg:((decide (rest < 65536)) && ((decide (rest < 65536)) && (!(decide (q > 65535)))))=true=>(pc hg pn)) (pc (fun hg:((decide (rest < 65536)) && ((decide (rest < 65536)) && (!(decide (q > 65535)))))=true=>(pc hg (pc hg pn))) (pc (fun hg:((decide (rest < 65536)) && ((decide (rest < 65536)) && (!(decide (q > 65535)))))=true=>(pc hg (pc hg pn))) (pc (fun hg:(decide (rest < 65536))=true=>(pc hg (pc hg (pc (fun hq:(!(decide (q > 65535)))=true=>(pc (show ((decide (rest < 65536)) && ((decide (rest < 65536)) && (!(decide (q > 65535)))))=true from (mo hg (mo hg hq))) pn)) pn)))) (pc (fun hq:(decide (rest < 65536))=true=>(pc hq pn)) pn))))))))))))))) ?_
  refine dr 0 72 h (fun ee h=>?_) (fun ee h=>?_)
  ·refine ae hE 3 [] [] (kp [0,1,5,7,8]) (kq [0]) 465 pn ?_
   obtain ⟨c9,h⟩:=ab h
   refine ae hE 0 [] [] (kp [0,1,5,7,8]) (kq [0]) 609 (pc c9 pn) ?_
   exact cP hE 2 [] (kp [0,1,5,7,8]) (kq [0]) 1 pn (ih _ _ _ h E hE)
  ·refine ae hE 2 [] [] (kp [0,1,5,7,9,10]) (kq [0]) 449 pn ?_
   refine ae hE 2 [] [] (kp [0,1,5,7,9,10,84,85]) (kq [0]) 497 pn ?_
   exact cP hE 2 [] (kp [0,1,5,7,9,10,84,85]) (kq [0]) 1 pn (Db N _ _ _ _ N _ _ _ _ _ h E hE)
theorem H7 (N uo un v C0 r) (h:uE N uo un v C0=some r):Sd 136 [(.os 0 uo un),(eU v)] [(0,aU C0)] 1 (wQ r.1) [(0,aU r.2)]:=by
 unfold uE at h
 refine g8 (fu:=Tryz.f136) (c:=wR 1) (nt:=161) (fun hm=>absurd hm (by decide)) ?_
 intro E hE
 refine ae hE 1 [] [] (kp [0,1]) (kq [0]) 17 pn ?_
 refine ae hE 1 [] [] (kp [0,1,5]) (kq [0]) 65 pn ?_
 obtain ⟨c,h⟩:=ab h
 obtain ⟨c2,h⟩:=ab h
 obtain ⟨c3,h⟩:=ab h
 refine ae hE 1 [] [] (kp [0,1,5,6]) (kq [0]) 289 (pc c (pc (show (bu uo v.length) < C0.length by have h1:=c;have h2:=c2;simp only [dg];omega) (pc (show (0:Int)≤16 by decide) (pc c3 (pc (show (bu uo (ag (((v.length:Nat):Int) - 1)).toNat) < C0.length by have h1:=c3;have h2:=c2;simp only [dg];omega) pn))))) ?_
 obtain ⟨c4,h⟩:=ab h
 obtain ⟨c5,h⟩:=ab h
 refine ae hE 1 [] [] (kp [0,1,5,7,8]) (kq [0]) 577 (pc c4 (pc c5 (pc c4 (pc c5 pn)))) ?_
 exact cP hE 3 [] (kp [0,1,5,7,8]) (kq [0]) 1 pn (Dd N _ _ _ _ N _ _ _ h E hE)
noncomputable abbrev K6:=b8 Tryz.f124
def De (N:Nat) (b:List Int) (bk:Int) (fA:(List Int)) (K:(List Int)→(List Int)→Int→Option ((List Int)×(List Int))):Prop:=∀ (q:List Int) (u:List Int) (j:Int) (r:(List Int)×(List Int)),K q u j=some r→∀ E,bh E 0→aE Tryz.prog E 124 109 (aW E [] (.tup [(eU r.1),(eU r.2)])) [.code (K6 4084),.inLoop (K6 4084),.inBlock 0,.code (K6 511)] ⟨[(4,(.os 0 0 q.length)),(8,(aI bk)),(9,(.os 1 0 u.length)),(10,(.os 2 0 (b.length - 0))),(11,(aI (((b.length - 0):Nat):Int))),(12,(aI j))],[(0,aU q),(1,aU u),(2,aU fA)],3⟩
def Df (N:Nat) (b:List Int) (bk:Int) (q:List Int) (u:List Int) (K:(List Int)→Int→Option ((List Int)×(List Int))):Prop:=∀ (vr:List Int) (x:Int) (r:(List Int)×(List Int)),K vr x=some r→∀ E,bh E 0→aE Tryz.prog E 124 109 (aW E [] (.tup [(eU r.1),(eU r.2)])) [.code (K6 16372),.inLoop (K6 16372),.inBlock 2,.code (K6 2047)] ⟨[(4,(.os 0 0 q.length)),(5,(.os 1 0 vr.length)),(8,(aI bk)),(9,(.os 2 0 u.length)),(81,(aI (((b.length - 0):Nat):Int))),(82,(aI x))],[(0,aU q),(1,aU vr),(2,aU u)],3⟩
theorem B7 (N b bk q u fuel):Df N b bk q u (jD N b bk q u fuel):=by
 induction fuel with
 | zero=>intro _ _ r h;rw [jD.eq_1] at h;cases h
 | succ fuel ih =>
  intro vr x r h E hE
  rw [jD.eq_2] at h
  refine ae hE 1 [] [] (kp [4,5,8,9,81,82,83]) (kq [0,1,2]) 19 pn ?_
  refine dr 1 83 h (fun Dc h=>?_) (fun Dc h=>?_)
  ·refine ae hE 4 [] [] (kp [4,5,8,9,13,81,82]) (kq [0,1,2]) 51 pn ?_
   obtain ⟨Ns,h⟩:=ab h
   obtain ⟨JG,h⟩:=ab h
   obtain ⟨Mg,h⟩:=ab h
   obtain ⟨Tx,h⟩:=ab h
   refine ae hE 0 [] [] (kp [4] ++ [(5,.kD ((vr.set ((x).toNat) (IntKind.u16.wrap ((oy .u32 (ss .u32 (IntKind.u32.wrap ((u.getD ((x).toNat) 0))) (gJ .u32 (IntKind.u32.wrap ((u.getD ((ag (x+1)).toNat) 0))) 16)) bk)))).length))] ++ kp [8,9,81,82]) (kq [0] ++ [(1,.arr 1 ((vr.set ((x).toNat) (IntKind.u16.wrap ((oy .u32 (ss .u32 (IntKind.u32.wrap ((u.getD ((x).toNat) 0))) (gJ .u32 (IntKind.u32.wrap ((u.getD ((ag (x+1)).toNat) 0))) 16)) bk)))).length) (fun zi=>(cU .u16) ((vr.set ((x).toNat) (IntKind.u16.wrap ((oy .u32 (ss .u32 (IntKind.u32.wrap ((u.getD ((x).toNat) 0))) (gJ .u32 (IntKind.u32.wrap ((u.getD ((ag (x+1)).toNat) 0))) 16)) bk)))).getD zi 0)))] ++ kq [2]) 371 (pc Ns (pc (dR Ns) (pc JG (pc (dR JG) (pc (show (0:Int)≤16 by decide) (pc Mg (pc Tx (pc (dR Tx) (pc (aD vr ((x).toNat) (IntKind.u16.wrap ((oy .u32 (ss .u32 (IntKind.u32.wrap ((u.getD ((x).toNat) 0))) (gJ .u32 (IntKind.u32.wrap ((u.getD ((ag (x+1)).toNat) 0))) 16)) bk)))) (pc (aD vr ((x).toNat) (IntKind.u16.wrap ((oy .u32 (ss .u32 (IntKind.u32.wrap ((u.getD ((x).toNat) 0))) (gJ .u32 (IntKind.u32.wrap ((u.getD ((ag (x+1)).toNat) 0))) 16)) bk)))) (pc (cH (cU .u16) 0 vr ((x).toNat) (IntKind.u16.wrap ((oy .u32 (ss .u32 (IntKind.u32.wrap ((u.getD ((x).toNat) 0))) (gJ .u32 (IntKind.u32.wrap ((u.getD ((ag (x+1)).toNat) 0))) 16)) bk)))) pn))))))))))) ?_
   refine ae hE 1 [] [] (kp [4,5,8,9,81,82]) (kq [0,1,2]) 403 pn ?_
   exact cP hE 1 [] (kp [4,5,8,9,81,82]) (kq [0,1,2]) 3 pn (ih _ _ _ h E hE)
  ·obtain ⟨jv,Gg,h⟩:=aP h
   obtain ⟨KX,zY,h⟩:=aP h
   refine ae hE 2 [(1,⟨[],true,(eU jv),[],0,true,none⟩),(3,⟨[],true,(eU KX),[],0,true,none⟩)] [] (kp [4,5]) [] 115 (pc (eS _ _ _ Gg) (pc (z1 q.length) (pc (eS _ _ _ zY) (pc (z1 vr.length) pn)))) ?_
   obtain rfl:=cT h
   exact cZ hE 0 Tryz.f124 [] (kp [4,5]) [] 115 pn [] pn
theorem B8 (N b bk fA fuel):De N b bk fA (jE N b bk fA fuel):=by
 induction fuel with
 | zero=>intro _ _ _ r h;rw [jE.eq_1] at h;cases h
 | succ fuel ih =>
  intro q u j r h E hE
  rw [jE.eq_2] at h
  refine ae hE 2 [] [] (kp [4,8,9,10,11,12,64]) (kq [0,1,2]) 35 pn ?_
  refine dr 0 64 h (fun ti h=>?_) (fun ti h=>?_)
  ·obtain ⟨c5,h⟩:=ab h
   obtain ⟨c6,h⟩:=ab h
   obtain ⟨c7,h⟩:=ab h
   obtain ⟨c8,h⟩:=ab h
   obtain ⟨cG,Gh,h⟩:=aP h
   obtain ⟨c9,h⟩:=ab h
   obtain ⟨Nu,h⟩:=ab h
   refine ae hE 3 [(10,⟨[1],false,(wQ cG.1),[(0,aU cG.2)],0,false,none⟩)] [] ([(4,.kD ((q.set ((j).toNat) cG.1).length))] ++ kp [8] ++ [(9,.kD (cG.2.length))] ++ kp [10,11,12]) ([(0,.arr 0 ((q.set ((j).toNat) cG.1).length) (fun zi=>(cU .u16) ((q.set ((j).toNat) cG.1).getD zi 0)))] ++ kq [1,2]) 243 (pc c5 (pc c6 (pc c7 (pc (show Sd 136 [(.os 0 ((j).toNat) ((ag ((ag (j+(((b.length - 0):Nat):Int)))+1)).toNat - (j).toNat)),(.sl (b.length - 0) (fun zi=>(cU .u16) (fA.getD (bu 0 zi) 0)))] [(0,aU u)] 1 (wQ cG.1) [(0,aU cG.2)] from (Sound.conv (H7 _ _ _ _ _ _ Gh) (.cons (Alike.refl _) (.cons (Alike.sl (xz fA 0 b.length c8) (fun zq g9=>DR (cU .u16) 0 fA 0 b.length zq g9)) .nil)))) (pc (show ∀ zi,zi < cG.2.length→AV.xd ((cU .u16) (cG.2.getD zi 0))=true from (fun _ _=>rfl)) (pc (show 0+(b.length - 0)≤fA.length by have:=c8;omega) (pc Nu (pc (dR Nu) (pc (aD q ((j).toNat) cG.1) (pc (show u.length=cG.2.length from (Eq.symm c9)) (pc (aD q ((j).toNat) cG.1) (pc (cH (cU .u16) 0 q ((j).toNat) cG.1) pn)))))))))))) ?_
   refine ae hE 1 [] [] (kp [4,8,9,10,11,12]) (kq [0,1,2]) 291 pn ?_
   exact cP hE 1 [] (kp [4,8,9,10,11,12]) (kq [0,1,2]) 3 pn (ih _ _ _ _ h E hE)
  ·obtain ⟨IV,h⟩:=ab h
   refine ae hE 2 [] [] (kp [4] ++ [(5,.kD ((List.replicate (b.length - 0) 0:List Int).length))] ++ kp [8,9,11]) (kq [0,1] ++ [(51,.arr 51 ((List.replicate (b.length - 0) 0:List Int).length) (fun zi=>(cU .u16) ((List.replicate (b.length - 0) 0:List Int).getD zi 0)))]) 83 (pc (show 0≤(((b.length - 0):Nat):Int) from IV.1) (pc (show (((b.length - 0):Nat):Int)≤(((b.length - 0):Nat):Int) from (Int.le_refl _)) (pc (show (2:Int) * (((b.length - 0):Nat):Int)≤281474976710656 from IV.2.1) (pc (show (((b.length - 0):Nat):Int)≤9223372036854775807 from IV.2.2) (pc (show (b.length - 0)=(List.replicate (b.length - 0) 0:List Int).length from (dj).symm) (pc (show (b.length - 0)=(List.replicate (b.length - 0) 0:List Int).length from (dj).symm) (pc (show ∀ zi,zi < (List.replicate (b.length - 0) 0:List Int).length→(fun zi=>(cU .u16) ((List.replicate (b.length - 0) 0:List Int).getD zi 0)) zi=(fun _=>[(wQ 0)]) zi from (fun zq g9=>rG (cU .u16) 0 0 (b.length - 0) zq g9)) pn))))))) ?_
   refine ae hE 2 [] [] (kp [4,5,8,9,81,82]) (kq [0,1,51]) 115 pn ?_
   exact cP hE 2 [] (kp [4,5,8,9,81,82]) (kq [0] ++ [(1,.ah 51),(2,.ah 1)]) 3 pn (B7 N _ _ _ _ N _ _ _ h E hE)
theorem tX (N a b r) (h:oB N a b=some r):Sd 124 [(eU a),(eU b)] [] 0 (.tup [(eU r.1),(eU r.2)]) []:=by
 unfold oB at h
 refine g8 (fu:=Tryz.f124) (c:=K6 1) (nt:=109) (fun hm=>rfl) ?_
 intro E hE
 refine ae hE 1 [] [] (kp [0,1]) [] 32 pn ?_
 obtain ⟨jY,hr,h⟩:=aP h
 refine ae hE 2 [(2,oT (aI jY))] [] (kp [0,1,17]) [] 96 (pc (xG _ _ _ _ hr) pn) ?_
 refine dr 0 17 h (fun ee h=>?_) (fun ee h=>?_)
 ·obtain ⟨zQ,eI,h⟩:=aP h
  refine ae hE 1 [(1,oT (eU zQ))] [] (kp [4,5]) [] 160 (pc (la _ _ _ eI) pn) ?_
  obtain rfl:=cT h
  exact cZ hE 0 Tryz.f124 [] ([(4,.sl (([]:List Int).length) (fun zi=>(cU .u16) (([]:List Int).getD zi 0)))] ++ kp [5]) [] 160 (pc (Eq.refl 0) pn) [] pn
 ·refine ae hE 3 [] [] (kp [0,1,22]) [] 144 pn ?_
  refine dr 0 22 h (fun jq h=>?_) (fun jq h=>?_)
  ·obtain ⟨c,h⟩:=ab h
   obtain ⟨zR,kc,h⟩:=aP h
   refine ae hE 1 [(4,oT (.tup [(eU zR.1),(wQ zR.2)]))] [] (kp [6,7]) [] 304 (pc c (pc (H5 _ _ _ _ kc) pn)) ?_
   obtain ⟨bU,nw,h⟩:=aP h
   refine ae hE 1 [(3,⟨[],true,(eU bU),[],0,true,none⟩)] [] (kp [4,5]) [] 400 (pc (show Sd 122 [(.sl 1 (fun zi=>(fun zi=>([[(wQ zR.2)]]:List (List AV)).getD zi []) (bu 0 zi)))] [] 0 (eU bU) [] from (Sound.conv (eS _ _ _ nw) (.cons (Alike.sl rfl (fun zq g9=>b9 (cU .u16) 0 ([zR.2]:List Int) zq g9)) .nil))) (pc (z1 1) pn)) ?_
   obtain rfl:=cT h
   exact cZ hE 0 Tryz.f124 [] (kp [4,5]) [] 400 pn [] pn
  ·obtain ⟨c2,h⟩:=ab h
   obtain ⟨bk,rN,h⟩:=aP h
   refine ae hE 2 [(6,oT (aI bk))] [] (kp [0,1,8]) [] 272 (pc c2 (pc (qH _ _ _ rN) pn)) ?_
   obtain ⟨eC,xK,h⟩:=aP h
   obtain ⟨fA,yX,h⟩:=aP h
   obtain ⟨c3,h⟩:=ab h
   refine ae hE 1 [(2,⟨[],true,(.os 0 0 eC.length),[(0,aU eC)],0,false,none⟩),(5,⟨[],true,(.os 0 0 fA.length),[(0,aU fA)],0,false,none⟩)] [] (kp [8,9,10]) (kq [304,352]) 448 (pc (xI _ _ _ _ xK) (pc (xI _ _ _ _ yX) (pc c3 (pc (show 0≤((b.length:Nat):Int) from (Int.natCast_nonneg _)) pn)))) ?_
   refine ae hE 1 [] [] (kp [8,9,10,11]) (kq [304,352]) 496 pn ?_
   obtain ⟨c4,h⟩:=ab h
   refine ae hE 1 [] [] ([(4,.kD ((List.replicate ((ag (((eC.length:Nat):Int) - (((b.length - 0):Nat):Int))).toNat) 0:List Int).length))] ++ kp [8,9,10,11]) (kq [304,352] ++ [(560,.arr 560 ((List.replicate ((ag (((eC.length:Nat):Int) - (((b.length - 0):Nat):Int))).toNat) 0:List Int).length) (fun zi=>(cU .u16) ((List.replicate ((ag (((eC.length:Nat):Int) - (((b.length - 0):Nat):Int))).toNat) 0:List Int).getD zi 0)))]) 592 (pc (show 0≤(ag (((eC.length:Nat):Int) - (((b.length - 0):Nat):Int))) from c4.1) (pc (show (ag (((eC.length:Nat):Int) - (((b.length - 0):Nat):Int)))≤(ag (((eC.length:Nat):Int) - (((b.length - 0):Nat):Int))) from (Int.le_refl _)) (pc (show (2:Int) * (ag (((eC.length:Nat):Int) - (((b.length - 0):Nat):Int)))≤281474976710656 from c4.2.1) (pc (show (ag (((eC.length:Nat):Int) - (((b.length - 0):Nat):Int)))≤9223372036854775807 from c4.2.2) (pc (show (ag (((eC.length:Nat):Int) - (((b.length - 0):Nat):Int))).toNat=(List.replicate ((ag (((eC.length:Nat):Int) - (((b.length - 0):Nat):Int))).toNat) 0:List Int).length from (dj).symm) (pc (show (ag (((eC.length:Nat):Int) - (((b.length - 0):Nat):Int))).toNat=(List.replicate ((ag (((eC.length:Nat):Int) - (((b.length - 0):Nat):Int))).toNat) 0:List Int).length from (dj).symm) (pc (show ∀ zi,zi < (List.replicate ((ag (((eC.length:Nat):Int) - (((b.length - 0):Nat):Int))).toNat) 0:List Int).length→(fun zi=>(cU .u16) ((List.replicate ((ag (((eC.length:Nat):Int) - (((b.length - 0):Nat):Int))).toNat) 0:List Int).getD zi 0)) zi=(fun _=>[(wQ 0)]) zi from (fun zq g9=>rG (cU .u16) 0 0 ((ag (((eC.length:Nat):Int) - (((b.length - 0):Nat):Int))).toNat) zq g9)) pn))))))) ?_
   refine ae hE 2 [] [] (kp [4,8,9,10,11,12]) (kq [304,352,560]) 688 pn ?_
   exact cP hE 2 [] (kp [4,8,9,10,11,12]) [(0,.ah 560),(1,.ah 304),(2,.ah 352)] 3 pn (B8 N _ _ _ N _ _ _ _ h E hE)
noncomputable abbrev Gi:=b8 Tryz.f123
def wx (N:Nat) (K:(List Int)→(List Int)→Option ((List Int))):Prop:=∀ (a2:List Int) (b2:List Int) (r:(List Int)),K a2 b2=some r→∀ E,bh E 0→aE Tryz.prog E 123 45 (aW E [] (eU r)) [.code (Gi 24),.inLoop (Gi 24),.inBlock 0,.code (Gi 7)] ⟨[(0,(eU a2)),(1,(eU b2))],[],0⟩
def Dg (N:Nat) (K:Int→Int→Option ((List Int))):Prop:=∀ (x:Int) (y:Int) (r:(List Int)),K x y=some r→∀ E,bh E 0→aE Tryz.prog E 123 45 (aW E [] (eU r)) [.code (Gi 25296),.inLoop (Gi 25296),.inBlock 2,.code (Gi 6325),.code (Gi 791),.inBlock 1,.inLoop (Gi 24),.inBlock 0,.code (Gi 7)] ⟨[(5,(IU x)),(7,(IU y))],[],0⟩
theorem B9 (N:Nat) (oh:(List Int)→(List Int)→Option ((List Int))) (Nv:wx N oh) (fuel:Nat):Dg N (kX N oh fuel):=by
 induction fuel with
 | zero=>intro _ _ r h;rw [kX.eq_1] at h;cases h
 | succ fuel ih =>
  intro x y r h E hE
  rw [kX.eq_2] at h
  refine ae hE 2 [] [] (kp [5,7,29]) [] 32 pn ?_
  refine dr 0 29 h (fun ti h=>?_) (fun ti h=>?_)
  ·obtain ⟨c,h⟩:=ab h
   refine ae hE 2 [] [] (kp [5,7]) [] 128 (pc c pn) ?_
   exact cP hE 2 [] (kp [5,7]) [] 0 pn (ih _ _ _ h E hE)
  ·obtain ⟨su,kc,h⟩:=aP h
   refine ae hE 2 [(1,oT (eU su))] [] (kp [4]) [] 80 (pc (sK _ _ _ kc) pn) ?_
   obtain rfl:=cT h
   exact cZ hE 0 Tryz.f123 [] (kp [4]) [] 80 pn [] pn
theorem Ca (N fuel):wx N (jF N fuel):=by
 induction fuel with
 | zero=>intro _ _ r h;rw [jF.eq_1] at h;cases h
 | succ fuel ih =>
  intro a2 b2 r h E hE
  rw [jF.eq_2] at h
  refine ae hE 2 [] [] (kp [0,1,13]) [] 48 pn ?_
  refine dr 0 13 h (fun ee h=>?_) (fun ee h=>?_)
  ·obtain ⟨Hg,hr,h⟩:=aP h
   refine ae hE 3 [(1,oT (.tup [(IU Hg.1),(aB Hg.2)]))] [] (kp [0,1,5,6]) [] 160 (pc (CO _ _ _ hr) pn) ?_
   obtain ⟨ET,eI,h⟩:=aP h
   refine ae hE 1 [(1,oT (.tup [(IU ET.1),(aB ET.2)]))] [] (kp [0,1,5,6,7,8]) [] 272 (pc (CO _ _ _ eI) pn) ?_
   refine ae hE 2 [] [] (kp [0,1,5,7,27]) [] 336 (pc (fun hq:Hg.2=true=>(pc hq pn)) pn) ?_
   refine dr 0 27 h (fun jq h=>?_) (fun jq h=>?_)
   ·exact cP hE 3 [] (kp [5,7]) [] 0 pn (B9 N _ ih N _ _ _ h E hE)
   ·obtain ⟨rH,nw,h⟩:=aP h
    refine ae hE 2 [(2,oT (.tup [(eU rH.1),(eU rH.2)]))] [] (kp [1,10]) [] 464 (pc (tX _ _ _ _ nw) pn) ?_
    refine ae hE 0 [] [] (kp [0,1]) [] 528 pn ?_
    exact cP hE 2 [] (kp [0,1]) [] 0 pn (ih _ _ _ h E hE)
  ·refine ae hE 2 [] [] (kp [4]) [] 80 pn ?_
   obtain rfl:=cT h
   exact cZ hE 0 Tryz.f123 [] (kp [4]) [] 80 pn [] pn
theorem Gj (N a b r) (h:vG N a b=some r):Sd 123 [(eU a),(eU b)] [] 0 (eU r) []:=by
 unfold vG at h
 refine g8 (fu:=Tryz.f123) (c:=Gi 1) (nt:=45) (fun hm=>rfl) ?_
 intro E hE
 refine ae hE 1 [] [] (kp [0,1]) [] 16 pn ?_
 exact cP hE 3 [] (kp [0,1]) [] 0 pn (Ca N N _ _ _ h E hE)
noncomputable abbrev UC:=b8 Tryz.f98
def AY (N:Nat) (a:bW) (b:bW) (K:(List Int)→(List Int)→Option (aa)):Prop:=∀ (x:List Int) (y:List Int) (r:aa),K x y=some r→∀ E,bh E 0→aE Tryz.prog E 98 48 (aW E [] (.agg (ak r))) [.code (UC 62),.code (UC 63)] ⟨[(2,(.op 0 0 0)),(3,(.op 1 0 0)),(4,(.op 2 0 0)),(5,(eU x)),(6,(eU y))],[(0,vO 2 (lg a)),(1,vO 2 (lg b)),(2,vO 4 [(aB false),.nil,(aB false),.nil])],3⟩
theorem sL (N a b):AY N a b (l4 N a b):=by
 intro x y r h E hE
 unfold l4 at h
 obtain ⟨KV,xK,h⟩:=aP h
 obtain ⟨ES,yX,h⟩:=aP h
 refine ae hE 0 [(6,oT (.agg (lg KV))),(8,oT (.agg (lg ES)))] [] (kp [4]) (kq [2]) 179 (pc o1 (pc o1 (pc (jM _ _ _ _ xK) (pc (jM _ _ _ _ yX) (pc o1 pn))))) ?_
 obtain rfl:=cT h
 exact cZ hE 0 Tryz.f98 [] (kp [4]) [(16,.ah 2)] 179 pn [16] (pc o1 pn)
theorem jr (N a b r) (h:iL N a b=some r):Sd 98 [(.agg (lg a)),(.agg (lg b))] [] 0 (.agg (ak r)) []:=by
 unfold iL at h
 refine g8 (fu:=Tryz.f98) (c:=UC 1) (nt:=48) (fun hm=>rfl) ?_
 intro E hE
 refine ae hE 1 [] [] (kp [2,3,4]) (kq [0,16,32]) 48 pn ?_
 obtain ⟨bU,hr,h⟩:=aP h
 obtain ⟨jv,eI,h⟩:=aP h
 refine ae hE 1 [(2,oT (eU bU)),(5,oT (eU jv))] [] (kp [2,3,4,5,6]) (kq [0,16,32]) 176 (pc o1 (pc (eS _ _ _ hr) (pc o1 (pc (eS _ _ _ eI) pn)))) ?_
 obtain ⟨oi,kc,h⟩:=aP h
 refine ae hE 1 [(2,oT (eU oi))] [] (kp [2,3,4,5,6,7]) (kq [0,16,32]) 240 (pc (Gj _ _ _ _ kc) pn) ?_
 obtain ⟨c,h⟩:=ab h
 refine ae hE 2 [] [] (kp [2,3,4,5,6,7,25]) (kq [0,16,32]) 384 (pc (fun hg:(!(((oi.length:Nat):Int) != 1))=true=>(pc hg (pc (c hg) pn))) (pc (fun hg:(!(((oi.length:Nat):Int) != 1))=true=>(pc hg pn)) (pc (fun hg:(!(((oi.length:Nat):Int) != 1))=true=>(pc hg pn)) (pc (fun hq:(!(((oi.length:Nat):Int) != 1))=true=>(pc hq pn)) pn)))) ?_
 refine dr 0 25 h (fun ee h=>?_) (fun ee h=>?_)
 ·obtain ⟨rH,nw,h⟩:=aP h
  refine ae hE 1 [(2,oT (.tup [(eU rH.1),(eU rH.2)]))] [] (kp [2,3,4,5,6,7]) (kq [0,16,32]) 496 (pc (tX _ _ _ _ nw) pn) ?_
  obtain ⟨AN,rN,h⟩:=aP h
  refine ae hE 0 [(2,oT (.tup [(eU AN.1),(eU AN.2)]))] [] (kp [2,3,4,5,6]) (kq [0,16,32]) 608 (pc (tX _ _ _ _ rN) pn) ?_
  exact cP hE 1 [] (kp [2,3,4,5,6]) (kq [0] ++ [(1,.ah 16),(2,.ah 32)]) 3 pn (sL N _ _ _ _ _ h E hE)
 ·exact cP hE 2 [] (kp [2,3,4,5,6]) (kq [0] ++ [(1,.ah 16),(2,.ah 32)]) 3 pn (sL N _ _ _ _ _ h E hE)
noncomputable abbrev Y1:=b8 Tryz.f89
theorem AZ (N a r) (h:qa N a=some r):Sd 89 [(.agg (lg a))] [] 0 (.agg (ak r)) []:=by
 unfold qa at h
 refine g8 (fu:=Tryz.f89) (c:=Y1 1) (nt:=7) (fun hm=>rfl) ?_
 intro E hE
 refine ae hE 1 [] [] (kp [1,2]) (kq [0,16]) 32 pn ?_
 obtain ⟨Bx,hr,h⟩:=aP h
 refine ae hE 1 [(3,⟨[],true,(.agg (ak Bx)),[],0,true,none⟩)] [] (kp [2]) (kq [16]) 112 (pc o1 (pc (show Sd 98 [(.agg (lg a)),(.agg [(aB false),(.sl 1 (fun zi=>(fun zi=>([[(wQ 1)]]:List (List AV)).getD zi []) (bu 0 zi)))])] [] 0 (.agg (ak Bx)) [] from (Sound.conv (jr _ _ _ _ hr) (.cons (Alike.refl _) (.cons (Alike.agg (.cons (Alike.refl _) (.cons (Alike.sl rfl (fun zq g9=>b9 (cU .u16) 0 ([1]:List Int) zq g9)) .nil))) .nil)))) (pc (z1 1) (pc o1 pn)))) ?_
 obtain rfl:=cT h
 exact cZ hE 0 Tryz.f89 [] (kp [2]) (kq [16]) 112 pn [16] (pc o1 pn)
noncomputable abbrev C_6:=b8 Tryz.f68
theorem gH (N n r) (h:fZ N n=some r):Sd 68 [(aI n)] [] 0 (.agg (ak r)) []:=by
 unfold fZ at h
 refine g8 (fu:=Tryz.f68) (c:=C_6 1) (nt:=6) (fun hm=>rfl) ?_
 intro E hE
 refine ae hE 1 [] [] (kp [0,2]) (kq [0]) 16 pn ?_
 obtain ⟨F2,hr,h⟩:=aP h
 obtain ⟨zS,eI,h⟩:=aP h
 refine ae hE 1 [(1,oT (.agg (lg F2))),(2,oT (.agg (ak zS)))] [] (kp [2]) (kq [0]) 80 (pc (yG _ _ _ hr) (pc (AZ _ _ _ eI) (pc o1 pn))) ?_
 obtain rfl:=cT h
 exact cZ hE 0 Tryz.f68 [] (kp [2]) [(16,.ah 0)] 80 pn [16] (pc o1 pn)
noncomputable abbrev Y2:=b8 Tryz.f105
theorem tz (N a r) (h:sw N a=some r):Sd 105 [(.agg (lg a))] [] 0 (aI r) []:=by
 unfold sw at h
 refine g8 (fu:=Tryz.f105) (c:=Y2 1) (nt:=12) (fun hm=>rfl) ?_
 intro E hE
 refine ae hE 1 [] [] (kp [1]) (kq [0]) 32 pn ?_
 obtain ⟨bU,hr,h⟩:=aP h
 refine ae hE 3 [(2,oT (eU bU))] [] (kp [1,3]) (kq [0]) 128 (pc o1 (pc (eS _ _ _ hr) pn)) ?_
 refine dr 0 3 h (fun ee h=>?_) (fun ee h=>?_)
 ·refine ae hE 1 [] [] (kp [2]) [] 144 pn ?_
  obtain rfl:=cT h
  exact cZ hE 0 Tryz.f105 [] (kp [2]) [] 144 pn [] pn
 ·refine ae hE 1 [] [] (kp [9]) [] 176 (pc o1 pn) ?_
  refine dr 0 9 h (fun jq h=>?_) (fun jq h=>?_)
  ·refine ae hE 1 [] [] (kp [2]) [] 192 pn ?_
   obtain rfl:=cT h
   exact cZ hE 0 Tryz.f105 [] (kp [2]) [] 192 pn [] pn
  ·refine ae hE 3 [] [] (kp [2]) [] 192 pn ?_
   obtain rfl:=cT h
   exact cZ hE 0 Tryz.f105 [] (kp [2]) [] 192 pn [] pn
noncomputable abbrev Y3:=b8 Tryz.f97
theorem jB (N x r) (h:ku N x=some r):Sd 97 [(.agg (ak x))] [] 0 (.agg (lg r)) []:=by
 unfold ku at h
 refine g8 (fu:=Tryz.f97) (c:=Y3 1) (nt:=11) (fun hm=>rfl) ?_
 intro E hE
 refine ae hE 1 [] [] (kp [1,2]) (kq [0,16]) 32 pn ?_
 obtain ⟨uF,hr,h⟩:=aP h
 refine ae hE 2 [(2,oT (aI uF))] [] (kp [1,2,6]) (kq [0,16]) 96 (pc o1 (pc (tz _ _ _ hr) pn)) ?_
 refine dr 0 6 h (fun ee h=>?_) (fun ee h=>?_)
 ·refine ae hE 1 [] [] (kp [2]) [(16,.var 16 [.ah,.kD (([1]:List Int).length)]),(96,.arr 96 (([1]:List Int).length) (fun zi=>(cU .u16) (([1]:List Int).getD zi 0)))] 144 (pc o1 (pc (Eq.refl 1) (pc (Eq.refl 1) (pc (show ∀ zi,zi < ([1]:List Int).length→(fun zi=>(cU .u16) (([1]:List Int).getD zi 0)) zi=(fun zi=>([[(wQ 1)]]:List (List AV)).getD zi []) zi from (fun zq g9=>b9 (cU .u16) 0 ([1]:List Int) zq g9)) pn)))) ?_
  obtain rfl:=cT h
  exact cZ hE 0 Tryz.f97 [96] (kp [2]) [(16,.var 16 [.ah,.sl (([1]:List Int).length) (fun zi=>(cU .u16) (([1]:List Int).getD zi 0))])] 144 (pc (Eq.refl (([1]:List Int).length)) (pc (z1 (([1]:List Int).length)) (pc (aZ (([1]:List Int).length) (fun zi=>(cU .u16) (([1]:List Int).getD zi 0))) pn))) [16] (pc o1 pn)
 ·refine ae hE 2 [] [] (kp [2]) (kq [16]) 144 (pc o1 (pc o1 pn)) ?_
  obtain rfl:=cT h
  exact cZ hE 0 Tryz.f97 [] (kp [2]) (kq [16]) 144 pn [16] (pc o1 pn)
noncomputable abbrev Y4:=b8 Tryz.f69
theorem ql (N x r) (h:kY N x=some r):Sd 69 [(.agg (ak x))] [] 0 (.agg (ak r)) []:=by
 unfold kY at h
 refine g8 (fu:=Tryz.f69) (c:=Y4 1) (nt:=8) (fun hm=>rfl) ?_
 intro E hE
 refine ae hE 1 [] [] (kp [1,2]) (kq [0,16]) 32 pn ?_
 obtain ⟨jw,hr,h⟩:=aP h
 obtain ⟨Bx,eI,h⟩:=aP h
 refine ae hE 1 [(3,oT (.agg (lg jw))),(4,oT (.agg (ak Bx)))] [] (kp [2]) (kq [16]) 128 (pc o1 (pc o1 (pc (jB _ _ _ hr) (pc (jr _ _ _ _ eI) (pc o1 pn))))) ?_
 obtain rfl:=cT h
 exact cZ hE 0 Tryz.f69 [] (kp [2]) (kq [16]) 128 pn [16] (pc o1 pn)
noncomputable abbrev Y5:=b8 Tryz.f104
theorem Dh (N a r) (h:rI N a=some r):Sd 104 [(.agg (lg a))] [] 0 (.agg (lg r)) []:=by
 unfold rI at h
 refine g8 (fu:=Tryz.f104) (c:=Y5 1) (nt:=9) (fun hm=>rfl) ?_
 intro E hE
 refine ae hE 1 [] [] (kp [1,2]) (kq [0,16]) 32 pn ?_
 refine ae hE 1 [] [] (kp [2]) (kq [16]) 144 (pc o1 (pc o1 (pc o1 pn))) ?_
 obtain rfl:=cT h
 exact cZ hE 0 Tryz.f104 [] (kp [2]) (kq [16]) 144 pn [16] (pc o1 pn)
noncomputable abbrev Y6:=b8 Tryz.f70
theorem kx (N x r) (h:fR N x=some r):Sd 70 [(.agg (ak x))] [] 0 (.agg (ak r)) []:=by
 unfold fR at h
 refine g8 (fu:=Tryz.f70) (c:=Y6 1) (nt:=9) (fun hm=>rfl) ?_
 intro E hE
 refine ae hE 1 [] [] (kp [1,2]) (kq [0,16]) 32 pn ?_
 obtain ⟨BZ,hr,h⟩:=aP h
 obtain ⟨jw,eI,h⟩:=aP h
 obtain ⟨Bx,kc,h⟩:=aP h
 refine ae hE 1 [(2,oT (.agg (lg BZ))),(4,oT (.agg (lg jw))),(5,oT (.agg (ak Bx)))] [] (kp [2]) (kq [16]) 144 (pc o1 (pc (Dh _ _ _ hr) (pc o1 (pc (jB _ _ _ eI) (pc (jr _ _ _ _ kc) (pc o1 pn)))))) ?_
 obtain rfl:=cT h
 exact cZ hE 0 Tryz.f70 [] (kp [2]) (kq [16]) 144 pn [16] (pc o1 pn)
noncomputable abbrev Fe:=b8 Tryz.f33
def Ff (N:Nat) (n:Int) (l:List af) (aw:aa) (K:(List Int)→Int→Option (ly)):Prop:=∀ (t:List Int) (x:Int) (r:ly),K t x=some r→∀ E,bh E 0→aE Tryz.prog E 33 157 (aW E [(0,vN 12 [(aI r.wN),(aI r.wO),(.os 1 0 r.j8.length),(.os 2 0 r.mN.length),(.os 3 0 r.IS.length),(.os 4 0 r.IT.length),(.os 5 0 r.eK.length),(aB r.aj.fN.fG),(eU r.aj.fN.fL),(aB r.aj.fD.fG),(eU r.aj.fD.fL),(aI r.cg)]),(1,aO 1 cI 0 r.j8),(2,aO 1 cI 0 r.mN),(3,aM 4 ak aa.d r.IS),(4,aO 4 ak aa.d r.IT),(5,aO 4 ak aa.d r.eK)] (.op 0 0 0)) [.code (Fe 116),.inLoop (Fe 116),.inBlock 0,.code (Fe 15)] ⟨[(0,(aI n)),(1,(aH wo af.d l)),(5,(.op 0 0 0)),(25,(aI (ag (2 * n)))),(26,(aI x))],[(0,vN 12 [(aI n),(aI ((l.length:Nat):Int)),.nil,(.os 1 0 t.length),.nil,.nil,.nil,(aB aw.fN.fG),(eU aw.fN.fL),(aB aw.fD.fG),(eU aw.fD.fL),(aI (ag ((ag (2 * n))+((l.length:Nat):Int))))]),(1,aO 1 cI 0 t)],2⟩
def sM (N:Nat) (n:Int) (l:List af) (aw:aa) (t:List Int) (K:(List Int)→(List (List aa))→(List aa)→Int→Option (ly)):Prop:=∀ (t2:List Int) (t3:List (List aa)) (t4:List aa) (x2:Int) (r:ly),K t2 t3 t4 x2=some r→∀ E,bh E 0→aE Tryz.prog E 33 157 (aW E [(0,vN 12 [(aI r.wN),(aI r.wO),(.os 1 0 r.j8.length),(.os 2 0 r.mN.length),(.os 3 0 r.IS.length),(.os 4 0 r.IT.length),(.os 5 0 r.eK.length),(aB r.aj.fN.fG),(eU r.aj.fN.fL),(aB r.aj.fD.fG),(eU r.aj.fD.fL),(aI r.cg)]),(1,aO 1 cI 0 r.j8),(2,aO 1 cI 0 r.mN),(3,aM 4 ak aa.d r.IS),(4,aO 4 ak aa.d r.IT),(5,aO 4 ak aa.d r.eK)] (.op 0 0 0)) [.code (Fe 500),.inLoop (Fe 500),.inBlock 2,.code (Fe 63)] ⟨[(0,(aI n)),(5,(.op 0 0 0)),(53,(aH wo af.d l)),(54,(aI ((l.length:Nat):Int))),(55,(aI x2))],[(0,vN 12 [(aI n),(aI ((l.length:Nat):Int)),(.os 1 0 t2.length),(.os 2 0 ((t ++ ([(ag ((ag (2 * n))+((l.length:Nat):Int)))]:List Int)).length)),(.os 3 0 t3.length),(.os 4 0 t4.length),.nil,(aB aw.fN.fG),(eU aw.fN.fL),(aB aw.fD.fG),(eU aw.fD.fL),(aI (ag ((ag (2 * n))+((l.length:Nat):Int))))]),(1,aO 1 cI 0 t2),(2,aO 1 cI 0 (t ++ ([(ag ((ag (2 * n))+((l.length:Nat):Int)))]:List Int))),(3,aM 4 ak aa.d t3),(4,aO 4 ak aa.d t4)],5⟩
def xL (N:Nat) (n:Int) (l:List af) (aw:aa) (t:List Int) (t2:List Int) (t3:List (List aa)) (t4:List aa) (x2:Int) (K:(List aa)→Int→Option (ly)):Prop:=∀ (row:List aa) (x3:Int) (r:ly),K row x3=some r→∀ E,bh E 0→aE Tryz.prog E 33 157 (aW E [(0,vN 12 [(aI r.wN),(aI r.wO),(.os 1 0 r.j8.length),(.os 2 0 r.mN.length),(.os 3 0 r.IS.length),(.os 4 0 r.IT.length),(.os 5 0 r.eK.length),(aB r.aj.fN.fG),(eU r.aj.fN.fL),(aB r.aj.fD.fG),(eU r.aj.fD.fL),(aI r.cg)]),(1,aO 1 cI 0 r.j8),(2,aO 1 cI 0 r.mN),(3,aM 4 ak aa.d r.IS),(4,aO 4 ak aa.d r.IT),(5,aO 4 ak aa.d r.eK)] (.op 0 0 0)) [.code (Fe 1025652),.inLoop (Fe 1025652),.inBlock 4,.code (Fe 128207),.inBlock 3,.code (Fe 4007),.inLoop (Fe 500),.inBlock 2,.code (Fe 63)] ⟨[(0,(aI n)),(5,(.op 0 0 0)),(8,(.op 5 0 0)),(9,(.os 6 0 row.length)),(53,(aH wo af.d l)),(54,(aI ((l.length:Nat):Int))),(55,(aI x2)),(77,(aI n)),(78,(aI x3))],[(0,vN 12 [(aI n),(aI ((l.length:Nat):Int)),(.os 1 0 ((t2 ++ ([(ag ((ag (2 * n))+x2))]:List Int)).length)),(.os 2 0 ((t ++ ([(ag ((ag (2 * n))+((l.length:Nat):Int)))]:List Int)).length)),(.os 3 0 t3.length),(.os 4 0 t4.length),.nil,(aB aw.fN.fG),(eU aw.fN.fL),(aB aw.fD.fG),(eU aw.fD.fL),(aI (ag ((ag (2 * n))+((l.length:Nat):Int))))]),(1,aO 1 cI 0 (t2 ++ ([(ag ((ag (2 * n))+x2))]:List Int))),(2,aO 1 cI 0 (t ++ ([(ag ((ag (2 * n))+((l.length:Nat):Int)))]:List Int))),(3,aM 4 ak aa.d t3),(4,aO 4 ak aa.d t4),(5,vO 5 (wo (l.getD ((x2).toNat) af.d))),(6,aO 4 ak aa.d row)],7⟩
def Fg (N:Nat) (n:Int) (l:List af) (aw:aa) (t:List Int) (t2:List Int) (t3:List (List aa)) (t4:List aa) (x2:Int) (row:List aa) (x3:Int) (K:aa→Option (ly)):Prop:=∀ (c7:aa) (r:ly),K c7=some r→∀ E,bh E 0→aE Tryz.prog E 33 157 (aW E [(0,vN 12 [(aI r.wN),(aI r.wO),(.os 1 0 r.j8.length),(.os 2 0 r.mN.length),(.os 3 0 r.IS.length),(.os 4 0 r.IT.length),(.os 5 0 r.eK.length),(aB r.aj.fN.fG),(eU r.aj.fN.fL),(aB r.aj.fD.fG),(eU r.aj.fD.fL),(aI r.cg)]),(1,aO 1 cI 0 r.j8),(2,aO 1 cI 0 r.mN),(3,aM 4 ak aa.d r.IS),(4,aO 4 ak aa.d r.IT),(5,aO 4 ak aa.d r.eK)] (.op 0 0 0)) [.code (Fe 131283559),.inBlock 5,.code (Fe 8205223),.inLoop (Fe 1025652),.inBlock 4,.code (Fe 128207),.inBlock 3,.code (Fe 4007),.inLoop (Fe 500),.inBlock 2,.code (Fe 63)] ⟨[(0,(aI n)),(5,(.op 0 0 0)),(8,(.op 5 0 0)),(9,(.os 6 0 row.length)),(10,(aI x3)),(11,(.op 7 0 0)),(53,(aH wo af.d l)),(54,(aI ((l.length:Nat):Int))),(55,(aI x2)),(77,(aI n)),(78,(aI x3))],[(0,vN 12 [(aI n),(aI ((l.length:Nat):Int)),(.os 1 0 ((t2 ++ ([(ag ((ag (2 * n))+x2))]:List Int)).length)),(.os 2 0 ((t ++ ([(ag ((ag (2 * n))+((l.length:Nat):Int)))]:List Int)).length)),(.os 3 0 t3.length),(.os 4 0 t4.length),.nil,(aB aw.fN.fG),(eU aw.fN.fL),(aB aw.fD.fG),(eU aw.fD.fL),(aI (ag ((ag (2 * n))+((l.length:Nat):Int))))]),(1,aO 1 cI 0 (t2 ++ ([(ag ((ag (2 * n))+x2))]:List Int))),(2,aO 1 cI 0 (t ++ ([(ag ((ag (2 * n))+((l.length:Nat):Int)))]:List Int))),(3,aM 4 ak aa.d t3),(4,aO 4 ak aa.d t4),(5,vO 5 (wo (l.getD ((x2).toNat) af.d))),(6,aO 4 ak aa.d row),(7,vO 4 (ak c7))],8⟩
theorem wy (N:Nat) (n:Int) (l:List af) (aw:aa) (t:List Int) (t2:List Int) (t3:List (List aa)) (t4:List aa) (x2:Int) (row:List aa) (x3:Int) (ph:(List aa)→Int→Option (ly)) (ej:(List Int)→(List (List aa))→(List aa)→Int→Option (ly)) (Di:xL N n l aw t t2 t3 t4 x2 ph) (ot:sM N n l aw t ej):Fg N n l aw t t2 t3 t4 x2 row x3 (ni N n l aw t t2 t3 t4 x2 row x3 ph ej):=by
 intro c7 r h E hE
 unfold ni at h
 obtain ⟨aV,nw,h⟩:=aP h
 obtain ⟨c8,h⟩:=ab h
 obtain ⟨c9,h⟩:=ab h
 refine ae hE 0 [(7,oT (.agg (ak aV)))] [] (kp [0,5,8] ++ [(9,.kD (((row.set ((x3).toNat) aV).set ((ag (n+x3)).toNat) c7).length))] ++ kp [53,54,55,77,78]) (kq [0,1,2,3,4,5] ++ [(6,.arr 6 (((row.set ((x3).toNat) aV).set ((ag (n+x3)).toNat) c7).length) (fun zi=>ak (((row.set ((x3).toNat) aV).set ((ag (n+x3)).toNat) c7).getD zi aa.d)))]) 216 (pc o1 (pc (kx _ _ _ nw) (pc o1 (pc c8 (pc (dR c8) (pc c9 (pc (dR c9) (pc (show row.length=((row.set ((x3).toNat) aV).set ((ag (n+x3)).toNat) c7).length from (mL (mL rfl))) (pc (show row.length=((row.set ((x3).toNat) aV).set ((ag (n+x3)).toNat) c7).length from (mL (mL rfl))) (pc (show ∀ zi,zi < ((row.set ((x3).toNat) aV).set ((ag (n+x3)).toNat) c7).length→(fun zi=>ak (((row.set ((x3).toNat) aV).set ((ag (n+x3)).toNat) c7).getD zi aa.d)) zi=((fun zm=>if zm=(ag (n+x3)).toNat then [(aB c7.fN.fG),(eU c7.fN.fL),(aB c7.fD.fG),(eU c7.fD.fL)] else ((fun zm=>if zm=(x3).toNat then [(aB aV.fN.fG),(eU aV.fN.fL),(aB aV.fD.fG),(eU aV.fD.fL)] else (fun zi=>ak (row.getD zi aa.d)) zm)) zm)) zi from (xA ak aa.d (row.set ((x3).toNat) aV) ((ag (n+x3)).toNat) c7 (xA ak aa.d row ((x3).toNat) aV (fun _ _=>rfl)))) pn)))))))))) ?_
 refine ae hE 1 [] [] (kp [0,5,8,9,53,54,55,77,78]) (kq [0,1,2,3,4,5,6]) 248 pn ?_
 exact cP hE 1 [] (kp [0,5,8,9,53,54,55,77,78]) (kq [0,1,2,3,4,5,6]) 7 pn (Di _ _ _ h E hE)
theorem Dj (N:Nat) (n:Int) (l:List af) (aw:aa) (t:List Int) (t2:List Int) (t3:List (List aa)) (t4:List aa) (x2:Int) (ej:(List Int)→(List (List aa))→(List aa)→Int→Option (ly)) (ot:sM N n l aw t ej) (fuel:Nat):xL N n l aw t t2 t3 t4 x2 (fS N n l aw t t2 t3 t4 x2 ej fuel):=by
 induction fuel with
 | zero=>intro _ _ r h;rw [fS.eq_1] at h;cases h
 | succ fuel ih =>
  intro row x3 r h E hE
  rw [fS.eq_2] at h
  refine ae hE 1 [] [] (kp [0,5,8,9,53,54,55,77,78,79]) (kq [0,1,2,3,4,5,6]) 23 pn ?_
  refine dr 1 79 h (fun ti h=>?_) (fun ti h=>?_)
  ·refine ae hE 4 [] [] (kp [0,5,8,9,10,53,54,55,77,78]) (kq [0,1,2,3,4,5,6]) 55 pn ?_
   obtain ⟨ln,eI,h⟩:=aP h
   refine ae hE 1 [(0,oT (.agg (ak ln)))] [] (kp [0,5,8,9,10,11,53,54,55,77,78]) (kq [0,1,2,3,4,5,6,71]) 103 (pc (gH _ _ _ eI) (pc o1 pn)) ?_
   refine ae hE 2 [] [] (kp [0,5,8,9,10,11,53,54,55,77,78,86]) (kq [0,1,2,3,4,5,6,71]) 183 (pc o1 pn) ?_
   refine dr 0 86 h (fun Dc h=>?_) (fun Dc h=>?_)
   ·obtain ⟨c6,h⟩:=ab h
    obtain ⟨vH,kc,h⟩:=aP h
    refine ae hE 0 [(5,oT (.agg (ak vH)))] [] (kp [0,5,8,9,10,11,53,54,55,77,78]) (kq [0,1,2,3,4,5,6,71]) 295 (pc o1 (pc c6 (pc (ql _ _ _ kc) (pc o1 pn)))) ?_
    exact cP hE 0 [] (kp [0,5,8,9,10,11,53,54,55,77,78]) (kq [0,1,2,3,4,5,6] ++ [(7,.ah 71)]) 8 pn (wy N _ _ _ _ _ _ _ _ _ _ _ _ ih ot _ _ h E hE)
   ·exact cP hE 1 [] (kp [0,5,8,9,10,11,53,54,55,77,78]) (kq [0,1,2,3,4,5,6] ++ [(7,.ah 71)]) 8 pn (wy N _ _ _ _ _ _ _ _ _ _ _ _ ih ot _ _ h E hE)
  ·obtain ⟨bM,rN,h⟩:=aP h
   obtain ⟨Nu,h⟩:=ab h
   refine ae hE 2 [(3,oT (.agg (ak bM)))] [] (kp [0,5,8] ++ [(9,.kD ((row.set ((ag (2 * n)).toNat) bM).length))] ++ kp [53,54,55]) (kq [0,1,2,3,4,5] ++ [(6,.arr 6 ((row.set ((ag (2 * n)).toNat) bM).length) (fun zi=>ak ((row.set ((ag (2 * n)).toNat) bM).getD zi aa.d)))]) 119 (pc (gH _ _ _ rN) (pc Nu (pc (dR Nu) (pc (aD row ((ag (2 * n)).toNat) bM) (pc (aD row ((ag (2 * n)).toNat) bM) (pc (cH ak aa.d row ((ag (2 * n)).toNat) bM) pn)))))) ?_
   obtain ⟨IV,h⟩:=ab h
   refine ae hE 1 [] [] (kp [0,5,8,53,54,55]) ([(0,.var 0 [.ah,.ah,.ah,.ah,.kD ((t3 ++ [(row.set ((ag (2 * n)).toNat) bM)]).length),.ah,.ah,.ah,.ah,.ah,.ah,.ah])] ++ kq [1,2,4,5,6] ++ [(231,.pT 231 ((t3 ++ [(row.set ((ag (2 * n)).toNat) bM)]).length) [(t3.length,6,(row.set ((ag (2 * n)).toNat) bM).length)] (mG (t3 ++ [(row.set ((ag (2 * n)).toNat) bM)])))]) 295 (pc o1 (pc (Eq.refl t3.length) (pc IV (pc (show 0+1≤1 from (aF _)) (pc (show ∀ zi,zi < 1→AV.iy ((fun zi=>([[(.os 6 0 ((row.set ((ag (2 * n)).toNat) bM).length))]]:List (List AV)).getD zi []) (bu 0 zi))=true from (qw rfl)) (pc o1 (pc (show (t3.length+1)=(t3 ++ [(row.set ((ag (2 * n)).toNat) bM)]).length from (ax rfl rfl)) (pc (show t3.length+1=(t3 ++ [(row.set ((ag (2 * n)).toNat) bM)]).length from (ax rfl rfl)) (pc (show ∀ zm,zm < (t3 ++ [(row.set ((ag (2 * n)).toNat) bM)]).length→aQ [(t3.length,6,(row.set ((ag (2 * n)).toNat) bM).length)] (mG (t3 ++ [(row.set ((ag (2 * n)).toNat) bM)])) zm=if zm < t3.length then (mG t3) zm else (fun zi=>([[(.os 6 0 ((row.set ((ag (2 * n)).toNat) bM).length))]]:List (List AV)).getD zi []) (zm - t3.length) from (RP (b:=fun zi=>([[(.os 6 0 ((row.set ((ag (2 * n)).toNat) bM).length))]]:List (List AV)).getD zi []) t3 (row.set ((ag (2 * n)).toNat) bM) rfl rfl)) (pc (iM (t3 ++ [(row.set ((ag (2 * n)).toNat) bM)])) pn)))))))))) ?_
   refine Px 231 6 t3.length (pc (Uo t3 (row.set ((ag (2 * n)).toNat) bM)) (pc (show aQ [(t3.length,6,(row.set ((ag (2 * n)).toNat) bM).length)] (mG (t3 ++ [(row.set ((ag (2 * n)).toNat) bM)])) t3.length=[.os 6 0 (row.set ((ag (2 * n)).toNat) bM).length] from if_pos rfl) (pc (show ∀ zj,zj < (row.set ((ag (2 * n)).toNat) bM).length→nB (ak ((row.set ((ag (2 * n)).toNat) bM).getD zj aa.d))=true from fun _ _=>rfl) pn))) ?_
   refine Pw hE [] (kp [0,5,8,53,54,55]) (kq [0,1,2,4,5] ++ [(231,.pT 231 ((t3 ++ [(row.set ((ag (2 * n)).toNat) bM)]).length) [] (mG (t3 ++ [(row.set ((ag (2 * n)).toNat) bM)])))]) 295 (pc (Eq.refl ((t3 ++ [(row.set ((ag (2 * n)).toNat) bM)]).length)) (pc (Py (sz:=4) (c:=ak) (d:=aa.d) (t3 ++ [(row.set ((ag (2 * n)).toNat) bM)]) t3.length 6 ((row.set ((ag (2 * n)).toNat) bM).length) (row.set ((ag (2 * n)).toNat) bM) [] (qA t3 (row.set ((ag (2 * n)).toNat) bM)) EN) (pc (iM (t3 ++ [(row.set ((ag (2 * n)).toNat) bM)])) pn))) ?_
   obtain ⟨eD,xK,h⟩:=aP h
   obtain ⟨Ns,h⟩:=ab h
   refine ae hE 0 [(7,oT (.agg (ak eD)))] [] (kp [0,5,53,54,55]) ([(0,.var 0 [.ah,.ah,.ah,.ah,.ah,.kD ((t4 ++ ([eD]:List aa)).length),.ah,.ah,.ah,.ah,.ah,.ah])] ++ kq [1,2,231] ++ [(439,.arr 439 ((t4 ++ ([eD]:List aa)).length) (fun zi=>ak ((t4 ++ ([eD]:List aa)).getD zi aa.d)))]) 503 (pc o1 (pc o1 (pc (ql _ _ _ xK) (pc (Eq.refl t4.length) (pc Ns (pc (z1 1) (pc (show ∀ zi,zi < 1→AV.iy ((fun zi=>([[(aB eD.fN.fG),(eU eD.fN.fL),(aB eD.fD.fG),(eU eD.fD.fL)]]:List (List AV)).getD zi []) (bu 0 zi))=true from (qw rfl)) (pc o1 (pc (show (t4.length+1)=(t4 ++ ([eD]:List aa)).length from (ax rfl rfl)) (pc (show t4.length+1=(t4 ++ ([eD]:List aa)).length from (ax rfl rfl)) (pc (show ∀ zi,zi < (t4 ++ ([eD]:List aa)).length→(fun zi=>ak ((t4 ++ ([eD]:List aa)).getD zi aa.d)) zi=((fun zm=>if zm < t4.length then (fun zi=>ak (t4.getD zi aa.d)) zm else (fun zi=>([[(aB eD.fN.fG),(eU eD.fN.fL),(aB eD.fD.fG),(eU eD.fD.fL)]]:List (List AV)).getD zi []) (zm - t4.length))) zi from (bL ak aa.d t4 ([eD]:List aa) rfl (fun _ _=>rfl) (fun zq g9=>b9 ak aa.d ([eD]:List aa) zq g9))) pn))))))))))) ?_
   refine ae hE 1 [] [] (kp [0,5,53,54,55]) (kq [0,1,2,231,439]) 535 pn ?_
   exact cP hE 1 [] (kp [0,5,53,54,55]) (kq [0,1,2] ++ [(3,.ah 231),(4,.ah 439)]) 5 pn (ot _ _ _ _ _ h E hE)
def Fh (N:Nat) (n:Int) (l:List af) (aw:aa) (t:List Int) (t2:List Int) (t3:List (List aa)) (t4:List aa) (K:(List aa)→Int→Option (ly)):Prop:=∀ (t5:List aa) (x4:Int) (r:ly),K t5 x4=some r→∀ E,bh E 0→aE Tryz.prog E 33 157 (aW E [(0,vN 12 [(aI r.wN),(aI r.wO),(.os 1 0 r.j8.length),(.os 2 0 r.mN.length),(.os 3 0 r.IS.length),(.os 4 0 r.IT.length),(.os 5 0 r.eK.length),(aB r.aj.fN.fG),(eU r.aj.fN.fL),(aB r.aj.fD.fG),(eU r.aj.fD.fL),(aI r.cg)]),(1,aO 1 cI 0 r.j8),(2,aO 1 cI 0 r.mN),(3,aM 4 ak aa.d r.IS),(4,aO 4 ak aa.d r.IT),(5,aO 4 ak aa.d r.eK)] (.op 0 0 0)) [.code (Fe 2036),.inLoop (Fe 2036),.inBlock 6,.code (Fe 255)] ⟨[(5,(.op 0 0 0)),(144,(aI (((List.replicate ((ag ((ag (2 * n))+1)).toNat) aa.d:List aa).length:Nat):Int))),(145,(aI x4))],[(0,vN 12 [(aI n),(aI ((l.length:Nat):Int)),(.os 1 0 t2.length),(.os 2 0 ((t ++ ([(ag ((ag (2 * n))+((l.length:Nat):Int)))]:List Int)).length)),(.os 3 0 t3.length),(.os 4 0 t4.length),(.os 5 0 t5.length),(aB aw.fN.fG),(eU aw.fN.fL),(aB aw.fD.fG),(eU aw.fD.fL),(aI (ag ((ag (2 * n))+((l.length:Nat):Int))))]),(1,aO 1 cI 0 t2),(2,aO 1 cI 0 (t ++ ([(ag ((ag (2 * n))+((l.length:Nat):Int)))]:List Int))),(3,aM 4 ak aa.d t3),(4,aO 4 ak aa.d t4),(5,aO 4 ak aa.d t5)],6⟩
theorem Dk (N n l aw t t2 t3 t4 fuel):Fh N n l aw t t2 t3 t4 (kJ N n l aw t t2 t3 t4 fuel):=by
 induction fuel with
 | zero=>intro _ _ r h;rw [kJ.eq_1] at h;cases h
 | succ fuel ih =>
  intro t5 x4 r h E hE
  rw [kJ.eq_2] at h
  refine ae hE 1 [] [] (kp [5,144,145,146]) (kq [0,1,2,3,4,5]) 22 pn ?_
  refine dr 1 146 h (fun H6 h=>?_) (fun H6 h=>?_)
  ·refine ae hE 4 [] [] (kp [5,12,144,145]) (kq [0,1,2,3,4,5]) 54 pn ?_
   obtain ⟨pj,yX,h⟩:=aP h
   obtain ⟨Mg,h⟩:=ab h
   refine ae hE 0 [(5,oT (.agg (ak pj)))] [] (kp [5,144,145]) ([(0,.var 0 [.ah,.ah,.ah,.ah,.ah,.ah,.kD ((t5.set ((x4).toNat) pj).length),.ah,.ah,.ah,.ah,.ah])] ++ kq [1,2,3,4] ++ [(5,.arr 5 ((t5.set ((x4).toNat) pj).length) (fun zi=>ak ((t5.set ((x4).toNat) pj).getD zi aa.d)))]) 182 (pc o1 (pc (gH _ _ _ yX) (pc Mg (pc (dR Mg) (pc (aD t5 ((x4).toNat) pj) (pc (aD t5 ((x4).toNat) pj) (pc (cH ak aa.d t5 ((x4).toNat) pj) pn))))))) ?_
   refine ae hE 1 [] [] (kp [5,144,145]) (kq [0,1,2,3,4,5]) 214 pn ?_
   exact cP hE 1 [] (kp [5,144,145]) (kq [0,1,2,3,4,5]) 6 pn (ih _ _ _ h E hE)
  ·refine ae hE 2 [] [] (kp [4]) (kq [0,1,2,3,4,5]) 54 pn ?_
   obtain rfl:=cT h
   exact cZ hE 0 Tryz.f33 [] (kp [4]) (kq [0,1,2,3,4,5]) 54 pn [] pn
theorem Dl (N n l aw t fuel):sM N n l aw t (jx N n l aw t fuel):=by
 induction fuel with
 | zero=>intro _ _ _ _ r h;rw [jx.eq_1] at h;cases h
 | succ fuel ih =>
  intro t2 t3 t4 x2 r h E hE
  rw [jx.eq_2] at h
  refine ae hE 1 [] [] (kp [0,5,53,54,55,56]) (kq [0,1,2,3,4]) 21 pn ?_
  refine dr 1 56 h (fun jq h=>?_) (fun jq h=>?_)
  ·obtain ⟨c3,h⟩:=ab h
   refine ae hE 4 [] [] (kp [0,5,7,8,53,54,55]) (kq [0,1,2,3,4,69]) 117 (pc c3 (pc o1 pn)) ?_
   obtain ⟨c4,h⟩:=ab h
   refine ae hE 1 [] [] (kp [0,5,8,53,54,55]) ([(0,.var 0 [.ah,.ah,.kD ((t2 ++ ([(ag ((ag (2 * n))+x2))]:List Int)).length),.ah,.ah,.ah,.ah,.ah,.ah,.ah,.ah,.ah])] ++ kq [2,3,4,69] ++ [(277,.arr 277 ((t2 ++ ([(ag ((ag (2 * n))+x2))]:List Int)).length) (fun zi=>cI ((t2 ++ ([(ag ((ag (2 * n))+x2))]:List Int)).getD zi 0)))]) 341 (pc o1 (pc (Eq.refl t2.length) (pc c4 (pc (z1 1) (pc (show ∀ zi,zi < 1→AV.iy ((fun zi=>([[(aI (ag ((ag (2 * n))+x2)))]]:List (List AV)).getD zi []) (bu 0 zi))=true from (qw rfl)) (pc o1 (pc (show (t2.length+1)=(t2 ++ ([(ag ((ag (2 * n))+x2))]:List Int)).length from (ax rfl rfl)) (pc (show t2.length+1=(t2 ++ ([(ag ((ag (2 * n))+x2))]:List Int)).length from (ax rfl rfl)) (pc (show ∀ zi,zi < (t2 ++ ([(ag ((ag (2 * n))+x2))]:List Int)).length→(fun zi=>cI ((t2 ++ ([(ag ((ag (2 * n))+x2))]:List Int)).getD zi 0)) zi=((fun zm=>if zm < t2.length then (fun zi=>cI (t2.getD zi 0)) zm else (fun zi=>([[(aI (ag ((ag (2 * n))+x2)))]]:List (List AV)).getD zi []) (zm - t2.length))) zi from (bL cI 0 t2 ([(ag ((ag (2 * n))+x2))]:List Int) rfl (fun _ _=>rfl) (fun zq g9=>b9 cI 0 ([(ag ((ag (2 * n))+x2))]:List Int) zq g9))) pn))))))))) ?_
   obtain ⟨c5,h⟩:=ab h
   refine ae hE 1 [] [] (kp [0,5,8] ++ [(9,.kD ((List.replicate ((ag ((ag (2 * n))+1)).toNat) aa.d:List aa).length))] ++ kp [53,54,55]) (kq [0,2,3,4,69,277] ++ [(389,.Po 389 ((List.replicate ((ag ((ag (2 * n))+1)).toNat) aa.d:List aa).length) (fun zi=>ak ((List.replicate ((ag ((ag (2 * n))+1)).toNat) aa.d:List aa).getD zi aa.d)))]) 421 (pc (show 0≤(ag ((ag (2 * n))+1)) from c5.1) (pc (show (ag ((ag (2 * n))+1))≤(ag ((ag (2 * n))+1)) from (Int.le_refl _)) (pc (show (64:Int) * (ag ((ag (2 * n))+1))≤281474976710656 from c5.2.1) (pc (show (ag ((ag (2 * n))+1))≤9223372036854775807 from c5.2.2) (pc (show (ag ((ag (2 * n))+1)).toNat=(List.replicate ((ag ((ag (2 * n))+1)).toNat) aa.d:List aa).length from (dj).symm) (pc (show (List.replicate ((ag ((ag (2 * n))+1)).toNat) aa.d:List aa).length≤(ag ((ag (2 * n))+1)).toNat from (Nat.le_of_eq (Eq.symm ((dj).symm)))) (pc (show ∀ zi,zi < (List.replicate ((ag ((ag (2 * n))+1)).toNat) aa.d:List aa).length→IQ ((fun _=>[(aB false),.nil,(aB false),.nil]) zi) ((fun zi=>ak ((List.replicate ((ag ((ag (2 * n))+1)).toNat) aa.d:List aa).getD zi aa.d)) zi) from (fun zq g9=>oz ak aa.d aa.d ((ag ((ag (2 * n))+1)).toNat) zq ⟨.inl rfl,.inr ⟨rfl,_,rfl⟩,.inl rfl,.inr ⟨rfl,_,rfl⟩,trivial⟩ g9)) pn))))))) ?_
   refine ae hE 2 [] [] (kp [0,5,8,9,53,54,55,77,78]) (kq [0,2,3,4,69,277,389]) 453 pn ?_
   exact cP hE 2 [] (kp [0,5,8,9,53,54,55,77,78]) (kq [0] ++ [(1,.ah 277)] ++ kq [2,3,4] ++ [(5,.ah 69),(6,.ah 389)]) 7 pn (Dj N _ _ _ _ _ _ _ _ _ ih N _ _ _ h E hE)
  ·obtain ⟨JG,h⟩:=ab h
   refine ae hE 2 [] [] (kp [5]) ([(0,.var 0 [.ah,.ah,.ah,.ah,.ah,.ah,.kD ((List.replicate ((ag ((ag (2 * n))+1)).toNat) aa.d:List aa).length),.ah,.ah,.ah,.ah,.ah])] ++ kq [1,2,3,4] ++ [(85,.Po 85 ((List.replicate ((ag ((ag (2 * n))+1)).toNat) aa.d:List aa).length) (fun zi=>ak ((List.replicate ((ag ((ag (2 * n))+1)).toNat) aa.d:List aa).getD zi aa.d)))]) 149 (pc (show 0≤(ag ((ag (2 * n))+1)) from JG.1) (pc (show (ag ((ag (2 * n))+1))≤(ag ((ag (2 * n))+1)) from (Int.le_refl _)) (pc (show (64:Int) * (ag ((ag (2 * n))+1))≤281474976710656 from JG.2.1) (pc (show (ag ((ag (2 * n))+1))≤9223372036854775807 from JG.2.2) (pc o1 (pc (show (ag ((ag (2 * n))+1)).toNat=(List.replicate ((ag ((ag (2 * n))+1)).toNat) aa.d:List aa).length from (dj).symm) (pc (show (List.replicate ((ag ((ag (2 * n))+1)).toNat) aa.d:List aa).length≤(ag ((ag (2 * n))+1)).toNat from (Nat.le_of_eq (Eq.symm ((dj).symm)))) (pc (show ∀ zi,zi < (List.replicate ((ag ((ag (2 * n))+1)).toNat) aa.d:List aa).length→IQ ((fun _=>[(aB false),.nil,(aB false),.nil]) zi) ((fun zi=>ak ((List.replicate ((ag ((ag (2 * n))+1)).toNat) aa.d:List aa).getD zi aa.d)) zi) from (fun zq g9=>oz ak aa.d aa.d ((ag ((ag (2 * n))+1)).toNat) zq ⟨.inl rfl,.inr ⟨rfl,_,rfl⟩,.inl rfl,.inr ⟨rfl,_,rfl⟩,trivial⟩ g9)) pn)))))))) ?_
   refine ae hE 2 [] [] (kp [5,144,145]) (kq [0,1,2,3,4,85]) 245 (pc o1 pn) ?_
   exact cP hE 2 [] (kp [5,144,145]) (kq [0,1,2,3,4] ++ [(5,.ah 85)]) 6 pn (Dk N _ _ _ _ _ _ _ N _ _ _ h E hE)
theorem Dm (N n l aw fuel):Ff N n l aw (kK N n l aw fuel):=by
 induction fuel with
 | zero=>intro _ _ r h;rw [kK.eq_1] at h;cases h
 | succ fuel ih =>
  intro t x r h E hE
  rw [kK.eq_2] at h
  refine ae hE 1 [] [] (kp [0,1,5,25,26,27]) (kq [0,1]) 18 pn ?_
  refine dr 1 27 h (fun ee h=>?_) (fun ee h=>?_)
  ·refine ae hE 4 [] [] (kp [0,1,5,6,25,26]) (kq [0,1]) 50 pn ?_
   obtain ⟨c,h⟩:=ab h
   refine ae hE 0 [] [] (kp [0,1,5,25,26]) [(0,.var 0 [.ah,.ah,.ah,.kD ((t ++ ([x]:List Int)).length),.ah,.ah,.ah,.ah,.ah,.ah,.ah,.ah]),(162,.arr 162 ((t ++ ([x]:List Int)).length) (fun zi=>cI ((t ++ ([x]:List Int)).getD zi 0)))] 226 (pc o1 (pc (Eq.refl t.length) (pc c (pc (z1 1) (pc (show ∀ zi,zi < 1→AV.iy ((fun zi=>([[(aI x)]]:List (List AV)).getD zi []) (bu 0 zi))=true from (qw rfl)) (pc o1 (pc (show (t.length+1)=(t ++ ([x]:List Int)).length from (ax rfl rfl)) (pc (show t.length+1=(t ++ ([x]:List Int)).length from (ax rfl rfl)) (pc (show ∀ zi,zi < (t ++ ([x]:List Int)).length→(fun zi=>cI ((t ++ ([x]:List Int)).getD zi 0)) zi=((fun zm=>if zm < t.length then (fun zi=>cI (t.getD zi 0)) zm else (fun zi=>([[(aI x)]]:List (List AV)).getD zi []) (zm - t.length))) zi from (bL cI 0 t ([x]:List Int) rfl (fun _ _=>rfl) (fun zq g9=>b9 cI 0 ([x]:List Int) zq g9))) pn))))))))) ?_
   refine ae hE 1 [] [] (kp [0,1,5,25,26]) (kq [0,162]) 258 pn ?_
   exact cP hE 1 [] (kp [0,1,5,25,26]) (kq [0] ++ [(1,.ah 162)]) 2 pn (ih _ _ _ h E hE)
  ·obtain ⟨c2,h⟩:=ab h
   refine ae hE 2 [] [] (kp [0,1,5]) [(0,.var 0 [.ah,.ah,.ah,.kD ((t ++ ([(ag ((ag (2 * n))+((l.length:Nat):Int)))]:List Int)).length),.ah,.ah,.ah,.ah,.ah,.ah,.ah,.ah]),(178,.arr 178 ((t ++ ([(ag ((ag (2 * n))+((l.length:Nat):Int)))]:List Int)).length) (fun zi=>cI ((t ++ ([(ag ((ag (2 * n))+((l.length:Nat):Int)))]:List Int)).getD zi 0)))] 242 (pc o1 (pc o1 (pc (Eq.refl t.length) (pc c2 (pc (z1 1) (pc (show ∀ zi,zi < 1→AV.iy ((fun zi=>([[(aI (ag ((ag (2 * n))+((l.length:Nat):Int))))]]:List (List AV)).getD zi []) (bu 0 zi))=true from (qw rfl)) (pc o1 (pc (show (t.length+1)=(t ++ ([(ag ((ag (2 * n))+((l.length:Nat):Int)))]:List Int)).length from (ax rfl rfl)) (pc (show t.length+1=(t ++ ([(ag ((ag (2 * n))+((l.length:Nat):Int)))]:List Int)).length from (ax rfl rfl)) (pc (show ∀ zi,zi < (t ++ ([(ag ((ag (2 * n))+((l.length:Nat):Int)))]:List Int)).length→(fun zi=>cI ((t ++ ([(ag ((ag (2 * n))+((l.length:Nat):Int)))]:List Int)).getD zi 0)) zi=((fun zm=>if zm < t.length then (fun zi=>cI (t.getD zi 0)) zm else (fun zi=>([[(aI (ag ((ag (2 * n))+((l.length:Nat):Int))))]]:List (List AV)).getD zi []) (zm - t.length))) zi from (bL cI 0 t ([(ag ((ag (2 * n))+((l.length:Nat):Int)))]:List Int) rfl (fun _ _=>rfl) (fun zq g9=>b9 cI 0 ([(ag ((ag (2 * n))+((l.length:Nat):Int)))]:List Int) zq g9))) pn)))))))))) ?_
   refine ae hE 2 [] [] (kp [0,5,53,54,55]) (kq [0,178]) 290 pn ?_
   exact cP hE 2 [] (kp [0,5,53,54,55]) [(0,.var 0 [.ah,.ah,.oK 1,.ah,.oK 3,.oK 4,.ah,.ah,.ah,.ah,.ah,.ah]),(1,.nil 1 (fun zi=>cI (([]:List Int).getD zi 0))),(2,.ah 178),(3,.To (mG ([]:List (List aa)))),(4,.nil 4 (fun zi=>ak (([]:List aa).getD zi aa.d)))] 5 pn (Dl N _ _ _ _ N _ _ _ _ _ h E hE)
theorem H8 (N n l r) (h:yA N n l=some r):Sd 33 [(aI n),(aH wo af.d l)] [] 0 (.op 0 0 0) [(0,vN 12 [(aI r.wN),(aI r.wO),(.os 1 0 r.j8.length),(.os 2 0 r.mN.length),(.os 3 0 r.IS.length),(.os 4 0 r.IT.length),(.os 5 0 r.eK.length),(aB r.aj.fN.fG),(eU r.aj.fN.fL),(aB r.aj.fD.fG),(eU r.aj.fD.fL),(aI r.cg)]),(1,aO 1 cI 0 r.j8),(2,aO 1 cI 0 r.mN),(3,aM 4 ak aa.d r.IS),(4,aO 4 ak aa.d r.IT),(5,aO 4 ak aa.d r.eK)]:=by
 unfold yA at h
 refine g8 (fu:=Tryz.f33) (c:=Fe 1) (nt:=157) (fun hm=>rfl) ?_
 intro E hE
 refine ae hE 1 [] [] (kp [0,1]) [] 16 pn ?_
 obtain ⟨aw,hr,h⟩:=aP h
 refine ae hE 1 [(8,oT (.agg (ak aw)))] [] (kp [0,1,5]) (kq [176]) 208 (pc (gH _ _ _ hr) pn) ?_
 refine ae hE 2 [] [] (kp [0,1,5,25,26]) (kq [176]) 256 pn ?_
 exact cP hE 2 [] (kp [0,1,5,25,26]) [(0,.var 176 [.ah,.ah,.ah,.oK 1,.ah,.ah,.ah,.ah,.ah,.ah,.ah,.ah]),(1,.nil 1 (fun zi=>cI (([]:List Int).getD zi 0)))] 2 pn (Dm N _ _ _ N _ _ _ h E hE)
noncomputable abbrev Y7:=b8 Tryz.f71
theorem qm (N x r) (h:mS N x=some r):Sd 71 [(.agg (ak x))] [] 0 (aI r) []:=by
 unfold mS at h
 refine g8 (fu:=Tryz.f71) (c:=Y7 1) (nt:=10) (fun hm=>rfl) ?_
 intro E hE
 refine ae hE 1 [] [] (kp [1]) (kq [0]) 32 pn ?_
 obtain ⟨uF,hr,h⟩:=aP h
 obtain ⟨jw,eI,h⟩:=aP h
 obtain ⟨KY,kc,h⟩:=aP h
 refine ae hE 1 [(2,oT (aI uF)),(4,oT (.agg (lg jw))),(5,oT (aI KY))] [] (kp [2]) [] 160 (pc o1 (pc (tz _ _ _ hr) (pc o1 (pc (jB _ _ _ eI) (pc (tz _ _ _ kc) pn))))) ?_
 obtain rfl:=cT h
 exact cZ hE 0 Tryz.f71 [] (kp [2]) [] 160 pn [] pn
noncomputable abbrev Y8:=b8 Tryz.f74
theorem iT (N x r) (h:gL N x=some r):Sd 74 [(.agg (ak x))] [] 0 (aB r) []:=by
 unfold gL at h
 refine g8 (fu:=Tryz.f74) (c:=Y8 1) (nt:=7) (fun hm=>rfl) ?_
 intro E hE
 refine ae hE 1 [] [] (kp [1]) (kq [0]) 32 pn ?_
 obtain ⟨uF,hr,h⟩:=aP h
 refine ae hE 1 [(2,oT (aI uF))] [] (kp [2]) [] 112 (pc o1 (pc (tz _ _ _ hr) pn)) ?_
 obtain rfl:=cT h
 exact cZ hE 0 Tryz.f74 [] (kp [2]) [] 112 pn [] pn
noncomputable abbrev Gk:=b8 Tryz.f128
def xM (N:Nat) (a:List Int) (b:List Int) (K:(List Int)→Int→Option ((List Int))):Prop:=∀ (out:List Int) (x:Int) (r:(List Int)),K out x=some r→∀ E,bh E 0→aE Tryz.prog E 128 67 (aW E [] (eU r)) [.code (Gk 116),.inLoop (Gk 116),.inBlock 0,.code (Gk 15)] ⟨[(1,(eU b)),(5,(.os 0 0 out.length)),(17,(eU a)),(18,(aI ((a.length:Nat):Int))),(19,(aI x))],[(0,aU out)],1⟩
def Fi (N:Nat) (a:List Int) (b:List Int) (x:Int) (K:(List Int)→Int→Int→Option ((List Int))):Prop:=∀ (gf:List Int) (carry:Int) (x2:Int) (r:(List Int)),K gf carry x2=some r→∀ E,bh E 0→aE Tryz.prog E 128 67 (aW E [] (eU r)) [.code (Gk 119604),.inLoop (Gk 119604),.inBlock 2,.code (Gk 14951),.inBlock 1,.code (Gk 935),.inLoop (Gk 116),.inBlock 0,.code (Gk 15)] ⟨[(1,(eU b)),(5,(.os 0 0 gf.length)),(6,(aI x)),(7,(wQ (a.getD ((x).toNat) 0))),(8,(RY carry)),(17,(eU a)),(18,(aI ((a.length:Nat):Int))),(19,(aI x)),(24,(eU b)),(25,(aI ((b.length:Nat):Int))),(26,(aI x2))],[(0,aU gf)],1⟩
theorem Dn (N:Nat) (a:List Int) (b:List Int) (x:Int) (mT:(List Int)→Int→Option ((List Int))) (Dp:xM N a b mT) (fuel:Nat):Fi N a b x (kL N a b x mT fuel):=by
 induction fuel with
 | zero=>intro _ _ _ r h;rw [kL.eq_1] at h;cases h
 | succ fuel ih =>
  intro gf carry x2 r h E hE
  rw [kL.eq_2] at h
  refine ae hE 1 [] [] (kp [1,5,6,7,8,17,18,19,24,25,26,27]) (kq [0]) 17 pn ?_
  refine dr 1 27 h (fun jq h=>?_) (fun jq h=>?_)
  ·obtain ⟨c3,h⟩:=ab h
   refine ae hE 4 [] [] (kp [1,5,6,7,8,9,10,17,18,19,24,25,26]) (kq [0]) 97 (pc c3 pn) ?_
   obtain ⟨c4,h⟩:=ab h
   refine ae hE 1 [] [] (kp [1,5,6,7,8,9,17,18,19,24,25,26]) (kq [0]) 353 (pc c4 (pc (dR c4) pn)) ?_
   refine ae hE 1 [] [] (kp [1] ++ [(5,.kD ((gf.set ((ag (x+x2)).toNat) (IntKind.u16.wrap ((IntKind.u32.wrap (carry+(IntKind.u32.wrap ((IntKind.u32.wrap ((IntKind.u32.wrap ((a.getD ((x).toNat) 0))) * (IntKind.u32.wrap ((b.getD ((x2).toNat) 0)))))+(IntKind.u32.wrap ((gf.getD ((ag (x+x2)).toNat) 0)))))))))).length))] ++ kp [6,7,8,17,18,19,24,25,26]) [(0,.arr 0 ((gf.set ((ag (x+x2)).toNat) (IntKind.u16.wrap ((IntKind.u32.wrap (carry+(IntKind.u32.wrap ((IntKind.u32.wrap ((IntKind.u32.wrap ((a.getD ((x).toNat) 0))) * (IntKind.u32.wrap ((b.getD ((x2).toNat) 0)))))+(IntKind.u32.wrap ((gf.getD ((ag (x+x2)).toNat) 0)))))))))).length) (fun zi=>(cU .u16) ((gf.set ((ag (x+x2)).toNat) (IntKind.u16.wrap ((IntKind.u32.wrap (carry+(IntKind.u32.wrap ((IntKind.u32.wrap ((IntKind.u32.wrap ((a.getD ((x).toNat) 0))) * (IntKind.u32.wrap ((b.getD ((x2).toNat) 0)))))+(IntKind.u32.wrap ((gf.getD ((ag (x+x2)).toNat) 0)))))))))).getD zi 0)))] 481 (pc c4 (pc (dR c4) (pc (aD gf ((ag (x+x2)).toNat) (IntKind.u16.wrap ((IntKind.u32.wrap (carry+(IntKind.u32.wrap ((IntKind.u32.wrap ((IntKind.u32.wrap ((a.getD ((x).toNat) 0))) * (IntKind.u32.wrap ((b.getD ((x2).toNat) 0)))))+(IntKind.u32.wrap ((gf.getD ((ag (x+x2)).toNat) 0)))))))))) (pc (aD gf ((ag (x+x2)).toNat) (IntKind.u16.wrap ((IntKind.u32.wrap (carry+(IntKind.u32.wrap ((IntKind.u32.wrap ((IntKind.u32.wrap ((a.getD ((x).toNat) 0))) * (IntKind.u32.wrap ((b.getD ((x2).toNat) 0)))))+(IntKind.u32.wrap ((gf.getD ((ag (x+x2)).toNat) 0)))))))))) (pc (cH (cU .u16) 0 gf ((ag (x+x2)).toNat) (IntKind.u16.wrap ((IntKind.u32.wrap (carry+(IntKind.u32.wrap ((IntKind.u32.wrap ((IntKind.u32.wrap ((a.getD ((x).toNat) 0))) * (IntKind.u32.wrap ((b.getD ((x2).toNat) 0)))))+(IntKind.u32.wrap ((gf.getD ((ag (x+x2)).toNat) 0)))))))))) pn))))) ?_
   refine ae hE 0 [] [] (kp [1,5,6,7,8,17,18,19,24,25,26]) (kq [0]) 529 (pc (show (0:Int)≤16 by decide) pn) ?_
   refine ae hE 1 [] [] (kp [1,5,6,7,8,17,18,19,24,25,26]) (kq [0]) 561 pn ?_
   exact cP hE 1 [] (kp [1,5,6,7,8,17,18,19,24,25,26]) (kq [0]) 1 pn (ih _ _ _ _ h E hE)
  ·obtain ⟨c5,h⟩:=ab h
   refine ae hE 1 [] [] (kp [1] ++ [(5,.kD ((gf.set ((ag (x+((b.length:Nat):Int))).toNat) (IntKind.u16.wrap (carry))).length))] ++ kp [17,18,19]) [(0,.arr 0 ((gf.set ((ag (x+((b.length:Nat):Int))).toNat) (IntKind.u16.wrap (carry))).length) (fun zi=>(cU .u16) ((gf.set ((ag (x+((b.length:Nat):Int))).toNat) (IntKind.u16.wrap (carry))).getD zi 0)))] 161 (pc c5 (pc (dR c5) (pc (aD gf ((ag (x+((b.length:Nat):Int))).toNat) (IntKind.u16.wrap (carry))) (pc (aD gf ((ag (x+((b.length:Nat):Int))).toNat) (IntKind.u16.wrap (carry))) (pc (cH (cU .u16) 0 gf ((ag (x+((b.length:Nat):Int))).toNat) (IntKind.u16.wrap (carry))) pn))))) ?_
   refine ae hE 1 [] [] (kp [1,5,17,18,19]) (kq [0]) 193 pn ?_
   exact cP hE 1 [] (kp [1,5,17,18,19]) (kq [0]) 1 pn (Dp _ _ _ h E hE)
theorem Dq (N a b fuel):xM N a b (kM N a b fuel):=by
 induction fuel with
 | zero=>intro _ _ r h;rw [kM.eq_1] at h;cases h
 | succ fuel ih =>
  intro out x r h E hE
  rw [kM.eq_2] at h
  refine ae hE 1 [] [] (kp [1,5,17,18,19,20]) (kq [0]) 17 pn ?_
  refine dr 1 20 h (fun ee h=>?_) (fun ee h=>?_)
  ·obtain ⟨c2,h⟩:=ab h
   refine ae hE 4 [] [] (kp [1,5,6,7,17,18,19]) (kq [0]) 97 (pc c2 pn) ?_
   refine ae hE 1 [] [] (kp [1,5,6,7,8,17,18,19]) (kq [0]) 113 pn ?_
   refine ae hE 2 [] [] (kp [1,5,6,7,8,17,18,19,24,25,26]) (kq [0]) 161 pn ?_
   exact cP hE 2 [] (kp [1,5,6,7,8,17,18,19,24,25,26]) (kq [0]) 1 pn (Dn N _ _ _ _ ih N _ _ _ _ h E hE)
  ·obtain ⟨bU,hr,h⟩:=aP h
   refine ae hE 2 [(1,⟨[],true,(eU bU),[],0,true,none⟩)] [] (kp [4]) [] 65 (pc (eS _ _ _ hr) (pc (z1 out.length) pn)) ?_
   obtain rfl:=cT h
   exact cZ hE 0 Tryz.f128 [] (kp [4]) [] 65 pn [] pn
theorem H9 (N a b r) (h:r8 N a b=some r):Sd 128 [(eU a),(eU b)] [] 0 (eU r) []:=by
 unfold r8 at h
 refine g8 (fu:=Tryz.f128) (c:=Gk 1) (nt:=67) (fun hm=>rfl) ?_
 intro E hE
 refine ae hE 1 [] [] (kp [0,1]) [] 16 pn ?_
 obtain ⟨c,h⟩:=ab h
 refine ae hE 1 [] [] (kp [0,1] ++ [(5,.kD ((List.replicate ((ag (((a.length:Nat):Int)+((b.length:Nat):Int))).toNat) 0:List Int).length))]) [(96,.arr 96 ((List.replicate ((ag (((a.length:Nat):Int)+((b.length:Nat):Int))).toNat) 0:List Int).length) (fun zi=>(cU .u16) ((List.replicate ((ag (((a.length:Nat):Int)+((b.length:Nat):Int))).toNat) 0:List Int).getD zi 0)))] 128 (pc (show 0≤(ag (((a.length:Nat):Int)+((b.length:Nat):Int))) from c.1) (pc (show (ag (((a.length:Nat):Int)+((b.length:Nat):Int)))≤(ag (((a.length:Nat):Int)+((b.length:Nat):Int))) from (Int.le_refl _)) (pc (show (2:Int) * (ag (((a.length:Nat):Int)+((b.length:Nat):Int)))≤281474976710656 from c.2.1) (pc (show (ag (((a.length:Nat):Int)+((b.length:Nat):Int)))≤9223372036854775807 from c.2.2) (pc (show (ag (((a.length:Nat):Int)+((b.length:Nat):Int))).toNat=(List.replicate ((ag (((a.length:Nat):Int)+((b.length:Nat):Int))).toNat) 0:List Int).length from (dj).symm) (pc (show (ag (((a.length:Nat):Int)+((b.length:Nat):Int))).toNat=(List.replicate ((ag (((a.length:Nat):Int)+((b.length:Nat):Int))).toNat) 0:List Int).length from (dj).symm) (pc (show ∀ zi,zi < (List.replicate ((ag (((a.length:Nat):Int)+((b.length:Nat):Int))).toNat) 0:List Int).length→(fun zi=>(cU .u16) ((List.replicate ((ag (((a.length:Nat):Int)+((b.length:Nat):Int))).toNat) 0:List Int).getD zi 0)) zi=(fun _=>[(wQ 0)]) zi from (fun zq g9=>rG (cU .u16) 0 0 ((ag (((a.length:Nat):Int)+((b.length:Nat):Int))).toNat) zq g9)) pn))))))) ?_
 refine ae hE 2 [] [] (kp [1,5,17,18,19]) (kq [96]) 176 pn ?_
 exact cP hE 2 [] (kp [1,5,17,18,19]) [(0,.ah 96)] 1 pn (Dq N _ _ N _ _ _ h E hE)
noncomputable abbrev Y9:=b8 Tryz.f100
theorem oD (N a b r) (h:pk N a b=some r):Sd 100 [(.agg (lg a)),(.agg (lg b))] [] 0 (.agg (lg r)) []:=by
 unfold pk at h
 refine g8 (fu:=Tryz.f100) (c:=Y9 1) (nt:=18) (fun hm=>rfl) ?_
 intro E hE
 refine ae hE 1 [] [] (kp [2,3,4]) (kq [0,16,32]) 48 pn ?_
 obtain ⟨bU,hr,h⟩:=aP h
 obtain ⟨jv,eI,h⟩:=aP h
 obtain ⟨qV,kc,h⟩:=aP h
 obtain ⟨KV,nw,h⟩:=aP h
 refine ae hE 1 [(7,oT (eU bU)),(10,oT (eU jv)),(11,oT (eU qV)),(12,oT (.agg (lg KV)))] [] (kp [4]) (kq [32]) 272 (pc o1 (pc o1 (pc o1 (pc (eS _ _ _ hr) (pc o1 (pc (eS _ _ _ eI) (pc (H9 _ _ _ _ kc) (pc (jM _ _ _ _ nw) (pc o1 pn))))))))) ?_
 obtain rfl:=cT h
 exact cZ hE 0 Tryz.f100 [] (kp [4]) [(16,.ah 32)] 272 pn [16] (pc o1 pn)
noncomputable abbrev Fj:=b8 Tryz.f125
def Gl (N:Nat) (K:(List Int)→(List Int)→Option ((List Int))):Prop:=∀ (a2:List Int) (b2:List Int) (r:(List Int)),K a2 b2=some r→∀ E,bh E 0→aE Tryz.prog E 125 56 (aW E [] (eU r)) [.code (Fj 14),.code (Fj 15)] ⟨[(0,(eU a2)),(1,(eU b2))],[],0⟩
def zu (N:Nat) (a2:List Int) (b2:List Int) (K:(List Int)→Int→Int→Option ((List Int))):Prop:=∀ (out:List Int) (carry:Int) (x:Int) (r:(List Int)),K out carry x=some r→∀ E,bh E 0→aE Tryz.prog E 125 56 (aW E [] (eU r)) [.code (Fj 500),.inLoop (Fj 500),.inBlock 0,.code (Fj 63)] ⟨[(1,(eU b2)),(5,(.os 0 0 out.length)),(6,(RY carry)),(20,(eU a2)),(21,(aI ((a2.length:Nat):Int))),(22,(aI x))],[(0,aU out)],1⟩
def Gm (N:Nat) (a2:List Int) (b2:List Int) (out:List Int) (x:Int) (K:Int→Option ((List Int))):Prop:=∀ (fo:Int) (r:(List Int)),K fo=some r→∀ E,bh E 0→aE Tryz.prog E 125 56 (aW E [] (eU r)) [.code (Fj 128206),.code (Fj 128207),.inBlock 1,.code (Fj 4007),.inLoop (Fj 500),.inBlock 0,.code (Fj 63)] ⟨[(1,(eU b2)),(5,(.os 0 0 out.length)),(6,(RY fo)),(20,(eU a2)),(21,(aI ((a2.length:Nat):Int))),(22,(aI x))],[(0,aU out)],1⟩
theorem xN (N:Nat) (a2:List Int) (b2:List Int) (out:List Int) (x:Int) (qi:(List Int)→Int→Int→Option ((List Int))) (Fk:zu N a2 b2 qi):Gm N a2 b2 out x (oM N a2 b2 out x qi):=by
 intro fo r h E hE
 unfold oM at h
 obtain ⟨c4,h⟩:=ab h
 refine ae hE 0 [] [] (kp [1] ++ [(5,.kD ((out ++ ([(IntKind.u16.wrap (fo))]:List Int)).length))] ++ kp [6,20,21,22]) [(65,.arr 65 ((out ++ ([(IntKind.u16.wrap (fo))]:List Int)).length) (fun zi=>(cU .u16) ((out ++ ([(IntKind.u16.wrap (fo))]:List Int)).getD zi 0)))] 97 (pc (Eq.refl out.length) (pc c4 (pc (z1 1) (pc (show ∀ zi,zi < 1→AV.iy ((fun zi=>([[(wQ (IntKind.u16.wrap (fo)))]]:List (List AV)).getD zi []) (bu 0 zi))=true from (qw rfl)) (pc (show (out.length+1)=(out ++ ([(IntKind.u16.wrap (fo))]:List Int)).length from (ax rfl rfl)) (pc (show out.length+1=(out ++ ([(IntKind.u16.wrap (fo))]:List Int)).length from (ax rfl rfl)) (pc (show ∀ zi,zi < (out ++ ([(IntKind.u16.wrap (fo))]:List Int)).length→(fun zi=>(cU .u16) ((out ++ ([(IntKind.u16.wrap (fo))]:List Int)).getD zi 0)) zi=((fun zm=>if zm < out.length then (fun zi=>(cU .u16) (out.getD zi 0)) zm else (fun zi=>([[(wQ (IntKind.u16.wrap (fo)))]]:List (List AV)).getD zi []) (zm - out.length))) zi from (bL (cU .u16) 0 out ([(IntKind.u16.wrap (fo))]:List Int) rfl (fun _ _=>rfl) (fun zq g9=>b9 (cU .u16) 0 ([(IntKind.u16.wrap (fo))]:List Int) zq g9))) pn))))))) ?_
 refine ae hE 0 [] [] (kp [1,5,6,20,21,22]) (kq [65]) 145 (pc (show (0:Int)≤16 by decide) pn) ?_
 refine ae hE 1 [] [] (kp [1,5,6,20,21,22]) (kq [65]) 177 pn ?_
 exact cP hE 1 [] (kp [1,5,6,20,21,22]) [(0,.ah 65)] 1 pn (Fk _ _ _ _ h E hE)
theorem Fl (N a2 b2 fuel):zu N a2 b2 (jG N a2 b2 fuel):=by
 induction fuel with
 | zero=>intro _ _ _ r h;rw [jG.eq_1] at h;cases h
 | succ fuel ih =>
  intro out carry x r h E hE
  rw [jG.eq_2] at h
  refine ae hE 1 [] [] (kp [1,5,6,20,21,22,23]) (kq [0]) 17 pn ?_
  refine dr 1 23 h (fun jq h=>?_) (fun jq h=>?_)
  ·obtain ⟨c2,h⟩:=ab h
   refine ae hE 4 [] [] (kp [1,5,6,7,8,20,21,22]) (kq [0]) 97 (pc c2 pn) ?_
   refine ae hE 1 [] [] (kp [1,5,6,7,20,21,22]) (kq [0]) 177 pn ?_
   refine ae hE 2 [] [] (kp [1,5,6,7,20,21,22,34]) (kq [0]) 241 pn ?_
   refine dr 0 34 h (fun ti h=>?_) (fun ti h=>?_)
   ·obtain ⟨c3,h⟩:=ab h
    refine ae hE 0 [] [] (kp [1,5,6,20,21,22]) (kq [0]) 369 (pc c3 pn) ?_
    exact cP hE 1 [] (kp [1,5,6,20,21,22]) (kq [0]) 1 pn (xN N _ _ _ _ _ ih _ _ h E hE)
   ·exact cP hE 2 [] (kp [1,5,6,20,21,22]) (kq [0]) 1 pn (xN N _ _ _ _ _ ih _ _ h E hE)
  ·obtain ⟨c5,h⟩:=ab h
   obtain ⟨bU,hr,h⟩:=aP h
   refine ae hE 2 [(5,⟨[],true,(eU bU),[],0,true,none⟩)] [] (kp [4]) [] 129 (pc (Eq.refl out.length) (pc c5 (pc (z1 1) (pc (show ∀ zi,zi < 1→AV.iy ((fun zi=>([[(wQ (IntKind.u16.wrap (carry)))]]:List (List AV)).getD zi []) (bu 0 zi))=true from (qw rfl)) (pc (show Sd 122 [(.sl (out.length+1) (fun zi=>((fun zm=>if zm < out.length then (fun zi=>(cU .u16) (out.getD zi 0)) zm else (fun zi=>([[(wQ (IntKind.u16.wrap (carry)))]]:List (List AV)).getD zi []) (zm - out.length))) (bu 0 zi)))] [] 0 (eU bU) [] from (Sound.conv (eS _ _ _ hr) (.cons (Alike.sl (ax rfl rfl) (bL (cU .u16) 0 out ([(IntKind.u16.wrap (carry))]:List Int) rfl (fun _ _=>rfl) (fun zq g9=>b9 (cU .u16) 0 ([(IntKind.u16.wrap (carry))]:List Int) zq g9))) .nil))) (pc (z1 (out.length+1)) pn)))))) ?_
   obtain rfl:=cT h
   exact cZ hE 0 Tryz.f125 [] (kp [4]) [] 129 pn [] pn
theorem xO (N):Gl N (oN N):=by
 intro a2 b2 r h E hE
 unfold oN at h
 obtain ⟨c,h⟩:=ab h
 refine ae hE 0 [] [] (kp [0,1] ++ [(5,.kD ((List.replicate 0 0:List Int).length))]) [(48,.arr 48 ((List.replicate 0 0:List Int).length) (fun zi=>(cU .u16) ((List.replicate 0 0:List Int).getD zi 0)))] 80 (pc (show 0≤(0:Int) from c.1) (pc (show (0:Int)≤(ag (((a2.length:Nat):Int)+1)) from c.2.2.2) (pc (show (2:Int) * (ag (((a2.length:Nat):Int)+1))≤281474976710656 from c.2.1) (pc (show (ag (((a2.length:Nat):Int)+1))≤9223372036854775807 from c.2.2.1) (pc (show 0=(List.replicate 0 0:List Int).length from (dj).symm) (pc (show 0=(List.replicate 0 0:List Int).length from (dj).symm) (pc (show ∀ zi,zi < (List.replicate 0 0:List Int).length→(fun zi=>(cU .u16) ((List.replicate 0 0:List Int).getD zi 0)) zi=(fun _=>[(wQ 0)]) zi from (fun zq g9=>rG (cU .u16) 0 0 0 zq g9)) pn))))))) ?_
 refine ae hE 1 [] [] (kp [0,1,5,6]) (kq [48]) 96 pn ?_
 refine ae hE 2 [] [] (kp [1,5,6,20,21,22]) (kq [48]) 144 pn ?_
 exact cP hE 2 [] (kp [1,5,6,20,21,22]) [(0,.ah 48)] 1 pn (Fl N _ _ N _ _ _ _ h E hE)
theorem JH (N a b r) (h:uG N a b=some r):Sd 125 [(eU a),(eU b)] [] 0 (eU r) []:=by
 unfold uG at h
 refine g8 (fu:=Tryz.f125) (c:=Fj 1) (nt:=56) (fun hm=>rfl) ?_
 intro E hE
 refine ae hE 1 [] [] (kp [0,1]) [] 16 pn ?_
 refine ae hE 2 [] [] (kp [0,1,13]) [] 96 pn ?_
 refine dr 0 13 h (fun ee h=>?_) (fun ee h=>?_)
 ·refine ae hE 0 [] [] (kp [0,1]) [] 160 pn ?_
  exact cP hE 1 [] (kp [0,1]) [] 0 pn (xO N _ _ _ h E hE)
 ·exact cP hE 2 [] (kp [0,1]) [] 0 pn (xO N _ _ _ h E hE)
noncomputable abbrev Cb:=b8 Tryz.f127
def sN (N:Nat) (a:List Int) (b:List Int) (K:(List Int)→Int→Int→Option ((List Int))):Prop:=∀ (out:List Int) (borrow:Int) (x:Int) (r:(List Int)),K out borrow x=some r→∀ E,bh E 0→aE Tryz.prog E 127 50 (aW E [] (eU r)) [.code (Cb 244),.inLoop (Cb 244),.inBlock 0,.code (Cb 31)] ⟨[(1,(eU b)),(5,(.os 0 0 out.length)),(6,(RY borrow)),(13,(eU a)),(14,(aI ((a.length:Nat):Int))),(15,(aI x))],[(0,aU out)],1⟩
def Fm (N:Nat) (a:List Int) (b:List Int) (out:List Int) (x:Int) (K:Int→Option ((List Int))):Prop:=∀ (y:Int) (r:(List Int)),K y=some r→∀ E,bh E 0→aE Tryz.prog E 127 50 (aW E [] (eU r)) [.code (Cb 62670),.code (Cb 62671),.inBlock 1,.code (Cb 1959),.inLoop (Cb 244),.inBlock 0,.code (Cb 31)] ⟨[(1,(eU b)),(5,(.os 0 0 out.length)),(7,(aI x)),(8,(wQ (a.getD ((x).toNat) 0))),(9,(RY y)),(13,(eU a)),(14,(aI ((a.length:Nat):Int))),(15,(aI x))],[(0,aU out)],1⟩
def Fo (N:Nat) (a:List Int) (b:List Int) (out:List Int) (x:Int) (y:Int) (K:Int→Option ((List Int))):Prop:=∀ (kb:Int) (r:(List Int)),K kb=some r→∀ E,bh E 0→aE Tryz.prog E 127 50 (aW E [] (eU r)) [.code (Cb 125343),.inBlock 1,.code (Cb 1959),.inLoop (Cb 244),.inBlock 0,.code (Cb 31)] ⟨[(1,(eU b)),(5,(.os 0 0 out.length)),(6,(RY kb)),(7,(aI x)),(8,(wQ (a.getD ((x).toNat) 0))),(9,(RY y)),(13,(eU a)),(14,(aI ((a.length:Nat):Int))),(15,(aI x))],[(0,aU out)],1⟩
theorem wz (N:Nat) (a:List Int) (b:List Int) (out:List Int) (x:Int) (y:Int) (fF:(List Int)→Int→Int→Option ((List Int))) (ou:sN N a b fF):Fo N a b out x y (nj N a b out x y fF):=by
 intro kb r h E hE
 unfold nj at h
 obtain ⟨c4,h⟩:=ab h
 refine ae hE 0 [] [] (kp [1] ++ [(5,.kD ((out.set ((x).toNat) (IntKind.u16.wrap ((IntKind.u32.wrap ((IntKind.u32.wrap ((IntKind.u32.wrap ((a.getD ((x).toNat) 0)))+(gJ .u32 kb 16))) - y))))).length))] ++ kp [6,13,14,15]) [(0,.arr 0 ((out.set ((x).toNat) (IntKind.u16.wrap ((IntKind.u32.wrap ((IntKind.u32.wrap ((IntKind.u32.wrap ((a.getD ((x).toNat) 0)))+(gJ .u32 kb 16))) - y))))).length) (fun zi=>(cU .u16) ((out.set ((x).toNat) (IntKind.u16.wrap ((IntKind.u32.wrap ((IntKind.u32.wrap ((IntKind.u32.wrap ((a.getD ((x).toNat) 0)))+(gJ .u32 kb 16))) - y))))).getD zi 0)))] 193 (pc (show (0:Int)≤16 by decide) (pc c4 (pc (dR c4) (pc (aD out ((x).toNat) (IntKind.u16.wrap ((IntKind.u32.wrap ((IntKind.u32.wrap ((IntKind.u32.wrap ((a.getD ((x).toNat) 0)))+(gJ .u32 kb 16))) - y))))) (pc (aD out ((x).toNat) (IntKind.u16.wrap ((IntKind.u32.wrap ((IntKind.u32.wrap ((IntKind.u32.wrap ((a.getD ((x).toNat) 0)))+(gJ .u32 kb 16))) - y))))) (pc (cH (cU .u16) 0 out ((x).toNat) (IntKind.u16.wrap ((IntKind.u32.wrap ((IntKind.u32.wrap ((IntKind.u32.wrap ((a.getD ((x).toNat) 0)))+(gJ .u32 kb 16))) - y))))) pn)))))) ?_
 refine ae hE 1 [] [] (kp [1,5,6,13,14,15]) (kq [0]) 225 pn ?_
 exact cP hE 1 [] (kp [1,5,6,13,14,15]) (kq [0]) 1 pn (ou _ _ _ _ h E hE)
theorem wA (N:Nat) (a:List Int) (b:List Int) (out:List Int) (x:Int) (fF:(List Int)→Int→Int→Option ((List Int))) (ou:sN N a b fF):Fm N a b out x (nm N a b out x fF):=by
 intro y r h E hE
 unfold nm at h
 refine ae hE 0 [] [] (kp [1,5,6,7,8,9,13,14,15]) (kq [0]) 17 pn ?_
 refine ae hE 2 [] [] (kp [1,5,6,7,8,9,13,14,15,35]) (kq [0]) 81 pn ?_
 refine dr 0 35 h (fun ti h=>?_) (fun ti h=>?_)
 ·refine ae hE 0 [] [] (kp [1,5,6,7,8,9,13,14,15]) (kq [0]) 97 pn ?_
  exact cP hE 0 [] (kp [1,5,6,7,8,9,13,14,15]) (kq [0]) 1 pn (wz N _ _ _ _ _ _ ou _ _ h E hE)
 ·exact cP hE 1 [] (kp [1,5,6,7,8,9,13,14,15]) (kq [0]) 1 pn (wz N _ _ _ _ _ _ ou _ _ h E hE)
theorem Dr (N a b fuel):sN N a b (gM N a b fuel):=by
 induction fuel with
 | zero=>intro _ _ _ r h;rw [gM.eq_1] at h;cases h
 | succ fuel ih =>
  intro out borrow x r h E hE
  rw [gM.eq_2] at h
  refine ae hE 1 [] [] (kp [1,5,6,13,14,15,16]) (kq [0]) 17 pn ?_
  refine dr 1 16 h (fun ee h=>?_) (fun ee h=>?_)
  ·obtain ⟨c2,h⟩:=ab h
   refine ae hE 4 [] [] (kp [1,5,6,7,8,13,14,15]) (kq [0]) 97 (pc c2 pn) ?_
   refine ae hE 1 [] [] (kp [1,5,7,8,9,13,14,15]) (kq [0]) 129 pn ?_
   refine ae hE 2 [] [] (kp [1,5,7,8,9,13,14,15,24]) (kq [0]) 193 pn ?_
   refine dr 0 24 h (fun jq h=>?_) (fun jq h=>?_)
   ·obtain ⟨c3,h⟩:=ab h
    refine ae hE 0 [] [] (kp [1,5,7,8,9,13,14,15]) (kq [0]) 321 (pc c3 pn) ?_
    exact cP hE 1 [] (kp [1,5,7,8,9,13,14,15]) (kq [0]) 1 pn (wA N _ _ _ _ _ ih _ _ h E hE)
   ·exact cP hE 2 [] (kp [1,5,7,8,9,13,14,15]) (kq [0]) 1 pn (wA N _ _ _ _ _ ih _ _ h E hE)
  ·obtain ⟨bU,hr,h⟩:=aP h
   refine ae hE 2 [(1,⟨[],true,(eU bU),[],0,true,none⟩)] [] (kp [4]) [] 65 (pc (eS _ _ _ hr) (pc (z1 out.length) pn)) ?_
   obtain rfl:=cT h
   exact cZ hE 0 Tryz.f127 [] (kp [4]) [] 65 pn [] pn
theorem A1 (N a b r) (h:qc N a b=some r):Sd 127 [(eU a),(eU b)] [] 0 (eU r) []:=by
 unfold qc at h
 refine g8 (fu:=Tryz.f127) (c:=Cb 1) (nt:=50) (fun hm=>rfl) ?_
 intro E hE
 refine ae hE 1 [] [] (kp [0,1]) [] 16 pn ?_
 obtain ⟨c,h⟩:=ab h
 refine ae hE 1 [] [] (kp [0,1] ++ [(5,.kD ((List.replicate a.length 0:List Int).length))]) [(48,.arr 48 ((List.replicate a.length 0:List Int).length) (fun zi=>(cU .u16) ((List.replicate a.length 0:List Int).getD zi 0)))] 80 (pc (show 0≤((a.length:Nat):Int) from c.1) (pc (show ((a.length:Nat):Int)≤((a.length:Nat):Int) from (Int.le_refl _)) (pc (show (2:Int) * ((a.length:Nat):Int)≤281474976710656 from c.2.1) (pc (show ((a.length:Nat):Int)≤9223372036854775807 from c.2.2) (pc (show a.length=(List.replicate a.length 0:List Int).length from (dj).symm) (pc (show a.length=(List.replicate a.length 0:List Int).length from (dj).symm) (pc (show ∀ zi,zi < (List.replicate a.length 0:List Int).length→(fun zi=>(cU .u16) ((List.replicate a.length 0:List Int).getD zi 0)) zi=(fun _=>[(wQ 0)]) zi from (fun zq g9=>rG (cU .u16) 0 0 a.length zq g9)) pn))))))) ?_
 refine ae hE 1 [] [] (kp [0,1,5,6]) (kq [48]) 96 pn ?_
 refine ae hE 2 [] [] (kp [1,5,6,13,14,15]) (kq [48]) 144 pn ?_
 exact cP hE 2 [] (kp [1,5,6,13,14,15]) [(0,.ah 48)] 1 pn (Dr N _ _ N _ _ _ _ h E hE)
noncomputable abbrev Za:=b8 Tryz.f99
theorem K7 (N a b r) (h:AO N a b=some r):Sd 99 [(.agg (lg a)),(.agg (lg b))] [] 0 (.agg (lg r)) []:=by
 unfold AO at h
 refine g8 (fu:=Tryz.f99) (c:=Za 1) (nt:=40) (fun hm=>rfl) ?_
 intro E hE
 refine ae hE 1 [] [] (kp [2,3,4]) (kq [0,16,32]) 48 pn ?_
 obtain ⟨bU,hr,h⟩:=aP h
 obtain ⟨jv,eI,h⟩:=aP h
 refine ae hE 1 [(2,oT (eU bU)),(5,oT (eU jv))] [] (kp [2,3,4,5,6]) (kq [0,16,32]) 176 (pc o1 (pc (eS _ _ _ hr) (pc o1 (pc (eS _ _ _ eI) pn)))) ?_
 refine ae hE 2 [] [] (kp [2,3,4,5,6,17]) (kq [0,16,32]) 256 (pc o1 (pc o1 pn)) ?_
 refine dr 0 17 h (fun ee h=>?_) (fun ee h=>?_)
 ·obtain ⟨EU,kc,h⟩:=aP h
  obtain ⟨KV,nw,h⟩:=aP h
  refine ae hE 1 [(4,oT (eU EU)),(5,oT (.agg (lg KV)))] [] (kp [4]) (kq [32]) 368 (pc o1 (pc (JH _ _ _ _ kc) (pc (jM _ _ _ _ nw) (pc o1 pn)))) ?_
  obtain rfl:=cT h
  exact cZ hE 0 Tryz.f99 [] (kp [4]) [(16,.ah 32)] 368 pn [16] (pc o1 pn)
 ·obtain ⟨jY,rN,h⟩:=aP h
  refine ae hE 3 [(2,oT (aI jY))] [] (kp [2,3,4,5,6,27]) (kq [0,16,32]) 320 (pc (xG _ _ _ _ rN) pn) ?_
  refine dr 0 27 h (fun jq h=>?_) (fun jq h=>?_)
  ·obtain ⟨sx,xK,h⟩:=aP h
   obtain ⟨ES,yX,h⟩:=aP h
   refine ae hE 1 [(4,oT (eU sx)),(5,oT (.agg (lg ES)))] [] (kp [4]) (kq [32]) 432 (pc o1 (pc (A1 _ _ _ _ xK) (pc (jM _ _ _ _ yX) (pc o1 pn)))) ?_
   obtain rfl:=cT h
   exact cZ hE 0 Tryz.f99 [] (kp [4]) [(16,.ah 32)] 432 pn [16] (pc o1 pn)
  ·obtain ⟨vI,Gh,h⟩:=aP h
   obtain ⟨Uu,Gg,h⟩:=aP h
   refine ae hE 2 [(4,oT (eU vI)),(5,oT (.agg (lg Uu)))] [] (kp [4]) (kq [32]) 432 (pc o1 (pc (A1 _ _ _ _ Gh) (pc (jM _ _ _ _ Gg) (pc o1 pn)))) ?_
   obtain rfl:=cT h
   exact cZ hE 0 Tryz.f99 [] (kp [4]) [(16,.ah 32)] 432 pn [16] (pc o1 pn)
noncomputable abbrev Zb:=b8 Tryz.f59
theorem me (N x y r) (h:kZ N x y=some r):Sd 59 [(.agg (ak x)),(.agg (ak y))] [] 0 (.agg (ak r)) []:=by
 unfold kZ at h
 refine g8 (fu:=Tryz.f59) (c:=Zb 1) (nt:=32) (fun hm=>rfl) ?_
 intro E hE
 refine ae hE 1 [] [] (kp [2,3,4]) (kq [0,16,32]) 48 pn ?_
 obtain ⟨fT,hr,h⟩:=aP h
 refine ae hE 2 [(1,oT (aB fT))] [] (kp [2,3,4,8]) (kq [0,16,32]) 80 (pc o1 (pc (iT _ _ _ hr) pn)) ?_
 refine dr 0 8 h (fun ee h=>?_) (fun ee h=>?_)
 ·obtain ⟨vH,eI,h⟩:=aP h
  refine ae hE 1 [(1,oT (.agg (ak vH)))] [] (kp [4]) (kq [32]) 128 (pc o1 (pc (ql _ _ _ eI) (pc o1 pn))) ?_
  obtain rfl:=cT h
  exact cZ hE 0 Tryz.f59 [] (kp [4]) [(16,.ah 32)] 128 pn [16] (pc o1 pn)
 ·obtain ⟨sy,kc,h⟩:=aP h
  refine ae hE 3 [(1,oT (aB sy))] [] (kp [2,3,4,12]) (kq [0,16,32]) 112 (pc o1 (pc (iT _ _ _ kc) pn)) ?_
  refine dr 0 12 h (fun jq h=>?_) (fun jq h=>?_)
  ·obtain ⟨eD,nw,h⟩:=aP h
   refine ae hE 1 [(1,oT (.agg (ak eD)))] [] (kp [4]) (kq [32]) 160 (pc o1 (pc (ql _ _ _ nw) (pc o1 pn))) ?_
   obtain rfl:=cT h
   exact cZ hE 0 Tryz.f59 [] (kp [4]) [(16,.ah 32)] 160 pn [16] (pc o1 pn)
  ·obtain ⟨jw,rN,h⟩:=aP h
   obtain ⟨oj,xK,h⟩:=aP h
   refine ae hE 2 [(1,oT (.agg (lg jw))),(3,oT (.agg (lg oj)))] [] (kp [2,3,4,5,6]) (kq [0,16,32,176,192]) 240 (pc o1 (pc (jB _ _ _ rN) (pc o1 (pc (jB _ _ _ xK) (pc o1 (pc o1 pn)))))) ?_
   obtain ⟨sB,yX,h⟩:=aP h
   obtain ⟨mU,Gh,h⟩:=aP h
   obtain ⟨KZ,Gg,h⟩:=aP h
   obtain ⟨EV,zY,h⟩:=aP h
   obtain ⟨Bx,Cc,h⟩:=aP h
   refine ae hE 1 [(3,oT (.agg (lg sB))),(7,oT (.agg (lg mU))),(8,oT (.agg (lg KZ))),(11,oT (.agg (lg EV))),(12,oT (.agg (ak Bx)))] [] (kp [4]) (kq [32]) 464 (pc o1 (pc o1 (pc (oD _ _ _ _ yX) (pc o1 (pc o1 (pc (oD _ _ _ _ Gh) (pc (K7 _ _ _ _ Gg) (pc o1 (pc o1 (pc (oD _ _ _ _ zY) (pc (jr _ _ _ _ Cc) (pc o1 pn)))))))))))) ?_
   obtain rfl:=cT h
   exact cZ hE 0 Tryz.f59 [] (kp [4]) [(16,.ah 32)] 464 pn [16] (pc o1 pn)
noncomputable abbrev Zc:=b8 Tryz.f49
theorem eY (N x y r) (h:eN N x y=some r):Sd 49 [(.agg (ak x)),(.agg (ak y))] [] 0 (.agg (ak r)) []:=by
 unfold eN at h
 refine g8 (fu:=Tryz.f49) (c:=Zc 1) (nt:=9) (fun hm=>rfl) ?_
 intro E hE
 refine ae hE 1 [] [] (kp [2,3,4]) (kq [0,16,32]) 48 pn ?_
 obtain ⟨aV,hr,h⟩:=aP h
 obtain ⟨bE,eI,h⟩:=aP h
 refine ae hE 1 [(2,oT (.agg (ak aV))),(3,oT (.agg (ak bE)))] [] (kp [4]) (kq [32]) 128 (pc o1 (pc o1 (pc (kx _ _ _ hr) (pc (me _ _ _ _ eI) (pc o1 pn))))) ?_
 obtain rfl:=cT h
 exact cZ hE 0 Tryz.f49 [] (kp [4]) [(16,.ah 32)] 128 pn [16] (pc o1 pn)
noncomputable abbrev Zd:=b8 Tryz.f58
theorem zw (N x y r) (h:oC N x y=some r):Sd 58 [(.agg (ak x)),(.agg (ak y))] [] 0 (aI r) []:=by
 unfold oC at h
 refine g8 (fu:=Tryz.f58) (c:=Zd 1) (nt:=9) (fun hm=>rfl) ?_
 intro E hE
 refine ae hE 1 [] [] (kp [2,3]) (kq [0,16]) 48 pn ?_
 obtain ⟨au,hr,h⟩:=aP h
 obtain ⟨aJ,eI,h⟩:=aP h
 refine ae hE 1 [(2,oT (.agg (ak au))),(3,oT (aI aJ))] [] (kp [4]) [] 128 (pc o1 (pc o1 (pc (eY _ _ _ _ hr) (pc (qm _ _ _ eI) pn)))) ?_
 obtain rfl:=cT h
 exact cZ hE 0 Tryz.f58 [] (kp [4]) [] 128 pn [] pn
noncomputable abbrev Ze:=b8 Tryz.f106
theorem tA (N x y r) (h:qB N x y=some r):Sd 106 [(.agg (ak x)),(.agg (ak y))] [] 0 (.agg (ak r)) []:=by
 unfold qB at h
 refine g8 (fu:=Tryz.f106) (c:=Ze 1) (nt:=16) (fun hm=>rfl) ?_
 intro E hE
 refine ae hE 1 [] [] (kp [2,3,4]) (kq [0,16,32]) 48 pn ?_
 obtain ⟨jw,hr,h⟩:=aP h
 obtain ⟨sB,eI,h⟩:=aP h
 obtain ⟨oj,kc,h⟩:=aP h
 obtain ⟨mU,nw,h⟩:=aP h
 obtain ⟨Bx,rN,h⟩:=aP h
 refine ae hE 1 [(3,oT (.agg (lg jw))),(4,oT (.agg (lg sB))),(6,oT (.agg (lg oj))),(9,oT (.agg (lg mU))),(10,oT (.agg (ak Bx)))] [] (kp [4]) (kq [32]) 240 (pc o1 (pc o1 (pc (jB _ _ _ hr) (pc (oD _ _ _ _ eI) (pc o1 (pc (jB _ _ _ kc) (pc o1 (pc (oD _ _ _ _ nw) (pc (jr _ _ _ _ rN) (pc o1 pn)))))))))) ?_
 obtain rfl:=cT h
 exact cZ hE 0 Tryz.f106 [] (kp [4]) [(16,.ah 32)] 240 pn [16] (pc o1 pn)
noncomputable abbrev Zf:=b8 Tryz.f60
theorem fO (N x y r) (h:gh N x y=some r):Sd 60 [(.agg (ak x)),(.agg (ak y))] [] 0 (.agg (ak r)) []:=by
 unfold gh at h
 refine g8 (fu:=Tryz.f60) (c:=Zf 1) (nt:=16) (fun hm=>rfl) ?_
 intro E hE
 refine ae hE 1 [] [] (kp [2,3,4]) (kq [0,16,32]) 48 pn ?_
 obtain ⟨sB,hr,h⟩:=aP h
 obtain ⟨jw,eI,h⟩:=aP h
 obtain ⟨oj,kc,h⟩:=aP h
 obtain ⟨mU,nw,h⟩:=aP h
 obtain ⟨Bx,rN,h⟩:=aP h
 refine ae hE 1 [(4,oT (.agg (lg sB))),(6,oT (.agg (lg jw))),(8,oT (.agg (lg oj))),(9,oT (.agg (lg mU))),(10,oT (.agg (ak Bx)))] [] (kp [4]) (kq [32]) 240 (pc o1 (pc o1 (pc (oD _ _ _ _ hr) (pc o1 (pc (jB _ _ _ eI) (pc o1 (pc (jB _ _ _ kc) (pc (oD _ _ _ _ nw) (pc (jr _ _ _ _ rN) (pc o1 pn)))))))))) ?_
 obtain rfl:=cT h
 exact cZ hE 0 Tryz.f60 [] (kp [4]) [(16,.ah 32)] 240 pn [16] (pc o1 pn)
noncomputable abbrev PM:=b8 Tryz.f107
def qI (N:Nat) (j:Int) (f:aa) (C0:List aa) (K:(List aa)→Int→Option ((List aa))):Prop:=∀ (bq:List aa) (x:Int) (r:(List aa)),K bq x=some r→∀ E,bh E 1→aE Tryz.prog E 107 49 (aW E [(0,aO 4 ak aa.d r)] (.tup [])) [.code (PM 28),.inLoop (PM 28),.inBlock 0] ⟨[(1,(.os 0 0 bq.length)),(2,(.os 0 0 bq.length)),(3,(aI j)),(9,(.op 1 0 0)),(12,(aI ((C0.length:Nat):Int))),(13,(aI x))],[(0,aO 4 ak aa.d bq),(1,vO 4 (ak f))],2⟩
def xP (N:Nat) (j:Int) (f:aa) (C0:List aa) (x:Int) (K:(List aa)→Option ((List aa))):Prop:=∀ (b7:List aa) (r:(List aa)),K b7=some r→∀ E,bh E 1→aE Tryz.prog E 107 49 (aW E [(0,aO 4 ak aa.d r)] (.tup [])) [.code (PM 231),.inLoop (PM 28),.inBlock 0] ⟨[(1,(.os 0 0 b7.length)),(2,(.os 0 0 b7.length)),(3,(aI j)),(9,(.op 1 0 0)),(12,(aI ((C0.length:Nat):Int))),(13,(aI x))],[(0,aO 4 ak aa.d b7),(1,vO 4 (ak f))],2⟩
theorem mh (N:Nat) (j:Int) (f:aa) (C0:List aa) (x:Int) (kN:(List aa)→Int→Option ((List aa))) (wT:qI N j f C0 kN):xP N j f C0 x (jZ N j f C0 x kN):=by
 intro b7 r h E hE
 unfold jZ at h
 refine ae hE 0 [] [] (kp [1,2,3,9,12,13]) (kq [0,1]) 34 pn ?_
 exact cP hE 1 [] (kp [1,2,3,9,12,13]) (kq [0,1]) 2 pn (wT _ _ _ h E hE)
theorem wU (N j f C0 fuel):qI N j f C0 (gi N j f C0 fuel):=by
 induction fuel with
 | zero=>intro _ _ r h;rw [gi.eq_1] at h;cases h
 | succ fuel ih =>
  intro bq x r h E hE
  rw [gi.eq_2] at h
  refine ae hE 1 [] [] (kp [1,2,3,9,12,13,14]) (kq [0,1]) 18 pn ?_
  refine dr 1 14 h (fun ee h=>?_) (fun ee h=>?_)
  ·refine ae hE 4 [] [] (kp [1,2,3,9,10,12,13]) (kq [0,1]) 50 pn ?_
   refine ae hE 1 [] [] (kp [1,2,3,9,10,12,13,18]) (kq [0,1]) 98 pn ?_
   refine dr 0 18 h (fun jq h=>?_) (fun jq h=>?_)
   ·obtain ⟨c,h⟩:=ab h
    obtain ⟨ct,hr,h⟩:=aP h
    refine ae hE 0 [(7,oT (.agg (ak ct)))] [] ([(1,.kD ((bq.set ((x).toNat) ct).length)),(2,.kD ((bq.set ((x).toNat) ct).length))] ++ kp [3,9,12,13]) ([(0,.arr 0 ((bq.set ((x).toNat) ct).length) (fun zi=>ak ((bq.set ((x).toNat) ct).getD zi aa.d)))] ++ kq [1]) 258 (pc o1 (pc c (pc (dR c) (pc (fO _ _ _ _ hr) (pc c (pc (dR c) (pc (aD bq ((x).toNat) ct) (pc (aD bq ((x).toNat) ct) (pc (aD bq ((x).toNat) ct) (pc (cH ak aa.d bq ((x).toNat) ct) pn)))))))))) ?_
    exact cP hE 1 [] (kp [1,2,3,9,12,13]) (kq [0,1]) 2 pn (mh N _ _ _ _ _ ih _ _ h E hE)
   ·obtain ⟨c2,h⟩:=ab h
    obtain ⟨fT,eI,h⟩:=aP h
    refine ae hE 1 [(4,oT (aB fT))] [] (kp [1,2,3,9,10,12,13,33]) (kq [0,1]) 194 (pc c2 (pc (dR c2) (pc (iT _ _ _ eI) pn))) ?_
    refine dr 0 33 h (fun ti h=>?_) (fun ti h=>?_)
    ·obtain ⟨du,kc,h⟩:=aP h
     obtain ⟨bE,nw,h⟩:=aP h
     refine ae hE 0 [(11,oT (.agg (ak du))),(12,oT (.agg (ak bE)))] [] ([(1,.kD ((bq.set ((x).toNat) bE).length)),(2,.kD ((bq.set ((x).toNat) bE).length))] ++ kp [3,9,12,13]) ([(0,.arr 0 ((bq.set ((x).toNat) bE).length) (fun zi=>ak ((bq.set ((x).toNat) bE).getD zi aa.d)))] ++ kq [1]) 434 (pc c2 (pc (dR c2) (pc o1 (pc c2 (pc (dR c2) (pc (fO _ _ _ _ kc) (pc (me _ _ _ _ nw) (pc c2 (pc (dR c2) (pc (aD bq ((x).toNat) bE) (pc (aD bq ((x).toNat) bE) (pc (aD bq ((x).toNat) bE) (pc (cH ak aa.d bq ((x).toNat) bE) pn))))))))))))) ?_
     exact cP hE 1 [] (kp [1,2,3,9,12,13]) (kq [0,1]) 2 pn (mh N _ _ _ _ _ ih _ _ h E hE)
    ·exact cP hE 2 [] (kp [1,2,3,9,12,13]) (kq [0,1]) 2 pn (mh N _ _ _ _ _ ih _ _ h E hE)
  ·obtain rfl:=cT h
   exact YL hE 1 Tryz.f107 [] [] (kq [0]) 49 pn [] pn
theorem zZ (N j f C0 r) (h:qW N j f C0=some r):Sd 107 [.mn,(.os 0 0 C0.length),(.os 0 0 C0.length),(aI j),(.agg (ak f))] [(0,aO 4 ak aa.d C0)] 1 (.tup []) [(0,aO 4 ak aa.d r)]:=by
 unfold qW at h
 refine g8 (fu:=Tryz.f107) (c:=PM 1) (nt:=49) (fun hm=>absurd hm (by decide)) ?_
 intro E hE
 refine ae hE 1 [] [] (kp [1,2,3,9]) (kq [0,1]) 17 pn ?_
 refine ae hE 1 [] [] (kp [1,2,3,9,12,13]) (kq [0,1]) 65 pn ?_
 exact cP hE 2 [] (kp [1,2,3,9,12,13]) (kq [0,1]) 2 pn (wU N _ _ _ N _ _ _ h E hE)
noncomputable abbrev PN:=b8 Tryz.f107
def oQ (N:Nat) (j:Int) (f:aa) (C0:List aa) (C1:List aa) (K:(List aa)→Int→Option ((List aa))):Prop:=∀ (bq:List aa) (x:Int) (r:(List aa)),K bq x=some r→∀ E,bh E 2→aE Tryz.prog E 107 49 (aW E [(0,aO 4 ak aa.d r),(1,aO 4 ak aa.d C1)] (.tup [])) [.code (PN 28),.inLoop (PN 28),.inBlock 0] ⟨[(1,(.os 0 0 bq.length)),(2,(.os 1 0 C1.length)),(3,(aI j)),(9,(.op 2 0 0)),(12,(aI ((C0.length:Nat):Int))),(13,(aI x))],[(0,aO 4 ak aa.d bq),(1,aO 4 ak aa.d C1),(2,vO 4 (ak f))],3⟩
def uL (N:Nat) (j:Int) (f:aa) (C0:List aa) (C1:List aa) (x:Int) (K:(List aa)→Option ((List aa))):Prop:=∀ (b7:List aa) (r:(List aa)),K b7=some r→∀ E,bh E 2→aE Tryz.prog E 107 49 (aW E [(0,aO 4 ak aa.d r),(1,aO 4 ak aa.d C1)] (.tup [])) [.code (PN 231),.inLoop (PN 28),.inBlock 0] ⟨[(1,(.os 0 0 b7.length)),(2,(.os 1 0 C1.length)),(3,(aI j)),(9,(.op 2 0 0)),(12,(aI ((C0.length:Nat):Int))),(13,(aI x))],[(0,aO 4 ak aa.d b7),(1,aO 4 ak aa.d C1),(2,vO 4 (ak f))],3⟩
theorem k5 (N:Nat) (j:Int) (f:aa) (C0:List aa) (C1:List aa) (x:Int) (jg:(List aa)→Int→Option ((List aa))) (tY:oQ N j f C0 C1 jg):uL N j f C0 C1 x (fB N j f C0 C1 x jg):=by
 intro b7 r h E hE
 unfold fB at h
 refine ae hE 0 [] [] (kp [1,2,3,9,12,13]) (kq [0,1,2]) 35 pn ?_
 exact cP hE 1 [] (kp [1,2,3,9,12,13]) (kq [0,1,2]) 3 pn (tY _ _ _ h E hE)
theorem tZ (N j f C0 C1 fuel):oQ N j f C0 C1 (cE N j f C0 C1 fuel):=by
 induction fuel with
 | zero=>intro _ _ r h;rw [cE.eq_1] at h;cases h
 | succ fuel ih =>
  intro bq x r h E hE
  rw [cE.eq_2] at h
  refine ae hE 1 [] [] (kp [1,2,3,9,12,13,14]) (kq [0,1,2]) 19 pn ?_
  refine dr 1 14 h (fun ee h=>?_) (fun ee h=>?_)
  ·refine ae hE 4 [] [] (kp [1,2,3,9,10,12,13]) (kq [0,1,2]) 51 pn ?_
   refine ae hE 1 [] [] (kp [1,2,3,9,10,12,13,18]) (kq [0,1,2]) 99 pn ?_
   refine dr 0 18 h (fun jq h=>?_) (fun jq h=>?_)
   ·obtain ⟨c,h⟩:=ab h
    obtain ⟨ct,hr,h⟩:=aP h
    obtain ⟨c2,h⟩:=ab h
    refine ae hE 0 [(7,oT (.agg (ak ct)))] [] ([(1,.kD ((bq.set ((x).toNat) ct).length))] ++ kp [2,3,9,12,13]) ([(0,.arr 0 ((bq.set ((x).toNat) ct).length) (fun zi=>ak ((bq.set ((x).toNat) ct).getD zi aa.d)))] ++ kq [1,2]) 259 (pc o1 (pc c (pc (dR c) (pc (fO _ _ _ _ hr) (pc c2 (pc (dR c2) (pc (aD bq ((x).toNat) ct) (pc (aD bq ((x).toNat) ct) (pc (cH ak aa.d bq ((x).toNat) ct) pn))))))))) ?_
    exact cP hE 1 [] (kp [1,2,3,9,12,13]) (kq [0,1,2]) 3 pn (k5 N _ _ _ _ _ _ ih _ _ h E hE)
   ·obtain ⟨c3,h⟩:=ab h
    obtain ⟨fT,eI,h⟩:=aP h
    refine ae hE 1 [(4,oT (aB fT))] [] (kp [1,2,3,9,10,12,13,33]) (kq [0,1,2]) 195 (pc c3 (pc (dR c3) (pc (iT _ _ _ eI) pn))) ?_
    refine dr 0 33 h (fun ti h=>?_) (fun ti h=>?_)
    ·obtain ⟨c4,h⟩:=ab h
     obtain ⟨du,kc,h⟩:=aP h
     obtain ⟨bE,nw,h⟩:=aP h
     refine ae hE 0 [(11,oT (.agg (ak du))),(12,oT (.agg (ak bE)))] [] ([(1,.kD ((bq.set ((x).toNat) bE).length))] ++ kp [2,3,9,12,13]) ([(0,.arr 0 ((bq.set ((x).toNat) bE).length) (fun zi=>ak ((bq.set ((x).toNat) bE).getD zi aa.d)))] ++ kq [1,2]) 435 (pc c4 (pc (dR c4) (pc o1 (pc c3 (pc (dR c3) (pc (fO _ _ _ _ kc) (pc (me _ _ _ _ nw) (pc c4 (pc (dR c4) (pc (aD bq ((x).toNat) bE) (pc (aD bq ((x).toNat) bE) (pc (cH ak aa.d bq ((x).toNat) bE) pn)))))))))))) ?_
     exact cP hE 1 [] (kp [1,2,3,9,12,13]) (kq [0,1,2]) 3 pn (k5 N _ _ _ _ _ _ ih _ _ h E hE)
    ·exact cP hE 2 [] (kp [1,2,3,9,12,13]) (kq [0,1,2]) 3 pn (k5 N _ _ _ _ _ _ ih _ _ h E hE)
  ·obtain rfl:=cT h
   exact YL hE 1 Tryz.f107 [] [] (kq [0,1]) 50 pn [] pn
theorem mi (N j f C0 C1 r) (h:iA N j f C0 C1=some r):Sd 107 [.mn,(.os 0 0 C0.length),(.os 1 0 C1.length),(aI j),(.agg (ak f))] [(0,aO 4 ak aa.d C0),(1,aO 4 ak aa.d C1)] 2 (.tup []) [(0,aO 4 ak aa.d r),(1,aO 4 ak aa.d C1)]:=by
 unfold iA at h
 refine g8 (fu:=Tryz.f107) (c:=PN 1) (nt:=49) (fun hm=>absurd hm (by decide)) ?_
 intro E hE
 refine ae hE 1 [] [] (kp [1,2,3,9]) (kq [0,1,2]) 18 pn ?_
 refine ae hE 1 [] [] (kp [1,2,3,9,12,13]) (kq [0,1,2]) 66 pn ?_
 exact cP hE 2 [] (kp [1,2,3,9,12,13]) (kq [0,1,2]) 3 pn (tZ N _ _ _ _ N _ _ _ h E hE)
noncomputable abbrev A2:=b8 Tryz.f72
def pK (N:Nat) (i:Int) (j:Int) (C0:Int) (bq:Int) (b7:Bool) (df:List Int) (dk:Bool) (dm:List Int) (dd:Int) (C1:List Int) (C2:List Int) (C3:List (List aa)) (C4:List aa) (C5:List aa) (K:(List aa)→Int→Option (ly×(List Int)×(List Int)×(List (List aa))×(List aa)×(List aa))):Prop:=∀ (sD:List aa) (x:Int) (r:ly×(List Int)×(List Int)×(List (List aa))×(List aa)×(List aa)),K sD x=some r→∀ E,bh E 6→aE Tryz.prog E 72 194 (aW E [(0,vN 12 [(aI r.1.wN),(aI r.1.wO),(.os 1 0 r.2.1.length),(.os 2 0 r.2.2.1.length),(.os 3 0 r.2.2.2.1.length),(.os 4 0 r.2.2.2.2.1.length),(.os 5 0 r.2.2.2.2.2.length),(aB r.1.aj.fN.fG),(eU r.1.aj.fN.fL),(aB r.1.aj.fD.fG),(eU r.1.aj.fD.fL),(aI r.1.cg)]),(1,aO 1 cI 0 r.2.1),(2,aO 1 cI 0 r.2.2.1),(3,aM 4 ak aa.d r.2.2.2.1),(4,aO 4 ak aa.d r.2.2.2.2.1),(5,aO 4 ak aa.d r.2.2.2.2.2)] (.tup [])) [.code (A2 116),.inLoop (A2 116),.inBlock 0,.code (A2 15)] ⟨[(0,(.op 0 0 0)),(1,(aI i)),(2,(aI j)),(6,(.op 7 0 0)),(7,(.os 6 0 sD.length)),(30,(aI (((C3.getD ((i).toNat) []).length:Nat):Int))),(31,(aI x))],[(0,vN 12 [(aI C0),(aI bq),(.os 1 0 C1.length),(.os 2 0 C2.length),(.os 3 0 C3.length),(.os 4 0 C4.length),(.os 5 0 C5.length),(aB b7),(eU df),(aB dk),(eU dm),(aI dd)]),(1,aO 1 cI 0 C1),(2,aO 1 cI 0 C2),(3,⟨false,1,C3.length,false,aQ [((i).toNat,6,sD.length)] (mG C3)⟩),(4,aO 4 ak aa.d C4),(5,aO 4 ak aa.d C5),(6,aO 4 ak aa.d sD),(7,vO 4 [(aB ((((C3.getD ((i).toNat) []).getD ((j).toNat) aa.d).fN).fG)),(eU ((((C3.getD ((i).toNat) []).getD ((j).toNat) aa.d).fN).fL)),(aB ((((C3.getD ((i).toNat) []).getD ((j).toNat) aa.d).fD).fG)),(eU ((((C3.getD ((i).toNat) []).getD ((j).toNat) aa.d).fD).fL))])],8⟩
def vP (N:Nat) (i:Int) (j:Int) (C0:Int) (bq:Int) (b7:Bool) (df:List Int) (dk:Bool) (dm:List Int) (dd:Int) (C1:List Int) (C2:List Int) (C3:List (List aa)) (C4:List aa) (C5:List aa) (x:Int) (K:(List aa)→Option (ly×(List Int)×(List Int)×(List (List aa))×(List aa)×(List aa))):Prop:=∀ (EW:List aa) (r:ly×(List Int)×(List Int)×(List (List aa))×(List aa)×(List aa)),K EW=some r→∀ E,bh E 6→aE Tryz.prog E 72 194 (aW E [(0,vN 12 [(aI r.1.wN),(aI r.1.wO),(.os 1 0 r.2.1.length),(.os 2 0 r.2.2.1.length),(.os 3 0 r.2.2.2.1.length),(.os 4 0 r.2.2.2.2.1.length),(.os 5 0 r.2.2.2.2.2.length),(aB r.1.aj.fN.fG),(eU r.1.aj.fN.fL),(aB r.1.aj.fD.fG),(eU r.1.aj.fD.fL),(aI r.1.cg)]),(1,aO 1 cI 0 r.2.1),(2,aO 1 cI 0 r.2.2.1),(3,aM 4 ak aa.d r.2.2.2.1),(4,aO 4 ak aa.d r.2.2.2.2.1),(5,aO 4 ak aa.d r.2.2.2.2.2)] (.tup [])) [.code (A2 935),.inLoop (A2 116),.inBlock 0,.code (A2 15)] ⟨[(0,(.op 0 0 0)),(1,(aI i)),(2,(aI j)),(6,(.op 7 0 0)),(7,(.os 6 0 EW.length)),(30,(aI (((C3.getD ((i).toNat) []).length:Nat):Int))),(31,(aI x))],[(0,vN 12 [(aI C0),(aI bq),(.os 1 0 C1.length),(.os 2 0 C2.length),(.os 3 0 C3.length),(.os 4 0 C4.length),(.os 5 0 C5.length),(aB b7),(eU df),(aB dk),(eU dm),(aI dd)]),(1,aO 1 cI 0 C1),(2,aO 1 cI 0 C2),(3,⟨false,1,C3.length,false,aQ [((i).toNat,6,EW.length)] (mG C3)⟩),(4,aO 4 ak aa.d C4),(5,aO 4 ak aa.d C5),(6,aO 4 ak aa.d EW),(7,vO 4 [(aB ((((C3.getD ((i).toNat) []).getD ((j).toNat) aa.d).fN).fG)),(eU ((((C3.getD ((i).toNat) []).getD ((j).toNat) aa.d).fN).fL)),(aB ((((C3.getD ((i).toNat) []).getD ((j).toNat) aa.d).fD).fG)),(eU ((((C3.getD ((i).toNat) []).getD ((j).toNat) aa.d).fD).fL))])],8⟩
theorem oS (N:Nat) (i:Int) (j:Int) (C0:Int) (bq:Int) (b7:Bool) (df:List Int) (dk:Bool) (dm:List Int) (dd:Int) (C1:List Int) (C2:List Int) (C3:List (List aa)) (C4:List aa) (C5:List aa) (x:Int) (jy:(List aa)→Int→Option (ly×(List Int)×(List Int)×(List (List aa))×(List aa)×(List aa))) (uM:pK N i j C0 bq b7 df dk dm dd C1 C2 C3 C4 C5 jy):vP N i j C0 bq b7 df dk dm dd C1 C2 C3 C4 C5 x (iX N i j C0 bq b7 df dk dm dd C1 C2 C3 C4 C5 x jy):=by
 intro EW r h E hE
 unfold iX at h
 refine ae hE 0 [] [] (kp [0,1,2,6,7,30,31]) (kq [0,1,2] ++ [(3,.pT 3 (C3.length) [((i).toNat,6,EW.length)] (mG C3))] ++ kq [4,5,6,7]) 40 (pc (Eq.refl C3.length) (pc (mC C3 [((i).toNat,6,EW.length)]) (pc (iM C3) pn))) ?_
 exact cP hE 1 [] (kp [0,1,2,6,7,30,31]) (kq [0,1,2] ++ [(3,.pT 3 (C3.length) [((i).toNat,6,EW.length)] (mG C3))] ++ kq [4,5,6,7]) 8 (pc (Eq.refl C3.length) (pc (mC C3 [((i).toNat,6,EW.length)]) (pc (iM C3) pn))) (uM _ _ _ h E hE)
def pL (N:Nat) (i:Int) (j:Int) (C0:Int) (bq:Int) (b7:Bool) (df:List Int) (dk:Bool) (dm:List Int) (dd:Int) (C1:List Int) (C2:List Int) (C3:List (List aa)) (C5:List aa) (K:(List (List aa))→(List aa)→(List aa)→Int→Option (ly×(List Int)×(List Int)×(List (List aa))×(List aa)×(List aa))):Prop:=∀ (bV:List (List aa)) (bN:List aa) (nQ:List aa) (x2:Int) (r:ly×(List Int)×(List Int)×(List (List aa))×(List aa)×(List aa)),K bV bN nQ x2=some r→∀ E,bh E 6→aE Tryz.prog E 72 194 (aW E [(0,vN 12 [(aI r.1.wN),(aI r.1.wO),(.os 1 0 r.2.1.length),(.os 2 0 r.2.2.1.length),(.os 3 0 r.2.2.2.1.length),(.os 4 0 r.2.2.2.2.1.length),(.os 5 0 r.2.2.2.2.2.length),(aB r.1.aj.fN.fG),(eU r.1.aj.fN.fL),(aB r.1.aj.fD.fG),(eU r.1.aj.fD.fL),(aI r.1.cg)]),(1,aO 1 cI 0 r.2.1),(2,aO 1 cI 0 r.2.2.1),(3,aM 4 ak aa.d r.2.2.2.1),(4,aO 4 ak aa.d r.2.2.2.2.1),(5,aO 4 ak aa.d r.2.2.2.2.2)] (.tup [])) [.code (A2 1012),.inLoop (A2 1012),.inBlock 2,.code (A2 127)] ⟨[(0,(.op 0 0 0)),(1,(aI i)),(2,(aI j)),(7,(.os 6 0 bN.length)),(74,(aI ((C3.length:Nat):Int))),(75,(aI x2))],[(0,vN 12 [(aI C0),(aI bq),(.os 1 0 C1.length),(.os 2 0 C2.length),(.os 3 0 bV.length),(.os 4 0 nQ.length),(.os 5 0 C5.length),(aB b7),(eU df),(aB dk),(eU dm),(aI dd)]),(1,aO 1 cI 0 C1),(2,aO 1 cI 0 C2),(3,⟨false,1,bV.length,false,aQ [((i).toNat,6,bN.length)] (mG bV)⟩),(4,aO 4 ak aa.d nQ),(5,aO 4 ak aa.d C5),(6,aO 4 ak aa.d bN)],7⟩
def vQ (N:Nat) (i:Int) (j:Int) (C0:Int) (bq:Int) (b7:Bool) (df:List Int) (dk:Bool) (dm:List Int) (dd:Int) (C1:List Int) (C2:List Int) (C3:List (List aa)) (C5:List aa) (x2:Int) (K:(List (List aa))→(List aa)→(List aa)→Option (ly×(List Int)×(List Int)×(List (List aa))×(List aa)×(List aa))):Prop:=∀ (lf:List (List aa)) (EX:List aa) (po:List aa) (r:ly×(List Int)×(List Int)×(List (List aa))×(List aa)×(List aa)),K lf EX po=some r→∀ E,bh E 6→aE Tryz.prog E 72 194 (aW E [(0,vN 12 [(aI r.1.wN),(aI r.1.wO),(.os 1 0 r.2.1.length),(.os 2 0 r.2.2.1.length),(.os 3 0 r.2.2.2.1.length),(.os 4 0 r.2.2.2.2.1.length),(.os 5 0 r.2.2.2.2.2.length),(aB r.1.aj.fN.fG),(eU r.1.aj.fN.fL),(aB r.1.aj.fD.fG),(eU r.1.aj.fD.fL),(aI r.1.cg)]),(1,aO 1 cI 0 r.2.1),(2,aO 1 cI 0 r.2.2.1),(3,aM 4 ak aa.d r.2.2.2.1),(4,aO 4 ak aa.d r.2.2.2.2.1),(5,aO 4 ak aa.d r.2.2.2.2.2)] (.tup [])) [.code (A2 8103),.inLoop (A2 1012),.inBlock 2,.code (A2 127)] ⟨[(0,(.op 0 0 0)),(1,(aI i)),(2,(aI j)),(7,(.os 6 0 EX.length)),(74,(aI ((C3.length:Nat):Int))),(75,(aI x2))],[(0,vN 12 [(aI C0),(aI bq),(.os 1 0 C1.length),(.os 2 0 C2.length),(.os 3 0 lf.length),(.os 4 0 po.length),(.os 5 0 C5.length),(aB b7),(eU df),(aB dk),(eU dm),(aI dd)]),(1,aO 1 cI 0 C1),(2,aO 1 cI 0 C2),(3,⟨false,1,lf.length,false,aQ [((i).toNat,6,EX.length)] (mG lf)⟩),(4,aO 4 ak aa.d po),(5,aO 4 ak aa.d C5),(6,aO 4 ak aa.d EX)],7⟩
theorem gz (N:Nat) (i:Int) (j:Int) (C0:Int) (bq:Int) (b7:Bool) (df:List Int) (dk:Bool) (dm:List Int) (dd:Int) (C1:List Int) (C2:List Int) (C3:List (List aa)) (C5:List aa) (x2:Int) (jz:(List (List aa))→(List aa)→(List aa)→Int→Option (ly×(List Int)×(List Int)×(List (List aa))×(List aa)×(List aa))) (uN:pL N i j C0 bq b7 df dk dm dd C1 C2 C3 C5 jz):vQ N i j C0 bq b7 df dk dm dd C1 C2 C3 C5 x2 (dw N i j C0 bq b7 df dk dm dd C1 C2 C3 C5 x2 jz):=by
 intro lf EX po r h E hE
 unfold dw at h
 refine ae hE 0 [] [] (kp [0,1,2,7,74,75]) (kq [0,1,2] ++ [(3,.pT 3 (lf.length) [((i).toNat,6,EX.length)] (mG lf))] ++ kq [4,5,6]) 39 (pc (Eq.refl lf.length) (pc (mC lf [((i).toNat,6,EX.length)]) (pc (iM lf) pn))) ?_
 exact cP hE 1 [] (kp [0,1,2,7,74,75]) (kq [0,1,2] ++ [(3,.pT 3 (lf.length) [((i).toNat,6,EX.length)] (mG lf))] ++ kq [4,5,6]) 7 (pc (Eq.refl lf.length) (pc (mC lf [((i).toNat,6,EX.length)]) (pc (iM lf) pn))) (uN _ _ _ _ _ h E hE)
def vR (N:Nat) (i:Int) (j:Int) (C0:Int) (bq:Int) (dd:Int) (C1:List Int) (C2:List Int) (bV:List (List aa)) (bN:List aa) (nQ:List aa) (K:(List aa)→Bool→(List Int)→Bool→(List Int)→Option (ly×(List Int)×(List Int)×(List (List aa))×(List aa)×(List aa))):Prop:=∀ (gp:List aa) (pU:Bool) (pV:List Int) (td:Bool) (tf:List Int) (r:ly×(List Int)×(List Int)×(List (List aa))×(List aa)×(List aa)),K gp pU pV td tf=some r→∀ E,bh E 6→aE Tryz.prog E 72 194 (aW E [(0,vN 12 [(aI r.1.wN),(aI r.1.wO),(.os 1 0 r.2.1.length),(.os 2 0 r.2.2.1.length),(.os 3 0 r.2.2.2.1.length),(.os 4 0 r.2.2.2.2.1.length),(.os 5 0 r.2.2.2.2.2.length),(aB r.1.aj.fN.fG),(eU r.1.aj.fN.fL),(aB r.1.aj.fD.fG),(eU r.1.aj.fD.fL),(aI r.1.cg)]),(1,aO 1 cI 0 r.2.1),(2,aO 1 cI 0 r.2.2.1),(3,aM 4 ak aa.d r.2.2.2.1),(4,aO 4 ak aa.d r.2.2.2.2.1),(5,aO 4 ak aa.d r.2.2.2.2.2)] (.tup [])) [.code (A2 255)] ⟨[(0,(.op 0 0 0)),(1,(aI i)),(2,(aI j))],[(0,vN 12 [(aI C0),(aI bq),(.os 1 0 C1.length),(.os 2 0 C2.length),(.os 3 0 ((bV.set ((i).toNat) bN).length)),(.os 4 0 nQ.length),(.os 5 0 gp.length),(aB pU),(eU pV),(aB td),(eU tf),(aI dd)]),(1,aO 1 cI 0 C1),(2,aO 1 cI 0 C2),(3,aM 4 ak aa.d (bV.set ((i).toNat) bN)),(4,aO 4 ak aa.d nQ),(5,aO 4 ak aa.d gp)],6⟩
theorem oU (N i j C0 bq dd C1 C2 bV bN nQ):vR N i j C0 bq dd C1 C2 bV bN nQ (gn N i j C0 bq dd C1 C2 bV bN nQ):=by
 intro gp pU pV td tf r h E hE
 unfold gn at h
 obtain ⟨UD,h⟩:=ab h
 obtain ⟨XB,h⟩:=ab h
 refine ae hE 0 [] [] [] ([(0,.var 0 [.ah,.ah,.kD ((C1.set ((i).toNat) (C2.getD ((j).toNat) 0)).length),.kD ((C2.set ((j).toNat) (C1.getD ((i).toNat) 0)).length),.ah,.ah,.ah,.ah,.ah,.ah,.ah,.ah]),(1,.arr 1 ((C1.set ((i).toNat) (C2.getD ((j).toNat) 0)).length) (fun zi=>cI ((C1.set ((i).toNat) (C2.getD ((j).toNat) 0)).getD zi 0))),(2,.arr 2 ((C2.set ((j).toNat) (C1.getD ((i).toNat) 0)).length) (fun zi=>cI ((C2.set ((j).toNat) (C1.getD ((i).toNat) 0)).getD zi 0)))] ++ kq [3,4,5]) 454 (pc o1 (pc o1 (pc o1 (pc UD (pc (dR UD) (pc o1 (pc XB (pc (dR XB) (pc XB (pc (dR XB) (pc UD (pc (dR UD) (pc (aD C1 ((i).toNat) (C2.getD ((j).toNat) 0)) (pc (aD C2 ((j).toNat) (C1.getD ((i).toNat) 0)) (pc (aD C1 ((i).toNat) (C2.getD ((j).toNat) 0)) (pc (cH cI 0 C1 ((i).toNat) (C2.getD ((j).toNat) 0)) (pc (aD C2 ((j).toNat) (C1.getD ((i).toNat) 0)) (pc (cH cI 0 C2 ((j).toNat) (C1.getD ((i).toNat) 0)) pn)))))))))))))))))) ?_
 obtain rfl:=cT h
 exact YL hE 0 Tryz.f72 [] [] (kq [0,1,2,3,4,5]) 454 pn [] pn
theorem uO (N i j C0 bq b7 df dk dm dd C1 C2 C3 C5 fuel):pL N i j C0 bq b7 df dk dm dd C1 C2 C3 C5 (bZ N i j C0 bq b7 df dk dm dd C1 C2 C3 C5 fuel):=by
 induction fuel with
 | zero=>intro _ _ _ _ r h;rw [bZ.eq_1] at h;cases h
 | succ fuel ih =>
  intro bV bN nQ x2 r h E hE
  rw [bZ.eq_2] at h
  refine ae hE 1 [] [] (kp [0,1,2,7,74,75,76]) (kq [0,1,2] ++ [(3,.pT 3 (bV.length) [((i).toNat,6,bN.length)] (mG bV))] ++ kq [4,5,6]) 23 (pc (Eq.refl bV.length) (pc (mC bV [((i).toNat,6,bN.length)]) (pc (iM bV) pn))) ?_
  refine dr 1 76 h (fun ti h=>?_) (fun ti h=>?_)
  ·refine ae hE 4 [] [] (kp [0,1,2,7,9,74,75]) (kq [0,1,2] ++ [(3,.pT 3 (bV.length) [((i).toNat,6,bN.length)] (mG bV))] ++ kq [4,5,6]) 55 (pc (Eq.refl bV.length) (pc (mC bV [((i).toNat,6,bN.length)]) (pc (iM bV) pn))) ?_
   rcases condSplit h with ⟨hA,h⟩ | ⟨hA,h⟩
   ·obtain ⟨c9,h⟩:=ab h
    obtain ⟨Nu,h⟩:=ab h
    refine ae hE 1 [(6,oF (.os 6 0 bN.length))] [] (kp [0,1,2,7,9,10,74,75]) (kq [0,1,2] ++ [(3,.pT 3 (bV.length) [((i).toNat,6,bN.length)] (mG bV))] ++ kq [4,5,6,215]) 247 (pc o1 (pc c9 (pc (dR c9) (pc (show (aQ [((i).toNat,6,bN.length)] (mG bV) ((x2).toNat))[0]?=some (.os 6 0 bN.length) from (gO (rA hA))) (pc Nu (pc (dR Nu) (pc o1 (pc (Eq.refl bV.length) (pc (mC bV [((i).toNat,6,bN.length)]) (pc (iM bV) pn)))))))))) ?_
    obtain ⟨fT,yX,h⟩:=aP h
    refine ae hE 1 [(5,oT (aB fT))] [] (kp [0,1,2,7,9,10,74,75,95]) (kq [0,1,2] ++ [(3,.pT 3 (bV.length) [((i).toNat,6,bN.length)] (mG bV))] ++ kq [4,5,6,215]) 375 (pc (fun hg:(x2 != i)=true=>(pc o1 pn)) (pc (fun hg:(x2 != i)=true=>(pc (iT _ _ _ (aL yX hg)) (pc hg pn))) (pc (fun hg:(x2 != i)=true=>(pc hg pn)) (pc (fun hq:(x2 != i)=true=>(pc hq pn)) (pc (Eq.refl bV.length) (pc (mC bV [((i).toNat,6,bN.length)]) (pc (iM bV) pn))))))) ?_
    refine dr 0 95 h (fun Dc h=>?_) (fun Dc h=>?_)
    ·obtain ⟨IV,h⟩:=ab h
     obtain ⟨Ns,h⟩:=ab h
     obtain ⟨ct,Gh,h⟩:=aP h
     obtain ⟨bE,Gg,h⟩:=aP h
     refine ae hE 1 [(20,oT (.agg (ak ct))),(21,oT (.agg (ak bE)))] [] (kp [0,1,2,7,9,10,74,75]) ([(0,.var 0 [.ah,.ah,.ah,.ah,.ah,.kD ((nQ.set ((x2).toNat) bE).length),.ah,.ah,.ah,.ah,.ah,.ah])] ++ kq [1,2] ++ [(3,.pT 3 (bV.length) [((i).toNat,6,bN.length)] (mG bV)),(4,.arr 4 ((nQ.set ((x2).toNat) bE).length) (fun zi=>ak ((nQ.set ((x2).toNat) bE).getD zi aa.d)))] ++ kq [5,6,215]) 759 (pc o1 (pc o1 (pc IV (pc (dR IV) (pc o1 (pc o1 (pc Ns (pc (dR Ns) (pc (fO _ _ _ _ Gh) (pc (me _ _ _ _ Gg) (pc IV (pc (dR IV) (pc (aD nQ ((x2).toNat) bE) (pc (Eq.refl bV.length) (pc (mC bV [((i).toNat,6,bN.length)]) (pc (iM bV) (pc (aD nQ ((x2).toNat) bE) (pc (cH ak aa.d nQ ((x2).toNat) bE) pn)))))))))))))))))) ?_
     rcases condSplit h with ⟨UE,h⟩ | ⟨UE,h⟩
     ·obtain ⟨Gc,zY,h⟩:=aP h
      obtain ⟨JG,h⟩:=ab h
      refine ae hE 0 [(7,oF (.os 6 0 bN.length)),(11,⟨[6],false,(.tup []),[(0,aO 4 ak aa.d Gc)],0,false,none⟩)] [] (kp [0,1,2] ++ [(7,.kD (Gc.length))] ++ kp [74,75]) (kq [0,1,2] ++ [(3,.pT 3 (bV.length) [((i).toNat,6,Gc.length)] (mG bV))] ++ kq [4,5,6]) 951 (pc o1 (pc c9 (pc (dR c9) (pc (show (aQ [((i).toNat,6,bN.length)] (mG bV) ((x2).toNat))[0]?=some (.os 6 0 bN.length) from (gO (rA UE))) (pc o1 (pc (zZ _ _ _ _ _ zY) (pc (show bN.length=Gc.length from (Eq.symm JG)) (pc (Eq.refl bV.length) (pc (show ∀ zm,zm < bV.length→aQ [((i).toNat,6,Gc.length)] (mG bV) zm=aQ [((i).toNat,6,bN.length)] (mG bV) zm from (fun zm _=>(congrArg (fun zn=>aQ [((i).toNat,6,zn)] (mG bV) zm) (Eq.symm (Eq.symm JG))))) (pc (iM bV) pn)))))))))) ?_
      exact cP hE 1 [] (kp [0,1,2,7,74,75]) (kq [0,1,2] ++ [(3,.pT 3 (bV.length) [((i).toNat,6,Gc.length)] (mG bV))] ++ kq [4,5,6]) 7 (pc (Eq.refl bV.length) (pc (mC bV [((i).toNat,6,Gc.length)]) (pc (iM bV) pn))) (gz N _ _ _ _ _ _ _ _ _ _ _ _ _ _ _ ih _ _ _ _ h E hE)
     ·obtain ⟨Mg,h⟩:=ab h
      refine RO 3 ((x2).toNat) 4 ((bV.getD ((x2).toNat) []).length) (fun zi=>ak ((bV.getD ((x2).toNat) []).getD zi aa.d)) (pc Mg (pc (show aQ [((i).toNat,6,bN.length)] (mG bV) ((x2).toNat)=mR 4 ak aa.d (bV.getD ((x2).toNat) []) from (if_neg (rB UE))) pn)) ?_
      obtain ⟨mV,Cc,h⟩:=aP h
      obtain ⟨Tx,h⟩:=ab h
      refine ae hE 0 [(7,oF (.os 759 0 ((bV.getD ((x2).toNat) []).length))),(11,⟨[759,6],false,(.tup []),[(0,aO 4 ak aa.d mV),(1,aO 4 ak aa.d bN)],0,false,none⟩)] [] (kp [0,1,2,7,74,75]) (kq [0,1,2] ++ [(3,.pT 3 (bV.length) [((x2).toNat,759,mV.length),((i).toNat,6,bN.length)] (mG bV))] ++ kq [4,5,6,759]) 967 (pc o1 (pc c9 (pc (dR c9) (pc (show (aQ [((x2).toNat,759,(bV.getD ((x2).toNat) []).length),((i).toNat,6,bN.length)] (mG bV) ((x2).toNat))[0]?=some (.os 759 0 ((bV.getD ((x2).toNat) []).length)) from (gO rfl)) (pc o1 (pc (mi _ _ _ _ _ _ Cc) (pc (Eq.refl bV.length) (pc (show ∀ zm,zm < bV.length→aQ [((x2).toNat,759,mV.length),((i).toNat,6,bN.length)] (mG bV) zm=aQ [((x2).toNat,759,(bV.getD ((x2).toNat) []).length),((i).toNat,6,bN.length)] (mG bV) zm from (fun zm _=>(congrArg (fun zn=>aQ [((x2).toNat,759,zn),((i).toNat,6,bN.length)] (mG bV) zm) (Eq.symm (Eq.symm Tx))))) (pc (iM bV) pn))))))))) ?_
      refine Px 3 759 ((x2).toNat) (pc Mg (pc (show aQ [((x2).toNat,759,mV.length),((i).toNat,6,bN.length)] (mG bV) ((x2).toNat)=[.os 759 0 mV.length] from if_pos rfl) (pc (show ∀ zj,zj < mV.length→nB (ak (mV.getD zj aa.d))=true from fun _ _=>rfl) pn))) ?_
      refine Pw hE [] (kp [0,1,2,7,74,75]) ([(0,.var 0 [.ah,.ah,.ah,.ah,.kD ((bV.set ((x2).toNat) mV).length),.ah,.ah,.ah,.ah,.ah,.ah,.ah])] ++ kq [1,2] ++ [(3,.pT 3 ((bV.set ((x2).toNat) mV).length) [((i).toNat,6,bN.length)] (mG (bV.set ((x2).toNat) mV)))] ++ kq [4,5,6]) 967 (pc (aD bV ((x2).toNat) mV) (pc (aD bV ((x2).toNat) mV) (pc (AM (sz:=4) (c:=ak) (d:=aa.d) bV ((x2).toNat) 759 mV.length mV [((i).toNat,6,bN.length)] Mg (YM (Ne.symm (rB UE)) EN)) (pc (iM (bV.set ((x2).toNat) mV)) pn)))) ?_
      exact cP hE 1 [] (kp [0,1,2,7,74,75]) (kq [0,1,2] ++ [(3,.pT 3 ((bV.set ((x2).toNat) mV).length) [((i).toNat,6,bN.length)] (mG (bV.set ((x2).toNat) mV)))] ++ kq [4,5,6]) 7 (pc (Eq.refl ((bV.set ((x2).toNat) mV).length)) (pc (mC (bV.set ((x2).toNat) mV) [((i).toNat,6,bN.length)]) (pc (iM (bV.set ((x2).toNat) mV)) pn))) (gz N _ _ _ _ _ _ _ _ _ _ _ _ _ _ _ ih _ _ _ _ h E hE)
    ·exact cP hE 2 [] (kp [0,1,2,7,74,75]) (kq [0,1,2] ++ [(3,.pT 3 (bV.length) [((i).toNat,6,bN.length)] (mG bV))] ++ kq [4,5,6]) 7 (pc (Eq.refl bV.length) (pc (mC bV [((i).toNat,6,bN.length)]) (pc (iM bV) pn))) (gz N _ _ _ _ _ _ _ _ _ _ _ _ _ _ _ ih _ _ _ _ h E hE)
   ·obtain ⟨Nt,h⟩:=ab h
    refine RO 3 ((x2).toNat) 4 ((bV.getD ((x2).toNat) []).length) (fun zi=>ak ((bV.getD ((x2).toNat) []).getD zi aa.d)) (pc Nt (pc (show aQ [((i).toNat,6,bN.length)] (mG bV) ((x2).toNat)=mR 4 ak aa.d (bV.getD ((x2).toNat) []) from (if_neg (rB hA))) pn)) ?_
    obtain ⟨UF,h⟩:=ab h
    obtain ⟨Wl,h⟩:=ab h
    refine ae hE 1 [(6,oF (.os 55 0 ((bV.getD ((x2).toNat) []).length)))] [] (kp [0,1,2,7,9,10,74,75]) (kq [0,1,2] ++ [(3,.pT 3 (bV.length) [((x2).toNat,55,(bV.getD ((x2).toNat) []).length),((i).toNat,6,bN.length)] (mG bV))] ++ kq [4,5,6,55,231]) 263 (pc o1 (pc UF (pc (dR UF) (pc (show (aQ [((x2).toNat,55,(bV.getD ((x2).toNat) []).length),((i).toNat,6,bN.length)] (mG bV) ((x2).toNat))[0]?=some (.os 55 0 ((bV.getD ((x2).toNat) []).length)) from (gO rfl)) (pc Wl (pc (dR Wl) (pc o1 (pc (Eq.refl bV.length) (pc (mC bV [((x2).toNat,55,(bV.getD ((x2).toNat) []).length),((i).toNat,6,bN.length)]) (pc (iM bV) pn)))))))))) ?_
    refine Px 3 55 ((x2).toNat) (pc Nt (pc (show aQ [((x2).toNat,55,(bV.getD ((x2).toNat) []).length),((i).toNat,6,bN.length)] (mG bV) ((x2).toNat)=[.os 55 0 (bV.getD ((x2).toNat) []).length] from if_pos rfl) (pc (show ∀ zj,zj < (bV.getD ((x2).toNat) []).length→nB (ak ((bV.getD ((x2).toNat) []).getD zj aa.d))=true from fun _ _=>rfl) pn))) ?_
    refine Pw hE [] (kp [0,1,2,7,9,10,74,75]) (kq [0,1,2] ++ [(3,.pT 3 (bV.length) [((i).toNat,6,bN.length)] (mG bV))] ++ kq [4,5,6,231]) 263 (pc (Eq.refl (bV.length)) (pc (uB (sz:=4) (c:=ak) (d:=aa.d) bV ((x2).toNat) 55 ((bV.getD ((x2).toNat) []).length) [((i).toNat,6,bN.length)] (YM (Ne.symm (rB hA)) EN)) (pc (iM bV) pn))) ?_
    obtain ⟨sy,Ia,h⟩:=aP h
    refine ae hE 1 [(5,oT (aB sy))] [] (kp [0,1,2,7,9,10,74,75,95]) (kq [0,1,2] ++ [(3,.pT 3 (bV.length) [((i).toNat,6,bN.length)] (mG bV))] ++ kq [4,5,6,231]) 391 (pc (fun hg:(x2 != i)=true=>(pc o1 pn)) (pc (fun hg:(x2 != i)=true=>(pc (iT _ _ _ (aL Ia hg)) (pc hg pn))) (pc (fun hg:(x2 != i)=true=>(pc hg pn)) (pc (fun hq:(x2 != i)=true=>(pc hq pn)) (pc (Eq.refl bV.length) (pc (mC bV [((i).toNat,6,bN.length)]) (pc (iM bV) pn))))))) ?_
    refine dr 0 95 h (fun H6 h=>?_) (fun H6 h=>?_)
    ·obtain ⟨UG,h⟩:=ab h
     obtain ⟨Wm,h⟩:=ab h
     obtain ⟨du,Ib,h⟩:=aP h
     obtain ⟨iY,K8,h⟩:=aP h
     refine ae hE 1 [(20,oT (.agg (ak du))),(21,oT (.agg (ak iY)))] [] (kp [0,1,2,7,9,10,74,75]) ([(0,.var 0 [.ah,.ah,.ah,.ah,.ah,.kD ((nQ.set ((x2).toNat) iY).length),.ah,.ah,.ah,.ah,.ah,.ah])] ++ kq [1,2] ++ [(3,.pT 3 (bV.length) [((i).toNat,6,bN.length)] (mG bV)),(4,.arr 4 ((nQ.set ((x2).toNat) iY).length) (fun zi=>ak ((nQ.set ((x2).toNat) iY).getD zi aa.d)))] ++ kq [5,6,231]) 775 (pc o1 (pc o1 (pc UG (pc (dR UG) (pc o1 (pc o1 (pc Wm (pc (dR Wm) (pc (fO _ _ _ _ Ib) (pc (me _ _ _ _ K8) (pc UG (pc (dR UG) (pc (aD nQ ((x2).toNat) iY) (pc (Eq.refl bV.length) (pc (mC bV [((i).toNat,6,bN.length)]) (pc (iM bV) (pc (aD nQ ((x2).toNat) iY) (pc (cH ak aa.d nQ ((x2).toNat) iY) pn)))))))))))))))))) ?_
     refine RO 3 ((x2).toNat) 4 ((bV.getD ((x2).toNat) []).length) (fun zi=>ak ((bV.getD ((x2).toNat) []).getD zi aa.d)) (pc Nt (pc (show aQ [((i).toNat,6,bN.length)] (mG bV) ((x2).toNat)=mR 4 ak aa.d (bV.getD ((x2).toNat) []) from (if_neg (rB hA))) pn)) ?_
     obtain ⟨mW,UH,h⟩:=aP h
     obtain ⟨XC,h⟩:=ab h
     refine ae hE 0 [(7,oF (.os 775 0 ((bV.getD ((x2).toNat) []).length))),(11,⟨[775,6],false,(.tup []),[(0,aO 4 ak aa.d mW),(1,aO 4 ak aa.d bN)],0,false,none⟩)] [] (kp [0,1,2,7,74,75]) (kq [0,1,2] ++ [(3,.pT 3 (bV.length) [((x2).toNat,775,mW.length),((i).toNat,6,bN.length)] (mG bV))] ++ kq [4,5,6,775]) 983 (pc o1 (pc UF (pc (dR UF) (pc (show (aQ [((x2).toNat,775,(bV.getD ((x2).toNat) []).length),((i).toNat,6,bN.length)] (mG bV) ((x2).toNat))[0]?=some (.os 775 0 ((bV.getD ((x2).toNat) []).length)) from (gO rfl)) (pc o1 (pc (mi _ _ _ _ _ _ UH) (pc (Eq.refl bV.length) (pc (show ∀ zm,zm < bV.length→aQ [((x2).toNat,775,mW.length),((i).toNat,6,bN.length)] (mG bV) zm=aQ [((x2).toNat,775,(bV.getD ((x2).toNat) []).length),((i).toNat,6,bN.length)] (mG bV) zm from (fun zm _=>(congrArg (fun zn=>aQ [((x2).toNat,775,zn),((i).toNat,6,bN.length)] (mG bV) zm) (Eq.symm (Eq.symm XC))))) (pc (iM bV) pn))))))))) ?_
     refine Px 3 775 ((x2).toNat) (pc Nt (pc (show aQ [((x2).toNat,775,mW.length),((i).toNat,6,bN.length)] (mG bV) ((x2).toNat)=[.os 775 0 mW.length] from if_pos rfl) (pc (show ∀ zj,zj < mW.length→nB (ak (mW.getD zj aa.d))=true from fun _ _=>rfl) pn))) ?_
     refine Pw hE [] (kp [0,1,2,7,74,75]) ([(0,.var 0 [.ah,.ah,.ah,.ah,.kD ((bV.set ((x2).toNat) mW).length),.ah,.ah,.ah,.ah,.ah,.ah,.ah])] ++ kq [1,2] ++ [(3,.pT 3 ((bV.set ((x2).toNat) mW).length) [((i).toNat,6,bN.length)] (mG (bV.set ((x2).toNat) mW)))] ++ kq [4,5,6]) 983 (pc (aD bV ((x2).toNat) mW) (pc (aD bV ((x2).toNat) mW) (pc (AM (sz:=4) (c:=ak) (d:=aa.d) bV ((x2).toNat) 775 mW.length mW [((i).toNat,6,bN.length)] Nt (YM (Ne.symm (rB hA)) EN)) (pc (iM (bV.set ((x2).toNat) mW)) pn)))) ?_
     exact cP hE 1 [] (kp [0,1,2,7,74,75]) (kq [0,1,2] ++ [(3,.pT 3 ((bV.set ((x2).toNat) mW).length) [((i).toNat,6,bN.length)] (mG (bV.set ((x2).toNat) mW)))] ++ kq [4,5,6]) 7 (pc (Eq.refl ((bV.set ((x2).toNat) mW).length)) (pc (mC (bV.set ((x2).toNat) mW) [((i).toNat,6,bN.length)]) (pc (iM (bV.set ((x2).toNat) mW)) pn))) (gz N _ _ _ _ _ _ _ _ _ _ _ _ _ _ _ ih _ _ _ _ h E hE)
    ·exact cP hE 2 [] (kp [0,1,2,7,74,75]) (kq [0,1,2] ++ [(3,.pT 3 (bV.length) [((i).toNat,6,bN.length)] (mG bV))] ++ kq [4,5,6]) 7 (pc (Eq.refl bV.length) (pc (mC bV [((i).toNat,6,bN.length)]) (pc (iM bV) pn))) (gz N _ _ _ _ _ _ _ _ _ _ _ _ _ _ _ ih _ _ _ _ h E hE)
  ·obtain ⟨XD,h⟩:=ab h
   refine ae hE 3 [] [] (kp [0,1,2,7,11]) (kq [0,1,2] ++ [(3,.pT 3 (bV.length) [((i).toNat,6,bN.length)] (mG bV))] ++ kq [4,5,6,135]) 167 (pc o1 (pc XD (pc (dR XD) (pc o1 (pc (Eq.refl bV.length) (pc (mC bV [((i).toNat,6,bN.length)]) (pc (iM bV) pn))))))) ?_
   obtain ⟨EY,UI,h⟩:=aP h
   refine ae hE 1 [(1,oT (aB EY))] [] (kp [0,1,2,7,11,141]) (kq [0,1,2] ++ [(3,.pT 3 (bV.length) [((i).toNat,6,bN.length)] (mG bV))] ++ kq [4,5,6,135]) 215 (pc o1 (pc (iT _ _ _ UI) (pc (Eq.refl bV.length) (pc (mC bV [((i).toNat,6,bN.length)]) (pc (iM bV) pn))))) ?_
   refine dr 0 141 h (fun PO h=>?_) (fun PO h=>?_)
   ·obtain ⟨Vq,h⟩:=ab h
    obtain ⟨gN,UJ,h⟩:=aP h
    obtain ⟨kO,Zg,h⟩:=aP h
    refine ae hE 1 [(13,oT (.agg (ak gN))),(14,oT (.agg (ak kO)))] [] (kp [0,1,2,7,11]) (kq [0,1,2] ++ [(3,.pT 3 (bV.length) [((i).toNat,6,bN.length)] (mG bV))] ++ kq [4,5,6,135]) 503 (pc o1 (pc o1 (pc o1 (pc Vq (pc (dR Vq) (pc (fO _ _ _ _ UJ) (pc (me _ _ _ _ Zg) (pc o1 (pc (Eq.refl bV.length) (pc (mC bV [((i).toNat,6,bN.length)]) (pc (iM bV) pn))))))))))) ?_
    obtain ⟨Hh,Zh,h⟩:=aP h
    obtain ⟨Vr,h⟩:=ab h
    refine ae hE 0 [(8,⟨[5,6],false,(.tup []),[(0,aO 4 ak aa.d Hh),(1,aO 4 ak aa.d bN)],0,false,none⟩)] [] (kp [0,1,2]) ([(0,.var 0 [.ah,.ah,.ah,.ah,.ah,.ah,.kD (Hh.length),.ah,.ah,.ah,.ah,.ah])] ++ kq [1,2] ++ [(3,.pT 3 (bV.length) [((i).toNat,6,bN.length)] (mG bV))] ++ kq [4,5,6]) 647 (pc o1 (pc o1 (pc (mi _ _ _ _ _ _ Zh) (pc (show C5.length=Hh.length from (Eq.symm Vr)) (pc (Eq.refl bV.length) (pc (mC bV [((i).toNat,6,bN.length)]) (pc (iM bV) pn))))))) ?_
    obtain ⟨Vs,h⟩:=ab h
    refine Px 3 6 ((i).toNat) (pc Vs (pc (show aQ [((i).toNat,6,bN.length)] (mG bV) ((i).toNat)=[.os 6 0 bN.length] from if_pos rfl) (pc (show ∀ zj,zj < bN.length→nB (ak (bN.getD zj aa.d))=true from fun _ _=>rfl) pn))) ?_
    refine Pw hE [] (kp [0,1,2]) ([(0,.var 0 [.ah,.ah,.ah,.ah,.kD ((bV.set ((i).toNat) bN).length),.ah,.ah,.ah,.ah,.ah,.ah,.ah])] ++ kq [1,2] ++ [(3,.pT 3 ((bV.set ((i).toNat) bN).length) [] (mG (bV.set ((i).toNat) bN)))] ++ kq [4,5]) 647 (pc (aD bV ((i).toNat) bN) (pc (aD bV ((i).toNat) bN) (pc (AM (sz:=4) (c:=ak) (d:=aa.d) bV ((i).toNat) 6 bN.length bN [] Vs EN) (pc (iM (bV.set ((i).toNat) bN)) pn)))) ?_
    exact cP hE 0 [] (kp [0,1,2]) (kq [0,1,2,3,4,5]) 6 pn (oU N _ _ _ _ _ _ _ _ _ _ _ _ _ _ _ _ h E hE)
   ·obtain ⟨c29,h⟩:=ab h
    refine Px 3 6 ((i).toNat) (pc c29 (pc (show aQ [((i).toNat,6,bN.length)] (mG bV) ((i).toNat)=[.os 6 0 bN.length] from if_pos rfl) (pc (show ∀ zj,zj < bN.length→nB (ak (bN.getD zj aa.d))=true from fun _ _=>rfl) pn))) ?_
    refine Pw hE [] (kp [0,1,2]) ([(0,.var 0 [.ah,.ah,.ah,.ah,.kD ((bV.set ((i).toNat) bN).length),.ah,.ah,.ah,.ah,.ah,.ah,.ah])] ++ kq [1,2] ++ [(3,.pT 3 ((bV.set ((i).toNat) bN).length) [] (mG (bV.set ((i).toNat) bN)))] ++ kq [4,5,135]) 215 (pc (aD bV ((i).toNat) bN) (pc (aD bV ((i).toNat) bN) (pc (AM (sz:=4) (c:=ak) (d:=aa.d) bV ((i).toNat) 6 bN.length bN [] c29 EN) (pc (iM (bV.set ((i).toNat) bN)) pn)))) ?_
    exact cP hE 1 [] (kp [0,1,2]) (kq [0,1,2,3,4,5]) 6 pn (oU N _ _ _ _ _ _ _ _ _ _ _ _ _ _ _ _ h E hE)
theorem uP (N i j C0 bq b7 df dk dm dd C1 C2 C3 C4 C5 fuel):pK N i j C0 bq b7 df dk dm dd C1 C2 C3 C4 C5 (dx N i j C0 bq b7 df dk dm dd C1 C2 C3 C4 C5 fuel):=by
 induction fuel with
 | zero=>intro _ _ r h;rw [dx.eq_1] at h;cases h
 | succ fuel ih =>
  intro sD x r h E hE
  rw [dx.eq_2] at h
  refine ae hE 1 [] [] (kp [0,1,2,6,7,30,31,32]) (kq [0,1,2] ++ [(3,.pT 3 (C3.length) [((i).toNat,6,sD.length)] (mG C3))] ++ kq [4,5,6,7]) 24 (pc (Eq.refl C3.length) (pc (mC C3 [((i).toNat,6,sD.length)]) (pc (iM C3) pn))) ?_
  refine dr 1 32 h (fun ee h=>?_) (fun ee h=>?_)
  ·refine ae hE 4 [] [] (kp [0,1,2,6,7,8,30,31]) (kq [0,1,2] ++ [(3,.pT 3 (C3.length) [((i).toNat,6,sD.length)] (mG C3))] ++ kq [4,5,6,7]) 56 (pc (Eq.refl C3.length) (pc (mC C3 [((i).toNat,6,sD.length)]) (pc (iM C3) pn))) ?_
   refine ae hE 1 [] [] (kp [0,1,2,6,7,8,30,31,36]) (kq [0,1,2] ++ [(3,.pT 3 (C3.length) [((i).toNat,6,sD.length)] (mG C3))] ++ kq [4,5,6,7]) 104 (pc (Eq.refl C3.length) (pc (mC C3 [((i).toNat,6,sD.length)]) (pc (iM C3) pn))) ?_
   refine dr 0 36 h (fun jq h=>?_) (fun jq h=>?_)
   ·obtain ⟨c5,h⟩:=ab h
    obtain ⟨j3,hr,h⟩:=aP h
    obtain ⟨aV,eI,h⟩:=aP h
    refine ae hE 0 [(7,oT (.agg (ak j3))),(8,oT (.agg (ak aV)))] [] (kp [0,1,2,6] ++ [(7,.kD ((sD.set ((x).toNat) aV).length))] ++ kp [30,31]) (kq [0,1,2] ++ [(3,.pT 3 (C3.length) [((i).toNat,6,(sD.set ((x).toNat) aV).length)] (mG C3))] ++ kq [4,5] ++ [(6,.arr 6 ((sD.set ((x).toNat) aV).length) (fun zi=>ak ((sD.set ((x).toNat) aV).getD zi aa.d)))] ++ kq [7]) 280 (pc c5 (pc (dR c5) (pc o1 (pc (tA _ _ _ _ hr) (pc (kx _ _ _ eI) (pc c5 (pc (dR c5) (pc (aD sD ((x).toNat) aV) (pc (Eq.refl C3.length) (pc (show ∀ zm,zm < C3.length→aQ [((i).toNat,6,(sD.set ((x).toNat) aV).length)] (mG C3) zm=aQ [((i).toNat,6,sD.length)] (mG C3) zm from (fun zm _=>(congrArg (fun zn=>aQ [((i).toNat,6,zn)] (mG C3) zm) (Eq.symm (mL rfl))))) (pc (iM C3) (pc (aD sD ((x).toNat) aV) (pc (cH ak aa.d sD ((x).toNat) aV) pn))))))))))))) ?_
    exact cP hE 1 [] (kp [0,1,2,6,7,30,31]) (kq [0,1,2] ++ [(3,.pT 3 (C3.length) [((i).toNat,6,(sD.set ((x).toNat) aV).length)] (mG C3))] ++ kq [4,5,6,7]) 8 (pc (Eq.refl C3.length) (pc (mC C3 [((i).toNat,6,(sD.set ((x).toNat) aV).length)]) (pc (iM C3) pn))) (oS N _ _ _ _ _ _ _ _ _ _ _ _ _ _ _ _ ih _ _ h E hE)
   ·exact cP hE 2 [] (kp [0,1,2,6,7,30,31]) (kq [0,1,2] ++ [(3,.pT 3 (C3.length) [((i).toNat,6,sD.length)] (mG C3))] ++ kq [4,5,6,7]) 8 (pc (Eq.refl C3.length) (pc (mC C3 [((i).toNat,6,sD.length)]) (pc (iM C3) pn))) (oS N _ _ _ _ _ _ _ _ _ _ _ _ _ _ _ _ ih _ _ h E hE)
  ·obtain ⟨aw,kc,h⟩:=aP h
   obtain ⟨kj,nw,h⟩:=aP h
   obtain ⟨c6,h⟩:=ab h
   refine ae hE 2 [(2,oT (.agg (ak aw))),(4,oT (.agg (ak kj)))] [] (kp [0,1,2,6] ++ [(7,.kD ((sD.set ((j).toNat) kj).length))]) (kq [0,1,2] ++ [(3,.pT 3 (C3.length) [((i).toNat,6,(sD.set ((j).toNat) kj).length)] (mG C3))] ++ kq [4,5] ++ [(6,.arr 6 ((sD.set ((j).toNat) kj).length) (fun zi=>ak ((sD.set ((j).toNat) kj).getD zi aa.d)))] ++ kq [7]) 136 (pc (gH _ _ _ kc) (pc o1 (pc (tA _ _ _ _ nw) (pc c6 (pc (dR c6) (pc (aD sD ((j).toNat) kj) (pc (Eq.refl C3.length) (pc (show ∀ zm,zm < C3.length→aQ [((i).toNat,6,(sD.set ((j).toNat) kj).length)] (mG C3) zm=aQ [((i).toNat,6,sD.length)] (mG C3) zm from (fun zm _=>(congrArg (fun zn=>aQ [((i).toNat,6,zn)] (mG C3) zm) (Eq.symm (mL rfl))))) (pc (iM C3) (pc (aD sD ((j).toNat) kj) (pc (cH ak aa.d sD ((j).toNat) kj) pn))))))))))) ?_
   obtain ⟨c7,h⟩:=ab h
   obtain ⟨K0,rN,h⟩:=aP h
   obtain ⟨lG,xK,h⟩:=aP h
   refine ae hE 1 [(13,oT (.agg (ak K0))),(14,oT (.agg (ak lG)))] [] (kp [0,1,2,7]) ([(0,.var 0 [.ah,.ah,.ah,.ah,.ah,.kD ((C4.set ((i).toNat) lG).length),.ah,.ah,.ah,.ah,.ah,.ah])] ++ kq [1,2] ++ [(3,.pT 3 (C3.length) [((i).toNat,6,(sD.set ((j).toNat) kj).length)] (mG C3)),(4,.arr 4 ((C4.set ((i).toNat) lG).length) (fun zi=>ak ((C4.set ((i).toNat) lG).getD zi aa.d)))] ++ kq [5,6]) 408 (pc o1 (pc o1 (pc c7 (pc (dR c7) (pc o1 (pc (tA _ _ _ _ rN) (pc (kx _ _ _ xK) (pc c7 (pc (dR c7) (pc (aD C4 ((i).toNat) lG) (pc (Eq.refl C3.length) (pc (mC C3 [((i).toNat,6,(sD.set ((j).toNat) kj).length)]) (pc (iM C3) (pc (aD C4 ((i).toNat) lG) (pc (cH ak aa.d C4 ((i).toNat) lG) pn))))))))))))))) ?_
   refine ae hE 2 [] [] (kp [0,1,2,7,74,75]) (kq [0,1,2] ++ [(3,.pT 3 (C3.length) [((i).toNat,6,(sD.set ((j).toNat) kj).length)] (mG C3))] ++ kq [4,5,6]) 504 (pc o1 (pc (Eq.refl C3.length) (pc (mC C3 [((i).toNat,6,(sD.set ((j).toNat) kj).length)]) (pc (iM C3) pn)))) ?_
   exact cP hE 2 [] (kp [0,1,2,7,74,75]) (kq [0,1,2] ++ [(3,.pT 3 (C3.length) [((i).toNat,6,(sD.set ((j).toNat) kj).length)] (mG C3))] ++ kq [4,5,6]) 7 (pc (Eq.refl C3.length) (pc (mC C3 [((i).toNat,6,(sD.set ((j).toNat) kj).length)]) (pc (iM C3) pn))) (uO N _ _ _ _ _ _ _ _ _ _ _ _ _ N _ _ _ _ _ h E hE)
theorem m6 (N i j C0 bq b7 df dk dm dd C1 C2 C3 C4 C5 r) (h:jh N i j C0 bq b7 df dk dm dd C1 C2 C3 C4 C5=some r):Sd 72 [(.op 0 0 0),(aI i),(aI j)] [(0,vN 12 [(aI C0),(aI bq),(.os 1 0 C1.length),(.os 2 0 C2.length),(.os 3 0 C3.length),(.os 4 0 C4.length),(.os 5 0 C5.length),(aB b7),(eU df),(aB dk),(eU dm),(aI dd)]),(1,aO 1 cI 0 C1),(2,aO 1 cI 0 C2),(3,aM 4 ak aa.d C3),(4,aO 4 ak aa.d C4),(5,aO 4 ak aa.d C5)] 6 (.tup []) [(0,vN 12 [(aI r.1.wN),(aI r.1.wO),(.os 1 0 r.2.1.length),(.os 2 0 r.2.2.1.length),(.os 3 0 r.2.2.2.1.length),(.os 4 0 r.2.2.2.2.1.length),(.os 5 0 r.2.2.2.2.2.length),(aB r.1.aj.fN.fG),(eU r.1.aj.fN.fL),(aB r.1.aj.fD.fG),(eU r.1.aj.fD.fL),(aI r.1.cg)]),(1,aO 1 cI 0 r.2.1),(2,aO 1 cI 0 r.2.2.1),(3,aM 4 ak aa.d r.2.2.2.1),(4,aO 4 ak aa.d r.2.2.2.2.1),(5,aO 4 ak aa.d r.2.2.2.2.2)]:=by
 unfold jh at h
 refine g8 (fu:=Tryz.f72) (c:=A2 1) (nt:=194) (fun hm=>absurd hm (by decide)) ?_
 intro E hE
 obtain ⟨c2,h⟩:=ab h
 refine RO 3 ((i).toNat) 4 ((C3.getD ((i).toNat) []).length) (fun zi=>ak ((C3.getD ((i).toNat) []).getD zi aa.d)) (pc c2 (pc (show aQ [] (mG C3) ((i).toNat)=mR 4 ak aa.d (C3.getD ((i).toNat) []) from rfl) pn)) ?_
 obtain ⟨c3,h⟩:=ab h
 obtain ⟨c4,h⟩:=ab h
 refine ae hE 1 [(6,oF (.os 6 0 ((C3.getD ((i).toNat) []).length)))] [] (kp [0,1,2,6]) (kq [0,1,2] ++ [(3,.pT 3 (C3.length) [((i).toNat,6,(C3.getD ((i).toNat) []).length)] (mG C3))] ++ kq [4,5,6,182]) 214 (pc o1 (pc c3 (pc (dR c3) (pc (show (aQ [((i).toNat,6,(C3.getD ((i).toNat) []).length)] (mG C3) ((i).toNat))[0]?=some (.os 6 0 ((C3.getD ((i).toNat) []).length)) from (gO rfl)) (pc c4 (pc (dR c4) (pc o1 (pc (Eq.refl C3.length) (pc (mC C3 [((i).toNat,6,(C3.getD ((i).toNat) []).length)]) (pc (iM C3) pn)))))))))) ?_
 refine Px 3 6 ((i).toNat) (pc c2 (pc (show aQ [((i).toNat,6,(C3.getD ((i).toNat) []).length)] (mG C3) ((i).toNat)=[.os 6 0 (C3.getD ((i).toNat) []).length] from if_pos rfl) (pc (show ∀ zj,zj < (C3.getD ((i).toNat) []).length→nB (ak ((C3.getD ((i).toNat) []).getD zj aa.d))=true from fun _ _=>rfl) pn))) ?_
 refine Pw hE [] (kp [0,1,2,6]) (kq [0,1,2] ++ [(3,.pT 3 (C3.length) [] (mG C3))] ++ kq [4,5,182]) 214 (pc (Eq.refl (C3.length)) (pc (uB (sz:=4) (c:=ak) (d:=aa.d) C3 ((i).toNat) 6 ((C3.getD ((i).toNat) []).length) [] EN) (pc (iM C3) pn))) ?_
 refine RO 3 ((i).toNat) 4 ((C3.getD ((i).toNat) []).length) (fun zi=>ak ((C3.getD ((i).toNat) []).getD zi aa.d)) (pc c2 (pc (show aQ [] (mG C3) ((i).toNat)=mR 4 ak aa.d (C3.getD ((i).toNat) []) from rfl) pn)) ?_
 refine ae hE 1 [(6,oF (.os 214 0 ((C3.getD ((i).toNat) []).length)))] [] (kp [0,1,2,6,7]) (kq [0,1,2] ++ [(3,.pT 3 (C3.length) [((i).toNat,214,(C3.getD ((i).toNat) []).length)] (mG C3))] ++ kq [4,5,182,214]) 358 (pc o1 (pc c3 (pc (dR c3) (pc (show (aQ [((i).toNat,214,(C3.getD ((i).toNat) []).length)] (mG C3) ((i).toNat))[0]?=some (.os 214 0 ((C3.getD ((i).toNat) []).length)) from (gO rfl)) (pc (Eq.refl C3.length) (pc (mC C3 [((i).toNat,214,(C3.getD ((i).toNat) []).length)]) (pc (iM C3) pn))))))) ?_
 refine ae hE 2 [] [] (kp [0,1,2,6,7,30,31]) (kq [0,1,2] ++ [(3,.pT 3 (C3.length) [((i).toNat,214,(C3.getD ((i).toNat) []).length)] (mG C3))] ++ kq [4,5,182,214]) 406 (pc (Eq.refl C3.length) (pc (mC C3 [((i).toNat,214,(C3.getD ((i).toNat) []).length)]) (pc (iM C3) pn))) ?_
 exact cP hE 2 [] (kp [0,1,2,6,7,30,31]) (kq [0,1,2] ++ [(3,.pT 3 (C3.length) [((i).toNat,214,(C3.getD ((i).toNat) []).length)] (mG C3))] ++ kq [4,5] ++ [(6,.ah 214),(7,.ah 182)]) 8 (pc (Eq.refl C3.length) (pc (mC C3 [((i).toNat,214,(C3.getD ((i).toNat) []).length)]) (pc (iM C3) pn))) (uP N _ _ _ _ _ _ _ _ _ _ _ _ _ _ N _ _ _ h E hE)
noncomputable abbrev K9:=b8 Tryz.f108
def nD (N:Nat) (C0:Int) (bq:Int) (b7:Bool) (df:List Int) (dk:Bool) (dm:List Int) (dd:Int) (C1:List Int) (C2:List Int) (C3:List (List aa)) (C4:List aa) (C5:List aa) (K:Int→Int→Option (Int)):Prop:=∀ (dC:Int) (x:Int) (r:Int),K dC x=some r→∀ E,bh E 6→aE Tryz.prog E 108 46 (aW E [(0,vN 12 [(aI C0),(aI bq),(.os 1 0 C1.length),(.os 2 0 C2.length),(.os 3 0 C3.length),(.os 4 0 C4.length),(.os 5 0 C5.length),(aB b7),(eU df),(aB dk),(eU dm),(aI dd)]),(1,aO 1 cI 0 C1),(2,aO 1 cI 0 C2),(3,aM 4 ak aa.d C3),(4,aO 4 ak aa.d C4),(5,aO 4 ak aa.d C5)] (aI r)) [.code (K9 116),.inLoop (K9 116),.inBlock 0,.code (K9 15)] ⟨[(0,(.op 0 0 0)),(3,(aI dC)),(9,(aI ((C2.length:Nat):Int))),(10,(aI x))],[(0,vN 12 [(aI C0),(aI bq),(.os 1 0 C1.length),(.os 2 0 C2.length),(.os 3 0 C3.length),(.os 4 0 C4.length),(.os 5 0 C5.length),(aB b7),(eU df),(aB dk),(eU dm),(aI dd)]),(1,aO 1 cI 0 C1),(2,aO 1 cI 0 C2),(3,aM 4 ak aa.d C3),(4,aO 4 ak aa.d C4),(5,aO 4 ak aa.d C5)],6⟩
def tj (N:Nat) (C0:Int) (bq:Int) (b7:Bool) (df:List Int) (dk:Bool) (dm:List Int) (dd:Int) (C1:List Int) (C2:List Int) (C3:List (List aa)) (C4:List aa) (C5:List aa) (x:Int) (K:Int→Option (Int)):Prop:=∀ (xC:Int) (r:Int),K xC=some r→∀ E,bh E 6→aE Tryz.prog E 108 46 (aW E [(0,vN 12 [(aI C0),(aI bq),(.os 1 0 C1.length),(.os 2 0 C2.length),(.os 3 0 C3.length),(.os 4 0 C4.length),(.os 5 0 C5.length),(aB b7),(eU df),(aB dk),(eU dm),(aI dd)]),(1,aO 1 cI 0 C1),(2,aO 1 cI 0 C2),(3,aM 4 ak aa.d C3),(4,aO 4 ak aa.d C4),(5,aO 4 ak aa.d C5)] (aI r)) [.code (K9 935),.inLoop (K9 116),.inBlock 0,.code (K9 15)] ⟨[(0,(.op 0 0 0)),(3,(aI xC)),(9,(aI ((C2.length:Nat):Int))),(10,(aI x))],[(0,vN 12 [(aI C0),(aI bq),(.os 1 0 C1.length),(.os 2 0 C2.length),(.os 3 0 C3.length),(.os 4 0 C4.length),(.os 5 0 C5.length),(aB b7),(eU df),(aB dk),(eU dm),(aI dd)]),(1,aO 1 cI 0 C1),(2,aO 1 cI 0 C2),(3,aM 4 ak aa.d C3),(4,aO 4 ak aa.d C4),(5,aO 4 ak aa.d C5)],6⟩
theorem m7 (N:Nat) (C0:Int) (bq:Int) (b7:Bool) (df:List Int) (dk:Bool) (dm:List Int) (dd:Int) (C1:List Int) (C2:List Int) (C3:List (List aa)) (C4:List aa) (C5:List aa) (x:Int) (ik:Int→Int→Option (Int)) (sO:nD N C0 bq b7 df dk dm dd C1 C2 C3 C4 C5 ik):tj N C0 bq b7 df dk dm dd C1 C2 C3 C4 C5 x (gq N C0 bq b7 df dk dm dd C1 C2 C3 C4 C5 x ik):=by
 intro xC r h E hE
 unfold gq at h
 refine ae hE 0 [] [] (kp [0,3,9,10]) (kq [0,1,2,3,4,5]) 38 pn ?_
 exact cP hE 1 [] (kp [0,3,9,10]) (kq [0,1,2,3,4,5]) 6 pn (sO _ _ _ h E hE)
theorem sP (N C0 bq b7 df dk dm dd C1 C2 C3 C4 C5 fuel):nD N C0 bq b7 df dk dm dd C1 C2 C3 C4 C5 (bC N C0 bq b7 df dk dm dd C1 C2 C3 C4 C5 fuel):=by
 induction fuel with
 | zero=>intro _ _ r h;rw [bC.eq_1] at h;cases h
 | succ fuel ih =>
  intro dC x r h E hE
  rw [bC.eq_2] at h
  refine ae hE 1 [] [] (kp [0,3,9,10,11]) (kq [0,1,2,3,4,5]) 22 pn ?_
  refine dr 1 11 h (fun ee h=>?_) (fun ee h=>?_)
  ·refine ae hE 4 [] [] (kp [0,3,4,9,10]) (kq [0,1,2,3,4,5]) 54 pn ?_
   obtain ⟨c,h⟩:=ab h
   obtain ⟨aJ,hr,h⟩:=aP h
   obtain ⟨c2,h⟩:=ab h
   obtain ⟨c3,h⟩:=ab h
   refine ae hE 1 [(7,oT (aI aJ))] [] (kp [0,3,4,9,10,42]) (kq [0,1,2,3,4,5]) 534 (pc o1 (pc c (pc (dR c) (pc (qm _ _ _ hr) (pc (fun hg:(decide (aJ > 0))=true=>(pc hg pn)) (pc (fun hg:((decide (aJ > 0)) && ((decide (aJ > 0)) && (!(decide (dC < 0)))))=true=>(pc hg pn)) (pc (fun hg:((decide (aJ > 0)) && ((decide (aJ > 0)) && (!(decide (dC < 0)))))=true=>(pc hg pn)) (pc (fun hg:((decide (aJ > 0)) && ((decide (aJ > 0)) && (!(decide (dC < 0)))))=true=>(pc hg (pc o1 pn))) (pc (fun hg:((decide (aJ > 0)) && ((decide (aJ > 0)) && (!(decide (dC < 0)))))=true=>(pc hg (pc hg (pc (c2 hg) pn)))) (pc (fun hg:((decide (aJ > 0)) && ((decide (aJ > 0)) && (!(decide (dC < 0)))))=true=>(pc hg (pc (dR (c2 hg)) pn))) (pc (fun hg:((decide (aJ > 0)) && ((decide (aJ > 0)) && (!(decide (dC < 0)))))=true=>(pc hg pn)) (pc (fun hg:((decide (aJ > 0)) && ((decide (aJ > 0)) && (!(decide (dC < 0)))))=true=>(pc hg pn)) (pc (fun hg:((decide (aJ > 0)) && ((decide (aJ > 0)) && (!(decide (dC < 0)))))=true=>(pc hg (pc o1 pn))) (pc (fun hg:((decide (aJ > 0)) && ((decide (aJ > 0)) && (!(decide (dC < 0)))))=true=>(pc hg (pc hg (pc (c3 hg) pn)))) (pc (fun hg:((decide (aJ > 0)) && ((decide (aJ > 0)) && (!(decide (dC < 0)))))=true=>(pc hg (pc (dR (c3 hg)) pn))) (pc (fun hg:((decide (aJ > 0)) && ((decide (aJ > 0)) && (!(decide (dC < 0)))))=true=>(pc hg (pc hg pn))) (pc (fun hg:(decide (aJ > 0))=true=>(pc hg (pc hg (pc (fun hq:(!(decide (dC < 0)))=true=>(pc (show ((decide (aJ > 0)) && ((decide (aJ > 0)) && (!(decide (dC < 0)))))=true from (mo hg (mo hg hq))) pn)) pn)))) (pc (fun hq:(decide (aJ > 0))=true=>(pc hq pn)) pn)))))))))))))))))) ?_
   refine dr 0 42 h (fun jq h=>?_) (fun jq h=>?_)
   ·refine ae hE 0 [] [] (kp [0,3,9,10]) (kq [0,1,2,3,4,5]) 566 pn ?_
    exact cP hE 1 [] (kp [0,3,9,10]) (kq [0,1,2,3,4,5]) 6 pn (m7 N _ _ _ _ _ _ _ _ _ _ _ _ _ _ ih _ _ h E hE)
   ·exact cP hE 2 [] (kp [0,3,9,10]) (kq [0,1,2,3,4,5]) 6 pn (m7 N _ _ _ _ _ _ _ _ _ _ _ _ _ _ ih _ _ h E hE)
  ·refine ae hE 2 [] [] (kp [2]) (kq [0,1,2,3,4,5]) 54 pn ?_
   obtain rfl:=cT h
   exact cZ hE 0 Tryz.f108 [] (kp [2]) (kq [0,1,2,3,4,5]) 54 pn [] pn
theorem uQ (N C0 bq b7 df dk dm dd C1 C2 C3 C4 C5 r) (h:kP N C0 bq b7 df dk dm dd C1 C2 C3 C4 C5=some r):Sd 108 [(.op 0 0 0)] [(0,vN 12 [(aI C0),(aI bq),(.os 1 0 C1.length),(.os 2 0 C2.length),(.os 3 0 C3.length),(.os 4 0 C4.length),(.os 5 0 C5.length),(aB b7),(eU df),(aB dk),(eU dm),(aI dd)]),(1,aO 1 cI 0 C1),(2,aO 1 cI 0 C2),(3,aM 4 ak aa.d C3),(4,aO 4 ak aa.d C4),(5,aO 4 ak aa.d C5)] 6 (aI r) [(0,vN 12 [(aI C0),(aI bq),(.os 1 0 C1.length),(.os 2 0 C2.length),(.os 3 0 C3.length),(.os 4 0 C4.length),(.os 5 0 C5.length),(aB b7),(eU df),(aB dk),(eU dm),(aI dd)]),(1,aO 1 cI 0 C1),(2,aO 1 cI 0 C2),(3,aM 4 ak aa.d C3),(4,aO 4 ak aa.d C4),(5,aO 4 ak aa.d C5)]:=by
 unfold kP at h
 refine g8 (fu:=Tryz.f108) (c:=K9 1) (nt:=46) (fun hm=>absurd hm (by decide)) ?_
 intro E hE
 refine ae hE 1 [] [] (kp [0]) (kq [0,1,2,3,4,5]) 22 pn ?_
 refine ae hE 1 [] [] (kp [0,3]) (kq [0,1,2,3,4,5]) 38 pn ?_
 refine ae hE 2 [] [] (kp [0,3,9,10]) (kq [0,1,2,3,4,5]) 134 (pc o1 pn) ?_
 exact cP hE 2 [] (kp [0,3,9,10]) (kq [0,1,2,3,4,5]) 6 pn (sP N _ _ _ _ _ _ _ _ _ _ _ _ N _ _ _ h E hE)
noncomputable abbrev Ds:=b8 Tryz.f109
def k6 (N:Nat) (j:Int) (C0:Int) (bq:Int) (b7:Bool) (df:List Int) (dk:Bool) (dm:List Int) (dd:Int) (C1:List Int) (C2:List Int) (C3:List (List aa)) (C4:List aa) (C5:List aa) (K:Int→aa→Int→Option (Int)):Prop:=∀ (dC:Int) (least:aa) (x:Int) (r:Int),K dC least x=some r→∀ E,bh E 6→aE Tryz.prog E 109 81 (aW E [(0,vN 12 [(aI C0),(aI bq),(.os 1 0 C1.length),(.os 2 0 C2.length),(.os 3 0 C3.length),(.os 4 0 C4.length),(.os 5 0 C5.length),(aB b7),(eU df),(aB dk),(eU dm),(aI dd)]),(1,aO 1 cI 0 C1),(2,aO 1 cI 0 C2),(3,aM 4 ak aa.d C3),(4,aO 4 ak aa.d C4),(5,aO 4 ak aa.d C5)] (aI r)) [.code (Ds 244),.inLoop (Ds 244),.inBlock 0,.code (Ds 31)] ⟨[(0,(.op 0 0 0)),(1,(aI j)),(5,(aI dC)),(6,(.op 6 0 0)),(14,(aI ((C1.length:Nat):Int))),(15,(aI x))],[(0,vN 12 [(aI C0),(aI bq),(.os 1 0 C1.length),(.os 2 0 C2.length),(.os 3 0 C3.length),(.os 4 0 C4.length),(.os 5 0 C5.length),(aB b7),(eU df),(aB dk),(eU dm),(aI dd)]),(1,aO 1 cI 0 C1),(2,aO 1 cI 0 C2),(3,aM 4 ak aa.d C3),(4,aO 4 ak aa.d C4),(5,aO 4 ak aa.d C5),(6,vO 4 (ak least))],7⟩
def ua (N:Nat) (j:Int) (C0:Int) (bq:Int) (b7:Bool) (df:List Int) (dk:Bool) (dm:List Int) (dd:Int) (C1:List Int) (C2:List Int) (C3:List (List aa)) (C4:List aa) (C5:List aa) (x:Int) (K:Int→aa→Option (Int)):Prop:=∀ (xC:Int) (bw:aa) (r:Int),K xC bw=some r→∀ E,bh E 6→aE Tryz.prog E 109 81 (aW E [(0,vN 12 [(aI C0),(aI bq),(.os 1 0 C1.length),(.os 2 0 C2.length),(.os 3 0 C3.length),(.os 4 0 C4.length),(.os 5 0 C5.length),(aB b7),(eU df),(aB dk),(eU dm),(aI dd)]),(1,aO 1 cI 0 C1),(2,aO 1 cI 0 C2),(3,aM 4 ak aa.d C3),(4,aO 4 ak aa.d C4),(5,aO 4 ak aa.d C5)] (aI r)) [.code (Ds 1959),.inLoop (Ds 244),.inBlock 0,.code (Ds 31)] ⟨[(0,(.op 0 0 0)),(1,(aI j)),(5,(aI xC)),(6,(.op 6 0 0)),(14,(aI ((C1.length:Nat):Int))),(15,(aI x))],[(0,vN 12 [(aI C0),(aI bq),(.os 1 0 C1.length),(.os 2 0 C2.length),(.os 3 0 C3.length),(.os 4 0 C4.length),(.os 5 0 C5.length),(aB b7),(eU df),(aB dk),(eU dm),(aI dd)]),(1,aO 1 cI 0 C1),(2,aO 1 cI 0 C2),(3,aM 4 ak aa.d C3),(4,aO 4 ak aa.d C4),(5,aO 4 ak aa.d C5),(6,vO 4 (ak bw))],7⟩
theorem kr (N:Nat) (j:Int) (C0:Int) (bq:Int) (b7:Bool) (df:List Int) (dk:Bool) (dm:List Int) (dd:Int) (C1:List Int) (C2:List Int) (C3:List (List aa)) (C4:List aa) (C5:List aa) (x:Int) (bS:Int→aa→Int→Option (Int)) (il:k6 N j C0 bq b7 df dk dm dd C1 C2 C3 C4 C5 bS):ua N j C0 bq b7 df dk dm dd C1 C2 C3 C4 C5 x (ef N j C0 bq b7 df dk dm dd C1 C2 C3 C4 C5 x bS):=by
 intro xC bw r h E hE
 unfold ef at h
 refine ae hE 0 [] [] (kp [0,1,5,6,14,15]) (kq [0,1,2,3,4,5,6]) 39 pn ?_
 exact cP hE 1 [] (kp [0,1,5,6,14,15]) (kq [0,1,2,3,4,5,6]) 7 pn (il _ _ _ _ h E hE)
def ub (N:Nat) (j:Int) (C0:Int) (bq:Int) (b7:Bool) (df:List Int) (dk:Bool) (dm:List Int) (dd:Int) (C1:List Int) (C2:List Int) (C3:List (List aa)) (C4:List aa) (C5:List aa) (dC:Int) (least:aa) (x:Int) (j3:aa) (K:Int→Option (Int)):Prop:=∀ (c7:Int) (r:Int),K c7=some r→∀ E,bh E 6→aE Tryz.prog E 109 81 (aW E [(0,vN 12 [(aI C0),(aI bq),(.os 1 0 C1.length),(.os 2 0 C2.length),(.os 3 0 C3.length),(.os 4 0 C4.length),(.os 5 0 C5.length),(aB b7),(eU df),(aB dk),(eU dm),(aI dd)]),(1,aO 1 cI 0 C1),(2,aO 1 cI 0 C2),(3,aM 4 ak aa.d C3),(4,aO 4 ak aa.d C4),(5,aO 4 ak aa.d C5)] (aI r)) [.code (Ds 250686),.code (Ds 250687),.inBlock 1,.code (Ds 1959),.inLoop (Ds 244),.inBlock 0,.code (Ds 31)] ⟨[(0,(.op 0 0 0)),(1,(aI j)),(5,(aI dC)),(6,(.op 6 0 0)),(7,(aI x)),(8,(.op 7 0 0)),(9,(aI c7)),(14,(aI ((C1.length:Nat):Int))),(15,(aI x))],[(0,vN 12 [(aI C0),(aI bq),(.os 1 0 C1.length),(.os 2 0 C2.length),(.os 3 0 C3.length),(.os 4 0 C4.length),(.os 5 0 C5.length),(aB b7),(eU df),(aB dk),(eU dm),(aI dd)]),(1,aO 1 cI 0 C1),(2,aO 1 cI 0 C2),(3,aM 4 ak aa.d C3),(4,aO 4 ak aa.d C4),(5,aO 4 ak aa.d C5),(6,vO 4 (ak least)),(7,vO 4 (ak j3))],8⟩
theorem nF (N:Nat) (j:Int) (C0:Int) (bq:Int) (b7:Bool) (df:List Int) (dk:Bool) (dm:List Int) (dd:Int) (C1:List Int) (C2:List Int) (C3:List (List aa)) (C4:List aa) (C5:List aa) (dC:Int) (least:aa) (x:Int) (j3:aa) (bS:Int→aa→Int→Option (Int)) (il:k6 N j C0 bq b7 df dk dm dd C1 C2 C3 C4 C5 bS):ub N j C0 bq b7 df dk dm dd C1 C2 C3 C4 C5 dC least x j3 (fb N j C0 bq b7 df dk dm dd C1 C2 C3 C4 C5 dC least x j3 bS):=by
 intro c7 r h E hE
 unfold fb at h
 obtain ⟨c8,h⟩:=ab h
 obtain ⟨c9,h⟩:=ab h
 refine ae hE 0 [] [] (kp [0,1,5,6,7,8,14,15,76]) (kq [0,1,2,3,4,5,6,7]) 376 (pc (fun hg:(!(decide (c7 < 0)))=true=>(pc hg pn)) (pc (fun hg:((!(decide (c7 < 0))) && ((!(decide (c7 < 0))) && (c7 == 0)))=true=>(pc hg pn)) (pc (fun hg:((!(decide (c7 < 0))) && ((!(decide (c7 < 0))) && (c7 == 0)))=true=>(pc hg pn)) (pc (fun hg:((!(decide (c7 < 0))) && ((!(decide (c7 < 0))) && (c7 == 0)))=true=>(pc hg (pc o1 pn))) (pc (fun hg:((!(decide (c7 < 0))) && ((!(decide (c7 < 0))) && (c7 == 0)))=true=>(pc hg (pc hg (pc (c8 hg) pn)))) (pc (fun hg:((!(decide (c7 < 0))) && ((!(decide (c7 < 0))) && (c7 == 0)))=true=>(pc hg (pc (dR (c8 hg)) pn))) (pc (fun hg:((!(decide (c7 < 0))) && ((!(decide (c7 < 0))) && (c7 == 0)))=true=>(pc hg pn)) (pc (fun hg:((!(decide (c7 < 0))) && ((!(decide (c7 < 0))) && (c7 == 0)))=true=>(pc hg pn)) (pc (fun hg:((!(decide (c7 < 0))) && ((!(decide (c7 < 0))) && (c7 == 0)))=true=>(pc hg (pc o1 pn))) (pc (fun hg:((!(decide (c7 < 0))) && ((!(decide (c7 < 0))) && (c7 == 0)))=true=>(pc hg (pc hg (pc (c9 hg) pn)))) (pc (fun hg:((!(decide (c7 < 0))) && ((!(decide (c7 < 0))) && (c7 == 0)))=true=>(pc hg (pc (dR (c9 hg)) pn))) (pc (fun hg:((!(decide (c7 < 0))) && ((!(decide (c7 < 0))) && (c7 == 0)))=true=>(pc hg (pc hg pn))) (pc (fun hg:(!(decide (c7 < 0)))=true=>(pc hg (pc hg (pc (fun hq:(c7 == 0)=true=>(pc (show ((!(decide (c7 < 0))) && ((!(decide (c7 < 0))) && (c7 == 0)))=true from (mo hg (mo hg hq))) pn)) pn)))) (pc (fun hq:(!(decide (c7 < 0)))=true=>(pc hq pn)) pn)))))))))))))) ?_
 refine dr 0 76 h (fun Dc h=>?_) (fun Dc h=>?_)
 ·refine ae hE 0 [] [] (kp [0,1,5,6,14,15]) (kq [0,1,2,3,4,5,6]) 440 (pc o1 (pc o1 pn)) ?_
  exact cP hE 1 [] (kp [0,1,5,6,14,15]) (kq [0,1,2,3,4,5,6]) 7 pn (kr N _ _ _ _ _ _ _ _ _ _ _ _ _ _ _ il _ _ _ h E hE)
 ·exact cP hE 2 [] (kp [0,1,5,6,14,15]) (kq [0,1,2,3,4,5,6]) 7 pn (kr N _ _ _ _ _ _ _ _ _ _ _ _ _ _ _ il _ _ _ h E hE)
theorem tk (N j C0 bq b7 df dk dm dd C1 C2 C3 C4 C5 fuel):k6 N j C0 bq b7 df dk dm dd C1 C2 C3 C4 C5 (bI N j C0 bq b7 df dk dm dd C1 C2 C3 C4 C5 fuel):=by
 induction fuel with
 | zero=>intro _ _ _ r h;rw [bI.eq_1] at h;cases h
 | succ fuel ih =>
  intro dC least x r h E hE
  rw [bI.eq_2] at h
  refine ae hE 1 [] [] (kp [0,1,5,6,14,15,16]) (kq [0,1,2,3,4,5,6]) 23 pn ?_
  refine dr 1 16 h (fun ee h=>?_) (fun ee h=>?_)
  ·refine ae hE 4 [] [] (kp [0,1,5,6,7,14,15]) (kq [0,1,2,3,4,5,6]) 55 pn ?_
   obtain ⟨c2,h⟩:=ab h
   refine RO 3 ((x).toNat) 4 ((C3.getD ((x).toNat) []).length) (fun zi=>ak ((C3.getD ((x).toNat) []).getD zi aa.d)) (pc c2 (pc (show aQ [] (mG C3) ((x).toNat)=mR 4 ak aa.d (C3.getD ((x).toNat) []) from rfl) pn)) ?_
   obtain ⟨c3,h⟩:=ab h
   obtain ⟨c4,h⟩:=ab h
   obtain ⟨aJ,hr,h⟩:=aP h
   refine ae hE 2 [(6,oF (.os 55 0 ((C3.getD ((x).toNat) []).length))),(10,oT (aI aJ))] [] (kp [0,1,5,6,7,14,15,29]) (kq [0,1,2] ++ [(3,.pT 3 (C3.length) [((x).toNat,55,(C3.getD ((x).toNat) []).length)] (mG C3))] ++ kq [4,5,6,55]) 263 (pc o1 (pc c3 (pc (dR c3) (pc (show (aQ [((x).toNat,55,(C3.getD ((x).toNat) []).length)] (mG C3) ((x).toNat))[0]?=some (.os 55 0 ((C3.getD ((x).toNat) []).length)) from (gO rfl)) (pc c4 (pc (dR c4) (pc (qm _ _ _ hr) (pc (Eq.refl C3.length) (pc (mC C3 [((x).toNat,55,(C3.getD ((x).toNat) []).length)]) (pc (iM C3) pn)))))))))) ?_
   refine Px 3 55 ((x).toNat) (pc c2 (pc (show aQ [((x).toNat,55,(C3.getD ((x).toNat) []).length)] (mG C3) ((x).toNat)=[.os 55 0 (C3.getD ((x).toNat) []).length] from if_pos rfl) (pc (show ∀ zj,zj < (C3.getD ((x).toNat) []).length→nB (ak ((C3.getD ((x).toNat) []).getD zj aa.d))=true from fun _ _=>rfl) pn))) ?_
   refine Pw hE [] (kp [0,1,5,6,7,14,15,29]) (kq [0,1,2] ++ [(3,.pT 3 (C3.length) [] (mG C3))] ++ kq [4,5,6]) 263 (pc (Eq.refl (C3.length)) (pc (uB (sz:=4) (c:=ak) (d:=aa.d) C3 ((x).toNat) 55 ((C3.getD ((x).toNat) []).length) [] EN) (pc (iM C3) pn))) ?_
   refine dr 0 29 h (fun jq h=>?_) (fun jq h=>?_)
   ·exact cP hE 1 [] (kp [0,1,5,6,14,15]) (kq [0,1,2,3,4,5,6]) 7 pn (kr N _ _ _ _ _ _ _ _ _ _ _ _ _ _ _ ih _ _ _ h E hE)
   ·refine RO 3 ((x).toNat) 4 ((C3.getD ((x).toNat) []).length) (fun zi=>ak ((C3.getD ((x).toNat) []).getD zi aa.d)) (pc c2 (pc (show aQ [] (mG C3) ((x).toNat)=mR 4 ak aa.d (C3.getD ((x).toNat) []) from rfl) pn)) ?_
    obtain ⟨c6,h⟩:=ab h
    obtain ⟨aV,eI,h⟩:=aP h
    obtain ⟨j3,kc,h⟩:=aP h
    refine ae hE 2 [(13,oF (.os 263 0 ((C3.getD ((x).toNat) []).length))),(17,oT (.agg (ak aV))),(18,oT (.agg (ak j3)))] [] (kp [0,1,5,6,7,8,14,15]) (kq [0,1,2] ++ [(3,.pT 3 (C3.length) [((x).toNat,263,(C3.getD ((x).toNat) []).length)] (mG C3))] ++ kq [4,5,6,263,583]) 615 (pc o1 (pc c6 (pc (dR c6) (pc o1 (pc c3 (pc (dR c3) (pc (show (aQ [((x).toNat,263,(C3.getD ((x).toNat) []).length)] (mG C3) ((x).toNat))[0]?=some (.os 263 0 ((C3.getD ((x).toNat) []).length)) from (gO rfl)) (pc c4 (pc (dR c4) (pc (kx _ _ _ eI) (pc (tA _ _ _ _ kc) (pc o1 (pc (Eq.refl C3.length) (pc (mC C3 [((x).toNat,263,(C3.getD ((x).toNat) []).length)]) (pc (iM C3) pn))))))))))))))) ?_
    refine Px 3 263 ((x).toNat) (pc c2 (pc (show aQ [((x).toNat,263,(C3.getD ((x).toNat) []).length)] (mG C3) ((x).toNat)=[.os 263 0 (C3.getD ((x).toNat) []).length] from if_pos rfl) (pc (show ∀ zj,zj < (C3.getD ((x).toNat) []).length→nB (ak ((C3.getD ((x).toNat) []).getD zj aa.d))=true from fun _ _=>rfl) pn))) ?_
    refine Pw hE [] (kp [0,1,5,6,7,8,14,15]) (kq [0,1,2] ++ [(3,.pT 3 (C3.length) [] (mG C3))] ++ kq [4,5,6,583]) 615 (pc (Eq.refl (C3.length)) (pc (uB (sz:=4) (c:=ak) (d:=aa.d) C3 ((x).toNat) 263 ((C3.getD ((x).toNat) []).length) [] EN) (pc (iM C3) pn))) ?_
    refine ae hE 1 [] [] (kp [0,1,5,6,7,8,9,14,15]) (kq [0,1,2,3,4,5,6,583]) 631 pn ?_
    refine ae hE 2 [] [] (kp [0,1,5,6,7,8,9,14,15,50]) (kq [0,1,2,3,4,5,6,583]) 663 pn ?_
    refine dr 0 50 h (fun ti h=>?_) (fun ti h=>?_)
    ·obtain ⟨pz,nw,h⟩:=aP h
     refine ae hE 0 [(2,oT (aI pz))] [] (kp [0,1,5,6,7,8,9,14,15]) (kq [0,1,2,3,4,5,6,583]) 727 (pc o1 (pc o1 (pc (zw _ _ _ _ nw) pn))) ?_
     exact cP hE 1 [] (kp [0,1,5,6,7,8,9,14,15]) (kq [0,1,2,3,4,5,6] ++ [(7,.ah 583)]) 8 pn (nF N _ _ _ _ _ _ _ _ _ _ _ _ _ _ _ _ _ _ ih _ _ h E hE)
    ·exact cP hE 2 [] (kp [0,1,5,6,7,8,9,14,15]) (kq [0,1,2,3,4,5,6] ++ [(7,.ah 583)]) 8 pn (nF N _ _ _ _ _ _ _ _ _ _ _ _ _ _ _ _ _ _ ih _ _ h E hE)
  ·refine ae hE 2 [] [] (kp [4]) (kq [0,1,2,3,4,5]) 55 pn ?_
   obtain rfl:=cT h
   exact cZ hE 0 Tryz.f109 [] (kp [4]) (kq [0,1,2,3,4,5]) 55 pn [] pn
theorem vS (N j C0 bq b7 df dk dm dd C1 C2 C3 C4 C5 r) (h:lh N j C0 bq b7 df dk dm dd C1 C2 C3 C4 C5=some r):Sd 109 [(.op 0 0 0),(aI j)] [(0,vN 12 [(aI C0),(aI bq),(.os 1 0 C1.length),(.os 2 0 C2.length),(.os 3 0 C3.length),(.os 4 0 C4.length),(.os 5 0 C5.length),(aB b7),(eU df),(aB dk),(eU dm),(aI dd)]),(1,aO 1 cI 0 C1),(2,aO 1 cI 0 C2),(3,aM 4 ak aa.d C3),(4,aO 4 ak aa.d C4),(5,aO 4 ak aa.d C5)] 6 (aI r) [(0,vN 12 [(aI C0),(aI bq),(.os 1 0 C1.length),(.os 2 0 C2.length),(.os 3 0 C3.length),(.os 4 0 C4.length),(.os 5 0 C5.length),(aB b7),(eU df),(aB dk),(eU dm),(aI dd)]),(1,aO 1 cI 0 C1),(2,aO 1 cI 0 C2),(3,aM 4 ak aa.d C3),(4,aO 4 ak aa.d C4),(5,aO 4 ak aa.d C5)]:=by
 unfold lh at h
 refine g8 (fu:=Tryz.f109) (c:=Ds 1) (nt:=81) (fun hm=>absurd hm (by decide)) ?_
 intro E hE
 refine ae hE 1 [] [] (kp [0,1]) (kq [0,1,2,3,4,5]) 22 pn ?_
 refine ae hE 1 [] [] (kp [0,1,5]) (kq [0,1,2,3,4,5]) 38 pn ?_
 refine ae hE 1 [] [] (kp [0,1,5,6]) (kq [0,1,2,3,4,5,38]) 54 pn ?_
 refine ae hE 2 [] [] (kp [0,1,5,6,14,15]) (kq [0,1,2,3,4,5,38]) 150 (pc o1 pn) ?_
 exact cP hE 2 [] (kp [0,1,5,6,14,15]) (kq [0,1,2,3,4,5] ++ [(6,.var 38 [.ah,.sl (([]:List Int).length) (fun zi=>(cU .u16) (([]:List Int).getD zi 0)),.ah,.sl (([]:List Int).length) (fun zi=>(cU .u16) (([]:List Int).getD zi 0))])]) 7 (pc (Eq.refl 0) (pc (Eq.refl 0) pn)) (tk N _ _ _ _ _ _ _ _ _ _ _ _ _ N _ _ _ _ h E hE)
noncomputable abbrev UK:=b8 Tryz.f73
def vT (N:Nat) (K:Int→Int→(List Int)→(List Int)→(List (List aa))→(List aa)→(List aa)→Bool→(List Int)→Bool→(List Int)→Int→Option (Int×ly×(List Int)×(List Int)×(List (List aa))×(List aa)×(List aa))):Prop:=∀ (bV:Int) (nQ:Int) (lf:List Int) (po:List Int) (gp:List (List aa)) (pU:List aa) (pV:List aa) (td:Bool) (tf:List Int) (yV:Bool) (yW:List Int) (xD:Int) (r:Int×ly×(List Int)×(List Int)×(List (List aa))×(List aa)×(List aa)),K bV nQ lf po gp pU pV td tf yV yW xD=some r→∀ E,bh E 6→aE Tryz.prog E 73 19 (aW E [(0,vN 12 [(aI r.2.1.wN),(aI r.2.1.wO),(.os 1 0 r.2.2.1.length),(.os 2 0 r.2.2.2.1.length),(.os 3 0 r.2.2.2.2.1.length),(.os 4 0 r.2.2.2.2.2.1.length),(.os 5 0 r.2.2.2.2.2.2.length),(aB r.2.1.aj.fN.fG),(eU r.2.1.aj.fN.fL),(aB r.2.1.aj.fD.fG),(eU r.2.1.aj.fD.fL),(aI r.2.1.cg)]),(1,aO 1 cI 0 r.2.2.1),(2,aO 1 cI 0 r.2.2.2.1),(3,aM 4 ak aa.d r.2.2.2.2.1),(4,aO 4 ak aa.d r.2.2.2.2.2.1),(5,aO 4 ak aa.d r.2.2.2.2.2.2)] (aI r.1)) [.code (UK 12),.inLoop (UK 12),.inBlock 0] ⟨[(0,(.op 0 0 0))],[(0,vN 12 [(aI bV),(aI nQ),(.os 1 0 lf.length),(.os 2 0 po.length),(.os 3 0 gp.length),(.os 4 0 pU.length),(.os 5 0 pV.length),(aB td),(eU tf),(aB yV),(eU yW),(aI xD)]),(1,aO 1 cI 0 lf),(2,aO 1 cI 0 po),(3,aM 4 ak aa.d gp),(4,aO 4 ak aa.d pU),(5,aO 4 ak aa.d pV)],6⟩
theorem uR (N fuel):vT N (dy N fuel):=by
 induction fuel with
 | zero=>intro _ _ _ _ _ _ _ _ _ _ _ _ r h;rw [dy.eq_1] at h;cases h
 | succ fuel ih =>
  intro bV nQ lf po gp pU pV td tf yV yW xD r h E hE
  rw [dy.eq_2] at h
  obtain ⟨sa,hr,h⟩:=aP h
  refine ae hE 2 [(1,⟨[0,1,2,3,4,5],true,(aI sa),[],0,false,none⟩)] [] (kp [0,3]) (kq [0,1,2,3,4,5]) 54 (pc (uQ _ _ _ _ _ _ _ _ _ _ _ _ _ _ hr) (pc (iM gp) pn)) ?_
  refine ae hE 2 [] [] (kp [0,3,8]) (kq [0,1,2,3,4,5]) 86 pn ?_
  refine dr 0 8 h (fun ee h=>?_) (fun ee h=>?_)
  ·refine ae hE 1 [] [] (kp [2]) (kq [0,1,2,3,4,5]) 102 pn ?_
   obtain rfl:=cT h
   exact cZ hE 0 Tryz.f73 [] (kp [2]) (kq [0,1,2,3,4,5]) 102 pn [] pn
  ·obtain ⟨AP,eI,h⟩:=aP h
   refine ae hE 2 [(2,⟨[0,1,2,3,4,5],true,(aI AP),[],0,false,none⟩)] [] (kp [0,3,4]) (kq [0,1,2,3,4,5]) 150 (pc (vS _ _ _ _ _ _ _ _ _ _ _ _ _ _ _ eI) (pc (iM gp) pn)) ?_
   refine ae hE 2 [] [] (kp [0,3,4,13]) (kq [0,1,2,3,4,5]) 182 pn ?_
   refine dr 0 13 h (fun jq h=>?_) (fun jq h=>?_)
   ·refine ae hE 1 [] [] (kp [2]) (kq [0,1,2,3,4,5]) 214 pn ?_
    obtain rfl:=cT h
    exact cZ hE 0 Tryz.f73 [] (kp [2]) (kq [0,1,2,3,4,5]) 214 pn [] pn
   ·obtain ⟨bp,kc,h⟩:=aP h
    obtain ⟨c,h⟩:=ab h
    obtain ⟨c2,h⟩:=ab h
    obtain ⟨c3,h⟩:=ab h
    obtain ⟨c4,h⟩:=ab h
    obtain ⟨c5,h⟩:=ab h
    refine ae hE 1 [(3,⟨[0,1,2,3,4,5],false,(.tup []),[(0,vN 12 [(aI bp.1.wN),(aI bp.1.wO),(.os 1 0 bp.2.1.length),(.os 2 0 bp.2.2.1.length),(.os 3 0 bp.2.2.2.1.length),(.os 4 0 bp.2.2.2.2.1.length),(.os 5 0 bp.2.2.2.2.2.length),(aB bp.1.aj.fN.fG),(eU bp.1.aj.fN.fL),(aB bp.1.aj.fD.fG),(eU bp.1.aj.fD.fL),(aI bp.1.cg)]),(1,aO 1 cI 0 bp.2.1),(2,aO 1 cI 0 bp.2.2.1),(3,aM 4 ak aa.d bp.2.2.2.1),(4,aO 4 ak aa.d bp.2.2.2.2.1),(5,aO 4 ak aa.d bp.2.2.2.2.2)],0,false,none⟩)] [] (kp [0]) (kq [0,1,2,3,4,5]) 246 (pc (m6 _ _ _ _ _ _ _ _ _ _ _ _ _ _ _ _ kc) pn) ?_
    exact cP hE 2 [] (kp [0]) (kq [0,1,2,3,4,5]) 6 pn (ih _ _ _ _ _ _ _ _ _ _ _ _ _ h E hE)
theorem xQ (N C0 bq b7 df dk dm dd C1 C2 C3 C4 C5 r) (h:pA N C0 bq b7 df dk dm dd C1 C2 C3 C4 C5=some r):Sd 73 [(.op 0 0 0)] [(0,vN 12 [(aI C0),(aI bq),(.os 1 0 C1.length),(.os 2 0 C2.length),(.os 3 0 C3.length),(.os 4 0 C4.length),(.os 5 0 C5.length),(aB b7),(eU df),(aB dk),(eU dm),(aI dd)]),(1,aO 1 cI 0 C1),(2,aO 1 cI 0 C2),(3,aM 4 ak aa.d C3),(4,aO 4 ak aa.d C4),(5,aO 4 ak aa.d C5)] 6 (aI r.1) [(0,vN 12 [(aI r.2.1.wN),(aI r.2.1.wO),(.os 1 0 r.2.2.1.length),(.os 2 0 r.2.2.2.1.length),(.os 3 0 r.2.2.2.2.1.length),(.os 4 0 r.2.2.2.2.2.1.length),(.os 5 0 r.2.2.2.2.2.2.length),(aB r.2.1.aj.fN.fG),(eU r.2.1.aj.fN.fL),(aB r.2.1.aj.fD.fG),(eU r.2.1.aj.fD.fL),(aI r.2.1.cg)]),(1,aO 1 cI 0 r.2.2.1),(2,aO 1 cI 0 r.2.2.2.1),(3,aM 4 ak aa.d r.2.2.2.2.1),(4,aO 4 ak aa.d r.2.2.2.2.2.1),(5,aO 4 ak aa.d r.2.2.2.2.2.2)]:=by
 unfold pA at h
 refine g8 (fu:=Tryz.f73) (c:=UK 1) (nt:=19) (fun hm=>absurd hm (by decide)) ?_
 intro E hE
 refine ae hE 1 [] [] (kp [0]) (kq [0,1,2,3,4,5]) 22 pn ?_
 exact cP hE 2 [] (kp [0]) (kq [0,1,2,3,4,5]) 6 pn (uR N N _ _ _ _ _ _ _ _ _ _ _ _ _ h E hE)
noncomputable abbrev R5:=b8 Tryz.f75
def rO (N:Nat) (s:List Int) (v:Int) (K:Int→Option (Int)):Prop:=∀ (x:Int) (r:Int),K x=some r→∀ E,bh E 0→aE Tryz.prog E 75 19 (aW E [] (aI r)) [.code (R5 52),.inLoop (R5 52),.inBlock 0,.code (R5 7)] ⟨[(0,(aH cI 0 s)),(1,(aI v)),(7,(aI ((s.length:Nat):Int))),(8,(aI x))],[],0⟩
theorem q8 (N s v fuel):rO N s v (cb N s v fuel):=by
 induction fuel with
 | zero=>intro _ r h;rw [cb.eq_1] at h;cases h
 | succ fuel ih =>
  intro x r h E hE
  rw [cb.eq_2] at h
  refine ae hE 1 [] [] (kp [0,1,7,8,9]) [] 16 pn ?_
  refine dr 1 9 h (fun ee h=>?_) (fun ee h=>?_)
  ·refine ae hE 4 [] [] (kp [0,1,5,7,8]) [] 48 pn ?_
   obtain ⟨c,h⟩:=ab h
   refine ae hE 1 [] [] (kp [0,1,5,7,8,16]) [] 144 (pc c pn) ?_
   refine dr 0 16 h (fun jq h=>?_) (fun jq h=>?_)
   ·refine ae hE 1 [] [] (kp [4]) [] 176 pn ?_
    obtain rfl:=cT h
    exact cZ hE 0 Tryz.f75 [] (kp [4]) [] 176 pn [] pn
   ·refine ae hE 2 [] [] (kp [0,1,7,8]) [] 176 pn ?_
    exact cP hE 1 [] (kp [0,1,7,8]) [] 0 pn (ih _ _ h E hE)
  ·refine ae hE 2 [] [] (kp [4]) [] 32 pn ?_
   obtain rfl:=cT h
   exact cZ hE 0 Tryz.f75 [] (kp [4]) [] 48 pn [] pn
theorem im (N s v r) (h:eh N s v=some r):Sd 75 [(aH cI 0 s),(aI v)] [] 0 (aI r) []:=by
 unfold eh at h
 refine g8 (fu:=Tryz.f75) (c:=R5 1) (nt:=19) (fun hm=>rfl) ?_
 intro E hE
 refine ae hE 1 [] [] (kp [0,1]) [] 16 pn ?_
 refine ae hE 2 [] [] (kp [0,1,7,8]) [] 64 pn ?_
 exact cP hE 2 [] (kp [0,1,7,8]) [] 0 pn (q8 N _ _ N _ _ h E hE)
noncomputable abbrev Zi:=b8 Tryz.f77
theorem uS (N x r) (h:kQ N x=some r):Sd 77 [(.agg (ak x))] [] 0 (aB r) []:=by
 unfold kQ at h
 refine g8 (fu:=Tryz.f77) (c:=Zi 1) (nt:=6) (fun hm=>rfl) ?_
 intro E hE
 refine ae hE 1 [] [] (kp [1]) (kq [0]) 32 pn ?_
 obtain ⟨fT,hr,h⟩:=aP h
 refine ae hE 1 [(1,oT (aB fT))] [] (kp [2]) [] 96 (pc o1 (pc (iT _ _ _ hr) pn)) ?_
 obtain rfl:=cT h
 exact cZ hE 0 Tryz.f77 [] (kp [2]) [] 96 pn [] pn
end Go.Den
