/- Each function of the program does what its Lean function computes (part 1). No conditions. -/
import Derived.Test.YtlgddcmiekcdiaaGreatBerthHoldsDen
import Derived.Test.YtlgddcmiekcdiaaGreatProg
set_option linter.unusedVariables false
set_option maxRecDepth 100000
namespace Go.Den
open Go.Ab Go.Proofs Go.Ab.az
abbrev Sd:=Sound Tryz.prog
abbrev eU (a:List Int):AV:=aD (cU .u16) 0 a
abbrev aU (a:List Int):Ob:=aO 1 (cU .u16) 0 a
abbrev FQ (x:Int):AV:=.atom (.int .u64 x)
abbrev Nc (x:Int):AV:=.atom (.int .u32 x)
abbrev uG (x:Int):AV:=.atom (.int .u16 x)
theorem eL {P:Program} {f:FuncId} {fu:Func} {c:Code} {nt m:Nat} {args:List AV} {σ dm:cz} {res:AV} (hs:m=0→σ=[]) (h:∀ E,a3 E m→az P E f nt (aQ E dm res) [.code c] ⟨xu args 0,σ,m⟩) (hf:P.funcs[f]?=some fu:=by kernel_rfl) (hb:fu.body=some c:=by kernel_rfl) (hn:fu.ntmps=nt:=by kernel_rfl) (ha:Nat.ble args.length nt=true:=by kernel_rfl):Sound P f args σ m res dm:=Wg hf hb hn ha hs h
noncomputable def bu (f:Func) (n:Nat):Code:=cat (Pm f) (Wh n)
abbrev oT (x:AV):l8:=⟨[],true,x,[],0,false,none⟩
abbrev oF (x:AV):l8:=⟨[],false,x,[],0,false,none⟩
abbrev aZ (n:Nat) (g:Nat→List AV):∀ i,i < n→g i=g (a8 0 i):=fun _ _=>rfl
abbrev mG (C:List (List aa)):Nat→List AV:=fun zm=>mR 4 ai aa.d (C.getD zm [])
theorem mC (C:List (List aa)) (l:List (Nat×Nat×Nat)):∀ zm,zm < C.length→aJ l (mG C) zm=aJ l (mG C) zm:=fun _ _=>rfl
theorem iM (C:List (List aa)):∀ zm,zm < C.length→BW (mG C zm)=true:=fun _ _=>rfl
theorem bQ {α:Type} {a b:α} (h:some a=some b):a=b:=Option.some.inj h
noncomputable abbrev Wq:=bu Tryz.f67
theorem xI (N vr C0 r) (h:oG N vr C0=some r):Sd 67 [(.agg (uf vr)),(.op 0 0 0)] [(0,vO 1 [(aI C0)])] 1 (aB r) [(0,vO 1 [(aI C0)])]:=by
 unfold oG at h
 refine eL (fu:=Tryz.f67) (c:=Wq 1) (nt:=9) (fun hm=>absurd hm (by decide)) ?_
 intro E hE
 refine ae hE 1 [] [] (kp [1,2]) (kq [0,1]) 33 pn ?_
 refine ae hE 1 [] [] (kp [3]) (kq [0]) 129 (pc o1 (pc o1 pn)) ?_
 obtain rfl:=bQ h
 exact bV hE 0 Tryz.f67 [] (kp [3]) (kq [0]) 129 pn [] pn
noncomputable abbrev R1:=bu Tryz.f103
def pF (N:Nat) (s:List ag) (C0:Int) (K:Int→Option (Int)):Prop:=∀ (x:Int) (r:Int),K x=some r→∀ E,a3 E 1→az Tryz.prog E 103 19 (aQ E [(0,vO 1 [(aI C0)])] (aI r)) [.code (R1 52),.inLoop (R1 52),.inBlock 0,.code (R1 7)] ⟨[(0,(aD uf ag.d s)),(1,(.fn (.func 67) [] [(.op 0 0 0)])),(7,(aI ((s.length:Nat):Int))),(8,(aI x))],[(0,vO 1 [(aI C0)])],1⟩
theorem oM (N s C0 fuel):pF N s C0 (dM N s C0 fuel):=by
 induction fuel with
 | zero=>intro _ r h;rw [dM.eq_1] at h;cases h
 | succ fuel ih =>
  intro x r h E hE
  rw [dM.eq_2] at h
  refine ae hE 1 [] [] (kp [0,1,7,8,9]) (kq [0]) 17 pn ?_
  refine ct 1 9 h (fun cR h=>?_) (fun cR h=>?_)
  ·refine ae hE 4 [] [] (kp [0,1,5,7,8]) (kq [0]) 49 pn ?_
   obtain ⟨c,h⟩:=ab h
   obtain ⟨vp,hr,h⟩:=aG h
   refine ae hE 1 [(5,⟨[0],true,(aB vp),[],0,false,none⟩)] [] (kp [0,1,5,7,8,16]) (kq [0]) 145 (pc c (pc (xI _ _ _ _ hr) pn)) ?_
   refine ct 0 16 h (fun gB h=>?_) (fun gB h=>?_)
   ·refine ae hE 1 [] [] (kp [4]) (kq [0]) 177 pn ?_
    obtain rfl:=bQ h
    exact bV hE 0 Tryz.f103 [] (kp [4]) (kq [0]) 177 pn [] pn
   ·refine ae hE 2 [] [] (kp [0,1,7,8]) (kq [0]) 177 pn ?_
    exact b5 hE 1 [] (kp [0,1,7,8]) (kq [0]) 1 pn (ih _ _ h E hE)
  ·refine ae hE 2 [] [] (kp [4]) (kq [0]) 33 pn ?_
   obtain rfl:=bQ h
   exact bV hE 0 Tryz.f103 [] (kp [4]) (kq [0]) 49 pn [] pn
theorem qQ (N s C0 r) (h:jY N s C0=some r):Sd 103 [(aD uf ag.d s),(.fn (.func 67) [] [(.op 0 0 0)])] [(0,vO 1 [(aI C0)])] 1 (aI r) [(0,vO 1 [(aI C0)])]:=by
 unfold jY at h
 refine eL (fu:=Tryz.f103) (c:=R1 1) (nt:=19) (fun hm=>absurd hm (by decide)) ?_
 intro E hE
 refine ae hE 1 [] [] (kp [0,1]) (kq [0]) 17 pn ?_
 refine ae hE 2 [] [] (kp [0,1,7,8]) (kq [0]) 65 pn ?_
 exact b5 hE 2 [] (kp [0,1,7,8]) (kq [0]) 1 pn (oM N _ _ N _ _ h E hE)
noncomputable abbrev Wr:=bu Tryz.f66
theorem oN (N s C0 r) (h:iK N s C0=some r):Sd 66 [(aD uf ag.d s),(.fn (.func 67) [] [(.op 0 0 0)])] [(0,vO 1 [(aI C0)])] 1 (aB r) [(0,vO 1 [(aI C0)])]:=by
 unfold iK at h
 refine eL (fu:=Tryz.f66) (c:=Wr 1) (nt:=9) (fun hm=>absurd hm (by decide)) ?_
 intro E hE
 refine ae hE 1 [] [] (kp [0,1]) (kq [0]) 17 pn ?_
 obtain ⟨HJ,hr,h⟩:=aG h
 refine ae hE 1 [(2,⟨[0],true,(aI HJ),[],0,false,none⟩)] [] (kp [4]) (kq [0]) 97 (pc (qQ _ _ _ _ hr) pn) ?_
 obtain rfl:=bQ h
 exact bV hE 0 Tryz.f66 [] (kp [4]) (kq [0]) 97 pn [] pn
noncomputable abbrev Ws:=bu Tryz.f32
theorem zS (N n l r) (h:rD N n l=some r):Sd 32 [(aI n),(aD uf ag.d l)] [] 0 (aI r) []:=by
 unfold rD at h
 refine eL (fu:=Tryz.f32) (c:=Ws 1) (nt:=17) (fun hm=>rfl) ?_
 intro E hE
 refine ae hE 1 [] [] (kp [1,2]) (kq [0]) 32 pn ?_
 refine ae hE 2 [] [] (kp [1,2,10]) (kq [0]) 128 (pc o1 (pc (fun hg:(!(decide (n < 0)))=true=>(pc o1 pn)) (pc (fun hg:(!(decide (n < 0)))=true=>(pc hg pn)) (pc (fun hq:(!(decide (n < 0)))=true=>(pc hq pn)) pn)))) ?_
 refine ct 0 10 h (fun cR h=>?_) (fun cR h=>?_)
 ·refine ae hE 1 [] [] (kp [4]) [] 144 pn ?_
  obtain rfl:=bQ h
  exact bV hE 0 Tryz.f32 [] (kp [4]) [] 144 pn [] pn
 ·refine ae hE 3 [] [] (kp [1,2,13]) (kq [0]) 176 pn ?_
  refine ct 0 13 h (fun gB h=>?_) (fun gB h=>?_)
  ·refine ae hE 1 [] [] (kp [4]) [] 192 pn ?_
   obtain rfl:=bQ h
   exact bV hE 0 Tryz.f32 [] (kp [4]) [] 192 pn [] pn
  ·obtain ⟨HJ,hr,h⟩:=aG h
   refine ae hE 3 [(2,⟨[0],true,(aB HJ),[],0,false,none⟩)] [] (kp [16]) [] 224 (pc (oN _ _ _ _ hr) pn) ?_
   refine ct 0 16 h (fun qp h=>?_) (fun qp h=>?_)
   ·refine ae hE 1 [] [] (kp [4]) [] 240 pn ?_
    obtain rfl:=bQ h
    exact bV hE 0 Tryz.f32 [] (kp [4]) [] 240 pn [] pn
   ·refine ae hE 2 [] [] (kp [4]) [] 240 pn ?_
    obtain rfl:=bQ h
    exact bV hE 0 Tryz.f32 [] (kp [4]) [] 240 pn [] pn
noncomputable abbrev R2:=bu Tryz.f115
def zT (N:Nat) (K:Int→(List Int)→Option ((List Int))):Prop:=∀ (n2:Int) (out:List Int) (r:(List Int)),K n2 out=some r→∀ E,a3 E 0→az Tryz.prog E 115 14 (aQ E [] (eU r)) [.code (R2 56),.inLoop (R2 56),.inBlock 0,.code (R2 15)] ⟨[(0,(FQ n2)),(3,(.os 0 0 out.length))],[(0,aU out)],1⟩
theorem yE (N fuel):zT N (ic N fuel):=by
 induction fuel with
 | zero=>intro _ _ r h;rw [ic.eq_1] at h;cases h
 | succ fuel ih =>
  intro n2 out r h E hE
  rw [ic.eq_2] at h
  refine ae hE 2 [] [] (kp [0,3,5]) (kq [0]) 33 pn ?_
  refine ct 0 5 h (fun cR h=>?_) (fun cR h=>?_)
  ·obtain ⟨c,h⟩:=ab h
   refine ae hE 3 [] [] (kp [0] ++ [(3,.ja ((out ++ ([(IntKind.u16.wrap (n2))]:List Int)).length))]) [(97,.arr 97 ((out ++ ([(IntKind.u16.wrap (n2))]:List Int)).length) (fun zi=>(cU .u16) ((out ++ ([(IntKind.u16.wrap (n2))]:List Int)).getD zi 0)))] 129 (pc (Eq.refl out.length) (pc c (pc (z1 1) (pc (show ∀ zi,zi < 1→AV.fx ((fun zi=>([[(uG (IntKind.u16.wrap (n2)))]]:List (List AV)).getD zi []) (a8 0 zi))=true from (om rfl)) (pc (show (out.length+1)=(out ++ ([(IntKind.u16.wrap (n2))]:List Int)).length from (aw rfl rfl)) (pc (show out.length+1=(out ++ ([(IntKind.u16.wrap (n2))]:List Int)).length from (aw rfl rfl)) (pc (show ∀ zi,zi < (out ++ ([(IntKind.u16.wrap (n2))]:List Int)).length→(fun zi=>(cU .u16) ((out ++ ([(IntKind.u16.wrap (n2))]:List Int)).getD zi 0)) zi=((fun zm=>if zm < out.length then (fun zi=>(cU .u16) (out.getD zi 0)) zm else (fun zi=>([[(uG (IntKind.u16.wrap (n2)))]]:List (List AV)).getD zi []) (zm - out.length))) zi from (bk (cU .u16) 0 out ([(IntKind.u16.wrap (n2))]:List Int) rfl (fun _ _=>rfl) (fun zq fb=>bE (cU .u16) 0 ([(IntKind.u16.wrap (n2))]:List Int) zq fb))) pn))))))) ?_
   refine ae hE 1 [] [] (kp [0,3]) (kq [97]) 177 (pc (show (0:Int)≤16 by decide) pn) ?_
   exact b5 hE 1 [] (kp [0,3]) [(0,.af 97)] 1 pn (ih _ _ _ h E hE)
  ·refine ae hE 2 [] [] (kp [2]) (kq [0]) 65 pn ?_
   obtain rfl:=bQ h
   exact bV hE 0 Tryz.f115 [0] [(2,.sl (out.length) (fun zi=>(cU .u16) (out.getD zi 0)))] [] 65 (pc (Eq.refl out.length) (pc (z1 out.length) (pc (aZ out.length (fun zi=>(cU .u16) (out.getD zi 0))) pn))) [] pn
theorem qq (N n r) (h:lg N n=some r):Sd 115 [(FQ n)] [] 0 (eU r) []:=by
 unfold lg at h
 refine eL (fu:=Tryz.f115) (c:=R2 1) (nt:=14) (fun hm=>rfl) ?_
 intro E hE
 refine ae hE 1 [] [] (kp [0]) [] 16 pn ?_
 refine ae hE 1 [] [] (kp [0,3]) [] 32 pn ?_
 exact b5 hE 3 [] (kp [0] ++ [(3,.mU 0)]) [(0,.nil 1 (fun zi=>(cU .u16) (([]:List Int).getD zi 0)))] 1 pn (yE N N _ _ _ h E hE)
noncomputable abbrev Nd:=bu Tryz.f122
def DA (N:Nat) (K:(List Int)→Option ((List Int))):Prop:=∀ (n2:List Int) (r:(List Int)),K n2=some r→∀ E,a3 E 0→az Tryz.prog E 122 21 (aQ E [] (eU r)) [.code (Nd 24),.inLoop (Nd 24),.inBlock 0,.code (Nd 7)] ⟨[(0,(eU n2))],[],0⟩
theorem CD (N fuel):DA N (lh N fuel):=by
 induction fuel with
 | zero=>intro _ r h;rw [lh.eq_1] at h;cases h
 | succ fuel ih =>
  intro n2 r h E hE
  rw [lh.eq_2] at h
  obtain ⟨c,h⟩:=ab h
  refine ae hE 2 [] [] (kp [0,14]) [] 192 (pc (fun hg:(decide (((n2.length:Nat):Int) > 0))=true=>(pc hg pn)) (pc (fun hg:(decide (((n2.length:Nat):Int) > 0))=true=>(pc hg pn)) (pc (fun hg:(decide (((n2.length:Nat):Int) > 0))=true=>(pc hg (pc hg (pc (c hg) pn)))) (pc (fun hg:(decide (((n2.length:Nat):Int) > 0))=true=>(pc hg pn)) (pc (fun hg:(decide (((n2.length:Nat):Int) > 0))=true=>(pc hg pn)) (pc (fun hq:(decide (((n2.length:Nat):Int) > 0))=true=>(pc hq pn)) pn)))))) ?_
  refine ct 0 14 h (fun cR h=>?_) (fun cR h=>?_)
  ·obtain ⟨c2,h⟩:=ab h
   obtain ⟨c3,h⟩:=ab h
   refine ae hE 2 [] [] [(0,.sl (((n2.take ((ah (((n2.length:Nat):Int) - 1)).toNat)).drop 0).length) (fun zi=>(cU .u16) (((n2.take ((ah (((n2.length:Nat):Int) - 1)).toNat)).drop 0).getD zi 0)))] [] 288 (pc c2 (pc c3 (pc (show (ah (((n2.length:Nat):Int) - 1)).toNat - 0=((n2.take ((ah (((n2.length:Nat):Int) - 1)).toNat)).drop 0).length from (vn n2 0 ((ah (((n2.length:Nat):Int) - 1)).toNat) c2)) (pc (show ∀ zi,zi < ((n2.take ((ah (((n2.length:Nat):Int) - 1)).toNat)).drop 0).length→(fun zi=>(cU .u16) (((n2.take ((ah (((n2.length:Nat):Int) - 1)).toNat)).drop 0).getD zi 0)) zi=(fun zi=>(cU .u16) (n2.getD (a8 0 zi) 0)) zi from (fun zq fb=>BD (cU .u16) 0 n2 0 ((ah (((n2.length:Nat):Int) - 1)).toNat) zq fb)) pn)))) ?_
   exact b5 hE 2 [] (kp [0]) [] 0 pn (ih _ _ h E hE)
  ·refine ae hE 2 [] [] (kp [2]) [] 224 pn ?_
   obtain rfl:=bQ h
   exact bV hE 0 Tryz.f122 [] (kp [2]) [] 224 pn [] pn
theorem dy (N n r) (h:eR N n=some r):Sd 122 [(eU n)] [] 0 (eU r) []:=by
 unfold eR at h
 refine eL (fu:=Tryz.f122) (c:=Nd 1) (nt:=21) (fun hm=>rfl) ?_
 intro E hE
 refine ae hE 1 [] [] (kp [0]) [] 16 pn ?_
 exact b5 hE 3 [] (kp [0]) [] 0 pn (CD N N _ _ h E hE)
noncomputable abbrev Lx:=bu Tryz.f130
theorem jw (N s r) (h:cx N s=some r):Sd 130 [(eU s)] [] 0 (eU r) []:=by
 unfold cx at h
 refine eL (fu:=Tryz.f130) (c:=Lx 1) (nt:=8) (fun hm=>rfl) ?_
 intro E hE
 refine ae hE 1 [] [] (kp [0]) [] 16 pn ?_
 refine ae hE 2 [] [] (kp [0,4]) [] 48 pn ?_
 refine sA 0 [.code (Lx 13),.code (Lx 7)] ?_
 refine az.Pn (o:=.tmp 4) (x:=Lx 26) (y:=Lx 27) (n:=s.length) (by kernel_rfl) (by kernel_rfl) (fun cR=>?_) ?_
 ·replace cR:=List.length_eq_zero_iff.1 cR
  replace h:(some ([]:List Int))=some r:=by rw [cR] at h;simpa using h
  refine ae hE 1 [] [] (kp [2]) [] 64 pn ?_
  obtain rfl:=bQ h
  exact bV hE 0 Tryz.f130 [] [(2,.sl (([]:List Int).length) (fun zi=>(cU .u16) (([]:List Int).getD zi 0)))] [] 64 (pc (Eq.refl 0) pn) [] pn
 ·obtain ⟨c,h⟩:=ab h
  refine ae hE 2 [] [] [(2,.ja ((([]:List Int) ++ s).length))] [(80,.arr 80 ((([]:List Int) ++ s).length) (fun zi=>(cU .u16) ((([]:List Int) ++ s).getD zi 0)))] 112 (pc (Eq.refl 0) (pc c (pc (show ∀ zi,zi < s.length→AV.fx ((fun zi=>(cU .u16) (s.getD zi 0)) zi)=true from (fun _ _=>rfl)) (pc (show (0+s.length)=(([]:List Int) ++ s).length from (aw rfl rfl)) (pc (show 0+s.length=(([]:List Int) ++ s).length from (aw rfl rfl)) (pc (show ∀ zi,zi < (([]:List Int) ++ s).length→(fun zi=>(cU .u16) ((([]:List Int) ++ s).getD zi 0)) zi=((fun zm=>if zm < 0 then (fun _=>[]) zm else (fun zi=>(cU .u16) (s.getD zi 0)) (zm - 0))) zi from (bk (cU .u16) 0 ([]:List Int) s rfl (fun zq fb=>absurd fb (iw _)) (fun _ _=>rfl))) pn)))))) ?_
  obtain rfl:=bQ h
  exact bV hE 0 Tryz.f130 [80] [(2,.sl ((([]:List Int) ++ s).length) (fun zi=>(cU .u16) ((([]:List Int) ++ s).getD zi 0)))] [] 112 (pc (Eq.refl ((([]:List Int) ++ s).length)) (pc (z1 ((([]:List Int) ++ s).length)) (pc (aZ ((([]:List Int) ++ s).length) (fun zi=>(cU .u16) ((([]:List Int) ++ s).getD zi 0))) pn))) [] pn
noncomputable abbrev Wt:=bu Tryz.f114
theorem g8 (N neg n r) (h:gz N neg n=some r):Sd 114 [(aB neg),(eU n)] [] 0 (.agg (jr r)) []:=by
 unfold gz at h
 refine eL (fu:=Tryz.f114) (c:=Wt 1) (nt:=15) (fun hm=>rfl) ?_
 intro E hE
 refine ae hE 1 [] [] (kp [0,1,4]) (kq [0]) 16 pn ?_
 obtain ⟨bA,hr,h⟩:=aG h
 refine ae hE 1 [(1,oT (eU bA))] [] (kp [0,1,4]) (kq [0]) 64 (pc (dy _ _ _ hr) pn) ?_
 refine ae hE 2 [] [] (kp [0,1,4,9]) (kq [0]) 112 pn ?_
 refine ct 0 9 h (fun cR h=>?_) (fun cR h=>?_)
 ·refine ae hE 1 [] [] (kp [4]) (kq [0]) 144 (pc o1 pn) ?_
  obtain rfl:=bQ h
  exact bV hE 0 Tryz.f114 [] (kp [4]) [(16,.var 0 [.af,.sl (([]:List Int).length) (fun zi=>(cU .u16) (([]:List Int).getD zi 0))])] 144 (pc (Eq.refl 0) pn) [16] (pc o1 pn)
 ·obtain ⟨xx,dg,h⟩:=aG h
  refine ae hE 2 [(2,oT (eU xx))] [] (kp [4]) (kq [0]) 192 (pc (jw _ _ _ dg) (pc o1 pn)) ?_
  obtain rfl:=bQ h
  exact bV hE 0 Tryz.f114 [] (kp [4]) [(16,.af 0)] 192 pn [16] (pc o1 pn)
noncomputable abbrev Wu:=bu Tryz.f90
theorem wv (N n r) (h:zG N n=some r):Sd 90 [(aI n)] [] 0 (.agg (jr r)) []:=by
 unfold zG at h
 refine eL (fu:=Tryz.f90) (c:=Wu 1) (nt:=14) (fun hm=>rfl) ?_
 intro E hE
 refine ae hE 1 [] [] (kp [0,2]) (kq [0]) 16 pn ?_
 refine ae hE 2 [] [] (kp [0,2,4]) (kq [0]) 48 pn ?_
 refine ct 0 4 h (fun cR h=>?_) (fun cR h=>?_)
 ·obtain ⟨qa,hr,h⟩:=aG h
  obtain ⟨HK,dg,h⟩:=aG h
  refine ae hE 1 [(3,oT (eU qa)),(4,oT (.agg (jr HK)))] [] (kp [2]) (kq [0]) 144 (pc (qq _ _ _ hr) (pc (g8 _ _ _ _ dg) (pc o1 pn))) ?_
  obtain rfl:=bQ h
  exact bV hE 0 Tryz.f90 [] (kp [2]) [(16,.af 0)] 144 pn [16] (pc o1 pn)
 ·obtain ⟨zH,gR,h⟩:=aG h
  obtain ⟨Cr,kE,h⟩:=aG h
  refine ae hE 2 [(2,oT (eU zH)),(3,oT (.agg (jr Cr)))] [] (kp [2]) (kq [0]) 128 (pc (qq _ _ _ gR) (pc (g8 _ _ _ _ kE) (pc o1 pn))) ?_
  obtain rfl:=bQ h
  exact bV hE 0 Tryz.f90 [] (kp [2]) [(16,.af 0)] 128 pn [16] (pc o1 pn)
noncomputable abbrev Nf:=bu Tryz.f132
def DB (N:Nat) (n:List Int) (K:Int→Int→Option (Int×Bool)):Prop:=∀ (out:Int) (i:Int) (r:Int×Bool),K out i=some r→∀ E,a3 E 0→az Tryz.prog E 132 25 (aQ E [] (.tup [(FQ r.1),(aB r.2)])) [.code (Nf 244),.inLoop (Nf 244),.inBlock 0,.code (Nf 31)] ⟨[(0,(eU n)),(4,(FQ out)),(5,(aI i))],[],0⟩
theorem CE (N n fuel):DB N n (jS N n fuel):=by
 induction fuel with
 | zero=>intro _ _ r h;rw [jS.eq_1] at h;cases h
 | succ fuel ih =>
  intro out i r h E hE
  rw [jS.eq_2] at h
  refine ae hE 2 [] [] (kp [0,4,5,13]) [] 32 pn ?_
  refine ct 0 13 h (fun gB h=>?_) (fun gB h=>?_)
  ·obtain ⟨c,h⟩:=ab h
   refine ae hE 3 [] [] (kp [0,4,5]) [] 176 (pc (show (0:Int)≤16 by decide) (pc c pn)) ?_
   refine ae hE 1 [] [] (kp [0,4,5]) [] 224 pn ?_
   exact b5 hE 1 [] (kp [0,4,5]) [] 0 pn (ih _ _ _ h E hE)
  ·refine ae hE 2 [] [] (kp [2,3]) [] 80 pn ?_
   obtain rfl:=bQ h
   exact bV hE 0 Tryz.f132 [] (kp [2,3]) [] 80 pn [] pn
theorem AI (N n r) (h:sn N n=some r):Sd 132 [(eU n)] [] 0 (.tup [(FQ r.1),(aB r.2)]) []:=by
 unfold sn at h
 refine eL (fu:=Tryz.f132) (c:=Nf 1) (nt:=25) (fun hm=>rfl) ?_
 intro E hE
 refine ae hE 1 [] [] (kp [0]) [] 32 pn ?_
 refine ae hE 2 [] [] (kp [0,8]) [] 80 pn ?_
 refine ct 0 8 h (fun cR h=>?_) (fun cR h=>?_)
 ·refine ae hE 1 [] [] (kp [2,3]) [] 112 pn ?_
  obtain rfl:=bQ h
  exact bV hE 0 Tryz.f132 [] (kp [2,3]) [] 112 pn [] pn
 ·refine ae hE 2 [] [] (kp [0,4]) [] 96 pn ?_
  refine ae hE 2 [] [] (kp [0,4,5]) [] 160 pn ?_
  exact b5 hE 2 [] (kp [0,4,5]) [] 0 pn (CE N _ N _ _ _ h E hE)
noncomputable abbrev Ng:=bu Tryz.f126
def zU (N:Nat) (a:List Int) (b:List Int) (K:Int→Option (Int)):Prop:=∀ (i:Int) (r:Int),K i=some r→∀ E,a3 E 0→az Tryz.prog E 126 43 (aQ E [] (aI r)) [.code (Ng 116),.inLoop (Ng 116),.inBlock 0,.code (Ng 15)] ⟨[(0,(eU a)),(1,(eU b)),(5,(aI i))],[],0⟩
theorem yF (N a b fuel):zU N a b (fZ N a b fuel):=by
 induction fuel with
 | zero=>intro _ r h;rw [fZ.eq_1] at h;cases h
 | succ fuel ih =>
  intro i r h E hE
  rw [fZ.eq_2] at h
  refine ae hE 2 [] [] (kp [0,1,5,20]) [] 32 pn ?_
  refine ct 0 20 h (fun gB h=>?_) (fun gB h=>?_)
  ·obtain ⟨c,h⟩:=ab h
   obtain ⟨c2,h⟩:=ab h
   refine ae hE 4 [] [] (kp [0,1,5,31]) [] 176 (pc c (pc c2 pn)) ?_
   refine ct 0 31 h (fun qp h=>?_) (fun qp h=>?_)
   ·refine ae hE 1 [] [] (kp [4]) [] 368 (pc c (pc c2 pn)) ?_
    obtain rfl:=bQ h
    exact bV hE 0 Tryz.f126 [] (kp [4]) [] 368 pn [] pn
   ·refine ae hE 2 [] [] (kp [0,1,5]) [] 224 pn ?_
    exact b5 hE 1 [] (kp [0,1,5]) [] 0 pn (ih _ _ h E hE)
  ·refine ae hE 2 [] [] (kp [4]) [] 48 pn ?_
   obtain rfl:=bQ h
   exact bV hE 0 Tryz.f126 [] (kp [4]) [] 48 pn [] pn
theorem vA (N a b r) (h:lj N a b=some r):Sd 126 [(eU a),(eU b)] [] 0 (aI r) []:=by
 unfold lj at h
 refine eL (fu:=Tryz.f126) (c:=Ng 1) (nt:=43) (fun hm=>rfl) ?_
 intro E hE
 refine ae hE 1 [] [] (kp [0,1]) [] 16 pn ?_
 refine ae hE 2 [] [] (kp [0,1,10]) [] 96 pn ?_
 refine ct 0 10 h (fun cR h=>?_) (fun cR h=>?_)
 ·refine ae hE 1 [] [] (kp [4]) [] 192 pn ?_
  obtain rfl:=bQ h
  exact bV hE 0 Tryz.f126 [] (kp [4]) [] 192 pn [] pn
 ·refine ae hE 3 [] [] (kp [0,1,5]) [] 160 pn ?_
  exact b5 hE 2 [] (kp [0,1,5]) [] 0 pn (yF N _ _ N _ _ h E hE)
noncomputable abbrev Nh:=bu Tryz.f133
def CF (N:Nat) (a:List Int) (b:Int) (K:(List Int)→Int→Int→Option ((List Int)×Int)):Prop:=∀ (q:List Int) (rest:Int) (i:Int) (r:(List Int)×Int),K q rest i=some r→∀ E,a3 E 0→az Tryz.prog E 133 43 (aQ E [] (.tup [(eU r.1),(uG r.2)])) [.code (Nh 244),.inLoop (Nh 244),.inBlock 0,.code (Nh 31)] ⟨[(0,(eU a)),(1,(uG b)),(6,(.os 0 0 q.length)),(7,(Nc rest)),(8,(aI i))],[(0,aU q)],1⟩
theorem AP (N a b fuel):CF N a b (jb N a b fuel):=by
 induction fuel with
 | zero=>intro _ _ _ r h;rw [jb.eq_1] at h;cases h
 | succ fuel ih =>
  intro q rest i r h E hE
  rw [jb.eq_2] at h
  refine ae hE 2 [] [] (kp [0,1,6,7,8,16]) (kq [0]) 33 pn ?_
  refine ct 0 16 h (fun cR h=>?_) (fun cR h=>?_)
  ·obtain ⟨c2,h⟩:=ab h
   refine ae hE 4 [] [] (kp [0,1,6,7,8]) (kq [0]) 177 (pc (show (0:Int)≤16 by decide) (pc c2 pn)) ?_
   obtain ⟨c3,h⟩:=ab h
   obtain ⟨c4,h⟩:=ab h
   refine ae hE 1 [] [] (kp [0,1] ++ [(6,.ja ((q.set ((i).toNat) (IntKind.u16.wrap ((IntKind.u32.wrap ((q0 .u32 (fh .u32 rest 16) (IntKind.u32.wrap ((a.getD ((i).toNat) 0)))).tdiv (IntKind.u32.wrap (b))))))).length))] ++ kp [7,8]) [(0,.arr 0 ((q.set ((i).toNat) (IntKind.u16.wrap ((IntKind.u32.wrap ((q0 .u32 (fh .u32 rest 16) (IntKind.u32.wrap ((a.getD ((i).toNat) 0)))).tdiv (IntKind.u32.wrap (b))))))).length) (fun zi=>(cU .u16) ((q.set ((i).toNat) (IntKind.u16.wrap ((IntKind.u32.wrap ((q0 .u32 (fh .u32 rest 16) (IntKind.u32.wrap ((a.getD ((i).toNat) 0)))).tdiv (IntKind.u32.wrap (b))))))).getD zi 0)))] 321 (pc c3 (pc c4 (pc (cM c4) (pc (ay q ((i).toNat) (IntKind.u16.wrap ((IntKind.u32.wrap ((q0 .u32 (fh .u32 rest 16) (IntKind.u32.wrap ((a.getD ((i).toNat) 0)))).tdiv (IntKind.u32.wrap (b))))))) (pc (ay q ((i).toNat) (IntKind.u16.wrap ((IntKind.u32.wrap ((q0 .u32 (fh .u32 rest 16) (IntKind.u32.wrap ((a.getD ((i).toNat) 0)))).tdiv (IntKind.u32.wrap (b))))))) (pc (bS (cU .u16) 0 q ((i).toNat) (IntKind.u16.wrap ((IntKind.u32.wrap ((q0 .u32 (fh .u32 rest 16) (IntKind.u32.wrap ((a.getD ((i).toNat) 0)))).tdiv (IntKind.u32.wrap (b))))))) pn)))))) ?_
   refine ae hE 0 [] [] (kp [0,1,6,7,8]) (kq [0]) 401 (pc c3 pn) ?_
   refine ae hE 1 [] [] (kp [0,1,6,7,8]) (kq [0]) 449 pn ?_
   exact b5 hE 1 [] (kp [0,1,6,7,8]) (kq [0]) 1 pn (ih _ _ _ _ h E hE)
  ·obtain ⟨bA,hr,h⟩:=aG h
   refine ae hE 2 [(1,⟨[],true,(eU bA),[],0,true,none⟩)] [] (kp [4,5]) [] 129 (pc (dy _ _ _ hr) (pc (z1 q.length) pn)) ?_
   obtain rfl:=bQ h
   exact bV hE 0 Tryz.f133 [] (kp [4,5]) [] 129 pn [] pn
theorem Fj (N a b r) (h:sq N a b=some r):Sd 133 [(eU a),(uG b)] [] 0 (.tup [(eU r.1),(uG r.2)]) []:=by
 unfold sq at h
 refine eL (fu:=Tryz.f133) (c:=Nh 1) (nt:=43) (fun hm=>rfl) ?_
 intro E hE
 refine ae hE 1 [] [] (kp [0,1]) [] 32 pn ?_
 obtain ⟨c,h⟩:=ab h
 refine ae hE 1 [] [] (kp [0,1] ++ [(6,.ja ((List.replicate a.length 0:List Int).length))]) [(64,.arr 64 ((List.replicate a.length 0:List Int).length) (fun zi=>(cU .u16) ((List.replicate a.length 0:List Int).getD zi 0)))] 96 (pc (show 0≤((a.length:Nat):Int) from c.1) (pc (show ((a.length:Nat):Int)≤((a.length:Nat):Int) from (Int.le_refl _)) (pc (show (2:Int) * ((a.length:Nat):Int)≤281474976710656 from c.2.1) (pc (show ((a.length:Nat):Int)≤9223372036854775807 from c.2.2) (pc (show a.length=(List.replicate a.length 0:List Int).length from (eb).symm) (pc (show a.length=(List.replicate a.length 0:List Int).length from (eb).symm) (pc (show ∀ zi,zi < (List.replicate a.length 0:List Int).length→(fun zi=>(cU .u16) ((List.replicate a.length 0:List Int).getD zi 0)) zi=(fun _=>[(uG 0)]) zi from (fun zq fb=>pz (cU .u16) 0 0 a.length zq fb)) pn))))))) ?_
 refine ae hE 1 [] [] (kp [0,1,6,7]) (kq [64]) 112 pn ?_
 refine ae hE 2 [] [] (kp [0,1,6,7,8]) (kq [64]) 176 pn ?_
 exact b5 hE 2 [] (kp [0,1,6,7,8]) [(0,.af 64)] 1 pn (AP N _ _ N _ _ _ _ h E hE)
noncomputable abbrev Py:=bu Tryz.f137
def tJ (N:Nat) (K:Int→Int→Option (Int)):Prop:=∀ (x2:Int) (n:Int) (r:Int),K x2 n=some r→∀ E,a3 E 0→az Tryz.prog E 137 13 (aQ E [] (aI r)) [.code (Py 14),.code (Py 15)] ⟨[(0,(uG x2)),(2,(aI n))],[],0⟩
theorem mZ (N):tJ N (bM N):=by
 intro x2 n r h E hE
 unfold bM at h
 obtain ⟨c,h⟩:=ab h
 refine ae hE 0 [] [] (kp [2]) [] 112 (pc c pn) ?_
 obtain rfl:=bQ h
 exact bV hE 0 Tryz.f137 [] (kp [2]) [] 112 pn [] pn
theorem vB (N x r) (h:jc N x=some r):Sd 137 [(uG x)] [] 0 (aI r) []:=by
 unfold jc at h
 refine eL (fu:=Tryz.f137) (c:=Py 1) (nt:=13) (fun hm=>rfl) ?_
 intro E hE
 refine ae hE 1 [] [] (kp [0,2]) [] 16 pn ?_
 refine ae hE 2 [] [] (kp [0,2,4]) [] 48 pn ?_
 refine ct 0 4 h (fun cR h=>?_) (fun cR h=>?_)
 ·refine ae hE 1 [] [] (kp [0]) [] 96 (pc (show (0:Int)≤8 by decide) pn) ?_
  refine ae hE 0 [] [] (kp [0,2]) [] 112 pn ?_
  exact b5 hE 1 [] (kp [0,2]) [] 0 pn (mZ N _ _ _ h E hE)
 ·exact b5 hE 2 [] (kp [0,2]) [] 0 pn (mZ N _ _ _ h E hE)
noncomputable abbrev Tk:=bu Tryz.f134
theorem oz (N x r) (h:du N x=some r):Sd 134 [(uG x)] [] 0 (aI r) []:=by
 unfold du at h
 refine eL (fu:=Tryz.f134) (c:=Tk 1) (nt:=6) (fun hm=>rfl) ?_
 intro E hE
 refine ae hE 1 [] [] (kp [0]) [] 16 pn ?_
 obtain ⟨HL,hr,h⟩:=aG h
 refine ae hE 1 [(1,oT (aI HL))] [] (kp [2]) [] 80 (pc (vB _ _ _ hr) pn) ?_
 obtain rfl:=bQ h
 exact bV hE 0 Tryz.f134 [] (kp [2]) [] 80 pn [] pn
noncomputable abbrev Ni:=bu Tryz.f135
def zV (N:Nat) (a:List Int) (wG:Int) (K:(List Int)→Int→Option ((List Int))):Prop:=∀ (out:List Int) (x:Int) (r:(List Int)),K out x=some r→∀ E,a3 E 0→az Tryz.prog E 135 41 (aQ E [(0,aU r)] (.os 0 0 r.length)) [.code (Ni 116),.inLoop (Ni 116),.inBlock 0,.code (Ni 15)] ⟨[(1,(aI wG)),(5,(.os 0 0 out.length)),(13,(eU a)),(14,(aI ((a.length:Nat):Int))),(15,(aI x))],[(0,aU out)],1⟩
theorem yG (N a wG fuel):zV N a wG (gf N a wG fuel):=by
 induction fuel with
 | zero=>intro _ _ r h;rw [gf.eq_1] at h;cases h
 | succ fuel ih =>
  intro out x r h E hE
  rw [gf.eq_2] at h
  refine ae hE 1 [] [] (kp [1,5,13,14,15,16]) (kq [0]) 17 pn ?_
  refine ct 1 16 h (fun cR h=>?_) (fun cR h=>?_)
  ·obtain ⟨c2,h⟩:=ab h
   refine ae hE 4 [] [] (kp [1,5,6,7,13,14,15]) (kq [0]) 97 (pc c2 pn) ?_
   obtain ⟨c3,h⟩:=ab h
   refine ae hE 1 [] [] (kp [1,5,6,8,13,14,15]) (kq [0]) 177 (pc c3 pn) ?_
   obtain ⟨c4,h⟩:=ab h
   refine ae hE 1 [] [] (kp [1] ++ [(5,.ja ((out.set ((x).toNat) (q0 .u16 (out.getD ((x).toNat) 0) (IntKind.u16.wrap ((fh .u32 (IntKind.u32.wrap ((a.getD ((x).toNat) 0))) wG))))).length))] ++ kp [6,8,13,14,15]) [(0,.arr 0 ((out.set ((x).toNat) (q0 .u16 (out.getD ((x).toNat) 0) (IntKind.u16.wrap ((fh .u32 (IntKind.u32.wrap ((a.getD ((x).toNat) 0))) wG))))).length) (fun zi=>(cU .u16) ((out.set ((x).toNat) (q0 .u16 (out.getD ((x).toNat) 0) (IntKind.u16.wrap ((fh .u32 (IntKind.u32.wrap ((a.getD ((x).toNat) 0))) wG))))).getD zi 0)))] 321 (pc c4 (pc (cM c4) (pc c4 (pc (cM c4) (pc (ay out ((x).toNat) (q0 .u16 (out.getD ((x).toNat) 0) (IntKind.u16.wrap ((fh .u32 (IntKind.u32.wrap ((a.getD ((x).toNat) 0))) wG))))) (pc (ay out ((x).toNat) (q0 .u16 (out.getD ((x).toNat) 0) (IntKind.u16.wrap ((fh .u32 (IntKind.u32.wrap ((a.getD ((x).toNat) 0))) wG))))) (pc (bS (cU .u16) 0 out ((x).toNat) (q0 .u16 (out.getD ((x).toNat) 0) (IntKind.u16.wrap ((fh .u32 (IntKind.u32.wrap ((a.getD ((x).toNat) 0))) wG))))) pn))))))) ?_
   obtain ⟨c5,h⟩:=ab h
   refine ae hE 0 [] [] (kp [1] ++ [(5,.ja (((out.set ((x).toNat) (q0 .u16 (out.getD ((x).toNat) 0) (IntKind.u16.wrap ((fh .u32 (IntKind.u32.wrap ((a.getD ((x).toNat) 0))) wG))))).set ((ah (x+1)).toNat) (IntKind.u16.wrap ((mH .u32 (fh .u32 (IntKind.u32.wrap ((a.getD ((x).toNat) 0))) wG) 16)))).length))] ++ kp [13,14,15]) [(0,.arr 0 (((out.set ((x).toNat) (q0 .u16 (out.getD ((x).toNat) 0) (IntKind.u16.wrap ((fh .u32 (IntKind.u32.wrap ((a.getD ((x).toNat) 0))) wG))))).set ((ah (x+1)).toNat) (IntKind.u16.wrap ((mH .u32 (fh .u32 (IntKind.u32.wrap ((a.getD ((x).toNat) 0))) wG) 16)))).length) (fun zi=>(cU .u16) (((out.set ((x).toNat) (q0 .u16 (out.getD ((x).toNat) 0) (IntKind.u16.wrap ((fh .u32 (IntKind.u32.wrap ((a.getD ((x).toNat) 0))) wG))))).set ((ah (x+1)).toNat) (IntKind.u16.wrap ((mH .u32 (fh .u32 (IntKind.u32.wrap ((a.getD ((x).toNat) 0))) wG) 16)))).getD zi 0)))] 449 (pc (show (0:Int)≤16 by decide) (pc c5 (pc (cM c5) (pc (ay (out.set ((x).toNat) (q0 .u16 (out.getD ((x).toNat) 0) (IntKind.u16.wrap ((fh .u32 (IntKind.u32.wrap ((a.getD ((x).toNat) 0))) wG))))) ((ah (x+1)).toNat) (IntKind.u16.wrap ((mH .u32 (fh .u32 (IntKind.u32.wrap ((a.getD ((x).toNat) 0))) wG) 16)))) (pc (ay (out.set ((x).toNat) (q0 .u16 (out.getD ((x).toNat) 0) (IntKind.u16.wrap ((fh .u32 (IntKind.u32.wrap ((a.getD ((x).toNat) 0))) wG))))) ((ah (x+1)).toNat) (IntKind.u16.wrap ((mH .u32 (fh .u32 (IntKind.u32.wrap ((a.getD ((x).toNat) 0))) wG) 16)))) (pc (bS (cU .u16) 0 (out.set ((x).toNat) (q0 .u16 (out.getD ((x).toNat) 0) (IntKind.u16.wrap ((fh .u32 (IntKind.u32.wrap ((a.getD ((x).toNat) 0))) wG))))) ((ah (x+1)).toNat) (IntKind.u16.wrap ((mH .u32 (fh .u32 (IntKind.u32.wrap ((a.getD ((x).toNat) 0))) wG) 16)))) pn)))))) ?_
   refine ae hE 1 [] [] (kp [1,5,13,14,15]) (kq [0]) 481 pn ?_
   exact b5 hE 1 [] (kp [1,5,13,14,15]) (kq [0]) 1 pn (ih _ _ _ h E hE)
  ·refine ae hE 2 [] [] (kp [4]) (kq [0]) 49 pn ?_
   obtain rfl:=bQ h
   exact bV hE 0 Tryz.f135 [] (kp [4]) (kq [0]) 49 pn [] pn
theorem vC (N a wG r) (h:mV N a wG=some r):Sd 135 [(eU a),(aI wG)] [] 0 (.os 0 0 r.length) [(0,aU r)]:=by
 unfold mV at h
 refine eL (fu:=Tryz.f135) (c:=Ni 1) (nt:=41) (fun hm=>rfl) ?_
 intro E hE
 refine ae hE 1 [] [] (kp [0,1]) [] 16 pn ?_
 obtain ⟨c,h⟩:=ab h
 refine ae hE 1 [] [] (kp [0,1] ++ [(5,.ja ((List.replicate ((ah (((a.length:Nat):Int)+1)).toNat) 0:List Int).length))]) [(64,.arr 64 ((List.replicate ((ah (((a.length:Nat):Int)+1)).toNat) 0:List Int).length) (fun zi=>(cU .u16) ((List.replicate ((ah (((a.length:Nat):Int)+1)).toNat) 0:List Int).getD zi 0)))] 96 (pc (show 0≤(ah (((a.length:Nat):Int)+1)) from c.1) (pc (show (ah (((a.length:Nat):Int)+1))≤(ah (((a.length:Nat):Int)+1)) from (Int.le_refl _)) (pc (show (2:Int) * (ah (((a.length:Nat):Int)+1))≤281474976710656 from c.2.1) (pc (show (ah (((a.length:Nat):Int)+1))≤9223372036854775807 from c.2.2) (pc (show (ah (((a.length:Nat):Int)+1)).toNat=(List.replicate ((ah (((a.length:Nat):Int)+1)).toNat) 0:List Int).length from (eb).symm) (pc (show (ah (((a.length:Nat):Int)+1)).toNat=(List.replicate ((ah (((a.length:Nat):Int)+1)).toNat) 0:List Int).length from (eb).symm) (pc (show ∀ zi,zi < (List.replicate ((ah (((a.length:Nat):Int)+1)).toNat) 0:List Int).length→(fun zi=>(cU .u16) ((List.replicate ((ah (((a.length:Nat):Int)+1)).toNat) 0:List Int).getD zi 0)) zi=(fun _=>[(uG 0)]) zi from (fun zq fb=>pz (cU .u16) 0 0 ((ah (((a.length:Nat):Int)+1)).toNat) zq fb)) pn))))))) ?_
 refine ae hE 2 [] [] (kp [1,5,13,14,15]) (kq [64]) 144 pn ?_
 exact b5 hE 2 [] (kp [1,5,13,14,15]) [(0,.af 64)] 1 pn (yG N _ _ N _ _ _ h E hE)
noncomputable abbrev uH:=bu Tryz.f136
def CG (N:Nat) (uo:Nat) (un:Nat) (v:List Int) (C0:List Int) (K:Int→Int→Option (Int×(List Int))):Prop:=∀ (q:Int) (rest:Int) (r:Int×(List Int)),K q rest=some r→∀ E,a3 E 1→az Tryz.prog E 136 161 (aQ E [(0,aU r.2)] (uG r.1)) [.code (uH 248),.inLoop (uH 248),.inBlock 0,.code (uH 63)] ⟨[(0,(.os 0 uo un)),(1,(eU v)),(5,(aI ((v.length:Nat):Int))),(7,(FQ q)),(8,(FQ rest))],[(0,aU C0)],1⟩
def vD (N:Nat) (uo:Nat) (un:Nat) (v:List Int) (q:Int) (K:(List Int)→Int→Int→Int→Option (Int×(List Int))):Prop:=∀ (a6:List Int) (carry:Int) (borrow:Int) (x:Int) (r:Int×(List Int)),K a6 carry borrow x=some r→∀ E,a3 E 1→az Tryz.prog E 136 161 (aQ E [(0,aU r.2)] (uG r.1)) [.code (uH 2036),.inLoop (uH 2036),.inBlock 2,.code (uH 255)] ⟨[(0,(.os 0 uo un)),(1,(eU v)),(5,(aI ((v.length:Nat):Int))),(7,(FQ q)),(9,(FQ carry)),(10,(aI borrow)),(84,(aI (ah (((v.length:Nat):Int)+1)))),(85,(aI x))],[(0,aU a6)],1⟩
def CH (N:Nat) (uo:Nat) (un:Nat) (v:List Int) (q:Int) (a6:List Int) (borrow:Int) (x:Int) (K:Int→Option (Int×(List Int))):Prop:=∀ (x2:Int) (r:Int×(List Int)),K x2=some r→∀ E,a3 E 1→az Tryz.prog E 136 161 (aQ E [(0,aU r.2)] (uG r.1)) [.code (uH 521422),.code (uH 521423),.inBlock 3,.code (uH 16295),.inLoop (uH 2036),.inBlock 2,.code (uH 255)] ⟨[(0,(.os 0 uo un)),(1,(eU v)),(5,(aI ((v.length:Nat):Int))),(7,(FQ q)),(10,(aI borrow)),(11,(aI x)),(12,(FQ x2)),(84,(aI (ah (((v.length:Nat):Int)+1)))),(85,(aI x))],[(0,aU a6)],1⟩
theorem ui (N:Nat) (uo:Nat) (un:Nat) (v:List Int) (q:Int) (a6:List Int) (borrow:Int) (x:Int) (nm:(List Int)→Int→Int→Int→Option (Int×(List Int))) (AQ:vD N uo un v q nm):CH N uo un v q a6 borrow x (lG N uo un v q a6 borrow x nm):=by
 intro x2 r h E hE
 unfold lG at h
 refine ae hE 0 [] [] (kp [0,1,5,7,9,10,11,12,84,85]) (kq [0]) 49 (pc (show (0:Int)≤16 by decide) pn) ?_
 obtain ⟨FR,h⟩:=ab h
 obtain ⟨JI,h⟩:=ab h
 refine ae hE 1 [] [] (kp [0,1,5,7,9,11,13,84,85]) (kq [0]) 241 (pc FR (pc (show (a8 uo (x).toNat) < a6.length by have h1:=FR;have h2:=JI;simp only [cl];omega) pn)) ?_
 refine ae hE 1 [] [] (kp [0,1,5,7,9,13,84,85]) [(0,.arr 0 ((a6.set (a8 uo (x).toNat) (IntKind.u16.wrap ((ah ((ah ((ah ((a6.getD (a8 uo (x).toNat) 0))) - (ah ((Gz .u64 x2 65535)))))+borrow))))).length) (fun zi=>(cU .u16) ((a6.set (a8 uo (x).toNat) (IntKind.u16.wrap ((ah ((ah ((ah ((a6.getD (a8 uo (x).toNat) 0))) - (ah ((Gz .u64 x2 65535)))))+borrow))))).getD zi 0)))] 337 (pc FR (pc (show (a8 uo (x).toNat) < a6.length by have h1:=FR;have h2:=JI;simp only [cl];omega) (pc (ay a6 (a8 uo (x).toNat) (IntKind.u16.wrap ((ah ((ah ((ah ((a6.getD (a8 uo (x).toNat) 0))) - (ah ((Gz .u64 x2 65535)))))+borrow))))) (pc (bS (cU .u16) 0 a6 (a8 uo (x).toNat) (IntKind.u16.wrap ((ah ((ah ((ah ((a6.getD (a8 uo (x).toNat) 0))) - (ah ((Gz .u64 x2 65535)))))+borrow))))) pn)))) ?_
 refine ae hE 0 [] [] (kp [0,1,5,7,9,10,84,85]) (kq [0]) 385 (pc (show (0:Int)≤16 by decide) pn) ?_
 refine ae hE 1 [] [] (kp [0,1,5,7,9,10,84,85]) (kq [0]) 417 pn ?_
 exact b5 hE 1 [] (kp [0,1,5,7,9,10,84,85]) (kq [0]) 1 pn (AQ _ _ _ _ _ h E hE)
def CI (N:Nat) (uo:Nat) (un:Nat) (v:List Int) (q:Int) (K:(List Int)→Int→Int→Option (Int×(List Int))):Prop:=∀ (bD:List Int) (dT:Int) (x3:Int) (r:Int×(List Int)),K bD dT x3=some r→∀ E,a3 E 1→az Tryz.prog E 136 161 (aQ E [(0,aU r.2)] (uG r.1)) [.code (uH 130740),.inLoop (uH 130740),.inBlock 4,.code (uH 16343),.code (uH 511)] ⟨[(0,(.os 0 uo un)),(1,(eU v)),(5,(aI ((v.length:Nat):Int))),(7,(FQ (IntKind.u64.wrap (q - 1)))),(14,(Nc dT)),(126,(aI ((v.length:Nat):Int))),(127,(aI x3))],[(0,aU bD)],1⟩
def CJ (N:Nat) (K:(List Int)→Int→Option (Int×(List Int))):Prop:=∀ (cj:List Int) (q2:Int) (r:Int×(List Int)),K cj q2=some r→∀ E,a3 E 1→az Tryz.prog E 136 161 (aQ E [(0,aU r.2)] (uG r.1)) [.code (uH 1022),.code (uH 1023)] ⟨[(7,(FQ q2))],[(0,aU cj)],1⟩
theorem uj (N):CJ N (jd N):=by
 intro cj q2 r h E hE
 unfold jd at h
 refine ae hE 0 [] [] (kp [4]) (kq [0]) 49 pn ?_
 obtain rfl:=bQ h
 exact bV hE 0 Tryz.f136 [] (kp [4]) (kq [0]) 49 pn [] pn
theorem AR (N uo un v q fuel):CI N uo un v q (fK N uo un v q fuel):=by
 induction fuel with
 | zero=>intro _ _ _ r h;rw [fK.eq_1] at h;cases h
 | succ fuel ih =>
  intro bD dT x3 r h E hE
  rw [fK.eq_2] at h
  refine ae hE 1 [] [] (kp [0,1,5,7,14,126,127,128]) (kq [0]) 17 pn ?_
  refine ct 1 128 h (fun Fk h=>?_) (fun Fk h=>?_)
  ·refine ae hE 4 [] [] (kp [0,1,5,7,14,15,126,127]) (kq [0]) 49 pn ?_
   obtain ⟨GH,h⟩:=ab h
   obtain ⟨IV,h⟩:=ab h
   obtain ⟨Oy,h⟩:=ab h
   refine ae hE 1 [] [] (kp [0,1,5,7,14,15,126,127]) (kq [0]) 273 (pc GH (pc (show (a8 uo (x3).toNat) < bD.length by have h1:=GH;have h2:=IV;simp only [cl];omega) (pc Oy pn))) ?_
   refine ae hE 1 [] [] (kp [0,1,5,7,14,126,127]) [(0,.arr 0 ((bD.set (a8 uo (x3).toNat) (IntKind.u16.wrap ((IntKind.u32.wrap (dT+(IntKind.u32.wrap ((IntKind.u32.wrap ((bD.getD (a8 uo (x3).toNat) 0)))+(IntKind.u32.wrap ((v.getD ((x3).toNat) 0)))))))))).length) (fun zi=>(cU .u16) ((bD.set (a8 uo (x3).toNat) (IntKind.u16.wrap ((IntKind.u32.wrap (dT+(IntKind.u32.wrap ((IntKind.u32.wrap ((bD.getD (a8 uo (x3).toNat) 0)))+(IntKind.u32.wrap ((v.getD ((x3).toNat) 0)))))))))).getD zi 0)))] 369 (pc GH (pc (show (a8 uo (x3).toNat) < bD.length by have h1:=GH;have h2:=IV;simp only [cl];omega) (pc (ay bD (a8 uo (x3).toNat) (IntKind.u16.wrap ((IntKind.u32.wrap (dT+(IntKind.u32.wrap ((IntKind.u32.wrap ((bD.getD (a8 uo (x3).toNat) 0)))+(IntKind.u32.wrap ((v.getD ((x3).toNat) 0)))))))))) (pc (bS (cU .u16) 0 bD (a8 uo (x3).toNat) (IntKind.u16.wrap ((IntKind.u32.wrap (dT+(IntKind.u32.wrap ((IntKind.u32.wrap ((bD.getD (a8 uo (x3).toNat) 0)))+(IntKind.u32.wrap ((v.getD ((x3).toNat) 0)))))))))) pn)))) ?_
   refine ae hE 0 [] [] (kp [0,1,5,7,14,126,127]) (kq [0]) 417 (pc (show (0:Int)≤16 by decide) pn) ?_
   refine ae hE 1 [] [] (kp [0,1,5,7,14,126,127]) (kq [0]) 449 pn ?_
   exact b5 hE 1 [] (kp [0,1,5,7,14,126,127]) (kq [0]) 1 pn (ih _ _ _ _ h E hE)
  ·obtain ⟨Nj,h⟩:=ab h
   obtain ⟨JJ,h⟩:=ab h
   refine ae hE 1 [] [] (kp [7]) [(0,.arr 0 ((bD.set (a8 uo v.length) (IntKind.u16.wrap ((bD.getD (a8 uo v.length) 0)+(IntKind.u16.wrap (dT))))).length) (fun zi=>(cU .u16) ((bD.set (a8 uo v.length) (IntKind.u16.wrap ((bD.getD (a8 uo v.length) 0)+(IntKind.u16.wrap (dT))))).getD zi 0)))] 161 (pc Nj (pc (show (a8 uo v.length) < bD.length by have h1:=Nj;have h2:=JJ;simp only [cl];omega) (pc Nj (pc (show (a8 uo v.length) < bD.length by have h1:=Nj;have h2:=JJ;simp only [cl];omega) (pc (ay bD (a8 uo v.length) (IntKind.u16.wrap ((bD.getD (a8 uo v.length) 0)+(IntKind.u16.wrap (dT))))) (pc (bS (cU .u16) 0 bD (a8 uo v.length) (IntKind.u16.wrap ((bD.getD (a8 uo v.length) 0)+(IntKind.u16.wrap (dT))))) pn)))))) ?_
   exact b5 hE 1 [] (kp [7]) (kq [0]) 1 pn (uj N _ _ _ h E hE)
theorem AS (N uo un v q fuel):vD N uo un v q (ek N uo un v q fuel):=by
 induction fuel with
 | zero=>intro _ _ _ _ r h;rw [ek.eq_1] at h;cases h
 | succ fuel ih =>
  intro a6 carry borrow x r h E hE
  rw [ek.eq_2] at h
  refine ae hE 1 [] [] (kp [0,1,5,7,9,10,84,85,86]) (kq [0]) 17 pn ?_
  refine ct 1 86 h (fun gB h=>?_) (fun gB h=>?_)
  ·refine ae hE 4 [] [] (kp [0,1,5,7,9,10,11,84,85]) (kq [0]) 49 pn ?_
   refine ae hE 1 [] [] (kp [0,1,5,7,10,11,12,84,85]) (kq [0]) 81 pn ?_
   refine ae hE 2 [] [] (kp [0,1,5,7,10,11,12,84,85,91]) (kq [0]) 129 pn ?_
   refine ct 0 91 h (fun qp h=>?_) (fun qp h=>?_)
   ·obtain ⟨JK,h⟩:=ab h
    refine ae hE 0 [] [] (kp [0,1,5,7,10,11,12,84,85]) (kq [0]) 289 (pc JK pn) ?_
    exact b5 hE 1 [] (kp [0,1,5,7,10,11,12,84,85]) (kq [0]) 1 pn (ui N _ _ _ _ _ _ _ _ ih _ _ h E hE)
   ·exact b5 hE 2 [] (kp [0,1,5,7,10,11,12,84,85]) (kq [0]) 1 pn (ui N _ _ _ _ _ _ _ _ ih _ _ h E hE)
  ·refine ae hE 3 [] [] (kp [0,1,5,7,123]) (kq [0]) 49 pn ?_
   refine ct 0 123 h (fun zW h=>?_) (fun zW h=>?_)
   ·refine ae hE 1 [] [] (kp [0,1,5,7]) (kq [0]) 97 pn ?_
    refine ae hE 1 [] [] (kp [0,1,5,7,14]) (kq [0]) 113 pn ?_
    refine ae hE 2 [] [] (kp [0,1,5,7,14,126,127]) (kq [0]) 145 pn ?_
    exact b5 hE 2 [] (kp [0,1,5,7,14,126,127]) (kq [0]) 1 pn (AR N _ _ _ _ N _ _ _ _ h E hE)
   ·exact b5 hE 2 [] (kp [7]) (kq [0]) 1 pn (uj N _ _ _ h E hE)
theorem AU (N uo un v C0 fuel):CG N uo un v C0 (je N uo un v C0 fuel):=by
 induction fuel with
 | zero=>intro _ _ r h;rw [je.eq_1] at h;cases h
 | succ fuel ih =>
  intro q rest r h E hE
  rw [je.eq_2] at h
  obtain ⟨c6,h⟩:=ab h
  obtain ⟨c7,h⟩:=ab h
  obtain ⟨c8,h⟩:=ab h
  refine ae hE 2 [] [] (kp [0,1,5,7,8,72]) (kq [0]) 417 (pc (fun hg:(decide (rest < 65536))=true=>(pc hg pn)) (pc (fun hg:((decide (rest < 65536)) && ((decide (rest < 65536)) && (!(decide (q > 65535)))))=true=>(pc hg pn)) (pc (fun hg:((decide (rest < 65536)) && ((decide (rest < 65536)) && (!(decide (q > 65535)))))=true=>(pc hg (pc hg (pc (c6 hg) pn)))) (pc (fun hg:((decide (rest < 65536)) && ((decide (rest < 65536)) && (!(decide (q > 65535)))))=true=>(pc hg pn)) (pc (fun hg:((decide (rest < 65536)) && ((decide (rest < 65536)) && (!(decide (q > 65535)))))=true=>(pc hg pn)) (pc (fun hg:((decide (rest < 65536)) && ((decide (rest < 65536)) && (!(decide (q > 65535)))))=true=>(pc hg (pc hg pn))) (pc (fun hg:((decide (rest < 65536)) && ((decide (rest < 65536)) && (!(decide (q > 65535)))))=true=>(pc hg (pc (show (0:Int)≤16 by decide) pn))) (pc (fun hg:((decide (rest < 65536)) && ((decide (rest < 65536)) && (!(decide (q > 65535)))))=true=>(pc hg pn)) (pc (fun hg:((decide (rest < 65536)) && ((decide (rest < 65536)) && (!(decide (q > 65535)))))=true=>(pc hg (pc hg (pc (c7 hg) pn)))) (pc (fun hg:((decide (rest < 65536)) && ((decide (rest < 65536)) && (!(decide (q > 65535)))))=true=>(pc hg (pc (show (a8 uo (ah (((v.length:Nat):Int) - 2)).toNat) < C0.length by have h1:=(c7 hg);have h2:=(c8 hg);simp only [cl];omega) pn))) (pc (fun hg:((decide (rest < 65536)) && ((decide (rest < 65536)) && (!(decide (q > 65535)))))=true=>(pc hg pn)) (pc (fun hg:((decide (rest < 65536)) && ((decide (rest < 65536)) && (!(decide (q > 65535)))))=true=>(pc hg (pc hg pn))) (pc (fun hg:((decide (rest < 65536)) && ((decide (rest < 65536)) && (!(decide (q > 65535)))))=true=>(pc hg (pc hg pn))) (pc (fun hg:(decide (rest < 65536))=true=>(pc hg (pc hg (pc (fun hq:(!(decide (q > 65535)))=true=>(pc (show ((decide (rest < 65536)) && ((decide (rest < 65536)) && (!(decide (q > 65535)))))=true from (jR hg (jR hg hq))) pn)) pn)))) (pc (fun hq:(decide (rest < 65536))=true=>(pc hq pn)) pn))))))))))))))) ?_
  refine ct 0 72 h (fun cR h=>?_) (fun cR h=>?_)
  ·refine ae hE 3 [] [] (kp [0,1,5,7,8]) (kq [0]) 465 pn ?_
   obtain ⟨c9,h⟩:=ab h
   refine ae hE 0 [] [] (kp [0,1,5,7,8]) (kq [0]) 609 (pc c9 pn) ?_
   exact b5 hE 2 [] (kp [0,1,5,7,8]) (kq [0]) 1 pn (ih _ _ _ h E hE)
  ·refine ae hE 2 [] [] (kp [0,1,5,7,9,10]) (kq [0]) 449 pn ?_
   refine ae hE 2 [] [] (kp [0,1,5,7,9,10,84,85]) (kq [0]) 497 pn ?_
   exact b5 hE 2 [] (kp [0,1,5,7,9,10,84,85]) (kq [0]) 1 pn (AS N _ _ _ _ N _ _ _ _ _ h E hE)
theorem Fl (N uo un v C0 r) (h:ss N uo un v C0=some r):Sd 136 [(.os 0 uo un),(eU v)] [(0,aU C0)] 1 (uG r.1) [(0,aU r.2)]:=by
 unfold ss at h
 refine eL (fu:=Tryz.f136) (c:=uH 1) (nt:=161) (fun hm=>absurd hm (by decide)) ?_
 intro E hE
 refine ae hE 1 [] [] (kp [0,1]) (kq [0]) 17 pn ?_
 refine ae hE 1 [] [] (kp [0,1,5]) (kq [0]) 65 pn ?_
 obtain ⟨c,h⟩:=ab h
 obtain ⟨c2,h⟩:=ab h
 obtain ⟨c3,h⟩:=ab h
 refine ae hE 1 [] [] (kp [0,1,5,6]) (kq [0]) 289 (pc c (pc (show (a8 uo v.length) < C0.length by have h1:=c;have h2:=c2;simp only [cl];omega) (pc (show (0:Int)≤16 by decide) (pc c3 (pc (show (a8 uo (ah (((v.length:Nat):Int) - 1)).toNat) < C0.length by have h1:=c3;have h2:=c2;simp only [cl];omega) pn))))) ?_
 obtain ⟨c4,h⟩:=ab h
 obtain ⟨c5,h⟩:=ab h
 refine ae hE 1 [] [] (kp [0,1,5,7,8]) (kq [0]) 577 (pc c4 (pc c5 (pc c4 (pc c5 pn)))) ?_
 exact b5 hE 3 [] (kp [0,1,5,7,8]) (kq [0]) 1 pn (AU N _ _ _ _ N _ _ _ h E hE)
noncomputable abbrev HW:=bu Tryz.f124
def AW (N:Nat) (b:List Int) (a4:Int) (dZ:(List Int)) (K:(List Int)→(List Int)→Int→Option ((List Int)×(List Int))):Prop:=∀ (q:List Int) (u:List Int) (j:Int) (r:(List Int)×(List Int)),K q u j=some r→∀ E,a3 E 0→az Tryz.prog E 124 109 (aQ E [] (.tup [(eU r.1),(eU r.2)])) [.code (HW 4084),.inLoop (HW 4084),.inBlock 0,.code (HW 511)] ⟨[(4,(.os 0 0 q.length)),(8,(aI a4)),(9,(.os 1 0 u.length)),(10,(.os 2 0 (b.length - 0))),(11,(aI (((b.length - 0):Nat):Int))),(12,(aI j))],[(0,aU q),(1,aU u),(2,aU dZ)],3⟩
def AX (N:Nat) (b:List Int) (a4:Int) (q:List Int) (u:List Int) (K:(List Int)→Int→Option ((List Int)×(List Int))):Prop:=∀ (vr:List Int) (x:Int) (r:(List Int)×(List Int)),K vr x=some r→∀ E,a3 E 0→az Tryz.prog E 124 109 (aQ E [] (.tup [(eU r.1),(eU r.2)])) [.code (HW 16372),.inLoop (HW 16372),.inBlock 2,.code (HW 2047)] ⟨[(4,(.os 0 0 q.length)),(5,(.os 1 0 vr.length)),(8,(aI a4)),(9,(.os 2 0 u.length)),(81,(aI (((b.length - 0):Nat):Int))),(82,(aI x))],[(0,aU q),(1,aU vr),(2,aU u)],3⟩
theorem zX (N b a4 q u fuel):AX N b a4 q u (gW N b a4 q u fuel):=by
 induction fuel with
 | zero=>intro _ _ r h;rw [gW.eq_1] at h;cases h
 | succ fuel ih =>
  intro vr x r h E hE
  rw [gW.eq_2] at h
  refine ae hE 1 [] [] (kp [4,5,8,9,81,82,83]) (kq [0,1,2]) 19 pn ?_
  refine ct 1 83 h (fun zW h=>?_) (fun zW h=>?_)
  ·refine ae hE 4 [] [] (kp [4,5,8,9,13,81,82]) (kq [0,1,2]) 51 pn ?_
   obtain ⟨JI,h⟩:=ab h
   obtain ⟨GH,h⟩:=ab h
   obtain ⟨IV,h⟩:=ab h
   obtain ⟨Oy,h⟩:=ab h
   refine ae hE 0 [] [] (kp [4] ++ [(5,.ja ((vr.set ((x).toNat) (IntKind.u16.wrap ((mH .u32 (q0 .u32 (IntKind.u32.wrap ((u.getD ((x).toNat) 0))) (fh .u32 (IntKind.u32.wrap ((u.getD ((ah (x+1)).toNat) 0))) 16)) a4)))).length))] ++ kp [8,9,81,82]) (kq [0] ++ [(1,.arr 1 ((vr.set ((x).toNat) (IntKind.u16.wrap ((mH .u32 (q0 .u32 (IntKind.u32.wrap ((u.getD ((x).toNat) 0))) (fh .u32 (IntKind.u32.wrap ((u.getD ((ah (x+1)).toNat) 0))) 16)) a4)))).length) (fun zi=>(cU .u16) ((vr.set ((x).toNat) (IntKind.u16.wrap ((mH .u32 (q0 .u32 (IntKind.u32.wrap ((u.getD ((x).toNat) 0))) (fh .u32 (IntKind.u32.wrap ((u.getD ((ah (x+1)).toNat) 0))) 16)) a4)))).getD zi 0)))] ++ kq [2]) 371 (pc JI (pc (cM JI) (pc GH (pc (cM GH) (pc (show (0:Int)≤16 by decide) (pc IV (pc Oy (pc (cM Oy) (pc (ay vr ((x).toNat) (IntKind.u16.wrap ((mH .u32 (q0 .u32 (IntKind.u32.wrap ((u.getD ((x).toNat) 0))) (fh .u32 (IntKind.u32.wrap ((u.getD ((ah (x+1)).toNat) 0))) 16)) a4)))) (pc (ay vr ((x).toNat) (IntKind.u16.wrap ((mH .u32 (q0 .u32 (IntKind.u32.wrap ((u.getD ((x).toNat) 0))) (fh .u32 (IntKind.u32.wrap ((u.getD ((ah (x+1)).toNat) 0))) 16)) a4)))) (pc (bS (cU .u16) 0 vr ((x).toNat) (IntKind.u16.wrap ((mH .u32 (q0 .u32 (IntKind.u32.wrap ((u.getD ((x).toNat) 0))) (fh .u32 (IntKind.u32.wrap ((u.getD ((ah (x+1)).toNat) 0))) 16)) a4)))) pn))))))))))) ?_
   refine ae hE 1 [] [] (kp [4,5,8,9,81,82]) (kq [0,1,2]) 403 pn ?_
   exact b5 hE 1 [] (kp [4,5,8,9,81,82]) (kq [0,1,2]) 3 pn (ih _ _ _ h E hE)
  ·obtain ⟨gK,AY,h⟩:=aG h
   obtain ⟨HM,tK,h⟩:=aG h
   refine ae hE 2 [(1,⟨[],true,(eU gK),[],0,true,none⟩),(3,⟨[],true,(eU HM),[],0,true,none⟩)] [] (kp [4,5]) [] 115 (pc (dy _ _ _ AY) (pc (z1 q.length) (pc (dy _ _ _ tK) (pc (z1 vr.length) pn)))) ?_
   obtain rfl:=bQ h
   exact bV hE 0 Tryz.f124 [] (kp [4,5]) [] 115 pn [] pn
theorem zY (N b a4 dZ fuel):AW N b a4 dZ (gX N b a4 dZ fuel):=by
 induction fuel with
 | zero=>intro _ _ _ r h;rw [gX.eq_1] at h;cases h
 | succ fuel ih =>
  intro q u j r h E hE
  rw [gX.eq_2] at h
  refine ae hE 2 [] [] (kp [4,8,9,10,11,12,64]) (kq [0,1,2]) 35 pn ?_
  refine ct 0 64 h (fun qp h=>?_) (fun qp h=>?_)
  ·obtain ⟨c5,h⟩:=ab h
   obtain ⟨c6,h⟩:=ab h
   obtain ⟨c7,h⟩:=ab h
   obtain ⟨c8,h⟩:=ab h
   obtain ⟨bP,AZ,h⟩:=aG h
   obtain ⟨c9,h⟩:=ab h
   obtain ⟨JK,h⟩:=ab h
   refine ae hE 3 [(10,⟨[1],false,(uG bP.1),[(0,aU bP.2)],0,false,none⟩)] [] ([(4,.ja ((q.set ((j).toNat) bP.1).length))] ++ kp [8] ++ [(9,.ja (bP.2.length))] ++ kp [10,11,12]) ([(0,.arr 0 ((q.set ((j).toNat) bP.1).length) (fun zi=>(cU .u16) ((q.set ((j).toNat) bP.1).getD zi 0)))] ++ kq [1,2]) 243 (pc c5 (pc c6 (pc c7 (pc (show Sd 136 [(.os 0 ((j).toNat) ((ah ((ah (j+(((b.length - 0):Nat):Int)))+1)).toNat - (j).toNat)),(.sl (b.length - 0) (fun zi=>(cU .u16) (dZ.getD (a8 0 zi) 0)))] [(0,aU u)] 1 (uG bP.1) [(0,aU bP.2)] from (Sound.conv (Fl _ _ _ _ _ _ AZ) (.cons (Alike.refl _) (.cons (Alike.sl (vn dZ 0 b.length c8) (fun zq fb=>BD (cU .u16) 0 dZ 0 b.length zq fb)) .nil)))) (pc (show ∀ zi,zi < bP.2.length→AV.uS ((cU .u16) (bP.2.getD zi 0))=true from (fun _ _=>rfl)) (pc (show 0+(b.length - 0)≤dZ.length by have:=c8;omega) (pc JK (pc (cM JK) (pc (ay q ((j).toNat) bP.1) (pc (show u.length=bP.2.length from (Eq.symm c9)) (pc (ay q ((j).toNat) bP.1) (pc (bS (cU .u16) 0 q ((j).toNat) bP.1) pn)))))))))))) ?_
   refine ae hE 1 [] [] (kp [4,8,9,10,11,12]) (kq [0,1,2]) 291 pn ?_
   exact b5 hE 1 [] (kp [4,8,9,10,11,12]) (kq [0,1,2]) 3 pn (ih _ _ _ _ h E hE)
  ·obtain ⟨FR,h⟩:=ab h
   refine ae hE 2 [] [] (kp [4] ++ [(5,.ja ((List.replicate (b.length - 0) 0:List Int).length))] ++ kp [8,9,11]) (kq [0,1] ++ [(51,.arr 51 ((List.replicate (b.length - 0) 0:List Int).length) (fun zi=>(cU .u16) ((List.replicate (b.length - 0) 0:List Int).getD zi 0)))]) 83 (pc (show 0≤(((b.length - 0):Nat):Int) from FR.1) (pc (show (((b.length - 0):Nat):Int)≤(((b.length - 0):Nat):Int) from (Int.le_refl _)) (pc (show (2:Int) * (((b.length - 0):Nat):Int)≤281474976710656 from FR.2.1) (pc (show (((b.length - 0):Nat):Int)≤9223372036854775807 from FR.2.2) (pc (show (b.length - 0)=(List.replicate (b.length - 0) 0:List Int).length from (eb).symm) (pc (show (b.length - 0)=(List.replicate (b.length - 0) 0:List Int).length from (eb).symm) (pc (show ∀ zi,zi < (List.replicate (b.length - 0) 0:List Int).length→(fun zi=>(cU .u16) ((List.replicate (b.length - 0) 0:List Int).getD zi 0)) zi=(fun _=>[(uG 0)]) zi from (fun zq fb=>pz (cU .u16) 0 0 (b.length - 0) zq fb)) pn))))))) ?_
   refine ae hE 2 [] [] (kp [4,5,8,9,81,82]) (kq [0,1,51]) 115 pn ?_
   exact b5 hE 2 [] (kp [4,5,8,9,81,82]) (kq [0] ++ [(1,.af 51),(2,.af 1)]) 3 pn (zX N _ _ _ _ N _ _ _ h E hE)
theorem rM (N a b r) (h:mJ N a b=some r):Sd 124 [(eU a),(eU b)] [] 0 (.tup [(eU r.1),(eU r.2)]) []:=by
 unfold mJ at h
 refine eL (fu:=Tryz.f124) (c:=HW 1) (nt:=109) (fun hm=>rfl) ?_
 intro E hE
 refine ae hE 1 [] [] (kp [0,1]) [] 32 pn ?_
 obtain ⟨ig,hr,h⟩:=aG h
 refine ae hE 2 [(2,oT (aI ig))] [] (kp [0,1,17]) [] 96 (pc (vA _ _ _ _ hr) pn) ?_
 refine ct 0 17 h (fun cR h=>?_) (fun cR h=>?_)
 ·obtain ⟨xx,dg,h⟩:=aG h
  refine ae hE 1 [(1,oT (eU xx))] [] (kp [4,5]) [] 160 (pc (jw _ _ _ dg) pn) ?_
  obtain rfl:=bQ h
  exact bV hE 0 Tryz.f124 [] ([(4,.sl (([]:List Int).length) (fun zi=>(cU .u16) (([]:List Int).getD zi 0)))] ++ kp [5]) [] 160 (pc (Eq.refl 0) pn) [] pn
 ·refine ae hE 3 [] [] (kp [0,1,22]) [] 144 pn ?_
  refine ct 0 22 h (fun gB h=>?_) (fun gB h=>?_)
  ·obtain ⟨c,h⟩:=ab h
   obtain ⟨xy,gR,h⟩:=aG h
   refine ae hE 1 [(4,oT (.tup [(eU xy.1),(uG xy.2)]))] [] (kp [6,7]) [] 304 (pc c (pc (Fj _ _ _ _ gR) pn)) ?_
   obtain ⟨bA,kE,h⟩:=aG h
   refine ae hE 1 [(3,⟨[],true,(eU bA),[],0,true,none⟩)] [] (kp [4,5]) [] 400 (pc (show Sd 122 [(.sl 1 (fun zi=>(fun zi=>([[(uG xy.2)]]:List (List AV)).getD zi []) (a8 0 zi)))] [] 0 (eU bA) [] from (Sound.conv (dy _ _ _ kE) (.cons (Alike.sl rfl (fun zq fb=>bE (cU .u16) 0 ([xy.2]:List Int) zq fb)) .nil))) (pc (z1 1) pn)) ?_
   obtain rfl:=bQ h
   exact bV hE 0 Tryz.f124 [] (kp [4,5]) [] 400 pn [] pn
  ·obtain ⟨c2,h⟩:=ab h
   obtain ⟨a4,n5,h⟩:=aG h
   refine ae hE 2 [(6,oT (aI a4))] [] (kp [0,1,8]) [] 272 (pc c2 (pc (oz _ _ _ n5) pn)) ?_
   obtain ⟨di,sH,h⟩:=aG h
   obtain ⟨dZ,tL,h⟩:=aG h
   obtain ⟨c3,h⟩:=ab h
   refine ae hE 1 [(2,⟨[],true,(.os 0 0 di.length),[(0,aU di)],0,false,none⟩),(5,⟨[],true,(.os 0 0 dZ.length),[(0,aU dZ)],0,false,none⟩)] [] (kp [8,9,10]) (kq [304,352]) 448 (pc (vC _ _ _ _ sH) (pc (vC _ _ _ _ tL) (pc c3 (pc (show 0≤((b.length:Nat):Int) from (Int.natCast_nonneg _)) pn)))) ?_
   refine ae hE 1 [] [] (kp [8,9,10,11]) (kq [304,352]) 496 pn ?_
   obtain ⟨c4,h⟩:=ab h
   refine ae hE 1 [] [] ([(4,.ja ((List.replicate ((ah (((di.length:Nat):Int) - (((b.length - 0):Nat):Int))).toNat) 0:List Int).length))] ++ kp [8,9,10,11]) (kq [304,352] ++ [(560,.arr 560 ((List.replicate ((ah (((di.length:Nat):Int) - (((b.length - 0):Nat):Int))).toNat) 0:List Int).length) (fun zi=>(cU .u16) ((List.replicate ((ah (((di.length:Nat):Int) - (((b.length - 0):Nat):Int))).toNat) 0:List Int).getD zi 0)))]) 592 (pc (show 0≤(ah (((di.length:Nat):Int) - (((b.length - 0):Nat):Int))) from c4.1) (pc (show (ah (((di.length:Nat):Int) - (((b.length - 0):Nat):Int)))≤(ah (((di.length:Nat):Int) - (((b.length - 0):Nat):Int))) from (Int.le_refl _)) (pc (show (2:Int) * (ah (((di.length:Nat):Int) - (((b.length - 0):Nat):Int)))≤281474976710656 from c4.2.1) (pc (show (ah (((di.length:Nat):Int) - (((b.length - 0):Nat):Int)))≤9223372036854775807 from c4.2.2) (pc (show (ah (((di.length:Nat):Int) - (((b.length - 0):Nat):Int))).toNat=(List.replicate ((ah (((di.length:Nat):Int) - (((b.length - 0):Nat):Int))).toNat) 0:List Int).length from (eb).symm) (pc (show (ah (((di.length:Nat):Int) - (((b.length - 0):Nat):Int))).toNat=(List.replicate ((ah (((di.length:Nat):Int) - (((b.length - 0):Nat):Int))).toNat) 0:List Int).length from (eb).symm) (pc (show ∀ zi,zi < (List.replicate ((ah (((di.length:Nat):Int) - (((b.length - 0):Nat):Int))).toNat) 0:List Int).length→(fun zi=>(cU .u16) ((List.replicate ((ah (((di.length:Nat):Int) - (((b.length - 0):Nat):Int))).toNat) 0:List Int).getD zi 0)) zi=(fun _=>[(uG 0)]) zi from (fun zq fb=>pz (cU .u16) 0 0 ((ah (((di.length:Nat):Int) - (((b.length - 0):Nat):Int))).toNat) zq fb)) pn))))))) ?_
   refine ae hE 2 [] [] (kp [4,8,9,10,11,12]) (kq [304,352,560]) 688 pn ?_
   exact b5 hE 2 [] (kp [4,8,9,10,11,12]) [(0,.af 560),(1,.af 304),(2,.af 352)] 3 pn (zY N _ _ _ N _ _ _ _ h E hE)
noncomputable abbrev DC:=bu Tryz.f123
def uk (N:Nat) (K:(List Int)→(List Int)→Option ((List Int))):Prop:=∀ (a2:List Int) (b2:List Int) (r:(List Int)),K a2 b2=some r→∀ E,a3 E 0→az Tryz.prog E 123 45 (aQ E [] (eU r)) [.code (DC 24),.inLoop (DC 24),.inBlock 0,.code (DC 7)] ⟨[(0,(eU a2)),(1,(eU b2))],[],0⟩
def A1 (N:Nat) (K:Int→Int→Option ((List Int))):Prop:=∀ (x:Int) (y:Int) (r:(List Int)),K x y=some r→∀ E,a3 E 0→az Tryz.prog E 123 45 (aQ E [] (eU r)) [.code (DC 25296),.inLoop (DC 25296),.inBlock 2,.code (DC 6325),.code (DC 791),.inBlock 1,.inLoop (DC 24),.inBlock 0,.code (DC 7)] ⟨[(5,(FQ x)),(7,(FQ y))],[],0⟩
theorem zZ (N:Nat) (mn:(List Int)→(List Int)→Option ((List Int))) (JL:uk N mn) (fuel:Nat):A1 N (js N mn fuel):=by
 induction fuel with
 | zero=>intro _ _ r h;rw [js.eq_1] at h;cases h
 | succ fuel ih =>
  intro x y r h E hE
  rw [js.eq_2] at h
  refine ae hE 2 [] [] (kp [5,7,29]) [] 32 pn ?_
  refine ct 0 29 h (fun qp h=>?_) (fun qp h=>?_)
  ·obtain ⟨c,h⟩:=ab h
   refine ae hE 2 [] [] (kp [5,7]) [] 128 (pc c pn) ?_
   exact b5 hE 2 [] (kp [5,7]) [] 0 pn (ih _ _ _ h E hE)
  ·obtain ⟨qa,gR,h⟩:=aG h
   refine ae hE 2 [(1,oT (eU qa))] [] (kp [4]) [] 80 (pc (qq _ _ _ gR) pn) ?_
   obtain rfl:=bQ h
   exact bV hE 0 Tryz.f123 [] (kp [4]) [] 80 pn [] pn
theorem z4 (N fuel):uk N (gY N fuel):=by
 induction fuel with
 | zero=>intro _ _ r h;rw [gY.eq_1] at h;cases h
 | succ fuel ih =>
  intro a2 b2 r h E hE
  rw [gY.eq_2] at h
  refine ae hE 2 [] [] (kp [0,1,13]) [] 48 pn ?_
  refine ct 0 13 h (fun cR h=>?_) (fun cR h=>?_)
  ·obtain ⟨Eu,hr,h⟩:=aG h
   refine ae hE 3 [(1,oT (.tup [(FQ Eu.1),(aB Eu.2)]))] [] (kp [0,1,5,6]) [] 160 (pc (AI _ _ _ hr) pn) ?_
   obtain ⟨Cs,dg,h⟩:=aG h
   refine ae hE 1 [(1,oT (.tup [(FQ Cs.1),(aB Cs.2)]))] [] (kp [0,1,5,6,7,8]) [] 272 (pc (AI _ _ _ dg) pn) ?_
   refine ae hE 2 [] [] (kp [0,1,5,7,27]) [] 336 (pc (fun hq:Eu.2=true=>(pc hq pn)) pn) ?_
   refine ct 0 27 h (fun gB h=>?_) (fun gB h=>?_)
   ·exact b5 hE 3 [] (kp [5,7]) [] 0 pn (zZ N _ ih N _ _ _ h E hE)
   ·obtain ⟨pA,kE,h⟩:=aG h
    refine ae hE 2 [(2,oT (.tup [(eU pA.1),(eU pA.2)]))] [] (kp [1,10]) [] 464 (pc (rM _ _ _ _ kE) pn) ?_
    refine ae hE 0 [] [] (kp [0,1]) [] 528 pn ?_
    exact b5 hE 2 [] (kp [0,1]) [] 0 pn (ih _ _ _ h E hE)
  ·refine ae hE 2 [] [] (kp [4]) [] 80 pn ?_
   obtain rfl:=bQ h
   exact bV hE 0 Tryz.f123 [] (kp [4]) [] 80 pn [] pn
theorem DD (N a b r) (h:tw N a b=some r):Sd 123 [(eU a),(eU b)] [] 0 (eU r) []:=by
 unfold tw at h
 refine eL (fu:=Tryz.f123) (c:=DC 1) (nt:=45) (fun hm=>rfl) ?_
 intro E hE
 refine ae hE 1 [] [] (kp [0,1]) [] 16 pn ?_
 exact b5 hE 3 [] (kp [0,1]) [] 0 pn (z4 N N _ _ _ h E hE)
noncomputable abbrev Pz:=bu Tryz.f98
def yH (N:Nat) (a:bd) (b:bd) (K:(List Int)→(List Int)→Option (aa)):Prop:=∀ (x:List Int) (y:List Int) (r:aa),K x y=some r→∀ E,a3 E 0→az Tryz.prog E 98 48 (aQ E [] (.agg (ai r))) [.code (Pz 62),.code (Pz 63)] ⟨[(2,(.op 0 0 0)),(3,(.op 1 0 0)),(4,(.op 2 0 0)),(5,(eU x)),(6,(eU y))],[(0,vO 2 (jr a)),(1,vO 2 (jr b)),(2,vO 4 [(aB false),.nil,(aB false),.nil])],3⟩
theorem qt (N a b):yH N a b (ky N a b):=by
 intro x y r h E hE
 unfold ky at h
 obtain ⟨HK,sH,h⟩:=aG h
 obtain ⟨Cr,tL,h⟩:=aG h
 refine ae hE 0 [(6,oT (.agg (jr HK))),(8,oT (.agg (jr Cr)))] [] (kp [4]) (kq [2]) 179 (pc o1 (pc o1 (pc (g8 _ _ _ _ sH) (pc (g8 _ _ _ _ tL) (pc o1 pn))))) ?_
 obtain rfl:=bQ h
 exact bV hE 0 Tryz.f98 [] (kp [4]) [(16,.af 2)] 179 pn [16] (pc o1 pn)
theorem gC (N a b r) (h:fM N a b=some r):Sd 98 [(.agg (jr a)),(.agg (jr b))] [] 0 (.agg (ai r)) []:=by
 unfold fM at h
 refine eL (fu:=Tryz.f98) (c:=Pz 1) (nt:=48) (fun hm=>rfl) ?_
 intro E hE
 refine ae hE 1 [] [] (kp [2,3,4]) (kq [0,16,32]) 48 pn ?_
 obtain ⟨bA,hr,h⟩:=aG h
 obtain ⟨gK,dg,h⟩:=aG h
 refine ae hE 1 [(2,oT (eU bA)),(5,oT (eU gK))] [] (kp [2,3,4,5,6]) (kq [0,16,32]) 176 (pc o1 (pc (dy _ _ _ hr) (pc o1 (pc (dy _ _ _ dg) pn)))) ?_
 obtain ⟨mo,gR,h⟩:=aG h
 refine ae hE 1 [(2,oT (eU mo))] [] (kp [2,3,4,5,6,7]) (kq [0,16,32]) 240 (pc (DD _ _ _ _ gR) pn) ?_
 obtain ⟨c,h⟩:=ab h
 refine ae hE 2 [] [] (kp [2,3,4,5,6,7,25]) (kq [0,16,32]) 384 (pc (fun hg:(!(((mo.length:Nat):Int) != 1))=true=>(pc hg (pc (c hg) pn))) (pc (fun hg:(!(((mo.length:Nat):Int) != 1))=true=>(pc hg pn)) (pc (fun hg:(!(((mo.length:Nat):Int) != 1))=true=>(pc hg pn)) (pc (fun hq:(!(((mo.length:Nat):Int) != 1))=true=>(pc hq pn)) pn)))) ?_
 refine ct 0 25 h (fun cR h=>?_) (fun cR h=>?_)
 ·obtain ⟨pA,kE,h⟩:=aG h
  refine ae hE 1 [(2,oT (.tup [(eU pA.1),(eU pA.2)]))] [] (kp [2,3,4,5,6,7]) (kq [0,16,32]) 496 (pc (rM _ _ _ _ kE) pn) ?_
  obtain ⟨yu,n5,h⟩:=aG h
  refine ae hE 0 [(2,oT (.tup [(eU yu.1),(eU yu.2)]))] [] (kp [2,3,4,5,6]) (kq [0,16,32]) 608 (pc (rM _ _ _ _ n5) pn) ?_
  exact b5 hE 1 [] (kp [2,3,4,5,6]) (kq [0] ++ [(1,.af 16),(2,.af 32)]) 3 pn (qt N _ _ _ _ _ h E hE)
 ·exact b5 hE 2 [] (kp [2,3,4,5,6]) (kq [0] ++ [(1,.af 16),(2,.af 32)]) 3 pn (qt N _ _ _ _ _ h E hE)
noncomputable abbrev Tl:=bu Tryz.f89
theorem yI (N a r) (h:wo N a=some r):Sd 89 [(.agg (jr a))] [] 0 (.agg (ai r)) []:=by
 unfold wo at h
 refine eL (fu:=Tryz.f89) (c:=Tl 1) (nt:=7) (fun hm=>rfl) ?_
 intro E hE
 refine ae hE 1 [] [] (kp [1,2]) (kq [0,16]) 32 pn ?_
 obtain ⟨zd,hr,h⟩:=aG h
 refine ae hE 1 [(3,⟨[],true,(.agg (ai zd)),[],0,true,none⟩)] [] (kp [2]) (kq [16]) 112 (pc o1 (pc (show Sd 98 [(.agg (jr a)),(.agg [(aB false),(.sl 1 (fun zi=>(fun zi=>([[(uG 1)]]:List (List AV)).getD zi []) (a8 0 zi)))])] [] 0 (.agg (ai zd)) [] from (Sound.conv (gC _ _ _ _ hr) (.cons (Alike.refl _) (.cons (Alike.agg (.cons (Alike.refl _) (.cons (Alike.sl rfl (fun zq fb=>bE (cU .u16) 0 ([1]:List Int) zq fb)) .nil))) .nil)))) (pc (z1 1) (pc o1 pn)))) ?_
 obtain rfl:=bQ h
 exact bV hE 0 Tryz.f89 [] (kp [2]) (kq [16]) 112 pn [16] (pc o1 pn)
noncomputable abbrev Wv:=bu Tryz.f68
theorem eO (N n r) (h:gA N n=some r):Sd 68 [(aI n)] [] 0 (.agg (ai r)) []:=by
 unfold gA at h
 refine eL (fu:=Tryz.f68) (c:=Wv 1) (nt:=6) (fun hm=>rfl) ?_
 intro E hE
 refine ae hE 1 [] [] (kp [0,2]) (kq [0]) 16 pn ?_
 obtain ⟨Ew,hr,h⟩:=aG h
 obtain ⟨xz,dg,h⟩:=aG h
 refine ae hE 1 [(1,oT (.agg (jr Ew))),(2,oT (.agg (ai xz)))] [] (kp [2]) (kq [0]) 80 (pc (wv _ _ _ hr) (pc (yI _ _ _ dg) (pc o1 pn))) ?_
 obtain rfl:=bQ h
 exact bV hE 0 Tryz.f68 [] (kp [2]) [(16,.af 0)] 80 pn [16] (pc o1 pn)
noncomputable abbrev Tm:=bu Tryz.f105
theorem ra (N a r) (h:qc N a=some r):Sd 105 [(.agg (jr a))] [] 0 (aI r) []:=by
 unfold qc at h
 refine eL (fu:=Tryz.f105) (c:=Tm 1) (nt:=12) (fun hm=>rfl) ?_
 intro E hE
 refine ae hE 1 [] [] (kp [1]) (kq [0]) 32 pn ?_
 obtain ⟨bA,hr,h⟩:=aG h
 refine ae hE 3 [(2,oT (eU bA))] [] (kp [1,3]) (kq [0]) 128 (pc o1 (pc (dy _ _ _ hr) pn)) ?_
 refine ct 0 3 h (fun cR h=>?_) (fun cR h=>?_)
 ·refine ae hE 1 [] [] (kp [2]) [] 144 pn ?_
  obtain rfl:=bQ h
  exact bV hE 0 Tryz.f105 [] (kp [2]) [] 144 pn [] pn
 ·refine ae hE 1 [] [] (kp [9]) [] 176 (pc o1 pn) ?_
  refine ct 0 9 h (fun gB h=>?_) (fun gB h=>?_)
  ·refine ae hE 1 [] [] (kp [2]) [] 192 pn ?_
   obtain rfl:=bQ h
   exact bV hE 0 Tryz.f105 [] (kp [2]) [] 192 pn [] pn
  ·refine ae hE 3 [] [] (kp [2]) [] 192 pn ?_
   obtain rfl:=bQ h
   exact bV hE 0 Tryz.f105 [] (kp [2]) [] 192 pn [] pn
noncomputable abbrev Tn:=bu Tryz.f97
theorem gS (N x r) (h:iT N x=some r):Sd 97 [(.agg (ai x))] [] 0 (.agg (jr r)) []:=by
 unfold iT at h
 refine eL (fu:=Tryz.f97) (c:=Tn 1) (nt:=11) (fun hm=>rfl) ?_
 intro E hE
 refine ae hE 1 [] [] (kp [1,2]) (kq [0,16]) 32 pn ?_
 obtain ⟨ug,hr,h⟩:=aG h
 refine ae hE 2 [(2,oT (aI ug))] [] (kp [1,2,6]) (kq [0,16]) 96 (pc o1 (pc (ra _ _ _ hr) pn)) ?_
 refine ct 0 6 h (fun cR h=>?_) (fun cR h=>?_)
 ·refine ae hE 1 [] [] (kp [2]) [(16,.var 16 [.af,.ja (([1]:List Int).length)]),(96,.arr 96 (([1]:List Int).length) (fun zi=>(cU .u16) (([1]:List Int).getD zi 0)))] 144 (pc o1 (pc (Eq.refl 1) (pc (Eq.refl 1) (pc (show ∀ zi,zi < ([1]:List Int).length→(fun zi=>(cU .u16) (([1]:List Int).getD zi 0)) zi=(fun zi=>([[(uG 1)]]:List (List AV)).getD zi []) zi from (fun zq fb=>bE (cU .u16) 0 ([1]:List Int) zq fb)) pn)))) ?_
  obtain rfl:=bQ h
  exact bV hE 0 Tryz.f97 [96] (kp [2]) [(16,.var 16 [.af,.sl (([1]:List Int).length) (fun zi=>(cU .u16) (([1]:List Int).getD zi 0))])] 144 (pc (Eq.refl (([1]:List Int).length)) (pc (z1 (([1]:List Int).length)) (pc (aZ (([1]:List Int).length) (fun zi=>(cU .u16) (([1]:List Int).getD zi 0))) pn))) [16] (pc o1 pn)
 ·refine ae hE 2 [] [] (kp [2]) (kq [16]) 144 (pc o1 (pc o1 pn)) ?_
  obtain rfl:=bQ h
  exact bV hE 0 Tryz.f97 [] (kp [2]) (kq [16]) 144 pn [16] (pc o1 pn)
noncomputable abbrev To:=bu Tryz.f69
theorem oe (N x r) (h:lk N x=some r):Sd 69 [(.agg (ai x))] [] 0 (.agg (ai r)) []:=by
 unfold lk at h
 refine eL (fu:=Tryz.f69) (c:=To 1) (nt:=8) (fun hm=>rfl) ?_
 intro E hE
 refine ae hE 1 [] [] (kp [1,2]) (kq [0,16]) 32 pn ?_
 obtain ⟨gL,hr,h⟩:=aG h
 obtain ⟨zd,dg,h⟩:=aG h
 refine ae hE 1 [(3,oT (.agg (jr gL))),(4,oT (.agg (ai zd)))] [] (kp [2]) (kq [16]) 128 (pc o1 (pc o1 (pc (gS _ _ _ hr) (pc (gC _ _ _ _ dg) (pc o1 pn))))) ?_
 obtain rfl:=bQ h
 exact bV hE 0 Tryz.f69 [] (kp [2]) (kq [16]) 128 pn [16] (pc o1 pn)
noncomputable abbrev Tp:=bu Tryz.f104
theorem A2 (N a r) (h:pB N a=some r):Sd 104 [(.agg (jr a))] [] 0 (.agg (jr r)) []:=by
 unfold pB at h
 refine eL (fu:=Tryz.f104) (c:=Tp 1) (nt:=9) (fun hm=>rfl) ?_
 intro E hE
 refine ae hE 1 [] [] (kp [1,2]) (kq [0,16]) 32 pn ?_
 refine ae hE 1 [] [] (kp [2]) (kq [16]) 144 (pc o1 (pc o1 (pc o1 pn))) ?_
 obtain rfl:=bQ h
 exact bV hE 0 Tryz.f104 [] (kp [2]) (kq [16]) 144 pn [16] (pc o1 pn)
noncomputable abbrev Tr:=bu Tryz.f70
theorem iV (N x r) (h:gM N x=some r):Sd 70 [(.agg (ai x))] [] 0 (.agg (ai r)) []:=by
 unfold gM at h
 refine eL (fu:=Tryz.f70) (c:=Tr 1) (nt:=9) (fun hm=>rfl) ?_
 intro E hE
 refine ae hE 1 [] [] (kp [1,2]) (kq [0,16]) 32 pn ?_
 obtain ⟨zI,hr,h⟩:=aG h
 obtain ⟨gL,dg,h⟩:=aG h
 obtain ⟨zd,gR,h⟩:=aG h
 refine ae hE 1 [(2,oT (.agg (jr zI))),(4,oT (.agg (jr gL))),(5,oT (.agg (ai zd)))] [] (kp [2]) (kq [16]) 144 (pc o1 (pc (A2 _ _ _ hr) (pc o1 (pc (gS _ _ _ dg) (pc (gC _ _ _ _ gR) (pc o1 pn)))))) ?_
 obtain rfl:=bQ h
 exact bV hE 0 Tryz.f70 [] (kp [2]) (kq [16]) 144 pn [16] (pc o1 pn)
noncomputable abbrev CK:=bu Tryz.f33
def CL (N:Nat) (n:Int) (l:List ag) (av:aa) (K:(List Int)→Int→Option (jX)):Prop:=∀ (t:List Int) (x:Int) (r:jX),K t x=some r→∀ E,a3 E 0→az Tryz.prog E 33 157 (aQ E [(0,vN 12 [(aI r.uD),(aI r.uE),(.os 1 0 r.iA.length),(.os 2 0 r.lf.length),(.os 3 0 r.FO.length),(.os 4 0 r.FP.length),(.os 5 0 r.dr.length),(aB r.aj.fN.fG),(eU r.aj.fN.fL),(aB r.aj.fD.fG),(eU r.aj.fD.fL),(aI r.bH)]),(1,aO 1 cI 0 r.iA),(2,aO 1 cI 0 r.lf),(3,aM 4 ai aa.d r.FO),(4,aO 4 ai aa.d r.FP),(5,aO 4 ai aa.d r.dr)] (.op 0 0 0)) [.code (CK 116),.inLoop (CK 116),.inBlock 0,.code (CK 15)] ⟨[(0,(aI n)),(1,(aD uf ag.d l)),(5,(.op 0 0 0)),(25,(aI (ah (2 * n)))),(26,(aI x))],[(0,vN 12 [(aI n),(aI ((l.length:Nat):Int)),.nil,(.os 1 0 t.length),.nil,.nil,.nil,(aB av.fN.fG),(eU av.fN.fL),(aB av.fD.fG),(eU av.fD.fL),(aI (ah ((ah (2 * n))+((l.length:Nat):Int))))]),(1,aO 1 cI 0 t)],2⟩
def qu (N:Nat) (n:Int) (l:List ag) (av:aa) (t:List Int) (K:(List Int)→(List (List aa))→(List aa)→Int→Option (jX)):Prop:=∀ (t2:List Int) (t3:List (List aa)) (t4:List aa) (x2:Int) (r:jX),K t2 t3 t4 x2=some r→∀ E,a3 E 0→az Tryz.prog E 33 157 (aQ E [(0,vN 12 [(aI r.uD),(aI r.uE),(.os 1 0 r.iA.length),(.os 2 0 r.lf.length),(.os 3 0 r.FO.length),(.os 4 0 r.FP.length),(.os 5 0 r.dr.length),(aB r.aj.fN.fG),(eU r.aj.fN.fL),(aB r.aj.fD.fG),(eU r.aj.fD.fL),(aI r.bH)]),(1,aO 1 cI 0 r.iA),(2,aO 1 cI 0 r.lf),(3,aM 4 ai aa.d r.FO),(4,aO 4 ai aa.d r.FP),(5,aO 4 ai aa.d r.dr)] (.op 0 0 0)) [.code (CK 500),.inLoop (CK 500),.inBlock 2,.code (CK 63)] ⟨[(0,(aI n)),(5,(.op 0 0 0)),(53,(aD uf ag.d l)),(54,(aI ((l.length:Nat):Int))),(55,(aI x2))],[(0,vN 12 [(aI n),(aI ((l.length:Nat):Int)),(.os 1 0 t2.length),(.os 2 0 ((t ++ ([(ah ((ah (2 * n))+((l.length:Nat):Int)))]:List Int)).length)),(.os 3 0 t3.length),(.os 4 0 t4.length),.nil,(aB av.fN.fG),(eU av.fN.fL),(aB av.fD.fG),(eU av.fD.fL),(aI (ah ((ah (2 * n))+((l.length:Nat):Int))))]),(1,aO 1 cI 0 t2),(2,aO 1 cI 0 (t ++ ([(ah ((ah (2 * n))+((l.length:Nat):Int)))]:List Int))),(3,aM 4 ai aa.d t3),(4,aO 4 ai aa.d t4)],5⟩
def vE (N:Nat) (n:Int) (l:List ag) (av:aa) (t:List Int) (t2:List Int) (t3:List (List aa)) (t4:List aa) (x2:Int) (K:(List aa)→Int→Option (jX)):Prop:=∀ (row:List aa) (x3:Int) (r:jX),K row x3=some r→∀ E,a3 E 0→az Tryz.prog E 33 157 (aQ E [(0,vN 12 [(aI r.uD),(aI r.uE),(.os 1 0 r.iA.length),(.os 2 0 r.lf.length),(.os 3 0 r.FO.length),(.os 4 0 r.FP.length),(.os 5 0 r.dr.length),(aB r.aj.fN.fG),(eU r.aj.fN.fL),(aB r.aj.fD.fG),(eU r.aj.fD.fL),(aI r.bH)]),(1,aO 1 cI 0 r.iA),(2,aO 1 cI 0 r.lf),(3,aM 4 ai aa.d r.FO),(4,aO 4 ai aa.d r.FP),(5,aO 4 ai aa.d r.dr)] (.op 0 0 0)) [.code (CK 1025652),.inLoop (CK 1025652),.inBlock 4,.code (CK 128207),.inBlock 3,.code (CK 4007),.inLoop (CK 500),.inBlock 2,.code (CK 63)] ⟨[(0,(aI n)),(5,(.op 0 0 0)),(8,(.op 5 0 0)),(9,(.os 6 0 row.length)),(53,(aD uf ag.d l)),(54,(aI ((l.length:Nat):Int))),(55,(aI x2)),(77,(aI n)),(78,(aI x3))],[(0,vN 12 [(aI n),(aI ((l.length:Nat):Int)),(.os 1 0 ((t2 ++ ([(ah ((ah (2 * n))+x2))]:List Int)).length)),(.os 2 0 ((t ++ ([(ah ((ah (2 * n))+((l.length:Nat):Int)))]:List Int)).length)),(.os 3 0 t3.length),(.os 4 0 t4.length),.nil,(aB av.fN.fG),(eU av.fN.fL),(aB av.fD.fG),(eU av.fD.fL),(aI (ah ((ah (2 * n))+((l.length:Nat):Int))))]),(1,aO 1 cI 0 (t2 ++ ([(ah ((ah (2 * n))+x2))]:List Int))),(2,aO 1 cI 0 (t ++ ([(ah ((ah (2 * n))+((l.length:Nat):Int)))]:List Int))),(3,aM 4 ai aa.d t3),(4,aO 4 ai aa.d t4),(5,vO 5 (uf (l.getD ((x2).toNat) ag.d))),(6,aO 4 ai aa.d row)],7⟩
def CM (N:Nat) (n:Int) (l:List ag) (av:aa) (t:List Int) (t2:List Int) (t3:List (List aa)) (t4:List aa) (x2:Int) (row:List aa) (x3:Int) (K:aa→Option (jX)):Prop:=∀ (c7:aa) (r:jX),K c7=some r→∀ E,a3 E 0→az Tryz.prog E 33 157 (aQ E [(0,vN 12 [(aI r.uD),(aI r.uE),(.os 1 0 r.iA.length),(.os 2 0 r.lf.length),(.os 3 0 r.FO.length),(.os 4 0 r.FP.length),(.os 5 0 r.dr.length),(aB r.aj.fN.fG),(eU r.aj.fN.fL),(aB r.aj.fD.fG),(eU r.aj.fD.fL),(aI r.bH)]),(1,aO 1 cI 0 r.iA),(2,aO 1 cI 0 r.lf),(3,aM 4 ai aa.d r.FO),(4,aO 4 ai aa.d r.FP),(5,aO 4 ai aa.d r.dr)] (.op 0 0 0)) [.code (CK 131283559),.inBlock 5,.code (CK 8205223),.inLoop (CK 1025652),.inBlock 4,.code (CK 128207),.inBlock 3,.code (CK 4007),.inLoop (CK 500),.inBlock 2,.code (CK 63)] ⟨[(0,(aI n)),(5,(.op 0 0 0)),(8,(.op 5 0 0)),(9,(.os 6 0 row.length)),(10,(aI x3)),(11,(.op 7 0 0)),(53,(aD uf ag.d l)),(54,(aI ((l.length:Nat):Int))),(55,(aI x2)),(77,(aI n)),(78,(aI x3))],[(0,vN 12 [(aI n),(aI ((l.length:Nat):Int)),(.os 1 0 ((t2 ++ ([(ah ((ah (2 * n))+x2))]:List Int)).length)),(.os 2 0 ((t ++ ([(ah ((ah (2 * n))+((l.length:Nat):Int)))]:List Int)).length)),(.os 3 0 t3.length),(.os 4 0 t4.length),.nil,(aB av.fN.fG),(eU av.fN.fL),(aB av.fD.fG),(eU av.fD.fL),(aI (ah ((ah (2 * n))+((l.length:Nat):Int))))]),(1,aO 1 cI 0 (t2 ++ ([(ah ((ah (2 * n))+x2))]:List Int))),(2,aO 1 cI 0 (t ++ ([(ah ((ah (2 * n))+((l.length:Nat):Int)))]:List Int))),(3,aM 4 ai aa.d t3),(4,aO 4 ai aa.d t4),(5,vO 5 (uf (l.getD ((x2).toNat) ag.d))),(6,aO 4 ai aa.d row),(7,vO 4 (ai c7))],8⟩
theorem um (N:Nat) (n:Int) (l:List ag) (av:aa) (t:List Int) (t2:List Int) (t3:List (List aa)) (t4:List aa) (x2:Int) (row:List aa) (x3:Int) (np:(List aa)→Int→Option (jX)) (cZ:(List Int)→(List (List aa))→(List aa)→Int→Option (jX)) (A3:vE N n l av t t2 t3 t4 x2 np) (mz:qu N n l av t cZ):CM N n l av t t2 t3 t4 x2 row x3 (pC N n l av t t2 t3 t4 x2 row x3 np cZ):=by
 intro c7 r h E hE
 unfold pC at h
 obtain ⟨aL,kE,h⟩:=aG h
 obtain ⟨c8,h⟩:=ab h
 obtain ⟨c9,h⟩:=ab h
 refine ae hE 0 [(7,oT (.agg (ai aL)))] [] (kp [0,5,8] ++ [(9,.ja (((row.set ((x3).toNat) aL).set ((ah (n+x3)).toNat) c7).length))] ++ kp [53,54,55,77,78]) (kq [0,1,2,3,4,5] ++ [(6,.arr 6 (((row.set ((x3).toNat) aL).set ((ah (n+x3)).toNat) c7).length) (fun zi=>ai (((row.set ((x3).toNat) aL).set ((ah (n+x3)).toNat) c7).getD zi aa.d)))]) 216 (pc o1 (pc (iV _ _ _ kE) (pc o1 (pc c8 (pc (cM c8) (pc c9 (pc (cM c9) (pc (show row.length=((row.set ((x3).toNat) aL).set ((ah (n+x3)).toNat) c7).length from (ld (ld rfl))) (pc (show row.length=((row.set ((x3).toNat) aL).set ((ah (n+x3)).toNat) c7).length from (ld (ld rfl))) (pc (show ∀ zi,zi < ((row.set ((x3).toNat) aL).set ((ah (n+x3)).toNat) c7).length→(fun zi=>ai (((row.set ((x3).toNat) aL).set ((ah (n+x3)).toNat) c7).getD zi aa.d)) zi=((fun zm=>if zm=(ah (n+x3)).toNat then [(aB c7.fN.fG),(eU c7.fN.fL),(aB c7.fD.fG),(eU c7.fD.fL)] else ((fun zm=>if zm=(x3).toNat then [(aB aL.fN.fG),(eU aL.fN.fL),(aB aL.fD.fG),(eU aL.fD.fL)] else (fun zi=>ai (row.getD zi aa.d)) zm)) zm)) zi from (vo ai aa.d (row.set ((x3).toNat) aL) ((ah (n+x3)).toNat) c7 (vo ai aa.d row ((x3).toNat) aL (fun _ _=>rfl)))) pn)))))))))) ?_
 refine ae hE 1 [] [] (kp [0,5,8,9,53,54,55,77,78]) (kq [0,1,2,3,4,5,6]) 248 pn ?_
 exact b5 hE 1 [] (kp [0,5,8,9,53,54,55,77,78]) (kq [0,1,2,3,4,5,6]) 7 pn (A3 _ _ _ h E hE)
theorem A4 (N:Nat) (n:Int) (l:List ag) (av:aa) (t:List Int) (t2:List Int) (t3:List (List aa)) (t4:List aa) (x2:Int) (cZ:(List Int)→(List (List aa))→(List aa)→Int→Option (jX)) (mz:qu N n l av t cZ) (fuel:Nat):vE N n l av t t2 t3 t4 x2 (lH N n l av t t2 t3 t4 x2 cZ fuel):=by
 induction fuel with
 | zero=>intro _ _ r h;rw [lH.eq_1] at h;cases h
 | succ fuel ih =>
  intro row x3 r h E hE
  rw [lH.eq_2] at h
  refine ae hE 1 [] [] (kp [0,5,8,9,53,54,55,77,78,79]) (kq [0,1,2,3,4,5,6]) 23 pn ?_
  refine ct 1 79 h (fun qp h=>?_) (fun qp h=>?_)
  ·refine ae hE 4 [] [] (kp [0,5,8,9,10,53,54,55,77,78]) (kq [0,1,2,3,4,5,6]) 55 pn ?_
   obtain ⟨jE,dg,h⟩:=aG h
   refine ae hE 1 [(0,oT (.agg (ai jE)))] [] (kp [0,5,8,9,10,11,53,54,55,77,78]) (kq [0,1,2,3,4,5,6,71]) 103 (pc (eO _ _ _ dg) (pc o1 pn)) ?_
   refine ae hE 2 [] [] (kp [0,5,8,9,10,11,53,54,55,77,78,86]) (kq [0,1,2,3,4,5,6,71]) 183 (pc o1 pn) ?_
   refine ct 0 86 h (fun zW h=>?_) (fun zW h=>?_)
   ·obtain ⟨c6,h⟩:=ab h
    obtain ⟨tx,gR,h⟩:=aG h
    refine ae hE 0 [(5,oT (.agg (ai tx)))] [] (kp [0,5,8,9,10,11,53,54,55,77,78]) (kq [0,1,2,3,4,5,6,71]) 295 (pc o1 (pc c6 (pc (oe _ _ _ gR) (pc o1 pn)))) ?_
    exact b5 hE 0 [] (kp [0,5,8,9,10,11,53,54,55,77,78]) (kq [0,1,2,3,4,5,6] ++ [(7,.af 71)]) 8 pn (um N _ _ _ _ _ _ _ _ _ _ _ _ ih mz _ _ h E hE)
   ·exact b5 hE 1 [] (kp [0,5,8,9,10,11,53,54,55,77,78]) (kq [0,1,2,3,4,5,6] ++ [(7,.af 71)]) 8 pn (um N _ _ _ _ _ _ _ _ _ _ _ _ ih mz _ _ h E hE)
  ·obtain ⟨bm,n5,h⟩:=aG h
   obtain ⟨JK,h⟩:=ab h
   refine ae hE 2 [(3,oT (.agg (ai bm)))] [] (kp [0,5,8] ++ [(9,.ja ((row.set ((ah (2 * n)).toNat) bm).length))] ++ kp [53,54,55]) (kq [0,1,2,3,4,5] ++ [(6,.arr 6 ((row.set ((ah (2 * n)).toNat) bm).length) (fun zi=>ai ((row.set ((ah (2 * n)).toNat) bm).getD zi aa.d)))]) 119 (pc (eO _ _ _ n5) (pc JK (pc (cM JK) (pc (ay row ((ah (2 * n)).toNat) bm) (pc (ay row ((ah (2 * n)).toNat) bm) (pc (bS ai aa.d row ((ah (2 * n)).toNat) bm) pn)))))) ?_
   obtain ⟨FR,h⟩:=ab h
   refine ae hE 1 [] [] (kp [0,5,8,53,54,55]) ([(0,.var 0 [.af,.af,.af,.af,.ja ((t3 ++ [(row.set ((ah (2 * n)).toNat) bm)]).length),.af,.af,.af,.af,.af,.af,.af])] ++ kq [1,2,4,5,6] ++ [(231,.nL 231 ((t3 ++ [(row.set ((ah (2 * n)).toNat) bm)]).length) [(t3.length,6,(row.set ((ah (2 * n)).toNat) bm).length)] (mG (t3 ++ [(row.set ((ah (2 * n)).toNat) bm)])))]) 295 (pc o1 (pc (Eq.refl t3.length) (pc FR (pc (show 0+1≤1 from (a7 _)) (pc (show ∀ zi,zi < 1→AV.fx ((fun zi=>([[(.os 6 0 ((row.set ((ah (2 * n)).toNat) bm).length))]]:List (List AV)).getD zi []) (a8 0 zi))=true from (om rfl)) (pc o1 (pc (show (t3.length+1)=(t3 ++ [(row.set ((ah (2 * n)).toNat) bm)]).length from (aw rfl rfl)) (pc (show t3.length+1=(t3 ++ [(row.set ((ah (2 * n)).toNat) bm)]).length from (aw rfl rfl)) (pc (show ∀ zm,zm < (t3 ++ [(row.set ((ah (2 * n)).toNat) bm)]).length→aJ [(t3.length,6,(row.set ((ah (2 * n)).toNat) bm).length)] (mG (t3 ++ [(row.set ((ah (2 * n)).toNat) bm)])) zm=if zm < t3.length then (mG t3) zm else (fun zi=>([[(.os 6 0 ((row.set ((ah (2 * n)).toNat) bm).length))]]:List (List AV)).getD zi []) (zm - t3.length) from (M7 (b:=fun zi=>([[(.os 6 0 ((row.set ((ah (2 * n)).toNat) bm).length))]]:List (List AV)).getD zi []) t3 (row.set ((ah (2 * n)).toNat) bm) rfl rfl)) (pc (iM (t3 ++ [(row.set ((ah (2 * n)).toNat) bm)])) pn)))))))))) ?_
   refine Li 231 6 t3.length (pc (Po t3 (row.set ((ah (2 * n)).toNat) bm)) (pc (show aJ [(t3.length,6,(row.set ((ah (2 * n)).toNat) bm).length)] (mG (t3 ++ [(row.set ((ah (2 * n)).toNat) bm)])) t3.length=[.os 6 0 (row.set ((ah (2 * n)).toNat) bm).length] from if_pos rfl) (pc (show ∀ zj,zj < (row.set ((ah (2 * n)).toNat) bm).length→lW (ai ((row.set ((ah (2 * n)).toNat) bm).getD zj aa.d))=true from fun _ _=>rfl) pn))) ?_
   refine Lh hE [] (kp [0,5,8,53,54,55]) (kq [0,1,2,4,5] ++ [(231,.nL 231 ((t3 ++ [(row.set ((ah (2 * n)).toNat) bm)]).length) [] (mG (t3 ++ [(row.set ((ah (2 * n)).toNat) bm)])))]) 295 (pc (Eq.refl ((t3 ++ [(row.set ((ah (2 * n)).toNat) bm)]).length)) (pc (Lj (sz:=4) (c:=ai) (d:=aa.d) (t3 ++ [(row.set ((ah (2 * n)).toNat) bm)]) t3.length 6 ((row.set ((ah (2 * n)).toNat) bm).length) (row.set ((ah (2 * n)).toNat) bm) [] (ox t3 (row.set ((ah (2 * n)).toNat) bm)) Cq) (pc (iM (t3 ++ [(row.set ((ah (2 * n)).toNat) bm)])) pn))) ?_
   obtain ⟨dj,sH,h⟩:=aG h
   obtain ⟨JI,h⟩:=ab h
   refine ae hE 0 [(7,oT (.agg (ai dj)))] [] (kp [0,5,53,54,55]) ([(0,.var 0 [.af,.af,.af,.af,.af,.ja ((t4 ++ ([dj]:List aa)).length),.af,.af,.af,.af,.af,.af])] ++ kq [1,2,231] ++ [(439,.arr 439 ((t4 ++ ([dj]:List aa)).length) (fun zi=>ai ((t4 ++ ([dj]:List aa)).getD zi aa.d)))]) 503 (pc o1 (pc o1 (pc (oe _ _ _ sH) (pc (Eq.refl t4.length) (pc JI (pc (z1 1) (pc (show ∀ zi,zi < 1→AV.fx ((fun zi=>([[(aB dj.fN.fG),(eU dj.fN.fL),(aB dj.fD.fG),(eU dj.fD.fL)]]:List (List AV)).getD zi []) (a8 0 zi))=true from (om rfl)) (pc o1 (pc (show (t4.length+1)=(t4 ++ ([dj]:List aa)).length from (aw rfl rfl)) (pc (show t4.length+1=(t4 ++ ([dj]:List aa)).length from (aw rfl rfl)) (pc (show ∀ zi,zi < (t4 ++ ([dj]:List aa)).length→(fun zi=>ai ((t4 ++ ([dj]:List aa)).getD zi aa.d)) zi=((fun zm=>if zm < t4.length then (fun zi=>ai (t4.getD zi aa.d)) zm else (fun zi=>([[(aB dj.fN.fG),(eU dj.fN.fL),(aB dj.fD.fG),(eU dj.fD.fL)]]:List (List AV)).getD zi []) (zm - t4.length))) zi from (bk ai aa.d t4 ([dj]:List aa) rfl (fun _ _=>rfl) (fun zq fb=>bE ai aa.d ([dj]:List aa) zq fb))) pn))))))))))) ?_
   refine ae hE 1 [] [] (kp [0,5,53,54,55]) (kq [0,1,2,231,439]) 535 pn ?_
   exact b5 hE 1 [] (kp [0,5,53,54,55]) (kq [0,1,2] ++ [(3,.af 231),(4,.af 439)]) 5 pn (mz _ _ _ _ _ h E hE)
def CN (N:Nat) (n:Int) (l:List ag) (av:aa) (t:List Int) (t2:List Int) (t3:List (List aa)) (t4:List aa) (K:(List aa)→Int→Option (jX)):Prop:=∀ (t5:List aa) (x4:Int) (r:jX),K t5 x4=some r→∀ E,a3 E 0→az Tryz.prog E 33 157 (aQ E [(0,vN 12 [(aI r.uD),(aI r.uE),(.os 1 0 r.iA.length),(.os 2 0 r.lf.length),(.os 3 0 r.FO.length),(.os 4 0 r.FP.length),(.os 5 0 r.dr.length),(aB r.aj.fN.fG),(eU r.aj.fN.fL),(aB r.aj.fD.fG),(eU r.aj.fD.fL),(aI r.bH)]),(1,aO 1 cI 0 r.iA),(2,aO 1 cI 0 r.lf),(3,aM 4 ai aa.d r.FO),(4,aO 4 ai aa.d r.FP),(5,aO 4 ai aa.d r.dr)] (.op 0 0 0)) [.code (CK 2036),.inLoop (CK 2036),.inBlock 6,.code (CK 255)] ⟨[(5,(.op 0 0 0)),(144,(aI (((List.replicate ((ah ((ah (2 * n))+1)).toNat) aa.d:List aa).length:Nat):Int))),(145,(aI x4))],[(0,vN 12 [(aI n),(aI ((l.length:Nat):Int)),(.os 1 0 t2.length),(.os 2 0 ((t ++ ([(ah ((ah (2 * n))+((l.length:Nat):Int)))]:List Int)).length)),(.os 3 0 t3.length),(.os 4 0 t4.length),(.os 5 0 t5.length),(aB av.fN.fG),(eU av.fN.fL),(aB av.fD.fG),(eU av.fD.fL),(aI (ah ((ah (2 * n))+((l.length:Nat):Int))))]),(1,aO 1 cI 0 t2),(2,aO 1 cI 0 (t ++ ([(ah ((ah (2 * n))+((l.length:Nat):Int)))]:List Int))),(3,aM 4 ai aa.d t3),(4,aO 4 ai aa.d t4),(5,aO 4 ai aa.d t5)],6⟩
theorem A5 (N n l av t t2 t3 t4 fuel):CN N n l av t t2 t3 t4 (nr N n l av t t2 t3 t4 fuel):=by
 induction fuel with
 | zero=>intro _ _ r h;rw [nr.eq_1] at h;cases h
 | succ fuel ih =>
  intro t5 x4 r h E hE
  rw [nr.eq_2] at h
  refine ae hE 1 [] [] (kp [5,144,145,146]) (kq [0,1,2,3,4,5]) 22 pn ?_
  refine ct 1 146 h (fun Fk h=>?_) (fun Fk h=>?_)
  ·refine ae hE 4 [] [] (kp [5,12,144,145]) (kq [0,1,2,3,4,5]) 54 pn ?_
   obtain ⟨nu,tL,h⟩:=aG h
   obtain ⟨IV,h⟩:=ab h
   refine ae hE 0 [(5,oT (.agg (ai nu)))] [] (kp [5,144,145]) ([(0,.var 0 [.af,.af,.af,.af,.af,.af,.ja ((t5.set ((x4).toNat) nu).length),.af,.af,.af,.af,.af])] ++ kq [1,2,3,4] ++ [(5,.arr 5 ((t5.set ((x4).toNat) nu).length) (fun zi=>ai ((t5.set ((x4).toNat) nu).getD zi aa.d)))]) 182 (pc o1 (pc (eO _ _ _ tL) (pc IV (pc (cM IV) (pc (ay t5 ((x4).toNat) nu) (pc (ay t5 ((x4).toNat) nu) (pc (bS ai aa.d t5 ((x4).toNat) nu) pn))))))) ?_
   refine ae hE 1 [] [] (kp [5,144,145]) (kq [0,1,2,3,4,5]) 214 pn ?_
   exact b5 hE 1 [] (kp [5,144,145]) (kq [0,1,2,3,4,5]) 6 pn (ih _ _ _ h E hE)
  ·refine ae hE 2 [] [] (kp [4]) (kq [0,1,2,3,4,5]) 54 pn ?_
   obtain rfl:=bQ h
   exact bV hE 0 Tryz.f33 [] (kp [4]) (kq [0,1,2,3,4,5]) 54 pn [] pn
theorem A6 (N n l av t fuel):qu N n l av t (nv N n l av t fuel):=by
 induction fuel with
 | zero=>intro _ _ _ _ r h;rw [nv.eq_1] at h;cases h
 | succ fuel ih =>
  intro t2 t3 t4 x2 r h E hE
  rw [nv.eq_2] at h
  refine ae hE 1 [] [] (kp [0,5,53,54,55,56]) (kq [0,1,2,3,4]) 21 pn ?_
  refine ct 1 56 h (fun gB h=>?_) (fun gB h=>?_)
  ·obtain ⟨c3,h⟩:=ab h
   refine ae hE 4 [] [] (kp [0,5,7,8,53,54,55]) (kq [0,1,2,3,4,69]) 117 (pc c3 (pc o1 pn)) ?_
   obtain ⟨c4,h⟩:=ab h
   refine ae hE 1 [] [] (kp [0,5,8,53,54,55]) ([(0,.var 0 [.af,.af,.ja ((t2 ++ ([(ah ((ah (2 * n))+x2))]:List Int)).length),.af,.af,.af,.af,.af,.af,.af,.af,.af])] ++ kq [2,3,4,69] ++ [(277,.arr 277 ((t2 ++ ([(ah ((ah (2 * n))+x2))]:List Int)).length) (fun zi=>cI ((t2 ++ ([(ah ((ah (2 * n))+x2))]:List Int)).getD zi 0)))]) 341 (pc o1 (pc (Eq.refl t2.length) (pc c4 (pc (z1 1) (pc (show ∀ zi,zi < 1→AV.fx ((fun zi=>([[(aI (ah ((ah (2 * n))+x2)))]]:List (List AV)).getD zi []) (a8 0 zi))=true from (om rfl)) (pc o1 (pc (show (t2.length+1)=(t2 ++ ([(ah ((ah (2 * n))+x2))]:List Int)).length from (aw rfl rfl)) (pc (show t2.length+1=(t2 ++ ([(ah ((ah (2 * n))+x2))]:List Int)).length from (aw rfl rfl)) (pc (show ∀ zi,zi < (t2 ++ ([(ah ((ah (2 * n))+x2))]:List Int)).length→(fun zi=>cI ((t2 ++ ([(ah ((ah (2 * n))+x2))]:List Int)).getD zi 0)) zi=((fun zm=>if zm < t2.length then (fun zi=>cI (t2.getD zi 0)) zm else (fun zi=>([[(aI (ah ((ah (2 * n))+x2)))]]:List (List AV)).getD zi []) (zm - t2.length))) zi from (bk cI 0 t2 ([(ah ((ah (2 * n))+x2))]:List Int) rfl (fun _ _=>rfl) (fun zq fb=>bE cI 0 ([(ah ((ah (2 * n))+x2))]:List Int) zq fb))) pn))))))))) ?_
   obtain ⟨c5,h⟩:=ab h
   refine ae hE 1 [] [] (kp [0,5,8] ++ [(9,.ja ((List.replicate ((ah ((ah (2 * n))+1)).toNat) aa.d:List aa).length))] ++ kp [53,54,55]) (kq [0,2,3,4,69,277] ++ [(389,.K8 389 ((List.replicate ((ah ((ah (2 * n))+1)).toNat) aa.d:List aa).length) (fun zi=>ai ((List.replicate ((ah ((ah (2 * n))+1)).toNat) aa.d:List aa).getD zi aa.d)))]) 421 (pc (show 0≤(ah ((ah (2 * n))+1)) from c5.1) (pc (show (ah ((ah (2 * n))+1))≤(ah ((ah (2 * n))+1)) from (Int.le_refl _)) (pc (show (64:Int) * (ah ((ah (2 * n))+1))≤281474976710656 from c5.2.1) (pc (show (ah ((ah (2 * n))+1))≤9223372036854775807 from c5.2.2) (pc (show (ah ((ah (2 * n))+1)).toNat=(List.replicate ((ah ((ah (2 * n))+1)).toNat) aa.d:List aa).length from (eb).symm) (pc (show (List.replicate ((ah ((ah (2 * n))+1)).toNat) aa.d:List aa).length≤(ah ((ah (2 * n))+1)).toNat from (Nat.le_of_eq (Eq.symm ((eb).symm)))) (pc (show ∀ zi,zi < (List.replicate ((ah ((ah (2 * n))+1)).toNat) aa.d:List aa).length→FN ((fun _=>[(aB false),.nil,(aB false),.nil]) zi) ((fun zi=>ai ((List.replicate ((ah ((ah (2 * n))+1)).toNat) aa.d:List aa).getD zi aa.d)) zi) from (fun zq fb=>mI ai aa.d aa.d ((ah ((ah (2 * n))+1)).toNat) zq ⟨.inl rfl,.inr ⟨rfl,_,rfl⟩,.inl rfl,.inr ⟨rfl,_,rfl⟩,trivial⟩ fb)) pn))))))) ?_
   refine ae hE 2 [] [] (kp [0,5,8,9,53,54,55,77,78]) (kq [0,2,3,4,69,277,389]) 453 pn ?_
   exact b5 hE 2 [] (kp [0,5,8,9,53,54,55,77,78]) (kq [0] ++ [(1,.af 277)] ++ kq [2,3,4] ++ [(5,.af 69),(6,.af 389)]) 7 pn (A4 N _ _ _ _ _ _ _ _ _ ih N _ _ _ h E hE)
  ·obtain ⟨GH,h⟩:=ab h
   refine ae hE 2 [] [] (kp [5]) ([(0,.var 0 [.af,.af,.af,.af,.af,.af,.ja ((List.replicate ((ah ((ah (2 * n))+1)).toNat) aa.d:List aa).length),.af,.af,.af,.af,.af])] ++ kq [1,2,3,4] ++ [(85,.K8 85 ((List.replicate ((ah ((ah (2 * n))+1)).toNat) aa.d:List aa).length) (fun zi=>ai ((List.replicate ((ah ((ah (2 * n))+1)).toNat) aa.d:List aa).getD zi aa.d)))]) 149 (pc (show 0≤(ah ((ah (2 * n))+1)) from GH.1) (pc (show (ah ((ah (2 * n))+1))≤(ah ((ah (2 * n))+1)) from (Int.le_refl _)) (pc (show (64:Int) * (ah ((ah (2 * n))+1))≤281474976710656 from GH.2.1) (pc (show (ah ((ah (2 * n))+1))≤9223372036854775807 from GH.2.2) (pc o1 (pc (show (ah ((ah (2 * n))+1)).toNat=(List.replicate ((ah ((ah (2 * n))+1)).toNat) aa.d:List aa).length from (eb).symm) (pc (show (List.replicate ((ah ((ah (2 * n))+1)).toNat) aa.d:List aa).length≤(ah ((ah (2 * n))+1)).toNat from (Nat.le_of_eq (Eq.symm ((eb).symm)))) (pc (show ∀ zi,zi < (List.replicate ((ah ((ah (2 * n))+1)).toNat) aa.d:List aa).length→FN ((fun _=>[(aB false),.nil,(aB false),.nil]) zi) ((fun zi=>ai ((List.replicate ((ah ((ah (2 * n))+1)).toNat) aa.d:List aa).getD zi aa.d)) zi) from (fun zq fb=>mI ai aa.d aa.d ((ah ((ah (2 * n))+1)).toNat) zq ⟨.inl rfl,.inr ⟨rfl,_,rfl⟩,.inl rfl,.inr ⟨rfl,_,rfl⟩,trivial⟩ fb)) pn)))))))) ?_
   refine ae hE 2 [] [] (kp [5,144,145]) (kq [0,1,2,3,4,85]) 245 (pc o1 pn) ?_
   exact b5 hE 2 [] (kp [5,144,145]) (kq [0,1,2,3,4] ++ [(5,.af 85)]) 6 pn (A5 N _ _ _ _ _ _ _ N _ _ _ h E hE)
theorem A7 (N n l av fuel):CL N n l av (nw N n l av fuel):=by
 induction fuel with
 | zero=>intro _ _ r h;rw [nw.eq_1] at h;cases h
 | succ fuel ih =>
  intro t x r h E hE
  rw [nw.eq_2] at h
  refine ae hE 1 [] [] (kp [0,1,5,25,26,27]) (kq [0,1]) 18 pn ?_
  refine ct 1 27 h (fun cR h=>?_) (fun cR h=>?_)
  ·refine ae hE 4 [] [] (kp [0,1,5,6,25,26]) (kq [0,1]) 50 pn ?_
   obtain ⟨c,h⟩:=ab h
   refine ae hE 0 [] [] (kp [0,1,5,25,26]) [(0,.var 0 [.af,.af,.af,.ja ((t ++ ([x]:List Int)).length),.af,.af,.af,.af,.af,.af,.af,.af]),(162,.arr 162 ((t ++ ([x]:List Int)).length) (fun zi=>cI ((t ++ ([x]:List Int)).getD zi 0)))] 226 (pc o1 (pc (Eq.refl t.length) (pc c (pc (z1 1) (pc (show ∀ zi,zi < 1→AV.fx ((fun zi=>([[(aI x)]]:List (List AV)).getD zi []) (a8 0 zi))=true from (om rfl)) (pc o1 (pc (show (t.length+1)=(t ++ ([x]:List Int)).length from (aw rfl rfl)) (pc (show t.length+1=(t ++ ([x]:List Int)).length from (aw rfl rfl)) (pc (show ∀ zi,zi < (t ++ ([x]:List Int)).length→(fun zi=>cI ((t ++ ([x]:List Int)).getD zi 0)) zi=((fun zm=>if zm < t.length then (fun zi=>cI (t.getD zi 0)) zm else (fun zi=>([[(aI x)]]:List (List AV)).getD zi []) (zm - t.length))) zi from (bk cI 0 t ([x]:List Int) rfl (fun _ _=>rfl) (fun zq fb=>bE cI 0 ([x]:List Int) zq fb))) pn))))))))) ?_
   refine ae hE 1 [] [] (kp [0,1,5,25,26]) (kq [0,162]) 258 pn ?_
   exact b5 hE 1 [] (kp [0,1,5,25,26]) (kq [0] ++ [(1,.af 162)]) 2 pn (ih _ _ _ h E hE)
  ·obtain ⟨c2,h⟩:=ab h
   refine ae hE 2 [] [] (kp [0,1,5]) [(0,.var 0 [.af,.af,.af,.ja ((t ++ ([(ah ((ah (2 * n))+((l.length:Nat):Int)))]:List Int)).length),.af,.af,.af,.af,.af,.af,.af,.af]),(178,.arr 178 ((t ++ ([(ah ((ah (2 * n))+((l.length:Nat):Int)))]:List Int)).length) (fun zi=>cI ((t ++ ([(ah ((ah (2 * n))+((l.length:Nat):Int)))]:List Int)).getD zi 0)))] 242 (pc o1 (pc o1 (pc (Eq.refl t.length) (pc c2 (pc (z1 1) (pc (show ∀ zi,zi < 1→AV.fx ((fun zi=>([[(aI (ah ((ah (2 * n))+((l.length:Nat):Int))))]]:List (List AV)).getD zi []) (a8 0 zi))=true from (om rfl)) (pc o1 (pc (show (t.length+1)=(t ++ ([(ah ((ah (2 * n))+((l.length:Nat):Int)))]:List Int)).length from (aw rfl rfl)) (pc (show t.length+1=(t ++ ([(ah ((ah (2 * n))+((l.length:Nat):Int)))]:List Int)).length from (aw rfl rfl)) (pc (show ∀ zi,zi < (t ++ ([(ah ((ah (2 * n))+((l.length:Nat):Int)))]:List Int)).length→(fun zi=>cI ((t ++ ([(ah ((ah (2 * n))+((l.length:Nat):Int)))]:List Int)).getD zi 0)) zi=((fun zm=>if zm < t.length then (fun zi=>cI (t.getD zi 0)) zm else (fun zi=>([[(aI (ah ((ah (2 * n))+((l.length:Nat):Int))))]]:List (List AV)).getD zi []) (zm - t.length))) zi from (bk cI 0 t ([(ah ((ah (2 * n))+((l.length:Nat):Int)))]:List Int) rfl (fun _ _=>rfl) (fun zq fb=>bE cI 0 ([(ah ((ah (2 * n))+((l.length:Nat):Int)))]:List Int) zq fb))) pn)))))))))) ?_
   refine ae hE 2 [] [] (kp [0,5,53,54,55]) (kq [0,178]) 290 pn ?_
   exact b5 hE 2 [] (kp [0,5,53,54,55]) [(0,.var 0 [.af,.af,.mU 1,.af,.mU 3,.mU 4,.af,.af,.af,.af,.af,.af]),(1,.nil 1 (fun zi=>cI (([]:List Int).getD zi 0))),(2,.af 178),(3,.Oo (mG ([]:List (List aa)))),(4,.nil 4 (fun zi=>ai (([]:List aa).getD zi aa.d)))] 5 pn (A6 N _ _ _ _ N _ _ _ _ _ h E hE)
theorem Fm (N n l r) (h:zJ N n l=some r):Sd 33 [(aI n),(aD uf ag.d l)] [] 0 (.op 0 0 0) [(0,vN 12 [(aI r.uD),(aI r.uE),(.os 1 0 r.iA.length),(.os 2 0 r.lf.length),(.os 3 0 r.FO.length),(.os 4 0 r.FP.length),(.os 5 0 r.dr.length),(aB r.aj.fN.fG),(eU r.aj.fN.fL),(aB r.aj.fD.fG),(eU r.aj.fD.fL),(aI r.bH)]),(1,aO 1 cI 0 r.iA),(2,aO 1 cI 0 r.lf),(3,aM 4 ai aa.d r.FO),(4,aO 4 ai aa.d r.FP),(5,aO 4 ai aa.d r.dr)]:=by
 unfold zJ at h
 refine eL (fu:=Tryz.f33) (c:=CK 1) (nt:=157) (fun hm=>rfl) ?_
 intro E hE
 refine ae hE 1 [] [] (kp [0,1]) [] 16 pn ?_
 obtain ⟨av,hr,h⟩:=aG h
 refine ae hE 1 [(8,oT (.agg (ai av)))] [] (kp [0,1,5]) (kq [176]) 208 (pc (eO _ _ _ hr) pn) ?_
 refine ae hE 2 [] [] (kp [0,1,5,25,26]) (kq [176]) 256 pn ?_
 exact b5 hE 2 [] (kp [0,1,5,25,26]) [(0,.var 176 [.af,.af,.af,.mU 1,.af,.af,.af,.af,.af,.af,.af,.af]),(1,.nil 1 (fun zi=>cI (([]:List Int).getD zi 0)))] 2 pn (A7 N _ _ _ N _ _ _ h E hE)
noncomputable abbrev Ts:=bu Tryz.f71
theorem og (N x r) (h:ll N x=some r):Sd 71 [(.agg (ai x))] [] 0 (aI r) []:=by
 unfold ll at h
 refine eL (fu:=Tryz.f71) (c:=Ts 1) (nt:=10) (fun hm=>rfl) ?_
 intro E hE
 refine ae hE 1 [] [] (kp [1]) (kq [0]) 32 pn ?_
 obtain ⟨ug,hr,h⟩:=aG h
 obtain ⟨gL,dg,h⟩:=aG h
 obtain ⟨HN,gR,h⟩:=aG h
 refine ae hE 1 [(2,oT (aI ug)),(4,oT (.agg (jr gL))),(5,oT (aI HN))] [] (kp [2]) [] 160 (pc o1 (pc (ra _ _ _ hr) (pc o1 (pc (gS _ _ _ dg) (pc (ra _ _ _ gR) pn))))) ?_
 obtain rfl:=bQ h
 exact bV hE 0 Tryz.f71 [] (kp [2]) [] 160 pn [] pn
noncomputable abbrev Tt:=bu Tryz.f74
theorem fU (N x r) (h:fz N x=some r):Sd 74 [(.agg (ai x))] [] 0 (aB r) []:=by
 unfold fz at h
 refine eL (fu:=Tryz.f74) (c:=Tt 1) (nt:=7) (fun hm=>rfl) ?_
 intro E hE
 refine ae hE 1 [] [] (kp [1]) (kq [0]) 32 pn ?_
 obtain ⟨ug,hr,h⟩:=aG h
 refine ae hE 1 [(2,oT (aI ug))] [] (kp [2]) [] 112 (pc o1 (pc (ra _ _ _ hr) pn)) ?_
 obtain rfl:=bQ h
 exact bV hE 0 Tryz.f74 [] (kp [2]) [] 112 pn [] pn
noncomputable abbrev DE:=bu Tryz.f128
def vF (N:Nat) (a:List Int) (b:List Int) (K:(List Int)→Int→Option ((List Int))):Prop:=∀ (out:List Int) (x:Int) (r:(List Int)),K out x=some r→∀ E,a3 E 0→az Tryz.prog E 128 67 (aQ E [] (eU r)) [.code (DE 116),.inLoop (DE 116),.inBlock 0,.code (DE 15)] ⟨[(1,(eU b)),(5,(.os 0 0 out.length)),(17,(eU a)),(18,(aI ((a.length:Nat):Int))),(19,(aI x))],[(0,aU out)],1⟩
def CO (N:Nat) (a:List Int) (b:List Int) (x:Int) (K:(List Int)→Int→Int→Option ((List Int))):Prop:=∀ (ew:List Int) (carry:Int) (x2:Int) (r:(List Int)),K ew carry x2=some r→∀ E,a3 E 0→az Tryz.prog E 128 67 (aQ E [] (eU r)) [.code (DE 119604),.inLoop (DE 119604),.inBlock 2,.code (DE 14951),.inBlock 1,.code (DE 935),.inLoop (DE 116),.inBlock 0,.code (DE 15)] ⟨[(1,(eU b)),(5,(.os 0 0 ew.length)),(6,(aI x)),(7,(uG (a.getD ((x).toNat) 0))),(8,(Nc carry)),(17,(eU a)),(18,(aI ((a.length:Nat):Int))),(19,(aI x)),(24,(eU b)),(25,(aI ((b.length:Nat):Int))),(26,(aI x2))],[(0,aU ew)],1⟩
theorem A8 (N:Nat) (a:List Int) (b:List Int) (x:Int) (ln:(List Int)→Int→Option ((List Int))) (A9:vF N a b ln) (fuel:Nat):CO N a b x (jf N a b x ln fuel):=by
 induction fuel with
 | zero=>intro _ _ _ r h;rw [jf.eq_1] at h;cases h
 | succ fuel ih =>
  intro ew carry x2 r h E hE
  rw [jf.eq_2] at h
  refine ae hE 1 [] [] (kp [1,5,6,7,8,17,18,19,24,25,26,27]) (kq [0]) 17 pn ?_
  refine ct 1 27 h (fun gB h=>?_) (fun gB h=>?_)
  ·obtain ⟨c3,h⟩:=ab h
   refine ae hE 4 [] [] (kp [1,5,6,7,8,9,10,17,18,19,24,25,26]) (kq [0]) 97 (pc c3 pn) ?_
   obtain ⟨c4,h⟩:=ab h
   refine ae hE 1 [] [] (kp [1,5,6,7,8,9,17,18,19,24,25,26]) (kq [0]) 353 (pc c4 (pc (cM c4) pn)) ?_
   refine ae hE 1 [] [] (kp [1] ++ [(5,.ja ((ew.set ((ah (x+x2)).toNat) (IntKind.u16.wrap ((IntKind.u32.wrap (carry+(IntKind.u32.wrap ((IntKind.u32.wrap ((IntKind.u32.wrap ((a.getD ((x).toNat) 0))) * (IntKind.u32.wrap ((b.getD ((x2).toNat) 0)))))+(IntKind.u32.wrap ((ew.getD ((ah (x+x2)).toNat) 0)))))))))).length))] ++ kp [6,7,8,17,18,19,24,25,26]) [(0,.arr 0 ((ew.set ((ah (x+x2)).toNat) (IntKind.u16.wrap ((IntKind.u32.wrap (carry+(IntKind.u32.wrap ((IntKind.u32.wrap ((IntKind.u32.wrap ((a.getD ((x).toNat) 0))) * (IntKind.u32.wrap ((b.getD ((x2).toNat) 0)))))+(IntKind.u32.wrap ((ew.getD ((ah (x+x2)).toNat) 0)))))))))).length) (fun zi=>(cU .u16) ((ew.set ((ah (x+x2)).toNat) (IntKind.u16.wrap ((IntKind.u32.wrap (carry+(IntKind.u32.wrap ((IntKind.u32.wrap ((IntKind.u32.wrap ((a.getD ((x).toNat) 0))) * (IntKind.u32.wrap ((b.getD ((x2).toNat) 0)))))+(IntKind.u32.wrap ((ew.getD ((ah (x+x2)).toNat) 0)))))))))).getD zi 0)))] 481 (pc c4 (pc (cM c4) (pc (ay ew ((ah (x+x2)).toNat) (IntKind.u16.wrap ((IntKind.u32.wrap (carry+(IntKind.u32.wrap ((IntKind.u32.wrap ((IntKind.u32.wrap ((a.getD ((x).toNat) 0))) * (IntKind.u32.wrap ((b.getD ((x2).toNat) 0)))))+(IntKind.u32.wrap ((ew.getD ((ah (x+x2)).toNat) 0)))))))))) (pc (ay ew ((ah (x+x2)).toNat) (IntKind.u16.wrap ((IntKind.u32.wrap (carry+(IntKind.u32.wrap ((IntKind.u32.wrap ((IntKind.u32.wrap ((a.getD ((x).toNat) 0))) * (IntKind.u32.wrap ((b.getD ((x2).toNat) 0)))))+(IntKind.u32.wrap ((ew.getD ((ah (x+x2)).toNat) 0)))))))))) (pc (bS (cU .u16) 0 ew ((ah (x+x2)).toNat) (IntKind.u16.wrap ((IntKind.u32.wrap (carry+(IntKind.u32.wrap ((IntKind.u32.wrap ((IntKind.u32.wrap ((a.getD ((x).toNat) 0))) * (IntKind.u32.wrap ((b.getD ((x2).toNat) 0)))))+(IntKind.u32.wrap ((ew.getD ((ah (x+x2)).toNat) 0)))))))))) pn))))) ?_
   refine ae hE 0 [] [] (kp [1,5,6,7,8,17,18,19,24,25,26]) (kq [0]) 529 (pc (show (0:Int)≤16 by decide) pn) ?_
   refine ae hE 1 [] [] (kp [1,5,6,7,8,17,18,19,24,25,26]) (kq [0]) 561 pn ?_
   exact b5 hE 1 [] (kp [1,5,6,7,8,17,18,19,24,25,26]) (kq [0]) 1 pn (ih _ _ _ _ h E hE)
  ·obtain ⟨c5,h⟩:=ab h
   refine ae hE 1 [] [] (kp [1] ++ [(5,.ja ((ew.set ((ah (x+((b.length:Nat):Int))).toNat) (IntKind.u16.wrap (carry))).length))] ++ kp [17,18,19]) [(0,.arr 0 ((ew.set ((ah (x+((b.length:Nat):Int))).toNat) (IntKind.u16.wrap (carry))).length) (fun zi=>(cU .u16) ((ew.set ((ah (x+((b.length:Nat):Int))).toNat) (IntKind.u16.wrap (carry))).getD zi 0)))] 161 (pc c5 (pc (cM c5) (pc (ay ew ((ah (x+((b.length:Nat):Int))).toNat) (IntKind.u16.wrap (carry))) (pc (ay ew ((ah (x+((b.length:Nat):Int))).toNat) (IntKind.u16.wrap (carry))) (pc (bS (cU .u16) 0 ew ((ah (x+((b.length:Nat):Int))).toNat) (IntKind.u16.wrap (carry))) pn))))) ?_
   refine ae hE 1 [] [] (kp [1,5,17,18,19]) (kq [0]) 193 pn ?_
   exact b5 hE 1 [] (kp [1,5,17,18,19]) (kq [0]) 1 pn (A9 _ _ _ h E hE)
theorem Ba (N a b fuel):vF N a b (jg N a b fuel):=by
 induction fuel with
 | zero=>intro _ _ r h;rw [jg.eq_1] at h;cases h
 | succ fuel ih =>
  intro out x r h E hE
  rw [jg.eq_2] at h
  refine ae hE 1 [] [] (kp [1,5,17,18,19,20]) (kq [0]) 17 pn ?_
  refine ct 1 20 h (fun cR h=>?_) (fun cR h=>?_)
  ·obtain ⟨c2,h⟩:=ab h
   refine ae hE 4 [] [] (kp [1,5,6,7,17,18,19]) (kq [0]) 97 (pc c2 pn) ?_
   refine ae hE 1 [] [] (kp [1,5,6,7,8,17,18,19]) (kq [0]) 113 pn ?_
   refine ae hE 2 [] [] (kp [1,5,6,7,8,17,18,19,24,25,26]) (kq [0]) 161 pn ?_
   exact b5 hE 2 [] (kp [1,5,6,7,8,17,18,19,24,25,26]) (kq [0]) 1 pn (A8 N _ _ _ _ ih N _ _ _ _ h E hE)
  ·obtain ⟨bA,hr,h⟩:=aG h
   refine ae hE 2 [(1,⟨[],true,(eU bA),[],0,true,none⟩)] [] (kp [4]) [] 65 (pc (dy _ _ _ hr) (pc (z1 out.length) pn)) ?_
   obtain rfl:=bQ h
   exact bV hE 0 Tryz.f128 [] (kp [4]) [] 65 pn [] pn
theorem Fo (N a b r) (h:pR N a b=some r):Sd 128 [(eU a),(eU b)] [] 0 (eU r) []:=by
 unfold pR at h
 refine eL (fu:=Tryz.f128) (c:=DE 1) (nt:=67) (fun hm=>rfl) ?_
 intro E hE
 refine ae hE 1 [] [] (kp [0,1]) [] 16 pn ?_
 obtain ⟨c,h⟩:=ab h
 refine ae hE 1 [] [] (kp [0,1] ++ [(5,.ja ((List.replicate ((ah (((a.length:Nat):Int)+((b.length:Nat):Int))).toNat) 0:List Int).length))]) [(96,.arr 96 ((List.replicate ((ah (((a.length:Nat):Int)+((b.length:Nat):Int))).toNat) 0:List Int).length) (fun zi=>(cU .u16) ((List.replicate ((ah (((a.length:Nat):Int)+((b.length:Nat):Int))).toNat) 0:List Int).getD zi 0)))] 128 (pc (show 0≤(ah (((a.length:Nat):Int)+((b.length:Nat):Int))) from c.1) (pc (show (ah (((a.length:Nat):Int)+((b.length:Nat):Int)))≤(ah (((a.length:Nat):Int)+((b.length:Nat):Int))) from (Int.le_refl _)) (pc (show (2:Int) * (ah (((a.length:Nat):Int)+((b.length:Nat):Int)))≤281474976710656 from c.2.1) (pc (show (ah (((a.length:Nat):Int)+((b.length:Nat):Int)))≤9223372036854775807 from c.2.2) (pc (show (ah (((a.length:Nat):Int)+((b.length:Nat):Int))).toNat=(List.replicate ((ah (((a.length:Nat):Int)+((b.length:Nat):Int))).toNat) 0:List Int).length from (eb).symm) (pc (show (ah (((a.length:Nat):Int)+((b.length:Nat):Int))).toNat=(List.replicate ((ah (((a.length:Nat):Int)+((b.length:Nat):Int))).toNat) 0:List Int).length from (eb).symm) (pc (show ∀ zi,zi < (List.replicate ((ah (((a.length:Nat):Int)+((b.length:Nat):Int))).toNat) 0:List Int).length→(fun zi=>(cU .u16) ((List.replicate ((ah (((a.length:Nat):Int)+((b.length:Nat):Int))).toNat) 0:List Int).getD zi 0)) zi=(fun _=>[(uG 0)]) zi from (fun zq fb=>pz (cU .u16) 0 0 ((ah (((a.length:Nat):Int)+((b.length:Nat):Int))).toNat) zq fb)) pn))))))) ?_
 refine ae hE 2 [] [] (kp [1,5,17,18,19]) (kq [96]) 176 pn ?_
 exact b5 hE 2 [] (kp [1,5,17,18,19]) [(0,.af 96)] 1 pn (Ba N _ _ N _ _ _ h E hE)
noncomputable abbrev Tu:=bu Tryz.f100
theorem mO (N a b r) (h:nx N a b=some r):Sd 100 [(.agg (jr a)),(.agg (jr b))] [] 0 (.agg (jr r)) []:=by
 unfold nx at h
 refine eL (fu:=Tryz.f100) (c:=Tu 1) (nt:=18) (fun hm=>rfl) ?_
 intro E hE
 refine ae hE 1 [] [] (kp [2,3,4]) (kq [0,16,32]) 48 pn ?_
 obtain ⟨bA,hr,h⟩:=aG h
 obtain ⟨gK,dg,h⟩:=aG h
 obtain ⟨oH,gR,h⟩:=aG h
 obtain ⟨HK,kE,h⟩:=aG h
 refine ae hE 1 [(7,oT (eU bA)),(10,oT (eU gK)),(11,oT (eU oH)),(12,oT (.agg (jr HK)))] [] (kp [4]) (kq [32]) 272 (pc o1 (pc o1 (pc o1 (pc (dy _ _ _ hr) (pc o1 (pc (dy _ _ _ dg) (pc (Fo _ _ _ _ gR) (pc (g8 _ _ _ _ kE) (pc o1 pn))))))))) ?_
 obtain rfl:=bQ h
 exact bV hE 0 Tryz.f100 [] (kp [4]) [(16,.af 32)] 272 pn [16] (pc o1 pn)
noncomputable abbrev CP:=bu Tryz.f125
def DF (N:Nat) (K:(List Int)→(List Int)→Option ((List Int))):Prop:=∀ (a2:List Int) (b2:List Int) (r:(List Int)),K a2 b2=some r→∀ E,a3 E 0→az Tryz.prog E 125 56 (aQ E [] (eU r)) [.code (CP 14),.code (CP 15)] ⟨[(0,(eU a2)),(1,(eU b2))],[],0⟩
def w8 (N:Nat) (a2:List Int) (b2:List Int) (K:(List Int)→Int→Int→Option ((List Int))):Prop:=∀ (out:List Int) (carry:Int) (x:Int) (r:(List Int)),K out carry x=some r→∀ E,a3 E 0→az Tryz.prog E 125 56 (aQ E [] (eU r)) [.code (CP 500),.inLoop (CP 500),.inBlock 0,.code (CP 63)] ⟨[(1,(eU b2)),(5,(.os 0 0 out.length)),(6,(Nc carry)),(20,(eU a2)),(21,(aI ((a2.length:Nat):Int))),(22,(aI x))],[(0,aU out)],1⟩
def DG (N:Nat) (a2:List Int) (b2:List Int) (out:List Int) (x:Int) (K:Int→Option ((List Int))):Prop:=∀ (dT:Int) (r:(List Int)),K dT=some r→∀ E,a3 E 0→az Tryz.prog E 125 56 (aQ E [] (eU r)) [.code (CP 128206),.code (CP 128207),.inBlock 1,.code (CP 4007),.inLoop (CP 500),.inBlock 0,.code (CP 63)] ⟨[(1,(eU b2)),(5,(.os 0 0 out.length)),(6,(Nc dT)),(20,(eU a2)),(21,(aI ((a2.length:Nat):Int))),(22,(aI x))],[(0,aU out)],1⟩
theorem vG (N:Nat) (a2:List Int) (b2:List Int) (out:List Int) (x:Int) (oa:(List Int)→Int→Int→Option ((List Int))) (CQ:w8 N a2 b2 oa):DG N a2 b2 out x (mW N a2 b2 out x oa):=by
 intro dT r h E hE
 unfold mW at h
 obtain ⟨c4,h⟩:=ab h
 refine ae hE 0 [] [] (kp [1] ++ [(5,.ja ((out ++ ([(IntKind.u16.wrap (dT))]:List Int)).length))] ++ kp [6,20,21,22]) [(65,.arr 65 ((out ++ ([(IntKind.u16.wrap (dT))]:List Int)).length) (fun zi=>(cU .u16) ((out ++ ([(IntKind.u16.wrap (dT))]:List Int)).getD zi 0)))] 97 (pc (Eq.refl out.length) (pc c4 (pc (z1 1) (pc (show ∀ zi,zi < 1→AV.fx ((fun zi=>([[(uG (IntKind.u16.wrap (dT)))]]:List (List AV)).getD zi []) (a8 0 zi))=true from (om rfl)) (pc (show (out.length+1)=(out ++ ([(IntKind.u16.wrap (dT))]:List Int)).length from (aw rfl rfl)) (pc (show out.length+1=(out ++ ([(IntKind.u16.wrap (dT))]:List Int)).length from (aw rfl rfl)) (pc (show ∀ zi,zi < (out ++ ([(IntKind.u16.wrap (dT))]:List Int)).length→(fun zi=>(cU .u16) ((out ++ ([(IntKind.u16.wrap (dT))]:List Int)).getD zi 0)) zi=((fun zm=>if zm < out.length then (fun zi=>(cU .u16) (out.getD zi 0)) zm else (fun zi=>([[(uG (IntKind.u16.wrap (dT)))]]:List (List AV)).getD zi []) (zm - out.length))) zi from (bk (cU .u16) 0 out ([(IntKind.u16.wrap (dT))]:List Int) rfl (fun _ _=>rfl) (fun zq fb=>bE (cU .u16) 0 ([(IntKind.u16.wrap (dT))]:List Int) zq fb))) pn))))))) ?_
 refine ae hE 0 [] [] (kp [1,5,6,20,21,22]) (kq [65]) 145 (pc (show (0:Int)≤16 by decide) pn) ?_
 refine ae hE 1 [] [] (kp [1,5,6,20,21,22]) (kq [65]) 177 pn ?_
 exact b5 hE 1 [] (kp [1,5,6,20,21,22]) [(0,.af 65)] 1 pn (CQ _ _ _ _ h E hE)
theorem CR (N a2 b2 fuel):w8 N a2 b2 (gZ N a2 b2 fuel):=by
 induction fuel with
 | zero=>intro _ _ _ r h;rw [gZ.eq_1] at h;cases h
 | succ fuel ih =>
  intro out carry x r h E hE
  rw [gZ.eq_2] at h
  refine ae hE 1 [] [] (kp [1,5,6,20,21,22,23]) (kq [0]) 17 pn ?_
  refine ct 1 23 h (fun gB h=>?_) (fun gB h=>?_)
  ·obtain ⟨c2,h⟩:=ab h
   refine ae hE 4 [] [] (kp [1,5,6,7,8,20,21,22]) (kq [0]) 97 (pc c2 pn) ?_
   refine ae hE 1 [] [] (kp [1,5,6,7,20,21,22]) (kq [0]) 177 pn ?_
   refine ae hE 2 [] [] (kp [1,5,6,7,20,21,22,34]) (kq [0]) 241 pn ?_
   refine ct 0 34 h (fun qp h=>?_) (fun qp h=>?_)
   ·obtain ⟨c3,h⟩:=ab h
    refine ae hE 0 [] [] (kp [1,5,6,20,21,22]) (kq [0]) 369 (pc c3 pn) ?_
    exact b5 hE 1 [] (kp [1,5,6,20,21,22]) (kq [0]) 1 pn (vG N _ _ _ _ _ ih _ _ h E hE)
   ·exact b5 hE 2 [] (kp [1,5,6,20,21,22]) (kq [0]) 1 pn (vG N _ _ _ _ _ ih _ _ h E hE)
  ·obtain ⟨c5,h⟩:=ab h
   obtain ⟨bA,hr,h⟩:=aG h
   refine ae hE 2 [(5,⟨[],true,(eU bA),[],0,true,none⟩)] [] (kp [4]) [] 129 (pc (Eq.refl out.length) (pc c5 (pc (z1 1) (pc (show ∀ zi,zi < 1→AV.fx ((fun zi=>([[(uG (IntKind.u16.wrap (carry)))]]:List (List AV)).getD zi []) (a8 0 zi))=true from (om rfl)) (pc (show Sd 122 [(.sl (out.length+1) (fun zi=>((fun zm=>if zm < out.length then (fun zi=>(cU .u16) (out.getD zi 0)) zm else (fun zi=>([[(uG (IntKind.u16.wrap (carry)))]]:List (List AV)).getD zi []) (zm - out.length))) (a8 0 zi)))] [] 0 (eU bA) [] from (Sound.conv (dy _ _ _ hr) (.cons (Alike.sl (aw rfl rfl) (bk (cU .u16) 0 out ([(IntKind.u16.wrap (carry))]:List Int) rfl (fun _ _=>rfl) (fun zq fb=>bE (cU .u16) 0 ([(IntKind.u16.wrap (carry))]:List Int) zq fb))) .nil))) (pc (z1 (out.length+1)) pn)))))) ?_
   obtain rfl:=bQ h
   exact bV hE 0 Tryz.f125 [] (kp [4]) [] 129 pn [] pn
theorem vH (N):DF N (mX N):=by
 intro a2 b2 r h E hE
 unfold mX at h
 obtain ⟨c,h⟩:=ab h
 refine ae hE 0 [] [] (kp [0,1] ++ [(5,.ja ((List.replicate 0 0:List Int).length))]) [(48,.arr 48 ((List.replicate 0 0:List Int).length) (fun zi=>(cU .u16) ((List.replicate 0 0:List Int).getD zi 0)))] 80 (pc (show 0≤(0:Int) from c.1) (pc (show (0:Int)≤(ah (((a2.length:Nat):Int)+1)) from c.2.2.2) (pc (show (2:Int) * (ah (((a2.length:Nat):Int)+1))≤281474976710656 from c.2.1) (pc (show (ah (((a2.length:Nat):Int)+1))≤9223372036854775807 from c.2.2.1) (pc (show 0=(List.replicate 0 0:List Int).length from (eb).symm) (pc (show 0=(List.replicate 0 0:List Int).length from (eb).symm) (pc (show ∀ zi,zi < (List.replicate 0 0:List Int).length→(fun zi=>(cU .u16) ((List.replicate 0 0:List Int).getD zi 0)) zi=(fun _=>[(uG 0)]) zi from (fun zq fb=>pz (cU .u16) 0 0 0 zq fb)) pn))))))) ?_
 refine ae hE 1 [] [] (kp [0,1,5,6]) (kq [48]) 96 pn ?_
 refine ae hE 2 [] [] (kp [1,5,6,20,21,22]) (kq [48]) 144 pn ?_
 exact b5 hE 2 [] (kp [1,5,6,20,21,22]) [(0,.af 48)] 1 pn (CR N _ _ N _ _ _ _ h E hE)
theorem GI (N a b r) (h:su N a b=some r):Sd 125 [(eU a),(eU b)] [] 0 (eU r) []:=by
 unfold su at h
 refine eL (fu:=Tryz.f125) (c:=CP 1) (nt:=56) (fun hm=>rfl) ?_
 intro E hE
 refine ae hE 1 [] [] (kp [0,1]) [] 16 pn ?_
 refine ae hE 2 [] [] (kp [0,1,13]) [] 96 pn ?_
 refine ct 0 13 h (fun cR h=>?_) (fun cR h=>?_)
 ·refine ae hE 0 [] [] (kp [0,1]) [] 160 pn ?_
  exact b5 hE 1 [] (kp [0,1]) [] 0 pn (vH N _ _ _ h E hE)
 ·exact b5 hE 2 [] (kp [0,1]) [] 0 pn (vH N _ _ _ h E hE)
noncomputable abbrev z5:=bu Tryz.f127
def qw (N:Nat) (a:List Int) (b:List Int) (K:(List Int)→Int→Int→Option ((List Int))):Prop:=∀ (out:List Int) (borrow:Int) (x:Int) (r:(List Int)),K out borrow x=some r→∀ E,a3 E 0→az Tryz.prog E 127 50 (aQ E [] (eU r)) [.code (z5 244),.inLoop (z5 244),.inBlock 0,.code (z5 31)] ⟨[(1,(eU b)),(5,(.os 0 0 out.length)),(6,(Nc borrow)),(13,(eU a)),(14,(aI ((a.length:Nat):Int))),(15,(aI x))],[(0,aU out)],1⟩
def CS (N:Nat) (a:List Int) (b:List Int) (out:List Int) (x:Int) (K:Int→Option ((List Int))):Prop:=∀ (y:Int) (r:(List Int)),K y=some r→∀ E,a3 E 0→az Tryz.prog E 127 50 (aQ E [] (eU r)) [.code (z5 62670),.code (z5 62671),.inBlock 1,.code (z5 1959),.inLoop (z5 244),.inBlock 0,.code (z5 31)] ⟨[(1,(eU b)),(5,(.os 0 0 out.length)),(7,(aI x)),(8,(uG (a.getD ((x).toNat) 0))),(9,(Nc y)),(13,(eU a)),(14,(aI ((a.length:Nat):Int))),(15,(aI x))],[(0,aU out)],1⟩
def CT (N:Nat) (a:List Int) (b:List Int) (out:List Int) (x:Int) (y:Int) (K:Int→Option ((List Int))):Prop:=∀ (iB:Int) (r:(List Int)),K iB=some r→∀ E,a3 E 0→az Tryz.prog E 127 50 (aQ E [] (eU r)) [.code (z5 125343),.inBlock 1,.code (z5 1959),.inLoop (z5 244),.inBlock 0,.code (z5 31)] ⟨[(1,(eU b)),(5,(.os 0 0 out.length)),(6,(Nc iB)),(7,(aI x)),(8,(uG (a.getD ((x).toNat) 0))),(9,(Nc y)),(13,(eU a)),(14,(aI ((a.length:Nat):Int))),(15,(aI x))],[(0,aU out)],1⟩
theorem uq (N:Nat) (a:List Int) (b:List Int) (out:List Int) (x:Int) (y:Int) (ee:(List Int)→Int→Int→Option ((List Int))) (mA:qw N a b ee):CT N a b out x y (lI N a b out x y ee):=by
 intro iB r h E hE
 unfold lI at h
 obtain ⟨c4,h⟩:=ab h
 refine ae hE 0 [] [] (kp [1] ++ [(5,.ja ((out.set ((x).toNat) (IntKind.u16.wrap ((IntKind.u32.wrap ((IntKind.u32.wrap ((IntKind.u32.wrap ((a.getD ((x).toNat) 0)))+(fh .u32 iB 16))) - y))))).length))] ++ kp [6,13,14,15]) [(0,.arr 0 ((out.set ((x).toNat) (IntKind.u16.wrap ((IntKind.u32.wrap ((IntKind.u32.wrap ((IntKind.u32.wrap ((a.getD ((x).toNat) 0)))+(fh .u32 iB 16))) - y))))).length) (fun zi=>(cU .u16) ((out.set ((x).toNat) (IntKind.u16.wrap ((IntKind.u32.wrap ((IntKind.u32.wrap ((IntKind.u32.wrap ((a.getD ((x).toNat) 0)))+(fh .u32 iB 16))) - y))))).getD zi 0)))] 193 (pc (show (0:Int)≤16 by decide) (pc c4 (pc (cM c4) (pc (ay out ((x).toNat) (IntKind.u16.wrap ((IntKind.u32.wrap ((IntKind.u32.wrap ((IntKind.u32.wrap ((a.getD ((x).toNat) 0)))+(fh .u32 iB 16))) - y))))) (pc (ay out ((x).toNat) (IntKind.u16.wrap ((IntKind.u32.wrap ((IntKind.u32.wrap ((IntKind.u32.wrap ((a.getD ((x).toNat) 0)))+(fh .u32 iB 16))) - y))))) (pc (bS (cU .u16) 0 out ((x).toNat) (IntKind.u16.wrap ((IntKind.u32.wrap ((IntKind.u32.wrap ((IntKind.u32.wrap ((a.getD ((x).toNat) 0)))+(fh .u32 iB 16))) - y))))) pn)))))) ?_
 refine ae hE 1 [] [] (kp [1,5,6,13,14,15]) (kq [0]) 225 pn ?_
 exact b5 hE 1 [] (kp [1,5,6,13,14,15]) (kq [0]) 1 pn (mA _ _ _ _ h E hE)
theorem ur (N:Nat) (a:List Int) (b:List Int) (out:List Int) (x:Int) (ee:(List Int)→Int→Int→Option ((List Int))) (mA:qw N a b ee):CS N a b out x (lJ N a b out x ee):=by
 intro y r h E hE
 unfold lJ at h
 refine ae hE 0 [] [] (kp [1,5,6,7,8,9,13,14,15]) (kq [0]) 17 pn ?_
 refine ae hE 2 [] [] (kp [1,5,6,7,8,9,13,14,15,35]) (kq [0]) 81 pn ?_
 refine ct 0 35 h (fun qp h=>?_) (fun qp h=>?_)
 ·refine ae hE 0 [] [] (kp [1,5,6,7,8,9,13,14,15]) (kq [0]) 97 pn ?_
  exact b5 hE 0 [] (kp [1,5,6,7,8,9,13,14,15]) (kq [0]) 1 pn (uq N _ _ _ _ _ _ mA _ _ h E hE)
 ·exact b5 hE 1 [] (kp [1,5,6,7,8,9,13,14,15]) (kq [0]) 1 pn (uq N _ _ _ _ _ _ mA _ _ h E hE)
theorem Bb (N a b fuel):qw N a b (eS N a b fuel):=by
 induction fuel with
 | zero=>intro _ _ _ r h;rw [eS.eq_1] at h;cases h
 | succ fuel ih =>
  intro out borrow x r h E hE
  rw [eS.eq_2] at h
  refine ae hE 1 [] [] (kp [1,5,6,13,14,15,16]) (kq [0]) 17 pn ?_
  refine ct 1 16 h (fun cR h=>?_) (fun cR h=>?_)
  ·obtain ⟨c2,h⟩:=ab h
   refine ae hE 4 [] [] (kp [1,5,6,7,8,13,14,15]) (kq [0]) 97 (pc c2 pn) ?_
   refine ae hE 1 [] [] (kp [1,5,7,8,9,13,14,15]) (kq [0]) 129 pn ?_
   refine ae hE 2 [] [] (kp [1,5,7,8,9,13,14,15,24]) (kq [0]) 193 pn ?_
   refine ct 0 24 h (fun gB h=>?_) (fun gB h=>?_)
   ·obtain ⟨c3,h⟩:=ab h
    refine ae hE 0 [] [] (kp [1,5,7,8,9,13,14,15]) (kq [0]) 321 (pc c3 pn) ?_
    exact b5 hE 1 [] (kp [1,5,7,8,9,13,14,15]) (kq [0]) 1 pn (ur N _ _ _ _ _ ih _ _ h E hE)
   ·exact b5 hE 2 [] (kp [1,5,7,8,9,13,14,15]) (kq [0]) 1 pn (ur N _ _ _ _ _ ih _ _ h E hE)
  ·obtain ⟨bA,hr,h⟩:=aG h
   refine ae hE 2 [(1,⟨[],true,(eU bA),[],0,true,none⟩)] [] (kp [4]) [] 65 (pc (dy _ _ _ hr) (pc (z1 out.length) pn)) ?_
   obtain rfl:=bQ h
   exact bV hE 0 Tryz.f127 [] (kp [4]) [] 65 pn [] pn
theorem yJ (N a b r) (h:nZ N a b=some r):Sd 127 [(eU a),(eU b)] [] 0 (eU r) []:=by
 unfold nZ at h
 refine eL (fu:=Tryz.f127) (c:=z5 1) (nt:=50) (fun hm=>rfl) ?_
 intro E hE
 refine ae hE 1 [] [] (kp [0,1]) [] 16 pn ?_
 obtain ⟨c,h⟩:=ab h
 refine ae hE 1 [] [] (kp [0,1] ++ [(5,.ja ((List.replicate a.length 0:List Int).length))]) [(48,.arr 48 ((List.replicate a.length 0:List Int).length) (fun zi=>(cU .u16) ((List.replicate a.length 0:List Int).getD zi 0)))] 80 (pc (show 0≤((a.length:Nat):Int) from c.1) (pc (show ((a.length:Nat):Int)≤((a.length:Nat):Int) from (Int.le_refl _)) (pc (show (2:Int) * ((a.length:Nat):Int)≤281474976710656 from c.2.1) (pc (show ((a.length:Nat):Int)≤9223372036854775807 from c.2.2) (pc (show a.length=(List.replicate a.length 0:List Int).length from (eb).symm) (pc (show a.length=(List.replicate a.length 0:List Int).length from (eb).symm) (pc (show ∀ zi,zi < (List.replicate a.length 0:List Int).length→(fun zi=>(cU .u16) ((List.replicate a.length 0:List Int).getD zi 0)) zi=(fun _=>[(uG 0)]) zi from (fun zq fb=>pz (cU .u16) 0 0 a.length zq fb)) pn))))))) ?_
 refine ae hE 1 [] [] (kp [0,1,5,6]) (kq [48]) 96 pn ?_
 refine ae hE 2 [] [] (kp [1,5,6,13,14,15]) (kq [48]) 144 pn ?_
 exact b5 hE 2 [] (kp [1,5,6,13,14,15]) [(0,.af 48)] 1 pn (Bb N _ _ N _ _ _ _ h E hE)
noncomputable abbrev Tv:=bu Tryz.f99
theorem HX (N a b r) (h:yw N a b=some r):Sd 99 [(.agg (jr a)),(.agg (jr b))] [] 0 (.agg (jr r)) []:=by
 unfold yw at h
 refine eL (fu:=Tryz.f99) (c:=Tv 1) (nt:=40) (fun hm=>rfl) ?_
 intro E hE
 refine ae hE 1 [] [] (kp [2,3,4]) (kq [0,16,32]) 48 pn ?_
 obtain ⟨bA,hr,h⟩:=aG h
 obtain ⟨gK,dg,h⟩:=aG h
 refine ae hE 1 [(2,oT (eU bA)),(5,oT (eU gK))] [] (kp [2,3,4,5,6]) (kq [0,16,32]) 176 (pc o1 (pc (dy _ _ _ hr) (pc o1 (pc (dy _ _ _ dg) pn)))) ?_
 refine ae hE 2 [] [] (kp [2,3,4,5,6,17]) (kq [0,16,32]) 256 (pc o1 (pc o1 pn)) ?_
 refine ct 0 17 h (fun cR h=>?_) (fun cR h=>?_)
 ·obtain ⟨Ct,gR,h⟩:=aG h
  obtain ⟨HK,kE,h⟩:=aG h
  refine ae hE 1 [(4,oT (eU Ct)),(5,oT (.agg (jr HK)))] [] (kp [4]) (kq [32]) 368 (pc o1 (pc (GI _ _ _ _ gR) (pc (g8 _ _ _ _ kE) (pc o1 pn)))) ?_
  obtain rfl:=bQ h
  exact bV hE 0 Tryz.f99 [] (kp [4]) [(16,.af 32)] 368 pn [16] (pc o1 pn)
 ·obtain ⟨ig,n5,h⟩:=aG h
  refine ae hE 3 [(2,oT (aI ig))] [] (kp [2,3,4,5,6,27]) (kq [0,16,32]) 320 (pc (vA _ _ _ _ n5) pn) ?_
  refine ct 0 27 h (fun gB h=>?_) (fun gB h=>?_)
  ·obtain ⟨qd,sH,h⟩:=aG h
   obtain ⟨Cr,tL,h⟩:=aG h
   refine ae hE 1 [(4,oT (eU qd)),(5,oT (.agg (jr Cr)))] [] (kp [4]) (kq [32]) 432 (pc o1 (pc (yJ _ _ _ _ sH) (pc (g8 _ _ _ _ tL) (pc o1 pn)))) ?_
   obtain rfl:=bQ h
   exact bV hE 0 Tryz.f99 [] (kp [4]) [(16,.af 32)] 432 pn [16] (pc o1 pn)
  ·obtain ⟨tz,AZ,h⟩:=aG h
   obtain ⟨Pr,AY,h⟩:=aG h
   refine ae hE 2 [(4,oT (eU tz)),(5,oT (.agg (jr Pr)))] [] (kp [4]) (kq [32]) 432 (pc o1 (pc (yJ _ _ _ _ AZ) (pc (g8 _ _ _ _ AY) (pc o1 pn)))) ?_
   obtain rfl:=bQ h
   exact bV hE 0 Tryz.f99 [] (kp [4]) [(16,.af 32)] 432 pn [16] (pc o1 pn)
noncomputable abbrev Tw:=bu Tryz.f59
theorem de (N x y r) (h:dw N x y=some r):Sd 59 [(.agg (ai x)),(.agg (ai y))] [] 0 (.agg (ai r)) []:=by
 unfold dw at h
 refine eL (fu:=Tryz.f59) (c:=Tw 1) (nt:=32) (fun hm=>rfl) ?_
 intro E hE
 refine ae hE 1 [] [] (kp [2,3,4]) (kq [0,16,32]) 48 pn ?_
 obtain ⟨eT,hr,h⟩:=aG h
 refine ae hE 2 [(1,oT (aB eT))] [] (kp [2,3,4,8]) (kq [0,16,32]) 80 (pc o1 (pc (fU _ _ _ hr) pn)) ?_
 refine ct 0 8 h (fun cR h=>?_) (fun cR h=>?_)
 ·obtain ⟨tx,dg,h⟩:=aG h
  refine ae hE 1 [(1,oT (.agg (ai tx)))] [] (kp [4]) (kq [32]) 128 (pc o1 (pc (oe _ _ _ dg) (pc o1 pn))) ?_
  obtain rfl:=bQ h
  exact bV hE 0 Tryz.f59 [] (kp [4]) [(16,.af 32)] 128 pn [16] (pc o1 pn)
 ·obtain ⟨qe,gR,h⟩:=aG h
  refine ae hE 3 [(1,oT (aB qe))] [] (kp [2,3,4,12]) (kq [0,16,32]) 112 (pc o1 (pc (fU _ _ _ gR) pn)) ?_
  refine ct 0 12 h (fun gB h=>?_) (fun gB h=>?_)
  ·obtain ⟨dj,kE,h⟩:=aG h
   refine ae hE 1 [(1,oT (.agg (ai dj)))] [] (kp [4]) (kq [32]) 160 (pc o1 (pc (oe _ _ _ kE) (pc o1 pn))) ?_
   obtain rfl:=bQ h
   exact bV hE 0 Tryz.f59 [] (kp [4]) [(16,.af 32)] 160 pn [16] (pc o1 pn)
  ·obtain ⟨gL,n5,h⟩:=aG h
   obtain ⟨mq,sH,h⟩:=aG h
   refine ae hE 2 [(1,oT (.agg (jr gL))),(3,oT (.agg (jr mq)))] [] (kp [2,3,4,5,6]) (kq [0,16,32,176,192]) 240 (pc o1 (pc (gS _ _ _ n5) (pc o1 (pc (gS _ _ _ sH) (pc o1 (pc o1 pn)))))) ?_
   obtain ⟨qf,tL,h⟩:=aG h
   obtain ⟨lp,AZ,h⟩:=aG h
   obtain ⟨HO,AY,h⟩:=aG h
   obtain ⟨Cu,tK,h⟩:=aG h
   obtain ⟨zd,vI,h⟩:=aG h
   refine ae hE 1 [(3,oT (.agg (jr qf))),(7,oT (.agg (jr lp))),(8,oT (.agg (jr HO))),(11,oT (.agg (jr Cu))),(12,oT (.agg (ai zd)))] [] (kp [4]) (kq [32]) 464 (pc o1 (pc o1 (pc (mO _ _ _ _ tL) (pc o1 (pc o1 (pc (mO _ _ _ _ AZ) (pc (HX _ _ _ _ AY) (pc o1 (pc o1 (pc (mO _ _ _ _ tK) (pc (gC _ _ _ _ vI) (pc o1 pn)))))))))))) ?_
   obtain rfl:=bQ h
   exact bV hE 0 Tryz.f59 [] (kp [4]) [(16,.af 32)] 464 pn [16] (pc o1 pn)
noncomputable abbrev Tx:=bu Tryz.f49
theorem dB (N x y r) (h:dU N x y=some r):Sd 49 [(.agg (ai x)),(.agg (ai y))] [] 0 (.agg (ai r)) []:=by
 unfold dU at h
 refine eL (fu:=Tryz.f49) (c:=Tx 1) (nt:=9) (fun hm=>rfl) ?_
 intro E hE
 refine ae hE 1 [] [] (kp [2,3,4]) (kq [0,16,32]) 48 pn ?_
 obtain ⟨aL,hr,h⟩:=aG h
 obtain ⟨aW,dg,h⟩:=aG h
 refine ae hE 1 [(2,oT (.agg (ai aL))),(3,oT (.agg (ai aW)))] [] (kp [4]) (kq [32]) 128 (pc o1 (pc o1 (pc (iV _ _ _ hr) (pc (de _ _ _ _ dg) (pc o1 pn))))) ?_
 obtain rfl:=bQ h
 exact bV hE 0 Tryz.f49 [] (kp [4]) [(16,.af 32)] 128 pn [16] (pc o1 pn)
noncomputable abbrev Ty:=bu Tryz.f58
theorem fV (N x y r) (h:ij N x y=some r):Sd 58 [(.agg (ai x)),(.agg (ai y))] [] 0 (aI r) []:=by
 unfold ij at h
 refine eL (fu:=Tryz.f58) (c:=Ty 1) (nt:=9) (fun hm=>rfl) ?_
 intro E hE
 refine ae hE 1 [] [] (kp [2,3]) (kq [0,16]) 48 pn ?_
 obtain ⟨au,hr,h⟩:=aG h
 obtain ⟨aF,dg,h⟩:=aG h
 refine ae hE 1 [(2,oT (.agg (ai au))),(3,oT (aI aF))] [] (kp [4]) [] 128 (pc o1 (pc o1 (pc (dB _ _ _ _ hr) (pc (og _ _ _ dg) pn)))) ?_
 obtain rfl:=bQ h
 exact bV hE 0 Tryz.f58 [] (kp [4]) [] 128 pn [] pn
noncomputable abbrev Tz:=bu Tryz.f106
theorem re (N x y r) (h:sw N x y=some r):Sd 106 [(.agg (ai x)),(.agg (ai y))] [] 0 (.agg (ai r)) []:=by
 unfold sw at h
 refine eL (fu:=Tryz.f106) (c:=Tz 1) (nt:=16) (fun hm=>rfl) ?_
 intro E hE
 refine ae hE 1 [] [] (kp [2,3,4]) (kq [0,16,32]) 48 pn ?_
 obtain ⟨gL,hr,h⟩:=aG h
 obtain ⟨qf,dg,h⟩:=aG h
 obtain ⟨mq,gR,h⟩:=aG h
 obtain ⟨lp,kE,h⟩:=aG h
 obtain ⟨zd,n5,h⟩:=aG h
 refine ae hE 1 [(3,oT (.agg (jr gL))),(4,oT (.agg (jr qf))),(6,oT (.agg (jr mq))),(9,oT (.agg (jr lp))),(10,oT (.agg (ai zd)))] [] (kp [4]) (kq [32]) 240 (pc o1 (pc o1 (pc (gS _ _ _ hr) (pc (mO _ _ _ _ dg) (pc o1 (pc (gS _ _ _ gR) (pc o1 (pc (mO _ _ _ _ kE) (pc (gC _ _ _ _ n5) (pc o1 pn)))))))))) ?_
 obtain rfl:=bQ h
 exact bV hE 0 Tryz.f106 [] (kp [4]) [(16,.af 32)] 240 pn [16] (pc o1 pn)
noncomputable abbrev TA:=bu Tryz.f60
theorem bZ (N x y r) (h:cF N x y=some r):Sd 60 [(.agg (ai x)),(.agg (ai y))] [] 0 (.agg (ai r)) []:=by
 unfold cF at h
 refine eL (fu:=Tryz.f60) (c:=TA 1) (nt:=16) (fun hm=>rfl) ?_
 intro E hE
 refine ae hE 1 [] [] (kp [2,3,4]) (kq [0,16,32]) 48 pn ?_
 obtain ⟨qf,hr,h⟩:=aG h
 obtain ⟨gL,dg,h⟩:=aG h
 obtain ⟨mq,gR,h⟩:=aG h
 obtain ⟨lp,kE,h⟩:=aG h
 obtain ⟨zd,n5,h⟩:=aG h
 refine ae hE 1 [(4,oT (.agg (jr qf))),(6,oT (.agg (jr gL))),(8,oT (.agg (jr mq))),(9,oT (.agg (jr lp))),(10,oT (.agg (ai zd)))] [] (kp [4]) (kq [32]) 240 (pc o1 (pc o1 (pc (mO _ _ _ _ hr) (pc o1 (pc (gS _ _ _ dg) (pc o1 (pc (gS _ _ _ gR) (pc (mO _ _ _ _ kE) (pc (gC _ _ _ _ n5) (pc o1 pn)))))))))) ?_
 obtain rfl:=bQ h
 exact bV hE 0 Tryz.f60 [] (kp [4]) [(16,.af 32)] 240 pn [16] (pc o1 pn)
noncomputable abbrev Ly:=bu Tryz.f107
def oA (N:Nat) (j:Int) (f:aa) (C0:List aa) (K:(List aa)→Int→Option ((List aa))):Prop:=∀ (a6:List aa) (x:Int) (r:(List aa)),K a6 x=some r→∀ E,a3 E 1→az Tryz.prog E 107 49 (aQ E [(0,aO 4 ai aa.d r)] (.tup [])) [.code (Ly 28),.inLoop (Ly 28),.inBlock 0] ⟨[(1,(.os 0 0 a6.length)),(2,(.os 0 0 a6.length)),(3,(aI j)),(9,(.op 1 0 0)),(12,(aI ((C0.length:Nat):Int))),(13,(aI x))],[(0,aO 4 ai aa.d a6),(1,vO 4 (ai f))],2⟩
def vJ (N:Nat) (j:Int) (f:aa) (C0:List aa) (x:Int) (K:(List aa)→Option ((List aa))):Prop:=∀ (bD:List aa) (r:(List aa)),K bD=some r→∀ E,a3 E 1→az Tryz.prog E 107 49 (aQ E [(0,aO 4 ai aa.d r)] (.tup [])) [.code (Ly 231),.inLoop (Ly 28),.inBlock 0] ⟨[(1,(.os 0 0 bD.length)),(2,(.os 0 0 bD.length)),(3,(aI j)),(9,(.op 1 0 0)),(12,(aI ((C0.length:Nat):Int))),(13,(aI x))],[(0,aO 4 ai aa.d bD),(1,vO 4 (ai f))],2⟩
theorem kR (N:Nat) (j:Int) (f:aa) (C0:List aa) (x:Int) (jh:(List aa)→Int→Option ((List aa))) (uI:oA N j f C0 jh):vJ N j f C0 x (ik N j f C0 x jh):=by
 intro bD r h E hE
 unfold ik at h
 refine ae hE 0 [] [] (kp [1,2,3,9,12,13]) (kq [0,1]) 34 pn ?_
 exact b5 hE 1 [] (kp [1,2,3,9,12,13]) (kq [0,1]) 2 pn (uI _ _ _ h E hE)
theorem uJ (N j f C0 fuel):oA N j f C0 (ey N j f C0 fuel):=by
 induction fuel with
 | zero=>intro _ _ r h;rw [ey.eq_1] at h;cases h
 | succ fuel ih =>
  intro a6 x r h E hE
  rw [ey.eq_2] at h
  refine ae hE 1 [] [] (kp [1,2,3,9,12,13,14]) (kq [0,1]) 18 pn ?_
  refine ct 1 14 h (fun cR h=>?_) (fun cR h=>?_)
  ·refine ae hE 4 [] [] (kp [1,2,3,9,10,12,13]) (kq [0,1]) 50 pn ?_
   refine ae hE 1 [] [] (kp [1,2,3,9,10,12,13,18]) (kq [0,1]) 98 pn ?_
   refine ct 0 18 h (fun gB h=>?_) (fun gB h=>?_)
   ·obtain ⟨c,h⟩:=ab h
    obtain ⟨bh,hr,h⟩:=aG h
    refine ae hE 0 [(7,oT (.agg (ai bh)))] [] ([(1,.ja ((a6.set ((x).toNat) bh).length)),(2,.ja ((a6.set ((x).toNat) bh).length))] ++ kp [3,9,12,13]) ([(0,.arr 0 ((a6.set ((x).toNat) bh).length) (fun zi=>ai ((a6.set ((x).toNat) bh).getD zi aa.d)))] ++ kq [1]) 258 (pc o1 (pc c (pc (cM c) (pc (bZ _ _ _ _ hr) (pc c (pc (cM c) (pc (ay a6 ((x).toNat) bh) (pc (ay a6 ((x).toNat) bh) (pc (ay a6 ((x).toNat) bh) (pc (bS ai aa.d a6 ((x).toNat) bh) pn)))))))))) ?_
    exact b5 hE 1 [] (kp [1,2,3,9,12,13]) (kq [0,1]) 2 pn (kR N _ _ _ _ _ ih _ _ h E hE)
   ·obtain ⟨c2,h⟩:=ab h
    obtain ⟨eT,dg,h⟩:=aG h
    refine ae hE 1 [(4,oT (aB eT))] [] (kp [1,2,3,9,10,12,13,33]) (kq [0,1]) 194 (pc c2 (pc (cM c2) (pc (fU _ _ _ dg) pn))) ?_
    refine ct 0 33 h (fun qp h=>?_) (fun qp h=>?_)
    ·obtain ⟨bI,gR,h⟩:=aG h
     obtain ⟨aW,kE,h⟩:=aG h
     refine ae hE 0 [(11,oT (.agg (ai bI))),(12,oT (.agg (ai aW)))] [] ([(1,.ja ((a6.set ((x).toNat) aW).length)),(2,.ja ((a6.set ((x).toNat) aW).length))] ++ kp [3,9,12,13]) ([(0,.arr 0 ((a6.set ((x).toNat) aW).length) (fun zi=>ai ((a6.set ((x).toNat) aW).getD zi aa.d)))] ++ kq [1]) 434 (pc c2 (pc (cM c2) (pc o1 (pc c2 (pc (cM c2) (pc (bZ _ _ _ _ gR) (pc (de _ _ _ _ kE) (pc c2 (pc (cM c2) (pc (ay a6 ((x).toNat) aW) (pc (ay a6 ((x).toNat) aW) (pc (ay a6 ((x).toNat) aW) (pc (bS ai aa.d a6 ((x).toNat) aW) pn))))))))))))) ?_
     exact b5 hE 1 [] (kp [1,2,3,9,12,13]) (kq [0,1]) 2 pn (kR N _ _ _ _ _ ih _ _ h E hE)
    ·exact b5 hE 2 [] (kp [1,2,3,9,12,13]) (kq [0,1]) 2 pn (kR N _ _ _ _ _ ih _ _ h E hE)
  ·obtain rfl:=bQ h
   exact Tc hE 1 Tryz.f107 [] [] (kq [0]) 49 pn [] pn
theorem xJ (N j f C0 r) (h:oI N j f C0=some r):Sd 107 [.k6,(.os 0 0 C0.length),(.os 0 0 C0.length),(aI j),(.agg (ai f))] [(0,aO 4 ai aa.d C0)] 1 (.tup []) [(0,aO 4 ai aa.d r)]:=by
 unfold oI at h
 refine eL (fu:=Tryz.f107) (c:=Ly 1) (nt:=49) (fun hm=>absurd hm (by decide)) ?_
 intro E hE
 refine ae hE 1 [] [] (kp [1,2,3,9]) (kq [0,1]) 17 pn ?_
 refine ae hE 1 [] [] (kp [1,2,3,9,12,13]) (kq [0,1]) 65 pn ?_
 exact b5 hE 2 [] (kp [1,2,3,9,12,13]) (kq [0,1]) 2 pn (uJ N _ _ _ N _ _ _ h E hE)
noncomputable abbrev Lz:=bu Tryz.f107
def m5 (N:Nat) (j:Int) (f:aa) (C0:List aa) (C1:List aa) (K:(List aa)→Int→Option ((List aa))):Prop:=∀ (a6:List aa) (x:Int) (r:(List aa)),K a6 x=some r→∀ E,a3 E 2→az Tryz.prog E 107 49 (aQ E [(0,aO 4 ai aa.d r),(1,aO 4 ai aa.d C1)] (.tup [])) [.code (Lz 28),.inLoop (Lz 28),.inBlock 0] ⟨[(1,(.os 0 0 a6.length)),(2,(.os 1 0 C1.length)),(3,(aI j)),(9,(.op 2 0 0)),(12,(aI ((C0.length:Nat):Int))),(13,(aI x))],[(0,aO 4 ai aa.d a6),(1,aO 4 ai aa.d C1),(2,vO 4 (ai f))],3⟩
def sI (N:Nat) (j:Int) (f:aa) (C0:List aa) (C1:List aa) (x:Int) (K:(List aa)→Option ((List aa))):Prop:=∀ (bD:List aa) (r:(List aa)),K bD=some r→∀ E,a3 E 2→az Tryz.prog E 107 49 (aQ E [(0,aO 4 ai aa.d r),(1,aO 4 ai aa.d C1)] (.tup [])) [.code (Lz 231),.inLoop (Lz 28),.inBlock 0] ⟨[(1,(.os 0 0 bD.length)),(2,(.os 1 0 C1.length)),(3,(aI j)),(9,(.op 2 0 0)),(12,(aI ((C0.length:Nat):Int))),(13,(aI x))],[(0,aO 4 ai aa.d bD),(1,aO 4 ai aa.d C1),(2,vO 4 (ai f))],3⟩
theorem jt (N:Nat) (j:Int) (f:aa) (C0:List aa) (C1:List aa) (x:Int) (gq:(List aa)→Int→Option ((List aa))) (rN:m5 N j f C0 C1 gq):sI N j f C0 C1 x (fj N j f C0 C1 x gq):=by
 intro bD r h E hE
 unfold fj at h
 refine ae hE 0 [] [] (kp [1,2,3,9,12,13]) (kq [0,1,2]) 35 pn ?_
 exact b5 hE 1 [] (kp [1,2,3,9,12,13]) (kq [0,1,2]) 3 pn (rN _ _ _ h E hE)
theorem rO (N j f C0 C1 fuel):m5 N j f C0 C1 (dh N j f C0 C1 fuel):=by
 induction fuel with
 | zero=>intro _ _ r h;rw [dh.eq_1] at h;cases h
 | succ fuel ih =>
  intro a6 x r h E hE
  rw [dh.eq_2] at h
  refine ae hE 1 [] [] (kp [1,2,3,9,12,13,14]) (kq [0,1,2]) 19 pn ?_
  refine ct 1 14 h (fun cR h=>?_) (fun cR h=>?_)
  ·refine ae hE 4 [] [] (kp [1,2,3,9,10,12,13]) (kq [0,1,2]) 51 pn ?_
   refine ae hE 1 [] [] (kp [1,2,3,9,10,12,13,18]) (kq [0,1,2]) 99 pn ?_
   refine ct 0 18 h (fun gB h=>?_) (fun gB h=>?_)
   ·obtain ⟨c,h⟩:=ab h
    obtain ⟨bh,hr,h⟩:=aG h
    obtain ⟨c2,h⟩:=ab h
    refine ae hE 0 [(7,oT (.agg (ai bh)))] [] ([(1,.ja ((a6.set ((x).toNat) bh).length))] ++ kp [2,3,9,12,13]) ([(0,.arr 0 ((a6.set ((x).toNat) bh).length) (fun zi=>ai ((a6.set ((x).toNat) bh).getD zi aa.d)))] ++ kq [1,2]) 259 (pc o1 (pc c (pc (cM c) (pc (bZ _ _ _ _ hr) (pc c2 (pc (cM c2) (pc (ay a6 ((x).toNat) bh) (pc (ay a6 ((x).toNat) bh) (pc (bS ai aa.d a6 ((x).toNat) bh) pn))))))))) ?_
    exact b5 hE 1 [] (kp [1,2,3,9,12,13]) (kq [0,1,2]) 3 pn (jt N _ _ _ _ _ _ ih _ _ h E hE)
   ·obtain ⟨c3,h⟩:=ab h
    obtain ⟨eT,dg,h⟩:=aG h
    refine ae hE 1 [(4,oT (aB eT))] [] (kp [1,2,3,9,10,12,13,33]) (kq [0,1,2]) 195 (pc c3 (pc (cM c3) (pc (fU _ _ _ dg) pn))) ?_
    refine ct 0 33 h (fun qp h=>?_) (fun qp h=>?_)
    ·obtain ⟨c4,h⟩:=ab h
     obtain ⟨bI,gR,h⟩:=aG h
     obtain ⟨aW,kE,h⟩:=aG h
     refine ae hE 0 [(11,oT (.agg (ai bI))),(12,oT (.agg (ai aW)))] [] ([(1,.ja ((a6.set ((x).toNat) aW).length))] ++ kp [2,3,9,12,13]) ([(0,.arr 0 ((a6.set ((x).toNat) aW).length) (fun zi=>ai ((a6.set ((x).toNat) aW).getD zi aa.d)))] ++ kq [1,2]) 435 (pc c4 (pc (cM c4) (pc o1 (pc c3 (pc (cM c3) (pc (bZ _ _ _ _ gR) (pc (de _ _ _ _ kE) (pc c4 (pc (cM c4) (pc (ay a6 ((x).toNat) aW) (pc (ay a6 ((x).toNat) aW) (pc (bS ai aa.d a6 ((x).toNat) aW) pn)))))))))))) ?_
     exact b5 hE 1 [] (kp [1,2,3,9,12,13]) (kq [0,1,2]) 3 pn (jt N _ _ _ _ _ _ ih _ _ h E hE)
    ·exact b5 hE 2 [] (kp [1,2,3,9,12,13]) (kq [0,1,2]) 3 pn (jt N _ _ _ _ _ _ ih _ _ h E hE)
  ·obtain rfl:=bQ h
   exact Tc hE 1 Tryz.f107 [] [] (kq [0,1]) 50 pn [] pn
theorem kS (N j f C0 C1 r) (h:il N j f C0 C1=some r):Sd 107 [.k6,(.os 0 0 C0.length),(.os 1 0 C1.length),(aI j),(.agg (ai f))] [(0,aO 4 ai aa.d C0),(1,aO 4 ai aa.d C1)] 2 (.tup []) [(0,aO 4 ai aa.d r),(1,aO 4 ai aa.d C1)]:=by
 unfold il at h
 refine eL (fu:=Tryz.f107) (c:=Lz 1) (nt:=49) (fun hm=>absurd hm (by decide)) ?_
 intro E hE
 refine ae hE 1 [] [] (kp [1,2,3,9]) (kq [0,1,2]) 18 pn ?_
 refine ae hE 1 [] [] (kp [1,2,3,9,12,13]) (kq [0,1,2]) 66 pn ?_
 exact b5 hE 2 [] (kp [1,2,3,9,12,13]) (kq [0,1,2]) 3 pn (rO N _ _ _ _ N _ _ _ h E hE)
noncomputable abbrev yK:=bu Tryz.f72
def nG (N:Nat) (i:Int) (j:Int) (C0:Int) (a6:Int) (bD:Bool) (cj:List Int) (cn:Bool) (cr:List Int) (cd:Int) (C1:List Int) (C2:List Int) (C3:List (List aa)) (C4:List aa) (C5:List aa) (K:(List aa)→Int→Option (jX×(List Int)×(List Int)×(List (List aa))×(List aa)×(List aa))):Prop:=∀ (qg:List aa) (x:Int) (r:jX×(List Int)×(List Int)×(List (List aa))×(List aa)×(List aa)),K qg x=some r→∀ E,a3 E 6→az Tryz.prog E 72 194 (aQ E [(0,vN 12 [(aI r.1.uD),(aI r.1.uE),(.os 1 0 r.2.1.length),(.os 2 0 r.2.2.1.length),(.os 3 0 r.2.2.2.1.length),(.os 4 0 r.2.2.2.2.1.length),(.os 5 0 r.2.2.2.2.2.length),(aB r.1.aj.fN.fG),(eU r.1.aj.fN.fL),(aB r.1.aj.fD.fG),(eU r.1.aj.fD.fL),(aI r.1.bH)]),(1,aO 1 cI 0 r.2.1),(2,aO 1 cI 0 r.2.2.1),(3,aM 4 ai aa.d r.2.2.2.1),(4,aO 4 ai aa.d r.2.2.2.2.1),(5,aO 4 ai aa.d r.2.2.2.2.2)] (.tup [])) [.code (yK 116),.inLoop (yK 116),.inBlock 0,.code (yK 15)] ⟨[(0,(.op 0 0 0)),(1,(aI i)),(2,(aI j)),(6,(.op 7 0 0)),(7,(.os 6 0 qg.length)),(30,(aI (((C3.getD ((i).toNat) []).length:Nat):Int))),(31,(aI x))],[(0,vN 12 [(aI C0),(aI a6),(.os 1 0 C1.length),(.os 2 0 C2.length),(.os 3 0 C3.length),(.os 4 0 C4.length),(.os 5 0 C5.length),(aB bD),(eU cj),(aB cn),(eU cr),(aI cd)]),(1,aO 1 cI 0 C1),(2,aO 1 cI 0 C2),(3,⟨false,1,C3.length,false,aJ [((i).toNat,6,qg.length)] (mG C3)⟩),(4,aO 4 ai aa.d C4),(5,aO 4 ai aa.d C5),(6,aO 4 ai aa.d qg),(7,vO 4 [(aB ((((C3.getD ((i).toNat) []).getD ((j).toNat) aa.d).fN).fG)),(eU ((((C3.getD ((i).toNat) []).getD ((j).toNat) aa.d).fN).fL)),(aB ((((C3.getD ((i).toNat) []).getD ((j).toNat) aa.d).fD).fG)),(eU ((((C3.getD ((i).toNat) []).getD ((j).toNat) aa.d).fD).fL))])],8⟩
def tM (N:Nat) (i:Int) (j:Int) (C0:Int) (a6:Int) (bD:Bool) (cj:List Int) (cn:Bool) (cr:List Int) (cd:Int) (C1:List Int) (C2:List Int) (C3:List (List aa)) (C4:List aa) (C5:List aa) (x:Int) (K:(List aa)→Option (jX×(List Int)×(List Int)×(List (List aa))×(List aa)×(List aa))):Prop:=∀ (Cv:List aa) (r:jX×(List Int)×(List Int)×(List (List aa))×(List aa)×(List aa)),K Cv=some r→∀ E,a3 E 6→az Tryz.prog E 72 194 (aQ E [(0,vN 12 [(aI r.1.uD),(aI r.1.uE),(.os 1 0 r.2.1.length),(.os 2 0 r.2.2.1.length),(.os 3 0 r.2.2.2.1.length),(.os 4 0 r.2.2.2.2.1.length),(.os 5 0 r.2.2.2.2.2.length),(aB r.1.aj.fN.fG),(eU r.1.aj.fN.fL),(aB r.1.aj.fD.fG),(eU r.1.aj.fD.fL),(aI r.1.bH)]),(1,aO 1 cI 0 r.2.1),(2,aO 1 cI 0 r.2.2.1),(3,aM 4 ai aa.d r.2.2.2.1),(4,aO 4 ai aa.d r.2.2.2.2.1),(5,aO 4 ai aa.d r.2.2.2.2.2)] (.tup [])) [.code (yK 935),.inLoop (yK 116),.inBlock 0,.code (yK 15)] ⟨[(0,(.op 0 0 0)),(1,(aI i)),(2,(aI j)),(6,(.op 7 0 0)),(7,(.os 6 0 Cv.length)),(30,(aI (((C3.getD ((i).toNat) []).length:Nat):Int))),(31,(aI x))],[(0,vN 12 [(aI C0),(aI a6),(.os 1 0 C1.length),(.os 2 0 C2.length),(.os 3 0 C3.length),(.os 4 0 C4.length),(.os 5 0 C5.length),(aB bD),(eU cj),(aB cn),(eU cr),(aI cd)]),(1,aO 1 cI 0 C1),(2,aO 1 cI 0 C2),(3,⟨false,1,C3.length,false,aJ [((i).toNat,6,Cv.length)] (mG C3)⟩),(4,aO 4 ai aa.d C4),(5,aO 4 ai aa.d C5),(6,aO 4 ai aa.d Cv),(7,vO 4 [(aB ((((C3.getD ((i).toNat) []).getD ((j).toNat) aa.d).fN).fG)),(eU ((((C3.getD ((i).toNat) []).getD ((j).toNat) aa.d).fN).fL)),(aB ((((C3.getD ((i).toNat) []).getD ((j).toNat) aa.d).fD).fG)),(eU ((((C3.getD ((i).toNat) []).getD ((j).toNat) aa.d).fD).fL))])],8⟩
theorem m6 (N:Nat) (i:Int) (j:Int) (C0:Int) (a6:Int) (bD:Bool) (cj:List Int) (cn:Bool) (cr:List Int) (cd:Int) (C1:List Int) (C2:List Int) (C3:List (List aa)) (C4:List aa) (C5:List aa) (x:Int) (gN:(List aa)→Int→Option (jX×(List Int)×(List Int)×(List (List aa))×(List aa)×(List aa))) (sJ:nG N i j C0 a6 bD cj cn cr cd C1 C2 C3 C4 C5 gN):tM N i j C0 a6 bD cj cn cr cd C1 C2 C3 C4 C5 x (ji N i j C0 a6 bD cj cn cr cd C1 C2 C3 C4 C5 x gN):=by
 intro Cv r h E hE
 unfold ji at h
 refine ae hE 0 [] [] (kp [0,1,2,6,7,30,31]) (kq [0,1,2] ++ [(3,.nL 3 (C3.length) [((i).toNat,6,Cv.length)] (mG C3))] ++ kq [4,5,6,7]) 40 (pc (Eq.refl C3.length) (pc (mC C3 [((i).toNat,6,Cv.length)]) (pc (iM C3) pn))) ?_
 exact b5 hE 1 [] (kp [0,1,2,6,7,30,31]) (kq [0,1,2] ++ [(3,.nL 3 (C3.length) [((i).toNat,6,Cv.length)] (mG C3))] ++ kq [4,5,6,7]) 8 (pc (Eq.refl C3.length) (pc (mC C3 [((i).toNat,6,Cv.length)]) (pc (iM C3) pn))) (sJ _ _ _ h E hE)
def nH (N:Nat) (i:Int) (j:Int) (C0:Int) (a6:Int) (bD:Bool) (cj:List Int) (cn:Bool) (cr:List Int) (cd:Int) (C1:List Int) (C2:List Int) (C3:List (List aa)) (C5:List aa) (K:(List (List aa))→(List aa)→(List aa)→Int→Option (jX×(List Int)×(List Int)×(List (List aa))×(List aa)×(List aa))):Prop:=∀ (bB:List (List aa)) (bp:List aa) (md:List aa) (x2:Int) (r:jX×(List Int)×(List Int)×(List (List aa))×(List aa)×(List aa)),K bB bp md x2=some r→∀ E,a3 E 6→az Tryz.prog E 72 194 (aQ E [(0,vN 12 [(aI r.1.uD),(aI r.1.uE),(.os 1 0 r.2.1.length),(.os 2 0 r.2.2.1.length),(.os 3 0 r.2.2.2.1.length),(.os 4 0 r.2.2.2.2.1.length),(.os 5 0 r.2.2.2.2.2.length),(aB r.1.aj.fN.fG),(eU r.1.aj.fN.fL),(aB r.1.aj.fD.fG),(eU r.1.aj.fD.fL),(aI r.1.bH)]),(1,aO 1 cI 0 r.2.1),(2,aO 1 cI 0 r.2.2.1),(3,aM 4 ai aa.d r.2.2.2.1),(4,aO 4 ai aa.d r.2.2.2.2.1),(5,aO 4 ai aa.d r.2.2.2.2.2)] (.tup [])) [.code (yK 1012),.inLoop (yK 1012),.inBlock 2,.code (yK 127)] ⟨[(0,(.op 0 0 0)),(1,(aI i)),(2,(aI j)),(7,(.os 6 0 bp.length)),(74,(aI ((C3.length:Nat):Int))),(75,(aI x2))],[(0,vN 12 [(aI C0),(aI a6),(.os 1 0 C1.length),(.os 2 0 C2.length),(.os 3 0 bB.length),(.os 4 0 md.length),(.os 5 0 C5.length),(aB bD),(eU cj),(aB cn),(eU cr),(aI cd)]),(1,aO 1 cI 0 C1),(2,aO 1 cI 0 C2),(3,⟨false,1,bB.length,false,aJ [((i).toNat,6,bp.length)] (mG bB)⟩),(4,aO 4 ai aa.d md),(5,aO 4 ai aa.d C5),(6,aO 4 ai aa.d bp)],7⟩
def tN (N:Nat) (i:Int) (j:Int) (C0:Int) (a6:Int) (bD:Bool) (cj:List Int) (cn:Bool) (cr:List Int) (cd:Int) (C1:List Int) (C2:List Int) (C3:List (List aa)) (C5:List aa) (x2:Int) (K:(List (List aa))→(List aa)→(List aa)→Option (jX×(List Int)×(List Int)×(List (List aa))×(List aa)×(List aa))):Prop:=∀ (jx:List (List aa)) (Cw:List aa) (ny:List aa) (r:jX×(List Int)×(List Int)×(List (List aa))×(List aa)×(List aa)),K jx Cw ny=some r→∀ E,a3 E 6→az Tryz.prog E 72 194 (aQ E [(0,vN 12 [(aI r.1.uD),(aI r.1.uE),(.os 1 0 r.2.1.length),(.os 2 0 r.2.2.1.length),(.os 3 0 r.2.2.2.1.length),(.os 4 0 r.2.2.2.2.1.length),(.os 5 0 r.2.2.2.2.2.length),(aB r.1.aj.fN.fG),(eU r.1.aj.fN.fL),(aB r.1.aj.fD.fG),(eU r.1.aj.fD.fL),(aI r.1.bH)]),(1,aO 1 cI 0 r.2.1),(2,aO 1 cI 0 r.2.2.1),(3,aM 4 ai aa.d r.2.2.2.1),(4,aO 4 ai aa.d r.2.2.2.2.1),(5,aO 4 ai aa.d r.2.2.2.2.2)] (.tup [])) [.code (yK 8103),.inLoop (yK 1012),.inBlock 2,.code (yK 127)] ⟨[(0,(.op 0 0 0)),(1,(aI i)),(2,(aI j)),(7,(.os 6 0 Cw.length)),(74,(aI ((C3.length:Nat):Int))),(75,(aI x2))],[(0,vN 12 [(aI C0),(aI a6),(.os 1 0 C1.length),(.os 2 0 C2.length),(.os 3 0 jx.length),(.os 4 0 ny.length),(.os 5 0 C5.length),(aB bD),(eU cj),(aB cn),(eU cr),(aI cd)]),(1,aO 1 cI 0 C1),(2,aO 1 cI 0 C2),(3,⟨false,1,jx.length,false,aJ [((i).toNat,6,Cw.length)] (mG jx)⟩),(4,aO 4 ai aa.d ny),(5,aO 4 ai aa.d C5),(6,aO 4 ai aa.d Cw)],7⟩
theorem eH (N:Nat) (i:Int) (j:Int) (C0:Int) (a6:Int) (bD:Bool) (cj:List Int) (cn:Bool) (cr:List Int) (cd:Int) (C1:List Int) (C2:List Int) (C3:List (List aa)) (C5:List aa) (x2:Int) (gP:(List (List aa))→(List aa)→(List aa)→Int→Option (jX×(List Int)×(List Int)×(List (List aa))×(List aa)×(List aa))) (sK:nH N i j C0 a6 bD cj cn cr cd C1 C2 C3 C5 gP):tN N i j C0 a6 bD cj cn cr cd C1 C2 C3 C5 x2 (dx N i j C0 a6 bD cj cn cr cd C1 C2 C3 C5 x2 gP):=by
 intro jx Cw ny r h E hE
 unfold dx at h
 refine ae hE 0 [] [] (kp [0,1,2,7,74,75]) (kq [0,1,2] ++ [(3,.nL 3 (jx.length) [((i).toNat,6,Cw.length)] (mG jx))] ++ kq [4,5,6]) 39 (pc (Eq.refl jx.length) (pc (mC jx [((i).toNat,6,Cw.length)]) (pc (iM jx) pn))) ?_
 exact b5 hE 1 [] (kp [0,1,2,7,74,75]) (kq [0,1,2] ++ [(3,.nL 3 (jx.length) [((i).toNat,6,Cw.length)] (mG jx))] ++ kq [4,5,6]) 7 (pc (Eq.refl jx.length) (pc (mC jx [((i).toNat,6,Cw.length)]) (pc (iM jx) pn))) (sK _ _ _ _ _ h E hE)
def tO (N:Nat) (i:Int) (j:Int) (C0:Int) (a6:Int) (cd:Int) (C1:List Int) (C2:List Int) (bB:List (List aa)) (bp:List aa) (md:List aa) (K:(List aa)→Bool→(List Int)→Bool→(List Int)→Option (jX×(List Int)×(List Int)×(List (List aa))×(List aa)×(List aa))):Prop:=∀ (eC:List aa) (nM:Bool) (nN:List Int) (qN:Bool) (qO:List Int) (r:jX×(List Int)×(List Int)×(List (List aa))×(List aa)×(List aa)),K eC nM nN qN qO=some r→∀ E,a3 E 6→az Tryz.prog E 72 194 (aQ E [(0,vN 12 [(aI r.1.uD),(aI r.1.uE),(.os 1 0 r.2.1.length),(.os 2 0 r.2.2.1.length),(.os 3 0 r.2.2.2.1.length),(.os 4 0 r.2.2.2.2.1.length),(.os 5 0 r.2.2.2.2.2.length),(aB r.1.aj.fN.fG),(eU r.1.aj.fN.fL),(aB r.1.aj.fD.fG),(eU r.1.aj.fD.fL),(aI r.1.bH)]),(1,aO 1 cI 0 r.2.1),(2,aO 1 cI 0 r.2.2.1),(3,aM 4 ai aa.d r.2.2.2.1),(4,aO 4 ai aa.d r.2.2.2.2.1),(5,aO 4 ai aa.d r.2.2.2.2.2)] (.tup [])) [.code (yK 255)] ⟨[(0,(.op 0 0 0)),(1,(aI i)),(2,(aI j))],[(0,vN 12 [(aI C0),(aI a6),(.os 1 0 C1.length),(.os 2 0 C2.length),(.os 3 0 ((bB.set ((i).toNat) bp).length)),(.os 4 0 md.length),(.os 5 0 eC.length),(aB nM),(eU nN),(aB qN),(eU qO),(aI cd)]),(1,aO 1 cI 0 C1),(2,aO 1 cI 0 C2),(3,aM 4 ai aa.d (bB.set ((i).toNat) bp)),(4,aO 4 ai aa.d md),(5,aO 4 ai aa.d eC)],6⟩
theorem m7 (N i j C0 a6 cd C1 C2 bB bp md):tO N i j C0 a6 cd C1 C2 bB bp md (jj N i j C0 a6 cd C1 C2 bB bp md):=by
 intro eC nM nN qN qO r h E hE
 unfold jj at h
 obtain ⟨PA,h⟩:=ab h
 obtain ⟨R3,h⟩:=ab h
 refine ae hE 0 [] [] [] ([(0,.var 0 [.af,.af,.ja ((C1.set ((i).toNat) (C2.getD ((j).toNat) 0)).length),.ja ((C2.set ((j).toNat) (C1.getD ((i).toNat) 0)).length),.af,.af,.af,.af,.af,.af,.af,.af]),(1,.arr 1 ((C1.set ((i).toNat) (C2.getD ((j).toNat) 0)).length) (fun zi=>cI ((C1.set ((i).toNat) (C2.getD ((j).toNat) 0)).getD zi 0))),(2,.arr 2 ((C2.set ((j).toNat) (C1.getD ((i).toNat) 0)).length) (fun zi=>cI ((C2.set ((j).toNat) (C1.getD ((i).toNat) 0)).getD zi 0)))] ++ kq [3,4,5]) 454 (pc o1 (pc o1 (pc o1 (pc PA (pc (cM PA) (pc o1 (pc R3 (pc (cM R3) (pc R3 (pc (cM R3) (pc PA (pc (cM PA) (pc (ay C1 ((i).toNat) (C2.getD ((j).toNat) 0)) (pc (ay C2 ((j).toNat) (C1.getD ((i).toNat) 0)) (pc (ay C1 ((i).toNat) (C2.getD ((j).toNat) 0)) (pc (bS cI 0 C1 ((i).toNat) (C2.getD ((j).toNat) 0)) (pc (ay C2 ((j).toNat) (C1.getD ((i).toNat) 0)) (pc (bS cI 0 C2 ((j).toNat) (C1.getD ((i).toNat) 0)) pn)))))))))))))))))) ?_
 obtain rfl:=bQ h
 exact Tc hE 0 Tryz.f72 [] [] (kq [0,1,2,3,4,5]) 454 pn [] pn
theorem sL (N i j C0 a6 bD cj cn cr cd C1 C2 C3 C5 fuel):nH N i j C0 a6 bD cj cn cr cd C1 C2 C3 C5 (cA N i j C0 a6 bD cj cn cr cd C1 C2 C3 C5 fuel):=by
 induction fuel with
 | zero=>intro _ _ _ _ r h;rw [cA.eq_1] at h;cases h
 | succ fuel ih =>
  intro bB bp md x2 r h E hE
  rw [cA.eq_2] at h
  refine ae hE 1 [] [] (kp [0,1,2,7,74,75,76]) (kq [0,1,2] ++ [(3,.nL 3 (bB.length) [((i).toNat,6,bp.length)] (mG bB))] ++ kq [4,5,6]) 23 (pc (Eq.refl bB.length) (pc (mC bB [((i).toNat,6,bp.length)]) (pc (iM bB) pn))) ?_
  refine ct 1 76 h (fun qp h=>?_) (fun qp h=>?_)
  ·refine ae hE 4 [] [] (kp [0,1,2,7,9,74,75]) (kq [0,1,2] ++ [(3,.nL 3 (bB.length) [((i).toNat,6,bp.length)] (mG bB))] ++ kq [4,5,6]) 55 (pc (Eq.refl bB.length) (pc (mC bB [((i).toNat,6,bp.length)]) (pc (iM bB) pn))) ?_
   rcases condSplit h with ⟨hA,h⟩ | ⟨hA,h⟩
   ·obtain ⟨c9,h⟩:=ab h
    obtain ⟨JK,h⟩:=ab h
    refine ae hE 1 [(6,oF (.os 6 0 bp.length))] [] (kp [0,1,2,7,9,10,74,75]) (kq [0,1,2] ++ [(3,.nL 3 (bB.length) [((i).toNat,6,bp.length)] (mG bB))] ++ kq [4,5,6,215]) 247 (pc o1 (pc c9 (pc (cM c9) (pc (show (aJ [((i).toNat,6,bp.length)] (mG bB) ((x2).toNat))[0]?=some (.os 6 0 bp.length) from (gO (pe hA))) (pc JK (pc (cM JK) (pc o1 (pc (Eq.refl bB.length) (pc (mC bB [((i).toNat,6,bp.length)]) (pc (iM bB) pn)))))))))) ?_
    obtain ⟨eT,tL,h⟩:=aG h
    refine ae hE 1 [(5,oT (aB eT))] [] (kp [0,1,2,7,9,10,74,75,95]) (kq [0,1,2] ++ [(3,.nL 3 (bB.length) [((i).toNat,6,bp.length)] (mG bB))] ++ kq [4,5,6,215]) 375 (pc (fun hg:(x2 != i)=true=>(pc o1 pn)) (pc (fun hg:(x2 != i)=true=>(pc (fU _ _ _ (er tL hg)) (pc hg pn))) (pc (fun hg:(x2 != i)=true=>(pc hg pn)) (pc (fun hq:(x2 != i)=true=>(pc hq pn)) (pc (Eq.refl bB.length) (pc (mC bB [((i).toNat,6,bp.length)]) (pc (iM bB) pn))))))) ?_
    refine ct 0 95 h (fun zW h=>?_) (fun zW h=>?_)
    ·obtain ⟨FR,h⟩:=ab h
     obtain ⟨JI,h⟩:=ab h
     obtain ⟨bh,AZ,h⟩:=aG h
     obtain ⟨aW,AY,h⟩:=aG h
     refine ae hE 1 [(20,oT (.agg (ai bh))),(21,oT (.agg (ai aW)))] [] (kp [0,1,2,7,9,10,74,75]) ([(0,.var 0 [.af,.af,.af,.af,.af,.ja ((md.set ((x2).toNat) aW).length),.af,.af,.af,.af,.af,.af])] ++ kq [1,2] ++ [(3,.nL 3 (bB.length) [((i).toNat,6,bp.length)] (mG bB)),(4,.arr 4 ((md.set ((x2).toNat) aW).length) (fun zi=>ai ((md.set ((x2).toNat) aW).getD zi aa.d)))] ++ kq [5,6,215]) 759 (pc o1 (pc o1 (pc FR (pc (cM FR) (pc o1 (pc o1 (pc JI (pc (cM JI) (pc (bZ _ _ _ _ AZ) (pc (de _ _ _ _ AY) (pc FR (pc (cM FR) (pc (ay md ((x2).toNat) aW) (pc (Eq.refl bB.length) (pc (mC bB [((i).toNat,6,bp.length)]) (pc (iM bB) (pc (ay md ((x2).toNat) aW) (pc (bS ai aa.d md ((x2).toNat) aW) pn)))))))))))))))))) ?_
     rcases condSplit h with ⟨R4,h⟩ | ⟨R4,h⟩
     ·obtain ⟨Dz,tK,h⟩:=aG h
      obtain ⟨GH,h⟩:=ab h
      refine ae hE 0 [(7,oF (.os 6 0 bp.length)),(11,⟨[6],false,(.tup []),[(0,aO 4 ai aa.d Dz)],0,false,none⟩)] [] (kp [0,1,2] ++ [(7,.ja (Dz.length))] ++ kp [74,75]) (kq [0,1,2] ++ [(3,.nL 3 (bB.length) [((i).toNat,6,Dz.length)] (mG bB))] ++ kq [4,5,6]) 951 (pc o1 (pc c9 (pc (cM c9) (pc (show (aJ [((i).toNat,6,bp.length)] (mG bB) ((x2).toNat))[0]?=some (.os 6 0 bp.length) from (gO (pe R4))) (pc o1 (pc (xJ _ _ _ _ _ tK) (pc (show bp.length=Dz.length from (Eq.symm GH)) (pc (Eq.refl bB.length) (pc (show ∀ zm,zm < bB.length→aJ [((i).toNat,6,Dz.length)] (mG bB) zm=aJ [((i).toNat,6,bp.length)] (mG bB) zm from (fun zm _=>(congrArg (fun zn=>aJ [((i).toNat,6,zn)] (mG bB) zm) (Eq.symm (Eq.symm GH))))) (pc (iM bB) pn)))))))))) ?_
      exact b5 hE 1 [] (kp [0,1,2,7,74,75]) (kq [0,1,2] ++ [(3,.nL 3 (bB.length) [((i).toNat,6,Dz.length)] (mG bB))] ++ kq [4,5,6]) 7 (pc (Eq.refl bB.length) (pc (mC bB [((i).toNat,6,Dz.length)]) (pc (iM bB) pn))) (eH N _ _ _ _ _ _ _ _ _ _ _ _ _ _ _ ih _ _ _ _ h E hE)
     ·obtain ⟨IV,h⟩:=ab h
      refine M6 3 ((x2).toNat) 4 ((bB.getD ((x2).toNat) []).length) (fun zi=>ai ((bB.getD ((x2).toNat) []).getD zi aa.d)) (pc IV (pc (show aJ [((i).toNat,6,bp.length)] (mG bB) ((x2).toNat)=mR 4 ai aa.d (bB.getD ((x2).toNat) []) from (if_neg (pf R4))) pn)) ?_
      obtain ⟨lq,vI,h⟩:=aG h
      obtain ⟨Oy,h⟩:=ab h
      refine ae hE 0 [(7,oF (.os 759 0 ((bB.getD ((x2).toNat) []).length))),(11,⟨[759,6],false,(.tup []),[(0,aO 4 ai aa.d lq),(1,aO 4 ai aa.d bp)],0,false,none⟩)] [] (kp [0,1,2,7,74,75]) (kq [0,1,2] ++ [(3,.nL 3 (bB.length) [((x2).toNat,759,lq.length),((i).toNat,6,bp.length)] (mG bB))] ++ kq [4,5,6,759]) 967 (pc o1 (pc c9 (pc (cM c9) (pc (show (aJ [((x2).toNat,759,(bB.getD ((x2).toNat) []).length),((i).toNat,6,bp.length)] (mG bB) ((x2).toNat))[0]?=some (.os 759 0 ((bB.getD ((x2).toNat) []).length)) from (gO rfl)) (pc o1 (pc (kS _ _ _ _ _ _ vI) (pc (Eq.refl bB.length) (pc (show ∀ zm,zm < bB.length→aJ [((x2).toNat,759,lq.length),((i).toNat,6,bp.length)] (mG bB) zm=aJ [((x2).toNat,759,(bB.getD ((x2).toNat) []).length),((i).toNat,6,bp.length)] (mG bB) zm from (fun zm _=>(congrArg (fun zn=>aJ [((x2).toNat,759,zn),((i).toNat,6,bp.length)] (mG bB) zm) (Eq.symm (Eq.symm Oy))))) (pc (iM bB) pn))))))))) ?_
      refine Li 3 759 ((x2).toNat) (pc IV (pc (show aJ [((x2).toNat,759,lq.length),((i).toNat,6,bp.length)] (mG bB) ((x2).toNat)=[.os 759 0 lq.length] from if_pos rfl) (pc (show ∀ zj,zj < lq.length→lW (ai (lq.getD zj aa.d))=true from fun _ _=>rfl) pn))) ?_
      refine Lh hE [] (kp [0,1,2,7,74,75]) ([(0,.var 0 [.af,.af,.af,.af,.ja ((bB.set ((x2).toNat) lq).length),.af,.af,.af,.af,.af,.af,.af])] ++ kq [1,2] ++ [(3,.nL 3 ((bB.set ((x2).toNat) lq).length) [((i).toNat,6,bp.length)] (mG (bB.set ((x2).toNat) lq)))] ++ kq [4,5,6]) 967 (pc (ay bB ((x2).toNat) lq) (pc (ay bB ((x2).toNat) lq) (pc (yq (sz:=4) (c:=ai) (d:=aa.d) bB ((x2).toNat) 759 lq.length lq [((i).toNat,6,bp.length)] IV (Td (Ne.symm (pf R4)) Cq)) (pc (iM (bB.set ((x2).toNat) lq)) pn)))) ?_
      exact b5 hE 1 [] (kp [0,1,2,7,74,75]) (kq [0,1,2] ++ [(3,.nL 3 ((bB.set ((x2).toNat) lq).length) [((i).toNat,6,bp.length)] (mG (bB.set ((x2).toNat) lq)))] ++ kq [4,5,6]) 7 (pc (Eq.refl ((bB.set ((x2).toNat) lq).length)) (pc (mC (bB.set ((x2).toNat) lq) [((i).toNat,6,bp.length)]) (pc (iM (bB.set ((x2).toNat) lq)) pn))) (eH N _ _ _ _ _ _ _ _ _ _ _ _ _ _ _ ih _ _ _ _ h E hE)
    ·exact b5 hE 2 [] (kp [0,1,2,7,74,75]) (kq [0,1,2] ++ [(3,.nL 3 (bB.length) [((i).toNat,6,bp.length)] (mG bB))] ++ kq [4,5,6]) 7 (pc (Eq.refl bB.length) (pc (mC bB [((i).toNat,6,bp.length)]) (pc (iM bB) pn))) (eH N _ _ _ _ _ _ _ _ _ _ _ _ _ _ _ ih _ _ _ _ h E hE)
   ·obtain ⟨JJ,h⟩:=ab h
    refine M6 3 ((x2).toNat) 4 ((bB.getD ((x2).toNat) []).length) (fun zi=>ai ((bB.getD ((x2).toNat) []).getD zi aa.d)) (pc JJ (pc (show aJ [((i).toNat,6,bp.length)] (mG bB) ((x2).toNat)=mR 4 ai aa.d (bB.getD ((x2).toNat) []) from (if_neg (pf hA))) pn)) ?_
    obtain ⟨PB,h⟩:=ab h
    obtain ⟨Q7,h⟩:=ab h
    refine ae hE 1 [(6,oF (.os 55 0 ((bB.getD ((x2).toNat) []).length)))] [] (kp [0,1,2,7,9,10,74,75]) (kq [0,1,2] ++ [(3,.nL 3 (bB.length) [((x2).toNat,55,(bB.getD ((x2).toNat) []).length),((i).toNat,6,bp.length)] (mG bB))] ++ kq [4,5,6,55,231]) 263 (pc o1 (pc PB (pc (cM PB) (pc (show (aJ [((x2).toNat,55,(bB.getD ((x2).toNat) []).length),((i).toNat,6,bp.length)] (mG bB) ((x2).toNat))[0]?=some (.os 55 0 ((bB.getD ((x2).toNat) []).length)) from (gO rfl)) (pc Q7 (pc (cM Q7) (pc o1 (pc (Eq.refl bB.length) (pc (mC bB [((x2).toNat,55,(bB.getD ((x2).toNat) []).length),((i).toNat,6,bp.length)]) (pc (iM bB) pn)))))))))) ?_
    refine Li 3 55 ((x2).toNat) (pc JJ (pc (show aJ [((x2).toNat,55,(bB.getD ((x2).toNat) []).length),((i).toNat,6,bp.length)] (mG bB) ((x2).toNat)=[.os 55 0 (bB.getD ((x2).toNat) []).length] from if_pos rfl) (pc (show ∀ zj,zj < (bB.getD ((x2).toNat) []).length→lW (ai ((bB.getD ((x2).toNat) []).getD zj aa.d))=true from fun _ _=>rfl) pn))) ?_
    refine Lh hE [] (kp [0,1,2,7,9,10,74,75]) (kq [0,1,2] ++ [(3,.nL 3 (bB.length) [((i).toNat,6,bp.length)] (mG bB))] ++ kq [4,5,6,231]) 263 (pc (Eq.refl (bB.length)) (pc (sm (sz:=4) (c:=ai) (d:=aa.d) bB ((x2).toNat) 55 ((bB.getD ((x2).toNat) []).length) [((i).toNat,6,bp.length)] (Td (Ne.symm (pf hA)) Cq)) (pc (iM bB) pn))) ?_
    obtain ⟨qe,CU,h⟩:=aG h
    refine ae hE 1 [(5,oT (aB qe))] [] (kp [0,1,2,7,9,10,74,75,95]) (kq [0,1,2] ++ [(3,.nL 3 (bB.length) [((i).toNat,6,bp.length)] (mG bB))] ++ kq [4,5,6,231]) 391 (pc (fun hg:(x2 != i)=true=>(pc o1 pn)) (pc (fun hg:(x2 != i)=true=>(pc (fU _ _ _ (er CU hg)) (pc hg pn))) (pc (fun hg:(x2 != i)=true=>(pc hg pn)) (pc (fun hq:(x2 != i)=true=>(pc hq pn)) (pc (Eq.refl bB.length) (pc (mC bB [((i).toNat,6,bp.length)]) (pc (iM bB) pn))))))) ?_
    refine ct 0 95 h (fun Fk h=>?_) (fun Fk h=>?_)
    ·obtain ⟨PC,h⟩:=ab h
     obtain ⟨Q8,h⟩:=ab h
     obtain ⟨bI,CV,h⟩:=aG h
     obtain ⟨c0,Fp,h⟩:=aG h
     refine ae hE 1 [(20,oT (.agg (ai bI))),(21,oT (.agg (ai c0)))] [] (kp [0,1,2,7,9,10,74,75]) ([(0,.var 0 [.af,.af,.af,.af,.af,.ja ((md.set ((x2).toNat) c0).length),.af,.af,.af,.af,.af,.af])] ++ kq [1,2] ++ [(3,.nL 3 (bB.length) [((i).toNat,6,bp.length)] (mG bB)),(4,.arr 4 ((md.set ((x2).toNat) c0).length) (fun zi=>ai ((md.set ((x2).toNat) c0).getD zi aa.d)))] ++ kq [5,6,231]) 775 (pc o1 (pc o1 (pc PC (pc (cM PC) (pc o1 (pc o1 (pc Q8 (pc (cM Q8) (pc (bZ _ _ _ _ CV) (pc (de _ _ _ _ Fp) (pc PC (pc (cM PC) (pc (ay md ((x2).toNat) c0) (pc (Eq.refl bB.length) (pc (mC bB [((i).toNat,6,bp.length)]) (pc (iM bB) (pc (ay md ((x2).toNat) c0) (pc (bS ai aa.d md ((x2).toNat) c0) pn)))))))))))))))))) ?_
     refine M6 3 ((x2).toNat) 4 ((bB.getD ((x2).toNat) []).length) (fun zi=>ai ((bB.getD ((x2).toNat) []).getD zi aa.d)) (pc JJ (pc (show aJ [((i).toNat,6,bp.length)] (mG bB) ((x2).toNat)=mR 4 ai aa.d (bB.getD ((x2).toNat) []) from (if_neg (pf hA))) pn)) ?_
     obtain ⟨lr,PD,h⟩:=aG h
     obtain ⟨R5,h⟩:=ab h
     refine ae hE 0 [(7,oF (.os 775 0 ((bB.getD ((x2).toNat) []).length))),(11,⟨[775,6],false,(.tup []),[(0,aO 4 ai aa.d lr),(1,aO 4 ai aa.d bp)],0,false,none⟩)] [] (kp [0,1,2,7,74,75]) (kq [0,1,2] ++ [(3,.nL 3 (bB.length) [((x2).toNat,775,lr.length),((i).toNat,6,bp.length)] (mG bB))] ++ kq [4,5,6,775]) 983 (pc o1 (pc PB (pc (cM PB) (pc (show (aJ [((x2).toNat,775,(bB.getD ((x2).toNat) []).length),((i).toNat,6,bp.length)] (mG bB) ((x2).toNat))[0]?=some (.os 775 0 ((bB.getD ((x2).toNat) []).length)) from (gO rfl)) (pc o1 (pc (kS _ _ _ _ _ _ PD) (pc (Eq.refl bB.length) (pc (show ∀ zm,zm < bB.length→aJ [((x2).toNat,775,lr.length),((i).toNat,6,bp.length)] (mG bB) zm=aJ [((x2).toNat,775,(bB.getD ((x2).toNat) []).length),((i).toNat,6,bp.length)] (mG bB) zm from (fun zm _=>(congrArg (fun zn=>aJ [((x2).toNat,775,zn),((i).toNat,6,bp.length)] (mG bB) zm) (Eq.symm (Eq.symm R5))))) (pc (iM bB) pn))))))))) ?_
     refine Li 3 775 ((x2).toNat) (pc JJ (pc (show aJ [((x2).toNat,775,lr.length),((i).toNat,6,bp.length)] (mG bB) ((x2).toNat)=[.os 775 0 lr.length] from if_pos rfl) (pc (show ∀ zj,zj < lr.length→lW (ai (lr.getD zj aa.d))=true from fun _ _=>rfl) pn))) ?_
     refine Lh hE [] (kp [0,1,2,7,74,75]) ([(0,.var 0 [.af,.af,.af,.af,.ja ((bB.set ((x2).toNat) lr).length),.af,.af,.af,.af,.af,.af,.af])] ++ kq [1,2] ++ [(3,.nL 3 ((bB.set ((x2).toNat) lr).length) [((i).toNat,6,bp.length)] (mG (bB.set ((x2).toNat) lr)))] ++ kq [4,5,6]) 983 (pc (ay bB ((x2).toNat) lr) (pc (ay bB ((x2).toNat) lr) (pc (yq (sz:=4) (c:=ai) (d:=aa.d) bB ((x2).toNat) 775 lr.length lr [((i).toNat,6,bp.length)] JJ (Td (Ne.symm (pf hA)) Cq)) (pc (iM (bB.set ((x2).toNat) lr)) pn)))) ?_
     exact b5 hE 1 [] (kp [0,1,2,7,74,75]) (kq [0,1,2] ++ [(3,.nL 3 ((bB.set ((x2).toNat) lr).length) [((i).toNat,6,bp.length)] (mG (bB.set ((x2).toNat) lr)))] ++ kq [4,5,6]) 7 (pc (Eq.refl ((bB.set ((x2).toNat) lr).length)) (pc (mC (bB.set ((x2).toNat) lr) [((i).toNat,6,bp.length)]) (pc (iM (bB.set ((x2).toNat) lr)) pn))) (eH N _ _ _ _ _ _ _ _ _ _ _ _ _ _ _ ih _ _ _ _ h E hE)
    ·exact b5 hE 2 [] (kp [0,1,2,7,74,75]) (kq [0,1,2] ++ [(3,.nL 3 (bB.length) [((i).toNat,6,bp.length)] (mG bB))] ++ kq [4,5,6]) 7 (pc (Eq.refl bB.length) (pc (mC bB [((i).toNat,6,bp.length)]) (pc (iM bB) pn))) (eH N _ _ _ _ _ _ _ _ _ _ _ _ _ _ _ ih _ _ _ _ h E hE)
  ·obtain ⟨R6,h⟩:=ab h
   refine ae hE 3 [] [] (kp [0,1,2,7,11]) (kq [0,1,2] ++ [(3,.nL 3 (bB.length) [((i).toNat,6,bp.length)] (mG bB))] ++ kq [4,5,6,135]) 167 (pc o1 (pc R6 (pc (cM R6) (pc o1 (pc (Eq.refl bB.length) (pc (mC bB [((i).toNat,6,bp.length)]) (pc (iM bB) pn))))))) ?_
   obtain ⟨Cx,PE,h⟩:=aG h
   refine ae hE 1 [(1,oT (aB Cx))] [] (kp [0,1,2,7,11,141]) (kq [0,1,2] ++ [(3,.nL 3 (bB.length) [((i).toNat,6,bp.length)] (mG bB))] ++ kq [4,5,6,135]) 215 (pc o1 (pc (fU _ _ _ PE) (pc (Eq.refl bB.length) (pc (mC bB [((i).toNat,6,bp.length)]) (pc (iM bB) pn))))) ?_
   refine ct 0 141 h (fun Nk h=>?_) (fun Nk h=>?_)
   ·obtain ⟨Qd,h⟩:=ab h
    obtain ⟨cN,PF,h⟩:=aG h
    obtain ⟨dN,TB,h⟩:=aG h
    refine ae hE 1 [(13,oT (.agg (ai cN))),(14,oT (.agg (ai dN)))] [] (kp [0,1,2,7,11]) (kq [0,1,2] ++ [(3,.nL 3 (bB.length) [((i).toNat,6,bp.length)] (mG bB))] ++ kq [4,5,6,135]) 503 (pc o1 (pc o1 (pc o1 (pc Qd (pc (cM Qd) (pc (bZ _ _ _ _ PF) (pc (de _ _ _ _ TB) (pc o1 (pc (Eq.refl bB.length) (pc (mC bB [((i).toNat,6,bp.length)]) (pc (iM bB) pn))))))))))) ?_
    obtain ⟨Ex,TC,h⟩:=aG h
    obtain ⟨Qe,h⟩:=ab h
    refine ae hE 0 [(8,⟨[5,6],false,(.tup []),[(0,aO 4 ai aa.d Ex),(1,aO 4 ai aa.d bp)],0,false,none⟩)] [] (kp [0,1,2]) ([(0,.var 0 [.af,.af,.af,.af,.af,.af,.ja (Ex.length),.af,.af,.af,.af,.af])] ++ kq [1,2] ++ [(3,.nL 3 (bB.length) [((i).toNat,6,bp.length)] (mG bB))] ++ kq [4,5,6]) 647 (pc o1 (pc o1 (pc (kS _ _ _ _ _ _ TC) (pc (show C5.length=Ex.length from (Eq.symm Qe)) (pc (Eq.refl bB.length) (pc (mC bB [((i).toNat,6,bp.length)]) (pc (iM bB) pn))))))) ?_
    obtain ⟨Qf,h⟩:=ab h
    refine Li 3 6 ((i).toNat) (pc Qf (pc (show aJ [((i).toNat,6,bp.length)] (mG bB) ((i).toNat)=[.os 6 0 bp.length] from if_pos rfl) (pc (show ∀ zj,zj < bp.length→lW (ai (bp.getD zj aa.d))=true from fun _ _=>rfl) pn))) ?_
    refine Lh hE [] (kp [0,1,2]) ([(0,.var 0 [.af,.af,.af,.af,.ja ((bB.set ((i).toNat) bp).length),.af,.af,.af,.af,.af,.af,.af])] ++ kq [1,2] ++ [(3,.nL 3 ((bB.set ((i).toNat) bp).length) [] (mG (bB.set ((i).toNat) bp)))] ++ kq [4,5]) 647 (pc (ay bB ((i).toNat) bp) (pc (ay bB ((i).toNat) bp) (pc (yq (sz:=4) (c:=ai) (d:=aa.d) bB ((i).toNat) 6 bp.length bp [] Qf Cq) (pc (iM (bB.set ((i).toNat) bp)) pn)))) ?_
    exact b5 hE 0 [] (kp [0,1,2]) (kq [0,1,2,3,4,5]) 6 pn (m7 N _ _ _ _ _ _ _ _ _ _ _ _ _ _ _ _ h E hE)
   ·obtain ⟨U9,h⟩:=ab h
    refine Li 3 6 ((i).toNat) (pc U9 (pc (show aJ [((i).toNat,6,bp.length)] (mG bB) ((i).toNat)=[.os 6 0 bp.length] from if_pos rfl) (pc (show ∀ zj,zj < bp.length→lW (ai (bp.getD zj aa.d))=true from fun _ _=>rfl) pn))) ?_
    refine Lh hE [] (kp [0,1,2]) ([(0,.var 0 [.af,.af,.af,.af,.ja ((bB.set ((i).toNat) bp).length),.af,.af,.af,.af,.af,.af,.af])] ++ kq [1,2] ++ [(3,.nL 3 ((bB.set ((i).toNat) bp).length) [] (mG (bB.set ((i).toNat) bp)))] ++ kq [4,5,135]) 215 (pc (ay bB ((i).toNat) bp) (pc (ay bB ((i).toNat) bp) (pc (yq (sz:=4) (c:=ai) (d:=aa.d) bB ((i).toNat) 6 bp.length bp [] U9 Cq) (pc (iM (bB.set ((i).toNat) bp)) pn)))) ?_
    exact b5 hE 1 [] (kp [0,1,2]) (kq [0,1,2,3,4,5]) 6 pn (m7 N _ _ _ _ _ _ _ _ _ _ _ _ _ _ _ _ h E hE)
theorem sM (N i j C0 a6 bD cj cn cr cd C1 C2 C3 C4 C5 fuel):nG N i j C0 a6 bD cj cn cr cd C1 C2 C3 C4 C5 (eD N i j C0 a6 bD cj cn cr cd C1 C2 C3 C4 C5 fuel):=by
 induction fuel with
 | zero=>intro _ _ r h;rw [eD.eq_1] at h;cases h
 | succ fuel ih =>
  intro qg x r h E hE
  rw [eD.eq_2] at h
  refine ae hE 1 [] [] (kp [0,1,2,6,7,30,31,32]) (kq [0,1,2] ++ [(3,.nL 3 (C3.length) [((i).toNat,6,qg.length)] (mG C3))] ++ kq [4,5,6,7]) 24 (pc (Eq.refl C3.length) (pc (mC C3 [((i).toNat,6,qg.length)]) (pc (iM C3) pn))) ?_
  refine ct 1 32 h (fun cR h=>?_) (fun cR h=>?_)
  ·refine ae hE 4 [] [] (kp [0,1,2,6,7,8,30,31]) (kq [0,1,2] ++ [(3,.nL 3 (C3.length) [((i).toNat,6,qg.length)] (mG C3))] ++ kq [4,5,6,7]) 56 (pc (Eq.refl C3.length) (pc (mC C3 [((i).toNat,6,qg.length)]) (pc (iM C3) pn))) ?_
   refine ae hE 1 [] [] (kp [0,1,2,6,7,8,30,31,36]) (kq [0,1,2] ++ [(3,.nL 3 (C3.length) [((i).toNat,6,qg.length)] (mG C3))] ++ kq [4,5,6,7]) 104 (pc (Eq.refl C3.length) (pc (mC C3 [((i).toNat,6,qg.length)]) (pc (iM C3) pn))) ?_
   refine ct 0 36 h (fun gB h=>?_) (fun gB h=>?_)
   ·obtain ⟨c5,h⟩:=ab h
    obtain ⟨jF,hr,h⟩:=aG h
    obtain ⟨aL,dg,h⟩:=aG h
    refine ae hE 0 [(7,oT (.agg (ai jF))),(8,oT (.agg (ai aL)))] [] (kp [0,1,2,6] ++ [(7,.ja ((qg.set ((x).toNat) aL).length))] ++ kp [30,31]) (kq [0,1,2] ++ [(3,.nL 3 (C3.length) [((i).toNat,6,(qg.set ((x).toNat) aL).length)] (mG C3))] ++ kq [4,5] ++ [(6,.arr 6 ((qg.set ((x).toNat) aL).length) (fun zi=>ai ((qg.set ((x).toNat) aL).getD zi aa.d)))] ++ kq [7]) 280 (pc c5 (pc (cM c5) (pc o1 (pc (re _ _ _ _ hr) (pc (iV _ _ _ dg) (pc c5 (pc (cM c5) (pc (ay qg ((x).toNat) aL) (pc (Eq.refl C3.length) (pc (show ∀ zm,zm < C3.length→aJ [((i).toNat,6,(qg.set ((x).toNat) aL).length)] (mG C3) zm=aJ [((i).toNat,6,qg.length)] (mG C3) zm from (fun zm _=>(congrArg (fun zn=>aJ [((i).toNat,6,zn)] (mG C3) zm) (Eq.symm (ld rfl))))) (pc (iM C3) (pc (ay qg ((x).toNat) aL) (pc (bS ai aa.d qg ((x).toNat) aL) pn))))))))))))) ?_
    exact b5 hE 1 [] (kp [0,1,2,6,7,30,31]) (kq [0,1,2] ++ [(3,.nL 3 (C3.length) [((i).toNat,6,(qg.set ((x).toNat) aL).length)] (mG C3))] ++ kq [4,5,6,7]) 8 (pc (Eq.refl C3.length) (pc (mC C3 [((i).toNat,6,(qg.set ((x).toNat) aL).length)]) (pc (iM C3) pn))) (m6 N _ _ _ _ _ _ _ _ _ _ _ _ _ _ _ _ ih _ _ h E hE)
   ·exact b5 hE 2 [] (kp [0,1,2,6,7,30,31]) (kq [0,1,2] ++ [(3,.nL 3 (C3.length) [((i).toNat,6,qg.length)] (mG C3))] ++ kq [4,5,6,7]) 8 (pc (Eq.refl C3.length) (pc (mC C3 [((i).toNat,6,qg.length)]) (pc (iM C3) pn))) (m6 N _ _ _ _ _ _ _ _ _ _ _ _ _ _ _ _ ih _ _ h E hE)
  ·obtain ⟨av,gR,h⟩:=aG h
   obtain ⟨iL,kE,h⟩:=aG h
   obtain ⟨c6,h⟩:=ab h
   refine ae hE 2 [(2,oT (.agg (ai av))),(4,oT (.agg (ai iL)))] [] (kp [0,1,2,6] ++ [(7,.ja ((qg.set ((j).toNat) iL).length))]) (kq [0,1,2] ++ [(3,.nL 3 (C3.length) [((i).toNat,6,(qg.set ((j).toNat) iL).length)] (mG C3))] ++ kq [4,5] ++ [(6,.arr 6 ((qg.set ((j).toNat) iL).length) (fun zi=>ai ((qg.set ((j).toNat) iL).getD zi aa.d)))] ++ kq [7]) 136 (pc (eO _ _ _ gR) (pc o1 (pc (re _ _ _ _ kE) (pc c6 (pc (cM c6) (pc (ay qg ((j).toNat) iL) (pc (Eq.refl C3.length) (pc (show ∀ zm,zm < C3.length→aJ [((i).toNat,6,(qg.set ((j).toNat) iL).length)] (mG C3) zm=aJ [((i).toNat,6,qg.length)] (mG C3) zm from (fun zm _=>(congrArg (fun zn=>aJ [((i).toNat,6,zn)] (mG C3) zm) (Eq.symm (ld rfl))))) (pc (iM C3) (pc (ay qg ((j).toNat) iL) (pc (bS ai aa.d qg ((j).toNat) iL) pn))))))))))) ?_
   obtain ⟨c7,h⟩:=ab h
   obtain ⟨HP,n5,h⟩:=aG h
   obtain ⟨jZ,sH,h⟩:=aG h
   refine ae hE 1 [(13,oT (.agg (ai HP))),(14,oT (.agg (ai jZ)))] [] (kp [0,1,2,7]) ([(0,.var 0 [.af,.af,.af,.af,.af,.ja ((C4.set ((i).toNat) jZ).length),.af,.af,.af,.af,.af,.af])] ++ kq [1,2] ++ [(3,.nL 3 (C3.length) [((i).toNat,6,(qg.set ((j).toNat) iL).length)] (mG C3)),(4,.arr 4 ((C4.set ((i).toNat) jZ).length) (fun zi=>ai ((C4.set ((i).toNat) jZ).getD zi aa.d)))] ++ kq [5,6]) 408 (pc o1 (pc o1 (pc c7 (pc (cM c7) (pc o1 (pc (re _ _ _ _ n5) (pc (iV _ _ _ sH) (pc c7 (pc (cM c7) (pc (ay C4 ((i).toNat) jZ) (pc (Eq.refl C3.length) (pc (mC C3 [((i).toNat,6,(qg.set ((j).toNat) iL).length)]) (pc (iM C3) (pc (ay C4 ((i).toNat) jZ) (pc (bS ai aa.d C4 ((i).toNat) jZ) pn))))))))))))))) ?_
   refine ae hE 2 [] [] (kp [0,1,2,7,74,75]) (kq [0,1,2] ++ [(3,.nL 3 (C3.length) [((i).toNat,6,(qg.set ((j).toNat) iL).length)] (mG C3))] ++ kq [4,5,6]) 504 (pc o1 (pc (Eq.refl C3.length) (pc (mC C3 [((i).toNat,6,(qg.set ((j).toNat) iL).length)]) (pc (iM C3) pn)))) ?_
   exact b5 hE 2 [] (kp [0,1,2,7,74,75]) (kq [0,1,2] ++ [(3,.nL 3 (C3.length) [((i).toNat,6,(qg.set ((j).toNat) iL).length)] (mG C3))] ++ kq [4,5,6]) 7 (pc (Eq.refl C3.length) (pc (mC C3 [((i).toNat,6,(qg.set ((j).toNat) iL).length)]) (pc (iM C3) pn))) (sL N _ _ _ _ _ _ _ _ _ _ _ _ _ N _ _ _ _ _ h E hE)
theorem lB (N i j C0 a6 bD cj cn cr cd C1 C2 C3 C4 C5 r) (h:jk N i j C0 a6 bD cj cn cr cd C1 C2 C3 C4 C5=some r):Sd 72 [(.op 0 0 0),(aI i),(aI j)] [(0,vN 12 [(aI C0),(aI a6),(.os 1 0 C1.length),(.os 2 0 C2.length),(.os 3 0 C3.length),(.os 4 0 C4.length),(.os 5 0 C5.length),(aB bD),(eU cj),(aB cn),(eU cr),(aI cd)]),(1,aO 1 cI 0 C1),(2,aO 1 cI 0 C2),(3,aM 4 ai aa.d C3),(4,aO 4 ai aa.d C4),(5,aO 4 ai aa.d C5)] 6 (.tup []) [(0,vN 12 [(aI r.1.uD),(aI r.1.uE),(.os 1 0 r.2.1.length),(.os 2 0 r.2.2.1.length),(.os 3 0 r.2.2.2.1.length),(.os 4 0 r.2.2.2.2.1.length),(.os 5 0 r.2.2.2.2.2.length),(aB r.1.aj.fN.fG),(eU r.1.aj.fN.fL),(aB r.1.aj.fD.fG),(eU r.1.aj.fD.fL),(aI r.1.bH)]),(1,aO 1 cI 0 r.2.1),(2,aO 1 cI 0 r.2.2.1),(3,aM 4 ai aa.d r.2.2.2.1),(4,aO 4 ai aa.d r.2.2.2.2.1),(5,aO 4 ai aa.d r.2.2.2.2.2)]:=by
 unfold jk at h
 refine eL (fu:=Tryz.f72) (c:=yK 1) (nt:=194) (fun hm=>absurd hm (by decide)) ?_
 intro E hE
 obtain ⟨c2,h⟩:=ab h
 refine M6 3 ((i).toNat) 4 ((C3.getD ((i).toNat) []).length) (fun zi=>ai ((C3.getD ((i).toNat) []).getD zi aa.d)) (pc c2 (pc (show aJ [] (mG C3) ((i).toNat)=mR 4 ai aa.d (C3.getD ((i).toNat) []) from rfl) pn)) ?_
 obtain ⟨c3,h⟩:=ab h
 obtain ⟨c4,h⟩:=ab h
 refine ae hE 1 [(6,oF (.os 6 0 ((C3.getD ((i).toNat) []).length)))] [] (kp [0,1,2,6]) (kq [0,1,2] ++ [(3,.nL 3 (C3.length) [((i).toNat,6,(C3.getD ((i).toNat) []).length)] (mG C3))] ++ kq [4,5,6,182]) 214 (pc o1 (pc c3 (pc (cM c3) (pc (show (aJ [((i).toNat,6,(C3.getD ((i).toNat) []).length)] (mG C3) ((i).toNat))[0]?=some (.os 6 0 ((C3.getD ((i).toNat) []).length)) from (gO rfl)) (pc c4 (pc (cM c4) (pc o1 (pc (Eq.refl C3.length) (pc (mC C3 [((i).toNat,6,(C3.getD ((i).toNat) []).length)]) (pc (iM C3) pn)))))))))) ?_
 refine Li 3 6 ((i).toNat) (pc c2 (pc (show aJ [((i).toNat,6,(C3.getD ((i).toNat) []).length)] (mG C3) ((i).toNat)=[.os 6 0 (C3.getD ((i).toNat) []).length] from if_pos rfl) (pc (show ∀ zj,zj < (C3.getD ((i).toNat) []).length→lW (ai ((C3.getD ((i).toNat) []).getD zj aa.d))=true from fun _ _=>rfl) pn))) ?_
 refine Lh hE [] (kp [0,1,2,6]) (kq [0,1,2] ++ [(3,.nL 3 (C3.length) [] (mG C3))] ++ kq [4,5,182]) 214 (pc (Eq.refl (C3.length)) (pc (sm (sz:=4) (c:=ai) (d:=aa.d) C3 ((i).toNat) 6 ((C3.getD ((i).toNat) []).length) [] Cq) (pc (iM C3) pn))) ?_
 refine M6 3 ((i).toNat) 4 ((C3.getD ((i).toNat) []).length) (fun zi=>ai ((C3.getD ((i).toNat) []).getD zi aa.d)) (pc c2 (pc (show aJ [] (mG C3) ((i).toNat)=mR 4 ai aa.d (C3.getD ((i).toNat) []) from rfl) pn)) ?_
 refine ae hE 1 [(6,oF (.os 214 0 ((C3.getD ((i).toNat) []).length)))] [] (kp [0,1,2,6,7]) (kq [0,1,2] ++ [(3,.nL 3 (C3.length) [((i).toNat,214,(C3.getD ((i).toNat) []).length)] (mG C3))] ++ kq [4,5,182,214]) 358 (pc o1 (pc c3 (pc (cM c3) (pc (show (aJ [((i).toNat,214,(C3.getD ((i).toNat) []).length)] (mG C3) ((i).toNat))[0]?=some (.os 214 0 ((C3.getD ((i).toNat) []).length)) from (gO rfl)) (pc (Eq.refl C3.length) (pc (mC C3 [((i).toNat,214,(C3.getD ((i).toNat) []).length)]) (pc (iM C3) pn))))))) ?_
 refine ae hE 2 [] [] (kp [0,1,2,6,7,30,31]) (kq [0,1,2] ++ [(3,.nL 3 (C3.length) [((i).toNat,214,(C3.getD ((i).toNat) []).length)] (mG C3))] ++ kq [4,5,182,214]) 406 (pc (Eq.refl C3.length) (pc (mC C3 [((i).toNat,214,(C3.getD ((i).toNat) []).length)]) (pc (iM C3) pn))) ?_
 exact b5 hE 2 [] (kp [0,1,2,6,7,30,31]) (kq [0,1,2] ++ [(3,.nL 3 (C3.length) [((i).toNat,214,(C3.getD ((i).toNat) []).length)] (mG C3))] ++ kq [4,5] ++ [(6,.af 214),(7,.af 182)]) 8 (pc (Eq.refl C3.length) (pc (mC C3 [((i).toNat,214,(C3.getD ((i).toNat) []).length)]) (pc (iM C3) pn))) (sM N _ _ _ _ _ _ _ _ _ _ _ _ _ _ N _ _ _ h E hE)
noncomputable abbrev HY:=bu Tryz.f108
def lZ (N:Nat) (C0:Int) (a6:Int) (bD:Bool) (cj:List Int) (cn:Bool) (cr:List Int) (cd:Int) (C1:List Int) (C2:List Int) (C3:List (List aa)) (C4:List aa) (C5:List aa) (K:Int→Int→Option (Int)):Prop:=∀ (iP:Int) (x:Int) (r:Int),K iP x=some r→∀ E,a3 E 6→az Tryz.prog E 108 46 (aQ E [(0,vN 12 [(aI C0),(aI a6),(.os 1 0 C1.length),(.os 2 0 C2.length),(.os 3 0 C3.length),(.os 4 0 C4.length),(.os 5 0 C5.length),(aB bD),(eU cj),(aB cn),(eU cr),(aI cd)]),(1,aO 1 cI 0 C1),(2,aO 1 cI 0 C2),(3,aM 4 ai aa.d C3),(4,aO 4 ai aa.d C4),(5,aO 4 ai aa.d C5)] (aI r)) [.code (HY 116),.inLoop (HY 116),.inBlock 0,.code (HY 15)] ⟨[(0,(.op 0 0 0)),(3,(aI iP)),(9,(aI ((C2.length:Nat):Int))),(10,(aI x))],[(0,vN 12 [(aI C0),(aI a6),(.os 1 0 C1.length),(.os 2 0 C2.length),(.os 3 0 C3.length),(.os 4 0 C4.length),(.os 5 0 C5.length),(aB bD),(eU cj),(aB cn),(eU cr),(aI cd)]),(1,aO 1 cI 0 C1),(2,aO 1 cI 0 C2),(3,aM 4 ai aa.d C3),(4,aO 4 ai aa.d C4),(5,aO 4 ai aa.d C5)],6⟩
def qR (N:Nat) (C0:Int) (a6:Int) (bD:Bool) (cj:List Int) (cn:Bool) (cr:List Int) (cd:Int) (C1:List Int) (C2:List Int) (C3:List (List aa)) (C4:List aa) (C5:List aa) (x:Int) (K:Int→Option (Int)):Prop:=∀ (vq:Int) (r:Int),K vq=some r→∀ E,a3 E 6→az Tryz.prog E 108 46 (aQ E [(0,vN 12 [(aI C0),(aI a6),(.os 1 0 C1.length),(.os 2 0 C2.length),(.os 3 0 C3.length),(.os 4 0 C4.length),(.os 5 0 C5.length),(aB bD),(eU cj),(aB cn),(eU cr),(aI cd)]),(1,aO 1 cI 0 C1),(2,aO 1 cI 0 C2),(3,aM 4 ai aa.d C3),(4,aO 4 ai aa.d C4),(5,aO 4 ai aa.d C5)] (aI r)) [.code (HY 935),.inLoop (HY 116),.inBlock 0,.code (HY 15)] ⟨[(0,(.op 0 0 0)),(3,(aI vq)),(9,(aI ((C2.length:Nat):Int))),(10,(aI x))],[(0,vN 12 [(aI C0),(aI a6),(.os 1 0 C1.length),(.os 2 0 C2.length),(.os 3 0 C3.length),(.os 4 0 C4.length),(.os 5 0 C5.length),(aB bD),(eU cj),(aB cn),(eU cr),(aI cd)]),(1,aO 1 cI 0 C1),(2,aO 1 cI 0 C2),(3,aM 4 ai aa.d C3),(4,aO 4 ai aa.d C4),(5,aO 4 ai aa.d C5)],6⟩
theorem lC (N:Nat) (C0:Int) (a6:Int) (bD:Bool) (cj:List Int) (cn:Bool) (cr:List Int) (cd:Int) (C1:List Int) (C2:List Int) (C3:List (List aa)) (C4:List aa) (C5:List aa) (x:Int) (fc:Int→Int→Option (Int)) (qx:lZ N C0 a6 bD cj cn cr cd C1 C2 C3 C4 C5 fc):qR N C0 a6 bD cj cn cr cd C1 C2 C3 C4 C5 x (gr N C0 a6 bD cj cn cr cd C1 C2 C3 C4 C5 x fc):=by
 intro vq r h E hE
 unfold gr at h
 refine ae hE 0 [] [] (kp [0,3,9,10]) (kq [0,1,2,3,4,5]) 38 pn ?_
 exact b5 hE 1 [] (kp [0,3,9,10]) (kq [0,1,2,3,4,5]) 6 pn (qx _ _ _ h E hE)
theorem qy (N C0 a6 bD cj cn cr cd C1 C2 C3 C4 C5 fuel):lZ N C0 a6 bD cj cn cr cd C1 C2 C3 C4 C5 (dq N C0 a6 bD cj cn cr cd C1 C2 C3 C4 C5 fuel):=by
 induction fuel with
 | zero=>intro _ _ r h;rw [dq.eq_1] at h;cases h
 | succ fuel ih =>
  intro iP x r h E hE
  rw [dq.eq_2] at h
  refine ae hE 1 [] [] (kp [0,3,9,10,11]) (kq [0,1,2,3,4,5]) 22 pn ?_
  refine ct 1 11 h (fun cR h=>?_) (fun cR h=>?_)
  ·refine ae hE 4 [] [] (kp [0,3,4,9,10]) (kq [0,1,2,3,4,5]) 54 pn ?_
   obtain ⟨c,h⟩:=ab h
   obtain ⟨aF,hr,h⟩:=aG h
   obtain ⟨c2,h⟩:=ab h
   obtain ⟨c3,h⟩:=ab h
   refine ae hE 1 [(7,oT (aI aF))] [] (kp [0,3,4,9,10,42]) (kq [0,1,2,3,4,5]) 534 (pc o1 (pc c (pc (cM c) (pc (og _ _ _ hr) (pc (fun hg:(decide (aF > 0))=true=>(pc hg pn)) (pc (fun hg:((decide (aF > 0)) && ((decide (aF > 0)) && (!(decide (iP < 0)))))=true=>(pc hg pn)) (pc (fun hg:((decide (aF > 0)) && ((decide (aF > 0)) && (!(decide (iP < 0)))))=true=>(pc hg pn)) (pc (fun hg:((decide (aF > 0)) && ((decide (aF > 0)) && (!(decide (iP < 0)))))=true=>(pc hg (pc o1 pn))) (pc (fun hg:((decide (aF > 0)) && ((decide (aF > 0)) && (!(decide (iP < 0)))))=true=>(pc hg (pc hg (pc (c2 hg) pn)))) (pc (fun hg:((decide (aF > 0)) && ((decide (aF > 0)) && (!(decide (iP < 0)))))=true=>(pc hg (pc (cM (c2 hg)) pn))) (pc (fun hg:((decide (aF > 0)) && ((decide (aF > 0)) && (!(decide (iP < 0)))))=true=>(pc hg pn)) (pc (fun hg:((decide (aF > 0)) && ((decide (aF > 0)) && (!(decide (iP < 0)))))=true=>(pc hg pn)) (pc (fun hg:((decide (aF > 0)) && ((decide (aF > 0)) && (!(decide (iP < 0)))))=true=>(pc hg (pc o1 pn))) (pc (fun hg:((decide (aF > 0)) && ((decide (aF > 0)) && (!(decide (iP < 0)))))=true=>(pc hg (pc hg (pc (c3 hg) pn)))) (pc (fun hg:((decide (aF > 0)) && ((decide (aF > 0)) && (!(decide (iP < 0)))))=true=>(pc hg (pc (cM (c3 hg)) pn))) (pc (fun hg:((decide (aF > 0)) && ((decide (aF > 0)) && (!(decide (iP < 0)))))=true=>(pc hg (pc hg pn))) (pc (fun hg:(decide (aF > 0))=true=>(pc hg (pc hg (pc (fun hq:(!(decide (iP < 0)))=true=>(pc (show ((decide (aF > 0)) && ((decide (aF > 0)) && (!(decide (iP < 0)))))=true from (jR hg (jR hg hq))) pn)) pn)))) (pc (fun hq:(decide (aF > 0))=true=>(pc hq pn)) pn)))))))))))))))))) ?_
   refine ct 0 42 h (fun gB h=>?_) (fun gB h=>?_)
   ·refine ae hE 0 [] [] (kp [0,3,9,10]) (kq [0,1,2,3,4,5]) 566 pn ?_
    exact b5 hE 1 [] (kp [0,3,9,10]) (kq [0,1,2,3,4,5]) 6 pn (lC N _ _ _ _ _ _ _ _ _ _ _ _ _ _ ih _ _ h E hE)
   ·exact b5 hE 2 [] (kp [0,3,9,10]) (kq [0,1,2,3,4,5]) 6 pn (lC N _ _ _ _ _ _ _ _ _ _ _ _ _ _ ih _ _ h E hE)
  ·refine ae hE 2 [] [] (kp [2]) (kq [0,1,2,3,4,5]) 54 pn ?_
   obtain rfl:=bQ h
   exact bV hE 0 Tryz.f108 [] (kp [2]) (kq [0,1,2,3,4,5]) 54 pn [] pn
theorem sN (N C0 a6 bD cj cn cr cd C1 C2 C3 C4 C5 r) (h:lu N C0 a6 bD cj cn cr cd C1 C2 C3 C4 C5=some r):Sd 108 [(.op 0 0 0)] [(0,vN 12 [(aI C0),(aI a6),(.os 1 0 C1.length),(.os 2 0 C2.length),(.os 3 0 C3.length),(.os 4 0 C4.length),(.os 5 0 C5.length),(aB bD),(eU cj),(aB cn),(eU cr),(aI cd)]),(1,aO 1 cI 0 C1),(2,aO 1 cI 0 C2),(3,aM 4 ai aa.d C3),(4,aO 4 ai aa.d C4),(5,aO 4 ai aa.d C5)] 6 (aI r) [(0,vN 12 [(aI C0),(aI a6),(.os 1 0 C1.length),(.os 2 0 C2.length),(.os 3 0 C3.length),(.os 4 0 C4.length),(.os 5 0 C5.length),(aB bD),(eU cj),(aB cn),(eU cr),(aI cd)]),(1,aO 1 cI 0 C1),(2,aO 1 cI 0 C2),(3,aM 4 ai aa.d C3),(4,aO 4 ai aa.d C4),(5,aO 4 ai aa.d C5)]:=by
 unfold lu at h
 refine eL (fu:=Tryz.f108) (c:=HY 1) (nt:=46) (fun hm=>absurd hm (by decide)) ?_
 intro E hE
 refine ae hE 1 [] [] (kp [0]) (kq [0,1,2,3,4,5]) 22 pn ?_
 refine ae hE 1 [] [] (kp [0,3]) (kq [0,1,2,3,4,5]) 38 pn ?_
 refine ae hE 2 [] [] (kp [0,3,9,10]) (kq [0,1,2,3,4,5]) 134 (pc o1 pn) ?_
 exact b5 hE 2 [] (kp [0,3,9,10]) (kq [0,1,2,3,4,5]) 6 pn (qy N _ _ _ _ _ _ _ _ _ _ _ _ N _ _ _ h E hE)
noncomputable abbrev Bc:=bu Tryz.f109
def ju (N:Nat) (j:Int) (C0:Int) (a6:Int) (bD:Bool) (cj:List Int) (cn:Bool) (cr:List Int) (cd:Int) (C1:List Int) (C2:List Int) (C3:List (List aa)) (C4:List aa) (C5:List aa) (K:Int→aa→Int→Option (Int)):Prop:=∀ (iP:Int) (least:aa) (x:Int) (r:Int),K iP least x=some r→∀ E,a3 E 6→az Tryz.prog E 109 81 (aQ E [(0,vN 12 [(aI C0),(aI a6),(.os 1 0 C1.length),(.os 2 0 C2.length),(.os 3 0 C3.length),(.os 4 0 C4.length),(.os 5 0 C5.length),(aB bD),(eU cj),(aB cn),(eU cr),(aI cd)]),(1,aO 1 cI 0 C1),(2,aO 1 cI 0 C2),(3,aM 4 ai aa.d C3),(4,aO 4 ai aa.d C4),(5,aO 4 ai aa.d C5)] (aI r)) [.code (Bc 244),.inLoop (Bc 244),.inBlock 0,.code (Bc 31)] ⟨[(0,(.op 0 0 0)),(1,(aI j)),(5,(aI iP)),(6,(.op 6 0 0)),(14,(aI ((C1.length:Nat):Int))),(15,(aI x))],[(0,vN 12 [(aI C0),(aI a6),(.os 1 0 C1.length),(.os 2 0 C2.length),(.os 3 0 C3.length),(.os 4 0 C4.length),(.os 5 0 C5.length),(aB bD),(eU cj),(aB cn),(eU cr),(aI cd)]),(1,aO 1 cI 0 C1),(2,aO 1 cI 0 C2),(3,aM 4 ai aa.d C3),(4,aO 4 ai aa.d C4),(5,aO 4 ai aa.d C5),(6,vO 4 (ai least))],7⟩
def rP (N:Nat) (j:Int) (C0:Int) (a6:Int) (bD:Bool) (cj:List Int) (cn:Bool) (cr:List Int) (cd:Int) (C1:List Int) (C2:List Int) (C3:List (List aa)) (C4:List aa) (C5:List aa) (x:Int) (K:Int→aa→Option (Int)):Prop:=∀ (vq:Int) (a9:aa) (r:Int),K vq a9=some r→∀ E,a3 E 6→az Tryz.prog E 109 81 (aQ E [(0,vN 12 [(aI C0),(aI a6),(.os 1 0 C1.length),(.os 2 0 C2.length),(.os 3 0 C3.length),(.os 4 0 C4.length),(.os 5 0 C5.length),(aB bD),(eU cj),(aB cn),(eU cr),(aI cd)]),(1,aO 1 cI 0 C1),(2,aO 1 cI 0 C2),(3,aM 4 ai aa.d C3),(4,aO 4 ai aa.d C4),(5,aO 4 ai aa.d C5)] (aI r)) [.code (Bc 1959),.inLoop (Bc 244),.inBlock 0,.code (Bc 31)] ⟨[(0,(.op 0 0 0)),(1,(aI j)),(5,(aI vq)),(6,(.op 6 0 0)),(14,(aI ((C1.length:Nat):Int))),(15,(aI x))],[(0,vN 12 [(aI C0),(aI a6),(.os 1 0 C1.length),(.os 2 0 C2.length),(.os 3 0 C3.length),(.os 4 0 C4.length),(.os 5 0 C5.length),(aB bD),(eU cj),(aB cn),(eU cr),(aI cd)]),(1,aO 1 cI 0 C1),(2,aO 1 cI 0 C2),(3,aM 4 ai aa.d C3),(4,aO 4 ai aa.d C4),(5,aO 4 ai aa.d C5),(6,vO 4 (ai a9))],7⟩
theorem iS (N:Nat) (j:Int) (C0:Int) (a6:Int) (bD:Bool) (cj:List Int) (cn:Bool) (cr:List Int) (cd:Int) (C1:List Int) (C2:List Int) (C3:List (List aa)) (C4:List aa) (C5:List aa) (x:Int) (bx:Int→aa→Int→Option (Int)) (fe:ju N j C0 a6 bD cj cn cr cd C1 C2 C3 C4 C5 bx):rP N j C0 a6 bD cj cn cr cd C1 C2 C3 C4 C5 x (eV N j C0 a6 bD cj cn cr cd C1 C2 C3 C4 C5 x bx):=by
 intro vq a9 r h E hE
 unfold eV at h
 refine ae hE 0 [] [] (kp [0,1,5,6,14,15]) (kq [0,1,2,3,4,5,6]) 39 pn ?_
 exact b5 hE 1 [] (kp [0,1,5,6,14,15]) (kq [0,1,2,3,4,5,6]) 7 pn (fe _ _ _ _ h E hE)
def rR (N:Nat) (j:Int) (C0:Int) (a6:Int) (bD:Bool) (cj:List Int) (cn:Bool) (cr:List Int) (cd:Int) (C1:List Int) (C2:List Int) (C3:List (List aa)) (C4:List aa) (C5:List aa) (iP:Int) (least:aa) (x:Int) (jF:aa) (K:Int→Option (Int)):Prop:=∀ (c7:Int) (r:Int),K c7=some r→∀ E,a3 E 6→az Tryz.prog E 109 81 (aQ E [(0,vN 12 [(aI C0),(aI a6),(.os 1 0 C1.length),(.os 2 0 C2.length),(.os 3 0 C3.length),(.os 4 0 C4.length),(.os 5 0 C5.length),(aB bD),(eU cj),(aB cn),(eU cr),(aI cd)]),(1,aO 1 cI 0 C1),(2,aO 1 cI 0 C2),(3,aM 4 ai aa.d C3),(4,aO 4 ai aa.d C4),(5,aO 4 ai aa.d C5)] (aI r)) [.code (Bc 250686),.code (Bc 250687),.inBlock 1,.code (Bc 1959),.inLoop (Bc 244),.inBlock 0,.code (Bc 31)] ⟨[(0,(.op 0 0 0)),(1,(aI j)),(5,(aI iP)),(6,(.op 6 0 0)),(7,(aI x)),(8,(.op 7 0 0)),(9,(aI c7)),(14,(aI ((C1.length:Nat):Int))),(15,(aI x))],[(0,vN 12 [(aI C0),(aI a6),(.os 1 0 C1.length),(.os 2 0 C2.length),(.os 3 0 C3.length),(.os 4 0 C4.length),(.os 5 0 C5.length),(aB bD),(eU cj),(aB cn),(eU cr),(aI cd)]),(1,aO 1 cI 0 C1),(2,aO 1 cI 0 C2),(3,aM 4 ai aa.d C3),(4,aO 4 ai aa.d C4),(5,aO 4 ai aa.d C5),(6,vO 4 (ai least)),(7,vO 4 (ai jF))],8⟩
theorem l3 (N:Nat) (j:Int) (C0:Int) (a6:Int) (bD:Bool) (cj:List Int) (cn:Bool) (cr:List Int) (cd:Int) (C1:List Int) (C2:List Int) (C3:List (List aa)) (C4:List aa) (C5:List aa) (iP:Int) (least:aa) (x:Int) (jF:aa) (bx:Int→aa→Int→Option (Int)) (fe:ju N j C0 a6 bD cj cn cr cd C1 C2 C3 C4 C5 bx):rR N j C0 a6 bD cj cn cr cd C1 C2 C3 C4 C5 iP least x jF (gQ N j C0 a6 bD cj cn cr cd C1 C2 C3 C4 C5 iP least x jF bx):=by
 intro c7 r h E hE
 unfold gQ at h
 obtain ⟨c8,h⟩:=ab h
 obtain ⟨c9,h⟩:=ab h
 refine ae hE 0 [] [] (kp [0,1,5,6,7,8,14,15,76]) (kq [0,1,2,3,4,5,6,7]) 376 (pc (fun hg:(!(decide (c7 < 0)))=true=>(pc hg pn)) (pc (fun hg:((!(decide (c7 < 0))) && ((!(decide (c7 < 0))) && (c7 == 0)))=true=>(pc hg pn)) (pc (fun hg:((!(decide (c7 < 0))) && ((!(decide (c7 < 0))) && (c7 == 0)))=true=>(pc hg pn)) (pc (fun hg:((!(decide (c7 < 0))) && ((!(decide (c7 < 0))) && (c7 == 0)))=true=>(pc hg (pc o1 pn))) (pc (fun hg:((!(decide (c7 < 0))) && ((!(decide (c7 < 0))) && (c7 == 0)))=true=>(pc hg (pc hg (pc (c8 hg) pn)))) (pc (fun hg:((!(decide (c7 < 0))) && ((!(decide (c7 < 0))) && (c7 == 0)))=true=>(pc hg (pc (cM (c8 hg)) pn))) (pc (fun hg:((!(decide (c7 < 0))) && ((!(decide (c7 < 0))) && (c7 == 0)))=true=>(pc hg pn)) (pc (fun hg:((!(decide (c7 < 0))) && ((!(decide (c7 < 0))) && (c7 == 0)))=true=>(pc hg pn)) (pc (fun hg:((!(decide (c7 < 0))) && ((!(decide (c7 < 0))) && (c7 == 0)))=true=>(pc hg (pc o1 pn))) (pc (fun hg:((!(decide (c7 < 0))) && ((!(decide (c7 < 0))) && (c7 == 0)))=true=>(pc hg (pc hg (pc (c9 hg) pn)))) (pc (fun hg:((!(decide (c7 < 0))) && ((!(decide (c7 < 0))) && (c7 == 0)))=true=>(pc hg (pc (cM (c9 hg)) pn))) (pc (fun hg:((!(decide (c7 < 0))) && ((!(decide (c7 < 0))) && (c7 == 0)))=true=>(pc hg (pc hg pn))) (pc (fun hg:(!(decide (c7 < 0)))=true=>(pc hg (pc hg (pc (fun hq:(c7 == 0)=true=>(pc (show ((!(decide (c7 < 0))) && ((!(decide (c7 < 0))) && (c7 == 0)))=true from (jR hg (jR hg hq))) pn)) pn)))) (pc (fun hq:(!(decide (c7 < 0)))=true=>(pc hq pn)) pn)))))))))))))) ?_
 refine ct 0 76 h (fun zW h=>?_) (fun zW h=>?_)
 ·refine ae hE 0 [] [] (kp [0,1,5,6,14,15]) (kq [0,1,2,3,4,5,6]) 440 (pc o1 (pc o1 pn)) ?_
  exact b5 hE 1 [] (kp [0,1,5,6,14,15]) (kq [0,1,2,3,4,5,6]) 7 pn (iS N _ _ _ _ _ _ _ _ _ _ _ _ _ _ _ fe _ _ _ h E hE)
 ·exact b5 hE 2 [] (kp [0,1,5,6,14,15]) (kq [0,1,2,3,4,5,6]) 7 pn (iS N _ _ _ _ _ _ _ _ _ _ _ _ _ _ _ fe _ _ _ h E hE)
theorem qS (N j C0 a6 bD cj cn cr cd C1 C2 C3 C4 C5 fuel):ju N j C0 a6 bD cj cn cr cd C1 C2 C3 C4 C5 (cY N j C0 a6 bD cj cn cr cd C1 C2 C3 C4 C5 fuel):=by
 induction fuel with
 | zero=>intro _ _ _ r h;rw [cY.eq_1] at h;cases h
 | succ fuel ih =>
  intro iP least x r h E hE
  rw [cY.eq_2] at h
  refine ae hE 1 [] [] (kp [0,1,5,6,14,15,16]) (kq [0,1,2,3,4,5,6]) 23 pn ?_
  refine ct 1 16 h (fun cR h=>?_) (fun cR h=>?_)
  ·refine ae hE 4 [] [] (kp [0,1,5,6,7,14,15]) (kq [0,1,2,3,4,5,6]) 55 pn ?_
   obtain ⟨c2,h⟩:=ab h
   refine M6 3 ((x).toNat) 4 ((C3.getD ((x).toNat) []).length) (fun zi=>ai ((C3.getD ((x).toNat) []).getD zi aa.d)) (pc c2 (pc (show aJ [] (mG C3) ((x).toNat)=mR 4 ai aa.d (C3.getD ((x).toNat) []) from rfl) pn)) ?_
   obtain ⟨c3,h⟩:=ab h
   obtain ⟨c4,h⟩:=ab h
   obtain ⟨aF,hr,h⟩:=aG h
   refine ae hE 2 [(6,oF (.os 55 0 ((C3.getD ((x).toNat) []).length))),(10,oT (aI aF))] [] (kp [0,1,5,6,7,14,15,29]) (kq [0,1,2] ++ [(3,.nL 3 (C3.length) [((x).toNat,55,(C3.getD ((x).toNat) []).length)] (mG C3))] ++ kq [4,5,6,55]) 263 (pc o1 (pc c3 (pc (cM c3) (pc (show (aJ [((x).toNat,55,(C3.getD ((x).toNat) []).length)] (mG C3) ((x).toNat))[0]?=some (.os 55 0 ((C3.getD ((x).toNat) []).length)) from (gO rfl)) (pc c4 (pc (cM c4) (pc (og _ _ _ hr) (pc (Eq.refl C3.length) (pc (mC C3 [((x).toNat,55,(C3.getD ((x).toNat) []).length)]) (pc (iM C3) pn)))))))))) ?_
   refine Li 3 55 ((x).toNat) (pc c2 (pc (show aJ [((x).toNat,55,(C3.getD ((x).toNat) []).length)] (mG C3) ((x).toNat)=[.os 55 0 (C3.getD ((x).toNat) []).length] from if_pos rfl) (pc (show ∀ zj,zj < (C3.getD ((x).toNat) []).length→lW (ai ((C3.getD ((x).toNat) []).getD zj aa.d))=true from fun _ _=>rfl) pn))) ?_
   refine Lh hE [] (kp [0,1,5,6,7,14,15,29]) (kq [0,1,2] ++ [(3,.nL 3 (C3.length) [] (mG C3))] ++ kq [4,5,6]) 263 (pc (Eq.refl (C3.length)) (pc (sm (sz:=4) (c:=ai) (d:=aa.d) C3 ((x).toNat) 55 ((C3.getD ((x).toNat) []).length) [] Cq) (pc (iM C3) pn))) ?_
   refine ct 0 29 h (fun gB h=>?_) (fun gB h=>?_)
   ·exact b5 hE 1 [] (kp [0,1,5,6,14,15]) (kq [0,1,2,3,4,5,6]) 7 pn (iS N _ _ _ _ _ _ _ _ _ _ _ _ _ _ _ ih _ _ _ h E hE)
   ·refine M6 3 ((x).toNat) 4 ((C3.getD ((x).toNat) []).length) (fun zi=>ai ((C3.getD ((x).toNat) []).getD zi aa.d)) (pc c2 (pc (show aJ [] (mG C3) ((x).toNat)=mR 4 ai aa.d (C3.getD ((x).toNat) []) from rfl) pn)) ?_
    obtain ⟨c6,h⟩:=ab h
    obtain ⟨aL,dg,h⟩:=aG h
    obtain ⟨jF,gR,h⟩:=aG h
    refine ae hE 2 [(13,oF (.os 263 0 ((C3.getD ((x).toNat) []).length))),(17,oT (.agg (ai aL))),(18,oT (.agg (ai jF)))] [] (kp [0,1,5,6,7,8,14,15]) (kq [0,1,2] ++ [(3,.nL 3 (C3.length) [((x).toNat,263,(C3.getD ((x).toNat) []).length)] (mG C3))] ++ kq [4,5,6,263,583]) 615 (pc o1 (pc c6 (pc (cM c6) (pc o1 (pc c3 (pc (cM c3) (pc (show (aJ [((x).toNat,263,(C3.getD ((x).toNat) []).length)] (mG C3) ((x).toNat))[0]?=some (.os 263 0 ((C3.getD ((x).toNat) []).length)) from (gO rfl)) (pc c4 (pc (cM c4) (pc (iV _ _ _ dg) (pc (re _ _ _ _ gR) (pc o1 (pc (Eq.refl C3.length) (pc (mC C3 [((x).toNat,263,(C3.getD ((x).toNat) []).length)]) (pc (iM C3) pn))))))))))))))) ?_
    refine Li 3 263 ((x).toNat) (pc c2 (pc (show aJ [((x).toNat,263,(C3.getD ((x).toNat) []).length)] (mG C3) ((x).toNat)=[.os 263 0 (C3.getD ((x).toNat) []).length] from if_pos rfl) (pc (show ∀ zj,zj < (C3.getD ((x).toNat) []).length→lW (ai ((C3.getD ((x).toNat) []).getD zj aa.d))=true from fun _ _=>rfl) pn))) ?_
    refine Lh hE [] (kp [0,1,5,6,7,8,14,15]) (kq [0,1,2] ++ [(3,.nL 3 (C3.length) [] (mG C3))] ++ kq [4,5,6,583]) 615 (pc (Eq.refl (C3.length)) (pc (sm (sz:=4) (c:=ai) (d:=aa.d) C3 ((x).toNat) 263 ((C3.getD ((x).toNat) []).length) [] Cq) (pc (iM C3) pn))) ?_
    refine ae hE 1 [] [] (kp [0,1,5,6,7,8,9,14,15]) (kq [0,1,2,3,4,5,6,583]) 631 pn ?_
    refine ae hE 2 [] [] (kp [0,1,5,6,7,8,9,14,15,50]) (kq [0,1,2,3,4,5,6,583]) 663 pn ?_
    refine ct 0 50 h (fun qp h=>?_) (fun qp h=>?_)
    ·obtain ⟨dc,kE,h⟩:=aG h
     refine ae hE 0 [(2,oT (aI dc))] [] (kp [0,1,5,6,7,8,9,14,15]) (kq [0,1,2,3,4,5,6,583]) 727 (pc o1 (pc o1 (pc (fV _ _ _ _ kE) pn))) ?_
     exact b5 hE 1 [] (kp [0,1,5,6,7,8,9,14,15]) (kq [0,1,2,3,4,5,6] ++ [(7,.af 583)]) 8 pn (l3 N _ _ _ _ _ _ _ _ _ _ _ _ _ _ _ _ _ _ ih _ _ h E hE)
    ·exact b5 hE 2 [] (kp [0,1,5,6,7,8,9,14,15]) (kq [0,1,2,3,4,5,6] ++ [(7,.af 583)]) 8 pn (l3 N _ _ _ _ _ _ _ _ _ _ _ _ _ _ _ _ _ _ ih _ _ h E hE)
  ·refine ae hE 2 [] [] (kp [4]) (kq [0,1,2,3,4,5]) 55 pn ?_
   obtain rfl:=bQ h
   exact bV hE 0 Tryz.f109 [] (kp [4]) (kq [0,1,2,3,4,5]) 55 pn [] pn
theorem tP (N j C0 a6 bD cj cn cr cd C1 C2 C3 C4 C5 r) (h:l5 N j C0 a6 bD cj cn cr cd C1 C2 C3 C4 C5=some r):Sd 109 [(.op 0 0 0),(aI j)] [(0,vN 12 [(aI C0),(aI a6),(.os 1 0 C1.length),(.os 2 0 C2.length),(.os 3 0 C3.length),(.os 4 0 C4.length),(.os 5 0 C5.length),(aB bD),(eU cj),(aB cn),(eU cr),(aI cd)]),(1,aO 1 cI 0 C1),(2,aO 1 cI 0 C2),(3,aM 4 ai aa.d C3),(4,aO 4 ai aa.d C4),(5,aO 4 ai aa.d C5)] 6 (aI r) [(0,vN 12 [(aI C0),(aI a6),(.os 1 0 C1.length),(.os 2 0 C2.length),(.os 3 0 C3.length),(.os 4 0 C4.length),(.os 5 0 C5.length),(aB bD),(eU cj),(aB cn),(eU cr),(aI cd)]),(1,aO 1 cI 0 C1),(2,aO 1 cI 0 C2),(3,aM 4 ai aa.d C3),(4,aO 4 ai aa.d C4),(5,aO 4 ai aa.d C5)]:=by
 unfold l5 at h
 refine eL (fu:=Tryz.f109) (c:=Bc 1) (nt:=81) (fun hm=>absurd hm (by decide)) ?_
 intro E hE
 refine ae hE 1 [] [] (kp [0,1]) (kq [0,1,2,3,4,5]) 22 pn ?_
 refine ae hE 1 [] [] (kp [0,1,5]) (kq [0,1,2,3,4,5]) 38 pn ?_
 refine ae hE 1 [] [] (kp [0,1,5,6]) (kq [0,1,2,3,4,5,38]) 54 pn ?_
 refine ae hE 2 [] [] (kp [0,1,5,6,14,15]) (kq [0,1,2,3,4,5,38]) 150 (pc o1 pn) ?_
 exact b5 hE 2 [] (kp [0,1,5,6,14,15]) (kq [0,1,2,3,4,5] ++ [(6,.var 38 [.af,.sl (([]:List Int).length) (fun zi=>(cU .u16) (([]:List Int).getD zi 0)),.af,.sl (([]:List Int).length) (fun zi=>(cU .u16) (([]:List Int).getD zi 0))])]) 7 (pc (Eq.refl 0) (pc (Eq.refl 0) pn)) (qS N _ _ _ _ _ _ _ _ _ _ _ _ _ N _ _ _ _ h E hE)
noncomputable abbrev PG:=bu Tryz.f73
def tQ (N:Nat) (K:Int→Int→(List Int)→(List Int)→(List (List aa))→(List aa)→(List aa)→Bool→(List Int)→Bool→(List Int)→Int→Option (Int×jX×(List Int)×(List Int)×(List (List aa))×(List aa)×(List aa))):Prop:=∀ (bB:Int) (md:Int) (jx:List Int) (ny:List Int) (eC:List (List aa)) (nM:List aa) (nN:List aa) (qN:Bool) (qO:List Int) (wH:Bool) (wJ:List Int) (vt:Int) (r:Int×jX×(List Int)×(List Int)×(List (List aa))×(List aa)×(List aa)),K bB md jx ny eC nM nN qN qO wH wJ vt=some r→∀ E,a3 E 6→az Tryz.prog E 73 19 (aQ E [(0,vN 12 [(aI r.2.1.uD),(aI r.2.1.uE),(.os 1 0 r.2.2.1.length),(.os 2 0 r.2.2.2.1.length),(.os 3 0 r.2.2.2.2.1.length),(.os 4 0 r.2.2.2.2.2.1.length),(.os 5 0 r.2.2.2.2.2.2.length),(aB r.2.1.aj.fN.fG),(eU r.2.1.aj.fN.fL),(aB r.2.1.aj.fD.fG),(eU r.2.1.aj.fD.fL),(aI r.2.1.bH)]),(1,aO 1 cI 0 r.2.2.1),(2,aO 1 cI 0 r.2.2.2.1),(3,aM 4 ai aa.d r.2.2.2.2.1),(4,aO 4 ai aa.d r.2.2.2.2.2.1),(5,aO 4 ai aa.d r.2.2.2.2.2.2)] (aI r.1)) [.code (PG 12),.inLoop (PG 12),.inBlock 0] ⟨[(0,(.op 0 0 0))],[(0,vN 12 [(aI bB),(aI md),(.os 1 0 jx.length),(.os 2 0 ny.length),(.os 3 0 eC.length),(.os 4 0 nM.length),(.os 5 0 nN.length),(aB qN),(eU qO),(aB wH),(eU wJ),(aI vt)]),(1,aO 1 cI 0 jx),(2,aO 1 cI 0 ny),(3,aM 4 ai aa.d eC),(4,aO 4 ai aa.d nM),(5,aO 4 ai aa.d nN)],6⟩
theorem sO (N fuel):tQ N (gh N fuel):=by
 induction fuel with
 | zero=>intro _ _ _ _ _ _ _ _ _ _ _ _ r h;rw [gh.eq_1] at h;cases h
 | succ fuel ih =>
  intro bB md jx ny eC nM nN qN qO wH wJ vt r h E hE
  rw [gh.eq_2] at h
  obtain ⟨pS,hr,h⟩:=aG h
  refine ae hE 2 [(1,⟨[0,1,2,3,4,5],true,(aI pS),[],0,false,none⟩)] [] (kp [0,3]) (kq [0,1,2,3,4,5]) 54 (pc (sN _ _ _ _ _ _ _ _ _ _ _ _ _ _ hr) (pc (iM eC) pn)) ?_
  refine ae hE 2 [] [] (kp [0,3,8]) (kq [0,1,2,3,4,5]) 86 pn ?_
  refine ct 0 8 h (fun cR h=>?_) (fun cR h=>?_)
  ·refine ae hE 1 [] [] (kp [2]) (kq [0,1,2,3,4,5]) 102 pn ?_
   obtain rfl:=bQ h
   exact bV hE 0 Tryz.f73 [] (kp [2]) (kq [0,1,2,3,4,5]) 102 pn [] pn
  ·obtain ⟨yx,dg,h⟩:=aG h
   refine ae hE 2 [(2,⟨[0,1,2,3,4,5],true,(aI yx),[],0,false,none⟩)] [] (kp [0,3,4]) (kq [0,1,2,3,4,5]) 150 (pc (tP _ _ _ _ _ _ _ _ _ _ _ _ _ _ _ dg) (pc (iM eC) pn)) ?_
   refine ae hE 2 [] [] (kp [0,3,4,13]) (kq [0,1,2,3,4,5]) 182 pn ?_
   refine ct 0 13 h (fun gB h=>?_) (fun gB h=>?_)
   ·refine ae hE 1 [] [] (kp [2]) (kq [0,1,2,3,4,5]) 214 pn ?_
    obtain rfl:=bQ h
    exact bV hE 0 Tryz.f73 [] (kp [2]) (kq [0,1,2,3,4,5]) 214 pn [] pn
   ·obtain ⟨a5,gR,h⟩:=aG h
    obtain ⟨c,h⟩:=ab h
    obtain ⟨c2,h⟩:=ab h
    obtain ⟨c3,h⟩:=ab h
    obtain ⟨c4,h⟩:=ab h
    obtain ⟨c5,h⟩:=ab h
    refine ae hE 1 [(3,⟨[0,1,2,3,4,5],false,(.tup []),[(0,vN 12 [(aI a5.1.uD),(aI a5.1.uE),(.os 1 0 a5.2.1.length),(.os 2 0 a5.2.2.1.length),(.os 3 0 a5.2.2.2.1.length),(.os 4 0 a5.2.2.2.2.1.length),(.os 5 0 a5.2.2.2.2.2.length),(aB a5.1.aj.fN.fG),(eU a5.1.aj.fN.fL),(aB a5.1.aj.fD.fG),(eU a5.1.aj.fD.fL),(aI a5.1.bH)]),(1,aO 1 cI 0 a5.2.1),(2,aO 1 cI 0 a5.2.2.1),(3,aM 4 ai aa.d a5.2.2.2.1),(4,aO 4 ai aa.d a5.2.2.2.2.1),(5,aO 4 ai aa.d a5.2.2.2.2.2)],0,false,none⟩)] [] (kp [0]) (kq [0,1,2,3,4,5]) 246 (pc (lB _ _ _ _ _ _ _ _ _ _ _ _ _ _ _ _ gR) pn) ?_
    exact b5 hE 2 [] (kp [0]) (kq [0,1,2,3,4,5]) 6 pn (ih _ _ _ _ _ _ _ _ _ _ _ _ _ h E hE)
theorem vK (N C0 a6 bD cj cn cr cd C1 C2 C3 C4 C5 r) (h:nz N C0 a6 bD cj cn cr cd C1 C2 C3 C4 C5=some r):Sd 73 [(.op 0 0 0)] [(0,vN 12 [(aI C0),(aI a6),(.os 1 0 C1.length),(.os 2 0 C2.length),(.os 3 0 C3.length),(.os 4 0 C4.length),(.os 5 0 C5.length),(aB bD),(eU cj),(aB cn),(eU cr),(aI cd)]),(1,aO 1 cI 0 C1),(2,aO 1 cI 0 C2),(3,aM 4 ai aa.d C3),(4,aO 4 ai aa.d C4),(5,aO 4 ai aa.d C5)] 6 (aI r.1) [(0,vN 12 [(aI r.2.1.uD),(aI r.2.1.uE),(.os 1 0 r.2.2.1.length),(.os 2 0 r.2.2.2.1.length),(.os 3 0 r.2.2.2.2.1.length),(.os 4 0 r.2.2.2.2.2.1.length),(.os 5 0 r.2.2.2.2.2.2.length),(aB r.2.1.aj.fN.fG),(eU r.2.1.aj.fN.fL),(aB r.2.1.aj.fD.fG),(eU r.2.1.aj.fD.fL),(aI r.2.1.bH)]),(1,aO 1 cI 0 r.2.2.1),(2,aO 1 cI 0 r.2.2.2.1),(3,aM 4 ai aa.d r.2.2.2.2.1),(4,aO 4 ai aa.d r.2.2.2.2.2.1),(5,aO 4 ai aa.d r.2.2.2.2.2.2)]:=by
 unfold nz at h
 refine eL (fu:=Tryz.f73) (c:=PG 1) (nt:=19) (fun hm=>absurd hm (by decide)) ?_
 intro E hE
 refine ae hE 1 [] [] (kp [0]) (kq [0,1,2,3,4,5]) 22 pn ?_
 exact b5 hE 2 [] (kp [0]) (kq [0,1,2,3,4,5]) 6 pn (sO N N _ _ _ _ _ _ _ _ _ _ _ _ _ h E hE)
noncomputable abbrev Nl:=bu Tryz.f75
def pG (N:Nat) (s:List Int) (v:Int) (K:Int→Option (Int)):Prop:=∀ (x:Int) (r:Int),K x=some r→∀ E,a3 E 0→az Tryz.prog E 75 19 (aQ E [] (aI r)) [.code (Nl 52),.inLoop (Nl 52),.inBlock 0,.code (Nl 7)] ⟨[(0,(aD cI 0 s)),(1,(aI v)),(7,(aI ((s.length:Nat):Int))),(8,(aI x))],[],0⟩
theorem oO (N s v fuel):pG N s v (dP N s v fuel):=by
 induction fuel with
 | zero=>intro _ r h;rw [dP.eq_1] at h;cases h
 | succ fuel ih =>
  intro x r h E hE
  rw [dP.eq_2] at h
  refine ae hE 1 [] [] (kp [0,1,7,8,9]) [] 16 pn ?_
  refine ct 1 9 h (fun cR h=>?_) (fun cR h=>?_)
  ·refine ae hE 4 [] [] (kp [0,1,5,7,8]) [] 48 pn ?_
   obtain ⟨c,h⟩:=ab h
   refine ae hE 1 [] [] (kp [0,1,5,7,8,16]) [] 144 (pc c pn) ?_
   refine ct 0 16 h (fun gB h=>?_) (fun gB h=>?_)
   ·refine ae hE 1 [] [] (kp [4]) [] 176 pn ?_
    obtain rfl:=bQ h
    exact bV hE 0 Tryz.f75 [] (kp [4]) [] 176 pn [] pn
   ·refine ae hE 2 [] [] (kp [0,1,7,8]) [] 176 pn ?_
    exact b5 hE 1 [] (kp [0,1,7,8]) [] 0 pn (ih _ _ h E hE)
  ·refine ae hE 2 [] [] (kp [4]) [] 32 pn ?_
   obtain rfl:=bQ h
   exact bV hE 0 Tryz.f75 [] (kp [4]) [] 48 pn [] pn
theorem fg (N s v r) (h:dJ N s v=some r):Sd 75 [(aD cI 0 s),(aI v)] [] 0 (aI r) []:=by
 unfold dJ at h
 refine eL (fu:=Tryz.f75) (c:=Nl 1) (nt:=19) (fun hm=>rfl) ?_
 intro E hE
 refine ae hE 1 [] [] (kp [0,1]) [] 16 pn ?_
 refine ae hE 2 [] [] (kp [0,1,7,8]) [] 64 pn ?_
 exact b5 hE 2 [] (kp [0,1,7,8]) [] 0 pn (oO N _ _ N _ _ h E hE)
noncomputable abbrev TD:=bu Tryz.f77
theorem sP (N x r) (h:lv N x=some r):Sd 77 [(.agg (ai x))] [] 0 (aB r) []:=by
 unfold lv at h
 refine eL (fu:=Tryz.f77) (c:=TD 1) (nt:=6) (fun hm=>rfl) ?_
 intro E hE
 refine ae hE 1 [] [] (kp [1]) (kq [0]) 32 pn ?_
 obtain ⟨eT,hr,h⟩:=aG h
 refine ae hE 1 [(1,oT (aB eT))] [] (kp [2]) [] 96 (pc o1 (pc (fU _ _ _ hr) pn)) ?_
 obtain rfl:=bQ h
 exact bV hE 0 Tryz.f77 [] (kp [2]) [] 96 pn [] pn
end Go.Den
