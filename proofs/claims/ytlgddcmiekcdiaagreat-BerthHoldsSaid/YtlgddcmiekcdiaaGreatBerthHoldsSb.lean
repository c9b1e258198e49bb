/- Each function of the program does what its Lean function computes (part 2). No conditions. -/
import Derived.Test.YtlgddcmiekcdiaaGreatBerthHoldsSa
import Derived.Test.YtlgddcmiekcdiaaGreatProg
set_option linter.unusedVariables false
set_option maxRecDepth 100000
namespace Go.Den
open Go.Ab Go.Proofs Go.Ab.aD
noncomputable abbrev SG:=bV Tryz.f76
def sm (N:Nat) (s:List aa) (K:Int→Option (Int)):Prop:=∀ (x:Int) (r:Int),K x=some r→∀ E,bq E 0→aD Tryz.prog E 76 19 (bd E [] (aI r)) [.code (SG 52),.inLoop (SG 52),.inBlock 0,.code (SG 7)] ⟨[(0,(aH aj aa.d s)),(1,(.fn (.func 77) [] [])),(7,(aI ((s.length:Nat):Int))),(8,(aI x))],[],0⟩
theorem rE (N s fuel):sm N s (cn N s fuel):=by
 induction fuel with
 | zero=>intro _ r h;rw [cn.eq_1] at h;cases h
 | succ fuel ih =>
  intro x r h E hE
  rw [cn.eq_2] at h
  refine ae hE 1 [] [] (kp [0,1,7,8,9]) [] 16 pn ?_
  refine dm 1 9 h (fun dW h=>?_) (fun dW h=>?_)
  ·refine ae hE 4 [] [] (kp [0,1,5,7,8]) [] 48 pn ?_
   obtain ⟨c,h⟩:=ab h
   obtain ⟨Fw,hr,h⟩:=aQ h
   refine ae hE 1 [(5,oT (aB Fw))] [] (kp [0,1,5,7,8,16]) [] 144 (pc c (pc (vv _ _ _ hr) pn)) ?_
   refine dm 0 16 h (fun jh h=>?_) (fun jh h=>?_)
   ·refine ae hE 1 [] [] (kp [4]) [] 176 pn ?_
    obtain rfl:=cJ h
    exact cP hE 0 Tryz.f76 [] (kp [4]) [] 176 pn [] pn
   ·refine ae hE 2 [] [] (kp [0,1,7,8]) [] 176 pn ?_
    exact cV hE 1 [] (kp [0,1,7,8]) [] 0 pn (ih _ _ h E hE)
  ·refine ae hE 2 [] [] (kp [4]) [] 32 pn ?_
   obtain rfl:=cJ h
   exact cP hE 0 Tryz.f76 [] (kp [4]) [] 48 pn [] pn
theorem tL (N s r) (h:jO N s=some r):Sd 76 [(aH aj aa.d s),(.fn (.func 77) [] [])] [] 0 (aI r) []:=by
 unfold jO at h
 refine gU (fu:=Tryz.f76) (c:=SG 1) (nt:=19) (fun hm=>rfl) ?_
 intro E hE
 refine ae hE 1 [] [] (kp [0,1]) [] 16 pn ?_
 refine ae hE 2 [] [] (kp [0,1,7,8]) [] 64 pn ?_
 exact cV hE 2 [] (kp [0,1,7,8]) [] 0 pn (rE N _ N _ _ h E hE)
noncomputable abbrev ZH:=bV Tryz.f78
theorem tj (N i j C0 r) (h:jv N i j C0=some r):Sd 78 [(.os 0 0 C0.length),(aI i),(aI j)] [(0,aO 1 cI 0 C0)] 1 (.os 0 0 r.2.length) [(0,aO 1 cI 0 r.2)]:=by
 unfold jv at h
 refine gU (fu:=Tryz.f78) (c:=ZH 1) (nt:=33) (fun hm=>absurd hm (by decide)) ?_
 intro E hE
 refine ae hE 1 [] [] (kp [0,1,2]) (kq [0]) 17 pn ?_
 obtain ⟨c,h⟩:=ab h
 refine ae hE 1 [(5,oF (.m9))] [] (kp [0,1,2]) (kq [0]) 113 (pc c pn) ?_
 refine ae hE 2 [] [] (kp [0,1,2,16]) (kq [0]) 161 pn ?_
 refine dm 0 16 h (fun dW h=>?_) (fun dW h=>?_)
 ·refine ae hE 1 [] [] (kp [6]) (kq [0]) 193 pn ?_
  obtain rfl:=cJ h
  exact cP hE 0 Tryz.f78 [] (kp [6]) (kq [0]) 193 pn [] pn
 ·refine ae hE 2 [] [] (kp [0,1,2,7]) (kq [0]) 209 pn ?_
  obtain ⟨c2,h⟩:=ab h
  obtain ⟨c3,h⟩:=ab h
  obtain ⟨c4,h⟩:=ab h
  obtain ⟨c5,h⟩:=ab h
  obtain ⟨c6,h⟩:=ab h
  obtain ⟨c7,h⟩:=ab h
  refine ae hE 1 [(6,oF (.m9))] [] (kp [0,7]) [(0,.arr 0 ((kR C0 ((i).toNat) ((j).toNat)).length) (fun zi=>cI ((kR C0 ((i).toNat) ((j).toNat)).getD zi 0)))] 337 (pc c2 (pc c3 (pc c4 (pc c5 (pc (show 0 < C0.length∧((i).toNat - 0)+(C0.length - (j).toNat)≤C0.length by have h1:=c6;have h2:=c7;omega) (pc (show (j).toNat+(C0.length - (j).toNat)≤C0.length by have h1:=c6;omega) (pc (show ∀ zi,zi < C0.length→AV.iP (cI (C0.getD zi 0))=true from (fun _ _=>rfl)) (pc (show C0.length=(kR C0 ((i).toNat) ((j).toNat)).length from (Eo c6)) (pc (show ∀ zi,zi < (kR C0 ((i).toNat) ((j).toNat)).length→(fun zi=>cI ((kR C0 ((i).toNat) ((j).toNat)).getD zi 0)) zi=((fun zm=>if zm < ((i).toNat - 0) then cI (C0.getD zm 0) else if zm < ((i).toNat - 0)+(C0.length - (j).toNat) then cI (C0.getD (bA (j).toNat (zm - ((i).toNat - 0))) 0) else cI (C0.getD zm 0))) zi from (fun zq iw=>MK cI 0 C0 ((i).toNat) ((j).toNat) c6 zq iw)) pn))))))))) ?_
  obtain ⟨c8,h⟩:=ab h
  obtain ⟨c9,h⟩:=ab h
  refine ae hE 1 [(4,oF (.m9)),(5,oF (.m9))] [] [(0,.kQ (((kR C0 ((i).toNat) ((j).toNat)).take (((i).toNat - 0)+(C0.length - (j).toNat))).length))] [(0,.arr 0 (((kR C0 ((i).toNat) ((j).toNat)).take (((i).toNat - 0)+(C0.length - (j).toNat))).length) (fun zi=>cI (((kR C0 ((i).toNat) ((j).toNat)).take (((i).toNat - 0)+(C0.length - (j).toNat))).getD zi 0)))] 433 (pc c8 (pc (show 0≤(((((i).toNat - 0)+(C0.length - (j).toNat)):Nat):Int) from (Int.natCast_nonneg _)) (pc (show 0≤((C0.length:Nat):Int) from (Int.natCast_nonneg _)) (pc c9 (pc (show (((i).toNat - 0)+(C0.length - (j).toNat))=((kR C0 ((i).toNat) ((j).toNat)).take (((i).toNat - 0)+(C0.length - (j).toNat))).length from (IG c9)) (pc (show (((i).toNat - 0)+(C0.length - (j).toNat))=((kR C0 ((i).toNat) ((j).toNat)).take (((i).toNat - 0)+(C0.length - (j).toNat))).length from (IG c9)) (pc (show ∀ zi,zi < ((kR C0 ((i).toNat) ((j).toNat)).take (((i).toNat - 0)+(C0.length - (j).toNat))).length→(fun zi=>cI (((kR C0 ((i).toNat) ((j).toNat)).take (((i).toNat - 0)+(C0.length - (j).toNat))).getD zi 0)) zi=(fun zi=>cI ((kR C0 ((i).toNat) ((j).toNat)).getD zi 0)) zi from (fun zq iw=>P7 cI 0 (kR C0 ((i).toNat) ((j).toNat)) (((i).toNat - 0)+(C0.length - (j).toNat)) zq iw)) pn))))))) ?_
  refine ae hE 1 [] [] (kp [6]) (kq [0]) 465 pn ?_
  obtain rfl:=cJ h
  exact cP hE 0 Tryz.f78 [] (kp [6]) (kq [0]) 465 pn [] pn
noncomputable abbrev ZJ:=bV Tryz.f79
theorem wD (N i j C0 r) (h:lA N i j C0=some r):Sd 79 [(.os 0 0 C0.length),(aI i),(aI j)] [(0,aO 4 aj aa.d C0)] 1 (.os 0 0 r.2.length) [(0,aO 4 aj aa.d r.2)]:=by
 unfold lA at h
 refine gU (fu:=Tryz.f79) (c:=ZJ 1) (nt:=33) (fun hm=>absurd hm (by decide)) ?_
 intro E hE
 refine ae hE 1 [] [] (kp [0,1,2]) (kq [0]) 17 pn ?_
 obtain ⟨c,h⟩:=ab h
 refine ae hE 1 [(5,oF (.m9))] [] (kp [0,1,2]) (kq [0]) 113 (pc c pn) ?_
 refine ae hE 2 [] [] (kp [0,1,2,16]) (kq [0]) 161 pn ?_
 refine dm 0 16 h (fun dW h=>?_) (fun dW h=>?_)
 ·refine ae hE 1 [] [] (kp [6]) (kq [0]) 193 pn ?_
  obtain rfl:=cJ h
  exact cP hE 0 Tryz.f79 [] (kp [6]) (kq [0]) 193 pn [] pn
 ·refine ae hE 2 [] [] (kp [0,1,2,7]) (kq [0]) 209 pn ?_
  obtain ⟨c2,h⟩:=ab h
  obtain ⟨c3,h⟩:=ab h
  obtain ⟨c4,h⟩:=ab h
  obtain ⟨c5,h⟩:=ab h
  obtain ⟨c6,h⟩:=ab h
  obtain ⟨c7,h⟩:=ab h
  refine ae hE 1 [(6,oF (.m9))] [] (kp [0,7]) [(0,.arr 0 ((kR C0 ((i).toNat) ((j).toNat)).length) (fun zi=>aj ((kR C0 ((i).toNat) ((j).toNat)).getD zi aa.d)))] 337 (pc c2 (pc c3 (pc c4 (pc c5 (pc (show 0 < C0.length∧((i).toNat - 0)+(C0.length - (j).toNat)≤C0.length by have h1:=c6;have h2:=c7;omega) (pc (show (j).toNat+(C0.length - (j).toNat)≤C0.length by have h1:=c6;omega) (pc (show ∀ zi,zi < C0.length→AV.iP (aj (C0.getD zi aa.d))=true from (fun _ _=>rfl)) (pc (show C0.length=(kR C0 ((i).toNat) ((j).toNat)).length from (Eo c6)) (pc (show ∀ zi,zi < (kR C0 ((i).toNat) ((j).toNat)).length→(fun zi=>aj ((kR C0 ((i).toNat) ((j).toNat)).getD zi aa.d)) zi=((fun zm=>if zm < ((i).toNat - 0) then aj (C0.getD zm aa.d) else if zm < ((i).toNat - 0)+(C0.length - (j).toNat) then aj (C0.getD (bA (j).toNat (zm - ((i).toNat - 0))) aa.d) else aj (C0.getD zm aa.d))) zi from (fun zq iw=>MK aj aa.d C0 ((i).toNat) ((j).toNat) c6 zq iw)) pn))))))))) ?_
  obtain ⟨c8,h⟩:=ab h
  obtain ⟨c9,h⟩:=ab h
  refine ae hE 1 [(4,oF (.m9)),(5,oF (.m9))] [] [(0,.kQ (((kR C0 ((i).toNat) ((j).toNat)).take (((i).toNat - 0)+(C0.length - (j).toNat))).length))] [(0,.arr 0 (((kR C0 ((i).toNat) ((j).toNat)).take (((i).toNat - 0)+(C0.length - (j).toNat))).length) (fun zi=>aj (((kR C0 ((i).toNat) ((j).toNat)).take (((i).toNat - 0)+(C0.length - (j).toNat))).getD zi aa.d)))] 433 (pc c8 (pc (show 0≤(((((i).toNat - 0)+(C0.length - (j).toNat)):Nat):Int) from (Int.natCast_nonneg _)) (pc (show 0≤((C0.length:Nat):Int) from (Int.natCast_nonneg _)) (pc c9 (pc (show (((i).toNat - 0)+(C0.length - (j).toNat))=((kR C0 ((i).toNat) ((j).toNat)).take (((i).toNat - 0)+(C0.length - (j).toNat))).length from (IG c9)) (pc (show (((i).toNat - 0)+(C0.length - (j).toNat))=((kR C0 ((i).toNat) ((j).toNat)).take (((i).toNat - 0)+(C0.length - (j).toNat))).length from (IG c9)) (pc (show ∀ zi,zi < ((kR C0 ((i).toNat) ((j).toNat)).take (((i).toNat - 0)+(C0.length - (j).toNat))).length→(fun zi=>aj (((kR C0 ((i).toNat) ((j).toNat)).take (((i).toNat - 0)+(C0.length - (j).toNat))).getD zi aa.d)) zi=(fun zi=>aj ((kR C0 ((i).toNat) ((j).toNat)).getD zi aa.d)) zi from (fun zq iw=>P7 aj aa.d (kR C0 ((i).toNat) ((j).toNat)) (((i).toNat - 0)+(C0.length - (j).toNat)) zq iw)) pn))))))) ?_
  refine ae hE 1 [] [] (kp [6]) (kq [0]) 465 pn ?_
  obtain rfl:=cJ h
  exact cP hE 0 Tryz.f79 [] (kp [6]) (kq [0]) 465 pn [] pn
noncomputable abbrev xt:=bV Tryz.f34
def pz (N:Nat) (C0:Int) (bw:Int) (cd:Bool) (de:List Int) (dj:Bool) (dk:List Int) (dc:Int) (C1:List Int) (C2:List Int) (C3:List (List aa)) (C4:List aa) (C5:List aa) (K:Int→Int→Option (Bool×lR×(List Int)×(List Int)×(List (List aa))×(List aa))):Prop:=∀ (low:Int) (x:Int) (r:Bool×lR×(List Int)×(List Int)×(List (List aa))×(List aa)),K low x=some r→∀ E,bq E 6→aD Tryz.prog E 34 177 (bd E [(0,vN 12 [(aI r.2.1.xk),(aI r.2.1.xl),(.os 1 0 r.2.2.1.length),(.os 2 0 r.2.2.2.1.length),(.os 3 0 r.2.2.2.2.1.length),(.os 4 0 r.2.2.2.2.2.length),(.os 6 0 r.2.1.eW.length),(aB r.2.1.ak.fN.fG),(eU r.2.1.ak.fN.fL),(aB r.2.1.ak.fD.fG),(eU r.2.1.ak.fD.fL),(aI r.2.1.cu)]),(1,aO 1 cI 0 r.2.2.1),(2,aO 1 cI 0 r.2.2.2.1),(3,aM 4 aj aa.d r.2.2.2.2.1),(4,aO 4 aj aa.d r.2.2.2.2.2),(6,aO 4 aj aa.d r.2.1.eW)] (aB r.1)) [.code (xt 116),.inLoop (xt 116),.inBlock 0,.code (xt 15)] ⟨[(0,(.op 0 0 0)),(3,(aI low)),(15,(aI ((C4.length:Nat):Int))),(16,(aI x))],[(0,vN 12 [(aI C0),(aI bw),(.os 1 0 C1.length),(.os 2 0 C2.length),(.os 3 0 C3.length),(.os 4 0 C4.length),(.os 6 0 C5.length),(aB cd),(eU de),(aB dj),(eU dk),(aI dc)]),(1,aO 1 cI 0 C1),(2,aO 1 cI 0 C2),(3,aM 4 aj aa.d C3),(4,aO 4 aj aa.d C4),(6,aO 4 aj aa.d C5)],7⟩
def vw (N:Nat) (C0:Int) (bw:Int) (cd:Bool) (de:List Int) (dj:Bool) (dk:List Int) (dc:Int) (C1:List Int) (C2:List Int) (C3:List (List aa)) (C4:List aa) (C5:List aa) (x:Int) (K:Int→Option (Bool×lR×(List Int)×(List Int)×(List (List aa))×(List aa))):Prop:=∀ (Qf:Int) (r:Bool×lR×(List Int)×(List Int)×(List (List aa))×(List aa)),K Qf=some r→∀ E,bq E 6→aD Tryz.prog E 34 177 (bd E [(0,vN 12 [(aI r.2.1.xk),(aI r.2.1.xl),(.os 1 0 r.2.2.1.length),(.os 2 0 r.2.2.2.1.length),(.os 3 0 r.2.2.2.2.1.length),(.os 4 0 r.2.2.2.2.2.length),(.os 6 0 r.2.1.eW.length),(aB r.2.1.ak.fN.fG),(eU r.2.1.ak.fN.fL),(aB r.2.1.ak.fD.fG),(eU r.2.1.ak.fD.fL),(aI r.2.1.cu)]),(1,aO 1 cI 0 r.2.2.1),(2,aO 1 cI 0 r.2.2.2.1),(3,aM 4 aj aa.d r.2.2.2.2.1),(4,aO 4 aj aa.d r.2.2.2.2.2),(6,aO 4 aj aa.d r.2.1.eW)] (aB r.1)) [.code (xt 935),.inLoop (xt 116),.inBlock 0,.code (xt 15)] ⟨[(0,(.op 0 0 0)),(3,(aI Qf)),(15,(aI ((C4.length:Nat):Int))),(16,(aI x))],[(0,vN 12 [(aI C0),(aI bw),(.os 1 0 C1.length),(.os 2 0 C2.length),(.os 3 0 C3.length),(.os 4 0 C4.length),(.os 6 0 C5.length),(aB cd),(eU de),(aB dj),(eU dk),(aI dc)]),(1,aO 1 cI 0 C1),(2,aO 1 cI 0 C2),(3,aM 4 aj aa.d C3),(4,aO 4 aj aa.d C4),(6,aO 4 aj aa.d C5)],7⟩
theorem ou (N:Nat) (C0:Int) (bw:Int) (cd:Bool) (de:List Int) (dj:Bool) (dk:List Int) (dc:Int) (C1:List Int) (C2:List Int) (C3:List (List aa)) (C4:List aa) (C5:List aa) (x:Int) (jw:Int→Int→Option (Bool×lR×(List Int)×(List Int)×(List (List aa))×(List aa))) (uC:pz N C0 bw cd de dj dk dc C1 C2 C3 C4 C5 jw):vw N C0 bw cd de dj dk dc C1 C2 C3 C4 C5 x (iH N C0 bw cd de dj dk dc C1 C2 C3 C4 C5 x jw):=by
 intro Qf r h E hE
 unfold iH at h
 refine ae hE 0 [] [] (kp [0,3,15,16]) (kq [0,1,2,3,4,6]) 39 pn ?_
 exact cV hE 1 [] (kp [0,3,15,16]) (kq [0,1,2,3,4,6]) 7 pn (uC _ _ _ h E hE)
def vz (N:Nat) (K:Int→Int→(List Int)→(List Int)→(List (List aa))→(List aa)→(List aa)→Bool→(List Int)→Bool→(List Int)→Int→Option (Bool×lR×(List Int)×(List Int)×(List (List aa))×(List aa))):Prop:=∀ (b8:Int) (oj:Int) (ly:List Int) (pS:List Int) (gC:List (List aa)) (qh:List aa) (qi:List aa) (tF:Bool) (tG:List Int) (zy:Bool) (zz:List Int) (x7:Int) (r:Bool×lR×(List Int)×(List Int)×(List (List aa))×(List aa)),K b8 oj ly pS gC qh qi tF tG zy zz x7=some r→∀ E,bq E 6→aD Tryz.prog E 34 177 (bd E [(0,vN 12 [(aI r.2.1.xk),(aI r.2.1.xl),(.os 1 0 r.2.2.1.length),(.os 2 0 r.2.2.2.1.length),(.os 3 0 r.2.2.2.2.1.length),(.os 4 0 r.2.2.2.2.2.length),(.os 6 0 r.2.1.eW.length),(aB r.2.1.ak.fN.fG),(eU r.2.1.ak.fN.fL),(aB r.2.1.ak.fD.fG),(eU r.2.1.ak.fD.fL),(aI r.2.1.cu)]),(1,aO 1 cI 0 r.2.2.1),(2,aO 1 cI 0 r.2.2.2.1),(3,aM 4 aj aa.d r.2.2.2.2.1),(4,aO 4 aj aa.d r.2.2.2.2.2),(6,aO 4 aj aa.d r.2.1.eW)] (aB r.1)) [.code (xt 252),.code (xt 253),.code (xt 127)] ⟨[(0,(.op 0 0 0))],[(0,vN 12 [(aI b8),(aI oj),(.os 1 0 ly.length),(.os 2 0 pS.length),(.os 3 0 gC.length),(.os 4 0 qh.length),(.os 6 0 qi.length),(aB tF),(eU tG),(aB zy),(eU zz),(aI x7)]),(1,aO 1 cI 0 ly),(2,aO 1 cI 0 pS),(3,aM 4 aj aa.d gC),(4,aO 4 aj aa.d qh),(6,aO 4 aj aa.d qi)],7⟩
def vA (N:Nat) (K:Int→Int→(List Int)→(List Int)→(List (List aa))→(List aa)→(List aa)→Bool→(List Int)→Bool→(List Int)→Int→Option (Bool×lR×(List Int)×(List Int)×(List (List aa))×(List aa))):Prop:=∀ (uq:Int) (ur:Int) (rz:List Int) (Kd:List Int) (Al:List (List aa)) (rA:List aa) (Bi:List aa) (u7:Bool) (u9:List Int) (vb:Bool) (vd:List Int) (tH:Int) (r:Bool×lR×(List Int)×(List Int)×(List (List aa))×(List aa)),K uq ur rz Kd Al rA Bi u7 u9 vb vd tH=some r→∀ E,bq E 6→aD Tryz.prog E 34 177 (bd E [(0,vN 12 [(aI r.2.1.xk),(aI r.2.1.xl),(.os 1 0 r.2.2.1.length),(.os 2 0 r.2.2.2.1.length),(.os 3 0 r.2.2.2.2.1.length),(.os 4 0 r.2.2.2.2.2.length),(.os 6 0 r.2.1.eW.length),(aB r.2.1.ak.fN.fG),(eU r.2.1.ak.fN.fL),(aB r.2.1.ak.fD.fG),(eU r.2.1.ak.fD.fL),(aI r.2.1.cu)]),(1,aO 1 cI 0 r.2.2.1),(2,aO 1 cI 0 r.2.2.2.1),(3,aM 4 aj aa.d r.2.2.2.2.1),(4,aO 4 aj aa.d r.2.2.2.2.2),(6,aO 4 aj aa.d r.2.1.eW)] (aB r.1)) [.code (xt 254),.code (xt 255)] ⟨[(0,(.op 0 0 0))],[(0,vN 12 [(aI uq),(aI ur),(.os 1 0 rz.length),(.os 2 0 Kd.length),(.os 3 0 Al.length),(.os 4 0 rA.length),(.os 6 0 Bi.length),(aB u7),(eU u9),(aB vb),(eU vd),(aI tH)]),(1,aO 1 cI 0 rz),(2,aO 1 cI 0 Kd),(3,aM 4 aj aa.d Al),(4,aO 4 aj aa.d rA),(6,aO 4 aj aa.d Bi)],7⟩
def vB (N:Nat) (uq:Int) (ur:Int) (rz:List Int) (Al:List (List aa)) (rA:List aa) (Bi:List aa) (u7:Bool) (u9:List Int) (vb:Bool) (vd:List Int) (tH:Int) (mY:Int) (cx:(List Int)×(List Int)) (K:(List (List aa))→Int→Option (Bool×lR×(List Int)×(List Int)×(List (List aa))×(List aa))):Prop:=∀ (k8:List (List aa)) (x2:Int) (r:Bool×lR×(List Int)×(List Int)×(List (List aa))×(List aa)),K k8 x2=some r→∀ E,bq E 6→aD Tryz.prog E 34 177 (bd E [(0,vN 12 [(aI r.2.1.xk),(aI r.2.1.xl),(.os 1 0 r.2.2.1.length),(.os 2 0 r.2.2.2.1.length),(.os 3 0 r.2.2.2.2.1.length),(.os 4 0 r.2.2.2.2.2.length),(.os 6 0 r.2.1.eW.length),(aB r.2.1.ak.fN.fG),(eU r.2.1.ak.fN.fL),(aB r.2.1.ak.fD.fG),(eU r.2.1.ak.fD.fL),(aI r.2.1.cu)]),(1,aO 1 cI 0 r.2.2.1),(2,aO 1 cI 0 r.2.2.2.1),(3,aM 4 aj aa.d r.2.2.2.2.1),(4,aO 4 aj aa.d r.2.2.2.2.2),(6,aO 4 aj aa.d r.2.1.eW)] (aB r.1)) [.code (xt 8180),.inLoop (xt 8180),.inBlock 2,.code (xt 1023)] ⟨[(0,(.op 0 0 0)),(8,(aI mY)),(126,(aI ((Al.length:Nat):Int))),(127,(aI x2))],[(0,vN 12 [(aI uq),(aI ur),(.os 1 0 rz.length),(.os 2 0 cx.2.length),(.os 3 0 k8.length),(.os 4 0 rA.length),(.os 6 0 Bi.length),(aB u7),(eU u9),(aB vb),(eU vd),(aI tH)]),(1,aO 1 cI 0 rz),(2,aO 1 cI 0 cx.2),(3,aM 4 aj aa.d k8),(4,aO 4 aj aa.d rA),(6,aO 4 aj aa.d Bi)],7⟩
def vC (N:Nat) (uq:Int) (ur:Int) (rz:List Int) (rA:List aa) (u7:Bool) (u9:List Int) (vb:Bool) (vd:List Int) (tH:Int) (cx:(List Int)×(List Int)) (k8:List (List aa)) (K:(List aa)→Int→Option (Bool×lR×(List Int)×(List Int)×(List (List aa))×(List aa))):Prop:=∀ (Bh:List aa) (x3:Int) (r:Bool×lR×(List Int)×(List Int)×(List (List aa))×(List aa)),K Bh x3=some r→∀ E,bq E 6→aD Tryz.prog E 34 177 (bd E [(0,vN 12 [(aI r.2.1.xk),(aI r.2.1.xl),(.os 1 0 r.2.2.1.length),(.os 2 0 r.2.2.2.1.length),(.os 3 0 r.2.2.2.2.1.length),(.os 4 0 r.2.2.2.2.2.length),(.os 6 0 r.2.1.eW.length),(aB r.2.1.ak.fN.fG),(eU r.2.1.ak.fN.fL),(aB r.2.1.ak.fD.fG),(eU r.2.1.ak.fD.fL),(aI r.2.1.cu)]),(1,aO 1 cI 0 r.2.2.1),(2,aO 1 cI 0 r.2.2.2.1),(3,aM 4 aj aa.d r.2.2.2.2.1),(4,aO 4 aj aa.d r.2.2.2.2.2),(6,aO 4 aj aa.d r.2.1.eW)] (aB r.1)) [.code (xt 32756),.inLoop (xt 32756),.inBlock 4,.code (xt 4095)] ⟨[(0,(.op 0 0 0)),(161,(aI (((List.replicate cx.2.length aa.d:List aa).length:Nat):Int))),(162,(aI x3))],[(0,vN 12 [(aI uq),(aI ur),(.os 1 0 rz.length),(.os 2 0 cx.2.length),(.os 3 0 k8.length),(.os 4 0 rA.length),(.os 6 0 Bh.length),(aB u7),(eU u9),(aB vb),(eU vd),(aI tH)]),(1,aO 1 cI 0 rz),(2,aO 1 cI 0 cx.2),(3,aM 4 aj aa.d k8),(4,aO 4 aj aa.d rA),(6,aO 4 aj aa.d Bh)],7⟩
theorem uD (N uq ur rz rA u7 u9 vb vd tH cx k8 fuel):vC N uq ur rz rA u7 u9 vb vd tH cx k8 (dL N uq ur rz rA u7 u9 vb vd tH cx k8 fuel):=by
 induction fuel with
 | zero=>intro _ _ r h;rw [dL.eq_1] at h;cases h
 | succ fuel ih =>
  intro Bh x3 r h E hE
  rw [dL.eq_2] at h
  refine ae hE 1 [] [] (kp [0,161,162,163]) (kq [0,1,2,3,4,6]) 23 pn ?_
  refine dm 1 163 h (fun ZK h=>?_) (fun ZK h=>?_)
  ·refine ae hE 4 [] [] (kp [0,10,161,162]) (kq [0,1,2,3,4,6]) 55 pn ?_
   obtain ⟨lH,FU,h⟩:=aQ h
   obtain ⟨Vf,h⟩:=ab h
   refine ae hE 0 [(5,oT (.agg (aj lH)))] [] (kp [0,161,162]) ([(0,.var 0 [.ag,.ag,.ag,.ag,.ag,.ag,.kQ ((Bh.set ((x3).toNat) lH).length),.ag,.ag,.ag,.ag,.ag])] ++ kq [1,2,3,4] ++ [(6,.arr 6 ((Bh.set ((x3).toNat) lH).length) (fun zi=>aj ((Bh.set ((x3).toNat) lH).getD zi aa.d)))]) 183 (pc o1 (pc (gX _ _ _ FU) (pc Vf (pc (dS Vf) (pc (aA Bh ((x3).toNat) lH) (pc (aA Bh ((x3).toNat) lH) (pc (cL aj aa.d Bh ((x3).toNat) lH) pn))))))) ?_
   refine ae hE 1 [] [] (kp [0,161,162]) (kq [0,1,2,3,4,6]) 215 pn ?_
   exact cV hE 1 [] (kp [0,161,162]) (kq [0,1,2,3,4,6]) 7 pn (ih _ _ _ h E hE)
  ·obtain ⟨bQ,IV,h⟩:=aQ h
   refine ae hE 2 [(1,oT (.agg (aj bQ)))] [] [] (kq [0,1,2,3,4,6]) 103 (pc (gX _ _ _ IV) (pc o1 pn)) ?_
   refine ae hE 1 [] [] (kp [2]) (kq [0,1,2,3,4,6]) 119 pn ?_
   obtain rfl:=cJ h
   exact cP hE 0 Tryz.f34 [] (kp [2]) (kq [0,1,2,3,4,6]) 119 pn [] pn
theorem uE (N uq ur rz Al rA Bi u7 u9 vb vd tH mY cx fuel):vB N uq ur rz Al rA Bi u7 u9 vb vd tH mY cx (dM N uq ur rz Al rA Bi u7 u9 vb vd tH mY cx fuel):=by
 induction fuel with
 | zero=>intro _ _ r h;rw [dM.eq_1] at h;cases h
 | succ fuel ih =>
  intro k8 x2 r h E hE
  rw [dM.eq_2] at h
  refine ae hE 1 [] [] (kp [0,8,126,127,128]) (kq [0,1,2,3,4,6]) 23 pn ?_
  refine dm 1 128 h (fun SD h=>?_) (fun SD h=>?_)
  ·refine ae hE 4 [] [] (kp [0,8,9,126,127]) (kq [0,1,2,3,4,6]) 55 pn ?_
   obtain ⟨V2,h⟩:=ab h
   refine Sp 3 ((x2).toNat) 4 ((k8.getD ((x2).toNat) []).length) (fun zi=>aj ((k8.getD ((x2).toNat) []).getD zi aa.d)) (pc V2 (pc (show aW [] (mG k8) ((x2).toNat)=mR 4 aj aa.d (k8.getD ((x2).toNat) []) from rfl) pn)) ?_
   obtain ⟨V3,h⟩:=ab h
   obtain ⟨pU,FT,h⟩:=aQ h
   refine ae hE 0 [(11,oF (.os 55 0 ((k8.getD ((x2).toNat) []).length))),(15,⟨[55],false,(.os 0 0 pU.2.length),[(0,aO 4 aj aa.d pU.2)],0,false,none⟩)] [] (kp [0,8,126,127]) (kq [0,1,2] ++ [(3,.qg 3 (k8.length) [((x2).toNat,55,pU.2.length)] (mG k8))] ++ kq [4,6,55]) 359 (pc o1 (pc o1 (pc V3 (pc (dS V3) (pc (show (aW [((x2).toNat,55,(k8.getD ((x2).toNat) []).length)] (mG k8) ((x2).toNat))[0]?=some (.os 55 0 ((k8.getD ((x2).toNat) []).length)) from (gO rfl)) (pc (wD _ _ _ _ _ FT) (pc V3 (pc (dS V3) (pc (Eq.refl k8.length) (pc (show ∀ zm,zm < k8.length→aW [((x2).toNat,55,pU.2.length)] (mG k8) zm=if zm=(x2).toNat then [.os 55 0 pU.2.length] else aW [((x2).toNat,55,(k8.getD ((x2).toNat) []).length)] (mG k8) zm from (Sr _ _ _ _ _ rfl)) (pc (iM k8) pn))))))))))) ?_
   refine P5 3 55 ((x2).toNat) (pc V2 (pc (show aW [((x2).toNat,55,pU.2.length)] (mG k8) ((x2).toNat)=[.os 55 0 pU.2.length] from if_pos rfl) (pc (show ∀ zj,zj < pU.2.length→nY (aj (pU.2.getD zj aa.d))=true from fun _ _=>rfl) pn))) ?_
   refine P4 hE [] (kp [0,8,126,127]) ([(0,.var 0 [.ag,.ag,.ag,.ag,.kQ ((k8.set ((x2).toNat) pU.2).length),.ag,.ag,.ag,.ag,.ag,.ag,.ag])] ++ kq [1,2] ++ [(3,.qg 3 ((k8.set ((x2).toNat) pU.2).length) [] (mG (k8.set ((x2).toNat) pU.2)))] ++ kq [4,6]) 359 (pc (aA k8 ((x2).toNat) pU.2) (pc (aA k8 ((x2).toNat) pU.2) (pc (Bc (sz:=4) (c:=aj) (d:=aa.d) k8 ((x2).toNat) 55 pU.2.length pU.2 [] V2 Fm) (pc (iM (k8.set ((x2).toNat) pU.2)) pn)))) ?_
   refine ae hE 1 [] [] (kp [0,8,126,127]) (kq [0,1,2,3,4,6]) 391 pn ?_
   exact cV hE 1 [] (kp [0,8,126,127]) (kq [0,1,2,3,4,6]) 7 pn (ih _ _ _ h E hE)
  ·obtain ⟨V4,h⟩:=ab h
   refine ae hE 2 [] [] (kp [0]) ([(0,.var 0 [.ag,.ag,.ag,.ag,.ag,.ag,.kQ ((List.replicate cx.2.length aa.d:List aa).length),.ag,.ag,.ag,.ag,.ag])] ++ kq [1,2,3,4] ++ [(119,.PW 119 ((List.replicate cx.2.length aa.d:List aa).length) (fun zi=>aj ((List.replicate cx.2.length aa.d:List aa).getD zi aa.d)))]) 183 (pc o1 (pc (show 0≤((cx.2.length:Nat):Int) from V4.1) (pc (show ((cx.2.length:Nat):Int)≤((cx.2.length:Nat):Int) from (Int.le_refl _)) (pc (show (64:Int) * ((cx.2.length:Nat):Int)≤281474976710656 from V4.2.1) (pc (show ((cx.2.length:Nat):Int)≤9223372036854775807 from V4.2.2) (pc o1 (pc (show cx.2.length=(List.replicate cx.2.length aa.d:List aa).length from (di).symm) (pc (show (List.replicate cx.2.length aa.d:List aa).length≤cx.2.length from (Nat.le_of_eq (Eq.symm ((di).symm)))) (pc (show ∀ zi,zi < (List.replicate cx.2.length aa.d:List aa).length→Js ((fun _=>[(aB false),.nil,(aB false),.nil]) zi) ((fun zi=>aj ((List.replicate cx.2.length aa.d:List aa).getD zi aa.d)) zi) from (fun zq iw=>oV aj aa.d aa.d cx.2.length zq ⟨.inl rfl,.inr ⟨rfl,_,rfl⟩,.inl rfl,.inr ⟨rfl,_,rfl⟩,trivial⟩ iw)) pn))))))))) ?_
   refine ae hE 2 [] [] (kp [0,161,162]) (kq [0,1,2,3,4,119]) 279 (pc o1 pn) ?_
   exact cV hE 2 [] (kp [0,161,162]) (kq [0,1,2,3,4] ++ [(6,.ag 119)]) 7 pn (uD N _ _ _ _ _ _ _ _ _ _ _ N _ _ _ h E hE)
theorem ow (N):vA N (iI N):=by
 intro uq ur rz Kd Al rA Bi u7 u9 vb vd tH r h E hE
 unfold iI at h
 obtain ⟨mY,wu,h⟩:=aQ h
 refine ae hE 0 [(8,oT (aI mY))] [] (kp [0,8]) (kq [0,1,2,3,4,6]) 167 (pc o1 (pc o1 (pc (iE _ _ _ _ wu) (pc (z1 Kd.length) pn)))) ?_
 obtain ⟨cx,yj,h⟩:=aQ h
 refine ae hE 1 [(8,⟨[2],false,(.os 0 0 cx.2.length),[(0,aO 1 cI 0 cx.2)],0,false,none⟩)] [] (kp [0,8]) (kq [0,1,2,3,4,6]) 359 (pc o1 (pc (tj _ _ _ _ _ yj) (pc o1 pn))) ?_
 refine ae hE 2 [] [] (kp [0,8,126,127]) (kq [0,1,2,3,4,6]) 455 (pc o1 pn) ?_
 exact cV hE 2 [] (kp [0,8,126,127]) (kq [0,1,2,3,4,6]) 7 pn (uE N _ _ _ _ _ _ _ _ _ _ _ _ _ N _ _ _ h E hE)
theorem ox (N):vz N (fR N):=by
 intro b8 oj ly pS gC qh qi tF tG zy zz x7 r h E hE
 unfold fR at h
 obtain ⟨cW,wv,h⟩:=aQ h
 refine ae hE 0 [(8,oT (aI cW))] [] (kp [0,6]) (kq [0,1,2,3,4,6]) 167 (pc o1 (pc o1 (pc (iE _ _ _ _ wv) (pc (z1 ly.length) pn)))) ?_
 refine ae hE 1 [] [] (kp [0,6,89]) (kq [0,1,2,3,4,6]) 199 pn ?_
 refine dm 0 89 h (fun IQ h=>?_) (fun IQ h=>?_)
 ·obtain ⟨SC,h⟩:=ab h
  refine Sp 3 ((cW).toNat) 4 ((gC.getD ((cW).toNat) []).length) (fun zi=>aj ((gC.getD ((cW).toNat) []).getD zi aa.d)) (pc SC (pc (show aW [] (mG gC) ((cW).toNat)=mR 4 aj aa.d (gC.getD ((cW).toNat) []) from rfl) pn)) ?_
  obtain ⟨N3,h⟩:=ab h
  obtain ⟨U7,DI,h⟩:=aQ h
  refine ae hE 1 [(6,oF (.os 199 0 ((gC.getD ((cW).toNat) []).length))),(7,oT (aI U7))] [] (kp [0,6,7]) (kq [0,1,2] ++ [(3,.qg 3 (gC.length) [((cW).toNat,199,(gC.getD ((cW).toNat) []).length)] (mG gC))] ++ kq [4,6,199]) 359 (pc o1 (pc N3 (pc (dS N3) (pc (show (aW [((cW).toNat,199,(gC.getD ((cW).toNat) []).length)] (mG gC) ((cW).toNat))[0]?=some (.os 199 0 ((gC.getD ((cW).toNat) []).length)) from (gO rfl)) (pc (tL _ _ _ DI) (pc (z1 ((gC.getD ((cW).toNat) []).length)) (pc (Eq.refl gC.length) (pc (mC gC [((cW).toNat,199,(gC.getD ((cW).toNat) []).length)]) (pc (iM gC) pn))))))))) ?_
  refine P5 3 199 ((cW).toNat) (pc SC (pc (show aW [((cW).toNat,199,(gC.getD ((cW).toNat) []).length)] (mG gC) ((cW).toNat)=[.os 199 0 (gC.getD ((cW).toNat) []).length] from if_pos rfl) (pc (show ∀ zj,zj < (gC.getD ((cW).toNat) []).length→nY (aj ((gC.getD ((cW).toNat) []).getD zj aa.d))=true from fun _ _=>rfl) pn))) ?_
  refine P4 hE [] (kp [0,6,7]) (kq [0,1,2] ++ [(3,.qg 3 (gC.length) [] (mG gC))] ++ kq [4,6]) 359 (pc (Eq.refl (gC.length)) (pc (uW (sz:=4) (c:=aj) (d:=aa.d) gC ((cW).toNat) 199 ((gC.getD ((cW).toNat) []).length) [] Fm) (pc (iM gC) pn))) ?_
  obtain ⟨dA,DH,h⟩:=aQ h
  obtain ⟨Vh,h⟩:=ab h
  obtain ⟨WX,h⟩:=ab h
  obtain ⟨Vi,h⟩:=ab h
  obtain ⟨WY,h⟩:=ab h
  obtain ⟨X7,h⟩:=ab h
  refine ae hE 0 [(3,⟨[0,1,2,3,4,6],false,(.tup []),[(0,vN 12 [(aI dA.1.xk),(aI dA.1.xl),(.os 1 0 dA.2.1.length),(.os 2 0 dA.2.2.1.length),(.os 3 0 dA.2.2.2.1.length),(.os 4 0 dA.2.2.2.2.1.length),(.os 5 0 dA.2.2.2.2.2.length),(aB dA.1.ak.fN.fG),(eU dA.1.ak.fN.fL),(aB dA.1.ak.fD.fG),(eU dA.1.ak.fD.fL),(aI dA.1.cu)]),(1,aO 1 cI 0 dA.2.1),(2,aO 1 cI 0 dA.2.2.1),(3,aM 4 aj aa.d dA.2.2.2.1),(4,aO 4 aj aa.d dA.2.2.2.2.1),(5,aO 4 aj aa.d dA.2.2.2.2.2)],0,false,none⟩)] [] (kp [0]) (kq [0,1,2,3,4,6]) 423 (pc (nF _ _ _ _ _ _ _ _ _ _ _ _ _ _ _ _ DH) pn) ?_
  exact cV hE 1 [] (kp [0]) (kq [0,1,2,3,4,6]) 7 pn (ow N _ _ _ _ _ _ _ _ _ _ _ _ _ h E hE)
 ·exact cV hE 2 [] (kp [0]) (kq [0,1,2,3,4,6]) 7 pn (ow N _ _ _ _ _ _ _ _ _ _ _ _ _ h E hE)
theorem uF (N C0 bw cd de dj dk dc C1 C2 C3 C4 C5 fuel):pz N C0 bw cd de dj dk dc C1 C2 C3 C4 C5 (bz N C0 bw cd de dj dk dc C1 C2 C3 C4 C5 fuel):=by
 induction fuel with
 | zero=>intro _ _ r h;rw [bz.eq_1] at h;cases h
 | succ fuel ih =>
  intro low x r h E hE
  rw [bz.eq_2] at h
  refine ae hE 1 [] [] (kp [0,3,15,16,17]) (kq [0,1,2,3,4,6]) 23 pn ?_
  refine dm 1 17 h (fun dW h=>?_) (fun dW h=>?_)
  ·refine ae hE 4 [] [] (kp [0,3,4,15,16]) (kq [0,1,2,3,4,6]) 55 pn ?_
   obtain ⟨c,h⟩:=ab h
   obtain ⟨aN,hr,h⟩:=aQ h
   obtain ⟨c2,h⟩:=ab h
   obtain ⟨c3,h⟩:=ab h
   obtain ⟨eE,eJ,h⟩:=aQ h
   refine ae hE 1 [(7,oT (aI aN)),(27,oT (aI eE))] [] (kp [0,3,4,15,16,49]) (kq [0,1,2,3,4,6]) 551 (pc o1 (pc c (pc (dS c) (pc (qI _ _ _ hr) (pc (fun hg:(decide (aN < 0))=true=>(pc hg pn)) (pc (fun hg:((decide (aN < 0)) && ((decide (aN < 0)) && (!(decide (low < 0)))))=true=>(pc hg pn)) (pc (fun hg:((decide (aN < 0)) && ((decide (aN < 0)) && (!(decide (low < 0)))))=true=>(pc hg pn)) (pc (fun hg:((decide (aN < 0)) && ((decide (aN < 0)) && (!(decide (low < 0)))))=true=>(pc hg (pc o1 pn))) (pc (fun hg:((decide (aN < 0)) && ((decide (aN < 0)) && (!(decide (low < 0)))))=true=>(pc hg (pc hg (pc (c2 hg) pn)))) (pc (fun hg:((decide (aN < 0)) && ((decide (aN < 0)) && (!(decide (low < 0)))))=true=>(pc hg (pc (dS (c2 hg)) pn))) (pc (fun hg:((decide (aN < 0)) && ((decide (aN < 0)) && (!(decide (low < 0)))))=true=>(pc hg pn)) (pc (fun hg:((decide (aN < 0)) && ((decide (aN < 0)) && (!(decide (low < 0)))))=true=>(pc hg pn)) (pc (fun hg:((decide (aN < 0)) && ((decide (aN < 0)) && (!(decide (low < 0)))))=true=>(pc hg (pc o1 pn))) (pc (fun hg:((decide (aN < 0)) && ((decide (aN < 0)) && (!(decide (low < 0)))))=true=>(pc hg (pc hg (pc (c3 hg) pn)))) (pc (fun hg:((decide (aN < 0)) && ((decide (aN < 0)) && (!(decide (low < 0)))))=true=>(pc hg (pc (dS (c3 hg)) pn))) (pc (fun hg:((decide (aN < 0)) && ((decide (aN < 0)) && (!(decide (low < 0)))))=true=>(pc (jj _ _ _ _ (aF eJ hg)) (pc hg (pc hg pn)))) (pc (fun hg:((decide (aN < 0)) && ((decide (aN < 0)) && (!(decide (low < 0)))))=true=>(pc hg pn)) (pc (fun hg:(decide (aN < 0))=true=>(pc hg (pc hg (pc (fun hq:(!(decide (low < 0)))=true=>(pc (show ((decide (aN < 0)) && ((decide (aN < 0)) && (!(decide (low < 0)))))=true from (lU hg (lU hg hq))) pn)) pn)))) (pc (fun hq:(decide (aN < 0))=true=>(pc hq pn)) pn))))))))))))))))))) ?_
   refine dm 0 49 h (fun jh h=>?_) (fun jh h=>?_)
   ·refine ae hE 0 [] [] (kp [0,3,15,16]) (kq [0,1,2,3,4,6]) 583 pn ?_
    exact cV hE 1 [] (kp [0,3,15,16]) (kq [0,1,2,3,4,6]) 7 pn (ou N _ _ _ _ _ _ _ _ _ _ _ _ _ _ ih _ _ h E hE)
   ·exact cV hE 2 [] (kp [0,3,15,16]) (kq [0,1,2,3,4,6]) 7 pn (ou N _ _ _ _ _ _ _ _ _ _ _ _ _ _ ih _ _ h E hE)
  ·refine ae hE 2 [] [] (kp [0,3,5]) (kq [0,1,2,3,4,6]) 135 (pc o1 pn) ?_
   refine ae hE 2 [] [] (kp [0,3,5,59]) (kq [0,1,2,3,4,6]) 167 pn ?_
   refine dm 0 59 h (fun ta h=>?_) (fun ta h=>?_)
   ·obtain ⟨aw,jP,h⟩:=aQ h
    obtain ⟨c4,h⟩:=ab h
    refine ae hE 1 [(5,oT (.agg (aj aw)))] [] (kp [0,3,5]) ([(0,.var 0 [.ag,.ag,.ag,.ag,.ag,.ag,.kQ ((C5.set ((ah (((C2.length:Nat):Int) - 1)).toNat) aw).length),.ag,.ag,.ag,.ag,.ag])] ++ kq [1,2,3,4] ++ [(6,.arr 6 ((C5.set ((ah (((C2.length:Nat):Int) - 1)).toNat) aw).length) (fun zi=>aj ((C5.set ((ah (((C2.length:Nat):Int) - 1)).toNat) aw).getD zi aa.d)))]) 295 (pc o1 (pc (gX _ _ _ jP) (pc c4 (pc (dS c4) (pc (aA C5 ((ah (((C2.length:Nat):Int) - 1)).toNat) aw) (pc (aA C5 ((ah (((C2.length:Nat):Int) - 1)).toNat) aw) (pc (cL aj aa.d C5 ((ah (((C2.length:Nat):Int) - 1)).toNat) aw) pn))))))) ?_
    obtain ⟨bu,mz,h⟩:=aQ h
    obtain ⟨c5,h⟩:=ab h
    obtain ⟨c6,h⟩:=ab h
    obtain ⟨c7,h⟩:=ab h
    obtain ⟨c8,h⟩:=ab h
    obtain ⟨c9,h⟩:=ab h
    refine ae hE 1 [(3,⟨[0,1,2,3,4,6],false,(.tup []),[(0,vN 12 [(aI bu.1.xk),(aI bu.1.xl),(.os 1 0 bu.2.1.length),(.os 2 0 bu.2.2.1.length),(.os 3 0 bu.2.2.2.1.length),(.os 4 0 bu.2.2.2.2.1.length),(.os 5 0 bu.2.2.2.2.2.length),(aB bu.1.ak.fN.fG),(eU bu.1.ak.fN.fL),(aB bu.1.ak.fD.fG),(eU bu.1.ak.fD.fL),(aI bu.1.cu)]),(1,aO 1 cI 0 bu.2.1),(2,aO 1 cI 0 bu.2.2.1),(3,aM 4 aj aa.d bu.2.2.2.1),(4,aO 4 aj aa.d bu.2.2.2.2.1),(5,aO 4 aj aa.d bu.2.2.2.2.2)],0,false,none⟩)] [] (kp [0]) (kq [0,1,2,3,4,6]) 359 (pc (nF _ _ _ _ _ _ _ _ _ _ _ _ _ _ _ _ mz) pn) ?_
    obtain ⟨cM,qz,h⟩:=aQ h
    obtain ⟨N4,h⟩:=ab h
    obtain ⟨Jw,h⟩:=ab h
    obtain ⟨NZ,h⟩:=ab h
    obtain ⟨Kh,h⟩:=ab h
    obtain ⟨MP,h⟩:=ab h
    refine ae hE 1 [(1,⟨[0,1,2,3,4,6],false,(aI cM.1),[(0,vN 12 [(aI cM.2.1.xk),(aI cM.2.1.xl),(.os 1 0 cM.2.2.1.length),(.os 2 0 cM.2.2.2.1.length),(.os 3 0 cM.2.2.2.2.1.length),(.os 4 0 cM.2.2.2.2.2.1.length),(.os 5 0 cM.2.2.2.2.2.2.length),(aB cM.2.1.ak.fN.fG),(eU cM.2.1.ak.fN.fL),(aB cM.2.1.ak.fD.fG),(eU cM.2.1.ak.fD.fL),(aI cM.2.1.cu)]),(1,aO 1 cI 0 cM.2.2.1),(2,aO 1 cI 0 cM.2.2.2.1),(3,aM 4 aj aa.d cM.2.2.2.2.1),(4,aO 4 aj aa.d cM.2.2.2.2.2.1),(5,aO 4 aj aa.d cM.2.2.2.2.2.2)],0,false,none⟩)] [] (kp [0]) (kq [0,1,2,3,4,6]) 391 (pc (yl _ _ _ _ _ _ _ _ _ _ _ _ _ _ qz) pn) ?_
    obtain ⟨gj,vj,h⟩:=aQ h
    refine ae hE 1 [(4,oT (aB gj))] [] (kp [0,78]) (kq [0,1,2,3,4,6]) 487 (pc o1 (pc (ji _ _ _ vj) pn)) ?_
    refine dm 0 78 h (fun CE h=>?_) (fun CE h=>?_)
    ·refine ae hE 1 [] [] (kp [2]) (kq [0,1,2,3,4,6]) 503 pn ?_
     obtain rfl:=cJ h
     exact cP hE 0 Tryz.f34 [] (kp [2]) (kq [0,1,2,3,4,6]) 503 pn [] pn
    ·exact cV hE 3 [] (kp [0]) (kq [0,1,2,3,4,6]) 7 pn (ox N _ _ _ _ _ _ _ _ _ _ _ _ _ h E hE)
   ·exact cV hE 3 [] (kp [0]) (kq [0,1,2,3,4,6]) 7 pn (ox N _ _ _ _ _ _ _ _ _ _ _ _ _ h E hE)
theorem xu (N C0 bw cd de dj dk dc C1 C2 C3 C4 C5 r) (h:l4 N C0 bw cd de dj dk dc C1 C2 C3 C4 C5=some r):Sd 34 [(.op 0 0 0)] [(0,vN 12 [(aI C0),(aI bw),(.os 1 0 C1.length),(.os 2 0 C2.length),(.os 3 0 C3.length),(.os 4 0 C4.length),(.os 5 0 C5.length),(aB cd),(eU de),(aB dj),(eU dk),(aI dc)]),(1,aO 1 cI 0 C1),(2,aO 1 cI 0 C2),(3,aM 4 aj aa.d C3),(4,aO 4 aj aa.d C4),(5,aO 4 aj aa.d C5)] 6 (aB r.1) [(0,vN 12 [(aI r.2.1.xk),(aI r.2.1.xl),(.os 1 0 r.2.2.1.length),(.os 2 0 r.2.2.2.1.length),(.os 3 0 r.2.2.2.2.1.length),(.os 4 0 r.2.2.2.2.2.length),(.os 6 0 r.2.1.eW.length),(aB r.2.1.ak.fN.fG),(eU r.2.1.ak.fN.fL),(aB r.2.1.ak.fD.fG),(eU r.2.1.ak.fD.fL),(aI r.2.1.cu)]),(1,aO 1 cI 0 r.2.2.1),(2,aO 1 cI 0 r.2.2.2.1),(3,aM 4 aj aa.d r.2.2.2.2.1),(4,aO 4 aj aa.d r.2.2.2.2.2),(6,aO 4 aj aa.d r.2.1.eW)]:=by
 unfold l4 at h
 refine gU (fu:=Tryz.f34) (c:=xt 1) (nt:=177) (fun hm=>absurd hm (by decide)) ?_
 intro E hE
 refine ae hE 1 [] [] (kp [0]) (kq [0,1,2,3,4,5]) 22 pn ?_
 refine ae hE 1 [] [] (kp [0,3]) (kq [0,1,2,3,4,5]) 38 pn ?_
 refine ae hE 2 [] [] (kp [0,3,15,16]) (kq [0,1,2,3,4,5]) 134 (pc o1 pn) ?_
 exact cV hE 2 [] (kp [0,3,15,16]) (kq [0,1,2,3,4] ++ [(6,.ag 5)]) 7 pn (uF N _ _ _ _ _ _ _ _ _ _ _ _ N _ _ _ h E hE)
noncomputable abbrev LR:=bV Tryz.f35
def mA (N:Nat) (C0:Int) (bw:Int) (cd:Bool) (de:List Int) (dj:Bool) (dk:List Int) (dc:Int) (C1:List Int) (C2:List Int) (C3:List (List aa)) (C4:List aa) (C5:List aa) (K:(List aa)→Int→Option ((List aa))):Prop:=∀ (out:List aa) (x:Int) (r:(List aa)),K out x=some r→∀ E,bq E 6→aD Tryz.prog E 35 47 (bd E [(0,vN 12 [(aI C0),(aI bw),(.os 1 0 C1.length),(.os 2 0 C2.length),(.os 3 0 C3.length),(.os 4 0 C4.length),(.os 5 0 C5.length),(aB cd),(eU de),(aB dj),(eU dk),(aI dc)]),(1,aO 1 cI 0 C1),(2,aO 1 cI 0 C2),(3,aM 4 aj aa.d C3),(4,aO 4 aj aa.d C4),(5,aO 4 aj aa.d C5),(6,aO 4 aj aa.d r)] (.os 6 0 r.length)) [.code (LR 116),.inLoop (LR 116),.inBlock 0,.code (LR 15)] ⟨[(0,(.op 0 0 0)),(3,(.os 6 0 out.length)),(12,(aI (((List.replicate ((bw).toNat) aa.d:List aa).length:Nat):Int))),(13,(aI x))],[(0,vN 12 [(aI C0),(aI bw),(.os 1 0 C1.length),(.os 2 0 C2.length),(.os 3 0 C3.length),(.os 4 0 C4.length),(.os 5 0 C5.length),(aB cd),(eU de),(aB dj),(eU dk),(aI dc)]),(1,aO 1 cI 0 C1),(2,aO 1 cI 0 C2),(3,aM 4 aj aa.d C3),(4,aO 4 aj aa.d C4),(5,aO 4 aj aa.d C5),(6,aO 4 aj aa.d out)],7⟩
def rF (N:Nat) (C0:Int) (bw:Int) (cd:Bool) (de:List Int) (dj:Bool) (dk:List Int) (dc:Int) (C1:List Int) (C2:List Int) (C3:List (List aa)) (C4:List aa) (C5:List aa) (x:Int) (K:(List aa)→Option ((List aa))):Prop:=∀ (gu:List aa) (r:(List aa)),K gu=some r→∀ E,bq E 6→aD Tryz.prog E 35 47 (bd E [(0,vN 12 [(aI C0),(aI bw),(.os 1 0 C1.length),(.os 2 0 C2.length),(.os 3 0 C3.length),(.os 4 0 C4.length),(.os 5 0 C5.length),(aB cd),(eU de),(aB dj),(eU dk),(aI dc)]),(1,aO 1 cI 0 C1),(2,aO 1 cI 0 C2),(3,aM 4 aj aa.d C3),(4,aO 4 aj aa.d C4),(5,aO 4 aj aa.d C5),(6,aO 4 aj aa.d r)] (.os 6 0 r.length)) [.code (LR 935),.inLoop (LR 116),.inBlock 0,.code (LR 15)] ⟨[(0,(.op 0 0 0)),(3,(.os 6 0 gu.length)),(12,(aI (((List.replicate ((bw).toNat) aa.d:List aa).length:Nat):Int))),(13,(aI x))],[(0,vN 12 [(aI C0),(aI bw),(.os 1 0 C1.length),(.os 2 0 C2.length),(.os 3 0 C3.length),(.os 4 0 C4.length),(.os 5 0 C5.length),(aB cd),(eU de),(aB dj),(eU dk),(aI dc)]),(1,aO 1 cI 0 C1),(2,aO 1 cI 0 C2),(3,aM 4 aj aa.d C3),(4,aO 4 aj aa.d C4),(5,aO 4 aj aa.d C5),(6,aO 4 aj aa.d gu)],7⟩
theorem lX (N:Nat) (C0:Int) (bw:Int) (cd:Bool) (de:List Int) (dj:Bool) (dk:List Int) (dc:Int) (C1:List Int) (C2:List Int) (C3:List (List aa)) (C4:List aa) (C5:List aa) (x:Int) (gk:(List aa)→Int→Option ((List aa))) (q9:mA N C0 bw cd de dj dk dc C1 C2 C3 C4 C5 gk):rF N C0 bw cd de dj dk dc C1 C2 C3 C4 C5 x (e8 N C0 bw cd de dj dk dc C1 C2 C3 C4 C5 x gk):=by
 intro gu r h E hE
 unfold e8 at h
 refine ae hE 0 [] [] (kp [0,3,12,13]) (kq [0,1,2,3,4,5,6]) 39 pn ?_
 exact cV hE 1 [] (kp [0,3,12,13]) (kq [0,1,2,3,4,5,6]) 7 pn (q9 _ _ _ h E hE)
theorem re (N C0 bw cd de dj dk dc C1 C2 C3 C4 C5 fuel):mA N C0 bw cd de dj dk dc C1 C2 C3 C4 C5 (bJ N C0 bw cd de dj dk dc C1 C2 C3 C4 C5 fuel):=by
 induction fuel with
 | zero=>intro _ _ r h;rw [bJ.eq_1] at h;cases h
 | succ fuel ih =>
  intro out x r h E hE
  rw [bJ.eq_2] at h
  refine ae hE 1 [] [] (kp [0,3,12,13,14]) (kq [0,1,2,3,4,5,6]) 23 pn ?_
  refine dm 1 14 h (fun dW h=>?_) (fun dW h=>?_)
  ·refine ae hE 4 [] [] (kp [0,3,4,12,13]) (kq [0,1,2,3,4,5,6]) 55 pn ?_
   obtain ⟨aw,hr,h⟩:=aQ h
   obtain ⟨c2,h⟩:=ab h
   refine ae hE 1 [(2,oT (.agg (aj aw)))] [] (kp [0] ++ [(3,.kQ ((out.set ((x).toNat) aw).length))] ++ kp [4,12,13]) (kq [0,1,2,3,4,5] ++ [(6,.arr 6 ((out.set ((x).toNat) aw).length) (fun zi=>aj ((out.set ((x).toNat) aw).getD zi aa.d)))]) 135 (pc (gX _ _ _ hr) (pc c2 (pc (dS c2) (pc (aA out ((x).toNat) aw) (pc (aA out ((x).toNat) aw) (pc (cL aj aa.d out ((x).toNat) aw) pn)))))) ?_
   obtain ⟨cW,eJ,h⟩:=aQ h
   refine ae hE 1 [(11,oT (aI cW))] [] (kp [0,3,4,5,12,13]) (kq [0,1,2,3,4,5,6]) 343 (pc o1 (pc o1 (pc (iE _ _ _ _ eJ) (pc (z1 C2.length) pn)))) ?_
   refine ae hE 1 [] [] (kp [0,3,4,5,12,13,33]) (kq [0,1,2,3,4,5,6]) 375 pn ?_
   refine dm 0 33 h (fun jh h=>?_) (fun jh h=>?_)
   ·obtain ⟨c3,h⟩:=ab h
    obtain ⟨aY,jP,h⟩:=aQ h
    obtain ⟨c4,h⟩:=ab h
    refine ae hE 0 [(9,oT (.agg (aj aY)))] [] (kp [0] ++ [(3,.kQ (((out.set ((x).toNat) aw).set ((x).toNat) aY).length))] ++ kp [12,13]) (kq [0,1,2,3,4,5] ++ [(6,.arr 6 (((out.set ((x).toNat) aw).set ((x).toNat) aY).length) (fun zi=>aj (((out.set ((x).toNat) aw).set ((x).toNat) aY).getD zi aa.d)))]) 567 (pc o1 (pc c3 (pc (dS c3) (pc (kJ _ _ _ jP) (pc c4 (pc (dS c4) (pc (aA (out.set ((x).toNat) aw) ((x).toNat) aY) (pc (aA (out.set ((x).toNat) aw) ((x).toNat) aY) (pc (cL aj aa.d (out.set ((x).toNat) aw) ((x).toNat) aY) pn))))))))) ?_
    exact cV hE 1 [] (kp [0,3,12,13]) (kq [0,1,2,3,4,5,6]) 7 pn (lX N _ _ _ _ _ _ _ _ _ _ _ _ _ _ ih _ _ h E hE)
   ·exact cV hE 2 [] (kp [0,3,12,13]) (kq [0,1,2,3,4,5,6]) 7 pn (lX N _ _ _ _ _ _ _ _ _ _ _ _ _ _ ih _ _ h E hE)
  ·refine ae hE 2 [] [] (kp [2]) (kq [0,1,2,3,4,5,6]) 55 pn ?_
   obtain rfl:=cJ h
   exact cP hE 0 Tryz.f35 [] (kp [2]) (kq [0,1,2,3,4,5,6]) 55 pn [] pn
theorem tk (N C0 bw cd de dj dk dc C1 C2 C3 C4 C5 r) (h:jx N C0 bw cd de dj dk dc C1 C2 C3 C4 C5=some r):Sd 35 [(.op 0 0 0)] [(0,vN 12 [(aI C0),(aI bw),(.os 1 0 C1.length),(.os 2 0 C2.length),(.os 3 0 C3.length),(.os 4 0 C4.length),(.os 5 0 C5.length),(aB cd),(eU de),(aB dj),(eU dk),(aI dc)]),(1,aO 1 cI 0 C1),(2,aO 1 cI 0 C2),(3,aM 4 aj aa.d C3),(4,aO 4 aj aa.d C4),(5,aO 4 aj aa.d C5)] 6 (.os 6 0 r.length) [(0,vN 12 [(aI C0),(aI bw),(.os 1 0 C1.length),(.os 2 0 C2.length),(.os 3 0 C3.length),(.os 4 0 C4.length),(.os 5 0 C5.length),(aB cd),(eU de),(aB dj),(eU dk),(aI dc)]),(1,aO 1 cI 0 C1),(2,aO 1 cI 0 C2),(3,aM 4 aj aa.d C3),(4,aO 4 aj aa.d C4),(5,aO 4 aj aa.d C5),(6,aO 4 aj aa.d r)]:=by
 unfold jx at h
 refine gU (fu:=Tryz.f35) (c:=LR 1) (nt:=47) (fun hm=>absurd hm (by decide)) ?_
 intro E hE
 refine ae hE 1 [] [] (kp [0]) (kq [0,1,2,3,4,5]) 22 pn ?_
 obtain ⟨c,h⟩:=ab h
 refine ae hE 1 [] [] (kp [0] ++ [(3,.kQ ((List.replicate ((bw).toNat) aa.d:List aa).length))]) (kq [0,1,2,3,4,5] ++ [(86,.PW 86 ((List.replicate ((bw).toNat) aa.d:List aa).length) (fun zi=>aj ((List.replicate ((bw).toNat) aa.d:List aa).getD zi aa.d)))]) 118 (pc o1 (pc (show 0≤bw from c.1) (pc (show bw≤bw from (Int.le_refl _)) (pc (show (64:Int) * bw≤281474976710656 from c.2.1) (pc (show bw≤9223372036854775807 from c.2.2) (pc (show (bw).toNat=(List.replicate ((bw).toNat) aa.d:List aa).length from (di).symm) (pc (show (List.replicate ((bw).toNat) aa.d:List aa).length≤(bw).toNat from (Nat.le_of_eq (Eq.symm ((di).symm)))) (pc (show ∀ zi,zi < (List.replicate ((bw).toNat) aa.d:List aa).length→Js ((fun _=>[(aB false),.nil,(aB false),.nil]) zi) ((fun zi=>aj ((List.replicate ((bw).toNat) aa.d:List aa).getD zi aa.d)) zi) from (fun zq iw=>oV aj aa.d aa.d ((bw).toNat) zq ⟨.inl rfl,.inr ⟨rfl,_,rfl⟩,.inl rfl,.inr ⟨rfl,_,rfl⟩,trivial⟩ iw)) pn)))))))) ?_
 refine ae hE 2 [] [] (kp [0,3,12,13]) (kq [0,1,2,3,4,5,86]) 166 pn ?_
 exact cV hE 2 [] (kp [0,3,12,13]) (kq [0,1,2,3,4,5] ++ [(6,.ag 86)]) 7 pn (re N _ _ _ _ _ _ _ _ _ _ _ _ N _ _ _ h E hE)
noncomputable abbrev ZL:=bV Tryz.f37
theorem tU (N yZ C0 bw cd de dj dk dc C1 C2 C3 C4 C5 r) (h:nA N yZ C0 bw cd de dj dk dc C1 C2 C3 C4 C5=some r):Sd 37 [(.op 0 0 0),(aI yZ)] [(0,vN 12 [(aI C0),(aI bw),(.os 1 0 C1.length),(.os 2 0 C2.length),(.os 3 0 C3.length),(.os 4 0 C4.length),(.os 5 0 C5.length),(aB cd),(eU de),(aB dj),(eU dk),(aI dc)]),(1,aO 1 cI 0 C1),(2,aO 1 cI 0 C2),(3,aM 4 aj aa.d C3),(4,aO 4 aj aa.d C4),(5,aO 4 aj aa.d C5)] 6 (.agg (aj r)) [(0,vN 12 [(aI C0),(aI bw),(.os 1 0 C1.length),(.os 2 0 C2.length),(.os 3 0 C3.length),(.os 4 0 C4.length),(.os 5 0 C5.length),(aB cd),(eU de),(aB dj),(eU dk),(aI dc)]),(1,aO 1 cI 0 C1),(2,aO 1 cI 0 C2),(3,aM 4 aj aa.d C3),(4,aO 4 aj aa.d C4),(5,aO 4 aj aa.d C5)]:=by
 unfold nA at h
 refine gU (fu:=Tryz.f37) (c:=ZL 1) (nt:=22) (fun hm=>absurd hm (by decide)) ?_
 intro E hE
 refine ae hE 1 [] [] (kp [0,1,4]) (kq [0,1,2,3,4,5,6]) 22 pn ?_
 obtain ⟨cW,hr,h⟩:=aQ h
 refine ae hE 2 [(5,oT (aI cW))] [] (kp [0,4,5]) (kq [0,1,2,3,4,5,6]) 134 (pc o1 (pc (iE _ _ _ _ hr) (pc (z1 C1.length) pn))) ?_
 refine ae hE 1 [] [] (kp [0,4,5,13]) (kq [0,1,2,3,4,5,6]) 166 pn ?_
 refine dm 0 13 h (fun dW h=>?_) (fun dW h=>?_)
 ·obtain ⟨c,h⟩:=ab h
  refine ae hE 1 [] [] (kp [4]) (kq [0,1,2,3,4,5,6]) 294 (pc o1 (pc c (pc (dS c) (pc o1 pn)))) ?_
  obtain rfl:=cJ h
  exact cP hE 0 Tryz.f37 [] (kp [4]) (kq [0,1,2,3,4,5] ++ [(22,.ag 6)]) 294 pn [22] (pc o1 pn)
 ·obtain ⟨aw,eJ,h⟩:=aQ h
  refine ae hE 2 [(0,oT (.agg (aj aw)))] [] (kp [4]) (kq [0,1,2,3,4,5,6]) 198 (pc (gX _ _ _ eJ) (pc o1 pn)) ?_
  obtain rfl:=cJ h
  exact cP hE 0 Tryz.f37 [] (kp [4]) (kq [0,1,2,3,4,5] ++ [(22,.ag 6)]) 198 pn [22] (pc o1 pn)
noncomputable abbrev SH:=bV Tryz.f36
def wE (N:Nat) (C0:Int) (bw:Int) (cd:Bool) (de:List Int) (dj:Bool) (dk:List Int) (dc:Int) (C1:List Int) (C2:List Int) (C3:List (List aa)) (C4:List aa) (C5:List aa) (K:(List aa)→Int→Option ((List aa))):Prop:=∀ (out:List aa) (x:Int) (r:(List aa)),K out x=some r→∀ E,bq E 6→aD Tryz.prog E 36 34 (bd E [(0,vN 12 [(aI C0),(aI bw),(.os 1 0 C1.length),(.os 2 0 C2.length),(.os 3 0 C3.length),(.os 4 0 C4.length),(.os 5 0 C5.length),(aB cd),(eU de),(aB dj),(eU dk),(aI dc)]),(1,aO 1 cI 0 C1),(2,aO 1 cI 0 C2),(3,aM 4 aj aa.d C3),(4,aO 4 aj aa.d C4),(5,aO 4 aj aa.d C5),(6,aO 4 aj aa.d r)] (.os 6 0 r.length)) [.code (SH 116),.inLoop (SH 116),.inBlock 0,.code (SH 15)] ⟨[(0,(.op 0 0 0)),(1,(.fn (.func 37) [(.op 0 0 0)] [])),(5,(.os 6 0 out.length)),(13,(aI (((List.replicate ((C0).toNat) aa.d:List aa).length:Nat):Int))),(14,(aI x))],[(0,vN 12 [(aI C0),(aI bw),(.os 1 0 C1.length),(.os 2 0 C2.length),(.os 3 0 C3.length),(.os 4 0 C4.length),(.os 5 0 C5.length),(aB cd),(eU de),(aB dj),(eU dk),(aI dc)]),(1,aO 1 cI 0 C1),(2,aO 1 cI 0 C2),(3,aM 4 aj aa.d C3),(4,aO 4 aj aa.d C4),(5,aO 4 aj aa.d C5),(6,aO 4 aj aa.d out)],7⟩
theorem vD (N C0 bw cd de dj dk dc C1 C2 C3 C4 C5 fuel):wE N C0 bw cd de dj dk dc C1 C2 C3 C4 C5 (ef N C0 bw cd de dj dk dc C1 C2 C3 C4 C5 fuel):=by
 induction fuel with
 | zero=>intro _ _ r h;rw [ef.eq_1] at h;cases h
 | succ fuel ih =>
  intro out x r h E hE
  rw [ef.eq_2] at h
  refine ae hE 1 [] [] (kp [0,1,5,13,14,15]) (kq [0,1,2,3,4,5,6]) 23 pn ?_
  refine dm 1 15 h (fun dW h=>?_) (fun dW h=>?_)
  ·refine ae hE 4 [] [] (kp [0,1,5,6,13,14]) (kq [0,1,2,3,4,5,6]) 55 pn ?_
   obtain ⟨rat,hr,h⟩:=aQ h
   obtain ⟨U8,eJ,h⟩:=aQ h
   obtain ⟨av,jP,h⟩:=aQ h
   obtain ⟨c2,h⟩:=ab h
   refine ae hE 0 [(4,⟨[0,1,2,3,4,5],true,(.agg (aj rat)),[],0,false,none⟩),(12,⟨[0,1,2,3,4,5],true,(.agg (aj U8)),[],0,false,none⟩),(13,oT (.agg (aj av)))] [] (kp [0,1] ++ [(5,.kQ ((out.set ((x).toNat) av).length))] ++ kp [13,14]) (kq [0,1,2,3,4,5] ++ [(6,.arr 6 ((out.set ((x).toNat) av).length) (fun zi=>aj ((out.set ((x).toNat) av).getD zi aa.d)))]) 311 (pc (tU _ _ _ _ _ _ _ _ _ _ _ _ _ _ _ hr) (pc (iM C3) (pc o1 (pc (tU _ _ _ _ _ _ _ _ _ _ _ _ _ _ _ eJ) (pc (iM C3) (pc (fk _ _ _ _ jP) (pc c2 (pc (dS c2) (pc (aA out ((x).toNat) av) (pc (aA out ((x).toNat) av) (pc (cL aj aa.d out ((x).toNat) av) pn))))))))))) ?_
   refine ae hE 1 [] [] (kp [0,1,5,13,14]) (kq [0,1,2,3,4,5,6]) 343 pn ?_
   exact cV hE 1 [] (kp [0,1,5,13,14]) (kq [0,1,2,3,4,5,6]) 7 pn (ih _ _ _ h E hE)
  ·refine ae hE 2 [] [] (kp [4]) (kq [0,1,2,3,4,5,6]) 55 pn ?_
   obtain rfl:=cJ h
   exact cP hE 0 Tryz.f36 [] (kp [4]) (kq [0,1,2,3,4,5,6]) 55 pn [] pn
theorem ym (N C0 bw cd de dj dk dc C1 C2 C3 C4 C5 r) (h:mZ N C0 bw cd de dj dk dc C1 C2 C3 C4 C5=some r):Sd 36 [(.op 0 0 0),(.fn (.func 37) [(.op 0 0 0)] [])] [(0,vN 12 [(aI C0),(aI bw),(.os 1 0 C1.length),(.os 2 0 C2.length),(.os 3 0 C3.length),(.os 4 0 C4.length),(.os 5 0 C5.length),(aB cd),(eU de),(aB dj),(eU dk),(aI dc)]),(1,aO 1 cI 0 C1),(2,aO 1 cI 0 C2),(3,aM 4 aj aa.d C3),(4,aO 4 aj aa.d C4),(5,aO 4 aj aa.d C5)] 6 (.os 6 0 r.length) [(0,vN 12 [(aI C0),(aI bw),(.os 1 0 C1.length),(.os 2 0 C2.length),(.os 3 0 C3.length),(.os 4 0 C4.length),(.os 5 0 C5.length),(aB cd),(eU de),(aB dj),(eU dk),(aI dc)]),(1,aO 1 cI 0 C1),(2,aO 1 cI 0 C2),(3,aM 4 aj aa.d C3),(4,aO 4 aj aa.d C4),(5,aO 4 aj aa.d C5),(6,aO 4 aj aa.d r)]:=by
 unfold mZ at h
 refine gU (fu:=Tryz.f36) (c:=SH 1) (nt:=34) (fun hm=>absurd hm (by decide)) ?_
 intro E hE
 refine ae hE 1 [] [] (kp [0,1]) (kq [0,1,2,3,4,5]) 22 pn ?_
 obtain ⟨c,h⟩:=ab h
 refine ae hE 1 [] [] (kp [0,1] ++ [(5,.kQ ((List.replicate ((C0).toNat) aa.d:List aa).length))]) (kq [0,1,2,3,4,5] ++ [(86,.PW 86 ((List.replicate ((C0).toNat) aa.d:List aa).length) (fun zi=>aj ((List.replicate ((C0).toNat) aa.d:List aa).getD zi aa.d)))]) 118 (pc o1 (pc (show 0≤C0 from c.1) (pc (show C0≤C0 from (Int.le_refl _)) (pc (show (64:Int) * C0≤281474976710656 from c.2.1) (pc (show C0≤9223372036854775807 from c.2.2) (pc (show (C0).toNat=(List.replicate ((C0).toNat) aa.d:List aa).length from (di).symm) (pc (show (List.replicate ((C0).toNat) aa.d:List aa).length≤(C0).toNat from (Nat.le_of_eq (Eq.symm ((di).symm)))) (pc (show ∀ zi,zi < (List.replicate ((C0).toNat) aa.d:List aa).length→Js ((fun _=>[(aB false),.nil,(aB false),.nil]) zi) ((fun zi=>aj ((List.replicate ((C0).toNat) aa.d:List aa).getD zi aa.d)) zi) from (fun zq iw=>oV aj aa.d aa.d ((C0).toNat) zq ⟨.inl rfl,.inr ⟨rfl,_,rfl⟩,.inl rfl,.inr ⟨rfl,_,rfl⟩,trivial⟩ iw)) pn)))))))) ?_
 refine ae hE 2 [] [] (kp [0,1,5,13,14]) (kq [0,1,2,3,4,5,86]) 166 pn ?_
 exact cV hE 2 [] (kp [0,1,5,13,14]) (kq [0,1,2,3,4,5] ++ [(6,.ag 86)]) 7 pn (vD N _ _ _ _ _ _ _ _ _ _ _ _ N _ _ _ h E hE)
noncomputable abbrev C_0:=bV Tryz.f17
theorem DW (N n l r) (h:pV N n l=some r):Sd 17 [(aI n),(aH wX af.d l)] [] 0 (.tup [(aH aj aa.d r.1),(aH aj aa.d r.2.1),(aI r.2.2)]) []:=by
 unfold pV at h
 refine gU (fu:=Tryz.f17) (c:=C_0 1) (nt:=27) (fun hm=>rfl) ?_
 intro E hE
 refine ae hE 1 [] [] (kp [0,1]) [] 48 pn ?_
 obtain ⟨wi,hr,h⟩:=aQ h
 refine ae hE 2 [(2,oT (aI wi))] [] (kp [0,1,7]) [] 112 (pc (CA _ _ _ _ hr) pn) ?_
 refine ae hE 1 [] [] (kp [0,1,7,13]) [] 144 pn ?_
 refine dm 0 13 h (fun dW h=>?_) (fun dW h=>?_)
 ·refine ae hE 1 [] [] (kp [4,5,6]) [] 208 pn ?_
  obtain rfl:=cJ h
  exact cP hE 0 Tryz.f17 [] ([(4,.sl (([]:List aa).length) (fun zi=>aj (([]:List aa).getD zi aa.d))),(5,.sl (([]:List aa).length) (fun zi=>aj (([]:List aa).getD zi aa.d)))] ++ kp [6]) [] 208 (pc (Eq.refl 0) (pc (Eq.refl 0) pn)) [] pn
 ·obtain ⟨fI,eJ,h⟩:=aQ h
  refine ae hE 2 [(2,⟨[],true,(.op 0 0 0),[(0,vN 12 [(aI fI.xk),(aI fI.xl),(.os 1 0 fI.kz.length),(.os 2 0 fI.nj.length),(.os 3 0 fI.Jt.length),(.os 4 0 fI.Ju.length),(.os 5 0 fI.eW.length),(aB fI.ak.fN.fG),(eU fI.ak.fN.fL),(aB fI.ak.fD.fG),(eU fI.ak.fD.fL),(aI fI.cu)]),(1,aO 1 cI 0 fI.kz),(2,aO 1 cI 0 fI.nj),(3,aM 4 aj aa.d fI.Jt),(4,aO 4 aj aa.d fI.Ju),(5,aO 4 aj aa.d fI.eW)],0,false,none⟩)] [] (kp [8]) (kq [176,177,178,179,180,181]) 208 (pc (IT _ _ _ _ eJ) pn) ?_
  obtain ⟨bU,jP,h⟩:=aQ h
  obtain ⟨c,h⟩:=ab h
  obtain ⟨c2,h⟩:=ab h
  obtain ⟨c3,h⟩:=ab h
  refine ae hE 2 [(1,⟨[176,177,178,179,180,181],false,(aB bU.1),[(0,vN 12 [(aI bU.2.1.xk),(aI bU.2.1.xl),(.os 1 0 bU.2.2.1.length),(.os 2 0 bU.2.2.2.1.length),(.os 3 0 bU.2.2.2.2.1.length),(.os 4 0 bU.2.2.2.2.2.length),(.os 6 0 bU.2.1.eW.length),(aB bU.2.1.ak.fN.fG),(eU bU.2.1.ak.fN.fL),(aB bU.2.1.ak.fD.fG),(eU bU.2.1.ak.fD.fL),(aI bU.2.1.cu)]),(1,aO 1 cI 0 bU.2.2.1),(2,aO 1 cI 0 bU.2.2.2.1),(3,aM 4 aj aa.d bU.2.2.2.2.1),(4,aO 4 aj aa.d bU.2.2.2.2.2),(6,aO 4 aj aa.d bU.2.1.eW)],0,false,none⟩)] [] (kp [8,20]) (kq [176,177,178,179,180,224]) 256 (pc (xu _ _ _ _ _ _ _ _ _ _ _ _ _ _ jP) pn) ?_
  refine dm 0 20 h (fun jh h=>?_) (fun jh h=>?_)
  ·obtain ⟨jd,mz,h⟩:=aQ h
   refine ae hE 1 [(1,⟨[176,177,178,179,180,224],true,(.os 6 0 jd.length),[(6,aO 4 aj aa.d jd)],0,false,none⟩)] [] (kp [4,5,6]) (kq [272]) 336 (pc (tk _ _ _ _ _ _ _ _ _ _ _ _ _ _ mz) (pc (iM bU.2.2.2.2.1) pn)) ?_
   obtain rfl:=cJ h
   exact cP hE 0 Tryz.f17 [272] ([(4,.sl (([]:List aa).length) (fun zi=>aj (([]:List aa).getD zi aa.d))),(5,.sl (jd.length) (fun zi=>aj (jd.getD zi aa.d)))] ++ kp [6]) [] 336 (pc (Eq.refl 0) (pc (Eq.refl jd.length) (pc (z1 jd.length) (pc (aZ jd.length (fun zi=>aj (jd.getD zi aa.d))) pn)))) [] pn
  ·obtain ⟨uu,qz,h⟩:=aQ h
   refine ae hE 2 [(3,⟨[176,177,178,179,180,224],true,(.os 6 0 uu.length),[(6,aO 4 aj aa.d uu)],0,false,none⟩)] [] (kp [4,5,6]) (kq [304]) 368 (pc (ym _ _ _ _ _ _ _ _ _ _ _ _ _ _ qz) (pc (iM bU.2.2.2.2.1) pn)) ?_
   obtain rfl:=cJ h
   exact cP hE 0 Tryz.f17 [304] ([(4,.sl (uu.length) (fun zi=>aj (uu.getD zi aa.d))),(5,.sl (([]:List aa).length) (fun zi=>aj (([]:List aa).getD zi aa.d)))] ++ kp [6]) [] 368 (pc (Eq.refl uu.length) (pc (z1 uu.length) (pc (aZ uu.length (fun zi=>aj (uu.getD zi aa.d))) (pc (Eq.refl 0) pn)))) [] pn
noncomputable abbrev ZM:=bV Tryz.f43
theorem lM (N x r) (h:fa N x=some r):Sd 43 [(.agg (ai.cells x))] [] 0 (aS r) []:=by
 unfold fa at h
 refine gU (fu:=Tryz.f43) (c:=ZM 1) (nt:=5) (fun hm=>rfl) ?_
 intro E hE
 refine ae hE 1 [] [] (kp [1]) (kq [0]) 32 pn ?_
 refine ae hE 1 [] [] (kp [2]) [] 80 (pc o1 pn) ?_
 obtain rfl:=cJ h
 exact cP hE 0 Tryz.f43 [] (kp [2]) [] 80 pn [] pn
noncomputable abbrev SI:=bV Tryz.f86
def Ar (N:Nat) (s:ByteArray) (K:Int→Option (Bool)):Prop:=∀ (x:Int) (r:Bool),K x=some r→∀ E,bq E 0→aD Tryz.prog E 86 57 (bd E [] (aB r)) [.code (SI 116),.inLoop (SI 116),.inBlock 0,.code (SI 15)] ⟨[(0,(aS s)),(15,(aI ((s.size:Nat):Int))),(16,(aI x))],[],0⟩
theorem zB (N s fuel):Ar N s (gF N s fuel):=by
 induction fuel with
 | zero=>intro _ r h;rw [gF.eq_1] at h;cases h
 | succ fuel ih =>
  intro x r h E hE
  rw [gF.eq_2] at h
  refine ae hE 1 [] [] (kp [0,15,16,17]) [] 16 pn ?_
  refine dm 1 17 h (fun jh h=>?_) (fun jh h=>?_)
  ·refine ae hE 4 [] [] (kp [0,3,15,16]) [] 48 pn ?_
   obtain ⟨c,h⟩:=ab h
   refine ae hE 1 [] [] (kp [0,3,4,15,16]) [] 112 (pc c pn) ?_
   refine ae hE 1 [] [] (kp [0,3,4,5,15,16]) [] 352 (pc (fun hg:(decide ((zA s x)≥97))=true=>(pc hg pn)) (pc (fun hq:(decide ((zA s x)≥97))=true=>(pc hq pn)) (pc (fun hg:(!(cond (decide ((zA s x)≥97)) (decide ((zA s x)≤122)) false))=true=>(pc hg pn)) (pc (fun hg:((!(cond (decide ((zA s x)≥97)) (decide ((zA s x)≤122)) false)) && ((!(cond (decide ((zA s x)≥97)) (decide ((zA s x)≤122)) false)) && (decide ((zA s x)≥65))))=true=>(pc hg pn)) (pc (fun hg:(!(cond (decide ((zA s x)≥97)) (decide ((zA s x)≤122)) false))=true=>(pc hg (pc hg (pc (fun hq:(decide ((zA s x)≥65))=true=>(pc (show ((!(cond (decide ((zA s x)≥97)) (decide ((zA s x)≤122)) false)) && ((!(cond (decide ((zA s x)≥97)) (decide ((zA s x)≤122)) false)) && (decide ((zA s x)≥65))))=true from (lU hg (lU hg hq))) pn)) pn)))) (pc (fun hq:(!(cond (decide ((zA s x)≥97)) (decide ((zA s x)≤122)) false))=true=>(pc hq pn)) pn)))))) ?_
   refine ae hE 1 [] [] (kp [0,3,5,6,15,16]) [] 528 (pc (fun hg:(decide ((zA s x)≥48))=true=>(pc hg pn)) (pc (fun hq:(decide ((zA s x)≥48))=true=>(pc hq pn)) (pc (fun hg:(!(cond (decide ((zA s x)≥48)) (decide ((zA s x)≤57)) false))=true=>(pc hg pn)) (pc (fun hq:(!(cond (decide ((zA s x)≥48)) (decide ((zA s x)≤57)) false))=true=>(pc hq pn)) pn)))) ?_
   refine ae hE 1 [] [] (kp [0,15,16,55]) [] 688 (pc (fun hg:(!(cond (cond (decide ((zA s x)≥97)) (decide ((zA s x)≤122)) false) true (cond (decide ((zA s x)≥65)) (decide ((zA s x)≤90)) false)))=true=>(pc hg pn)) (pc (fun hg:((!(cond (cond (decide ((zA s x)≥97)) (decide ((zA s x)≤122)) false) true (cond (decide ((zA s x)≥65)) (decide ((zA s x)≤90)) false))) && ((!(cond (cond (decide ((zA s x)≥97)) (decide ((zA s x)≤122)) false) true (cond (decide ((zA s x)≥65)) (decide ((zA s x)≤90)) false))) && (!(x == 0))))=true=>(pc hg pn)) (pc (fun hg:(!(cond (cond (decide ((zA s x)≥97)) (decide ((zA s x)≤122)) false) true (cond (decide ((zA s x)≥65)) (decide ((zA s x)≤90)) false)))=true=>(pc hg (pc hg (pc (fun hq:(!(x == 0))=true=>(pc (show ((!(cond (cond (decide ((zA s x)≥97)) (decide ((zA s x)≤122)) false) true (cond (decide ((zA s x)≥65)) (decide ((zA s x)≤90)) false))) && ((!(cond (cond (decide ((zA s x)≥97)) (decide ((zA s x)≤122)) false) true (cond (decide ((zA s x)≥65)) (decide ((zA s x)≤90)) false))) && (!(x == 0))))=true from (lU hg (lU hg hq))) pn)) pn)))) (pc (fun hq:(!(cond (cond (decide ((zA s x)≥97)) (decide ((zA s x)≤122)) false) true (cond (decide ((zA s x)≥65)) (decide ((zA s x)≤90)) false)))=true=>(pc hq pn)) pn)))) ?_
   refine dm 0 55 h (fun ta h=>?_) (fun ta h=>?_)
   ·refine ae hE 1 [] [] (kp [2]) [] 704 pn ?_
    obtain rfl:=cJ h
    exact cP hE 0 Tryz.f86 [] (kp [2]) [] 704 pn [] pn
   ·refine ae hE 2 [] [] (kp [0,15,16]) [] 720 pn ?_
    exact cV hE 1 [] (kp [0,15,16]) [] 0 pn (ih _ _ h E hE)
  ·refine ae hE 2 [] [] (kp [2]) [] 32 pn ?_
   obtain rfl:=cJ h
   exact cP hE 0 Tryz.f86 [] (kp [2]) [] 48 pn [] pn
theorem CK (N s r) (h:om N s=some r):Sd 86 [(aS s)] [] 0 (aB r) []:=by
 unfold om at h
 refine gU (fu:=Tryz.f86) (c:=SI 1) (nt:=57) (fun hm=>rfl) ?_
 intro E hE
 refine ae hE 1 [] [] (kp [0]) [] 16 pn ?_
 refine ae hE 2 [] [] (kp [0,13]) [] 128 (pc (fun hg:(!(lF s ByteArray.empty))=true=>(pc hg pn)) (pc (fun hg:(!(lF s ByteArray.empty))=true=>(pc hg pn)) (pc (fun hq:(!(lF s ByteArray.empty))=true=>(pc hq pn)) pn))) ?_
 refine dm 0 13 h (fun dW h=>?_) (fun dW h=>?_)
 ·refine ae hE 1 [] [] (kp [2]) [] 144 pn ?_
  obtain rfl:=cJ h
  exact cP hE 0 Tryz.f86 [] (kp [2]) [] 144 pn [] pn
 ·refine ae hE 3 [] [] (kp [0,15,16]) [] 176 pn ?_
  exact cV hE 2 [] (kp [0,15,16]) [] 0 pn (zB N _ N _ _ h E hE)
noncomputable abbrev ZN:=bV Tryz.f88
theorem vE (N y C1 r) (h:k9 N y C1=some r):Sd 88 [(.agg (ai.cells y)),(.op 0 0 0),(.op 1 0 0)] [(0,vO 1 [(.fn (.func 43) [] [])]),(1,vO 6 (ai.cells C1))] 2 (aB r) [(0,vO 1 [(.fn (.func 43) [] [])]),(1,vO 6 (ai.cells C1))]:=by
 unfold k9 at h
 refine gU (fu:=Tryz.f88) (c:=ZN 1) (nt:=12) (fun hm=>absurd hm (by decide)) ?_
 intro E hE
 refine ae hE 1 [] [] (kp [1,2,3]) (kq [0,1,2]) 34 pn ?_
 obtain ⟨l5,hr,h⟩:=aQ h
 obtain ⟨uv,eJ,h⟩:=aQ h
 refine ae hE 1 [(2,oT (aS l5)),(5,oT (aS uv))] [] (kp [4]) (kq [0,1]) 162 (pc o1 (pc o1 (pc (lM _ _ _ hr) (pc o1 (pc o1 (pc (lM _ _ _ eJ) pn)))))) ?_
 obtain rfl:=cJ h
 exact cP hE 0 Tryz.f88 [] (kp [4]) (kq [0,1]) 162 pn [] pn
noncomputable abbrev SJ:=bV Tryz.f113
def mB (N:Nat) (s:List ai) (C1:ai) (K:Int→Option (Int)):Prop:=∀ (x:Int) (r:Int),K x=some r→∀ E,bq E 2→aD Tryz.prog E 113 19 (bd E [(0,vO 1 [(.fn (.func 43) [] [])]),(1,vO 6 (ai.cells C1))] (aI r)) [.code (SJ 52),.inLoop (SJ 52),.inBlock 0,.code (SJ 7)] ⟨[(0,(aH ai.cells ai.d s)),(1,(.fn (.func 88) [] [(.op 0 0 0),(.op 1 0 0)])),(7,(aI ((s.length:Nat):Int))),(8,(aI x))],[(0,vO 1 [(.fn (.func 43) [] [])]),(1,vO 6 (ai.cells C1))],2⟩
theorem mf (N s C1 fuel):mB N s C1 (bg N s C1 fuel):=by
 induction fuel with
 | zero=>intro _ r h;rw [bg.eq_1] at h;cases h
 | succ fuel ih =>
  intro x r h E hE
  rw [bg.eq_2] at h
  refine ae hE 1 [] [] (kp [0,1,7,8,9]) (kq [0,1]) 18 pn ?_
  refine dm 1 9 h (fun dW h=>?_) (fun dW h=>?_)
  ·refine ae hE 4 [] [] (kp [0,1,5,7,8]) (kq [0,1]) 50 pn ?_
   obtain ⟨c,h⟩:=ab h
   obtain ⟨LF,hr,h⟩:=aQ h
   refine ae hE 1 [(5,⟨[0,1],true,(aB LF),[],0,false,none⟩)] [] (kp [0,1,5,7,8,16]) (kq [0,1]) 146 (pc c (pc (vE _ _ _ _ hr) pn)) ?_
   refine dm 0 16 h (fun jh h=>?_) (fun jh h=>?_)
   ·refine ae hE 1 [] [] (kp [4]) (kq [0,1]) 178 pn ?_
    obtain rfl:=cJ h
    exact cP hE 0 Tryz.f113 [] (kp [4]) (kq [0,1]) 178 pn [] pn
   ·refine ae hE 2 [] [] (kp [0,1,7,8]) (kq [0,1]) 178 pn ?_
    exact cV hE 1 [] (kp [0,1,7,8]) (kq [0,1]) 2 pn (ih _ _ h E hE)
  ·refine ae hE 2 [] [] (kp [4]) (kq [0,1]) 34 pn ?_
   obtain rfl:=cJ h
   exact cP hE 0 Tryz.f113 [] (kp [4]) (kq [0,1]) 50 pn [] pn
theorem na (N s C1 r) (h:cN N s C1=some r):Sd 113 [(aH ai.cells ai.d s),(.fn (.func 88) [] [(.op 0 0 0),(.op 1 0 0)])] [(0,vO 1 [(.fn (.func 43) [] [])]),(1,vO 6 (ai.cells C1))] 2 (aI r) [(0,vO 1 [(.fn (.func 43) [] [])]),(1,vO 6 (ai.cells C1))]:=by
 unfold cN at h
 refine gU (fu:=Tryz.f113) (c:=SJ 1) (nt:=19) (fun hm=>absurd hm (by decide)) ?_
 intro E hE
 refine ae hE 1 [] [] (kp [0,1]) (kq [0,1]) 18 pn ?_
 refine ae hE 2 [] [] (kp [0,1,7,8]) (kq [0,1]) 66 pn ?_
 exact cV hE 2 [] (kp [0,1,7,8]) (kq [0,1]) 2 pn (mf N _ _ N _ _ h E hE)
noncomputable abbrev ZO:=bV Tryz.f87
theorem mg (N s C1 r) (h:cy N s C1=some r):Sd 87 [(aH ai.cells ai.d s),(.fn (.func 88) [] [(.op 0 0 0),(.op 1 0 0)])] [(0,vO 1 [(.fn (.func 43) [] [])]),(1,vO 6 (ai.cells C1))] 2 (aB r) [(0,vO 1 [(.fn (.func 43) [] [])]),(1,vO 6 (ai.cells C1))]:=by
 unfold cy at h
 refine gU (fu:=Tryz.f87) (c:=ZO 1) (nt:=9) (fun hm=>absurd hm (by decide)) ?_
 intro E hE
 refine ae hE 1 [] [] (kp [0,1]) (kq [0,1]) 18 pn ?_
 obtain ⟨wY,hr,h⟩:=aQ h
 refine ae hE 1 [(2,⟨[0,1],true,(aI wY),[],0,false,none⟩)] [] (kp [4]) (kq [0,1]) 98 (pc (na _ _ _ _ hr) pn) ?_
 obtain rfl:=cJ h
 exact cP hE 0 Tryz.f87 [] (kp [4]) (kq [0,1]) 98 pn [] pn
noncomputable abbrev ZP:=bV Tryz.f46
theorem fe (N n lo hi r) (h:dQ N n lo hi=some r):Sd 46 [(aI n),(aI lo),(aI hi)] [] 0 (aB r) []:=by
 unfold dQ at h
 refine gU (fu:=Tryz.f46) (c:=ZP 1) (nt:=15) (fun hm=>rfl) ?_
 intro E hE
 refine ae hE 1 [] [] (kp [0,1,2]) [] 16 pn ?_
 refine ae hE 1 [] [] (kp [6]) [] 160 (pc (fun hg:(!(decide (n < lo)))=true=>(pc hg (pc hg pn))) (pc (fun hq:(!(decide (n < lo)))=true=>(pc hq pn)) pn)) ?_
 obtain rfl:=cJ h
 exact cP hE 0 Tryz.f46 [] (kp [6]) [] 160 pn [] pn
noncomputable abbrev ZQ:=bV Tryz.f44
theorem yn (N x r) (h:la N x=some r):Sd 44 [(.agg (ai.cells x))] [] 0 (aI r) []:=by
 unfold la at h
 refine gU (fu:=Tryz.f44) (c:=ZQ 1) (nt:=38) (fun hm=>rfl) ?_
 intro E hE
 refine ae hE 1 [] [] (kp [1]) (kq [0]) 32 pn ?_
 obtain ⟨dd,hr,h⟩:=aQ h
 obtain ⟨dU,eJ,h⟩:=aQ h
 obtain ⟨iS,jP,h⟩:=aQ h
 obtain ⟨qx,mz,h⟩:=aQ h
 obtain ⟨Cx,qz,h⟩:=aQ h
 refine ae hE 2 [(2,oT (aB dd)),(6,oT (aB dU)),(11,oT (aB iS)),(16,oT (aB qx)),(21,oT (aB Cx))] [] (kp [1,25]) (kq [0]) 400 (pc o1 (pc (fe _ _ _ _ _ hr) (pc (fun hg:(!dd)=true=>(pc hg (pc o1 pn))) (pc (fun hg:(!dd)=true=>(pc (fe _ _ _ _ _ (aF eJ hg)) (pc hg pn))) (pc (fun hq:(!dd)=true=>(pc hq pn)) (pc (fun hg:(!(cond dd true dU))=true=>(pc hg (pc o1 pn))) (pc (fun hg:(!(cond dd true dU))=true=>(pc (fe _ _ _ _ _ (aF jP hg)) (pc hg pn))) (pc (fun hq:(!(cond dd true dU))=true=>(pc hq pn)) (pc (fun hg:(!(cond (cond dd true dU) true iS))=true=>(pc hg (pc o1 pn))) (pc (fun hg:(!(cond (cond dd true dU) true iS))=true=>(pc (fe _ _ _ _ _ (aF mz hg)) (pc hg pn))) (pc (fun hq:(!(cond (cond dd true dU) true iS))=true=>(pc hq pn)) (pc (fun hg:(!(cond (cond (cond dd true dU) true iS) true qx))=true=>(pc hg (pc o1 pn))) (pc (fun hg:(!(cond (cond (cond dd true dU) true iS) true qx))=true=>(pc (fe _ _ _ _ _ (aF qz hg)) (pc hg pn))) (pc (fun hq:(!(cond (cond (cond dd true dU) true iS) true qx))=true=>(pc hq pn)) pn)))))))))))))) ?_
 refine dm 0 25 h (fun dW h=>?_) (fun dW h=>?_)
 ·refine ae hE 1 [] [] (kp [2]) [] 416 pn ?_
  obtain rfl:=cJ h
  exact cP hE 0 Tryz.f44 [] (kp [2]) [] 416 pn [] pn
 ·refine ae hE 3 [] [] (kp [37]) [] 592 (pc o1 (pc o1 (pc (fun hg:(x.iZ == x.b9)=true=>(pc hg (pc o1 pn))) (pc (fun hg:(x.iZ == x.b9)=true=>(pc hg (pc o1 pn))) (pc (fun hg:(x.iZ == x.b9)=true=>(pc hg (pc hg pn))) (pc (fun hq:(x.iZ == x.b9)=true=>(pc hq pn)) pn)))))) ?_
  refine dm 0 37 h (fun jh h=>?_) (fun jh h=>?_)
  ·refine ae hE 1 [] [] (kp [2]) [] 608 pn ?_
   obtain rfl:=cJ h
   exact cP hE 0 Tryz.f44 [] (kp [2]) [] 608 pn [] pn
  ·refine ae hE 2 [] [] (kp [2]) [] 608 pn ?_
   obtain rfl:=cJ h
   exact cP hE 0 Tryz.f44 [] (kp [2]) [] 608 pn [] pn
noncomputable abbrev SK:=bV Tryz.f42
def vF (N:Nat) (l:List ai) (K:Int→Option (Int)):Prop:=∀ (x:Int) (r:Int),K x=some r→∀ E,bq E 0→aD Tryz.prog E 42 40 (bd E [] (aI r)) [.code (SK 116),.inLoop (SK 116),.inBlock 0,.code (SK 15)] ⟨[(0,(aH ai.cells ai.d l)),(3,(.fn (.func 44) [] [])),(6,(.op 0 0 0)),(16,(aH ai.cells ai.d l)),(17,(aI ((l.length:Nat):Int))),(18,(aI x))],[(0,vO 1 [(.fn (.func 43) [] [])])],1⟩
theorem uG (N l fuel):vF N l (dg N l fuel):=by
 induction fuel with
 | zero=>intro _ r h;rw [dg.eq_1] at h;cases h
 | succ fuel ih =>
  intro x r h E hE
  rw [dg.eq_2] at h
  refine ae hE 1 [] [] (kp [0,3,6,16,17,18,19]) (kq [0]) 17 pn ?_
  refine dm 1 19 h (fun jh h=>?_) (fun jh h=>?_)
  ·obtain ⟨c,h⟩:=ab h
   refine ae hE 4 [] [] (kp [0,3,6,9,10,16,17,18]) (kq [0,65]) 113 (pc c (pc o1 pn)) ?_
   obtain ⟨l5,hr,h⟩:=aQ h
   obtain ⟨LG,eJ,h⟩:=aQ h
   refine ae hE 2 [(2,oT (aS l5)),(3,oT (aB LG))] [] (kp [0,3,6,9,10,16,17,18,27]) (kq [0,65]) 193 (pc o1 (pc o1 (pc (lM _ _ _ hr) (pc (CK _ _ _ eJ) pn)))) ?_
   refine dm 0 27 h (fun ta h=>?_) (fun ta h=>?_)
   ·refine ae hE 1 [] [] (kp [8]) [] 209 pn ?_
    obtain rfl:=cJ h
    exact cP hE 0 Tryz.f42 [] (kp [8]) [] 209 pn [] pn
   ·obtain ⟨c2,h⟩:=ab h
    obtain ⟨c3,h⟩:=ab h
    obtain ⟨wY,jP,h⟩:=aQ h
    refine ae hE 3 [(4,⟨[0,65],true,(aB wY),[],0,false,none⟩)] [] (kp [0,3,6,10,16,17,18,32]) (kq [0,65]) 273 (pc c2 (pc c3 (pc (show Sd 87 [(.sl ((x).toNat - 0) (fun zi=>ai.cells (l.getD (bA 0 zi) ai.d))),(.fn (.func 88) [] [(.op 0 0 0),(.op 1 0 0)])] [(0,vO 1 [(.fn (.func 43) [] [])]),(1,vO 6 (ai.cells (l.getD ((x).toNat) ai.d)))] 2 (aB wY) [(0,vO 1 [(.fn (.func 43) [] [])]),(1,vO 6 (ai.cells (l.getD ((x).toNat) ai.d)))] from (Sound.conv (mg _ _ _ _ jP) (.cons (Alike.sl (xY l 0 ((x).toNat) c2) (fun zq iw=>En ai.cells ai.d l 0 ((x).toNat) zq iw)) (.cons (Alike.refl _) .nil)))) pn))) ?_
    refine dm 0 32 h (fun CE h=>?_) (fun CE h=>?_)
    ·refine ae hE 1 [] [] (kp [8]) [] 289 pn ?_
     obtain rfl:=cJ h
     exact cP hE 0 Tryz.f42 [] (kp [8]) [] 289 pn [] pn
    ·obtain ⟨l6,mz,h⟩:=aQ h
     refine ae hE 2 [(2,oT (aI l6))] [] (kp [0,3,6,11,16,17,18]) (kq [0]) 337 (pc o1 (pc (yn _ _ _ mz) pn)) ?_
     refine ae hE 1 [] [] (kp [0,3,6,11,16,17,18,37]) (kq [0]) 369 pn ?_
     refine dm 0 37 h (fun IQ h=>?_) (fun IQ h=>?_)
     ·refine ae hE 1 [] [] (kp [8]) [] 401 pn ?_
      obtain rfl:=cJ h
      exact cP hE 0 Tryz.f42 [] (kp [8]) [] 401 pn [] pn
     ·refine ae hE 2 [] [] (kp [0,3,6,16,17,18]) (kq [0]) 401 pn ?_
      exact cV hE 1 [] (kp [0,3,6,16,17,18]) (kq [0]) 1 pn (ih _ _ h E hE)
  ·refine ae hE 2 [] [] (kp [8]) [] 33 pn ?_
   obtain rfl:=cJ h
   exact cP hE 0 Tryz.f42 [] (kp [8]) [] 48 pn [] pn
theorem xw (N l dh r) (h:l7 N l dh=some r):Sd 42 [(aH ai.cells ai.d l),(aI dh),(.fn (.func 43) [] []),(.fn (.func 44) [] [])] [] 0 (aI r) []:=by
 unfold l7 at h
 refine gU (fu:=Tryz.f42) (c:=SK 1) (nt:=40) (fun hm=>rfl) ?_
 intro E hE
 refine ae hE 1 [] [] (kp [0,1,3,6]) (kq [0]) 32 pn ?_
 refine ae hE 2 [] [] (kp [0,3,6,15]) (kq [0]) 96 pn ?_
 refine dm 0 15 h (fun dW h=>?_) (fun dW h=>?_)
 ·refine ae hE 1 [] [] (kp [8]) [] 112 pn ?_
  obtain rfl:=cJ h
  exact cP hE 0 Tryz.f42 [] (kp [8]) [] 112 pn [] pn
 ·refine ae hE 3 [] [] (kp [0,3,6,16,17,18]) (kq [0]) 144 pn ?_
  exact cV hE 2 [] (kp [0,3,6,16,17,18]) (kq [0]) 1 pn (uG N _ N _ _ h E hE)
noncomputable abbrev ZR:=bV Tryz.f20
theorem mU (N l r) (h:fb N l=some r):Sd 20 [(aH ai.cells ai.d l)] [] 0 (aI r) []:=by
 unfold fb at h
 refine gU (fu:=Tryz.f20) (c:=ZR 1) (nt:=5) (fun hm=>rfl) ?_
 intro E hE
 refine ae hE 1 [] [] (kp [0]) [] 16 pn ?_
 obtain ⟨wY,hr,h⟩:=aQ h
 refine ae hE 1 [(1,oT (aI wY))] [] (kp [2]) [] 64 (pc (xw _ _ _ _ hr) pn) ?_
 obtain rfl:=cJ h
 exact cP hE 0 Tryz.f20 [] (kp [2]) [] 64 pn [] pn
noncomputable abbrev LS:=bV Tryz.f41
def tV (N:Nat) (l:ai) (K:Int→Int→Option (Int)):Prop:=∀ (root:Int) (x:Int) (r:Int),K root x=some r→∀ E,bq E 0→aD Tryz.prog E 41 43 (bd E [] (aI r)) [.code (LS 500),.inLoop (LS 500),.inBlock 0,.code (LS 63)] ⟨[(5,(aI (ah ((ah ((ah (l.b9 - l.iZ)) * (ah (l.b9 - l.iZ))))+(ah ((ah (l.cC - l.jE)) * (ah (l.cC - l.jE)))))))),(6,(aI root)),(26,(aI x))],[],0⟩
def Bv (N:Nat) (l:ai) (x:Int) (K:Int→Option (Int)):Prop:=∀ (Ke:Int) (r:Int),K Ke=some r→∀ E,bq E 0→aD Tryz.prog E 41 43 (bd E [] (aI r)) [.code (LS 4007),.inLoop (LS 500),.inBlock 0,.code (LS 63)] ⟨[(5,(aI (ah ((ah ((ah (l.b9 - l.iZ)) * (ah (l.b9 - l.iZ))))+(ah ((ah (l.cC - l.jE)) * (ah (l.cC - l.jE)))))))),(6,(aI Ke)),(26,(aI x))],[],0⟩
theorem tl (N:Nat) (l:ai) (x:Int) (m5:Int→Int→Option (Int)) (As:tV N l m5):Bv N l x (mv N l x m5):=by
 intro Ke r h E hE
 unfold mv at h
 refine ae hE 0 [] [] (kp [5,6,26]) [] 32 pn ?_
 exact cV hE 1 [] (kp [5,6,26]) [] 0 pn (As _ _ _ h E hE)
theorem Au (N l fuel):tV N l (gl N l fuel):=by
 induction fuel with
 | zero=>intro _ _ r h;rw [gl.eq_1] at h;cases h
 | succ fuel ih =>
  intro root x r h E hE
  rw [gl.eq_2] at h
  refine ae hE 1 [] [] (kp [5,6,26,27]) [] 16 pn ?_
  refine dm 1 27 h (fun dW h=>?_) (fun dW h=>?_)
  ·refine ae hE 4 [] [] (kp [5,6,7,26]) [] 48 pn ?_
   obtain ⟨c,h⟩:=ab h
   refine ae hE 1 [] [] (kp [5,6,8,26]) [] 144 (pc c pn) ?_
   refine ae hE 1 [] [] (kp [5,6,8,26,38]) [] 224 pn ?_
   refine dm 0 38 h (fun jh h=>?_) (fun jh h=>?_)
   ·refine ae hE 0 [] [] (kp [5,6,26]) [] 256 pn ?_
    exact cV hE 1 [] (kp [5,6,26]) [] 0 pn (tl N _ _ _ ih _ _ h E hE)
   ·exact cV hE 2 [] (kp [5,6,26]) [] 0 pn (tl N _ _ _ ih _ _ h E hE)
  ·refine ae hE 2 [] [] (kp [2]) [] 64 pn ?_
   obtain rfl:=cJ h
   exact cP hE 0 Tryz.f41 [] (kp [2]) [] 64 pn [] pn
theorem xa (N l r) (h:nQ N l=some r):Sd 41 [(.agg (ai.cells l))] [] 0 (aI r) []:=by
 unfold nQ at h
 refine gU (fu:=Tryz.f41) (c:=LS 1) (nt:=43) (fun hm=>rfl) ?_
 intro E hE
 refine ae hE 1 [] [] (kp [1]) (kq [0]) 32 pn ?_
 refine ae hE 1 [] [] (kp [3,4]) [] 224 (pc o1 (pc o1 (pc o1 (pc o1 pn)))) ?_
 refine ae hE 1 [] [] (kp [5]) [] 352 pn ?_
 refine ae hE 1 [] [] (kp [5,6]) [] 368 pn ?_
 refine ae hE 2 [] [] (kp [5,6,26]) [] 384 pn ?_
 exact cV hE 2 [] (kp [5,6,26]) [] 0 pn (Au N _ N _ _ _ h E hE)
noncomputable abbrev ZS:=bV Tryz.f19
theorem DX (N l r) (h:pW N l=some r):Sd 19 [(.agg (ai.cells l))] [] 0 (.tup [(aI r.1),(aI r.2)]) []:=by
 unfold pW at h
 refine gU (fu:=Tryz.f19) (c:=ZS 1) (nt:=13) (fun hm=>rfl) ?_
 intro E hE
 refine ae hE 1 [] [] (kp [1]) (kq [0]) 48 pn ?_
 obtain ⟨cb,hr,h⟩:=aQ h
 refine ae hE 2 [(2,oT (aI cb))] [] (kp [1,4]) (kq [0]) 112 (pc o1 (pc (show Sd 20 [(.sl 1 (fun zi=>(fun zi=>([[(aS l.gq),(aI l.iZ),(aI l.jE),(aI l.b9),(aI l.cC),(aI l.n7)]]:List (List AV)).getD zi []) (bA 0 zi)))] [] 0 (aI cb) [] from (Sound.conv (mU _ _ _ hr) (.cons (Alike.sl rfl (fun zq iw=>cg ai.cells ai.d ([l]:List ai) zq iw)) .nil))) (pc (z1 1) pn))) ?_
 refine ae hE 1 [] [] (kp [1,4,9]) (kq [0]) 144 pn ?_
 refine dm 0 9 h (fun dW h=>?_) (fun dW h=>?_)
 ·refine ae hE 1 [] [] (kp [2,3]) [] 192 pn ?_
  obtain rfl:=cJ h
  exact cP hE 0 Tryz.f19 [] (kp [2,3]) [] 192 pn [] pn
 ·obtain ⟨Fx,eJ,h⟩:=aQ h
  refine ae hE 2 [(1,oT (aI Fx))] [] (kp [2,3]) [] 208 (pc o1 (pc (xa _ _ _ eJ) pn)) ?_
  obtain rfl:=cJ h
  exact cP hE 0 Tryz.f19 [] (kp [2,3]) [] 208 pn [] pn
noncomputable abbrev ZT:=bV Tryz.f6
theorem FV (N r) (h:qU N=some r):Sd 6 [] [] 0 (aB r) []:=by
 unfold qU at h
 refine gU (fu:=Tryz.f6) (c:=ZT 1) (nt:=14) (fun hm=>rfl) ?_
 intro E hE
 refine ae hE 1 [] [] [] [] 16 pn ?_
 obtain ⟨x8,hr,h⟩:=aQ h
 refine ae hE 1 [(1,oT (.tup [(aI x8.1),(aI x8.2)]))] [] (kp [1,2]) [] 128 (pc (DX _ _ _ hr) pn) ?_
 refine ae hE 1 [] [] (kp [0]) [] 240 (pc (fun hg:(x8.2 == 0)=true=>(pc hg pn)) (pc (fun hq:(x8.2 == 0)=true=>(pc hq pn)) pn)) ?_
 obtain rfl:=cJ h
 exact cP hE 0 Tryz.f6 [] (kp [0]) [] 240 pn [] pn
noncomputable abbrev SL:=bV Tryz.f7
def CL (N:Nat) (l:List ai) (K:Int→Option (Bool)):Prop:=∀ (i:Int) (r:Bool),K i=some r→∀ E,bq E 0→aD Tryz.prog E 7 20 (bd E [] (aB r)) [.code (SL 52),.inLoop (SL 52),.inBlock 0,.code (SL 7)] ⟨[(0,(aH ai.cells ai.d l)),(3,(aI i))],[],0⟩
theorem Bw (N l fuel):CL N l (jo N l fuel):=by
 induction fuel with
 | zero=>intro _ r h;rw [jo.eq_1] at h;cases h
 | succ fuel ih =>
  intro i r h E hE
  rw [jo.eq_2] at h
  refine ae hE 2 [] [] (kp [0,3,7]) [] 64 pn ?_
  refine dm 0 7 h (fun dW h=>?_) (fun dW h=>?_)
  ·obtain ⟨c,h⟩:=ab h
   refine ae hE 4 [] [] (kp [0,3,16]) [] 176 (pc c pn) ?_
   refine dm 0 16 h (fun jh h=>?_) (fun jh h=>?_)
   ·refine ae hE 1 [] [] (kp [2]) [] 192 pn ?_
    obtain rfl:=cJ h
    exact cP hE 0 Tryz.f7 [] (kp [2]) [] 192 pn [] pn
   ·refine ae hE 2 [] [] (kp [0,3]) [] 224 pn ?_
    exact cV hE 1 [] (kp [0,3]) [] 0 pn (ih _ _ h E hE)
  ·refine ae hE 2 [] [] (kp [2]) [] 128 pn ?_
   obtain rfl:=cJ h
   exact cP hE 0 Tryz.f7 [] (kp [2]) [] 128 pn [] pn
theorem FX (N l r) (h:qV N l=some r):Sd 7 [(aH ai.cells ai.d l)] [] 0 (aB r) []:=by
 unfold qV at h
 refine gU (fu:=Tryz.f7) (c:=SL 1) (nt:=20) (fun hm=>rfl) ?_
 intro E hE
 refine ae hE 1 [] [] (kp [0]) [] 16 pn ?_
 refine ae hE 2 [] [] (kp [0,3]) [] 32 pn ?_
 exact cV hE 2 [] (kp [0,3]) [] 0 pn (Bw N _ N _ _ h E hE)
noncomputable abbrev ZU:=bV Tryz.f45
theorem Bx (N MO r) (h:pX N MO=some r):Sd 45 [(aB MO)] [] 0 (aI r) []:=by
 unfold pX at h
 refine gU (fu:=Tryz.f45) (c:=ZU 1) (nt:=4) (fun hm=>rfl) ?_
 intro E hE
 refine ae hE 1 [] [] (kp [0]) [] 16 pn ?_
 refine ae hE 2 [] [] (kp [3]) [] 32 pn ?_
 refine dm 0 3 h (fun dW h=>?_) (fun dW h=>?_)
 ·refine ae hE 1 [] [] (kp [2]) [] 48 pn ?_
  obtain rfl:=cJ h
  exact cP hE 0 Tryz.f45 [] (kp [2]) [] 48 pn [] pn
 ·refine ae hE 2 [] [] (kp [2]) [] 48 pn ?_
  obtain rfl:=cJ h
  exact cP hE 0 Tryz.f45 [] (kp [2]) [] 48 pn [] pn
noncomputable abbrev ZV:=bV Tryz.f21
theorem rf (N w r) (h:hO N w=some r):Sd 21 [(.agg (dK.cells w))] [] 0 (aI r) []:=by
 unfold hO at h
 refine gU (fu:=Tryz.f21) (c:=ZV 1) (nt:=17) (fun hm=>rfl) ?_
 intro E hE
 refine ae hE 1 [] [] (kp [1]) (kq [0]) 32 pn ?_
 obtain ⟨dd,hr,h⟩:=aQ h
 obtain ⟨dU,eJ,h⟩:=aQ h
 obtain ⟨iS,jP,h⟩:=aQ h
 obtain ⟨II,mz,h⟩:=aQ h
 refine ae hE 1 [(2,oT (aB dd)),(6,oT (aB dU)),(11,oT (aB iS)),(13,oT (aI II))] [] (kp [2]) [] 272 (pc o1 (pc (fe _ _ _ _ _ hr) (pc (fun hg:(!dd)=true=>(pc hg (pc o1 pn))) (pc (fun hg:(!dd)=true=>(pc (fe _ _ _ _ _ (aF eJ hg)) (pc hg pn))) (pc (fun hq:(!dd)=true=>(pc hq pn)) (pc (fun hg:(!(cond dd true dU))=true=>(pc hg (pc o1 pn))) (pc (fun hg:(!(cond dd true dU))=true=>(pc (fe _ _ _ _ _ (aF jP hg)) (pc hg pn))) (pc (fun hq:(!(cond dd true dU))=true=>(pc hq pn)) (pc (Bx _ _ _ mz) pn))))))))) ?_
 obtain rfl:=cJ h
 exact cP hE 0 Tryz.f21 [] (kp [2]) [] 272 pn [] pn
noncomputable abbrev ZW:=bV Tryz.f48
theorem du (N n r) (h:dG N n=some r):Sd 48 [(aI n)] [] 0 (.agg (aj r)) []:=by
 unfold dG at h
 refine gU (fu:=Tryz.f48) (c:=ZW 1) (nt:=6) (fun hm=>rfl) ?_
 intro E hE
 refine ae hE 1 [] [] (kp [0,2]) (kq [0]) 16 pn ?_
 obtain ⟨GG,hr,h⟩:=aQ h
 obtain ⟨Ak,eJ,h⟩:=aQ h
 refine ae hE 1 [(1,oT (.agg (lk GG))),(2,oT (.agg (aj Ak)))] [] (kp [2]) (kq [0]) 80 (pc (za _ _ _ hr) (pc (Bs _ _ _ eJ) (pc o1 pn))) ?_
 obtain rfl:=cJ h
 exact cP hE 0 Tryz.f48 [] (kp [2]) [(16,.ag 0)] 80 pn [16] (pc o1 pn)
noncomputable abbrev ZX:=bV Tryz.f47
theorem qA (N w r) (h:mK N w=some r):Sd 47 [(.agg (dK.cells w))] [] 0 (.agg (ar.cells r)) []:=by
 unfold mK at h
 refine gU (fu:=Tryz.f47) (c:=ZX 1) (nt:=13) (fun hm=>rfl) ?_
 intro E hE
 refine ae hE 1 [] [] (kp [1,2]) (kq [0,16]) 32 pn ?_
 obtain ⟨eT,hr,h⟩:=aQ h
 obtain ⟨dB,eJ,h⟩:=aQ h
 obtain ⟨dC,jP,h⟩:=aQ h
 refine ae hE 1 [(2,oT (.agg (aj eT))),(5,oT (.agg (aj dB))),(8,oT (.agg (aj dC)))] [] (kp [2]) (kq [16]) 208 (pc o1 (pc (du _ _ _ hr) (pc o1 (pc (du _ _ _ eJ) (pc o1 (pc (du _ _ _ jP) (pc o1 pn))))))) ?_
 obtain rfl:=cJ h
 exact cP hE 0 Tryz.f47 [] (kp [2]) (kq [16]) 208 pn [16] (pc o1 pn)
noncomputable abbrev ZY:=bV Tryz.f91
theorem IW (N a b r) (h:y6 N a b=some r):Sd 91 [(aI a),(aI b)] [] 0 (.tup [(.agg (aj r.1)),(aI r.2)]) []:=by
 unfold y6 at h
 refine gU (fu:=Tryz.f91) (c:=ZY 1) (nt:=14) (fun hm=>rfl) ?_
 intro E hE
 refine ae hE 1 [] [] (kp [0,1,4]) (kq [0]) 32 pn ?_
 refine ae hE 2 [] [] (kp [0,1,4,7]) (kq [0]) 64 pn ?_
 refine dm 0 7 h (fun dW h=>?_) (fun dW h=>?_)
 ·refine ae hE 1 [] [] (kp [4,5]) (kq [0]) 112 (pc o1 pn) ?_
  obtain rfl:=cJ h
  exact cP hE 0 Tryz.f91 [] (kp [4,5]) [(16,.var 0 [.ag,.sl (([]:List Int).length) (fun zi=>(cU .u16) (([]:List Int).getD zi 0)),.ag,.sl (([]:List Int).length) (fun zi=>(cU .u16) (([]:List Int).getD zi 0))])] 112 (pc (Eq.refl 0) (pc (Eq.refl 0) pn)) [16] (pc o1 pn)
 ·obtain ⟨GG,hr,h⟩:=aQ h
  obtain ⟨LH,eJ,h⟩:=aQ h
  obtain ⟨B6,jP,h⟩:=aQ h
  refine ae hE 2 [(1,oT (.agg (lk GG))),(3,oT (.agg (lk LH))),(4,oT (.agg (aj B6)))] [] (kp [4,5]) (kq [0]) 176 (pc (za _ _ _ hr) (pc (za _ _ _ eJ) (pc (jD _ _ _ _ jP) (pc o1 pn)))) ?_
  obtain rfl:=cJ h
  exact cP hE 0 Tryz.f91 [] (kp [4,5]) [(16,.ag 0)] 176 pn [16] (pc o1 pn)
noncomputable abbrev Z0:=bV Tryz.f50
theorem mD (N l r) (h:ld N l=some r):Sd 50 [(.agg (ai.cells l))] [] 0 (.agg (ar.cells r)) []:=by
 unfold ld at h
 refine gU (fu:=Tryz.f50) (c:=Z0 1) (nt:=47) (fun hm=>rfl) ?_
 intro E hE
 refine ae hE 1 [] [] (kp [1,2]) (kq [0,16]) 32 pn ?_
 obtain ⟨Fx,hr,h⟩:=aQ h
 obtain ⟨Fy,eJ,h⟩:=aQ h
 refine ae hE 1 [(3,oT (aI Fx)),(4,oT (.tup [(.agg (aj Fy.1)),(aI Fy.2)]))] [] (kp [1,2,3]) (kq [0,16,160]) 208 (pc o1 (pc o1 (pc (xa _ _ _ hr) (pc (IW _ _ _ _ eJ) (pc o1 pn))))) ?_
 obtain ⟨eT,jP,h⟩:=aQ h
 obtain ⟨bL,mz,h⟩:=aQ h
 obtain ⟨dB,qz,h⟩:=aQ h
 obtain ⟨cw,vj,h⟩:=aQ h
 refine ae hE 1 [(6,oT (.agg (aj eT))),(7,oT (.agg (aj bL))),(14,oT (.agg (aj dB))),(15,oT (.agg (aj cw)))] [] (kp [1,2,5,6]) (kq [0,16,464,480]) 528 (pc o1 (pc o1 (pc o1 (pc (du _ _ _ jP) (pc (cT _ _ _ _ mz) (pc o1 (pc o1 (pc o1 (pc (du _ _ _ qz) (pc (cT _ _ _ _ vj) (pc o1 (pc o1 pn)))))))))))) ?_
 obtain ⟨dC,wv,h⟩:=aQ h
 obtain ⟨dT,DI,h⟩:=aQ h
 obtain ⟨IJ,DH,h⟩:=aQ h
 obtain ⟨sX,wu,h⟩:=aQ h
 obtain ⟨av,yj,h⟩:=aQ h
 refine ae hE 1 [(2,oT (.agg (aj dC))),(4,oT (.agg (aj dT))),(7,oT (.agg (aj IJ))),(9,oT (.agg (aj sX))),(10,oT (.agg (aj av)))] [] (kp [2,5,6,7]) (kq [16,464,480,704]) 736 (pc o1 (pc (du _ _ _ wv) (pc o1 (pc (cT _ _ _ _ DI) (pc o1 (pc (du _ _ _ DH) (pc o1 (pc (cT _ _ _ _ wu) (pc (fk _ _ _ _ yj) (pc o1 pn)))))))))) ?_
 refine ae hE 1 [] [] (kp [2]) (kq [16]) 816 (pc o1 (pc o1 (pc o1 (pc o1 pn)))) ?_
 obtain rfl:=cJ h
 exact cP hE 0 Tryz.f50 [] (kp [2]) (kq [16]) 816 pn [16] (pc o1 pn)
noncomputable abbrev fo:=bV Tryz.f22
def Bz (N:Nat) (l:List ai) (ao:ar) (K:(List af)→Int→Option (aP)):Prop:=∀ (rows:List af) (x:Int) (r:aP),K rows x=some r→∀ E,bq E 0→aD Tryz.prog E 22 137 (bd E [] (.agg (aP.cells r))) [.code (fo 500),.inLoop (fo 500),.inBlock 0,.code (fo 63)] ⟨[(0,(aH ai.cells ai.d l)),(4,(.op 0 0 0)),(5,(aI ((l.length:Nat):Int))),(6,(.op 1 0 0)),(7,(.os 2 0 rows.length)),(26,(aI ((l.length:Nat):Int))),(27,(aI x))],[(0,vO 3 [(aB false),.nil,.nil]),(1,vO 12 (ar.cells ao)),(2,aO 5 wX af.d rows)],3⟩
def BA (N:Nat) (l:List ai) (ao:ar) (rows:List af) (av:aa) (K:(List aa)→(List aa)→Int→Option (aP)):Prop:=∀ (dh:List aa) (least:List aa) (x2:Int) (r:aP),K dh least x2=some r→∀ E,bq E 0→aD Tryz.prog E 22 137 (bd E [] (.agg (aP.cells r))) [.code (fo 1037108),.inLoop (fo 1037108),.inBlock 4,.code (fo 129639),.inBlock 3,.code (fo 8103),.inLoop (fo 1012),.inBlock 2,.code (fo 127)] ⟨[(0,(aH ai.cells ai.d l)),(4,(.op 0 0 0)),(5,(aI ((l.length:Nat):Int))),(6,(.op 1 0 0)),(7,(.os 2 0 rows.length)),(11,(aI 0)),(12,(.op 3 0 0)),(13,(.op 5 0 0)),(53,(aI 0)),(66,(aH ai.cells ai.d l)),(67,(aI ((l.length:Nat):Int))),(68,(aI x2))],[(0,vO 3 [(aB false),.nil,.nil]),(1,vO 12 (ar.cells ao)),(2,aO 5 wX af.d rows),(3,vN 5 [(.os 4 0 dh.length),(aB av.fN.fG),(eU av.fN.fL),(aB av.fD.fG),(eU av.fD.fL)]),(4,aO 4 aj aa.d dh),(5,vN 5 [(.os 6 0 least.length),(aB ao.e0.fN.fG),(eU ao.e0.fN.fL),(aB ao.e0.fD.fG),(eU ao.e0.fD.fL)]),(6,aO 4 aj aa.d least)],7⟩
def BB (N:Nat) (l:List ai) (ao:ar) (rows:List af) (av:aa) (dh:List aa) (least:List aa) (aX:aa) (K:(List aa)→(List aa)→Int→Option (aP)):Prop:=∀ (cR:List aa) (bB:List aa) (x3:Int) (r:aP),K cR bB x3=some r→∀ E,bq E 0→aD Tryz.prog E 22 137 (bd E [] (.agg (aP.cells r))) [.code (fo 1037108),.inLoop (fo 1037108),.inBlock 4,.code (fo 129639),.inBlock 3,.code (fo 8103),.inLoop (fo 1012),.inBlock 2,.code (fo 127)] ⟨[(0,(aH ai.cells ai.d l)),(4,(.op 0 0 0)),(5,(aI ((l.length:Nat):Int))),(6,(.op 1 0 0)),(7,(.os 2 0 ((rows ++ ([(⟨dh,av⟩:af),(⟨least,ao.e0⟩:af)]:List af)).length))),(11,(aI 1)),(12,(.op 3 0 0)),(13,(.op 5 0 0)),(53,(aI 1)),(66,(aH ai.cells ai.d l)),(67,(aI ((l.length:Nat):Int))),(68,(aI x3))],[(0,vO 3 [(aB false),.nil,.nil]),(1,vO 12 (ar.cells ao)),(2,aO 5 wX af.d (rows ++ ([(⟨dh,av⟩:af),(⟨least,ao.e0⟩:af)]:List af))),(3,vN 5 [(.os 4 0 cR.length),(aB aX.fN.fG),(eU aX.fN.fL),(aB aX.fD.fG),(eU aX.fD.fL)]),(4,aO 4 aj aa.d cR),(5,vN 5 [(.os 6 0 bB.length),(aB ao.e1.fN.fG),(eU ao.e1.fN.fL),(aB ao.e1.fD.fG),(eU ao.e1.fD.fL)]),(6,aO 4 aj aa.d bB)],7⟩
def BC (N:Nat) (l:List ai) (ao:ar) (rows:List af) (av:aa) (dh:List aa) (least:List aa) (aX:aa) (cR:List aa) (bB:List aa) (cO:aa) (K:(List aa)→(List aa)→Int→Option (aP)):Prop:=∀ (gG:List aa) (dV:List aa) (x4:Int) (r:aP),K gG dV x4=some r→∀ E,bq E 0→aD Tryz.prog E 22 137 (bd E [] (.agg (aP.cells r))) [.code (fo 1037108),.inLoop (fo 1037108),.inBlock 4,.code (fo 129639),.inBlock 3,.code (fo 8103),.inLoop (fo 1012),.inBlock 2,.code (fo 127)] ⟨[(0,(aH ai.cells ai.d l)),(4,(.op 0 0 0)),(5,(aI ((l.length:Nat):Int))),(6,(.op 1 0 0)),(7,(.os 2 0 (((rows ++ ([(⟨dh,av⟩:af),(⟨least,ao.e0⟩:af)]:List af)) ++ ([(⟨cR,aX⟩:af),(⟨bB,ao.e1⟩:af)]:List af)).length))),(11,(aI 2)),(12,(.op 3 0 0)),(13,(.op 5 0 0)),(53,(aI 2)),(66,(aH ai.cells ai.d l)),(67,(aI ((l.length:Nat):Int))),(68,(aI x4))],[(0,vO 3 [(aB false),.nil,.nil]),(1,vO 12 (ar.cells ao)),(2,aO 5 wX af.d ((rows ++ ([(⟨dh,av⟩:af),(⟨least,ao.e0⟩:af)]:List af)) ++ ([(⟨cR,aX⟩:af),(⟨bB,ao.e1⟩:af)]:List af))),(3,vN 5 [(.os 4 0 gG.length),(aB cO.fN.fG),(eU cO.fN.fL),(aB cO.fD.fG),(eU cO.fD.fL)]),(4,aO 4 aj aa.d gG),(5,vN 5 [(.os 6 0 dV.length),(aB ao.e2.fN.fG),(eU ao.e2.fN.fL),(aB ao.e2.fD.fG),(eU ao.e2.fD.fL)]),(6,aO 4 aj aa.d dV)],7⟩
theorem Av (N l ao rows av dh least aX cR bB cO fuel):BC N l ao rows av dh least aX cR bB cO (dr N l ao rows av dh least aX cR bB cO fuel):=by
 induction fuel with
 | zero=>intro _ _ _ r h;rw [dr.eq_1] at h;cases h
 | succ fuel ih =>
  intro gG dV x4 r h E hE
  rw [dr.eq_2] at h
  refine ae hE 1 [] [] (kp [0,4,5,6,7,11,12,13,53,66,67,68,69]) (kq [0,1,2,3,4,5,6]) 23 pn ?_
  refine dm 1 69 h (fun CE h=>?_) (fun CE h=>?_)
  ·obtain ⟨NZ,h⟩:=ab h
   refine ae hE 4 [] [] (kp [0,4,5,6,7,11,12,13,15,53,66,67,68]) (kq [0,1,2,3,4,5,6,55]) 87 (pc NZ (pc o1 pn)) ?_
   obtain ⟨kF,FT,h⟩:=aQ h
   refine ae hE 1 [(1,oT (.agg (ar.cells kF)))] [] (kp [0,4,5,6,7,11,12,13,16,53,66,67,68]) (kq [0,1,2,3,4,5,6,151]) 183 (pc o1 (pc (mD _ _ _ FT) (pc (show 0≤(2:Int)∧(2:Int) < ((3:Nat):Int) by decide) (pc o1 pn)))) ?_
   obtain ⟨Kh,h⟩:=ab h
   obtain ⟨fU,FU,h⟩:=aQ h
   obtain ⟨MP,h⟩:=ab h
   refine ae hE 0 [(9,oT (.agg (aj fU)))] [] (kp [0,4,5,6,7,11,12,13,53,66,67,68]) (kq [0,1,2] ++ [(3,.var 3 [.kQ ((gG ++ ([kF.e2]:List aa)).length),.ag,.ag,.ag,.ag]),(5,.var 5 [.kQ ((dV ++ ([fU]:List aa)).length),.ag,.ag,.ag,.ag]),(247,.arr 247 ((gG ++ ([kF.e2]:List aa)).length) (fun zi=>aj ((gG ++ ([kF.e2]:List aa)).getD zi aa.d))),(359,.arr 359 ((dV ++ ([fU]:List aa)).length) (fun zi=>aj ((dV ++ ([fU]:List aa)).getD zi aa.d)))]) 439 (pc o1 (pc o1 (pc (Eq.refl gG.length) (pc Kh (pc (z1 1) (pc (show ∀ zi,zi < 1→AV.iP ((fun zi=>([[(aB kF.e2.fN.fG),(eU kF.e2.fN.fL),(aB kF.e2.fD.fG),(eU kF.e2.fD.fL)]]:List (List AV)).getD zi []) (bA 0 zi))=true from (qO rfl)) (pc o1 (pc o1 (pc (show Sd 49 [(.agg [(aB false),.nil,(aB false),.nil]),(.agg (aj kF.e2))] [] 0 (.agg (aj fU)) [] from (Sound.conv (fk _ _ _ _ FU) (.cons (Alike.agg (.cons (Alike.refl _) (.cons Alike.nil (.cons (Alike.refl _) (.cons Alike.nil .nil))))) (.cons (Alike.refl _) .nil)))) (pc (Eq.refl dV.length) (pc MP (pc (z1 1) (pc (show ∀ zi,zi < 1→AV.iP ((fun zi=>([[(aB fU.fN.fG),(eU fU.fN.fL),(aB fU.fD.fG),(eU fU.fD.fL)]]:List (List AV)).getD zi []) (bA 0 zi))=true from (qO rfl)) (pc o1 (pc o1 (pc (show (gG.length+1)=(gG ++ ([kF.e2]:List aa)).length from (ax rfl rfl)) (pc (show (dV.length+1)=(dV ++ ([fU]:List aa)).length from (ax rfl rfl)) (pc (show gG.length+1=(gG ++ ([kF.e2]:List aa)).length from (ax rfl rfl)) (pc (show ∀ zi,zi < (gG ++ ([kF.e2]:List aa)).length→(fun zi=>aj ((gG ++ ([kF.e2]:List aa)).getD zi aa.d)) zi=((fun zm=>if zm < gG.length then (fun zi=>aj (gG.getD zi aa.d)) zm else (fun zi=>([[(aB kF.e2.fN.fG),(eU kF.e2.fN.fL),(aB kF.e2.fD.fG),(eU kF.e2.fD.fL)]]:List (List AV)).getD zi []) (zm - gG.length))) zi from (bP aj aa.d gG ([kF.e2]:List aa) rfl (fun _ _=>rfl) (fun zq iw=>cg aj aa.d ([kF.e2]:List aa) zq iw))) (pc (show dV.length+1=(dV ++ ([fU]:List aa)).length from (ax rfl rfl)) (pc (show ∀ zi,zi < (dV ++ ([fU]:List aa)).length→(fun zi=>aj ((dV ++ ([fU]:List aa)).getD zi aa.d)) zi=((fun zm=>if zm < dV.length then (fun zi=>aj (dV.getD zi aa.d)) zm else (fun zi=>([[(aB fU.fN.fG),(eU fU.fN.fL),(aB fU.fD.fG),(eU fU.fD.fL)]]:List (List AV)).getD zi []) (zm - dV.length))) zi from (bP aj aa.d dV ([fU]:List aa) rfl (fun _ _=>rfl) (fun zq iw=>cg aj aa.d ([fU]:List aa) zq iw))) pn))))))))))))))))))))) ?_
   refine ae hE 1 [] [] (kp [0,4,5,6,7,11,12,13,53,66,67,68]) (kq [0,1,2,3,5,247,359]) 471 pn ?_
   exact cV hE 1 [] (kp [0,4,5,6,7,11,12,13,53,66,67,68]) (kq [0,1,2,3] ++ [(4,.ag 247)] ++ kq [5] ++ [(6,.ag 359)]) 7 pn (ih _ _ _ _ h E hE)
  ·obtain ⟨T8,h⟩:=ab h
   refine ae hE 1 [(3,⟨[],true,.m9,[(4,aO 4 aj aa.d gG),(6,aO 4 aj aa.d dV)],0,true,none⟩)] [] (kp [0,4,5,6] ++ [(7,.kQ ((((rows ++ ([(⟨dh,av⟩:af),(⟨least,ao.e0⟩:af)]:List af)) ++ ([(⟨cR,aX⟩:af),(⟨bB,ao.e1⟩:af)]:List af)) ++ ([(⟨gG,cO⟩:af),(⟨dV,ao.e2⟩:af)]:List af)).length))] ++ kp [53]) (kq [0,1] ++ [(87,.arr 87 ((((rows ++ ([(⟨dh,av⟩:af),(⟨least,ao.e0⟩:af)]:List af)) ++ ([(⟨cR,aX⟩:af),(⟨bB,ao.e1⟩:af)]:List af)) ++ ([(⟨gG,cO⟩:af),(⟨dV,ao.e2⟩:af)]:List af)).length) (fun zi=>wX ((((rows ++ ([(⟨dh,av⟩:af),(⟨least,ao.e0⟩:af)]:List af)) ++ ([(⟨cR,aX⟩:af),(⟨bB,ao.e1⟩:af)]:List af)) ++ ([(⟨gG,cO⟩:af),(⟨dV,ao.e2⟩:af)]:List af)).getD zi af.d)))]) 119 (pc o1 (pc o1 (pc (show gG.length≤gG.length from (aG _)) (pc (show ∀ zi,zi < gG.length→(fun zi=>aj (gG.getD zi aa.d)) zi=(fun zi=>aj (gG.getD zi aa.d)) zi from (fun _ _=>rfl)) (pc (show dV.length≤dV.length from (aG _)) (pc (show ∀ zi,zi < dV.length→(fun zi=>aj (dV.getD zi aa.d)) zi=(fun zi=>aj (dV.getD zi aa.d)) zi from (fun _ _=>rfl)) (pc (Eq.refl gG.length) (pc (Eq.refl dV.length) (pc (Eq.refl (((rows ++ ([(⟨dh,av⟩:af),(⟨least,ao.e0⟩:af)]:List af)) ++ ([(⟨cR,aX⟩:af),(⟨bB,ao.e1⟩:af)]:List af)).length)) (pc T8 (pc (z1 2) (pc (show ∀ zi,zi < 2→AV.iP ((fun zi=>([[(aH aj aa.d gG),(aB cO.fN.fG),(eU cO.fN.fL),(aB cO.fD.fG),(eU cO.fD.fL)],[(aH aj aa.d dV),(aB ao.e2.fN.fG),(eU ao.e2.fN.fL),(aB ao.e2.fD.fG),(eU ao.e2.fD.fL)]]:List (List AV)).getD zi []) (bA 0 zi))=true from (qO rfl)) (pc (show (((rows ++ ([(⟨dh,av⟩:af),(⟨least,ao.e0⟩:af)]:List af)) ++ ([(⟨cR,aX⟩:af),(⟨bB,ao.e1⟩:af)]:List af)).length+2)=(((rows ++ ([(⟨dh,av⟩:af),(⟨least,ao.e0⟩:af)]:List af)) ++ ([(⟨cR,aX⟩:af),(⟨bB,ao.e1⟩:af)]:List af)) ++ ([(⟨gG,cO⟩:af),(⟨dV,ao.e2⟩:af)]:List af)).length from (ax rfl rfl)) (pc (show ((rows ++ ([(⟨dh,av⟩:af),(⟨least,ao.e0⟩:af)]:List af)) ++ ([(⟨cR,aX⟩:af),(⟨bB,ao.e1⟩:af)]:List af)).length+2=(((rows ++ ([(⟨dh,av⟩:af),(⟨least,ao.e0⟩:af)]:List af)) ++ ([(⟨cR,aX⟩:af),(⟨bB,ao.e1⟩:af)]:List af)) ++ ([(⟨gG,cO⟩:af),(⟨dV,ao.e2⟩:af)]:List af)).length from (ax rfl rfl)) (pc (show ∀ zi,zi < (((rows ++ ([(⟨dh,av⟩:af),(⟨least,ao.e0⟩:af)]:List af)) ++ ([(⟨cR,aX⟩:af),(⟨bB,ao.e1⟩:af)]:List af)) ++ ([(⟨gG,cO⟩:af),(⟨dV,ao.e2⟩:af)]:List af)).length→(fun zi=>wX ((((rows ++ ([(⟨dh,av⟩:af),(⟨least,ao.e0⟩:af)]:List af)) ++ ([(⟨cR,aX⟩:af),(⟨bB,ao.e1⟩:af)]:List af)) ++ ([(⟨gG,cO⟩:af),(⟨dV,ao.e2⟩:af)]:List af)).getD zi af.d)) zi=((fun zm=>if zm < ((rows ++ ([(⟨dh,av⟩:af),(⟨least,ao.e0⟩:af)]:List af)) ++ ([(⟨cR,aX⟩:af),(⟨bB,ao.e1⟩:af)]:List af)).length then (fun zi=>wX (((rows ++ ([(⟨dh,av⟩:af),(⟨least,ao.e0⟩:af)]:List af)) ++ ([(⟨cR,aX⟩:af),(⟨bB,ao.e1⟩:af)]:List af)).getD zi af.d)) zm else (fun zi=>([[(aH aj aa.d gG),(aB cO.fN.fG),(eU cO.fN.fL),(aB cO.fD.fG),(eU cO.fD.fL)],[(aH aj aa.d dV),(aB ao.e2.fN.fG),(eU ao.e2.fN.fL),(aB ao.e2.fD.fG),(eU ao.e2.fD.fL)]]:List (List AV)).getD zi []) (zm - ((rows ++ ([(⟨dh,av⟩:af),(⟨least,ao.e0⟩:af)]:List af)) ++ ([(⟨cR,aX⟩:af),(⟨bB,ao.e1⟩:af)]:List af)).length))) zi from (bP wX af.d ((rows ++ ([(⟨dh,av⟩:af),(⟨least,ao.e0⟩:af)]:List af)) ++ ([(⟨cR,aX⟩:af),(⟨bB,ao.e1⟩:af)]:List af)) ([(⟨gG,cO⟩:af),(⟨dV,ao.e2⟩:af)]:List af) rfl (fun _ _=>rfl) (fun zq iw=>cg wX af.d ([(⟨gG,cO⟩:af),(⟨dV,ao.e2⟩:af)]:List af) zq iw))) pn))))))))))))))) ?_
   refine ae hE 1 [] [] (kp [0,4,5,6,7,53]) (kq [0,1,87]) 151 pn ?_
   refine ae hE 2 [] [] (kp [0,4,5,6,7,53,54]) (kq [0,1,87]) 167 pn ?_
   refine sA 1 [.code (fo 4050),.code (fo 4051),.inLoop (fo 1012),.inBlock 2,.code (fo 127)] ?_
   refine sC 54 (fo 8100) (fo 8101) false (fun hq=>absurd hq (by decide)) (fun _=>?_) 
   obtain ⟨dI,IV,h⟩:=aQ h
   refine ae hE 2 [(2,⟨[],true,(.tup [(aH aj aa.d dI.1),(aH aj aa.d dI.2.1),(aI dI.2.2)]),[],0,true,none⟩)] [] (kp [4,5,17,18,19]) (kq [0]) 327 (pc (DW _ _ _ _ IV) (pc (z1 ((((rows ++ ([(⟨dh,av⟩:af),(⟨least,ao.e0⟩:af)]:List af)) ++ ([(⟨cR,aX⟩:af),(⟨bB,ao.e1⟩:af)]:List af)) ++ ([(⟨gG,cO⟩:af),(⟨dV,ao.e2⟩:af)]:List af)).length)) pn)) ?_
   refine ae hE 2 [] [] (kp [4,5,17,18,105]) (kq [0]) 359 pn ?_
   refine dm 0 105 h (fun IQ h=>?_) (fun IQ h=>?_)
   ·refine ae hE 1 [] [] (kp [4]) (kq [0]) 407 (pc o1 pn) ?_
    obtain rfl:=cJ h
    exact cP hE 0 Tryz.f22 [] (kp [4]) [(16,.var 0 [.ag,.ag,.sl (([]:List aa).length) (fun zi=>aj (([]:List aa).getD zi aa.d))])] 407 (pc (Eq.refl 0) pn) [16] (pc o1 pn)
   ·refine ae hE 2 [] [] (kp [4,5,18,20]) (kq [0,375]) 407 (pc o1 pn) ?_
    refine ae hE 2 [] [] (kp [4,5,18,20,109]) (kq [0,375]) 423 pn ?_
    refine ae hE 3 [] [] (kp [4,5,18,20,109,110]) (kq [0,375]) 439 pn ?_
    refine sA 1 [.code (fo 65490),.code (fo 65491),.inLoop (fo 16372),.inBlock 6,.code (fo 2047)] ?_
    refine sC 110 (fo 130980) (fo 130981) true (fun _=>?_) (fun hq=>absurd hq (by decide)) 
    refine ae hE 4 [] [] (kp [4,5,18,20,21,109]) (kq [0,375]) 471 pn ?_
    obtain ⟨SC,h⟩:=ab h
    obtain ⟨N3,h⟩:=ab h
    obtain ⟨bm,Vj,h⟩:=aQ h
    refine ae hE 0 [(19,oT (.agg (aj bm)))] [] (kp [4,5,18,20,109]) (kq [0] ++ [(375,.var 375 [.ag,.ag,.kQ (([bm]:List aa).length)]),(807,.arr 807 (([bm]:List aa).length) (fun zi=>aj (([bm]:List aa).getD zi aa.d)))]) 855 (pc o1 (pc SC (pc N3 (pc (fk _ _ _ _ Vj) (pc (show 1 * 64≤140737488355328 by decide) (pc (z1 1) (pc (show ∀ zi,zi < 1→AV.iP ((fun zi=>([[(aB bm.fN.fG),(eU bm.fN.fL),(aB bm.fD.fG),(eU bm.fD.fL)]]:List (List AV)).getD zi []) (bA 0 zi))=true from (qO rfl)) (pc o1 (pc (Eq.refl 1) (pc (Eq.refl 1) (pc (show ∀ zi,zi < ([bm]:List aa).length→(fun zi=>aj (([bm]:List aa).getD zi aa.d)) zi=(fun zi=>([[(aB bm.fN.fG),(eU bm.fN.fL),(aB bm.fD.fG),(eU bm.fD.fL)]]:List (List AV)).getD zi []) zi from (fun zq iw=>cg aj aa.d ([bm]:List aa) zq iw)) pn))))))))))) ?_
    refine ae hE 1 [] [] (kp [4,5,18,20,109]) (kq [0,375,807]) 887 pn ?_
    refine ae hE 2 [] [] (kp [4,5,18,20,109,110]) (kq [0,375,807]) 903 pn ?_
    refine sA 1 [.code (fo 65490),.code (fo 65491),.inLoop (fo 16372),.inBlock 6,.code (fo 2047)] ?_
    refine sC 110 (fo 130980) (fo 130981) true (fun _=>?_) (fun hq=>absurd hq (by decide)) 
    refine ae hE 4 [] [] (kp [4,5,18,20,21,109]) (kq [0,375,807]) 935 pn ?_
    obtain ⟨Vh,h⟩:=ab h
    obtain ⟨WX,h⟩:=ab h
    obtain ⟨bS,Vk,h⟩:=aQ h
    obtain ⟨Vi,h⟩:=ab h
    refine ae hE 0 [(19,oT (.agg (aj bS)))] [] (kp [4,5,18,20,109]) (kq [0] ++ [(375,.var 375 [.ag,.ag,.kQ ((([bm]:List aa) ++ ([bS]:List aa)).length)]),(1271,.arr 1271 ((([bm]:List aa) ++ ([bS]:List aa)).length) (fun zi=>aj ((([bm]:List aa) ++ ([bS]:List aa)).getD zi aa.d)))]) 1319 (pc o1 (pc Vh (pc WX (pc (fk _ _ _ _ Vk) (pc (Eq.refl (([bm]:List aa).length)) (pc Vi (pc (z1 1) (pc (show ∀ zi,zi < 1→AV.iP ((fun zi=>([[(aB bS.fN.fG),(eU bS.fN.fL),(aB bS.fD.fG),(eU bS.fD.fL)]]:List (List AV)).getD zi []) (bA 0 zi))=true from (qO rfl)) (pc o1 (pc (show (([bm]:List aa).length+1)=(([bm]:List aa) ++ ([bS]:List aa)).length from (ax rfl rfl)) (pc (show ([bm]:List aa).length+1=(([bm]:List aa) ++ ([bS]:List aa)).length from (ax rfl rfl)) (pc (show ∀ zi,zi < (([bm]:List aa) ++ ([bS]:List aa)).length→(fun zi=>aj ((([bm]:List aa) ++ ([bS]:List aa)).getD zi aa.d)) zi=((fun zm=>if zm < ([bm]:List aa).length then (fun zi=>aj (([bm]:List aa).getD zi aa.d)) zm else (fun zi=>([[(aB bS.fN.fG),(eU bS.fN.fL),(aB bS.fD.fG),(eU bS.fD.fL)]]:List (List AV)).getD zi []) (zm - ([bm]:List aa).length))) zi from (bP aj aa.d ([bm]:List aa) ([bS]:List aa) rfl (fun _ _=>rfl) (fun zq iw=>cg aj aa.d ([bS]:List aa) zq iw))) pn)))))))))))) ?_
    refine ae hE 1 [] [] (kp [4,5,18,20,109]) (kq [0,375,1271]) 1351 pn ?_
    refine ae hE 2 [] [] (kp [4,5,18,20,109,110]) (kq [0,375,1271]) 1367 pn ?_
    refine sA 1 [.code (fo 65490),.code (fo 65491),.inLoop (fo 16372),.inBlock 6,.code (fo 2047)] ?_
    refine sC 110 (fo 130980) (fo 130981) true (fun _=>?_) (fun hq=>absurd hq (by decide)) 
    refine ae hE 4 [] [] (kp [4,5,18,20,21,109]) (kq [0,375,1271]) 1399 pn ?_
    obtain ⟨WY,h⟩:=ab h
    obtain ⟨X7,h⟩:=ab h
    obtain ⟨eh,Vl,h⟩:=aQ h
    obtain ⟨X8,h⟩:=ab h
    refine ae hE 0 [(19,oT (.agg (aj eh)))] [] (kp [4,5,18,20,109]) (kq [0] ++ [(375,.var 375 [.ag,.ag,.kQ (((([bm]:List aa) ++ ([bS]:List aa)) ++ ([eh]:List aa)).length)]),(1735,.arr 1735 (((([bm]:List aa) ++ ([bS]:List aa)) ++ ([eh]:List aa)).length) (fun zi=>aj (((([bm]:List aa) ++ ([bS]:List aa)) ++ ([eh]:List aa)).getD zi aa.d)))]) 1783 (pc o1 (pc WY (pc X7 (pc (fk _ _ _ _ Vl) (pc (Eq.refl ((([bm]:List aa) ++ ([bS]:List aa)).length)) (pc X8 (pc (z1 1) (pc (show ∀ zi,zi < 1→AV.iP ((fun zi=>([[(aB eh.fN.fG),(eU eh.fN.fL),(aB eh.fD.fG),(eU eh.fD.fL)]]:List (List AV)).getD zi []) (bA 0 zi))=true from (qO rfl)) (pc o1 (pc (show ((([bm]:List aa) ++ ([bS]:List aa)).length+1)=((([bm]:List aa) ++ ([bS]:List aa)) ++ ([eh]:List aa)).length from (ax rfl rfl)) (pc (show (([bm]:List aa) ++ ([bS]:List aa)).length+1=((([bm]:List aa) ++ ([bS]:List aa)) ++ ([eh]:List aa)).length from (ax rfl rfl)) (pc (show ∀ zi,zi < ((([bm]:List aa) ++ ([bS]:List aa)) ++ ([eh]:List aa)).length→(fun zi=>aj (((([bm]:List aa) ++ ([bS]:List aa)) ++ ([eh]:List aa)).getD zi aa.d)) zi=((fun zm=>if zm < (([bm]:List aa) ++ ([bS]:List aa)).length then (fun zi=>aj ((([bm]:List aa) ++ ([bS]:List aa)).getD zi aa.d)) zm else (fun zi=>([[(aB eh.fN.fG),(eU eh.fN.fL),(aB eh.fD.fG),(eU eh.fD.fL)]]:List (List AV)).getD zi []) (zm - (([bm]:List aa) ++ ([bS]:List aa)).length))) zi from (bP aj aa.d (([bm]:List aa) ++ ([bS]:List aa)) ([eh]:List aa) rfl (fun _ _=>rfl) (fun zq iw=>cg aj aa.d ([eh]:List aa) zq iw))) pn)))))))))))) ?_
    refine ae hE 1 [] [] (kp [4,5,18,20,109]) (kq [0,375,1735]) 1815 pn ?_
    refine ae hE 2 [] [] (kp [4,5,18,20,109,110]) (kq [0,375,1735]) 1831 pn ?_
    refine sA 1 [.code (fo 65490),.code (fo 65491),.inLoop (fo 16372),.inBlock 6,.code (fo 2047)] ?_
    refine sC 110 (fo 130980) (fo 130981) false (fun hq=>absurd hq (by decide)) (fun _=>?_) 
    refine ae hE 2 [] [] (kp [4]) (kq [0,1735]) 1863 (pc o1 (pc o1 pn)) ?_
    obtain rfl:=cJ h
    exact cP hE 0 Tryz.f22 [1735] (kp [4]) [(16,.var 0 [.ag,.sl (([]:List aa).length) (fun zi=>aj (([]:List aa).getD zi aa.d)),.sl (((([bm]:List aa) ++ ([bS]:List aa)) ++ ([eh]:List aa)).length) (fun zi=>aj (((([bm]:List aa) ++ ([bS]:List aa)) ++ ([eh]:List aa)).getD zi aa.d))])] 1863 (pc (Eq.refl 0) (pc (Eq.refl (((([bm]:List aa) ++ ([bS]:List aa)) ++ ([eh]:List aa)).length)) (pc (z1 (((([bm]:List aa) ++ ([bS]:List aa)) ++ ([eh]:List aa)).length)) (pc (aZ (((([bm]:List aa) ++ ([bS]:List aa)) ++ ([eh]:List aa)).length) (fun zi=>aj (((([bm]:List aa) ++ ([bS]:List aa)) ++ ([eh]:List aa)).getD zi aa.d))) pn)))) [16] (pc o1 pn)
theorem Aw (N l ao rows av dh least aX fuel):BB N l ao rows av dh least aX (fh N l ao rows av dh least aX fuel):=by
 induction fuel with
 | zero=>intro _ _ _ r h;rw [fh.eq_1] at h;cases h
 | succ fuel ih =>
  intro cR bB x3 r h E hE
  rw [fh.eq_2] at h
  refine ae hE 1 [] [] (kp [0,4,5,6,7,11,12,13,53,66,67,68,69]) (kq [0,1,2,3,4,5,6]) 23 pn ?_
  refine dm 1 69 h (fun ta h=>?_) (fun ta h=>?_)
  ·obtain ⟨c8,h⟩:=ab h
   refine ae hE 4 [] [] (kp [0,4,5,6,7,11,12,13,15,53,66,67,68]) (kq [0,1,2,3,4,5,6,55]) 87 (pc c8 (pc o1 pn)) ?_
   obtain ⟨kG,DH,h⟩:=aQ h
   refine ae hE 1 [(1,oT (.agg (ar.cells kG)))] [] (kp [0,4,5,6,7,11,12,13,16,53,66,67,68]) (kq [0,1,2,3,4,5,6,151]) 183 (pc o1 (pc (mD _ _ _ DH) (pc (show 0≤(1:Int)∧(1:Int) < ((3:Nat):Int) by decide) (pc o1 pn)))) ?_
   obtain ⟨c9,h⟩:=ab h
   obtain ⟨fV,wu,h⟩:=aQ h
   obtain ⟨N4,h⟩:=ab h
   refine ae hE 0 [(9,oT (.agg (aj fV)))] [] (kp [0,4,5,6,7,11,12,13,53,66,67,68]) (kq [0,1,2] ++ [(3,.var 3 [.kQ ((cR ++ ([kG.e1]:List aa)).length),.ag,.ag,.ag,.ag]),(5,.var 5 [.kQ ((bB ++ ([fV]:List aa)).length),.ag,.ag,.ag,.ag]),(247,.arr 247 ((cR ++ ([kG.e1]:List aa)).length) (fun zi=>aj ((cR ++ ([kG.e1]:List aa)).getD zi aa.d))),(359,.arr 359 ((bB ++ ([fV]:List aa)).length) (fun zi=>aj ((bB ++ ([fV]:List aa)).getD zi aa.d)))]) 439 (pc o1 (pc o1 (pc (Eq.refl cR.length) (pc c9 (pc (z1 1) (pc (show ∀ zi,zi < 1→AV.iP ((fun zi=>([[(aB kG.e1.fN.fG),(eU kG.e1.fN.fL),(aB kG.e1.fD.fG),(eU kG.e1.fD.fL)]]:List (List AV)).getD zi []) (bA 0 zi))=true from (qO rfl)) (pc o1 (pc o1 (pc (show Sd 49 [(.agg [(aB false),.nil,(aB false),.nil]),(.agg (aj kG.e1))] [] 0 (.agg (aj fV)) [] from (Sound.conv (fk _ _ _ _ wu) (.cons (Alike.agg (.cons (Alike.refl _) (.cons Alike.nil (.cons (Alike.refl _) (.cons Alike.nil .nil))))) (.cons (Alike.refl _) .nil)))) (pc (Eq.refl bB.length) (pc N4 (pc (z1 1) (pc (show ∀ zi,zi < 1→AV.iP ((fun zi=>([[(aB fV.fN.fG),(eU fV.fN.fL),(aB fV.fD.fG),(eU fV.fD.fL)]]:List (List AV)).getD zi []) (bA 0 zi))=true from (qO rfl)) (pc o1 (pc o1 (pc (show (cR.length+1)=(cR ++ ([kG.e1]:List aa)).length from (ax rfl rfl)) (pc (show (bB.length+1)=(bB ++ ([fV]:List aa)).length from (ax rfl rfl)) (pc (show cR.length+1=(cR ++ ([kG.e1]:List aa)).length from (ax rfl rfl)) (pc (show ∀ zi,zi < (cR ++ ([kG.e1]:List aa)).length→(fun zi=>aj ((cR ++ ([kG.e1]:List aa)).getD zi aa.d)) zi=((fun zm=>if zm < cR.length then (fun zi=>aj (cR.getD zi aa.d)) zm else (fun zi=>([[(aB kG.e1.fN.fG),(eU kG.e1.fN.fL),(aB kG.e1.fD.fG),(eU kG.e1.fD.fL)]]:List (List AV)).getD zi []) (zm - cR.length))) zi from (bP aj aa.d cR ([kG.e1]:List aa) rfl (fun _ _=>rfl) (fun zq iw=>cg aj aa.d ([kG.e1]:List aa) zq iw))) (pc (show bB.length+1=(bB ++ ([fV]:List aa)).length from (ax rfl rfl)) (pc (show ∀ zi,zi < (bB ++ ([fV]:List aa)).length→(fun zi=>aj ((bB ++ ([fV]:List aa)).getD zi aa.d)) zi=((fun zm=>if zm < bB.length then (fun zi=>aj (bB.getD zi aa.d)) zm else (fun zi=>([[(aB fV.fN.fG),(eU fV.fN.fL),(aB fV.fD.fG),(eU fV.fD.fL)]]:List (List AV)).getD zi []) (zm - bB.length))) zi from (bP aj aa.d bB ([fV]:List aa) rfl (fun _ _=>rfl) (fun zq iw=>cg aj aa.d ([fV]:List aa) zq iw))) pn))))))))))))))))))))) ?_
   refine ae hE 1 [] [] (kp [0,4,5,6,7,11,12,13,53,66,67,68]) (kq [0,1,2,3,5,247,359]) 471 pn ?_
   exact cV hE 1 [] (kp [0,4,5,6,7,11,12,13,53,66,67,68]) (kq [0,1,2,3] ++ [(4,.ag 247)] ++ kq [5] ++ [(6,.ag 359)]) 7 pn (ih _ _ _ _ h E hE)
  ·obtain ⟨Jw,h⟩:=ab h
   refine ae hE 1 [(3,⟨[],true,.m9,[(4,aO 4 aj aa.d cR),(6,aO 4 aj aa.d bB)],0,true,none⟩)] [] (kp [0,4,5,6] ++ [(7,.kQ (((rows ++ ([(⟨dh,av⟩:af),(⟨least,ao.e0⟩:af)]:List af)) ++ ([(⟨cR,aX⟩:af),(⟨bB,ao.e1⟩:af)]:List af)).length))] ++ kp [53]) (kq [0,1] ++ [(87,.arr 87 (((rows ++ ([(⟨dh,av⟩:af),(⟨least,ao.e0⟩:af)]:List af)) ++ ([(⟨cR,aX⟩:af),(⟨bB,ao.e1⟩:af)]:List af)).length) (fun zi=>wX (((rows ++ ([(⟨dh,av⟩:af),(⟨least,ao.e0⟩:af)]:List af)) ++ ([(⟨cR,aX⟩:af),(⟨bB,ao.e1⟩:af)]:List af)).getD zi af.d)))]) 119 (pc o1 (pc o1 (pc (show cR.length≤cR.length from (aG _)) (pc (show ∀ zi,zi < cR.length→(fun zi=>aj (cR.getD zi aa.d)) zi=(fun zi=>aj (cR.getD zi aa.d)) zi from (fun _ _=>rfl)) (pc (show bB.length≤bB.length from (aG _)) (pc (show ∀ zi,zi < bB.length→(fun zi=>aj (bB.getD zi aa.d)) zi=(fun zi=>aj (bB.getD zi aa.d)) zi from (fun _ _=>rfl)) (pc (Eq.refl cR.length) (pc (Eq.refl bB.length) (pc (Eq.refl ((rows ++ ([(⟨dh,av⟩:af),(⟨least,ao.e0⟩:af)]:List af)).length)) (pc Jw (pc (z1 2) (pc (show ∀ zi,zi < 2→AV.iP ((fun zi=>([[(aH aj aa.d cR),(aB aX.fN.fG),(eU aX.fN.fL),(aB aX.fD.fG),(eU aX.fD.fL)],[(aH aj aa.d bB),(aB ao.e1.fN.fG),(eU ao.e1.fN.fL),(aB ao.e1.fD.fG),(eU ao.e1.fD.fL)]]:List (List AV)).getD zi []) (bA 0 zi))=true from (qO rfl)) (pc (show ((rows ++ ([(⟨dh,av⟩:af),(⟨least,ao.e0⟩:af)]:List af)).length+2)=((rows ++ ([(⟨dh,av⟩:af),(⟨least,ao.e0⟩:af)]:List af)) ++ ([(⟨cR,aX⟩:af),(⟨bB,ao.e1⟩:af)]:List af)).length from (ax rfl rfl)) (pc (show (rows ++ ([(⟨dh,av⟩:af),(⟨least,ao.e0⟩:af)]:List af)).length+2=((rows ++ ([(⟨dh,av⟩:af),(⟨least,ao.e0⟩:af)]:List af)) ++ ([(⟨cR,aX⟩:af),(⟨bB,ao.e1⟩:af)]:List af)).length from (ax rfl rfl)) (pc (show ∀ zi,zi < ((rows ++ ([(⟨dh,av⟩:af),(⟨least,ao.e0⟩:af)]:List af)) ++ ([(⟨cR,aX⟩:af),(⟨bB,ao.e1⟩:af)]:List af)).length→(fun zi=>wX (((rows ++ ([(⟨dh,av⟩:af),(⟨least,ao.e0⟩:af)]:List af)) ++ ([(⟨cR,aX⟩:af),(⟨bB,ao.e1⟩:af)]:List af)).getD zi af.d)) zi=((fun zm=>if zm < (rows ++ ([(⟨dh,av⟩:af),(⟨least,ao.e0⟩:af)]:List af)).length then (fun zi=>wX ((rows ++ ([(⟨dh,av⟩:af),(⟨least,ao.e0⟩:af)]:List af)).getD zi af.d)) zm else (fun zi=>([[(aH aj aa.d cR),(aB aX.fN.fG),(eU aX.fN.fL),(aB aX.fD.fG),(eU aX.fD.fL)],[(aH aj aa.d bB),(aB ao.e1.fN.fG),(eU ao.e1.fN.fL),(aB ao.e1.fD.fG),(eU ao.e1.fD.fL)]]:List (List AV)).getD zi []) (zm - (rows ++ ([(⟨dh,av⟩:af),(⟨least,ao.e0⟩:af)]:List af)).length))) zi from (bP wX af.d (rows ++ ([(⟨dh,av⟩:af),(⟨least,ao.e0⟩:af)]:List af)) ([(⟨cR,aX⟩:af),(⟨bB,ao.e1⟩:af)]:List af) rfl (fun _ _=>rfl) (fun zq iw=>cg wX af.d ([(⟨cR,aX⟩:af),(⟨bB,ao.e1⟩:af)]:List af) zq iw))) pn))))))))))))))) ?_
   refine ae hE 1 [] [] (kp [0,4,5,6,7,53]) (kq [0,1,87]) 151 pn ?_
   refine ae hE 2 [] [] (kp [0,4,5,6,7,53,54]) (kq [0,1,87]) 167 pn ?_
   refine sA 1 [.code (fo 4050),.code (fo 4051),.inLoop (fo 1012),.inBlock 2,.code (fo 127)] ?_
   refine sC 54 (fo 8100) (fo 8101) true (fun _=>?_) (fun hq=>absurd hq (by decide)) 
   refine ae hE 4 [] [] (kp [0,4,5,6,7,11,53]) (kq [0,1,87]) 199 pn ?_
   obtain ⟨cO,yj,h⟩:=aQ h
   refine ae hE 1 [(4,oT (.agg (aj cO)))] [] (kp [0,4,5,6,7,11,12,13,53]) (kq [0,1,87,359,375]) 423 (pc (show 0≤(2:Int)∧(2:Int) < 3 by decide) (pc o1 (pc (show Sd 49 [(.agg [(aB false),.nil,(aB false),.nil]),(.agg (aj ao.e2))] [] 0 (.agg (aj cO)) [] from (Sound.conv (fk _ _ _ _ yj) (.cons (Alike.agg (.cons (Alike.refl _) (.cons Alike.nil (.cons (Alike.refl _) (.cons Alike.nil .nil))))) (.cons (Alike.refl _) .nil)))) (pc (show 0≤(2:Int)∧(2:Int) < 3 by decide) (pc o1 (pc o1 (pc o1 pn))))))) ?_
   refine ae hE 2 [] [] (kp [0,4,5,6,7,11,12,13,53,66,67,68]) (kq [0,1,87,359,375]) 471 pn ?_
   exact cV hE 2 [] (kp [0,4,5,6,7,11,12,13,53,66,67,68]) (kq [0,1] ++ [(2,.ag 87),(3,.var 359 [.o8 4,.ag,.ag,.ag,.ag]),(4,.nil 4 (fun zi=>aj (([]:List aa).getD zi aa.d))),(5,.var 375 [.o8 6,.ag,.ag,.ag,.ag]),(6,.nil 4 (fun zi=>aj (([]:List aa).getD zi aa.d)))]) 7 pn (Av N _ _ _ _ _ _ _ _ _ _ N _ _ _ _ h E hE)
theorem Ax (N l ao rows av fuel):BA N l ao rows av (fj N l ao rows av fuel):=by
 induction fuel with
 | zero=>intro _ _ _ r h;rw [fj.eq_1] at h;cases h
 | succ fuel ih =>
  intro dh least x2 r h E hE
  rw [fj.eq_2] at h
  refine ae hE 1 [] [] (kp [0,4,5,6,7,11,12,13,53,66,67,68,69]) (kq [0,1,2,3,4,5,6]) 23 pn ?_
  refine dm 1 69 h (fun jh h=>?_) (fun jh h=>?_)
  ·obtain ⟨c4,h⟩:=ab h
   refine ae hE 4 [] [] (kp [0,4,5,6,7,11,12,13,15,53,66,67,68]) (kq [0,1,2,3,4,5,6,55]) 87 (pc c4 (pc o1 pn)) ?_
   obtain ⟨jW,vj,h⟩:=aQ h
   refine ae hE 1 [(1,oT (.agg (ar.cells jW)))] [] (kp [0,4,5,6,7,11,12,13,16,53,66,67,68]) (kq [0,1,2,3,4,5,6,151]) 183 (pc o1 (pc (mD _ _ _ vj) (pc (show 0≤(0:Int)∧(0:Int) < ((3:Nat):Int) by decide) (pc o1 pn)))) ?_
   obtain ⟨c5,h⟩:=ab h
   obtain ⟨fW,wv,h⟩:=aQ h
   obtain ⟨c6,h⟩:=ab h
   refine ae hE 0 [(9,oT (.agg (aj fW)))] [] (kp [0,4,5,6,7,11,12,13,53,66,67,68]) (kq [0,1,2] ++ [(3,.var 3 [.kQ ((dh ++ ([jW.e0]:List aa)).length),.ag,.ag,.ag,.ag]),(5,.var 5 [.kQ ((least ++ ([fW]:List aa)).length),.ag,.ag,.ag,.ag]),(247,.arr 247 ((dh ++ ([jW.e0]:List aa)).length) (fun zi=>aj ((dh ++ ([jW.e0]:List aa)).getD zi aa.d))),(359,.arr 359 ((least ++ ([fW]:List aa)).length) (fun zi=>aj ((least ++ ([fW]:List aa)).getD zi aa.d)))]) 439 (pc o1 (pc o1 (pc (Eq.refl dh.length) (pc c5 (pc (z1 1) (pc (show ∀ zi,zi < 1→AV.iP ((fun zi=>([[(aB jW.e0.fN.fG),(eU jW.e0.fN.fL),(aB jW.e0.fD.fG),(eU jW.e0.fD.fL)]]:List (List AV)).getD zi []) (bA 0 zi))=true from (qO rfl)) (pc o1 (pc o1 (pc (show Sd 49 [(.agg [(aB false),.nil,(aB false),.nil]),(.agg (aj jW.e0))] [] 0 (.agg (aj fW)) [] from (Sound.conv (fk _ _ _ _ wv) (.cons (Alike.agg (.cons (Alike.refl _) (.cons Alike.nil (.cons (Alike.refl _) (.cons Alike.nil .nil))))) (.cons (Alike.refl _) .nil)))) (pc (Eq.refl least.length) (pc c6 (pc (z1 1) (pc (show ∀ zi,zi < 1→AV.iP ((fun zi=>([[(aB fW.fN.fG),(eU fW.fN.fL),(aB fW.fD.fG),(eU fW.fD.fL)]]:List (List AV)).getD zi []) (bA 0 zi))=true from (qO rfl)) (pc o1 (pc o1 (pc (show (dh.length+1)=(dh ++ ([jW.e0]:List aa)).length from (ax rfl rfl)) (pc (show (least.length+1)=(least ++ ([fW]:List aa)).length from (ax rfl rfl)) (pc (show dh.length+1=(dh ++ ([jW.e0]:List aa)).length from (ax rfl rfl)) (pc (show ∀ zi,zi < (dh ++ ([jW.e0]:List aa)).length→(fun zi=>aj ((dh ++ ([jW.e0]:List aa)).getD zi aa.d)) zi=((fun zm=>if zm < dh.length then (fun zi=>aj (dh.getD zi aa.d)) zm else (fun zi=>([[(aB jW.e0.fN.fG),(eU jW.e0.fN.fL),(aB jW.e0.fD.fG),(eU jW.e0.fD.fL)]]:List (List AV)).getD zi []) (zm - dh.length))) zi from (bP aj aa.d dh ([jW.e0]:List aa) rfl (fun _ _=>rfl) (fun zq iw=>cg aj aa.d ([jW.e0]:List aa) zq iw))) (pc (show least.length+1=(least ++ ([fW]:List aa)).length from (ax rfl rfl)) (pc (show ∀ zi,zi < (least ++ ([fW]:List aa)).length→(fun zi=>aj ((least ++ ([fW]:List aa)).getD zi aa.d)) zi=((fun zm=>if zm < least.length then (fun zi=>aj (least.getD zi aa.d)) zm else (fun zi=>([[(aB fW.fN.fG),(eU fW.fN.fL),(aB fW.fD.fG),(eU fW.fD.fL)]]:List (List AV)).getD zi []) (zm - least.length))) zi from (bP aj aa.d least ([fW]:List aa) rfl (fun _ _=>rfl) (fun zq iw=>cg aj aa.d ([fW]:List aa) zq iw))) pn))))))))))))))))))))) ?_
   refine ae hE 1 [] [] (kp [0,4,5,6,7,11,12,13,53,66,67,68]) (kq [0,1,2,3,5,247,359]) 471 pn ?_
   exact cV hE 1 [] (kp [0,4,5,6,7,11,12,13,53,66,67,68]) (kq [0,1,2,3] ++ [(4,.ag 247)] ++ kq [5] ++ [(6,.ag 359)]) 7 pn (ih _ _ _ _ h E hE)
  ·obtain ⟨c7,h⟩:=ab h
   refine ae hE 1 [(3,⟨[],true,.m9,[(4,aO 4 aj aa.d dh),(6,aO 4 aj aa.d least)],0,true,none⟩)] [] (kp [0,4,5,6] ++ [(7,.kQ ((rows ++ ([(⟨dh,av⟩:af),(⟨least,ao.e0⟩:af)]:List af)).length))] ++ kp [53]) (kq [0,1] ++ [(87,.arr 87 ((rows ++ ([(⟨dh,av⟩:af),(⟨least,ao.e0⟩:af)]:List af)).length) (fun zi=>wX ((rows ++ ([(⟨dh,av⟩:af),(⟨least,ao.e0⟩:af)]:List af)).getD zi af.d)))]) 119 (pc o1 (pc o1 (pc (show dh.length≤dh.length from (aG _)) (pc (show ∀ zi,zi < dh.length→(fun zi=>aj (dh.getD zi aa.d)) zi=(fun zi=>aj (dh.getD zi aa.d)) zi from (fun _ _=>rfl)) (pc (show least.length≤least.length from (aG _)) (pc (show ∀ zi,zi < least.length→(fun zi=>aj (least.getD zi aa.d)) zi=(fun zi=>aj (least.getD zi aa.d)) zi from (fun _ _=>rfl)) (pc (Eq.refl dh.length) (pc (Eq.refl least.length) (pc (Eq.refl rows.length) (pc c7 (pc (z1 2) (pc (show ∀ zi,zi < 2→AV.iP ((fun zi=>([[(aH aj aa.d dh),(aB av.fN.fG),(eU av.fN.fL),(aB av.fD.fG),(eU av.fD.fL)],[(aH aj aa.d least),(aB ao.e0.fN.fG),(eU ao.e0.fN.fL),(aB ao.e0.fD.fG),(eU ao.e0.fD.fL)]]:List (List AV)).getD zi []) (bA 0 zi))=true from (qO rfl)) (pc (show (rows.length+2)=(rows ++ ([(⟨dh,av⟩:af),(⟨least,ao.e0⟩:af)]:List af)).length from (ax rfl rfl)) (pc (show rows.length+2=(rows ++ ([(⟨dh,av⟩:af),(⟨least,ao.e0⟩:af)]:List af)).length from (ax rfl rfl)) (pc (show ∀ zi,zi < (rows ++ ([(⟨dh,av⟩:af),(⟨least,ao.e0⟩:af)]:List af)).length→(fun zi=>wX ((rows ++ ([(⟨dh,av⟩:af),(⟨least,ao.e0⟩:af)]:List af)).getD zi af.d)) zi=((fun zm=>if zm < rows.length then (fun zi=>wX (rows.getD zi af.d)) zm else (fun zi=>([[(aH aj aa.d dh),(aB av.fN.fG),(eU av.fN.fL),(aB av.fD.fG),(eU av.fD.fL)],[(aH aj aa.d least),(aB ao.e0.fN.fG),(eU ao.e0.fN.fL),(aB ao.e0.fD.fG),(eU ao.e0.fD.fL)]]:List (List AV)).getD zi []) (zm - rows.length))) zi from (bP wX af.d rows ([(⟨dh,av⟩:af),(⟨least,ao.e0⟩:af)]:List af) rfl (fun _ _=>rfl) (fun zq iw=>cg wX af.d ([(⟨dh,av⟩:af),(⟨least,ao.e0⟩:af)]:List af) zq iw))) pn))))))))))))))) ?_
   refine ae hE 1 [] [] (kp [0,4,5,6,7,53]) (kq [0,1,87]) 151 pn ?_
   refine ae hE 2 [] [] (kp [0,4,5,6,7,53,54]) (kq [0,1,87]) 167 pn ?_
   refine sA 1 [.code (fo 4050),.code (fo 4051),.inLoop (fo 1012),.inBlock 2,.code (fo 127)] ?_
   refine sC 54 (fo 8100) (fo 8101) true (fun _=>?_) (fun hq=>absurd hq (by decide)) 
   refine ae hE 4 [] [] (kp [0,4,5,6,7,11,53]) (kq [0,1,87]) 199 pn ?_
   obtain ⟨aX,DI,h⟩:=aQ h
   refine ae hE 1 [(4,oT (.agg (aj aX)))] [] (kp [0,4,5,6,7,11,12,13,53]) (kq [0,1,87,359,375]) 423 (pc (show 0≤(1:Int)∧(1:Int) < 3 by decide) (pc o1 (pc (show Sd 49 [(.agg [(aB false),.nil,(aB false),.nil]),(.agg (aj ao.e1))] [] 0 (.agg (aj aX)) [] from (Sound.conv (fk _ _ _ _ DI) (.cons (Alike.agg (.cons (Alike.refl _) (.cons Alike.nil (.cons (Alike.refl _) (.cons Alike.nil .nil))))) (.cons (Alike.refl _) .nil)))) (pc (show 0≤(1:Int)∧(1:Int) < 3 by decide) (pc o1 (pc o1 (pc o1 pn))))))) ?_
   refine ae hE 2 [] [] (kp [0,4,5,6,7,11,12,13,53,66,67,68]) (kq [0,1,87,359,375]) 471 pn ?_
   exact cV hE 2 [] (kp [0,4,5,6,7,11,12,13,53,66,67,68]) (kq [0,1] ++ [(2,.ag 87),(3,.var 359 [.o8 4,.ag,.ag,.ag,.ag]),(4,.nil 4 (fun zi=>aj (([]:List aa).getD zi aa.d))),(5,.var 375 [.o8 6,.ag,.ag,.ag,.ag]),(6,.nil 4 (fun zi=>aj (([]:List aa).getD zi aa.d)))]) 7 pn (Aw N _ _ _ _ _ _ _ N _ _ _ _ h E hE)
theorem Ay (N l ao fuel):Bz N l ao (il N l ao fuel):=by
 induction fuel with
 | zero=>intro _ _ r h;rw [il.eq_1] at h;cases h
 | succ fuel ih =>
  intro rows x r h E hE
  rw [il.eq_2] at h
  refine ae hE 1 [] [] (kp [0,4,5,6,7,26,27,28]) (kq [0,1,2]) 19 pn ?_
  refine dm 1 28 h (fun dW h=>?_) (fun dW h=>?_)
  ·refine ae hE 4 [] [] (kp [0,4,5,6,7,8,26,27]) (kq [0,1,2]) 51 pn ?_
   obtain ⟨c,h⟩:=ab h
   obtain ⟨eT,eJ,h⟩:=aQ h
   refine ae hE 1 [(2,oT (.agg (aj eT)))] [] (kp [0,4,5,6,7,8,9,10,26,27]) (kq [0,1,2] ++ [(67,.PW 67 ((List.replicate l.length aa.d:List aa).length) (fun zi=>aj ((List.replicate l.length aa.d:List aa).getD zi aa.d))),(131,.PW 131 ((List.replicate l.length aa.d:List aa).length) (fun zi=>aj ((List.replicate l.length aa.d:List aa).getD zi aa.d))),(163,.var 163 [.kQ ((List.replicate l.length aa.d:List aa).length),.ag,.ag,.ag,.ag]),(179,.var 179 [.kQ ((List.replicate l.length aa.d:List aa).length),.ag,.sl (([]:List Int).length) (fun zi=>(cU .u16) (([]:List Int).getD zi 0)),.ag,.sl (([]:List Int).length) (fun zi=>(cU .u16) (([]:List Int).getD zi 0))])]) 227 (pc (show 0≤((l.length:Nat):Int) from c.1) (pc (show ((l.length:Nat):Int)≤((l.length:Nat):Int) from (Int.le_refl _)) (pc (show (64:Int) * ((l.length:Nat):Int)≤281474976710656 from c.2.1) (pc (show ((l.length:Nat):Int)≤9223372036854775807 from c.2.2) (pc (du _ _ _ eJ) (pc (show 0≤((l.length:Nat):Int) from c.1) (pc (show ((l.length:Nat):Int)≤((l.length:Nat):Int) from (Int.le_refl _)) (pc (show (64:Int) * ((l.length:Nat):Int)≤281474976710656 from c.2.1) (pc (show ((l.length:Nat):Int)≤9223372036854775807 from c.2.2) (pc o1 (pc o1 (pc (show (List.replicate l.length aa.d:List aa).length≤l.length from (Nat.le_of_eq (Eq.symm ((di).symm)))) (pc (show ∀ zi,zi < (List.replicate l.length aa.d:List aa).length→Js ((fun _=>[(aB false),.nil,(aB false),.nil]) zi) ((fun zi=>aj ((List.replicate l.length aa.d:List aa).getD zi aa.d)) zi) from (fun zq iw=>oV aj aa.d aa.d l.length zq ⟨.inl rfl,.inr ⟨rfl,_,rfl⟩,.inl rfl,.inr ⟨rfl,_,rfl⟩,trivial⟩ iw)) (pc (show (List.replicate l.length aa.d:List aa).length≤l.length from (Nat.le_of_eq (Eq.symm ((di).symm)))) (pc (show ∀ zi,zi < (List.replicate l.length aa.d:List aa).length→Js ((fun _=>[(aB false),.nil,(aB false),.nil]) zi) ((fun zi=>aj ((List.replicate l.length aa.d:List aa).getD zi aa.d)) zi) from (fun zq iw=>oV aj aa.d aa.d l.length zq ⟨.inl rfl,.inr ⟨rfl,_,rfl⟩,.inl rfl,.inr ⟨rfl,_,rfl⟩,trivial⟩ iw)) (pc (show l.length=(List.replicate l.length aa.d:List aa).length from (di).symm) (pc (show l.length=(List.replicate l.length aa.d:List aa).length from (di).symm) (pc (Eq.refl 0) (pc (Eq.refl 0) pn))))))))))))))))))) ?_
   obtain ⟨dB,jP,h⟩:=aQ h
   obtain ⟨dC,mz,h⟩:=aQ h
   obtain ⟨c2,h⟩:=ab h
   refine ae hE 1 [(6,oT (.agg (aj dB))),(7,oT (.agg (aj dC)))] [] (kp [0,4,5,6,7,9,10,26,27]) (kq [0,1,2] ++ [(67,.arr 67 (((List.replicate l.length aa.d:List aa).set ((x).toNat) dB).length) (fun zi=>aj (((List.replicate l.length aa.d:List aa).set ((x).toNat) dB).getD zi aa.d))),(131,.arr 131 (((List.replicate l.length aa.d:List aa).set ((x).toNat) dC).length) (fun zi=>aj (((List.replicate l.length aa.d:List aa).set ((x).toNat) dC).getD zi aa.d))),(163,.var 163 [.kQ (((List.replicate l.length aa.d:List aa).set ((x).toNat) dB).length),.ag,.ag,.ag,.ag]),(179,.var 179 [.kQ (((List.replicate l.length aa.d:List aa).set ((x).toNat) dC).length),.ag,.ag,.ag,.ag])]) 419 (pc o1 (pc o1 (pc (du _ _ _ jP) (pc (du _ _ _ mz) (pc c2 (pc (dS c2) (pc c2 (pc (dS c2) (pc (aA (List.replicate l.length aa.d:List aa) ((x).toNat) dB) (pc (cL aj aa.d (List.replicate l.length aa.d:List aa) ((x).toNat) dB) (pc (aA (List.replicate l.length aa.d:List aa) ((x).toNat) dC) (pc (cL aj aa.d (List.replicate l.length aa.d:List aa) ((x).toNat) dC) (pc (aA (List.replicate l.length aa.d:List aa) ((x).toNat) dB) (pc (aA (List.replicate l.length aa.d:List aa) ((x).toNat) dC) pn)))))))))))))) ?_
   obtain ⟨c3,h⟩:=ab h
   refine ae hE 0 [(3,⟨[],true,.m9,[(67,aO 4 aj aa.d ((List.replicate l.length aa.d:List aa).set ((x).toNat) dB)),(131,aO 4 aj aa.d ((List.replicate l.length aa.d:List aa).set ((x).toNat) dC))],0,true,none⟩)] [] (kp [0,4,5,6] ++ [(7,.kQ ((rows ++ ([(⟨((List.replicate l.length aa.d:List aa).set ((x).toNat) dB),eT⟩:af),(⟨((List.replicate l.length aa.d:List aa).set ((x).toNat) dC),(⟨(⟨false,([]:List Int)⟩:bG),(⟨false,([]:List Int)⟩:bG)⟩:aa)⟩:af)]:List af)).length))] ++ kp [26,27]) (kq [0,1] ++ [(483,.arr 483 ((rows ++ ([(⟨((List.replicate l.length aa.d:List aa).set ((x).toNat) dB),eT⟩:af),(⟨((List.replicate l.length aa.d:List aa).set ((x).toNat) dC),(⟨(⟨false,([]:List Int)⟩:bG),(⟨false,([]:List Int)⟩:bG)⟩:aa)⟩:af)]:List af)).length) (fun zi=>wX ((rows ++ ([(⟨((List.replicate l.length aa.d:List aa).set ((x).toNat) dB),eT⟩:af),(⟨((List.replicate l.length aa.d:List aa).set ((x).toNat) dC),(⟨(⟨false,([]:List Int)⟩:bG),(⟨false,([]:List Int)⟩:bG)⟩:aa)⟩:af)]:List af)).getD zi af.d)))]) 515 (pc o1 (pc o1 (pc (show ((List.replicate l.length aa.d:List aa).set ((x).toNat) dB).length≤((List.replicate l.length aa.d:List aa).set ((x).toNat) dB).length from (aG _)) (pc (show ∀ zi,zi < ((List.replicate l.length aa.d:List aa).set ((x).toNat) dB).length→(fun zi=>aj (((List.replicate l.length aa.d:List aa).set ((x).toNat) dB).getD zi aa.d)) zi=(fun zi=>aj (((List.replicate l.length aa.d:List aa).set ((x).toNat) dB).getD zi aa.d)) zi from (fun _ _=>rfl)) (pc (show ((List.replicate l.length aa.d:List aa).set ((x).toNat) dC).length≤((List.replicate l.length aa.d:List aa).set ((x).toNat) dC).length from (aG _)) (pc (show ∀ zi,zi < ((List.replicate l.length aa.d:List aa).set ((x).toNat) dC).length→(fun zi=>aj (((List.replicate l.length aa.d:List aa).set ((x).toNat) dC).getD zi aa.d)) zi=(fun zi=>aj (((List.replicate l.length aa.d:List aa).set ((x).toNat) dC).getD zi aa.d)) zi from (fun _ _=>rfl)) (pc (Eq.refl (((List.replicate l.length aa.d:List aa).set ((x).toNat) dB).length)) (pc (Eq.refl (((List.replicate l.length aa.d:List aa).set ((x).toNat) dC).length)) (pc (Eq.refl rows.length) (pc c3 (pc (z1 2) (pc (show ∀ zi,zi < 2→AV.iP ((fun zi=>([[(aH aj aa.d ((List.replicate l.length aa.d:List aa).set ((x).toNat) dB)),(aB eT.fN.fG),(eU eT.fN.fL),(aB eT.fD.fG),(eU eT.fD.fL)],[(aH aj aa.d ((List.replicate l.length aa.d:List aa).set ((x).toNat) dC)),(aB false),(eU ([]:List Int)),(aB false),(eU ([]:List Int))]]:List (List AV)).getD zi []) (bA 0 zi))=true from (qO rfl)) (pc (show (rows.length+2)=(rows ++ ([(⟨((List.replicate l.length aa.d:List aa).set ((x).toNat) dB),eT⟩:af),(⟨((List.replicate l.length aa.d:List aa).set ((x).toNat) dC),(⟨(⟨false,([]:List Int)⟩:bG),(⟨false,([]:List Int)⟩:bG)⟩:aa)⟩:af)]:List af)).length from (ax rfl rfl)) (pc (show rows.length+2=(rows ++ ([(⟨((List.replicate l.length aa.d:List aa).set ((x).toNat) dB),eT⟩:af),(⟨((List.replicate l.length aa.d:List aa).set ((x).toNat) dC),(⟨(⟨false,([]:List Int)⟩:bG),(⟨false,([]:List Int)⟩:bG)⟩:aa)⟩:af)]:List af)).length from (ax rfl rfl)) (pc (show ∀ zi,zi < (rows ++ ([(⟨((List.replicate l.length aa.d:List aa).set ((x).toNat) dB),eT⟩:af),(⟨((List.replicate l.length aa.d:List aa).set ((x).toNat) dC),(⟨(⟨false,([]:List Int)⟩:bG),(⟨false,([]:List Int)⟩:bG)⟩:aa)⟩:af)]:List af)).length→(fun zi=>wX ((rows ++ ([(⟨((List.replicate l.length aa.d:List aa).set ((x).toNat) dB),eT⟩:af),(⟨((List.replicate l.length aa.d:List aa).set ((x).toNat) dC),(⟨(⟨false,([]:List Int)⟩:bG),(⟨false,([]:List Int)⟩:bG)⟩:aa)⟩:af)]:List af)).getD zi af.d)) zi=((fun zm=>if zm < rows.length then (fun zi=>wX (rows.getD zi af.d)) zm else (fun zi=>([[(aH aj aa.d ((List.replicate l.length aa.d:List aa).set ((x).toNat) dB)),(aB eT.fN.fG),(eU eT.fN.fL),(aB eT.fD.fG),(eU eT.fD.fL)],[(aH aj aa.d ((List.replicate l.length aa.d:List aa).set ((x).toNat) dC)),(aB false),(eU ([]:List Int)),(aB false),(eU ([]:List Int))]]:List (List AV)).getD zi []) (zm - rows.length))) zi from (bP wX af.d rows ([(⟨((List.replicate l.length aa.d:List aa).set ((x).toNat) dB),eT⟩:af),(⟨((List.replicate l.length aa.d:List aa).set ((x).toNat) dC),(⟨(⟨false,([]:List Int)⟩:bG),(⟨false,([]:List Int)⟩:bG)⟩:aa)⟩:af)]:List af) rfl (fun _ _=>rfl) (fun zq iw=>cg wX af.d ([(⟨((List.replicate l.length aa.d:List aa).set ((x).toNat) dB),eT⟩:af),(⟨((List.replicate l.length aa.d:List aa).set ((x).toNat) dC),(⟨(⟨false,([]:List Int)⟩:bG),(⟨false,([]:List Int)⟩:bG)⟩:aa)⟩:af)]:List af) zq iw))) pn))))))))))))))) ?_
   refine ae hE 1 [] [] (kp [0,4,5,6,7,26,27]) (kq [0,1,483]) 547 pn ?_
   exact cV hE 1 [] (kp [0,4,5,6,7,26,27]) (kq [0,1] ++ [(2,.ag 483)]) 3 pn (ih _ _ _ h E hE)
  ·refine ae hE 3 [] [] (kp [0,4,5,6,7,53]) (kq [0,1,2]) 35 pn ?_
   refine ae hE 3 [] [] (kp [0,4,5,6,7,53,54]) (kq [0,1,2]) 51 pn ?_
   refine sA 1 [.code (fo 4050),.code (fo 4051),.inLoop (fo 1012),.inBlock 2,.code (fo 127)] ?_
   refine sC 54 (fo 8100) (fo 8101) true (fun _=>?_) (fun hq=>absurd hq (by decide)) 
   refine ae hE 4 [] [] (kp [0,4,5,6,7,11,53]) (kq [0,1,2]) 83 pn ?_
   obtain ⟨av,qz,h⟩:=aQ h
   refine ae hE 1 [(4,oT (.agg (aj av)))] [] (kp [0,4,5,6,7,11,12,13,53]) (kq [0,1,2,243,259]) 307 (pc (show 0≤(0:Int)∧(0:Int) < 3 by decide) (pc o1 (pc (show Sd 49 [(.agg [(aB false),.nil,(aB false),.nil]),(.agg (aj ao.e0))] [] 0 (.agg (aj av)) [] from (Sound.conv (fk _ _ _ _ qz) (.cons (Alike.agg (.cons (Alike.refl _) (.cons Alike.nil (.cons (Alike.refl _) (.cons Alike.nil .nil))))) (.cons (Alike.refl _) .nil)))) (pc (show 0≤(0:Int)∧(0:Int) < 3 by decide) (pc o1 (pc o1 (pc o1 pn))))))) ?_
   refine ae hE 2 [] [] (kp [0,4,5,6,7,11,12,13,53,66,67,68]) (kq [0,1,2,243,259]) 355 pn ?_
   exact cV hE 2 [] (kp [0,4,5,6,7,11,12,13,53,66,67,68]) (kq [0,1,2] ++ [(3,.var 243 [.o8 4,.ag,.ag,.ag,.ag]),(4,.nil 4 (fun zi=>aj (([]:List aa).getD zi aa.d))),(5,.var 259 [.o8 6,.ag,.ag,.ag,.ag]),(6,.nil 4 (fun zi=>aj (([]:List aa).getD zi aa.d)))]) 7 pn (Ax N _ _ _ _ N _ _ _ _ h E hE)
theorem DY (N l w r) (h:sb N l w=some r):Sd 22 [(aH ai.cells ai.d l),(.agg (dK.cells w))] [] 0 (.agg (aP.cells r)) []:=by
 unfold sb at h
 refine gU (fu:=Tryz.f22) (c:=fo 1) (nt:=137) (fun hm=>rfl) ?_
 intro E hE
 refine ae hE 1 [] [] (kp [0,3,4]) (kq [0,16]) 32 pn ?_
 refine ae hE 1 [] [] (kp [0,3,4,5]) (kq [0,16]) 80 pn ?_
 obtain ⟨ao,hr,h⟩:=aQ h
 refine ae hE 1 [(1,oT (.agg (ar.cells ao)))] [] (kp [0,4,5,6]) (kq [16,112]) 144 (pc o1 (pc (qA _ _ _ hr) (pc o1 pn))) ?_
 refine ae hE 1 [] [] (kp [0,4,5,6,7]) (kq [16,112]) 160 pn ?_
 refine ae hE 2 [] [] (kp [0,4,5,6,7,26,27]) (kq [16,112]) 192 pn ?_
 exact cV hE 2 [] (kp [0,4,5,6] ++ [(7,.o8 2)] ++ kp [26,27]) [(0,.ag 16),(1,.ag 112),(2,.nil 5 (fun zi=>wX (([]:List af).getD zi af.d)))] 3 pn (Ay N _ _ N _ _ _ h E hE)
noncomputable abbrev SN:=bV Tryz.f23
def DZ (N:Nat) (s:ByteArray) (K:Int→Option (Bool)):Prop:=∀ (i:Int) (r:Bool),K i=some r→∀ E,bq E 0→aD Tryz.prog E 23 55 (bd E [] (aB r)) [.code (SN 116),.inLoop (SN 116),.inBlock 0,.code (SN 15)] ⟨[(0,(aS s)),(3,(aI i))],[],0⟩
theorem CM (N s fuel):DZ N s (jX N s fuel):=by
 induction fuel with
 | zero=>intro _ r h;rw [jX.eq_1] at h;cases h
 | succ fuel ih =>
  intro i r h E hE
  rw [jX.eq_2] at h
  refine ae hE 2 [] [] (kp [0,3,17]) [] 64 pn ?_
  refine dm 0 17 h (fun jh h=>?_) (fun jh h=>?_)
  ·obtain ⟨c,h⟩:=ab h
   refine ae hE 4 [] [] (kp [0,3,4]) [] 128 (pc c pn) ?_
   refine ae hE 1 [] [] (kp [0,3,4,5]) [] 368 (pc (fun hg:(decide ((zA s i)≥97))=true=>(pc hg pn)) (pc (fun hq:(decide ((zA s i)≥97))=true=>(pc hq pn)) (pc (fun hg:(!(cond (decide ((zA s i)≥97)) (decide ((zA s i)≤122)) false))=true=>(pc hg pn)) (pc (fun hg:((!(cond (decide ((zA s i)≥97)) (decide ((zA s i)≤122)) false)) && ((!(cond (decide ((zA s i)≥97)) (decide ((zA s i)≤122)) false)) && (decide ((zA s i)≥65))))=true=>(pc hg pn)) (pc (fun hg:(!(cond (decide ((zA s i)≥97)) (decide ((zA s i)≤122)) false))=true=>(pc hg (pc hg (pc (fun hq:(decide ((zA s i)≥65))=true=>(pc (show ((!(cond (decide ((zA s i)≥97)) (decide ((zA s i)≤122)) false)) && ((!(cond (decide ((zA s i)≥97)) (decide ((zA s i)≤122)) false)) && (decide ((zA s i)≥65))))=true from (lU hg (lU hg hq))) pn)) pn)))) (pc (fun hq:(!(cond (decide ((zA s i)≥97)) (decide ((zA s i)≤122)) false))=true=>(pc hq pn)) pn)))))) ?_
   refine ae hE 1 [] [] (kp [0,3,54]) [] 656 (pc (fun hg:(!(cond (cond (decide ((zA s i)≥97)) (decide ((zA s i)≤122)) false) true (cond (decide ((zA s i)≥65)) (decide ((zA s i)≤90)) false)))=true=>(pc hg pn)) (pc (fun hg:((!(cond (cond (decide ((zA s i)≥97)) (decide ((zA s i)≤122)) false) true (cond (decide ((zA s i)≥65)) (decide ((zA s i)≤90)) false))) && ((!(cond (cond (decide ((zA s i)≥97)) (decide ((zA s i)≤122)) false) true (cond (decide ((zA s i)≥65)) (decide ((zA s i)≤90)) false))) && (!(i == 0))))=true=>(pc hg pn)) (pc (fun hg:(((!(cond (cond (decide ((zA s i)≥97)) (decide ((zA s i)≤122)) false) true (cond (decide ((zA s i)≥65)) (decide ((zA s i)≤90)) false))) && ((!(cond (cond (decide ((zA s i)≥97)) (decide ((zA s i)≤122)) false) true (cond (decide ((zA s i)≥65)) (decide ((zA s i)≤90)) false))) && (!(i == 0)))) && (((!(cond (cond (decide ((zA s i)≥97)) (decide ((zA s i)≤122)) false) true (cond (decide ((zA s i)≥65)) (decide ((zA s i)≤90)) false))) && ((!(cond (cond (decide ((zA s i)≥97)) (decide ((zA s i)≤122)) false) true (cond (decide ((zA s i)≥65)) (decide ((zA s i)≤90)) false))) && (!(i == 0)))) && ((zA s i) != 45)))=true=>(pc hg pn)) (pc (fun hg:((((!(cond (cond (decide ((zA s i)≥97)) (decide ((zA s i)≤122)) false) true (cond (decide ((zA s i)≥65)) (decide ((zA s i)≤90)) false))) && ((!(cond (cond (decide ((zA s i)≥97)) (decide ((zA s i)≤122)) false) true (cond (decide ((zA s i)≥65)) (decide ((zA s i)≤90)) false))) && (!(i == 0)))) && (((!(cond (cond (decide ((zA s i)≥97)) (decide ((zA s i)≤122)) false) true (cond (decide ((zA s i)≥65)) (decide ((zA s i)≤90)) false))) && ((!(cond (cond (decide ((zA s i)≥97)) (decide ((zA s i)≤122)) false) true (cond (decide ((zA s i)≥65)) (decide ((zA s i)≤90)) false))) && (!(i == 0)))) && ((zA s i) != 45))) && ((((!(cond (cond (decide ((zA s i)≥97)) (decide ((zA s i)≤122)) false) true (cond (decide ((zA s i)≥65)) (decide ((zA s i)≤90)) false))) && ((!(cond (cond (decide ((zA s i)≥97)) (decide ((zA s i)≤122)) false) true (cond (decide ((zA s i)≥65)) (decide ((zA s i)≤90)) false))) && (!(i == 0)))) && (((!(cond (cond (decide ((zA s i)≥97)) (decide ((zA s i)≤122)) false) true (cond (decide ((zA s i)≥65)) (decide ((zA s i)≤90)) false))) && ((!(cond (cond (decide ((zA s i)≥97)) (decide ((zA s i)≤122)) false) true (cond (decide ((zA s i)≥65)) (decide ((zA s i)≤90)) false))) && (!(i == 0)))) && ((zA s i) != 45))) && (!(decide ((zA s i) < 48)))))=true=>(pc hg pn)) (pc (fun hg:(((!(cond (cond (decide ((zA s i)≥97)) (decide ((zA s i)≤122)) false) true (cond (decide ((zA s i)≥65)) (decide ((zA s i)≤90)) false))) && ((!(cond (cond (decide ((zA s i)≥97)) (decide ((zA s i)≤122)) false) true (cond (decide ((zA s i)≥65)) (decide ((zA s i)≤90)) false))) && (!(i == 0)))) && (((!(cond (cond (decide ((zA s i)≥97)) (decide ((zA s i)≤122)) false) true (cond (decide ((zA s i)≥65)) (decide ((zA s i)≤90)) false))) && ((!(cond (cond (decide ((zA s i)≥97)) (decide ((zA s i)≤122)) false) true (cond (decide ((zA s i)≥65)) (decide ((zA s i)≤90)) false))) && (!(i == 0)))) && ((zA s i) != 45)))=true=>(pc hg (pc hg (pc (fun hq:(!(decide ((zA s i) < 48)))=true=>(pc (show ((((!(cond (cond (decide ((zA s i)≥97)) (decide ((zA s i)≤122)) false) true (cond (decide ((zA s i)≥65)) (decide ((zA s i)≤90)) false))) && ((!(cond (cond (decide ((zA s i)≥97)) (decide ((zA s i)≤122)) false) true (cond (decide ((zA s i)≥65)) (decide ((zA s i)≤90)) false))) && (!(i == 0)))) && (((!(cond (cond (decide ((zA s i)≥97)) (decide ((zA s i)≤122)) false) true (cond (decide ((zA s i)≥65)) (decide ((zA s i)≤90)) false))) && ((!(cond (cond (decide ((zA s i)≥97)) (decide ((zA s i)≤122)) false) true (cond (decide ((zA s i)≥65)) (decide ((zA s i)≤90)) false))) && (!(i == 0)))) && ((zA s i) != 45))) && ((((!(cond (cond (decide ((zA s i)≥97)) (decide ((zA s i)≤122)) false) true (cond (decide ((zA s i)≥65)) (decide ((zA s i)≤90)) false))) && ((!(cond (cond (decide ((zA s i)≥97)) (decide ((zA s i)≤122)) false) true (cond (decide ((zA s i)≥65)) (decide ((zA s i)≤90)) false))) && (!(i == 0)))) && (((!(cond (cond (decide ((zA s i)≥97)) (decide ((zA s i)≤122)) false) true (cond (decide ((zA s i)≥65)) (decide ((zA s i)≤90)) false))) && ((!(cond (cond (decide ((zA s i)≥97)) (decide ((zA s i)≤122)) false) true (cond (decide ((zA s i)≥65)) (decide ((zA s i)≤90)) false))) && (!(i == 0)))) && ((zA s i) != 45))) && (!(decide ((zA s i) < 48)))))=true from (lU hg (lU hg hq))) pn)) pn)))) (pc (fun hg:((!(cond (cond (decide ((zA s i)≥97)) (decide ((zA s i)≤122)) false) true (cond (decide ((zA s i)≥65)) (decide ((zA s i)≤90)) false))) && ((!(cond (cond (decide ((zA s i)≥97)) (decide ((zA s i)≤122)) false) true (cond (decide ((zA s i)≥65)) (decide ((zA s i)≤90)) false))) && (!(i == 0))))=true=>(pc hg (pc hg (pc (fun hq:((zA s i) != 45)=true=>(pc (show (((!(cond (cond (decide ((zA s i)≥97)) (decide ((zA s i)≤122)) false) true (cond (decide ((zA s i)≥65)) (decide ((zA s i)≤90)) false))) && ((!(cond (cond (decide ((zA s i)≥97)) (decide ((zA s i)≤122)) false) true (cond (decide ((zA s i)≥65)) (decide ((zA s i)≤90)) false))) && (!(i == 0)))) && (((!(cond (cond (decide ((zA s i)≥97)) (decide ((zA s i)≤122)) false) true (cond (decide ((zA s i)≥65)) (decide ((zA s i)≤90)) false))) && ((!(cond (cond (decide ((zA s i)≥97)) (decide ((zA s i)≤122)) false) true (cond (decide ((zA s i)≥65)) (decide ((zA s i)≤90)) false))) && (!(i == 0)))) && ((zA s i) != 45)))=true from (lU hg (lU hg hq))) pn)) pn)))) (pc (fun hg:(!(cond (cond (decide ((zA s i)≥97)) (decide ((zA s i)≤122)) false) true (cond (decide ((zA s i)≥65)) (decide ((zA s i)≤90)) false)))=true=>(pc hg (pc hg (pc (fun hq:(!(i == 0))=true=>(pc (show ((!(cond (cond (decide ((zA s i)≥97)) (decide ((zA s i)≤122)) false) true (cond (decide ((zA s i)≥65)) (decide ((zA s i)≤90)) false))) && ((!(cond (cond (decide ((zA s i)≥97)) (decide ((zA s i)≤122)) false) true (cond (decide ((zA s i)≥65)) (decide ((zA s i)≤90)) false))) && (!(i == 0))))=true from (lU hg (lU hg hq))) pn)) pn)))) (pc (fun hq:(!(cond (cond (decide ((zA s i)≥97)) (decide ((zA s i)≤122)) false) true (cond (decide ((zA s i)≥65)) (decide ((zA s i)≤90)) false)))=true=>(pc hq pn)) pn)))))))) ?_
   refine dm 0 54 h (fun ta h=>?_) (fun ta h=>?_)
   ·refine ae hE 1 [] [] (kp [2]) [] 672 pn ?_
    obtain rfl:=cJ h
    exact cP hE 0 Tryz.f23 [] (kp [2]) [] 672 pn [] pn
   ·refine ae hE 2 [] [] (kp [0,3]) [] 704 pn ?_
    exact cV hE 1 [] (kp [0,3]) [] 0 pn (ih _ _ h E hE)
  ·refine ae hE 2 [] [] (kp [2]) [] 80 pn ?_
   obtain rfl:=cJ h
   exact cP hE 0 Tryz.f23 [] (kp [2]) [] 80 pn [] pn
theorem GY (N s r) (h:sY N s=some r):Sd 23 [(aS s)] [] 0 (aB r) []:=by
 unfold sY at h
 refine gU (fu:=Tryz.f23) (c:=SN 1) (nt:=55) (fun hm=>rfl) ?_
 intro E hE
 refine ae hE 1 [] [] (kp [0]) [] 16 pn ?_
 refine ae hE 2 [] [] (kp [0,13]) [] 144 (pc (fun hg:(!(decide (((s.size:Nat):Int) < 1)))=true=>(pc hg pn)) (pc (fun hg:(!(decide (((s.size:Nat):Int) < 1)))=true=>(pc hg pn)) (pc (fun hq:(!(decide (((s.size:Nat):Int) < 1)))=true=>(pc hq pn)) pn))) ?_
 refine dm 0 13 h (fun dW h=>?_) (fun dW h=>?_)
 ·refine ae hE 1 [] [] (kp [2]) [] 160 pn ?_
  obtain rfl:=cJ h
  exact cP hE 0 Tryz.f23 [] (kp [2]) [] 160 pn [] pn
 ·refine ae hE 3 [] [] (kp [0,3]) [] 160 pn ?_
  exact cV hE 2 [] (kp [0,3]) [] 0 pn (CM N _ N _ _ h E hE)
noncomputable abbrev Z1:=bV Tryz.f25
theorem im (N n low high r) (h:gn N n low high=some r):Sd 25 [(aI n),(aI low),(aI high)] [] 0 (aB r) []:=by
 unfold gn at h
 refine gU (fu:=Tryz.f25) (c:=Z1 1) (nt:=15) (fun hm=>rfl) ?_
 intro E hE
 refine ae hE 1 [] [] (kp [0,1,2]) [] 16 pn ?_
 refine ae hE 1 [] [] (kp [6]) [] 160 (pc (fun hg:(decide (n≥low))=true=>(pc hg (pc hg pn))) (pc (fun hq:(decide (n≥low))=true=>(pc hq pn)) pn)) ?_
 obtain rfl:=cJ h
 exact cP hE 0 Tryz.f25 [] (kp [6]) [] 160 pn [] pn
noncomputable abbrev Z2:=bV Tryz.f24
theorem Az (N l r) (h:mw N l=some r):Sd 24 [(.agg (ai.cells l))] [] 0 (aI r) []:=by
 unfold mw at h
 refine gU (fu:=Tryz.f24) (c:=Z2 1) (nt:=43) (fun hm=>rfl) ?_
 intro E hE
 refine ae hE 1 [] [] (kp [1]) (kq [0]) 32 pn ?_
 obtain ⟨xm,hr,h⟩:=aQ h
 obtain ⟨qy,eJ,h⟩:=aQ h
 obtain ⟨x9,jP,h⟩:=aQ h
 obtain ⟨Kf,mz,h⟩:=aQ h
 obtain ⟨U9,qz,h⟩:=aQ h
 refine ae hE 2 [(2,oT (aB xm)),(7,oT (aB qy)),(13,oT (aB x9)),(19,oT (aB Kf)),(25,oT (aB U9))] [] (kp [1,30]) (kq [0]) 480 (pc o1 (pc (im _ _ _ _ _ hr) (pc (fun hg:(!(!xm))=true=>(pc hg (pc o1 pn))) (pc (fun hg:(!(!xm))=true=>(pc (im _ _ _ _ _ (aF eJ hg)) (pc hg pn))) (pc (fun hg:(!(!xm))=true=>(pc hg pn)) (pc (fun hq:(!(!xm))=true=>(pc hq pn)) (pc (fun hg:(!(cond (!xm) true (!qy)))=true=>(pc hg (pc o1 pn))) (pc (fun hg:(!(cond (!xm) true (!qy)))=true=>(pc (im _ _ _ _ _ (aF jP hg)) (pc hg pn))) (pc (fun hg:(!(cond (!xm) true (!qy)))=true=>(pc hg pn)) (pc (fun hq:(!(cond (!xm) true (!qy)))=true=>(pc hq pn)) (pc (fun hg:(!(cond (cond (!xm) true (!qy)) true (!x9)))=true=>(pc hg (pc o1 pn))) (pc (fun hg:(!(cond (cond (!xm) true (!qy)) true (!x9)))=true=>(pc (im _ _ _ _ _ (aF mz hg)) (pc hg pn))) (pc (fun hg:(!(cond (cond (!xm) true (!qy)) true (!x9)))=true=>(pc hg pn)) (pc (fun hq:(!(cond (cond (!xm) true (!qy)) true (!x9)))=true=>(pc hq pn)) (pc (fun hg:(!(cond (cond (cond (!xm) true (!qy)) true (!x9)) true (!Kf)))=true=>(pc hg (pc o1 pn))) (pc (fun hg:(!(cond (cond (cond (!xm) true (!qy)) true (!x9)) true (!Kf)))=true=>(pc (im _ _ _ _ _ (aF qz hg)) (pc hg pn))) (pc (fun hg:(!(cond (cond (cond (!xm) true (!qy)) true (!x9)) true (!Kf)))=true=>(pc hg pn)) (pc (fun hq:(!(cond (cond (cond (!xm) true (!qy)) true (!x9)) true (!Kf)))=true=>(pc hq pn)) pn)))))))))))))))))) ?_
 refine dm 0 30 h (fun dW h=>?_) (fun dW h=>?_)
 ·refine ae hE 1 [] [] (kp [2]) [] 496 pn ?_
  obtain rfl:=cJ h
  exact cP hE 0 Tryz.f24 [] (kp [2]) [] 496 pn [] pn
 ·refine ae hE 3 [] [] (kp [42]) [] 672 (pc o1 (pc o1 (pc (fun hg:(l.iZ == l.b9)=true=>(pc hg (pc o1 pn))) (pc (fun hg:(l.iZ == l.b9)=true=>(pc hg (pc o1 pn))) (pc (fun hg:(l.iZ == l.b9)=true=>(pc hg (pc hg pn))) (pc (fun hq:(l.iZ == l.b9)=true=>(pc hq pn)) pn)))))) ?_
  refine dm 0 42 h (fun jh h=>?_) (fun jh h=>?_)
  ·refine ae hE 1 [] [] (kp [2]) [] 688 pn ?_
   obtain rfl:=cJ h
   exact cP hE 0 Tryz.f24 [] (kp [2]) [] 688 pn [] pn
  ·refine ae hE 2 [] [] (kp [2]) [] 688 pn ?_
   obtain rfl:=cJ h
   exact cP hE 0 Tryz.f24 [] (kp [2]) [] 688 pn [] pn
noncomputable abbrev GZ:=bV Tryz.f9
def ql (N:Nat) (l:List ai) (K:Int→Option (Int)):Prop:=∀ (i:Int) (r:Int),K i=some r→∀ E,bq E 0→aD Tryz.prog E 9 46 (bd E [] (aI r)) [.code (GZ 116),.inLoop (GZ 116),.inBlock 0,.code (GZ 15)] ⟨[(0,(aH ai.cells ai.d l)),(3,(aI i))],[],0⟩
def xx (N:Nat) (l:List ai) (i:Int) (K:Int→Option (Int)):Prop:=∀ (k:Int) (r:Int),K k=some r→∀ E,bq E 0→aD Tryz.prog E 9 46 (bd E [] (aI r)) [.code (GZ 29844),.inLoop (GZ 29844),.inBlock 2,.code (GZ 3731),.inBlock 1,.code (GZ 467),.inLoop (GZ 116),.inBlock 0,.code (GZ 15)] ⟨[(0,(aH ai.cells ai.d l)),(3,(aI i)),(4,(aI k))],[],0⟩
theorem wF (N:Nat) (l:List ai) (i:Int) (iJ:Int→Option (Int)) (wG:ql N l iJ) (fuel:Nat):xx N l i (dP N l i iJ fuel):=by
 induction fuel with
 | zero=>intro _ r h;rw [dP.eq_1] at h;cases h
 | succ fuel ih =>
  intro k r h E hE
  rw [dP.eq_2] at h
  refine ae hE 2 [] [] (kp [0,3,4,24]) [] 48 pn ?_
  refine dm 0 24 h (fun CE h=>?_) (fun CE h=>?_)
  ·obtain ⟨c2,h⟩:=ab h
   obtain ⟨c3,h⟩:=ab h
   refine ae hE 4 [] [] (kp [0,3,4,37]) [] 224 (pc c2 (pc c3 pn)) ?_
   refine dm 0 37 h (fun IQ h=>?_) (fun IQ h=>?_)
   ·refine ae hE 1 [] [] (kp [2]) [] 240 pn ?_
    obtain rfl:=cJ h
    exact cP hE 0 Tryz.f9 [] (kp [2]) [] 240 pn [] pn
   ·refine ae hE 2 [] [] (kp [0,3,4]) [] 272 pn ?_
    exact cV hE 1 [] (kp [0,3,4]) [] 0 pn (ih _ _ h E hE)
  ·obtain ⟨c4,h⟩:=ab h
   obtain ⟨l6,eJ,h⟩:=aQ h
   refine ae hE 2 [(4,oT (aI l6))] [] (kp [0,3,5]) [] 144 (pc c4 (pc (Az _ _ _ eJ) pn)) ?_
   refine ae hE 1 [] [] (kp [0,3,5,44]) [] 176 pn ?_
   refine dm 0 44 h (fun SD h=>?_) (fun SD h=>?_)
   ·refine ae hE 1 [] [] (kp [2]) [] 208 pn ?_
    obtain rfl:=cJ h
    exact cP hE 0 Tryz.f9 [] (kp [2]) [] 208 pn [] pn
   ·refine ae hE 2 [] [] (kp [0,3]) [] 224 pn ?_
    exact cV hE 1 [] (kp [0,3]) [] 0 pn (wG _ _ h E hE)
theorem wH (N l fuel):ql N l (eK N l fuel):=by
 induction fuel with
 | zero=>intro _ r h;rw [eK.eq_1] at h;cases h
 | succ fuel ih =>
  intro i r h E hE
  rw [eK.eq_2] at h
  refine ae hE 2 [] [] (kp [0,3,12]) [] 64 pn ?_
  refine dm 0 12 h (fun jh h=>?_) (fun jh h=>?_)
  ·obtain ⟨c,h⟩:=ab h
   obtain ⟨IK,hr,h⟩:=aQ h
   refine ae hE 5 [(5,oT (aB IK))] [] (kp [0,3,21]) [] 176 (pc c (pc (GY _ _ _ hr) pn)) ?_
   refine dm 0 21 h (fun ta h=>?_) (fun ta h=>?_)
   ·refine ae hE 1 [] [] (kp [2]) [] 192 pn ?_
    obtain rfl:=cJ h
    exact cP hE 0 Tryz.f9 [] (kp [2]) [] 192 pn [] pn
   ·refine ae hE 3 [] [] (kp [0,3,4]) [] 192 pn ?_
    exact cV hE 2 [] (kp [0,3,4]) [] 0 pn (wF N _ _ _ ih N _ _ h E hE)
  ·refine ae hE 2 [] [] (kp [2]) [] 80 pn ?_
   obtain rfl:=cJ h
   exact cP hE 0 Tryz.f9 [] (kp [2]) [] 80 pn [] pn
theorem rR (N l r) (h:iT N l=some r):Sd 9 [(aH ai.cells ai.d l)] [] 0 (aI r) []:=by
 unfold iT at h
 refine gU (fu:=Tryz.f9) (c:=GZ 1) (nt:=46) (fun hm=>rfl) ?_
 intro E hE
 refine ae hE 1 [] [] (kp [0]) [] 16 pn ?_
 refine ae hE 2 [] [] (kp [0,8]) [] 64 pn ?_
 refine dm 0 8 h (fun dW h=>?_) (fun dW h=>?_)
 ·refine ae hE 1 [] [] (kp [2]) [] 80 pn ?_
  obtain rfl:=cJ h
  exact cP hE 0 Tryz.f9 [] (kp [2]) [] 80 pn [] pn
 ·refine ae hE 3 [] [] (kp [0,3]) [] 80 pn ?_
  exact cV hE 2 [] (kp [0,3]) [] 0 pn (wH N _ N _ _ h E hE)
noncomputable abbrev Z3:=bV Tryz.f10
theorem tn (N w r) (h:jC N w=some r):Sd 10 [(.agg (dK.cells w))] [] 0 (aI r) []:=by
 unfold jC at h
 refine gU (fu:=Tryz.f10) (c:=Z3 1) (nt:=19) (fun hm=>rfl) ?_
 intro E hE
 refine ae hE 1 [] [] (kp [1]) (kq [0]) 32 pn ?_
 obtain ⟨xm,hr,h⟩:=aQ h
 obtain ⟨qy,eJ,h⟩:=aQ h
 obtain ⟨x9,jP,h⟩:=aQ h
 refine ae hE 2 [(2,oT (aB xm)),(7,oT (aB qy)),(13,oT (aB x9))] [] (kp [18]) [] 288 (pc o1 (pc (im _ _ _ _ _ hr) (pc (fun hg:(!(!xm))=true=>(pc hg (pc o1 pn))) (pc (fun hg:(!(!xm))=true=>(pc (im _ _ _ _ _ (aF eJ hg)) (pc hg pn))) (pc (fun hg:(!(!xm))=true=>(pc hg pn)) (pc (fun hq:(!(!xm))=true=>(pc hq pn)) (pc (fun hg:(!(cond (!xm) true (!qy)))=true=>(pc hg (pc o1 pn))) (pc (fun hg:(!(cond (!xm) true (!qy)))=true=>(pc (im _ _ _ _ _ (aF jP hg)) (pc hg pn))) (pc (fun hg:(!(cond (!xm) true (!qy)))=true=>(pc hg pn)) (pc (fun hq:(!(cond (!xm) true (!qy)))=true=>(pc hq pn)) pn)))))))))) ?_
 refine dm 0 18 h (fun dW h=>?_) (fun dW h=>?_)
 ·refine ae hE 1 [] [] (kp [2]) [] 304 pn ?_
  obtain rfl:=cJ h
  exact cP hE 0 Tryz.f10 [] (kp [2]) [] 304 pn [] pn
 ·refine ae hE 2 [] [] (kp [2]) [] 304 pn ?_
  obtain rfl:=cJ h
  exact cP hE 0 Tryz.f10 [] (kp [2]) [] 304 pn [] pn
noncomputable abbrev Z4:=bV Tryz.f11
theorem D1 (N l w r) (h:wj N l w=some r):Sd 11 [(aH ai.cells ai.d l),(.agg (dK.cells w))] [] 0 (.tup [(.agg (aP.cells r.1)),(aI r.2)]) []:=by
 unfold wj at h
 refine gU (fu:=Tryz.f11) (c:=Z4 1) (nt:=23) (fun hm=>rfl) ?_
 intro E hE
 refine ae hE 1 [] [] (kp [0,3,4]) (kq [0,16]) 48 pn ?_
 obtain ⟨cb,hr,h⟩:=aQ h
 refine ae hE 2 [(1,oT (aI cb))] [] (kp [0,3,4,6]) (kq [0,16]) 96 (pc (mU _ _ _ hr) pn) ?_
 refine ae hE 1 [] [] (kp [0,3,4,6,11]) (kq [0,16]) 128 pn ?_
 refine dm 0 11 h (fun dW h=>?_) (fun dW h=>?_)
 ·refine ae hE 1 [] [] (kp [4,5]) (kq [16]) 192 (pc o1 pn) ?_
  obtain rfl:=cJ h
  exact cP hE 0 Tryz.f11 [] (kp [4,5]) [(16,.var 16 [.ag,.sl (([]:List aa).length) (fun zi=>aj (([]:List aa).getD zi aa.d)),.sl (([]:List aa).length) (fun zi=>aj (([]:List aa).getD zi aa.d))])] 192 (pc (Eq.refl 0) (pc (Eq.refl 0) pn)) [16] (pc o1 pn)
 ·obtain ⟨l8,eJ,h⟩:=aQ h
  refine ae hE 3 [(1,oT (aI l8))] [] (kp [0,3,4,7]) (kq [0,16]) 176 (pc o1 (pc (rf _ _ _ eJ) pn)) ?_
  refine ae hE 1 [] [] (kp [0,3,4,7,17]) (kq [0,16]) 208 pn ?_
  refine dm 0 17 h (fun jh h=>?_) (fun jh h=>?_)
  ·refine ae hE 1 [] [] (kp [4,5]) (kq [16]) 272 (pc o1 pn) ?_
   obtain rfl:=cJ h
   exact cP hE 0 Tryz.f11 [] (kp [4,5]) [(16,.var 16 [.ag,.sl (([]:List aa).length) (fun zi=>aj (([]:List aa).getD zi aa.d)),.sl (([]:List aa).length) (fun zi=>aj (([]:List aa).getD zi aa.d))])] 272 (pc (Eq.refl 0) (pc (Eq.refl 0) pn)) [16] (pc o1 pn)
  ·obtain ⟨Qg,jP,h⟩:=aQ h
   refine ae hE 2 [(2,oT (.agg (aP.cells Qg)))] [] (kp [4,5]) (kq [16]) 288 (pc o1 (pc (DY _ _ _ _ jP) (pc o1 pn))) ?_
   obtain rfl:=cJ h
   exact cP hE 0 Tryz.f11 [] (kp [4,5]) (kq [16]) 288 pn [16] (pc o1 pn)
noncomputable abbrev SO:=bV Tryz.f111
def D2 (N:Nat) (neg:Bool) (a:List Int) (K:(List Int)→Int→Option (bG)):Prop:=∀ (x:List Int) (i:Int) (r:bG),K x i=some r→∀ E,bq E 0→aD Tryz.prog E 111 31 (bd E [] (.agg (lk r))) [.code (SO 116),.inLoop (SO 116),.inBlock 0,.code (SO 15)] ⟨[(1,(aH cI 0 a)),(4,(.op 0 0 0)),(5,(.op 1 0 0)),(6,(aI i))],[(0,vO 2 [(aB false),.nil]),(1,vN 2 [(aB (cond neg (decide (((a.length:Nat):Int) > 0)) false)),(.os 2 0 x.length)]),(2,aU x)],3⟩
theorem CN (N neg a fuel):D2 N neg a (jY N neg a fuel):=by
 induction fuel with
 | zero=>intro _ _ r h;rw [jY.eq_1] at h;cases h
 | succ fuel ih =>
  intro x i r h E hE
  rw [jY.eq_2] at h
  refine ae hE 2 [] [] (kp [1,4,5,6,17]) (kq [0,1,2]) 67 pn ?_
  refine dm 0 17 h (fun dW h=>?_) (fun dW h=>?_)
  ·obtain ⟨c,h⟩:=ab h
   obtain ⟨c2,h⟩:=ab h
   refine ae hE 3 [] [] (kp [1,4,5,6]) (kq [0] ++ [(1,.var 1 [.ag,.kQ ((x ++ ([(IntKind.u16.wrap ((a.getD ((i).toNat) 0)))]:List Int)).length)]),(195,.arr 195 ((x ++ ([(IntKind.u16.wrap ((a.getD ((i).toNat) 0)))]:List Int)).length) (fun zi=>(cU .u16) ((x ++ ([(IntKind.u16.wrap ((a.getD ((i).toNat) 0)))]:List Int)).getD zi 0)))]) 243 (pc o1 (pc c (pc (Eq.refl x.length) (pc c2 (pc (z1 1) (pc (show ∀ zi,zi < 1→AV.iP ((fun zi=>([[(xn (IntKind.u16.wrap ((a.getD ((i).toNat) 0))))]]:List (List AV)).getD zi []) (bA 0 zi))=true from (qO rfl)) (pc o1 (pc (show (x.length+1)=(x ++ ([(IntKind.u16.wrap ((a.getD ((i).toNat) 0)))]:List Int)).length from (ax rfl rfl)) (pc (show x.length+1=(x ++ ([(IntKind.u16.wrap ((a.getD ((i).toNat) 0)))]:List Int)).length from (ax rfl rfl)) (pc (show ∀ zi,zi < (x ++ ([(IntKind.u16.wrap ((a.getD ((i).toNat) 0)))]:List Int)).length→(fun zi=>(cU .u16) ((x ++ ([(IntKind.u16.wrap ((a.getD ((i).toNat) 0)))]:List Int)).getD zi 0)) zi=((fun zm=>if zm < x.length then (fun zi=>(cU .u16) (x.getD zi 0)) zm else (fun zi=>([[(xn (IntKind.u16.wrap ((a.getD ((i).toNat) 0))))]]:List (List AV)).getD zi []) (zm - x.length))) zi from (bP (cU .u16) 0 x ([(IntKind.u16.wrap ((a.getD ((i).toNat) 0)))]:List Int) rfl (fun _ _=>rfl) (fun zq iw=>cg (cU .u16) 0 ([(IntKind.u16.wrap ((a.getD ((i).toNat) 0)))]:List Int) zq iw))) pn)))))))))) ?_
   refine ae hE 1 [] [] (kp [1,4,5,6]) (kq [0,1,195]) 291 pn ?_
   exact cV hE 1 [] (kp [1,4,5,6]) (kq [0,1] ++ [(2,.ag 195)]) 3 pn (ih _ _ _ h E hE)
  ·refine ae hE 2 [] [] (kp [4]) (kq [0,2]) 99 (pc o1 (pc o1 pn)) ?_
   obtain rfl:=cJ h
   exact cP hE 0 Tryz.f111 [2] (kp [4]) [(16,.var 0 [.ag,.sl (x.length) (fun zi=>(cU .u16) (x.getD zi 0))])] 99 (pc (Eq.refl x.length) (pc (z1 x.length) (pc (aZ x.length (fun zi=>(cU .u16) (x.getD zi 0))) pn))) [16] (pc o1 pn)
theorem jk (N neg a r) (h:fJ N neg a=some r):Sd 111 [(aB neg),(aH cI 0 a)] [] 0 (.agg (lk r)) []:=by
 unfold fJ at h
 refine gU (fu:=Tryz.f111) (c:=SO 1) (nt:=31) (fun hm=>rfl) ?_
 intro E hE
 refine ae hE 1 [] [] (kp [0,1,4]) (kq [0]) 16 pn ?_
 refine ae hE 1 [] [] (kp [1,4,5]) (kq [0,128]) 160 (pc (fun hg:neg=true=>(pc hg pn)) (pc (fun hg:neg=true=>(pc hg pn)) (pc (fun hq:neg=true=>(pc hq pn)) (pc o1 pn)))) ?_
 refine ae hE 2 [] [] (kp [1,4,5,6]) (kq [0,128]) 176 pn ?_
 exact cV hE 2 [] (kp [1,4,5,6]) (kq [0] ++ [(1,.var 128 [.ag,.o8 2]),(2,.nil 1 (fun zi=>(cU .u16) (([]:List Int).getD zi 0)))]) 3 pn (CN N _ _ N _ _ _ h E hE)
noncomputable abbrev SP:=bV Tryz.f93
def G0 (N:Nat) (n:Int) (K:(List Int)→Int→Option (bG)):Prop:=∀ (a:List Int) (u:Int) (r:bG),K a u=some r→∀ E,bq E 0→aD Tryz.prog E 93 25 (bd E [] (.agg (lk r))) [.code (SP 248),.inLoop (SP 248),.inBlock 0,.code (SP 63)] ⟨[(0,(aI n)),(2,(.op 0 0 0)),(3,(.os 1 0 a.length)),(4,(Jv u))],[(0,vO 2 [(aB false),.nil]),(1,aO 1 cI 0 a)],2⟩
theorem yp (N n fuel):G0 N n (lf N n fuel):=by
 induction fuel with
 | zero=>intro _ _ r h;rw [lf.eq_1] at h;cases h
 | succ fuel ih =>
  intro a u r h E hE
  rw [lf.eq_2] at h
  refine ae hE 2 [] [] (kp [0,2,3,4,12]) (kq [0,1]) 34 pn ?_
  refine dm 0 12 h (fun jh h=>?_) (fun jh h=>?_)
  ·obtain ⟨c,h⟩:=ab h
   refine ae hE 3 [] [] (kp [0,2] ++ [(3,.kQ ((a ++ ([(ah ((u.tmod 65536)))]:List Int)).length))] ++ kp [4]) (kq [0] ++ [(114,.arr 114 ((a ++ ([(ah ((u.tmod 65536)))]:List Int)).length) (fun zi=>cI ((a ++ ([(ah ((u.tmod 65536)))]:List Int)).getD zi 0)))]) 146 (pc (show (65536:Int)≠0 by decide) (pc (Eq.refl a.length) (pc c (pc (z1 1) (pc (show ∀ zi,zi < 1→AV.iP ((fun zi=>([[(aI (ah ((u.tmod 65536))))]]:List (List AV)).getD zi []) (bA 0 zi))=true from (qO rfl)) (pc (show (a.length+1)=(a ++ ([(ah ((u.tmod 65536)))]:List Int)).length from (ax rfl rfl)) (pc (show a.length+1=(a ++ ([(ah ((u.tmod 65536)))]:List Int)).length from (ax rfl rfl)) (pc (show ∀ zi,zi < (a ++ ([(ah ((u.tmod 65536)))]:List Int)).length→(fun zi=>cI ((a ++ ([(ah ((u.tmod 65536)))]:List Int)).getD zi 0)) zi=((fun zm=>if zm < a.length then (fun zi=>cI (a.getD zi 0)) zm else (fun zi=>([[(aI (ah ((u.tmod 65536))))]]:List (List AV)).getD zi []) (zm - a.length))) zi from (bP cI 0 a ([(ah ((u.tmod 65536)))]:List Int) rfl (fun _ _=>rfl) (fun zq iw=>cg cI 0 ([(ah ((u.tmod 65536)))]:List Int) zq iw))) pn)))))))) ?_
   refine ae hE 1 [] [] (kp [0,2,3,4]) (kq [0,114]) 194 (pc (show (65536:Int)≠0 by decide) pn) ?_
   exact cV hE 1 [] (kp [0,2,3,4]) (kq [0] ++ [(1,.ag 114)]) 2 pn (ih _ _ _ h E hE)
  ·obtain ⟨pY,hr,h⟩:=aQ h
   refine ae hE 2 [(3,⟨[],true,(.agg (lk pY)),[],0,true,none⟩)] [] (kp [2]) (kq [0]) 114 (pc (jk _ _ _ _ hr) (pc (z1 a.length) (pc o1 pn))) ?_
   obtain rfl:=cJ h
   exact cP hE 0 Tryz.f93 [] (kp [2]) [(16,.ag 0)] 114 pn [16] (pc o1 pn)
theorem yq (N n r) (h:qW N n=some r):Sd 93 [(aI n)] [] 0 (.agg (lk r)) []:=by
 unfold qW at h
 refine gU (fu:=Tryz.f93) (c:=SP 1) (nt:=25) (fun hm=>rfl) ?_
 intro E hE
 refine ae hE 1 [] [] (kp [0,2]) (kq [0]) 16 pn ?_
 refine ae hE 1 [] [] (kp [0,2,3]) (kq [0]) 32 pn ?_
 refine ae hE 1 [] [] (kp [0,2,3,4]) (kq [0]) 80 pn ?_
 refine ae hE 2 [] [] (kp [0,2,3,4,8]) (kq [0]) 112 pn ?_
 refine dm 0 8 h (fun dW h=>?_) (fun dW h=>?_)
 ·refine ae hE 0 [] [] (kp [0,2,3,4]) (kq [0]) 160 pn ?_
  exact cV hE 3 [] (kp [0,2] ++ [(3,.o8 1)] ++ kp [4]) (kq [0] ++ [(1,.nil 1 (fun zi=>cI (([]:List Int).getD zi 0)))]) 2 pn (yp N _ N _ _ _ h E hE)
 ·exact cV hE 4 [] (kp [0,2] ++ [(3,.o8 1)] ++ kp [4]) (kq [0] ++ [(1,.nil 1 (fun zi=>cI (([]:List Int).getD zi 0)))]) 2 pn (yp N _ N _ _ _ h E hE)
noncomputable abbrev Z5:=bV Tryz.f54
theorem kr (N n r) (h:m6 N n=some r):Sd 54 [(aI n)] [] 0 (.agg (aj r)) []:=by
 unfold m6 at h
 refine gU (fu:=Tryz.f54) (c:=Z5 1) (nt:=7) (fun hm=>rfl) ?_
 intro E hE
 refine ae hE 1 [] [] (kp [0,2]) (kq [0]) 16 pn ?_
 obtain ⟨GG,hr,h⟩:=aQ h
 obtain ⟨LH,eJ,h⟩:=aQ h
 refine ae hE 1 [(1,oT (.agg (lk GG))),(2,oT (.agg (lk LH)))] [] (kp [2]) (kq [0]) 96 (pc (yq _ _ _ hr) (pc (yq _ _ _ eJ) (pc o1 pn))) ?_
 obtain rfl:=cJ h
 exact cP hE 0 Tryz.f54 [] (kp [2]) [(16,.ag 0)] 96 pn [16] (pc o1 pn)
noncomputable abbrev Z6:=bV Tryz.f51
theorem yr (N w r) (h:qX N w=some r):Sd 51 [(.agg (dK.cells w))] [] 0 (.agg (ar.cells r)) []:=by
 unfold qX at h
 refine gU (fu:=Tryz.f51) (c:=Z6 1) (nt:=13) (fun hm=>rfl) ?_
 intro E hE
 refine ae hE 1 [] [] (kp [1,2]) (kq [0,16]) 32 pn ?_
 obtain ⟨rQ,hr,h⟩:=aQ h
 obtain ⟨Va,eJ,h⟩:=aQ h
 obtain ⟨Vb,jP,h⟩:=aQ h
 refine ae hE 1 [(2,oT (.agg (aj rQ))),(5,oT (.agg (aj Va))),(8,oT (.agg (aj Vb)))] [] (kp [2]) (kq [16]) 208 (pc o1 (pc (kr _ _ _ hr) (pc o1 (pc (kr _ _ _ eJ) (pc o1 (pc (kr _ _ _ jP) (pc o1 pn))))))) ?_
 obtain rfl:=cJ h
 exact cP hE 0 Tryz.f51 [] (kp [2]) (kq [16]) 208 pn [16] (pc o1 pn)
noncomputable abbrev SQ:=bV Tryz.f129
def D3 (N:Nat) (a:List Int) (K:Int→Option ((List Int))):Prop:=∀ (n:Int) (r:(List Int)),K n=some r→∀ E,bq E 0→aD Tryz.prog E 129 23 (bd E [] (aH cI 0 r)) [.code (SQ 56),.inLoop (SQ 56),.inBlock 0,.code (SQ 15)] ⟨[(0,(aH cI 0 a)),(3,(aI n))],[],0⟩
theorem CO (N a fuel):D3 N a (jZ N a fuel):=by
 induction fuel with
 | zero=>intro _ r h;rw [jZ.eq_1] at h;cases h
 | succ fuel ih =>
  intro n r h E hE
  rw [jZ.eq_2] at h
  obtain ⟨c,h⟩:=ab h
  refine ae hE 2 [] [] (kp [0,3,15]) [] 160 (pc (fun hg:(decide (n > 0))=true=>(pc hg pn)) (pc (fun hg:(decide (n > 0))=true=>(pc hg (pc hg (pc (c hg) pn)))) (pc (fun hg:(decide (n > 0))=true=>(pc hg pn)) (pc (fun hg:(decide (n > 0))=true=>(pc hg pn)) (pc (fun hq:(decide (n > 0))=true=>(pc hq pn)) pn))))) ?_
  refine dm 0 15 h (fun dW h=>?_) (fun dW h=>?_)
  ·refine ae hE 2 [] [] (kp [0,3]) [] 208 pn ?_
   exact cV hE 2 [] (kp [0,3]) [] 0 pn (ih _ _ h E hE)
  ·obtain ⟨c2,h⟩:=ab h
   obtain ⟨c3,h⟩:=ab h
   obtain ⟨c4,h⟩:=ab h
   refine ae hE 2 [] [] [(2,.kQ ((([]:List Int) ++ ((a.take ((n).toNat)).drop 0)).length))] [(224,.arr 224 ((([]:List Int) ++ ((a.take ((n).toNat)).drop 0)).length) (fun zi=>cI ((([]:List Int) ++ ((a.take ((n).toNat)).drop 0)).getD zi 0)))] 256 (pc c2 (pc c3 (pc (Eq.refl 0) (pc c4 (pc (show ∀ zi,zi < ((n).toNat - 0)→AV.iP ((fun zi=>cI (a.getD (bA 0 zi) 0)) zi)=true from (fun _ _=>rfl)) (pc (show (0+((n).toNat - 0))=(([]:List Int) ++ ((a.take ((n).toNat)).drop 0)).length from (ax rfl (xY a 0 ((n).toNat) c2))) (pc (show 0+((n).toNat - 0)=(([]:List Int) ++ ((a.take ((n).toNat)).drop 0)).length from (ax rfl (xY a 0 ((n).toNat) c2))) (pc (show ∀ zi,zi < (([]:List Int) ++ ((a.take ((n).toNat)).drop 0)).length→(fun zi=>cI ((([]:List Int) ++ ((a.take ((n).toNat)).drop 0)).getD zi 0)) zi=((fun zm=>if zm < 0 then (fun _=>[]) zm else (fun zi=>cI (a.getD (bA 0 zi) 0)) (zm - 0))) zi from (bP cI 0 ([]:List Int) ((a.take ((n).toNat)).drop 0) rfl (fun zq iw=>absurd iw (dX _)) (fun zq iw=>En cI 0 a 0 ((n).toNat) zq iw))) pn)))))))) ?_
   obtain rfl:=cJ h
   exact cP hE 0 Tryz.f129 [224] [(2,.sl ((([]:List Int) ++ ((a.take ((n).toNat)).drop 0)).length) (fun zi=>cI ((([]:List Int) ++ ((a.take ((n).toNat)).drop 0)).getD zi 0)))] [] 256 (pc (Eq.refl ((([]:List Int) ++ ((a.take ((n).toNat)).drop 0)).length)) (pc (z1 ((([]:List Int) ++ ((a.take ((n).toNat)).drop 0)).length)) (pc (aZ ((([]:List Int) ++ ((a.take ((n).toNat)).drop 0)).length) (fun zi=>cI ((([]:List Int) ++ ((a.take ((n).toNat)).drop 0)).getD zi 0))) pn))) [] pn
theorem mO (N a r) (h:l9 N a=some r):Sd 129 [(aH cI 0 a)] [] 0 (aH cI 0 r) []:=by
 unfold l9 at h
 refine gU (fu:=Tryz.f129) (c:=SQ 1) (nt:=23) (fun hm=>rfl) ?_
 intro E hE
 refine ae hE 1 [] [] (kp [0]) [] 16 pn ?_
 refine ae hE 1 [] [] (kp [0,3]) [] 64 pn ?_
 exact cV hE 3 [] (kp [0,3]) [] 0 pn (CO N _ N _ _ h E hE)
noncomputable abbrev SR:=bV Tryz.f112
def D4 (N:Nat) (l:List Int) (K:(List Int)→Int→Option ((List Int))):Prop:=∀ (a:List Int) (i:Int) (r:(List Int)),K a i=some r→∀ E,bq E 0→aD Tryz.prog E 112 21 (bd E [] (aH cI 0 r)) [.code (SR 116),.inLoop (SR 116),.inBlock 0,.code (SR 15)] ⟨[(0,(eU l)),(3,(.os 0 0 a.length)),(4,(aI i))],[(0,aO 1 cI 0 a)],1⟩
theorem CP (N l fuel):D4 N l (j3 N l fuel):=by
 induction fuel with
 | zero=>intro _ _ r h;rw [j3.eq_1] at h;cases h
 | succ fuel ih =>
  intro a i r h E hE
  rw [j3.eq_2] at h
  refine ae hE 2 [] [] (kp [0,3,4,8]) (kq [0]) 65 pn ?_
  refine dm 0 8 h (fun dW h=>?_) (fun dW h=>?_)
  ·obtain ⟨c,h⟩:=ab h
   obtain ⟨c2,h⟩:=ab h
   refine ae hE 3 [] [] (kp [0] ++ [(3,.kQ ((a ++ ([(ah ((l.getD ((i).toNat) 0)))]:List Int)).length))] ++ kp [4]) [(177,.arr 177 ((a ++ ([(ah ((l.getD ((i).toNat) 0)))]:List Int)).length) (fun zi=>cI ((a ++ ([(ah ((l.getD ((i).toNat) 0)))]:List Int)).getD zi 0)))] 209 (pc c (pc (Eq.refl a.length) (pc c2 (pc (z1 1) (pc (show ∀ zi,zi < 1→AV.iP ((fun zi=>([[(aI (ah ((l.getD ((i).toNat) 0))))]]:List (List AV)).getD zi []) (bA 0 zi))=true from (qO rfl)) (pc (show (a.length+1)=(a ++ ([(ah ((l.getD ((i).toNat) 0)))]:List Int)).length from (ax rfl rfl)) (pc (show a.length+1=(a ++ ([(ah ((l.getD ((i).toNat) 0)))]:List Int)).length from (ax rfl rfl)) (pc (show ∀ zi,zi < (a ++ ([(ah ((l.getD ((i).toNat) 0)))]:List Int)).length→(fun zi=>cI ((a ++ ([(ah ((l.getD ((i).toNat) 0)))]:List Int)).getD zi 0)) zi=((fun zm=>if zm < a.length then (fun zi=>cI (a.getD zi 0)) zm else (fun zi=>([[(aI (ah ((l.getD ((i).toNat) 0))))]]:List (List AV)).getD zi []) (zm - a.length))) zi from (bP cI 0 a ([(ah ((l.getD ((i).toNat) 0)))]:List Int) rfl (fun _ _=>rfl) (fun zq iw=>cg cI 0 ([(ah ((l.getD ((i).toNat) 0)))]:List Int) zq iw))) pn)))))))) ?_
   refine ae hE 1 [] [] (kp [0,3,4]) (kq [177]) 257 pn ?_
   exact cV hE 1 [] (kp [0,3,4]) [(0,.ag 177)] 1 pn (ih _ _ _ h E hE)
  ·obtain ⟨b7,hr,h⟩:=aQ h
   refine ae hE 2 [(1,⟨[],true,(aH cI 0 b7),[],0,true,none⟩)] [] (kp [2]) [] 113 (pc (mO _ _ _ hr) (pc (z1 a.length) pn)) ?_
   obtain rfl:=cJ h
   exact cP hE 0 Tryz.f112 [] (kp [2]) [] 113 pn [] pn
theorem j6 (N l r) (h:iU N l=some r):Sd 112 [(eU l)] [] 0 (aH cI 0 r) []:=by
 unfold iU at h
 refine gU (fu:=Tryz.f112) (c:=SR 1) (nt:=21) (fun hm=>rfl) ?_
 intro E hE
 refine ae hE 1 [] [] (kp [0]) [] 16 pn ?_
 refine ae hE 1 [] [] (kp [0,3]) [] 32 pn ?_
 refine ae hE 2 [] [] (kp [0,3,4]) [] 48 pn ?_
 exact cV hE 2 [] (kp [0] ++ [(3,.o8 0)] ++ kp [4]) [(0,.nil 1 (fun zi=>cI (([]:List Int).getD zi 0)))] 1 pn (CP N _ N _ _ _ h E hE)
noncomputable abbrev Z7:=bV Tryz.f131
theorem qa (N a i r) (h:lW N a i=some r):Sd 131 [(aH cI 0 a),(aI i)] [] 0 (aI r) []:=by
 unfold lW at h
 refine gU (fu:=Tryz.f131) (c:=Z7 1) (nt:=13) (fun hm=>rfl) ?_
 intro E hE
 refine ae hE 1 [] [] (kp [0,1]) [] 16 pn ?_
 refine ae hE 2 [] [] (kp [0,1,8]) [] 80 pn ?_
 refine dm 0 8 h (fun dW h=>?_) (fun dW h=>?_)
 ·obtain ⟨c,h⟩:=ab h
  refine ae hE 1 [] [] (kp [4]) [] 160 (pc c pn) ?_
  obtain rfl:=cJ h
  exact cP hE 0 Tryz.f131 [] (kp [4]) [] 160 pn [] pn
 ·refine ae hE 2 [] [] (kp [4]) [] 96 pn ?_
  obtain rfl:=cJ h
  exact cP hE 0 Tryz.f131 [] (kp [4]) [] 96 pn [] pn
noncomputable abbrev IX:=bV Tryz.f121
def vG (N:Nat) (a:List Int) (b:List Int) (K:(List Int)→Int→Option ((List Int))):Prop:=∀ (out:List Int) (i:Int) (r:(List Int)),K out i=some r→∀ E,bq E 0→aD Tryz.prog E 121 61 (bd E [] (aH cI 0 r)) [.code (IX 116),.inLoop (IX 116),.inBlock 0,.code (IX 15)] ⟨[(0,(aH cI 0 a)),(1,(aH cI 0 b)),(5,(.os 0 0 out.length)),(6,(aI i))],[(0,aO 1 cI 0 out)],1⟩
def CQ (N:Nat) (a:List Int) (b:List Int) (i:Int) (K:(List Int)→Int→Int→Option ((List Int))):Prop:=∀ (gu:List Int) (carry:Int) (k:Int) (r:(List Int)),K gu carry k=some r→∀ E,bq E 0→aD Tryz.prog E 121 61 (bd E [] (aH cI 0 r)) [.code (IX 14924),.inLoop (IX 14924),.inBlock 2,.inBlock 1,.code (IX 467),.inLoop (IX 116),.inBlock 0,.code (IX 15)] ⟨[(0,(aH cI 0 a)),(1,(aH cI 0 b)),(5,(.os 0 0 gu.length)),(6,(aI i)),(7,(aI carry)),(8,(aI k))],[(0,aO 1 cI 0 gu)],1⟩
theorem BD (N:Nat) (a:List Int) (b:List Int) (i:Int) (lI:(List Int)→Int→Option ((List Int))) (BE:vG N a b lI) (fuel:Nat):CQ N a b i (jq N a b i lI fuel):=by
 induction fuel with
 | zero=>intro _ _ _ r h;rw [jq.eq_1] at h;cases h
 | succ fuel ih =>
  intro gu carry k r h E hE
  rw [jq.eq_2] at h
  refine ae hE 2 [] [] (kp [0,1,5,6,7,8,30]) (kq [0]) 129 (pc (fun hg:(!(decide (k < ((b.length:Nat):Int))))=true=>(pc hg pn)) (pc (fun hq:(!(decide (k < ((b.length:Nat):Int))))=true=>(pc hq pn)) pn)) ?_
  refine dm 0 30 h (fun jh h=>?_) (fun jh h=>?_)
  ·obtain ⟨c2,h⟩:=ab h
   obtain ⟨c3,h⟩:=ab h
   obtain ⟨cH,hr,h⟩:=aQ h
   refine ae hE 4 [(12,oT (aI cH))] [] (kp [0,1,5,6,8,9]) (kq [0]) 417 (pc c2 (pc (dS c2) (pc c3 (pc (qa _ _ _ _ hr) pn)))) ?_
   refine ae hE 1 [] [] (kp [0,1] ++ [(5,.kQ ((gu.set ((ah (i+k)).toNat) ((ah ((ah ((gu.getD ((ah (i+k)).toNat) 0)+(ah ((a.getD ((i).toNat) 0) * cH))))+carry)).tmod 65536)).length))] ++ kp [6,8,9]) [(0,.arr 0 ((gu.set ((ah (i+k)).toNat) ((ah ((ah ((gu.getD ((ah (i+k)).toNat) 0)+(ah ((a.getD ((i).toNat) 0) * cH))))+carry)).tmod 65536)).length) (fun zi=>cI ((gu.set ((ah (i+k)).toNat) ((ah ((ah ((gu.getD ((ah (i+k)).toNat) 0)+(ah ((a.getD ((i).toNat) 0) * cH))))+carry)).tmod 65536)).getD zi 0)))] 545 (pc (show (65536:Int)≠0 by decide) (pc c2 (pc (dS c2) (pc (aA gu ((ah (i+k)).toNat) ((ah ((ah ((gu.getD ((ah (i+k)).toNat) 0)+(ah ((a.getD ((i).toNat) 0) * cH))))+carry)).tmod 65536)) (pc (aA gu ((ah (i+k)).toNat) ((ah ((ah ((gu.getD ((ah (i+k)).toNat) 0)+(ah ((a.getD ((i).toNat) 0) * cH))))+carry)).tmod 65536)) (pc (cL cI 0 gu ((ah (i+k)).toNat) ((ah ((ah ((gu.getD ((ah (i+k)).toNat) 0)+(ah ((a.getD ((i).toNat) 0) * cH))))+carry)).tmod 65536)) pn)))))) ?_
   refine ae hE 0 [] [] (kp [0,1,5,6,7,8]) (kq [0]) 593 (pc (show (65536:Int)≠0 by decide) pn) ?_
   refine ae hE 1 [] [] (kp [0,1,5,6,7,8]) (kq [0]) 641 pn ?_
   exact cV hE 1 [] (kp [0,1,5,6,7,8]) (kq [0]) 1 pn (ih _ _ _ _ h E hE)
  ·refine ae hE 2 [] [] (kp [0,1,5,6]) (kq [0]) 177 pn ?_
   exact cV hE 1 [] (kp [0,1,5,6]) (kq [0]) 1 pn (BE _ _ _ h E hE)
theorem BF (N a b fuel):vG N a b (jr N a b fuel):=by
 induction fuel with
 | zero=>intro _ _ r h;rw [jr.eq_1] at h;cases h
 | succ fuel ih =>
  intro out i r h E hE
  rw [jr.eq_2] at h
  refine ae hE 2 [] [] (kp [0,1,5,6,20]) (kq [0]) 65 pn ?_
  refine dm 0 20 h (fun dW h=>?_) (fun dW h=>?_)
  ·refine ae hE 4 [] [] (kp [0,1,5,6,7]) (kq [0]) 81 pn ?_
   refine ae hE 1 [] [] (kp [0,1,5,6,7,8]) (kq [0]) 97 pn ?_
   exact cV hE 2 [] (kp [0,1,5,6,7,8]) (kq [0]) 1 pn (BD N _ _ _ _ ih N _ _ _ _ h E hE)
  ·obtain ⟨b7,eJ,h⟩:=aQ h
   refine ae hE 2 [(1,⟨[],true,(aH cI 0 b7),[],0,true,none⟩)] [] (kp [4]) [] 113 (pc (mO _ _ _ eJ) (pc (z1 out.length) pn)) ?_
   obtain rfl:=cJ h
   exact cP hE 0 Tryz.f121 [] (kp [4]) [] 113 pn [] pn
theorem tp (N a b r) (h:lg N a b=some r):Sd 121 [(aH cI 0 a),(aH cI 0 b)] [] 0 (aH cI 0 r) []:=by
 unfold lg at h
 refine gU (fu:=Tryz.f121) (c:=IX 1) (nt:=61) (fun hm=>rfl) ?_
 intro E hE
 refine ae hE 1 [] [] (kp [0,1]) [] 16 pn ?_
 obtain ⟨c,h⟩:=ab h
 refine ae hE 1 [] [] (kp [0,1] ++ [(5,.kQ ((List.replicate ((ah ((ah (((a.length:Nat):Int)+((b.length:Nat):Int)))+1)).toNat) 0:List Int).length))]) [(112,.arr 112 ((List.replicate ((ah ((ah (((a.length:Nat):Int)+((b.length:Nat):Int)))+1)).toNat) 0:List Int).length) (fun zi=>cI ((List.replicate ((ah ((ah (((a.length:Nat):Int)+((b.length:Nat):Int)))+1)).toNat) 0:List Int).getD zi 0)))] 144 (pc (show 0≤(ah ((ah (((a.length:Nat):Int)+((b.length:Nat):Int)))+1)) from c.1) (pc (show (ah ((ah (((a.length:Nat):Int)+((b.length:Nat):Int)))+1))≤(ah ((ah (((a.length:Nat):Int)+((b.length:Nat):Int)))+1)) from (Int.le_refl _)) (pc (show (8:Int) * (ah ((ah (((a.length:Nat):Int)+((b.length:Nat):Int)))+1))≤281474976710656 from c.2.1) (pc (show (ah ((ah (((a.length:Nat):Int)+((b.length:Nat):Int)))+1))≤9223372036854775807 from c.2.2) (pc (show (ah ((ah (((a.length:Nat):Int)+((b.length:Nat):Int)))+1)).toNat=(List.replicate ((ah ((ah (((a.length:Nat):Int)+((b.length:Nat):Int)))+1)).toNat) 0:List Int).length from (di).symm) (pc (show (ah ((ah (((a.length:Nat):Int)+((b.length:Nat):Int)))+1)).toNat=(List.replicate ((ah ((ah (((a.length:Nat):Int)+((b.length:Nat):Int)))+1)).toNat) 0:List Int).length from (di).symm) (pc (show ∀ zi,zi < (List.replicate ((ah ((ah (((a.length:Nat):Int)+((b.length:Nat):Int)))+1)).toNat) 0:List Int).length→(fun zi=>cI ((List.replicate ((ah ((ah (((a.length:Nat):Int)+((b.length:Nat):Int)))+1)).toNat) 0:List Int).getD zi 0)) zi=(fun _=>[(aI 0)]) zi from (fun zq iw=>r8 cI 0 0 ((ah ((ah (((a.length:Nat):Int)+((b.length:Nat):Int)))+1)).toNat) zq iw)) pn))))))) ?_
 refine ae hE 2 [] [] (kp [0,1,5,6]) (kq [112]) 160 pn ?_
 exact cV hE 2 [] (kp [0,1,5,6]) [(0,.ag 112)] 1 pn (BF N _ _ N _ _ _ h E hE)
noncomputable abbrev SS:=bV Tryz.f119
def AA (N:Nat) (a:List Int) (b:List Int) (K:Int→Option (Int)):Prop:=∀ (i:Int) (r:Int),K i=some r→∀ E,bq E 0→aD Tryz.prog E 119 41 (bd E [] (aI r)) [.code (SS 116),.inLoop (SS 116),.inBlock 0,.code (SS 15)] ⟨[(0,(aH cI 0 a)),(1,(aH cI 0 b)),(5,(aI i))],[],0⟩
theorem zC (N a b fuel):AA N a b (gH N a b fuel):=by
 induction fuel with
 | zero=>intro _ r h;rw [gH.eq_1] at h;cases h
 | succ fuel ih =>
  intro i r h E hE
  rw [gH.eq_2] at h
  refine ae hE 2 [] [] (kp [0,1,5,20]) [] 32 pn ?_
  refine dm 0 20 h (fun jh h=>?_) (fun jh h=>?_)
  ·obtain ⟨c,h⟩:=ab h
   obtain ⟨c2,h⟩:=ab h
   refine ae hE 4 [] [] (kp [0,1,5,31]) [] 176 (pc c (pc c2 pn)) ?_
   refine dm 0 31 h (fun ta h=>?_) (fun ta h=>?_)
   ·refine ae hE 1 [] [] (kp [4]) [] 336 (pc c (pc c2 pn)) ?_
    obtain rfl:=cJ h
    exact cP hE 0 Tryz.f119 [] (kp [4]) [] 336 pn [] pn
   ·refine ae hE 2 [] [] (kp [0,1,5]) [] 224 pn ?_
    exact cV hE 1 [] (kp [0,1,5]) [] 0 pn (ih _ _ h E hE)
  ·refine ae hE 2 [] [] (kp [4]) [] 48 pn ?_
   obtain rfl:=cJ h
   exact cP hE 0 Tryz.f119 [] (kp [4]) [] 48 pn [] pn
theorem vH (N a b r) (h:mL N a b=some r):Sd 119 [(aH cI 0 a),(aH cI 0 b)] [] 0 (aI r) []:=by
 unfold mL at h
 refine gU (fu:=Tryz.f119) (c:=SS 1) (nt:=41) (fun hm=>rfl) ?_
 intro E hE
 refine ae hE 1 [] [] (kp [0,1]) [] 16 pn ?_
 refine ae hE 2 [] [] (kp [0,1,10]) [] 96 pn ?_
 refine dm 0 10 h (fun dW h=>?_) (fun dW h=>?_)
 ·refine ae hE 1 [] [] (kp [4]) [] 192 pn ?_
  obtain rfl:=cJ h
  exact cP hE 0 Tryz.f119 [] (kp [4]) [] 192 pn [] pn
 ·refine ae hE 3 [] [] (kp [0,1,5]) [] 160 pn ?_
  exact cV hE 2 [] (kp [0,1,5]) [] 0 pn (zC N _ _ N _ _ h E hE)
noncomputable abbrev Kj:=bV Tryz.f120
def vI (N:Nat) (a:List Int) (b:List Int) (K:(List Int)→Int→Int→Option ((List Int))):Prop:=∀ (out:List Int) (borrow:Int) (i:Int) (r:(List Int)),K out borrow i=some r→∀ E,bq E 0→aD Tryz.prog E 120 35 (bd E [] (aH cI 0 r)) [.code (Kj 244),.inLoop (Kj 244),.inBlock 0,.code (Kj 31)] ⟨[(0,(aH cI 0 a)),(1,(aH cI 0 b)),(5,(.os 0 0 out.length)),(6,(aI borrow)),(7,(aI i))],[(0,aO 1 cI 0 out)],1⟩
def CR (N:Nat) (a:List Int) (b:List Int) (out:List Int) (i:Int) (K:Int→Int→Option ((List Int))):Prop:=∀ (kA:Int) (s:Int) (r:(List Int)),K kA s=some r→∀ E,bq E 0→aD Tryz.prog E 120 35 (bd E [] (aH cI 0 r)) [.code (Kj 15655),.inBlock 1,.code (Kj 979),.inLoop (Kj 244),.inBlock 0,.code (Kj 31)] ⟨[(0,(aH cI 0 a)),(1,(aH cI 0 b)),(5,(.os 0 0 out.length)),(6,(aI kA)),(7,(aI i)),(8,(aI s))],[(0,aO 1 cI 0 out)],1⟩
theorem tW (N:Nat) (a:List Int) (b:List Int) (out:List Int) (i:Int) (nR:(List Int)→Int→Int→Option ((List Int))) (BG:vI N a b nR):CR N a b out i (lJ N a b out i nR):=by
 intro kA s r h E hE
 unfold lJ at h
 obtain ⟨c2,h⟩:=ab h
 refine ae hE 0 [] [] (kp [0,1] ++ [(5,.kQ ((out ++ ([s]:List Int)).length))] ++ kp [6,7]) [(49,.arr 49 ((out ++ ([s]:List Int)).length) (fun zi=>cI ((out ++ ([s]:List Int)).getD zi 0)))] 81 (pc (Eq.refl out.length) (pc c2 (pc (z1 1) (pc (show ∀ zi,zi < 1→AV.iP ((fun zi=>([[(aI s)]]:List (List AV)).getD zi []) (bA 0 zi))=true from (qO rfl)) (pc (show (out.length+1)=(out ++ ([s]:List Int)).length from (ax rfl rfl)) (pc (show out.length+1=(out ++ ([s]:List Int)).length from (ax rfl rfl)) (pc (show ∀ zi,zi < (out ++ ([s]:List Int)).length→(fun zi=>cI ((out ++ ([s]:List Int)).getD zi 0)) zi=((fun zm=>if zm < out.length then (fun zi=>cI (out.getD zi 0)) zm else (fun zi=>([[(aI s)]]:List (List AV)).getD zi []) (zm - out.length))) zi from (bP cI 0 out ([s]:List Int) rfl (fun _ _=>rfl) (fun zq iw=>cg cI 0 ([s]:List Int) zq iw))) pn))))))) ?_
 refine ae hE 1 [] [] (kp [0,1,5,6,7]) (kq [49]) 129 pn ?_
 exact cV hE 1 [] (kp [0,1,5,6,7]) [(0,.ag 49)] 1 pn (BG _ _ _ _ h E hE)
theorem BH (N a b fuel):vI N a b (fX N a b fuel):=by
 induction fuel with
 | zero=>intro _ _ _ r h;rw [fX.eq_1] at h;cases h
 | succ fuel ih =>
  intro out borrow i r h E hE
  rw [fX.eq_2] at h
  refine ae hE 2 [] [] (kp [0,1,5,6,7,12]) (kq [0]) 65 pn ?_
  refine dm 0 12 h (fun dW h=>?_) (fun dW h=>?_)
  ·obtain ⟨c,h⟩:=ab h
   obtain ⟨cH,hr,h⟩:=aQ h
   refine ae hE 4 [(6,oT (aI cH))] [] (kp [0,1,5,7,8]) (kq [0]) 241 (pc c (pc (qa _ _ _ _ hr) pn)) ?_
   refine ae hE 1 [] [] (kp [0,1,5,6,7,8]) (kq [0]) 257 pn ?_
   refine ae hE 2 [] [] (kp [0,1,5,6,7,8,26]) (kq [0]) 289 pn ?_
   refine dm 0 26 h (fun jh h=>?_) (fun jh h=>?_)
   ·refine ae hE 1 [] [] (kp [0,1,5,7,8]) (kq [0]) 337 pn ?_
    refine ae hE 0 [] [] (kp [0,1,5,6,7,8]) (kq [0]) 353 pn ?_
    exact cV hE 0 [] (kp [0,1,5,6,7,8]) (kq [0]) 1 pn (tW N _ _ _ _ _ ih _ _ _ h E hE)
   ·exact cV hE 1 [] (kp [0,1,5,6,7,8]) (kq [0]) 1 pn (tW N _ _ _ _ _ ih _ _ _ h E hE)
  ·obtain ⟨b7,eJ,h⟩:=aQ h
   refine ae hE 2 [(1,⟨[],true,(aH cI 0 b7),[],0,true,none⟩)] [] (kp [4]) [] 113 (pc (mO _ _ _ eJ) (pc (z1 out.length) pn)) ?_
   obtain rfl:=cJ h
   exact cP hE 0 Tryz.f120 [] (kp [4]) [] 113 pn [] pn
theorem tq (N a b r) (h:pg N a b=some r):Sd 120 [(aH cI 0 a),(aH cI 0 b)] [] 0 (aH cI 0 r) []:=by
 unfold pg at h
 refine gU (fu:=Tryz.f120) (c:=Kj 1) (nt:=35) (fun hm=>rfl) ?_
 intro E hE
 refine ae hE 1 [] [] (kp [0,1]) [] 16 pn ?_
 refine ae hE 1 [] [] (kp [0,1,5]) [] 32 pn ?_
 refine ae hE 1 [] [] (kp [0,1,5,6]) [] 48 pn ?_
 refine ae hE 2 [] [] (kp [0,1,5,6,7]) [] 64 pn ?_
 exact cV hE 2 [] (kp [0,1] ++ [(5,.o8 0)] ++ kp [6,7]) [(0,.nil 1 (fun zi=>cI (([]:List Int).getD zi 0)))] 1 pn (BH N _ _ N _ _ _ _ h E hE)
noncomputable abbrev CS:=bV Tryz.f117
def rG (N:Nat) (a:List Int) (b:List Int) (K:(List Int)→(List Int)→Int→Option ((List Int)×(List Int))):Prop:=∀ (rest:List Int) (q:List Int) (i:Int) (r:(List Int)×(List Int)),K rest q i=some r→∀ E,bq E 0→aD Tryz.prog E 117 63 (bd E [] (.tup [(aH cI 0 r.1),(aH cI 0 r.2)])) [.code (CS 244),.inLoop (CS 244),.inBlock 0,.code (CS 31)] ⟨[(0,(aH cI 0 a)),(1,(aH cI 0 b)),(6,(aH cI 0 rest)),(7,(.os 0 0 q.length)),(8,(aI i))],[(0,aO 1 cI 0 q)],1⟩
def D5 (N:Nat) (a:List Int) (b:List Int) (q:List Int) (i:Int) (b7:(List Int)) (K:Int→Int→Option ((List Int)×(List Int))):Prop:=∀ (lo:Int) (hi:Int) (r:(List Int)×(List Int)),K lo hi=some r→∀ E,bq E 0→aD Tryz.prog E 117 63 (bd E [] (.tup [(aH cI 0 r.1),(aH cI 0 r.2)])) [.code (CS 62616),.inLoop (CS 62616),.inBlock 2,.code (CS 15655),.inBlock 1,.code (CS 979),.inLoop (CS 244),.inBlock 0,.code (CS 31)] ⟨[(0,(aH cI 0 a)),(1,(aH cI 0 b)),(6,(aH cI 0 b7)),(7,(.os 0 0 q.length)),(8,(aI i)),(9,(aI lo)),(10,(aI hi))],[(0,aO 1 cI 0 q)],1⟩
def D6 (N:Nat) (a:List Int) (b:List Int) (q:List Int) (i:Int) (lo:Int) (K:(List Int)→Option ((List Int)×(List Int))):Prop:=∀ (Kg:List Int) (r:(List Int)×(List Int)),K Kg=some r→∀ E,bq E 0→aD Tryz.prog E 117 63 (bd E [] (.tup [(aH cI 0 r.1),(aH cI 0 r.2)])) [.code (CS 979),.inLoop (CS 244),.inBlock 0,.code (CS 31)] ⟨[(0,(aH cI 0 a)),(1,(aH cI 0 b)),(6,(aH cI 0 Kg)),(7,(.os 0 0 ((q.set ((i).toNat) lo).length))),(8,(aI i))],[(0,aO 1 cI 0 (q.set ((i).toNat) lo))],1⟩
theorem vJ (N:Nat) (a:List Int) (b:List Int) (q:List Int) (i:Int) (lo:Int) (dR:(List Int)→(List Int)→Int→Option ((List Int)×(List Int))) (nU:rG N a b dR):D6 N a b q i lo (mM N a b q i lo dR):=by
 intro Kg r h E hE
 unfold mM at h
 refine ae hE 0 [] [] (kp [0,1,6,7,8]) (kq [0]) 49 pn ?_
 exact cV hE 1 [] (kp [0,1,6,7,8]) (kq [0]) 1 pn (nU _ _ _ _ h E hE)
theorem CT (N:Nat) (a:List Int) (b:List Int) (q:List Int) (i:Int) (b7:(List Int)) (dR:(List Int)→(List Int)→Int→Option ((List Int)×(List Int))) (nU:rG N a b dR) (fuel:Nat):D5 N a b q i b7 (je N a b q i b7 dR fuel):=by
 induction fuel with
 | zero=>intro _ _ r h;rw [je.eq_1] at h;cases h
 | succ fuel ih =>
  intro lo hi r h E hE
  rw [je.eq_2] at h
  refine ae hE 2 [] [] (kp [0,1,6,7,8,9,10,32]) (kq [0]) 49 pn ?_
  refine dm 0 32 h (fun jh h=>?_) (fun jh h=>?_)
  ·refine ae hE 3 [] [] (kp [0,1,6,7,8,9,10,11]) (kq [0]) 145 (pc (show (2:Int)≠0 by decide) pn) ?_
   obtain ⟨ru,eJ,h⟩:=aQ h
   obtain ⟨ki,jP,h⟩:=aQ h
   refine ae hE 1 [(3,⟨[],true,(aH cI 0 ru),[],0,true,none⟩),(5,oT (aI ki))] [] (kp [0,1,6,7,8,9,10,11,44]) (kq [0]) 257 (pc (show Sd 121 [(aH cI 0 b),(.sl 1 (fun zi=>(fun zi=>([[(aI (ah ((ah ((ah (lo+hi))+1)).tdiv 2)))]]:List (List AV)).getD zi []) (bA 0 zi)))] [] 0 (aH cI 0 ru) [] from (Sound.conv (tp _ _ _ _ eJ) (.cons (Alike.refl _) (.cons (Alike.sl rfl (fun zq iw=>cg cI 0 ([(ah ((ah ((ah (lo+hi))+1)).tdiv 2))]:List Int) zq iw)) .nil)))) (pc (z1 1) (pc (vH _ _ _ _ jP) pn))) ?_
   refine dm 0 44 h (fun ta h=>?_) (fun ta h=>?_)
   ·refine ae hE 0 [] [] (kp [0,1,6,7,8,9,10]) (kq [0]) 289 pn ?_
    exact cV hE 2 [] (kp [0,1,6,7,8,9,10]) (kq [0]) 1 pn (ih _ _ _ h E hE)
   ·refine ae hE 0 [] [] (kp [0,1,6,7,8,9,10]) (kq [0]) 305 pn ?_
    exact cV hE 2 [] (kp [0,1,6,7,8,9,10]) (kq [0]) 1 pn (ih _ _ _ h E hE)
  ·obtain ⟨c4,h⟩:=ab h
   refine ae hE 2 [] [] (kp [0,1,6] ++ [(7,.kQ ((q.set ((i).toNat) lo).length))] ++ kp [8,9]) [(0,.arr 0 ((q.set ((i).toNat) lo).length) (fun zi=>cI ((q.set ((i).toNat) lo).getD zi 0)))] 129 (pc c4 (pc (dS c4) (pc (aA q ((i).toNat) lo) (pc (aA q ((i).toNat) lo) (pc (cL cI 0 q ((i).toNat) lo) pn))))) ?_
   refine ae hE 1 [] [] (kp [0,1,6,7,8,9,53]) (kq [0]) 161 pn ?_
   refine dm 0 53 h (fun CE h=>?_) (fun CE h=>?_)
   ·obtain ⟨Ep,mz,h⟩:=aQ h
    obtain ⟨sS,qz,h⟩:=aQ h
    refine ae hE 0 [(4,⟨[],true,(aH cI 0 Ep),[],0,true,none⟩),(5,oT (aH cI 0 sS))] [] (kp [0,1,6,7,8]) (kq [0]) 273 (pc (show Sd 121 [(aH cI 0 b),(.sl 1 (fun zi=>(fun zi=>([[(aI lo)]]:List (List AV)).getD zi []) (bA 0 zi)))] [] 0 (aH cI 0 Ep) [] from (Sound.conv (tp _ _ _ _ mz) (.cons (Alike.refl _) (.cons (Alike.sl rfl (fun zq iw=>cg cI 0 ([lo]:List Int) zq iw)) .nil)))) (pc (z1 1) (pc (tq _ _ _ _ qz) pn))) ?_
    exact cV hE 1 [] (kp [0,1,6,7,8]) (kq [0]) 1 pn (vJ N _ _ _ _ _ _ nU _ _ h E hE)
   ·exact cV hE 2 [] (kp [0,1,6,7,8]) (kq [0]) 1 pn (vJ N _ _ _ _ _ _ nU _ _ h E hE)
theorem CU (N a b fuel):rG N a b (jf N a b fuel):=by
 induction fuel with
 | zero=>intro _ _ _ r h;rw [jf.eq_1] at h;cases h
 | succ fuel ih =>
  intro rest q i r h E hE
  rw [jf.eq_2] at h
  refine ae hE 2 [] [] (kp [0,1,6,7,8,19]) (kq [0]) 33 pn ?_
  refine dm 0 19 h (fun dW h=>?_) (fun dW h=>?_)
  ·obtain ⟨c2,h⟩:=ab h
   obtain ⟨c3,h⟩:=ab h
   obtain ⟨b7,hr,h⟩:=aQ h
   refine ae hE 4 [(7,⟨[],true,(aH cI 0 b7),[],0,true,none⟩)] [] (kp [0,1,6,7,8]) (kq [0]) 177 (pc c2 (pc (Eq.refl 1) (pc c3 (pc (show ∀ zi,zi < rest.length→AV.iP ((fun zi=>cI (rest.getD zi 0)) zi)=true from (fun _ _=>rfl)) (pc (show Sd 129 [(.sl (1+rest.length) (fun zi=>((fun zm=>if zm < 1 then (fun zi=>([[(aI (a.getD ((i).toNat) 0))]]:List (List AV)).getD zi []) zm else (fun zi=>cI (rest.getD zi 0)) (zm - 1))) (bA 0 zi)))] [] 0 (aH cI 0 b7) [] from (Sound.conv (mO _ _ _ hr) (.cons (Alike.sl (ax rfl rfl) (bP cI 0 ([(a.getD ((i).toNat) 0)]:List Int) rest rfl (fun zq iw=>cg cI 0 ([(a.getD ((i).toNat) 0)]:List Int) zq iw) (fun _ _=>rfl))) .nil))) (pc (z1 (1+rest.length)) pn)))))) ?_
   refine ae hE 1 [] [] (kp [0,1,6,7,8,9,10]) (kq [0]) 209 pn ?_
   exact cV hE 3 [] (kp [0,1,6,7,8,9,10]) (kq [0]) 1 pn (CT N _ _ _ _ _ _ ih N _ _ _ h E hE)
  ·obtain ⟨jJ,vj,h⟩:=aQ h
   refine ae hE 2 [(1,⟨[],true,(aH cI 0 jJ),[],0,true,none⟩)] [] (kp [4,5]) [] 113 (pc (mO _ _ _ vj) (pc (z1 q.length) pn)) ?_
   obtain rfl:=cJ h
   exact cP hE 0 Tryz.f117 [] (kp [4,5]) [] 113 pn [] pn
theorem uH (N a b r) (h:nB N a b=some r):Sd 117 [(aH cI 0 a),(aH cI 0 b)] [] 0 (.tup [(aH cI 0 r.1),(aH cI 0 r.2)]) []:=by
 unfold nB at h
 refine gU (fu:=Tryz.f117) (c:=CS 1) (nt:=63) (fun hm=>rfl) ?_
 intro E hE
 refine ae hE 1 [] [] (kp [0,1]) [] 32 pn ?_
 refine ae hE 1 [] [] (kp [0,1,6]) [] 48 pn ?_
 obtain ⟨c,h⟩:=ab h
 refine ae hE 1 [] [] (kp [0,1,6] ++ [(7,.kQ ((List.replicate a.length 0:List Int).length))]) [(80,.arr 80 ((List.replicate a.length 0:List Int).length) (fun zi=>cI ((List.replicate a.length 0:List Int).getD zi 0)))] 112 (pc (show 0≤((a.length:Nat):Int) from c.1) (pc (show ((a.length:Nat):Int)≤((a.length:Nat):Int) from (Int.le_refl _)) (pc (show (8:Int) * ((a.length:Nat):Int)≤281474976710656 from c.2.1) (pc (show ((a.length:Nat):Int)≤9223372036854775807 from c.2.2) (pc (show a.length=(List.replicate a.length 0:List Int).length from (di).symm) (pc (show a.length=(List.replicate a.length 0:List Int).length from (di).symm) (pc (show ∀ zi,zi < (List.replicate a.length 0:List Int).length→(fun zi=>cI ((List.replicate a.length 0:List Int).getD zi 0)) zi=(fun _=>[(aI 0)]) zi from (fun zq iw=>r8 cI 0 0 a.length zq iw)) pn))))))) ?_
 refine ae hE 2 [] [] (kp [0,1,6,7,8]) (kq [80]) 176 pn ?_
 exact cV hE 2 [] (kp [0,1] ++ [(6,.sl (([]:List Int).length) (fun zi=>cI (([]:List Int).getD zi 0)))] ++ kp [7,8]) [(0,.ag 80)] 1 (pc (Eq.refl 0) pn) (CU N _ _ N _ _ _ _ h E hE)
noncomputable abbrev SU:=bV Tryz.f116
def FY (N:Nat) (K:(List Int)→(List Int)→Option ((List Int))):Prop:=∀ (a2:List Int) (b2:List Int) (r:(List Int)),K a2 b2=some r→∀ E,bq E 0→aD Tryz.prog E 116 19 (bd E [] (aH cI 0 r)) [.code (SU 24),.inLoop (SU 24),.inBlock 0,.code (SU 7)] ⟨[(0,(aH cI 0 a2)),(1,(aH cI 0 b2))],[],0⟩
theorem D7 (N fuel):FY N (ma N fuel):=by
 induction fuel with
 | zero=>intro _ _ r h;rw [ma.eq_1] at h;cases h
 | succ fuel ih =>
  intro a2 b2 r h E hE
  rw [ma.eq_2] at h
  refine ae hE 2 [] [] (kp [0,1,9]) [] 48 pn ?_
  refine dm 0 9 h (fun dW h=>?_) (fun dW h=>?_)
  ·obtain ⟨kn,hr,h⟩:=aQ h
   refine ae hE 3 [(2,oT (.tup [(aH cI 0 kn.1),(aH cI 0 kn.2)]))] [] (kp [1,6]) [] 176 (pc (uH _ _ _ _ hr) pn) ?_
   refine ae hE 0 [] [] (kp [0,1]) [] 240 pn ?_
   exact cV hE 2 [] (kp [0,1]) [] 0 pn (ih _ _ _ h E hE)
  ·refine ae hE 2 [] [] (kp [4]) [] 80 pn ?_
   obtain rfl:=cJ h
   exact cP hE 0 Tryz.f116 [] (kp [4]) [] 80 pn [] pn
theorem IY (N a b r) (h:y7 N a b=some r):Sd 116 [(aH cI 0 a),(aH cI 0 b)] [] 0 (aH cI 0 r) []:=by
 unfold y7 at h
 refine gU (fu:=Tryz.f116) (c:=SU 1) (nt:=19) (fun hm=>rfl) ?_
 intro E hE
 refine ae hE 1 [] [] (kp [0,1]) [] 16 pn ?_
 exact cV hE 3 [] (kp [0,1]) [] 0 pn (D7 N N _ _ _ h E hE)
noncomputable abbrev Z8:=bV Tryz.f94
theorem qJ (N a b r) (h:nC N a b=some r):Sd 94 [(.agg (lk a)),(.agg (lk b))] [] 0 (.agg (aj r)) []:=by
 unfold nC at h
 refine gU (fu:=Tryz.f94) (c:=Z8 1) (nt:=52) (fun hm=>rfl) ?_
 intro E hE
 refine ae hE 1 [] [] (kp [2,3,4]) (kq [0,16,32]) 48 pn ?_
 obtain ⟨m7,hr,h⟩:=aQ h
 obtain ⟨n8,eJ,h⟩:=aQ h
 refine ae hE 1 [(2,oT (aH cI 0 m7)),(5,oT (aH cI 0 n8))] [] (kp [2,3,4,5,6]) (kq [0,16,32]) 176 (pc o1 (pc (j6 _ _ _ hr) (pc o1 (pc (j6 _ _ _ eJ) pn)))) ?_
 refine ae hE 2 [] [] (kp [2,3,4,5,6,20]) (kq [0,16,32]) 224 pn ?_
 refine dm 0 20 h (fun dW h=>?_) (fun dW h=>?_)
 ·obtain ⟨pY,jP,h⟩:=aQ h
  obtain ⟨GG,mz,h⟩:=aQ h
  refine ae hE 1 [(3,oT (.agg (lk pY))),(4,oT (.agg (lk GG)))] [] (kp [4]) (kq [32]) 336 (pc o1 (pc (jk _ _ _ _ jP) (pc (yq _ _ _ mz) (pc o1 pn)))) ?_
  obtain rfl:=cJ h
  exact cP hE 0 Tryz.f94 [] (kp [4]) [(16,.ag 32)] 336 pn [16] (pc o1 pn)
 ·obtain ⟨Sv,qz,h⟩:=aQ h
  refine ae hE 2 [(2,oT (aH cI 0 Sv))] [] (kp [2,3,4,5,6,7]) (kq [0,16,32]) 288 (pc (IY _ _ _ _ qz) pn) ?_
  obtain ⟨kn,vj,h⟩:=aQ h
  refine ae hE 1 [(2,oT (.tup [(aH cI 0 kn.1),(aH cI 0 kn.2)]))] [] (kp [2,3,4,6,7,8]) (kq [0,16,32]) 416 (pc (uH _ _ _ _ vj) pn) ?_
  obtain ⟨kE,wv,h⟩:=aQ h
  refine ae hE 1 [(2,oT (.tup [(aH cI 0 kE.1),(aH cI 0 kE.2)]))] [] (kp [2,3,4,8,10]) (kq [0,16,32]) 544 (pc (uH _ _ _ _ wv) pn) ?_
  obtain ⟨Am,DI,h⟩:=aQ h
  obtain ⟨An,DH,h⟩:=aQ h
  refine ae hE 1 [(6,oT (.agg (lk Am))),(8,oT (.agg (lk An)))] [] (kp [4]) (kq [32]) 720 (pc o1 (pc o1 (pc (jk _ _ _ _ DI) (pc (jk _ _ _ _ DH) (pc o1 pn))))) ?_
  obtain rfl:=cJ h
  exact cP hE 0 Tryz.f94 [] (kp [4]) [(16,.ag 32)] 720 pn [16] (pc o1 pn)
noncomputable abbrev Z9:=bV Tryz.f84
theorem gM (N x r) (h:fY N x=some r):Sd 84 [(.agg (aj x))] [] 0 (.agg (aj r)) []:=by
 unfold fY at h
 refine gU (fu:=Tryz.f84) (c:=Z9 1) (nt:=8) (fun hm=>rfl) ?_
 intro E hE
 refine ae hE 1 [] [] (kp [1,2]) (kq [0,16]) 32 pn ?_
 obtain ⟨sZ,hr,h⟩:=aQ h
 refine ae hE 1 [(4,oT (.agg (aj sZ)))] [] (kp [2]) (kq [16]) 128 (pc o1 (pc o1 (pc (qJ _ _ _ _ hr) (pc o1 pn)))) ?_
 obtain rfl:=cJ h
 exact cP hE 0 Tryz.f84 [] (kp [2]) (kq [16]) 128 pn [16] (pc o1 pn)
noncomputable abbrev WZ:=bV Tryz.f92
theorem G1 (N a r) (h:wm N a=some r):Sd 92 [(.agg (lk a))] [] 0 (aI r) []:=by
 unfold wm at h
 refine gU (fu:=Tryz.f92) (c:=WZ 1) (nt:=10) (fun hm=>rfl) ?_
 intro E hE
 refine ae hE 1 [] [] (kp [1]) (kq [0]) 32 pn ?_
 obtain ⟨m7,hr,h⟩:=aQ h
 refine ae hE 2 [(2,oT (aH cI 0 m7))] [] (kp [1,7]) (kq [0]) 112 (pc o1 (pc (j6 _ _ _ hr) pn)) ?_
 refine dm 0 7 h (fun dW h=>?_) (fun dW h=>?_)
 ·refine ae hE 1 [] [] (kp [2]) [] 128 pn ?_
  obtain rfl:=cJ h
  exact cP hE 0 Tryz.f92 [] (kp [2]) [] 128 pn [] pn
 ·refine ae hE 3 [] [] (kp [9]) [] 144 (pc o1 pn) ?_
  refine dm 0 9 h (fun jh h=>?_) (fun jh h=>?_)
  ·refine ae hE 1 [] [] (kp [2]) [] 160 pn ?_
   obtain rfl:=cJ h
   exact cP hE 0 Tryz.f92 [] (kp [2]) [] 160 pn [] pn
  ·refine ae hE 2 [] [] (kp [2]) [] 160 pn ?_
   obtain rfl:=cJ h
   exact cP hE 0 Tryz.f92 [] (kp [2]) [] 160 pn [] pn
noncomputable abbrev aaa:=bV Tryz.f52
theorem iX (N x r) (h:gW N x=some r):Sd 52 [(.agg (aj x))] [] 0 (aI r) []:=by
 unfold gW at h
 refine gU (fu:=Tryz.f52) (c:=aaa 1) (nt:=7) (fun hm=>rfl) ?_
 intro E hE
 refine ae hE 1 [] [] (kp [1]) (kq [0]) 32 pn ?_
 obtain ⟨eO,hr,h⟩:=aQ h
 obtain ⟨Qh,eJ,h⟩:=aQ h
 refine ae hE 1 [(1,oT (.agg (aj eO))),(3,oT (aI Qh))] [] (kp [2]) [] 112 (pc o1 (pc (gM _ _ _ hr) (pc (G1 _ _ _ eJ) pn))) ?_
 obtain rfl:=cJ h
 exact cP hE 0 Tryz.f52 [] (kp [2]) [] 112 pn [] pn
noncomputable abbrev W2:=bV Tryz.f85
theorem IZ (N a r) (h:y8 N a=some r):Sd 85 [(.agg (lk a))] [] 0 (.agg (lk r)) []:=by
 unfold y8 at h
 refine gU (fu:=Tryz.f85) (c:=W2 1) (nt:=10) (fun hm=>rfl) ?_
 intro E hE
 refine ae hE 1 [] [] (kp [1,2]) (kq [0,16]) 32 pn ?_
 obtain ⟨m7,hr,h⟩:=aQ h
 obtain ⟨pY,eJ,h⟩:=aQ h
 refine ae hE 1 [(5,oT (aH cI 0 m7)),(6,oT (.agg (lk pY)))] [] (kp [2]) (kq [16]) 160 (pc o1 (pc o1 (pc (j6 _ _ _ hr) (pc (jk _ _ _ _ eJ) (pc o1 pn))))) ?_
 obtain rfl:=cJ h
 exact cP hE 0 Tryz.f85 [] (kp [2]) (kq [16]) 160 pn [16] (pc o1 pn)
noncomputable abbrev W3:=bV Tryz.f40
theorem D8 (N x r) (h:sd N x=some r):Sd 40 [(.agg (aj x))] [] 0 (.agg (aj r)) []:=by
 unfold sd at h
 refine gU (fu:=Tryz.f40) (c:=W3 1) (nt:=12) (fun hm=>rfl) ?_
 intro E hE
 refine ae hE 1 [] [] (kp [1,2]) (kq [0,16]) 32 pn ?_
 obtain ⟨eO,hr,h⟩:=aQ h
 refine ae hE 1 [(1,oT (.agg (aj eO)))] [] (kp [2,3]) (kq [16,64]) 96 (pc o1 (pc (gM _ _ _ hr) (pc o1 pn))) ?_
 obtain ⟨Vc,eJ,h⟩:=aQ h
 refine ae hE 1 [(2,oT (.agg (lk Vc)))] [] (kp [2]) (kq [16]) 208 (pc o1 (pc (IZ _ _ _ eJ) (pc o1 (pc o1 pn)))) ?_
 obtain rfl:=cJ h
 exact cP hE 0 Tryz.f40 [] (kp [2]) (kq [16]) 208 pn [16] (pc o1 pn)
noncomputable abbrev W4:=bV Tryz.f96
theorem mh (N a b r) (h:mN N a b=some r):Sd 96 [(.agg (lk a)),(.agg (lk b))] [] 0 (.agg (lk r)) []:=by
 unfold mN at h
 refine gU (fu:=Tryz.f96) (c:=W4 1) (nt:=18) (fun hm=>rfl) ?_
 intro E hE
 refine ae hE 1 [] [] (kp [2,3,4]) (kq [0,16,32]) 48 pn ?_
 obtain ⟨m7,hr,h⟩:=aQ h
 obtain ⟨n8,eJ,h⟩:=aQ h
 obtain ⟨ru,jP,h⟩:=aQ h
 obtain ⟨pY,mz,h⟩:=aQ h
 refine ae hE 1 [(7,oT (aH cI 0 m7)),(10,oT (aH cI 0 n8)),(11,oT (aH cI 0 ru)),(12,oT (.agg (lk pY)))] [] (kp [4]) (kq [32]) 272 (pc o1 (pc o1 (pc o1 (pc (j6 _ _ _ hr) (pc o1 (pc (j6 _ _ _ eJ) (pc (tp _ _ _ _ jP) (pc (jk _ _ _ _ mz) (pc o1 pn))))))))) ?_
 obtain rfl:=cJ h
 exact cP hE 0 Tryz.f96 [] (kp [4]) [(16,.ag 32)] 272 pn [16] (pc o1 pn)
noncomputable abbrev MQ:=bV Tryz.f118
def D9 (N:Nat) (a:List Int) (b:List Int) (K:(List Int)→Int→Int→Option ((List Int))):Prop:=∀ (out:List Int) (carry:Int) (i:Int) (r:(List Int)),K out carry i=some r→∀ E,bq E 0→aD Tryz.prog E 118 43 (bd E [] (aH cI 0 r)) [.code (MQ 244),.inLoop (MQ 244),.inBlock 0,.code (MQ 31)] ⟨[(0,(aH cI 0 a)),(1,(aH cI 0 b)),(5,(.os 0 0 out.length)),(6,(aI carry)),(7,(aI i))],[(0,aO 1 cI 0 out)],1⟩
theorem CV (N a b fuel):D9 N a b (j4 N a b fuel):=by
 induction fuel with
 | zero=>intro _ _ _ r h;rw [j4.eq_1] at h;cases h
 | succ fuel ih =>
  intro out carry i r h E hE
  rw [j4.eq_2] at h
  refine ae hE 2 [] [] (kp [0,1,5,6,7,22]) (kq [0]) 225 (pc (fun hg:(!(decide (i < ((a.length:Nat):Int))))=true=>(pc hg pn)) (pc (fun hg:(!(decide (i < ((a.length:Nat):Int))))=true=>(pc hg (pc hg pn))) (pc (fun hq:(!(decide (i < ((a.length:Nat):Int))))=true=>(pc hq pn)) (pc (fun hg:(!(cond (decide (i < ((a.length:Nat):Int))) true (decide (i < ((b.length:Nat):Int)))))=true=>(pc hg pn)) (pc (fun hq:(!(cond (decide (i < ((a.length:Nat):Int))) true (decide (i < ((b.length:Nat):Int)))))=true=>(pc hq pn)) pn))))) ?_
  refine dm 0 22 h (fun dW h=>?_) (fun dW h=>?_)
  ·obtain ⟨cH,hr,h⟩:=aQ h
   obtain ⟨mb,eJ,h⟩:=aQ h
   refine ae hE 4 [(2,oT (aI cH)),(5,oT (aI mb))] [] (kp [0,1,5,7,8]) (kq [0]) 385 (pc (qa _ _ _ _ hr) (pc (qa _ _ _ _ eJ) pn)) ?_
   obtain ⟨c,h⟩:=ab h
   refine ae hE 1 [] [] (kp [0,1] ++ [(5,.kQ ((out ++ ([((ah ((ah (cH+mb))+carry)).tmod 65536)]:List Int)).length))] ++ kp [7,8]) [(449,.arr 449 ((out ++ ([((ah ((ah (cH+mb))+carry)).tmod 65536)]:List Int)).length) (fun zi=>cI ((out ++ ([((ah ((ah (cH+mb))+carry)).tmod 65536)]:List Int)).getD zi 0)))] 481 (pc (show (65536:Int)≠0 by decide) (pc (Eq.refl out.length) (pc c (pc (z1 1) (pc (show ∀ zi,zi < 1→AV.iP ((fun zi=>([[(aI ((ah ((ah (cH+mb))+carry)).tmod 65536))]]:List (List AV)).getD zi []) (bA 0 zi))=true from (qO rfl)) (pc (show (out.length+1)=(out ++ ([((ah ((ah (cH+mb))+carry)).tmod 65536)]:List Int)).length from (ax rfl rfl)) (pc (show out.length+1=(out ++ ([((ah ((ah (cH+mb))+carry)).tmod 65536)]:List Int)).length from (ax rfl rfl)) (pc (show ∀ zi,zi < (out ++ ([((ah ((ah (cH+mb))+carry)).tmod 65536)]:List Int)).length→(fun zi=>cI ((out ++ ([((ah ((ah (cH+mb))+carry)).tmod 65536)]:List Int)).getD zi 0)) zi=((fun zm=>if zm < out.length then (fun zi=>cI (out.getD zi 0)) zm else (fun zi=>([[(aI ((ah ((ah (cH+mb))+carry)).tmod 65536))]]:List (List AV)).getD zi []) (zm - out.length))) zi from (bP cI 0 out ([((ah ((ah (cH+mb))+carry)).tmod 65536)]:List Int) rfl (fun _ _=>rfl) (fun zq iw=>cg cI 0 ([((ah ((ah (cH+mb))+carry)).tmod 65536)]:List Int) zq iw))) pn)))))))) ?_
   refine ae hE 0 [] [] (kp [0,1,5,6,7]) (kq [449]) 529 (pc (show (65536:Int)≠0 by decide) pn) ?_
   refine ae hE 1 [] [] (kp [0,1,5,6,7]) (kq [449]) 577 pn ?_
   exact cV hE 1 [] (kp [0,1,5,6,7]) [(0,.ag 449)] 1 pn (ih _ _ _ _ h E hE)
  ·obtain ⟨b7,jP,h⟩:=aQ h
   refine ae hE 2 [(1,⟨[],true,(aH cI 0 b7),[],0,true,none⟩)] [] (kp [4]) [] 273 (pc (mO _ _ _ jP) (pc (z1 out.length) pn)) ?_
   obtain rfl:=cJ h
   exact cP hE 0 Tryz.f118 [] (kp [4]) [] 273 pn [] pn
theorem G2 (N a b r) (h:wo N a b=some r):Sd 118 [(aH cI 0 a),(aH cI 0 b)] [] 0 (aH cI 0 r) []:=by
 unfold wo at h
 refine gU (fu:=Tryz.f118) (c:=MQ 1) (nt:=43) (fun hm=>rfl) ?_
 intro E hE
 refine ae hE 1 [] [] (kp [0,1]) [] 16 pn ?_
 refine ae hE 1 [] [] (kp [0,1,5]) [] 32 pn ?_
 refine ae hE 1 [] [] (kp [0,1,5,6]) [] 48 pn ?_
 refine ae hE 2 [] [] (kp [0,1,5,6,7]) [] 64 pn ?_
 exact cV hE 2 [] (kp [0,1] ++ [(5,.o8 0)] ++ kp [6,7]) [(0,.nil 1 (fun zi=>cI (([]:List Int).getD zi 0)))] 1 pn (CV N _ _ N _ _ _ _ h E hE)
noncomputable abbrev W5:=bV Tryz.f95
theorem I0 (N a b r) (h:y9 N a b=some r):Sd 95 [(.agg (lk a)),(.agg (lk b))] [] 0 (.agg (lk r)) []:=by
 unfold y9 at h
 refine gU (fu:=Tryz.f95) (c:=W5 1) (nt:=40) (fun hm=>rfl) ?_
 intro E hE
 refine ae hE 1 [] [] (kp [2,3,4]) (kq [0,16,32]) 48 pn ?_
 obtain ⟨m7,hr,h⟩:=aQ h
 obtain ⟨n8,eJ,h⟩:=aQ h
 refine ae hE 1 [(2,oT (aH cI 0 m7)),(5,oT (aH cI 0 n8))] [] (kp [2,3,4,5,6]) (kq [0,16,32]) 176 (pc o1 (pc (j6 _ _ _ hr) (pc o1 (pc (j6 _ _ _ eJ) pn)))) ?_
 refine ae hE 2 [] [] (kp [2,3,4,5,6,17]) (kq [0,16,32]) 256 (pc o1 (pc o1 pn)) ?_
 refine dm 0 17 h (fun dW h=>?_) (fun dW h=>?_)
 ·obtain ⟨Fq,jP,h⟩:=aQ h
  obtain ⟨pY,mz,h⟩:=aQ h
  refine ae hE 1 [(4,oT (aH cI 0 Fq)),(5,oT (.agg (lk pY)))] [] (kp [4]) (kq [32]) 368 (pc o1 (pc (G2 _ _ _ _ jP) (pc (jk _ _ _ _ mz) (pc o1 pn)))) ?_
  obtain rfl:=cJ h
  exact cP hE 0 Tryz.f95 [] (kp [4]) [(16,.ag 32)] 368 pn [16] (pc o1 pn)
 ·obtain ⟨ki,qz,h⟩:=aQ h
  refine ae hE 3 [(2,oT (aI ki))] [] (kp [2,3,4,5,6,27]) (kq [0,16,32]) 320 (pc (vH _ _ _ _ qz) pn) ?_
  refine dm 0 27 h (fun jh h=>?_) (fun jh h=>?_)
  ·obtain ⟨sS,vj,h⟩:=aQ h
   obtain ⟨Am,wv,h⟩:=aQ h
   refine ae hE 1 [(4,oT (aH cI 0 sS)),(5,oT (.agg (lk Am)))] [] (kp [4]) (kq [32]) 432 (pc o1 (pc (tq _ _ _ _ vj) (pc (jk _ _ _ _ wv) (pc o1 pn)))) ?_
   obtain rfl:=cJ h
   exact cP hE 0 Tryz.f95 [] (kp [4]) [(16,.ag 32)] 432 pn [16] (pc o1 pn)
  ·obtain ⟨wh,DI,h⟩:=aQ h
   obtain ⟨An,DH,h⟩:=aQ h
   refine ae hE 2 [(4,oT (aH cI 0 wh)),(5,oT (.agg (lk An)))] [] (kp [4]) (kq [32]) 432 (pc o1 (pc (tq _ _ _ _ DI) (pc (jk _ _ _ _ DH) (pc o1 pn)))) ?_
   obtain rfl:=cJ h
   exact cP hE 0 Tryz.f95 [] (kp [4]) [(16,.ag 32)] 432 pn [16] (pc o1 pn)
noncomputable abbrev W6:=bV Tryz.f55
theorem iq (N x y r) (h:ia N x y=some r):Sd 55 [(.agg (aj x)),(.agg (aj y))] [] 0 (.agg (aj r)) []:=by
 unfold ia at h
 refine gU (fu:=Tryz.f55) (c:=W6 1) (nt:=28) (fun hm=>rfl) ?_
 intro E hE
 refine ae hE 1 [] [] (kp [2,3,4]) (kq [0,16,32]) 48 pn ?_
 obtain ⟨eO,hr,h⟩:=aQ h
 obtain ⟨iV,eJ,h⟩:=aQ h
 refine ae hE 1 [(1,oT (.agg (aj eO))),(3,oT (.agg (aj iV)))] [] (kp [4,5,6]) (kq [32,112,128]) 176 (pc o1 (pc (gM _ _ _ hr) (pc o1 (pc (gM _ _ _ eJ) (pc o1 (pc o1 pn)))))) ?_
 obtain ⟨sV,jP,h⟩:=aQ h
 obtain ⟨nw,mz,h⟩:=aQ h
 obtain ⟨LC,qz,h⟩:=aQ h
 obtain ⟨Fs,vj,h⟩:=aQ h
 obtain ⟨sZ,wv,h⟩:=aQ h
 refine ae hE 1 [(4,oT (.agg (lk sV))),(9,oT (.agg (lk nw))),(10,oT (.agg (lk LC))),(15,oT (.agg (lk Fs))),(16,oT (.agg (aj sZ)))] [] (kp [4]) (kq [32]) 464 (pc o1 (pc o1 (pc (mh _ _ _ _ jP) (pc o1 (pc o1 (pc (mh _ _ _ _ mz) (pc (I0 _ _ _ _ qz) (pc o1 (pc o1 (pc (mh _ _ _ _ vj) (pc (qJ _ _ _ _ wv) (pc o1 pn)))))))))))) ?_
 obtain rfl:=cJ h
 exact cP hE 0 Tryz.f55 [] (kp [4]) [(16,.ag 32)] 464 pn [16] (pc o1 pn)
noncomputable abbrev W7:=bV Tryz.f83
theorem xc (N x y r) (h:pZ N x y=some r):Sd 83 [(.agg (aj x)),(.agg (aj y))] [] 0 (.agg (aj r)) []:=by
 unfold pZ at h
 refine gU (fu:=Tryz.f83) (c:=W7 1) (nt:=9) (fun hm=>rfl) ?_
 intro E hE
 refine ae hE 1 [] [] (kp [2,3,4]) (kq [0,16,32]) 48 pn ?_
 obtain ⟨IL,hr,h⟩:=aQ h
 obtain ⟨bk,eJ,h⟩:=aQ h
 refine ae hE 1 [(2,oT (.agg (aj IL))),(3,oT (.agg (aj bk)))] [] (kp [4]) (kq [32]) 128 (pc o1 (pc o1 (pc (D8 _ _ _ hr) (pc (iq _ _ _ _ eJ) (pc o1 pn))))) ?_
 obtain rfl:=cJ h
 exact cP hE 0 Tryz.f83 [] (kp [4]) [(16,.ag 32)] 128 pn [16] (pc o1 pn)
noncomputable abbrev W8:=bV Tryz.f53
theorem Ea (N x y r) (h:se N x y=some r):Sd 53 [(.agg (aj x)),(.agg (aj y))] [] 0 (aI r) []:=by
 unfold se at h
 refine gU (fu:=Tryz.f53) (c:=W8 1) (nt:=9) (fun hm=>rfl) ?_
 intro E hE
 refine ae hE 1 [] [] (kp [2,3]) (kq [0,16]) 48 pn ?_
 obtain ⟨av,hr,h⟩:=aQ h
 obtain ⟨gI,eJ,h⟩:=aQ h
 refine ae hE 1 [(2,oT (.agg (aj av))),(3,oT (aI gI))] [] (kp [4]) [] 128 (pc o1 (pc o1 (pc (xc _ _ _ _ hr) (pc (iX _ _ _ eJ) pn)))) ?_
 obtain rfl:=cJ h
 exact cP hE 0 Tryz.f53 [] (kp [4]) [] 128 pn [] pn
end Go.Den
