/- Each function of the program does what its Lean function computes (part 2). No conditions. -/
import Derived.Test.YtlgddcmiekcdiaaGreatBerthHoldsSa
import Derived.Test.YtlgddcmiekcdiaaGreatProg
set_option linter.unusedVariables false
set_option maxRecDepth 100000
namespace Go.Den
open Go.Ab Go.Proofs Go.Ab.az
noncomputable abbrev Nm:=bu Tryz.f76
def pH (N:Nat) (s:List aa) (K:Int→Option (Int)):Prop:=∀ (x:Int) (r:Int),K x=some r→∀ E,a3 E 0→az Tryz.prog E 76 19 (aQ E [] (aI r)) [.code (Nm 52),.inLoop (Nm 52),.inBlock 0,.code (Nm 7)] ⟨[(0,(aD ai aa.d s)),(1,(.fn (.func 77) [] [])),(7,(aI ((s.length:Nat):Int))),(8,(aI x))],[],0⟩
theorem oP (N s fuel):pH N s (dQ N s fuel):=by
 induction fuel with
 | zero=>intro _ r h;rw [dQ.eq_1] at h;cases h
 | succ fuel ih =>
  intro x r h E hE
  rw [dQ.eq_2] at h
  refine ae hE 1 [] [] (kp [0,1,7,8,9]) [] 16 pn ?_
  refine ct 1 9 h (fun cR h=>?_) (fun cR h=>?_)
  ·refine ae hE 4 [] [] (kp [0,1,5,7,8]) [] 48 pn ?_
   obtain ⟨c,h⟩:=ab h
   obtain ⟨Cy,hr,h⟩:=aG h
   refine ae hE 1 [(5,oT (aB Cy))] [] (kp [0,1,5,7,8,16]) [] 144 (pc c (pc (sP _ _ _ hr) pn)) ?_
   refine ct 0 16 h (fun gB h=>?_) (fun gB h=>?_)
   ·refine ae hE 1 [] [] (kp [4]) [] 176 pn ?_
    obtain rfl:=bQ h
    exact bV hE 0 Tryz.f76 [] (kp [4]) [] 176 pn [] pn
   ·refine ae hE 2 [] [] (kp [0,1,7,8]) [] 176 pn ?_
    exact b5 hE 1 [] (kp [0,1,7,8]) [] 0 pn (ih _ _ h E hE)
  ·refine ae hE 2 [] [] (kp [4]) [] 32 pn ?_
   obtain rfl:=bQ h
   exact bV hE 0 Tryz.f76 [] (kp [4]) [] 48 pn [] pn
theorem qT (N s r) (h:j0 N s=some r):Sd 76 [(aD ai aa.d s),(.fn (.func 77) [] [])] [] 0 (aI r) []:=by
 unfold j0 at h
 refine eL (fu:=Tryz.f76) (c:=Nm 1) (nt:=19) (fun hm=>rfl) ?_
 intro E hE
 refine ae hE 1 [] [] (kp [0,1]) [] 16 pn ?_
 refine ae hE 2 [] [] (kp [0,1,7,8]) [] 64 pn ?_
 exact b5 hE 2 [] (kp [0,1,7,8]) [] 0 pn (oP N _ N _ _ h E hE)
noncomputable abbrev TE:=bu Tryz.f78
theorem qz (N i j C0 r) (h:jG N i j C0=some r):Sd 78 [(.os 0 0 C0.length),(aI i),(aI j)] [(0,aO 1 cI 0 C0)] 1 (.os 0 0 r.2.length) [(0,aO 1 cI 0 r.2)]:=by
 unfold jG at h
 refine eL (fu:=Tryz.f78) (c:=TE 1) (nt:=33) (fun hm=>absurd hm (by decide)) ?_
 intro E hE
 refine ae hE 1 [] [] (kp [0,1,2]) (kq [0]) 17 pn ?_
 obtain ⟨c,h⟩:=ab h
 refine ae hE 1 [(5,oF (.k6))] [] (kp [0,1,2]) (kq [0]) 113 (pc c pn) ?_
 refine ae hE 2 [] [] (kp [0,1,2,16]) (kq [0]) 161 pn ?_
 refine ct 0 16 h (fun cR h=>?_) (fun cR h=>?_)
 ·refine ae hE 1 [] [] (kp [6]) (kq [0]) 193 pn ?_
  obtain rfl:=bQ h
  exact bV hE 0 Tryz.f78 [] (kp [6]) (kq [0]) 193 pn [] pn
 ·refine ae hE 2 [] [] (kp [0,1,2,7]) (kq [0]) 209 pn ?_
  obtain ⟨c2,h⟩:=ab h
  obtain ⟨c3,h⟩:=ab h
  obtain ⟨c4,h⟩:=ab h
  obtain ⟨c5,h⟩:=ab h
  obtain ⟨c6,h⟩:=ab h
  obtain ⟨c7,h⟩:=ab h
  refine ae hE 1 [(6,oF (.k6))] [] (kp [0,7]) [(0,.arr 0 ((jD C0 ((i).toNat) ((j).toNat)).length) (fun zi=>cI ((jD C0 ((i).toNat) ((j).toNat)).getD zi 0)))] 337 (pc c2 (pc c3 (pc c4 (pc c5 (pc (show 0 < C0.length∧((i).toNat - 0)+(C0.length - (j).toNat)≤C0.length by have h1:=c6;have h2:=c7;omega) (pc (show (j).toNat+(C0.length - (j).toNat)≤C0.length by have h1:=c6;omega) (pc (show ∀ zi,zi < C0.length→AV.fx (cI (C0.getD zi 0))=true from (fun _ _=>rfl)) (pc (show C0.length=(jD C0 ((i).toNat) ((j).toNat)).length from (Fa c6)) (pc (show ∀ zi,zi < (jD C0 ((i).toNat) ((j).toNat)).length→(fun zi=>cI ((jD C0 ((i).toNat) ((j).toNat)).getD zi 0)) zi=((fun zm=>if zm < ((i).toNat - 0) then cI (C0.getD zm 0) else if zm < ((i).toNat - 0)+(C0.length - (j).toNat) then cI (C0.getD (a8 (j).toNat (zm - ((i).toNat - 0))) 0) else cI (C0.getD zm 0))) zi from (fun zq fb=>IP cI 0 C0 ((i).toNat) ((j).toNat) c6 zq fb)) pn))))))))) ?_
  obtain ⟨c8,h⟩:=ab h
  obtain ⟨c9,h⟩:=ab h
  refine ae hE 1 [(4,oF (.k6)),(5,oF (.k6))] [] [(0,.ja (((jD C0 ((i).toNat) ((j).toNat)).take (((i).toNat - 0)+(C0.length - (j).toNat))).length))] [(0,.arr 0 (((jD C0 ((i).toNat) ((j).toNat)).take (((i).toNat - 0)+(C0.length - (j).toNat))).length) (fun zi=>cI (((jD C0 ((i).toNat) ((j).toNat)).take (((i).toNat - 0)+(C0.length - (j).toNat))).getD zi 0)))] 433 (pc c8 (pc (show 0≤(((((i).toNat - 0)+(C0.length - (j).toNat)):Nat):Int) from (Int.natCast_nonneg _)) (pc (show 0≤((C0.length:Nat):Int) from (Int.natCast_nonneg _)) (pc c9 (pc (show (((i).toNat - 0)+(C0.length - (j).toNat))=((jD C0 ((i).toNat) ((j).toNat)).take (((i).toNat - 0)+(C0.length - (j).toNat))).length from (Fb c9)) (pc (show (((i).toNat - 0)+(C0.length - (j).toNat))=((jD C0 ((i).toNat) ((j).toNat)).take (((i).toNat - 0)+(C0.length - (j).toNat))).length from (Fb c9)) (pc (show ∀ zi,zi < ((jD C0 ((i).toNat) ((j).toNat)).take (((i).toNat - 0)+(C0.length - (j).toNat))).length→(fun zi=>cI (((jD C0 ((i).toNat) ((j).toNat)).take (((i).toNat - 0)+(C0.length - (j).toNat))).getD zi 0)) zi=(fun zi=>cI ((jD C0 ((i).toNat) ((j).toNat)).getD zi 0)) zi from (fun zq fb=>Lk cI 0 (jD C0 ((i).toNat) ((j).toNat)) (((i).toNat - 0)+(C0.length - (j).toNat)) zq fb)) pn))))))) ?_
  refine ae hE 1 [] [] (kp [6]) (kq [0]) 465 pn ?_
  obtain rfl:=bQ h
  exact bV hE 0 Tryz.f78 [] (kp [6]) (kq [0]) 465 pn [] pn
noncomputable abbrev TF:=bu Tryz.f79
theorem tR (N i j C0 r) (h:l6 N i j C0=some r):Sd 79 [(.os 0 0 C0.length),(aI i),(aI j)] [(0,aO 4 ai aa.d C0)] 1 (.os 0 0 r.2.length) [(0,aO 4 ai aa.d r.2)]:=by
 unfold l6 at h
 refine eL (fu:=Tryz.f79) (c:=TF 1) (nt:=33) (fun hm=>absurd hm (by decide)) ?_
 intro E hE
 refine ae hE 1 [] [] (kp [0,1,2]) (kq [0]) 17 pn ?_
 obtain ⟨c,h⟩:=ab h
 refine ae hE 1 [(5,oF (.k6))] [] (kp [0,1,2]) (kq [0]) 113 (pc c pn) ?_
 refine ae hE 2 [] [] (kp [0,1,2,16]) (kq [0]) 161 pn ?_
 refine ct 0 16 h (fun cR h=>?_) (fun cR h=>?_)
 ·refine ae hE 1 [] [] (kp [6]) (kq [0]) 193 pn ?_
  obtain rfl:=bQ h
  exact bV hE 0 Tryz.f79 [] (kp [6]) (kq [0]) 193 pn [] pn
 ·refine ae hE 2 [] [] (kp [0,1,2,7]) (kq [0]) 209 pn ?_
  obtain ⟨c2,h⟩:=ab h
  obtain ⟨c3,h⟩:=ab h
  obtain ⟨c4,h⟩:=ab h
  obtain ⟨c5,h⟩:=ab h
  obtain ⟨c6,h⟩:=ab h
  obtain ⟨c7,h⟩:=ab h
  refine ae hE 1 [(6,oF (.k6))] [] (kp [0,7]) [(0,.arr 0 ((jD C0 ((i).toNat) ((j).toNat)).length) (fun zi=>ai ((jD C0 ((i).toNat) ((j).toNat)).getD zi aa.d)))] 337 (pc c2 (pc c3 (pc c4 (pc c5 (pc (show 0 < C0.length∧((i).toNat - 0)+(C0.length - (j).toNat)≤C0.length by have h1:=c6;have h2:=c7;omega) (pc (show (j).toNat+(C0.length - (j).toNat)≤C0.length by have h1:=c6;omega) (pc (show ∀ zi,zi < C0.length→AV.fx (ai (C0.getD zi aa.d))=true from (fun _ _=>rfl)) (pc (show C0.length=(jD C0 ((i).toNat) ((j).toNat)).length from (Fa c6)) (pc (show ∀ zi,zi < (jD C0 ((i).toNat) ((j).toNat)).length→(fun zi=>ai ((jD C0 ((i).toNat) ((j).toNat)).getD zi aa.d)) zi=((fun zm=>if zm < ((i).toNat - 0) then ai (C0.getD zm aa.d) else if zm < ((i).toNat - 0)+(C0.length - (j).toNat) then ai (C0.getD (a8 (j).toNat (zm - ((i).toNat - 0))) aa.d) else ai (C0.getD zm aa.d))) zi from (fun zq fb=>IP ai aa.d C0 ((i).toNat) ((j).toNat) c6 zq fb)) pn))))))))) ?_
  obtain ⟨c8,h⟩:=ab h
  obtain ⟨c9,h⟩:=ab h
  refine ae hE 1 [(4,oF (.k6)),(5,oF (.k6))] [] [(0,.ja (((jD C0 ((i).toNat) ((j).toNat)).take (((i).toNat - 0)+(C0.length - (j).toNat))).length))] [(0,.arr 0 (((jD C0 ((i).toNat) ((j).toNat)).take (((i).toNat - 0)+(C0.length - (j).toNat))).length) (fun zi=>ai (((jD C0 ((i).toNat) ((j).toNat)).take (((i).toNat - 0)+(C0.length - (j).toNat))).getD zi aa.d)))] 433 (pc c8 (pc (show 0≤(((((i).toNat - 0)+(C0.length - (j).toNat)):Nat):Int) from (Int.natCast_nonneg _)) (pc (show 0≤((C0.length:Nat):Int) from (Int.natCast_nonneg _)) (pc c9 (pc (show (((i).toNat - 0)+(C0.length - (j).toNat))=((jD C0 ((i).toNat) ((j).toNat)).take (((i).toNat - 0)+(C0.length - (j).toNat))).length from (Fb c9)) (pc (show (((i).toNat - 0)+(C0.length - (j).toNat))=((jD C0 ((i).toNat) ((j).toNat)).take (((i).toNat - 0)+(C0.length - (j).toNat))).length from (Fb c9)) (pc (show ∀ zi,zi < ((jD C0 ((i).toNat) ((j).toNat)).take (((i).toNat - 0)+(C0.length - (j).toNat))).length→(fun zi=>ai (((jD C0 ((i).toNat) ((j).toNat)).take (((i).toNat - 0)+(C0.length - (j).toNat))).getD zi aa.d)) zi=(fun zi=>ai ((jD C0 ((i).toNat) ((j).toNat)).getD zi aa.d)) zi from (fun zq fb=>Lk ai aa.d (jD C0 ((i).toNat) ((j).toNat)) (((i).toNat - 0)+(C0.length - (j).toNat)) zq fb)) pn))))))) ?_
  refine ae hE 1 [] [] (kp [6]) (kq [0]) 465 pn ?_
  obtain rfl:=bQ h
  exact bV hE 0 Tryz.f79 [] (kp [6]) (kq [0]) 465 pn [] pn
noncomputable abbrev uK:=bu Tryz.f34
def m8 (N:Nat) (C0:Int) (a6:Int) (bD:Bool) (cj:List Int) (cn:Bool) (cr:List Int) (cd:Int) (C1:List Int) (C2:List Int) (C3:List (List aa)) (C4:List aa) (C5:List aa) (K:Int→Int→Option (Bool×jX×(List Int)×(List Int)×(List (List aa))×(List aa))):Prop:=∀ (low:Int) (x:Int) (r:Bool×jX×(List Int)×(List Int)×(List (List aa))×(List aa)),K low x=some r→∀ E,a3 E 6→az Tryz.prog E 34 177 (aQ E [(0,vN 12 [(aI r.2.1.uD),(aI r.2.1.uE),(.os 1 0 r.2.2.1.length),(.os 2 0 r.2.2.2.1.length),(.os 3 0 r.2.2.2.2.1.length),(.os 4 0 r.2.2.2.2.2.length),(.os 6 0 r.2.1.dr.length),(aB r.2.1.aj.fN.fG),(eU r.2.1.aj.fN.fL),(aB r.2.1.aj.fD.fG),(eU r.2.1.aj.fD.fL),(aI r.2.1.bH)]),(1,aO 1 cI 0 r.2.2.1),(2,aO 1 cI 0 r.2.2.2.1),(3,aM 4 ai aa.d r.2.2.2.2.1),(4,aO 4 ai aa.d r.2.2.2.2.2),(6,aO 4 ai aa.d r.2.1.dr)] (aB r.1)) [.code (uK 116),.inLoop (uK 116),.inBlock 0,.code (uK 15)] ⟨[(0,(.op 0 0 0)),(3,(aI low)),(15,(aI ((C4.length:Nat):Int))),(16,(aI x))],[(0,vN 12 [(aI C0),(aI a6),(.os 1 0 C1.length),(.os 2 0 C2.length),(.os 3 0 C3.length),(.os 4 0 C4.length),(.os 6 0 C5.length),(aB bD),(eU cj),(aB cn),(eU cr),(aI cd)]),(1,aO 1 cI 0 C1),(2,aO 1 cI 0 C2),(3,aM 4 ai aa.d C3),(4,aO 4 ai aa.d C4),(6,aO 4 ai aa.d C5)],7⟩
def sQ (N:Nat) (C0:Int) (a6:Int) (bD:Bool) (cj:List Int) (cn:Bool) (cr:List Int) (cd:Int) (C1:List Int) (C2:List Int) (C3:List (List aa)) (C4:List aa) (C5:List aa) (x:Int) (K:Int→Option (Bool×jX×(List Int)×(List Int)×(List (List aa))×(List aa))):Prop:=∀ (Ls:Int) (r:Bool×jX×(List Int)×(List Int)×(List (List aa))×(List aa)),K Ls=some r→∀ E,a3 E 6→az Tryz.prog E 34 177 (aQ E [(0,vN 12 [(aI r.2.1.uD),(aI r.2.1.uE),(.os 1 0 r.2.2.1.length),(.os 2 0 r.2.2.2.1.length),(.os 3 0 r.2.2.2.2.1.length),(.os 4 0 r.2.2.2.2.2.length),(.os 6 0 r.2.1.dr.length),(aB r.2.1.aj.fN.fG),(eU r.2.1.aj.fN.fL),(aB r.2.1.aj.fD.fG),(eU r.2.1.aj.fD.fL),(aI r.2.1.bH)]),(1,aO 1 cI 0 r.2.2.1),(2,aO 1 cI 0 r.2.2.2.1),(3,aM 4 ai aa.d r.2.2.2.2.1),(4,aO 4 ai aa.d r.2.2.2.2.2),(6,aO 4 ai aa.d r.2.1.dr)] (aB r.1)) [.code (uK 935),.inLoop (uK 116),.inBlock 0,.code (uK 15)] ⟨[(0,(.op 0 0 0)),(3,(aI Ls)),(15,(aI ((C4.length:Nat):Int))),(16,(aI x))],[(0,vN 12 [(aI C0),(aI a6),(.os 1 0 C1.length),(.os 2 0 C2.length),(.os 3 0 C3.length),(.os 4 0 C4.length),(.os 6 0 C5.length),(aB bD),(eU cj),(aB cn),(eU cr),(aI cd)]),(1,aO 1 cI 0 C1),(2,aO 1 cI 0 C2),(3,aM 4 ai aa.d C3),(4,aO 4 ai aa.d C4),(6,aO 4 ai aa.d C5)],7⟩
theorem mh (N:Nat) (C0:Int) (a6:Int) (bD:Bool) (cj:List Int) (cn:Bool) (cr:List Int) (cd:Int) (C1:List Int) (C2:List Int) (C3:List (List aa)) (C4:List aa) (C5:List aa) (x:Int) (gu:Int→Int→Option (Bool×jX×(List Int)×(List Int)×(List (List aa))×(List aa))) (rS:m8 N C0 a6 bD cj cn cr cd C1 C2 C3 C4 C5 gu):sQ N C0 a6 bD cj cn cr cd C1 C2 C3 C4 C5 x (iC N C0 a6 bD cj cn cr cd C1 C2 C3 C4 C5 x gu):=by
 intro Ls r h E hE
 unfold iC at h
 refine ae hE 0 [] [] (kp [0,3,15,16]) (kq [0,1,2,3,4,6]) 39 pn ?_
 exact b5 hE 1 [] (kp [0,3,15,16]) (kq [0,1,2,3,4,6]) 7 pn (rS _ _ _ h E hE)
def sR (N:Nat) (K:Int→Int→(List Int)→(List Int)→(List (List aa))→(List aa)→(List aa)→Bool→(List Int)→Bool→(List Int)→Int→Option (Bool×jX×(List Int)×(List Int)×(List (List aa))×(List aa))):Prop:=∀ (bB:Int) (md:Int) (jx:List Int) (ny:List Int) (eC:List (List aa)) (nM:List aa) (nN:List aa) (qN:Bool) (qO:List Int) (wH:Bool) (wJ:List Int) (vt:Int) (r:Bool×jX×(List Int)×(List Int)×(List (List aa))×(List aa)),K bB md jx ny eC nM nN qN qO wH wJ vt=some r→∀ E,a3 E 6→az Tryz.prog E 34 177 (aQ E [(0,vN 12 [(aI r.2.1.uD),(aI r.2.1.uE),(.os 1 0 r.2.2.1.length),(.os 2 0 r.2.2.2.1.length),(.os 3 0 r.2.2.2.2.1.length),(.os 4 0 r.2.2.2.2.2.length),(.os 6 0 r.2.1.dr.length),(aB r.2.1.aj.fN.fG),(eU r.2.1.aj.fN.fL),(aB r.2.1.aj.fD.fG),(eU r.2.1.aj.fD.fL),(aI r.2.1.bH)]),(1,aO 1 cI 0 r.2.2.1),(2,aO 1 cI 0 r.2.2.2.1),(3,aM 4 ai aa.d r.2.2.2.2.1),(4,aO 4 ai aa.d r.2.2.2.2.2),(6,aO 4 ai aa.d r.2.1.dr)] (aB r.1)) [.code (uK 252),.code (uK 253),.code (uK 127)] ⟨[(0,(.op 0 0 0))],[(0,vN 12 [(aI bB),(aI md),(.os 1 0 jx.length),(.os 2 0 ny.length),(.os 3 0 eC.length),(.os 4 0 nM.length),(.os 6 0 nN.length),(aB qN),(eU qO),(aB wH),(eU wJ),(aI vt)]),(1,aO 1 cI 0 jx),(2,aO 1 cI 0 ny),(3,aM 4 ai aa.d eC),(4,aO 4 ai aa.d nM),(6,aO 4 ai aa.d nN)],7⟩
def sS (N:Nat) (K:Int→Int→(List Int)→(List Int)→(List (List aa))→(List aa)→(List aa)→Bool→(List Int)→Bool→(List Int)→Int→Option (Bool×jX×(List Int)×(List Int)×(List (List aa))×(List aa))):Prop:=∀ (rE:Int) (rF:Int) (oJ:List Int) (GC:List Int) (xA:List (List aa)) (oK:List aa) (yz:List aa) (sx:Bool) (sy:List Int) (sB:Bool) (sD:List Int) (qP:Int) (r:Bool×jX×(List Int)×(List Int)×(List (List aa))×(List aa)),K rE rF oJ GC xA oK yz sx sy sB sD qP=some r→∀ E,a3 E 6→az Tryz.prog E 34 177 (aQ E [(0,vN 12 [(aI r.2.1.uD),(aI r.2.1.uE),(.os 1 0 r.2.2.1.length),(.os 2 0 r.2.2.2.1.length),(.os 3 0 r.2.2.2.2.1.length),(.os 4 0 r.2.2.2.2.2.length),(.os 6 0 r.2.1.dr.length),(aB r.2.1.aj.fN.fG),(eU r.2.1.aj.fN.fL),(aB r.2.1.aj.fD.fG),(eU r.2.1.aj.fD.fL),(aI r.2.1.bH)]),(1,aO 1 cI 0 r.2.2.1),(2,aO 1 cI 0 r.2.2.2.1),(3,aM 4 ai aa.d r.2.2.2.2.1),(4,aO 4 ai aa.d r.2.2.2.2.2),(6,aO 4 ai aa.d r.2.1.dr)] (aB r.1)) [.code (uK 254),.code (uK 255)] ⟨[(0,(.op 0 0 0))],[(0,vN 12 [(aI rE),(aI rF),(.os 1 0 oJ.length),(.os 2 0 GC.length),(.os 3 0 xA.length),(.os 4 0 oK.length),(.os 6 0 yz.length),(aB sx),(eU sy),(aB sB),(eU sD),(aI qP)]),(1,aO 1 cI 0 oJ),(2,aO 1 cI 0 GC),(3,aM 4 ai aa.d xA),(4,aO 4 ai aa.d oK),(6,aO 4 ai aa.d yz)],7⟩
def sU (N:Nat) (rE:Int) (rF:Int) (oJ:List Int) (xA:List (List aa)) (oK:List aa) (yz:List aa) (sx:Bool) (sy:List Int) (sB:Bool) (sD:List Int) (qP:Int) (kV:Int) (bJ:(List Int)×(List Int)) (K:(List (List aa))→Int→Option (Bool×jX×(List Int)×(List Int)×(List (List aa))×(List aa))):Prop:=∀ (jl:List (List aa)) (x2:Int) (r:Bool×jX×(List Int)×(List Int)×(List (List aa))×(List aa)),K jl x2=some r→∀ E,a3 E 6→az Tryz.prog E 34 177 (aQ E [(0,vN 12 [(aI r.2.1.uD),(aI r.2.1.uE),(.os 1 0 r.2.2.1.length),(.os 2 0 r.2.2.2.1.length),(.os 3 0 r.2.2.2.2.1.length),(.os 4 0 r.2.2.2.2.2.length),(.os 6 0 r.2.1.dr.length),(aB r.2.1.aj.fN.fG),(eU r.2.1.aj.fN.fL),(aB r.2.1.aj.fD.fG),(eU r.2.1.aj.fD.fL),(aI r.2.1.bH)]),(1,aO 1 cI 0 r.2.2.1),(2,aO 1 cI 0 r.2.2.2.1),(3,aM 4 ai aa.d r.2.2.2.2.1),(4,aO 4 ai aa.d r.2.2.2.2.2),(6,aO 4 ai aa.d r.2.1.dr)] (aB r.1)) [.code (uK 8180),.inLoop (uK 8180),.inBlock 2,.code (uK 1023)] ⟨[(0,(.op 0 0 0)),(8,(aI kV)),(126,(aI ((xA.length:Nat):Int))),(127,(aI x2))],[(0,vN 12 [(aI rE),(aI rF),(.os 1 0 oJ.length),(.os 2 0 bJ.2.length),(.os 3 0 jl.length),(.os 4 0 oK.length),(.os 6 0 yz.length),(aB sx),(eU sy),(aB sB),(eU sD),(aI qP)]),(1,aO 1 cI 0 oJ),(2,aO 1 cI 0 bJ.2),(3,aM 4 ai aa.d jl),(4,aO 4 ai aa.d oK),(6,aO 4 ai aa.d yz)],7⟩
def sV (N:Nat) (rE:Int) (rF:Int) (oJ:List Int) (oK:List aa) (sx:Bool) (sy:List Int) (sB:Bool) (sD:List Int) (qP:Int) (bJ:(List Int)×(List Int)) (jl:List (List aa)) (K:(List aa)→Int→Option (Bool×jX×(List Int)×(List Int)×(List (List aa))×(List aa))):Prop:=∀ (yy:List aa) (x3:Int) (r:Bool×jX×(List Int)×(List Int)×(List (List aa))×(List aa)),K yy x3=some r→∀ E,a3 E 6→az Tryz.prog E 34 177 (aQ E [(0,vN 12 [(aI r.2.1.uD),(aI r.2.1.uE),(.os 1 0 r.2.2.1.length),(.os 2 0 r.2.2.2.1.length),(.os 3 0 r.2.2.2.2.1.length),(.os 4 0 r.2.2.2.2.2.length),(.os 6 0 r.2.1.dr.length),(aB r.2.1.aj.fN.fG),(eU r.2.1.aj.fN.fL),(aB r.2.1.aj.fD.fG),(eU r.2.1.aj.fD.fL),(aI r.2.1.bH)]),(1,aO 1 cI 0 r.2.2.1),(2,aO 1 cI 0 r.2.2.2.1),(3,aM 4 ai aa.d r.2.2.2.2.1),(4,aO 4 ai aa.d r.2.2.2.2.2),(6,aO 4 ai aa.d r.2.1.dr)] (aB r.1)) [.code (uK 32756),.inLoop (uK 32756),.inBlock 4,.code (uK 4095)] ⟨[(0,(.op 0 0 0)),(161,(aI (((List.replicate bJ.2.length aa.d:List aa).length:Nat):Int))),(162,(aI x3))],[(0,vN 12 [(aI rE),(aI rF),(.os 1 0 oJ.length),(.os 2 0 bJ.2.length),(.os 3 0 jl.length),(.os 4 0 oK.length),(.os 6 0 yy.length),(aB sx),(eU sy),(aB sB),(eU sD),(aI qP)]),(1,aO 1 cI 0 oJ),(2,aO 1 cI 0 bJ.2),(3,aM 4 ai aa.d jl),(4,aO 4 ai aa.d oK),(6,aO 4 ai aa.d yy)],7⟩
theorem rT (N rE rF oJ oK sx sy sB sD qP bJ jl fuel):sV N rE rF oJ oK sx sy sB sD qP bJ jl (fk N rE rF oJ oK sx sy sB sD qP bJ jl fuel):=by
 induction fuel with
 | zero=>intro _ _ r h;rw [fk.eq_1] at h;cases h
 | succ fuel ih =>
  intro yy x3 r h E hE
  rw [fk.eq_2] at h
  refine ae hE 1 [] [] (kp [0,161,162,163]) (kq [0,1,2,3,4,6]) 23 pn ?_
  refine ct 1 163 h (fun TG h=>?_) (fun TG h=>?_)
  ·refine ae hE 4 [] [] (kp [0,10,161,162]) (kq [0,1,2,3,4,6]) 55 pn ?_
   obtain ⟨jE,CV,h⟩:=aG h
   obtain ⟨PA,h⟩:=ab h
   refine ae hE 0 [(5,oT (.agg (ai jE)))] [] (kp [0,161,162]) ([(0,.var 0 [.af,.af,.af,.af,.af,.af,.ja ((yy.set ((x3).toNat) jE).length),.af,.af,.af,.af,.af])] ++ kq [1,2,3,4] ++ [(6,.arr 6 ((yy.set ((x3).toNat) jE).length) (fun zi=>ai ((yy.set ((x3).toNat) jE).getD zi aa.d)))]) 183 (pc o1 (pc (eO _ _ _ CV) (pc PA (pc (cM PA) (pc (ay yy ((x3).toNat) jE) (pc (ay yy ((x3).toNat) jE) (pc (bS ai aa.d yy ((x3).toNat) jE) pn))))))) ?_
   refine ae hE 1 [] [] (kp [0,161,162]) (kq [0,1,2,3,4,6]) 215 pn ?_
   exact b5 hE 1 [] (kp [0,161,162]) (kq [0,1,2,3,4,6]) 7 pn (ih _ _ _ h E hE)
  ·obtain ⟨bm,Fp,h⟩:=aG h
   refine ae hE 2 [(1,oT (.agg (ai bm)))] [] [] (kq [0,1,2,3,4,6]) 103 (pc (eO _ _ _ Fp) (pc o1 pn)) ?_
   refine ae hE 1 [] [] (kp [2]) (kq [0,1,2,3,4,6]) 119 pn ?_
   obtain rfl:=bQ h
   exact bV hE 0 Tryz.f34 [] (kp [2]) (kq [0,1,2,3,4,6]) 119 pn [] pn
theorem rU (N rE rF oJ xA oK yz sx sy sB sD qP kV bJ fuel):sU N rE rF oJ xA oK yz sx sy sB sD qP kV bJ (fm N rE rF oJ xA oK yz sx sy sB sD qP kV bJ fuel):=by
 induction fuel with
 | zero=>intro _ _ r h;rw [fm.eq_1] at h;cases h
 | succ fuel ih =>
  intro jl x2 r h E hE
  rw [fm.eq_2] at h
  refine ae hE 1 [] [] (kp [0,8,126,127,128]) (kq [0,1,2,3,4,6]) 23 pn ?_
  refine ct 1 128 h (fun Nk h=>?_) (fun Nk h=>?_)
  ·refine ae hE 4 [] [] (kp [0,8,9,126,127]) (kq [0,1,2,3,4,6]) 55 pn ?_
   obtain ⟨Qd,h⟩:=ab h
   refine M6 3 ((x2).toNat) 4 ((jl.getD ((x2).toNat) []).length) (fun zi=>ai ((jl.getD ((x2).toNat) []).getD zi aa.d)) (pc Qd (pc (show aJ [] (mG jl) ((x2).toNat)=mR 4 ai aa.d (jl.getD ((x2).toNat) []) from rfl) pn)) ?_
   obtain ⟨Qe,h⟩:=ab h
   obtain ⟨nA,CU,h⟩:=aG h
   refine ae hE 0 [(11,oF (.os 55 0 ((jl.getD ((x2).toNat) []).length))),(15,⟨[55],false,(.os 0 0 nA.2.length),[(0,aO 4 ai aa.d nA.2)],0,false,none⟩)] [] (kp [0,8,126,127]) (kq [0,1,2] ++ [(3,.nL 3 (jl.length) [((x2).toNat,55,nA.2.length)] (mG jl))] ++ kq [4,6,55]) 359 (pc o1 (pc o1 (pc Qe (pc (cM Qe) (pc (show (aJ [((x2).toNat,55,(jl.getD ((x2).toNat) []).length)] (mG jl) ((x2).toNat))[0]?=some (.os 55 0 ((jl.getD ((x2).toNat) []).length)) from (gO rfl)) (pc (tR _ _ _ _ _ CU) (pc Qe (pc (cM Qe) (pc (Eq.refl jl.length) (pc (show ∀ zm,zm < jl.length→aJ [((x2).toNat,55,nA.2.length)] (mG jl) zm=if zm=(x2).toNat then [.os 55 0 nA.2.length] else aJ [((x2).toNat,55,(jl.getD ((x2).toNat) []).length)] (mG jl) zm from (M8 _ _ _ _ _ rfl)) (pc (iM jl) pn))))))))))) ?_
   refine Li 3 55 ((x2).toNat) (pc Qd (pc (show aJ [((x2).toNat,55,nA.2.length)] (mG jl) ((x2).toNat)=[.os 55 0 nA.2.length] from if_pos rfl) (pc (show ∀ zj,zj < nA.2.length→lW (ai (nA.2.getD zj aa.d))=true from fun _ _=>rfl) pn))) ?_
   refine Lh hE [] (kp [0,8,126,127]) ([(0,.var 0 [.af,.af,.af,.af,.ja ((jl.set ((x2).toNat) nA.2).length),.af,.af,.af,.af,.af,.af,.af])] ++ kq [1,2] ++ [(3,.nL 3 ((jl.set ((x2).toNat) nA.2).length) [] (mG (jl.set ((x2).toNat) nA.2)))] ++ kq [4,6]) 359 (pc (ay jl ((x2).toNat) nA.2) (pc (ay jl ((x2).toNat) nA.2) (pc (yq (sz:=4) (c:=ai) (d:=aa.d) jl ((x2).toNat) 55 nA.2.length nA.2 [] Qd Cq) (pc (iM (jl.set ((x2).toNat) nA.2)) pn)))) ?_
   refine ae hE 1 [] [] (kp [0,8,126,127]) (kq [0,1,2,3,4,6]) 391 pn ?_
   exact b5 hE 1 [] (kp [0,8,126,127]) (kq [0,1,2,3,4,6]) 7 pn (ih _ _ _ h E hE)
  ·obtain ⟨Qf,h⟩:=ab h
   refine ae hE 2 [] [] (kp [0]) ([(0,.var 0 [.af,.af,.af,.af,.af,.af,.ja ((List.replicate bJ.2.length aa.d:List aa).length),.af,.af,.af,.af,.af])] ++ kq [1,2,3,4] ++ [(119,.K8 119 ((List.replicate bJ.2.length aa.d:List aa).length) (fun zi=>ai ((List.replicate bJ.2.length aa.d:List aa).getD zi aa.d)))]) 183 (pc o1 (pc (show 0≤((bJ.2.length:Nat):Int) from Qf.1) (pc (show ((bJ.2.length:Nat):Int)≤((bJ.2.length:Nat):Int) from (Int.le_refl _)) (pc (show (64:Int) * ((bJ.2.length:Nat):Int)≤281474976710656 from Qf.2.1) (pc (show ((bJ.2.length:Nat):Int)≤9223372036854775807 from Qf.2.2) (pc o1 (pc (show bJ.2.length=(List.replicate bJ.2.length aa.d:List aa).length from (eb).symm) (pc (show (List.replicate bJ.2.length aa.d:List aa).length≤bJ.2.length from (Nat.le_of_eq (Eq.symm ((eb).symm)))) (pc (show ∀ zi,zi < (List.replicate bJ.2.length aa.d:List aa).length→FN ((fun _=>[(aB false),.nil,(aB false),.nil]) zi) ((fun zi=>ai ((List.replicate bJ.2.length aa.d:List aa).getD zi aa.d)) zi) from (fun zq fb=>mI ai aa.d aa.d bJ.2.length zq ⟨.inl rfl,.inr ⟨rfl,_,rfl⟩,.inl rfl,.inr ⟨rfl,_,rfl⟩,trivial⟩ fb)) pn))))))))) ?_
   refine ae hE 2 [] [] (kp [0,161,162]) (kq [0,1,2,3,4,119]) 279 (pc o1 pn) ?_
   exact b5 hE 2 [] (kp [0,161,162]) (kq [0,1,2,3,4] ++ [(6,.af 119)]) 7 pn (rT N _ _ _ _ _ _ _ _ _ _ _ N _ _ _ h E hE)
theorem mi (N):sS N (iE N):=by
 intro rE rF oJ GC xA oK yz sx sy sB sD qP r h E hE
 unfold iE at h
 obtain ⟨kV,tK,h⟩:=aG h
 refine ae hE 0 [(8,oT (aI kV))] [] (kp [0,8]) (kq [0,1,2,3,4,6]) 167 (pc o1 (pc o1 (pc (fg _ _ _ _ tK) (pc (z1 GC.length) pn)))) ?_
 obtain ⟨bJ,vI,h⟩:=aG h
 refine ae hE 1 [(8,⟨[2],false,(.os 0 0 bJ.2.length),[(0,aO 1 cI 0 bJ.2)],0,false,none⟩)] [] (kp [0,8]) (kq [0,1,2,3,4,6]) 359 (pc o1 (pc (qz _ _ _ _ _ vI) (pc o1 pn))) ?_
 refine ae hE 2 [] [] (kp [0,8,126,127]) (kq [0,1,2,3,4,6]) 455 (pc o1 pn) ?_
 exact b5 hE 2 [] (kp [0,8,126,127]) (kq [0,1,2,3,4,6]) 7 pn (rU N _ _ _ _ _ _ _ _ _ _ _ _ _ N _ _ _ h E hE)
theorem mj (N):sR N (iG N):=by
 intro bB md jx ny eC nM nN qN qO wH wJ vt r h E hE
 unfold iG at h
 obtain ⟨b6,tL,h⟩:=aG h
 refine ae hE 0 [(8,oT (aI b6))] [] (kp [0,6]) (kq [0,1,2,3,4,6]) 167 (pc o1 (pc o1 (pc (fg _ _ _ _ tL) (pc (z1 jx.length) pn)))) ?_
 refine ae hE 1 [] [] (kp [0,6,89]) (kq [0,1,2,3,4,6]) 199 pn ?_
 refine ct 0 89 h (fun Fk h=>?_) (fun Fk h=>?_)
 ·obtain ⟨Nj,h⟩:=ab h
  refine M6 3 ((b6).toNat) 4 ((eC.getD ((b6).toNat) []).length) (fun zi=>ai ((eC.getD ((b6).toNat) []).getD zi aa.d)) (pc Nj (pc (show aJ [] (mG eC) ((b6).toNat)=mR 4 ai aa.d (eC.getD ((b6).toNat) []) from rfl) pn)) ?_
  obtain ⟨JJ,h⟩:=ab h
  obtain ⟨Ps,AZ,h⟩:=aG h
  refine ae hE 1 [(6,oF (.os 199 0 ((eC.getD ((b6).toNat) []).length))),(7,oT (aI Ps))] [] (kp [0,6,7]) (kq [0,1,2] ++ [(3,.nL 3 (eC.length) [((b6).toNat,199,(eC.getD ((b6).toNat) []).length)] (mG eC))] ++ kq [4,6,199]) 359 (pc o1 (pc JJ (pc (cM JJ) (pc (show (aJ [((b6).toNat,199,(eC.getD ((b6).toNat) []).length)] (mG eC) ((b6).toNat))[0]?=some (.os 199 0 ((eC.getD ((b6).toNat) []).length)) from (gO rfl)) (pc (qT _ _ _ AZ) (pc (z1 ((eC.getD ((b6).toNat) []).length)) (pc (Eq.refl eC.length) (pc (mC eC [((b6).toNat,199,(eC.getD ((b6).toNat) []).length)]) (pc (iM eC) pn))))))))) ?_
  refine Li 3 199 ((b6).toNat) (pc Nj (pc (show aJ [((b6).toNat,199,(eC.getD ((b6).toNat) []).length)] (mG eC) ((b6).toNat)=[.os 199 0 (eC.getD ((b6).toNat) []).length] from if_pos rfl) (pc (show ∀ zj,zj < (eC.getD ((b6).toNat) []).length→lW (ai ((eC.getD ((b6).toNat) []).getD zj aa.d))=true from fun _ _=>rfl) pn))) ?_
  refine Lh hE [] (kp [0,6,7]) (kq [0,1,2] ++ [(3,.nL 3 (eC.length) [] (mG eC))] ++ kq [4,6]) 359 (pc (Eq.refl (eC.length)) (pc (sm (sz:=4) (c:=ai) (d:=aa.d) eC ((b6).toNat) 199 ((eC.getD ((b6).toNat) []).length) [] Cq) (pc (iM eC) pn))) ?_
  obtain ⟨cC,AY,h⟩:=aG h
  obtain ⟨PB,h⟩:=ab h
  obtain ⟨Q7,h⟩:=ab h
  obtain ⟨PC,h⟩:=ab h
  obtain ⟨Q8,h⟩:=ab h
  obtain ⟨R5,h⟩:=ab h
  refine ae hE 0 [(3,⟨[0,1,2,3,4,6],false,(.tup []),[(0,vN 12 [(aI cC.1.uD),(aI cC.1.uE),(.os 1 0 cC.2.1.length),(.os 2 0 cC.2.2.1.length),(.os 3 0 cC.2.2.2.1.length),(.os 4 0 cC.2.2.2.2.1.length),(.os 5 0 cC.2.2.2.2.2.length),(aB cC.1.aj.fN.fG),(eU cC.1.aj.fN.fL),(aB cC.1.aj.fD.fG),(eU cC.1.aj.fD.fL),(aI cC.1.bH)]),(1,aO 1 cI 0 cC.2.1),(2,aO 1 cI 0 cC.2.2.1),(3,aM 4 ai aa.d cC.2.2.2.1),(4,aO 4 ai aa.d cC.2.2.2.2.1),(5,aO 4 ai aa.d cC.2.2.2.2.2)],0,false,none⟩)] [] (kp [0]) (kq [0,1,2,3,4,6]) 423 (pc (lB _ _ _ _ _ _ _ _ _ _ _ _ _ _ _ _ AY) pn) ?_
  exact b5 hE 1 [] (kp [0]) (kq [0,1,2,3,4,6]) 7 pn (mi N _ _ _ _ _ _ _ _ _ _ _ _ _ h E hE)
 ·exact b5 hE 2 [] (kp [0]) (kq [0,1,2,3,4,6]) 7 pn (mi N _ _ _ _ _ _ _ _ _ _ _ _ _ h E hE)
theorem rV (N C0 a6 bD cj cn cr cd C1 C2 C3 C4 C5 fuel):m8 N C0 a6 bD cj cn cr cd C1 C2 C3 C4 C5 (ea N C0 a6 bD cj cn cr cd C1 C2 C3 C4 C5 fuel):=by
 induction fuel with
 | zero=>intro _ _ r h;rw [ea.eq_1] at h;cases h
 | succ fuel ih =>
  intro low x r h E hE
  rw [ea.eq_2] at h
  refine ae hE 1 [] [] (kp [0,3,15,16,17]) (kq [0,1,2,3,4,6]) 23 pn ?_
  refine ct 1 17 h (fun cR h=>?_) (fun cR h=>?_)
  ·refine ae hE 4 [] [] (kp [0,3,4,15,16]) (kq [0,1,2,3,4,6]) 55 pn ?_
   obtain ⟨c,h⟩:=ab h
   obtain ⟨aF,hr,h⟩:=aG h
   obtain ⟨c2,h⟩:=ab h
   obtain ⟨c3,h⟩:=ab h
   obtain ⟨dc,dg,h⟩:=aG h
   refine ae hE 1 [(7,oT (aI aF)),(27,oT (aI dc))] [] (kp [0,3,4,15,16,49]) (kq [0,1,2,3,4,6]) 551 (pc o1 (pc c (pc (cM c) (pc (og _ _ _ hr) (pc (fun hg:(decide (aF < 0))=true=>(pc hg pn)) (pc (fun hg:((decide (aF < 0)) && ((decide (aF < 0)) && (!(decide (low < 0)))))=true=>(pc hg pn)) (pc (fun hg:((decide (aF < 0)) && ((decide (aF < 0)) && (!(decide (low < 0)))))=true=>(pc hg pn)) (pc (fun hg:((decide (aF < 0)) && ((decide (aF < 0)) && (!(decide (low < 0)))))=true=>(pc hg (pc o1 pn))) (pc (fun hg:((decide (aF < 0)) && ((decide (aF < 0)) && (!(decide (low < 0)))))=true=>(pc hg (pc hg (pc (c2 hg) pn)))) (pc (fun hg:((decide (aF < 0)) && ((decide (aF < 0)) && (!(decide (low < 0)))))=true=>(pc hg (pc (cM (c2 hg)) pn))) (pc (fun hg:((decide (aF < 0)) && ((decide (aF < 0)) && (!(decide (low < 0)))))=true=>(pc hg pn)) (pc (fun hg:((decide (aF < 0)) && ((decide (aF < 0)) && (!(decide (low < 0)))))=true=>(pc hg pn)) (pc (fun hg:((decide (aF < 0)) && ((decide (aF < 0)) && (!(decide (low < 0)))))=true=>(pc hg (pc o1 pn))) (pc (fun hg:((decide (aF < 0)) && ((decide (aF < 0)) && (!(decide (low < 0)))))=true=>(pc hg (pc hg (pc (c3 hg) pn)))) (pc (fun hg:((decide (aF < 0)) && ((decide (aF < 0)) && (!(decide (low < 0)))))=true=>(pc hg (pc (cM (c3 hg)) pn))) (pc (fun hg:((decide (aF < 0)) && ((decide (aF < 0)) && (!(decide (low < 0)))))=true=>(pc (fV _ _ _ _ (er dg hg)) (pc hg (pc hg pn)))) (pc (fun hg:((decide (aF < 0)) && ((decide (aF < 0)) && (!(decide (low < 0)))))=true=>(pc hg pn)) (pc (fun hg:(decide (aF < 0))=true=>(pc hg (pc hg (pc (fun hq:(!(decide (low < 0)))=true=>(pc (show ((decide (aF < 0)) && ((decide (aF < 0)) && (!(decide (low < 0)))))=true from (jR hg (jR hg hq))) pn)) pn)))) (pc (fun hq:(decide (aF < 0))=true=>(pc hq pn)) pn))))))))))))))))))) ?_
   refine ct 0 49 h (fun gB h=>?_) (fun gB h=>?_)
   ·refine ae hE 0 [] [] (kp [0,3,15,16]) (kq [0,1,2,3,4,6]) 583 pn ?_
    exact b5 hE 1 [] (kp [0,3,15,16]) (kq [0,1,2,3,4,6]) 7 pn (mh N _ _ _ _ _ _ _ _ _ _ _ _ _ _ ih _ _ h E hE)
   ·exact b5 hE 2 [] (kp [0,3,15,16]) (kq [0,1,2,3,4,6]) 7 pn (mh N _ _ _ _ _ _ _ _ _ _ _ _ _ _ ih _ _ h E hE)
  ·refine ae hE 2 [] [] (kp [0,3,5]) (kq [0,1,2,3,4,6]) 135 (pc o1 pn) ?_
   refine ae hE 2 [] [] (kp [0,3,5,59]) (kq [0,1,2,3,4,6]) 167 pn ?_
   refine ct 0 59 h (fun qp h=>?_) (fun qp h=>?_)
   ·obtain ⟨av,gR,h⟩:=aG h
    obtain ⟨c4,h⟩:=ab h
    refine ae hE 1 [(5,oT (.agg (ai av)))] [] (kp [0,3,5]) ([(0,.var 0 [.af,.af,.af,.af,.af,.af,.ja ((C5.set ((ah (((C2.length:Nat):Int) - 1)).toNat) av).length),.af,.af,.af,.af,.af])] ++ kq [1,2,3,4] ++ [(6,.arr 6 ((C5.set ((ah (((C2.length:Nat):Int) - 1)).toNat) av).length) (fun zi=>ai ((C5.set ((ah (((C2.length:Nat):Int) - 1)).toNat) av).getD zi aa.d)))]) 295 (pc o1 (pc (eO _ _ _ gR) (pc c4 (pc (cM c4) (pc (ay C5 ((ah (((C2.length:Nat):Int) - 1)).toNat) av) (pc (ay C5 ((ah (((C2.length:Nat):Int) - 1)).toNat) av) (pc (bS ai aa.d C5 ((ah (((C2.length:Nat):Int) - 1)).toNat) av) pn))))))) ?_
    obtain ⟨a5,kE,h⟩:=aG h
    obtain ⟨c5,h⟩:=ab h
    obtain ⟨c6,h⟩:=ab h
    obtain ⟨c7,h⟩:=ab h
    obtain ⟨c8,h⟩:=ab h
    obtain ⟨c9,h⟩:=ab h
    refine ae hE 1 [(3,⟨[0,1,2,3,4,6],false,(.tup []),[(0,vN 12 [(aI a5.1.uD),(aI a5.1.uE),(.os 1 0 a5.2.1.length),(.os 2 0 a5.2.2.1.length),(.os 3 0 a5.2.2.2.1.length),(.os 4 0 a5.2.2.2.2.1.length),(.os 5 0 a5.2.2.2.2.2.length),(aB a5.1.aj.fN.fG),(eU a5.1.aj.fN.fL),(aB a5.1.aj.fD.fG),(eU a5.1.aj.fD.fL),(aI a5.1.bH)]),(1,aO 1 cI 0 a5.2.1),(2,aO 1 cI 0 a5.2.2.1),(3,aM 4 ai aa.d a5.2.2.2.1),(4,aO 4 ai aa.d a5.2.2.2.2.1),(5,aO 4 ai aa.d a5.2.2.2.2.2)],0,false,none⟩)] [] (kp [0]) (kq [0,1,2,3,4,6]) 359 (pc (lB _ _ _ _ _ _ _ _ _ _ _ _ _ _ _ _ kE) pn) ?_
    obtain ⟨bT,n5,h⟩:=aG h
    obtain ⟨JK,h⟩:=ab h
    obtain ⟨FR,h⟩:=ab h
    obtain ⟨JI,h⟩:=ab h
    obtain ⟨GH,h⟩:=ab h
    obtain ⟨IV,h⟩:=ab h
    refine ae hE 1 [(1,⟨[0,1,2,3,4,6],false,(aI bT.1),[(0,vN 12 [(aI bT.2.1.uD),(aI bT.2.1.uE),(.os 1 0 bT.2.2.1.length),(.os 2 0 bT.2.2.2.1.length),(.os 3 0 bT.2.2.2.2.1.length),(.os 4 0 bT.2.2.2.2.2.1.length),(.os 5 0 bT.2.2.2.2.2.2.length),(aB bT.2.1.aj.fN.fG),(eU bT.2.1.aj.fN.fL),(aB bT.2.1.aj.fD.fG),(eU bT.2.1.aj.fD.fL),(aI bT.2.1.bH)]),(1,aO 1 cI 0 bT.2.2.1),(2,aO 1 cI 0 bT.2.2.2.1),(3,aM 4 ai aa.d bT.2.2.2.2.1),(4,aO 4 ai aa.d bT.2.2.2.2.2.1),(5,aO 4 ai aa.d bT.2.2.2.2.2.2)],0,false,none⟩)] [] (kp [0]) (kq [0,1,2,3,4,6]) 391 (pc (vK _ _ _ _ _ _ _ _ _ _ _ _ _ _ n5) pn) ?_
    obtain ⟨eT,sH,h⟩:=aG h
    refine ae hE 1 [(4,oT (aB eT))] [] (kp [0,78]) (kq [0,1,2,3,4,6]) 487 (pc o1 (pc (fU _ _ _ sH) pn)) ?_
    refine ct 0 78 h (fun zW h=>?_) (fun zW h=>?_)
    ·refine ae hE 1 [] [] (kp [2]) (kq [0,1,2,3,4,6]) 503 pn ?_
     obtain rfl:=bQ h
     exact bV hE 0 Tryz.f34 [] (kp [2]) (kq [0,1,2,3,4,6]) 503 pn [] pn
    ·exact b5 hE 3 [] (kp [0]) (kq [0,1,2,3,4,6]) 7 pn (mj N _ _ _ _ _ _ _ _ _ _ _ _ _ h E hE)
   ·exact b5 hE 3 [] (kp [0]) (kq [0,1,2,3,4,6]) 7 pn (mj N _ _ _ _ _ _ _ _ _ _ _ _ _ h E hE)
theorem uL (N C0 a6 bD cj cn cr cd C1 C2 C3 C4 C5 r) (h:mK N C0 a6 bD cj cn cr cd C1 C2 C3 C4 C5=some r):Sd 34 [(.op 0 0 0)] [(0,vN 12 [(aI C0),(aI a6),(.os 1 0 C1.length),(.os 2 0 C2.length),(.os 3 0 C3.length),(.os 4 0 C4.length),(.os 5 0 C5.length),(aB bD),(eU cj),(aB cn),(eU cr),(aI cd)]),(1,aO 1 cI 0 C1),(2,aO 1 cI 0 C2),(3,aM 4 ai aa.d C3),(4,aO 4 ai aa.d C4),(5,aO 4 ai aa.d C5)] 6 (aB r.1) [(0,vN 12 [(aI r.2.1.uD),(aI r.2.1.uE),(.os 1 0 r.2.2.1.length),(.os 2 0 r.2.2.2.1.length),(.os 3 0 r.2.2.2.2.1.length),(.os 4 0 r.2.2.2.2.2.length),(.os 6 0 r.2.1.dr.length),(aB r.2.1.aj.fN.fG),(eU r.2.1.aj.fN.fL),(aB r.2.1.aj.fD.fG),(eU r.2.1.aj.fD.fL),(aI r.2.1.bH)]),(1,aO 1 cI 0 r.2.2.1),(2,aO 1 cI 0 r.2.2.2.1),(3,aM 4 ai aa.d r.2.2.2.2.1),(4,aO 4 ai aa.d r.2.2.2.2.2),(6,aO 4 ai aa.d r.2.1.dr)]:=by
 unfold mK at h
 refine eL (fu:=Tryz.f34) (c:=uK 1) (nt:=177) (fun hm=>absurd hm (by decide)) ?_
 intro E hE
 refine ae hE 1 [] [] (kp [0]) (kq [0,1,2,3,4,5]) 22 pn ?_
 refine ae hE 1 [] [] (kp [0,3]) (kq [0,1,2,3,4,5]) 38 pn ?_
 refine ae hE 2 [] [] (kp [0,3,15,16]) (kq [0,1,2,3,4,5]) 134 (pc o1 pn) ?_
 exact b5 hE 2 [] (kp [0,3,15,16]) (kq [0,1,2,3,4] ++ [(6,.af 5)]) 7 pn (rV N _ _ _ _ _ _ _ _ _ _ _ _ N _ _ _ h E hE)
noncomputable abbrev HZ:=bu Tryz.f35
def kF (N:Nat) (C0:Int) (a6:Int) (bD:Bool) (cj:List Int) (cn:Bool) (cr:List Int) (cd:Int) (C1:List Int) (C2:List Int) (C3:List (List aa)) (C4:List aa) (C5:List aa) (K:(List aa)→Int→Option ((List aa))):Prop:=∀ (out:List aa) (x:Int) (r:(List aa)),K out x=some r→∀ E,a3 E 6→az Tryz.prog E 35 47 (aQ E [(0,vN 12 [(aI C0),(aI a6),(.os 1 0 C1.length),(.os 2 0 C2.length),(.os 3 0 C3.length),(.os 4 0 C4.length),(.os 5 0 C5.length),(aB bD),(eU cj),(aB cn),(eU cr),(aI cd)]),(1,aO 1 cI 0 C1),(2,aO 1 cI 0 C2),(3,aM 4 ai aa.d C3),(4,aO 4 ai aa.d C4),(5,aO 4 ai aa.d C5),(6,aO 4 ai aa.d r)] (.os 6 0 r.length)) [.code (HZ 116),.inLoop (HZ 116),.inBlock 0,.code (HZ 15)] ⟨[(0,(.op 0 0 0)),(3,(.os 6 0 out.length)),(12,(aI (((List.replicate ((a6).toNat) aa.d:List aa).length:Nat):Int))),(13,(aI x))],[(0,vN 12 [(aI C0),(aI a6),(.os 1 0 C1.length),(.os 2 0 C2.length),(.os 3 0 C3.length),(.os 4 0 C4.length),(.os 5 0 C5.length),(aB bD),(eU cj),(aB cn),(eU cr),(aI cd)]),(1,aO 1 cI 0 C1),(2,aO 1 cI 0 C2),(3,aM 4 ai aa.d C3),(4,aO 4 ai aa.d C4),(5,aO 4 ai aa.d C5),(6,aO 4 ai aa.d out)],7⟩
def oQ (N:Nat) (C0:Int) (a6:Int) (bD:Bool) (cj:List Int) (cn:Bool) (cr:List Int) (cd:Int) (C1:List Int) (C2:List Int) (C3:List (List aa)) (C4:List aa) (C5:List aa) (x:Int) (K:(List aa)→Option ((List aa))):Prop:=∀ (ew:List aa) (r:(List aa)),K ew=some r→∀ E,a3 E 6→az Tryz.prog E 35 47 (aQ E [(0,vN 12 [(aI C0),(aI a6),(.os 1 0 C1.length),(.os 2 0 C2.length),(.os 3 0 C3.length),(.os 4 0 C4.length),(.os 5 0 C5.length),(aB bD),(eU cj),(aB cn),(eU cr),(aI cd)]),(1,aO 1 cI 0 C1),(2,aO 1 cI 0 C2),(3,aM 4 ai aa.d C3),(4,aO 4 ai aa.d C4),(5,aO 4 ai aa.d C5),(6,aO 4 ai aa.d r)] (.os 6 0 r.length)) [.code (HZ 935),.inLoop (HZ 116),.inBlock 0,.code (HZ 15)] ⟨[(0,(.op 0 0 0)),(3,(.os 6 0 ew.length)),(12,(aI (((List.replicate ((a6).toNat) aa.d:List aa).length:Nat):Int))),(13,(aI x))],[(0,vN 12 [(aI C0),(aI a6),(.os 1 0 C1.length),(.os 2 0 C2.length),(.os 3 0 C3.length),(.os 4 0 C4.length),(.os 5 0 C5.length),(aB bD),(eU cj),(aB cn),(eU cr),(aI cd)]),(1,aO 1 cI 0 C1),(2,aO 1 cI 0 C2),(3,aM 4 ai aa.d C3),(4,aO 4 ai aa.d C4),(5,aO 4 ai aa.d C5),(6,aO 4 ai aa.d ew)],7⟩
theorem jV (N:Nat) (C0:Int) (a6:Int) (bD:Bool) (cj:List Int) (cn:Bool) (cr:List Int) (cd:Int) (C1:List Int) (C2:List Int) (C3:List (List aa)) (C4:List aa) (C5:List aa) (x:Int) (en:(List aa)→Int→Option ((List aa))) (oB:kF N C0 a6 bD cj cn cr cd C1 C2 C3 C4 C5 en):oQ N C0 a6 bD cj cn cr cd C1 C2 C3 C4 C5 x (eW N C0 a6 bD cj cn cr cd C1 C2 C3 C4 C5 x en):=by
 intro ew r h E hE
 unfold eW at h
 refine ae hE 0 [] [] (kp [0,3,12,13]) (kq [0,1,2,3,4,5,6]) 39 pn ?_
 exact b5 hE 1 [] (kp [0,3,12,13]) (kq [0,1,2,3,4,5,6]) 7 pn (oB _ _ _ h E hE)
theorem oC (N C0 a6 bD cj cn cr cd C1 C2 C3 C4 C5 fuel):kF N C0 a6 bD cj cn cr cd C1 C2 C3 C4 C5 (cO N C0 a6 bD cj cn cr cd C1 C2 C3 C4 C5 fuel):=by
 induction fuel with
 | zero=>intro _ _ r h;rw [cO.eq_1] at h;cases h
 | succ fuel ih =>
  intro out x r h E hE
  rw [cO.eq_2] at h
  refine ae hE 1 [] [] (kp [0,3,12,13,14]) (kq [0,1,2,3,4,5,6]) 23 pn ?_
  refine ct 1 14 h (fun cR h=>?_) (fun cR h=>?_)
  ·refine ae hE 4 [] [] (kp [0,3,4,12,13]) (kq [0,1,2,3,4,5,6]) 55 pn ?_
   obtain ⟨av,hr,h⟩:=aG h
   obtain ⟨c2,h⟩:=ab h
   refine ae hE 1 [(2,oT (.agg (ai av)))] [] (kp [0] ++ [(3,.ja ((out.set ((x).toNat) av).length))] ++ kp [4,12,13]) (kq [0,1,2,3,4,5] ++ [(6,.arr 6 ((out.set ((x).toNat) av).length) (fun zi=>ai ((out.set ((x).toNat) av).getD zi aa.d)))]) 135 (pc (eO _ _ _ hr) (pc c2 (pc (cM c2) (pc (ay out ((x).toNat) av) (pc (ay out ((x).toNat) av) (pc (bS ai aa.d out ((x).toNat) av) pn)))))) ?_
   obtain ⟨b6,dg,h⟩:=aG h
   refine ae hE 1 [(11,oT (aI b6))] [] (kp [0,3,4,5,12,13]) (kq [0,1,2,3,4,5,6]) 343 (pc o1 (pc o1 (pc (fg _ _ _ _ dg) (pc (z1 C2.length) pn)))) ?_
   refine ae hE 1 [] [] (kp [0,3,4,5,12,13,33]) (kq [0,1,2,3,4,5,6]) 375 pn ?_
   refine ct 0 33 h (fun gB h=>?_) (fun gB h=>?_)
   ·obtain ⟨c3,h⟩:=ab h
    obtain ⟨aL,gR,h⟩:=aG h
    obtain ⟨c4,h⟩:=ab h
    refine ae hE 0 [(9,oT (.agg (ai aL)))] [] (kp [0] ++ [(3,.ja (((out.set ((x).toNat) av).set ((x).toNat) aL).length))] ++ kp [12,13]) (kq [0,1,2,3,4,5] ++ [(6,.arr 6 (((out.set ((x).toNat) av).set ((x).toNat) aL).length) (fun zi=>ai (((out.set ((x).toNat) av).set ((x).toNat) aL).getD zi aa.d)))]) 567 (pc o1 (pc c3 (pc (cM c3) (pc (iV _ _ _ gR) (pc c4 (pc (cM c4) (pc (ay (out.set ((x).toNat) av) ((x).toNat) aL) (pc (ay (out.set ((x).toNat) av) ((x).toNat) aL) (pc (bS ai aa.d (out.set ((x).toNat) av) ((x).toNat) aL) pn))))))))) ?_
    exact b5 hE 1 [] (kp [0,3,12,13]) (kq [0,1,2,3,4,5,6]) 7 pn (jV N _ _ _ _ _ _ _ _ _ _ _ _ _ _ ih _ _ h E hE)
   ·exact b5 hE 2 [] (kp [0,3,12,13]) (kq [0,1,2,3,4,5,6]) 7 pn (jV N _ _ _ _ _ _ _ _ _ _ _ _ _ _ ih _ _ h E hE)
  ·refine ae hE 2 [] [] (kp [2]) (kq [0,1,2,3,4,5,6]) 55 pn ?_
   obtain rfl:=bQ h
   exact bV hE 0 Tryz.f35 [] (kp [2]) (kq [0,1,2,3,4,5,6]) 55 pn [] pn
theorem qA (N C0 a6 bD cj cn cr cd C1 C2 C3 C4 C5 r) (h:jH N C0 a6 bD cj cn cr cd C1 C2 C3 C4 C5=some r):Sd 35 [(.op 0 0 0)] [(0,vN 12 [(aI C0),(aI a6),(.os 1 0 C1.length),(.os 2 0 C2.length),(.os 3 0 C3.length),(.os 4 0 C4.length),(.os 5 0 C5.length),(aB bD),(eU cj),(aB cn),(eU cr),(aI cd)]),(1,aO 1 cI 0 C1),(2,aO 1 cI 0 C2),(3,aM 4 ai aa.d C3),(4,aO 4 ai aa.d C4),(5,aO 4 ai aa.d C5)] 6 (.os 6 0 r.length) [(0,vN 12 [(aI C0),(aI a6),(.os 1 0 C1.length),(.os 2 0 C2.length),(.os 3 0 C3.length),(.os 4 0 C4.length),(.os 5 0 C5.length),(aB bD),(eU cj),(aB cn),(eU cr),(aI cd)]),(1,aO 1 cI 0 C1),(2,aO 1 cI 0 C2),(3,aM 4 ai aa.d C3),(4,aO 4 ai aa.d C4),(5,aO 4 ai aa.d C5),(6,aO 4 ai aa.d r)]:=by
 unfold jH at h
 refine eL (fu:=Tryz.f35) (c:=HZ 1) (nt:=47) (fun hm=>absurd hm (by decide)) ?_
 intro E hE
 refine ae hE 1 [] [] (kp [0]) (kq [0,1,2,3,4,5]) 22 pn ?_
 obtain ⟨c,h⟩:=ab h
 refine ae hE 1 [] [] (kp [0] ++ [(3,.ja ((List.replicate ((a6).toNat) aa.d:List aa).length))]) (kq [0,1,2,3,4,5] ++ [(86,.K8 86 ((List.replicate ((a6).toNat) aa.d:List aa).length) (fun zi=>ai ((List.replicate ((a6).toNat) aa.d:List aa).getD zi aa.d)))]) 118 (pc o1 (pc (show 0≤a6 from c.1) (pc (show a6≤a6 from (Int.le_refl _)) (pc (show (64:Int) * a6≤281474976710656 from c.2.1) (pc (show a6≤9223372036854775807 from c.2.2) (pc (show (a6).toNat=(List.replicate ((a6).toNat) aa.d:List aa).length from (eb).symm) (pc (show (List.replicate ((a6).toNat) aa.d:List aa).length≤(a6).toNat from (Nat.le_of_eq (Eq.symm ((eb).symm)))) (pc (show ∀ zi,zi < (List.replicate ((a6).toNat) aa.d:List aa).length→FN ((fun _=>[(aB false),.nil,(aB false),.nil]) zi) ((fun zi=>ai ((List.replicate ((a6).toNat) aa.d:List aa).getD zi aa.d)) zi) from (fun zq fb=>mI ai aa.d aa.d ((a6).toNat) zq ⟨.inl rfl,.inr ⟨rfl,_,rfl⟩,.inl rfl,.inr ⟨rfl,_,rfl⟩,trivial⟩ fb)) pn)))))))) ?_
 refine ae hE 2 [] [] (kp [0,3,12,13]) (kq [0,1,2,3,4,5,86]) 166 pn ?_
 exact b5 hE 2 [] (kp [0,3,12,13]) (kq [0,1,2,3,4,5] ++ [(6,.af 86)]) 7 pn (oC N _ _ _ _ _ _ _ _ _ _ _ _ N _ _ _ h E hE)
noncomputable abbrev TH:=bu Tryz.f37
theorem rf (N wq C0 a6 bD cj cn cr cd C1 C2 C3 C4 C5 r) (h:nB N wq C0 a6 bD cj cn cr cd C1 C2 C3 C4 C5=some r):Sd 37 [(.op 0 0 0),(aI wq)] [(0,vN 12 [(aI C0),(aI a6),(.os 1 0 C1.length),(.os 2 0 C2.length),(.os 3 0 C3.length),(.os 4 0 C4.length),(.os 5 0 C5.length),(aB bD),(eU cj),(aB cn),(eU cr),(aI cd)]),(1,aO 1 cI 0 C1),(2,aO 1 cI 0 C2),(3,aM 4 ai aa.d C3),(4,aO 4 ai aa.d C4),(5,aO 4 ai aa.d C5)] 6 (.agg (ai r)) [(0,vN 12 [(aI C0),(aI a6),(.os 1 0 C1.length),(.os 2 0 C2.length),(.os 3 0 C3.length),(.os 4 0 C4.length),(.os 5 0 C5.length),(aB bD),(eU cj),(aB cn),(eU cr),(aI cd)]),(1,aO 1 cI 0 C1),(2,aO 1 cI 0 C2),(3,aM 4 ai aa.d C3),(4,aO 4 ai aa.d C4),(5,aO 4 ai aa.d C5)]:=by
 unfold nB at h
 refine eL (fu:=Tryz.f37) (c:=TH 1) (nt:=22) (fun hm=>absurd hm (by decide)) ?_
 intro E hE
 refine ae hE 1 [] [] (kp [0,1,4]) (kq [0,1,2,3,4,5,6]) 22 pn ?_
 obtain ⟨b6,hr,h⟩:=aG h
 refine ae hE 2 [(5,oT (aI b6))] [] (kp [0,4,5]) (kq [0,1,2,3,4,5,6]) 134 (pc o1 (pc (fg _ _ _ _ hr) (pc (z1 C1.length) pn))) ?_
 refine ae hE 1 [] [] (kp [0,4,5,13]) (kq [0,1,2,3,4,5,6]) 166 pn ?_
 refine ct 0 13 h (fun cR h=>?_) (fun cR h=>?_)
 ·obtain ⟨c,h⟩:=ab h
  refine ae hE 1 [] [] (kp [4]) (kq [0,1,2,3,4,5,6]) 294 (pc o1 (pc c (pc (cM c) (pc o1 pn)))) ?_
  obtain rfl:=bQ h
  exact bV hE 0 Tryz.f37 [] (kp [4]) (kq [0,1,2,3,4,5] ++ [(22,.af 6)]) 294 pn [22] (pc o1 pn)
 ·obtain ⟨av,dg,h⟩:=aG h
  refine ae hE 2 [(0,oT (.agg (ai av)))] [] (kp [4]) (kq [0,1,2,3,4,5,6]) 198 (pc (eO _ _ _ dg) (pc o1 pn)) ?_
  obtain rfl:=bQ h
  exact bV hE 0 Tryz.f37 [] (kp [4]) (kq [0,1,2,3,4,5] ++ [(22,.af 6)]) 198 pn [22] (pc o1 pn)
noncomputable abbrev Nn:=bu Tryz.f36
def tS (N:Nat) (C0:Int) (a6:Int) (bD:Bool) (cj:List Int) (cn:Bool) (cr:List Int) (cd:Int) (C1:List Int) (C2:List Int) (C3:List (List aa)) (C4:List aa) (C5:List aa) (K:(List aa)→Int→Option ((List aa))):Prop:=∀ (out:List aa) (x:Int) (r:(List aa)),K out x=some r→∀ E,a3 E 6→az Tryz.prog E 36 34 (aQ E [(0,vN 12 [(aI C0),(aI a6),(.os 1 0 C1.length),(.os 2 0 C2.length),(.os 3 0 C3.length),(.os 4 0 C4.length),(.os 5 0 C5.length),(aB bD),(eU cj),(aB cn),(eU cr),(aI cd)]),(1,aO 1 cI 0 C1),(2,aO 1 cI 0 C2),(3,aM 4 ai aa.d C3),(4,aO 4 ai aa.d C4),(5,aO 4 ai aa.d C5),(6,aO 4 ai aa.d r)] (.os 6 0 r.length)) [.code (Nn 116),.inLoop (Nn 116),.inBlock 0,.code (Nn 15)] ⟨[(0,(.op 0 0 0)),(1,(.fn (.func 37) [(.op 0 0 0)] [])),(5,(.os 6 0 out.length)),(13,(aI (((List.replicate ((C0).toNat) aa.d:List aa).length:Nat):Int))),(14,(aI x))],[(0,vN 12 [(aI C0),(aI a6),(.os 1 0 C1.length),(.os 2 0 C2.length),(.os 3 0 C3.length),(.os 4 0 C4.length),(.os 5 0 C5.length),(aB bD),(eU cj),(aB cn),(eU cr),(aI cd)]),(1,aO 1 cI 0 C1),(2,aO 1 cI 0 C2),(3,aM 4 ai aa.d C3),(4,aO 4 ai aa.d C4),(5,aO 4 ai aa.d C5),(6,aO 4 ai aa.d out)],7⟩
theorem sW (N C0 a6 bD cj cn cr cd C1 C2 C3 C4 C5 fuel):tS N C0 a6 bD cj cn cr cd C1 C2 C3 C4 C5 (gi N C0 a6 bD cj cn cr cd C1 C2 C3 C4 C5 fuel):=by
 induction fuel with
 | zero=>intro _ _ r h;rw [gi.eq_1] at h;cases h
 | succ fuel ih =>
  intro out x r h E hE
  rw [gi.eq_2] at h
  refine ae hE 1 [] [] (kp [0,1,5,13,14,15]) (kq [0,1,2,3,4,5,6]) 23 pn ?_
  refine ct 1 15 h (fun cR h=>?_) (fun cR h=>?_)
  ·refine ae hE 4 [] [] (kp [0,1,5,6,13,14]) (kq [0,1,2,3,4,5,6]) 55 pn ?_
   obtain ⟨rat,hr,h⟩:=aG h
   obtain ⟨Pt,dg,h⟩:=aG h
   obtain ⟨au,gR,h⟩:=aG h
   obtain ⟨c2,h⟩:=ab h
   refine ae hE 0 [(4,⟨[0,1,2,3,4,5],true,(.agg (ai rat)),[],0,false,none⟩),(12,⟨[0,1,2,3,4,5],true,(.agg (ai Pt)),[],0,false,none⟩),(13,oT (.agg (ai au)))] [] (kp [0,1] ++ [(5,.ja ((out.set ((x).toNat) au).length))] ++ kp [13,14]) (kq [0,1,2,3,4,5] ++ [(6,.arr 6 ((out.set ((x).toNat) au).length) (fun zi=>ai ((out.set ((x).toNat) au).getD zi aa.d)))]) 311 (pc (rf _ _ _ _ _ _ _ _ _ _ _ _ _ _ _ hr) (pc (iM C3) (pc o1 (pc (rf _ _ _ _ _ _ _ _ _ _ _ _ _ _ _ dg) (pc (iM C3) (pc (dB _ _ _ _ gR) (pc c2 (pc (cM c2) (pc (ay out ((x).toNat) au) (pc (ay out ((x).toNat) au) (pc (bS ai aa.d out ((x).toNat) au) pn))))))))))) ?_
   refine ae hE 1 [] [] (kp [0,1,5,13,14]) (kq [0,1,2,3,4,5,6]) 343 pn ?_
   exact b5 hE 1 [] (kp [0,1,5,13,14]) (kq [0,1,2,3,4,5,6]) 7 pn (ih _ _ _ h E hE)
  ·refine ae hE 2 [] [] (kp [4]) (kq [0,1,2,3,4,5,6]) 55 pn ?_
   obtain rfl:=bQ h
   exact bV hE 0 Tryz.f36 [] (kp [4]) (kq [0,1,2,3,4,5,6]) 55 pn [] pn
theorem vL (N C0 a6 bD cj cn cr cd C1 C2 C3 C4 C5 r) (h:nC N C0 a6 bD cj cn cr cd C1 C2 C3 C4 C5=some r):Sd 36 [(.op 0 0 0),(.fn (.func 37) [(.op 0 0 0)] [])] [(0,vN 12 [(aI C0),(aI a6),(.os 1 0 C1.length),(.os 2 0 C2.length),(.os 3 0 C3.length),(.os 4 0 C4.length),(.os 5 0 C5.length),(aB bD),(eU cj),(aB cn),(eU cr),(aI cd)]),(1,aO 1 cI 0 C1),(2,aO 1 cI 0 C2),(3,aM 4 ai aa.d C3),(4,aO 4 ai aa.d C4),(5,aO 4 ai aa.d C5)] 6 (.os 6 0 r.length) [(0,vN 12 [(aI C0),(aI a6),(.os 1 0 C1.length),(.os 2 0 C2.length),(.os 3 0 C3.length),(.os 4 0 C4.length),(.os 5 0 C5.length),(aB bD),(eU cj),(aB cn),(eU cr),(aI cd)]),(1,aO 1 cI 0 C1),(2,aO 1 cI 0 C2),(3,aM 4 ai aa.d C3),(4,aO 4 ai aa.d C4),(5,aO 4 ai aa.d C5),(6,aO 4 ai aa.d r)]:=by
 unfold nC at h
 refine eL (fu:=Tryz.f36) (c:=Nn 1) (nt:=34) (fun hm=>absurd hm (by decide)) ?_
 intro E hE
 refine ae hE 1 [] [] (kp [0,1]) (kq [0,1,2,3,4,5]) 22 pn ?_
 obtain ⟨c,h⟩:=ab h
 refine ae hE 1 [] [] (kp [0,1] ++ [(5,.ja ((List.replicate ((C0).toNat) aa.d:List aa).length))]) (kq [0,1,2,3,4,5] ++ [(86,.K8 86 ((List.replicate ((C0).toNat) aa.d:List aa).length) (fun zi=>ai ((List.replicate ((C0).toNat) aa.d:List aa).getD zi aa.d)))]) 118 (pc o1 (pc (show 0≤C0 from c.1) (pc (show C0≤C0 from (Int.le_refl _)) (pc (show (64:Int) * C0≤281474976710656 from c.2.1) (pc (show C0≤9223372036854775807 from c.2.2) (pc (show (C0).toNat=(List.replicate ((C0).toNat) aa.d:List aa).length from (eb).symm) (pc (show (List.replicate ((C0).toNat) aa.d:List aa).length≤(C0).toNat from (Nat.le_of_eq (Eq.symm ((eb).symm)))) (pc (show ∀ zi,zi < (List.replicate ((C0).toNat) aa.d:List aa).length→FN ((fun _=>[(aB false),.nil,(aB false),.nil]) zi) ((fun zi=>ai ((List.replicate ((C0).toNat) aa.d:List aa).getD zi aa.d)) zi) from (fun zq fb=>mI ai aa.d aa.d ((C0).toNat) zq ⟨.inl rfl,.inr ⟨rfl,_,rfl⟩,.inl rfl,.inr ⟨rfl,_,rfl⟩,trivial⟩ fb)) pn)))))))) ?_
 refine ae hE 2 [] [] (kp [0,1,5,13,14]) (kq [0,1,2,3,4,5,86]) 166 pn ?_
 exact b5 hE 2 [] (kp [0,1,5,13,14]) (kq [0,1,2,3,4,5] ++ [(6,.af 86)]) 7 pn (sW N _ _ _ _ _ _ _ _ _ _ _ _ N _ _ _ h E hE)
noncomputable abbrev Ww:=bu Tryz.f17
theorem Bd (N n l r) (h:tA N n l=some r):Sd 17 [(aI n),(aD uf ag.d l)] [] 0 (.tup [(aD ai aa.d r.1),(aD ai aa.d r.2.1),(aI r.2.2)]) []:=by
 unfold tA at h
 refine eL (fu:=Tryz.f17) (c:=Ww 1) (nt:=27) (fun hm=>rfl) ?_
 intro E hE
 refine ae hE 1 [] [] (kp [0,1]) [] 48 pn ?_
 obtain ⟨tB,hr,h⟩:=aG h
 refine ae hE 2 [(2,oT (aI tB))] [] (kp [0,1,7]) [] 112 (pc (zS _ _ _ _ hr) pn) ?_
 refine ae hE 1 [] [] (kp [0,1,7,13]) [] 144 pn ?_
 refine ct 0 13 h (fun cR h=>?_) (fun cR h=>?_)
 ·refine ae hE 1 [] [] (kp [4,5,6]) [] 208 pn ?_
  obtain rfl:=bQ h
  exact bV hE 0 Tryz.f17 [] ([(4,.sl (([]:List aa).length) (fun zi=>ai (([]:List aa).getD zi aa.d))),(5,.sl (([]:List aa).length) (fun zi=>ai (([]:List aa).getD zi aa.d)))] ++ kp [6]) [] 208 (pc (Eq.refl 0) (pc (Eq.refl 0) pn)) [] pn
 ·obtain ⟨dV,dg,h⟩:=aG h
  refine ae hE 2 [(2,⟨[],true,(.op 0 0 0),[(0,vN 12 [(aI dV.uD),(aI dV.uE),(.os 1 0 dV.iA.length),(.os 2 0 dV.lf.length),(.os 3 0 dV.FO.length),(.os 4 0 dV.FP.length),(.os 5 0 dV.dr.length),(aB dV.aj.fN.fG),(eU dV.aj.fN.fL),(aB dV.aj.fD.fG),(eU dV.aj.fD.fL),(aI dV.bH)]),(1,aO 1 cI 0 dV.iA),(2,aO 1 cI 0 dV.lf),(3,aM 4 ai aa.d dV.FO),(4,aO 4 ai aa.d dV.FP),(5,aO 4 ai aa.d dV.dr)],0,false,none⟩)] [] (kp [8]) (kq [176,177,178,179,180,181]) 208 (pc (Fm _ _ _ _ dg) pn) ?_
  obtain ⟨bt,gR,h⟩:=aG h
  obtain ⟨c,h⟩:=ab h
  obtain ⟨c2,h⟩:=ab h
  obtain ⟨c3,h⟩:=ab h
  refine ae hE 2 [(1,⟨[176,177,178,179,180,181],false,(aB bt.1),[(0,vN 12 [(aI bt.2.1.uD),(aI bt.2.1.uE),(.os 1 0 bt.2.2.1.length),(.os 2 0 bt.2.2.2.1.length),(.os 3 0 bt.2.2.2.2.1.length),(.os 4 0 bt.2.2.2.2.2.length),(.os 6 0 bt.2.1.dr.length),(aB bt.2.1.aj.fN.fG),(eU bt.2.1.aj.fN.fL),(aB bt.2.1.aj.fD.fG),(eU bt.2.1.aj.fD.fL),(aI bt.2.1.bH)]),(1,aO 1 cI 0 bt.2.2.1),(2,aO 1 cI 0 bt.2.2.2.1),(3,aM 4 ai aa.d bt.2.2.2.2.1),(4,aO 4 ai aa.d bt.2.2.2.2.2),(6,aO 4 ai aa.d bt.2.1.dr)],0,false,none⟩)] [] (kp [8,20]) (kq [176,177,178,179,180,224]) 256 (pc (uL _ _ _ _ _ _ _ _ _ _ _ _ _ _ gR) pn) ?_
  refine ct 0 20 h (fun gB h=>?_) (fun gB h=>?_)
  ·obtain ⟨fO,kE,h⟩:=aG h
   refine ae hE 1 [(1,⟨[176,177,178,179,180,224],true,(.os 6 0 fO.length),[(6,aO 4 ai aa.d fO)],0,false,none⟩)] [] (kp [4,5,6]) (kq [272]) 336 (pc (qA _ _ _ _ _ _ _ _ _ _ _ _ _ _ kE) (pc (iM bt.2.2.2.2.1) pn)) ?_
   obtain rfl:=bQ h
   exact bV hE 0 Tryz.f17 [272] ([(4,.sl (([]:List aa).length) (fun zi=>ai (([]:List aa).getD zi aa.d))),(5,.sl (fO.length) (fun zi=>ai (fO.getD zi aa.d)))] ++ kp [6]) [] 336 (pc (Eq.refl 0) (pc (Eq.refl fO.length) (pc (z1 fO.length) (pc (aZ fO.length (fun zi=>ai (fO.getD zi aa.d))) pn)))) [] pn
  ·obtain ⟨rG,n5,h⟩:=aG h
   refine ae hE 2 [(3,⟨[176,177,178,179,180,224],true,(.os 6 0 rG.length),[(6,aO 4 ai aa.d rG)],0,false,none⟩)] [] (kp [4,5,6]) (kq [304]) 368 (pc (vL _ _ _ _ _ _ _ _ _ _ _ _ _ _ n5) (pc (iM bt.2.2.2.2.1) pn)) ?_
   obtain rfl:=bQ h
   exact bV hE 0 Tryz.f17 [304] ([(4,.sl (rG.length) (fun zi=>ai (rG.getD zi aa.d))),(5,.sl (([]:List aa).length) (fun zi=>ai (([]:List aa).getD zi aa.d)))] ++ kp [6]) [] 368 (pc (Eq.refl rG.length) (pc (z1 rG.length) (pc (aZ rG.length (fun zi=>ai (rG.getD zi aa.d))) (pc (Eq.refl 0) pn)))) [] pn
noncomputable abbrev TI:=bu Tryz.f43
theorem jM (N x r) (h:gj N x=some r):Sd 43 [(.agg (ao.cells x))] [] 0 (aS r) []:=by
 unfold gj at h
 refine eL (fu:=Tryz.f43) (c:=TI 1) (nt:=5) (fun hm=>rfl) ?_
 intro E hE
 refine ae hE 1 [] [] (kp [1]) (kq [0]) 32 pn ?_
 refine ae hE 1 [] [] (kp [2]) [] 80 (pc o1 pn) ?_
 obtain rfl:=bQ h
 exact bV hE 0 Tryz.f43 [] (kp [2]) [] 80 pn [] pn
noncomputable abbrev No:=bu Tryz.f86
def xK (N:Nat) (s:ByteArray) (K:Int→Option (Bool)):Prop:=∀ (x:Int) (r:Bool),K x=some r→∀ E,a3 E 0→az Tryz.prog E 86 57 (aQ E [] (aB r)) [.code (No 116),.inLoop (No 116),.inBlock 0,.code (No 15)] ⟨[(0,(aS s)),(15,(aI ((s.size:Nat):Int))),(16,(aI x))],[],0⟩
theorem wM (N s fuel):xK N s (jI N s fuel):=by
 induction fuel with
 | zero=>intro _ r h;rw [jI.eq_1] at h;cases h
 | succ fuel ih =>
  intro x r h E hE
  rw [jI.eq_2] at h
  refine ae hE 1 [] [] (kp [0,15,16,17]) [] 16 pn ?_
  refine ct 1 17 h (fun gB h=>?_) (fun gB h=>?_)
  ·refine ae hE 4 [] [] (kp [0,3,15,16]) [] 48 pn ?_
   obtain ⟨c,h⟩:=ab h
   refine ae hE 1 [] [] (kp [0,3,4,15,16]) [] 112 (pc c pn) ?_
   refine ae hE 1 [] [] (kp [0,3,4,5,15,16]) [] 352 (pc (fun hg:(decide ((zA s x)≥97))=true=>(pc hg pn)) (pc (fun hq:(decide ((zA s x)≥97))=true=>(pc hq pn)) (pc (fun hg:(!(cond (decide ((zA s x)≥97)) (decide ((zA s x)≤122)) false))=true=>(pc hg pn)) (pc (fun hg:((!(cond (decide ((zA s x)≥97)) (decide ((zA s x)≤122)) false)) && ((!(cond (decide ((zA s x)≥97)) (decide ((zA s x)≤122)) false)) && (decide ((zA s x)≥65))))=true=>(pc hg pn)) (pc (fun hg:(!(cond (decide ((zA s x)≥97)) (decide ((zA s x)≤122)) false))=true=>(pc hg (pc hg (pc (fun hq:(decide ((zA s x)≥65))=true=>(pc (show ((!(cond (decide ((zA s x)≥97)) (decide ((zA s x)≤122)) false)) && ((!(cond (decide ((zA s x)≥97)) (decide ((zA s x)≤122)) false)) && (decide ((zA s x)≥65))))=true from (jR hg (jR hg hq))) pn)) pn)))) (pc (fun hq:(!(cond (decide ((zA s x)≥97)) (decide ((zA s x)≤122)) false))=true=>(pc hq pn)) pn)))))) ?_
   refine ae hE 1 [] [] (kp [0,3,5,6,15,16]) [] 528 (pc (fun hg:(decide ((zA s x)≥48))=true=>(pc hg pn)) (pc (fun hq:(decide ((zA s x)≥48))=true=>(pc hq pn)) (pc (fun hg:(!(cond (decide ((zA s x)≥48)) (decide ((zA s x)≤57)) false))=true=>(pc hg pn)) (pc (fun hq:(!(cond (decide ((zA s x)≥48)) (decide ((zA s x)≤57)) false))=true=>(pc hq pn)) pn)))) ?_
   refine ae hE 1 [] [] (kp [0,15,16,55]) [] 688 (pc (fun hg:(!(cond (cond (decide ((zA s x)≥97)) (decide ((zA s x)≤122)) false) true (cond (decide ((zA s x)≥65)) (decide ((zA s x)≤90)) false)))=true=>(pc hg pn)) (pc (fun hg:((!(cond (cond (decide ((zA s x)≥97)) (decide ((zA s x)≤122)) false) true (cond (decide ((zA s x)≥65)) (decide ((zA s x)≤90)) false))) && ((!(cond (cond (decide ((zA s x)≥97)) (decide ((zA s x)≤122)) false) true (cond (decide ((zA s x)≥65)) (decide ((zA s x)≤90)) false))) && (!(x == 0))))=true=>(pc hg pn)) (pc (fun hg:(!(cond (cond (decide ((zA s x)≥97)) (decide ((zA s x)≤122)) false) true (cond (decide ((zA s x)≥65)) (decide ((zA s x)≤90)) false)))=true=>(pc hg (pc hg (pc (fun hq:(!(x == 0))=true=>(pc (show ((!(cond (cond (decide ((zA s x)≥97)) (decide ((zA s x)≤122)) false) true (cond (decide ((zA s x)≥65)) (decide ((zA s x)≤90)) false))) && ((!(cond (cond (decide ((zA s x)≥97)) (decide ((zA s x)≤122)) false) true (cond (decide ((zA s x)≥65)) (decide ((zA s x)≤90)) false))) && (!(x == 0))))=true from (jR hg (jR hg hq))) pn)) pn)))) (pc (fun hq:(!(cond (cond (decide ((zA s x)≥97)) (decide ((zA s x)≤122)) false) true (cond (decide ((zA s x)≥65)) (decide ((zA s x)≤90)) false)))=true=>(pc hq pn)) pn)))) ?_
   refine ct 0 55 h (fun qp h=>?_) (fun qp h=>?_)
   ·refine ae hE 1 [] [] (kp [2]) [] 704 pn ?_
    obtain rfl:=bQ h
    exact bV hE 0 Tryz.f86 [] (kp [2]) [] 704 pn [] pn
   ·refine ae hE 2 [] [] (kp [0,15,16]) [] 720 pn ?_
    exact b5 hE 1 [] (kp [0,15,16]) [] 0 pn (ih _ _ h E hE)
  ·refine ae hE 2 [] [] (kp [2]) [] 32 pn ?_
   obtain rfl:=bQ h
   exact bV hE 0 Tryz.f86 [] (kp [2]) [] 48 pn [] pn
theorem z6 (N s r) (h:rH N s=some r):Sd 86 [(aS s)] [] 0 (aB r) []:=by
 unfold rH at h
 refine eL (fu:=Tryz.f86) (c:=No 1) (nt:=57) (fun hm=>rfl) ?_
 intro E hE
 refine ae hE 1 [] [] (kp [0]) [] 16 pn ?_
 refine ae hE 2 [] [] (kp [0,13]) [] 128 (pc (fun hg:(!(pY s ByteArray.empty))=true=>(pc hg pn)) (pc (fun hg:(!(pY s ByteArray.empty))=true=>(pc hg pn)) (pc (fun hq:(!(pY s ByteArray.empty))=true=>(pc hq pn)) pn))) ?_
 refine ct 0 13 h (fun cR h=>?_) (fun cR h=>?_)
 ·refine ae hE 1 [] [] (kp [2]) [] 144 pn ?_
  obtain rfl:=bQ h
  exact bV hE 0 Tryz.f86 [] (kp [2]) [] 144 pn [] pn
 ·refine ae hE 3 [] [] (kp [0,15,16]) [] 176 pn ?_
  exact b5 hE 2 [] (kp [0,15,16]) [] 0 pn (wM N _ N _ _ h E hE)
noncomputable abbrev TJ:=bu Tryz.f88
theorem sX (N y C1 r) (h:lx N y C1=some r):Sd 88 [(.agg (ao.cells y)),(.op 0 0 0),(.op 1 0 0)] [(0,vO 1 [(.fn (.func 43) [] [])]),(1,vO 6 (ao.cells C1))] 2 (aB r) [(0,vO 1 [(.fn (.func 43) [] [])]),(1,vO 6 (ao.cells C1))]:=by
 unfold lx at h
 refine eL (fu:=Tryz.f88) (c:=TJ 1) (nt:=12) (fun hm=>absurd hm (by decide)) ?_
 intro E hE
 refine ae hE 1 [] [] (kp [1,2,3]) (kq [0,1,2]) 34 pn ?_
 obtain ⟨j3,hr,h⟩:=aG h
 obtain ⟨rI,dg,h⟩:=aG h
 refine ae hE 1 [(2,oT (aS j3)),(5,oT (aS rI))] [] (kp [4]) (kq [0,1]) 162 (pc o1 (pc o1 (pc (jM _ _ _ hr) (pc o1 (pc o1 (pc (jM _ _ _ dg) pn)))))) ?_
 obtain rfl:=bQ h
 exact bV hE 0 Tryz.f88 [] (kp [4]) (kq [0,1]) 162 pn [] pn
noncomputable abbrev Np:=bu Tryz.f113
def kG (N:Nat) (s:List ao) (C1:ao) (K:Int→Option (Int)):Prop:=∀ (x:Int) (r:Int),K x=some r→∀ E,a3 E 2→az Tryz.prog E 113 19 (aQ E [(0,vO 1 [(.fn (.func 43) [] [])]),(1,vO 6 (ao.cells C1))] (aI r)) [.code (Np 52),.inLoop (Np 52),.inBlock 0,.code (Np 7)] ⟨[(0,(aD ao.cells ao.d s)),(1,(.fn (.func 88) [] [(.op 0 0 0),(.op 1 0 0)])),(7,(aI ((s.length:Nat):Int))),(8,(aI x))],[(0,vO 1 [(.fn (.func 43) [] [])]),(1,vO 6 (ao.cells C1))],2⟩
theorem kc (N s C1 fuel):kG N s C1 (bK N s C1 fuel):=by
 induction fuel with
 | zero=>intro _ r h;rw [bK.eq_1] at h;cases h
 | succ fuel ih =>
  intro x r h E hE
  rw [bK.eq_2] at h
  refine ae hE 1 [] [] (kp [0,1,7,8,9]) (kq [0,1]) 18 pn ?_
  refine ct 1 9 h (fun cR h=>?_) (fun cR h=>?_)
  ·refine ae hE 4 [] [] (kp [0,1,5,7,8]) (kq [0,1]) 50 pn ?_
   obtain ⟨c,h⟩:=ab h
   obtain ⟨HQ,hr,h⟩:=aG h
   refine ae hE 1 [(5,⟨[0,1],true,(aB HQ),[],0,false,none⟩)] [] (kp [0,1,5,7,8,16]) (kq [0,1]) 146 (pc c (pc (sX _ _ _ _ hr) pn)) ?_
   refine ct 0 16 h (fun gB h=>?_) (fun gB h=>?_)
   ·refine ae hE 1 [] [] (kp [4]) (kq [0,1]) 178 pn ?_
    obtain rfl:=bQ h
    exact bV hE 0 Tryz.f113 [] (kp [4]) (kq [0,1]) 178 pn [] pn
   ·refine ae hE 2 [] [] (kp [0,1,7,8]) (kq [0,1]) 178 pn ?_
    exact b5 hE 1 [] (kp [0,1,7,8]) (kq [0,1]) 2 pn (ih _ _ h E hE)
  ·refine ae hE 2 [] [] (kp [4]) (kq [0,1]) 34 pn ?_
   obtain rfl:=bQ h
   exact bV hE 0 Tryz.f113 [] (kp [4]) (kq [0,1]) 50 pn [] pn
theorem k7 (N s C1 r) (h:dW N s C1=some r):Sd 113 [(aD ao.cells ao.d s),(.fn (.func 88) [] [(.op 0 0 0),(.op 1 0 0)])] [(0,vO 1 [(.fn (.func 43) [] [])]),(1,vO 6 (ao.cells C1))] 2 (aI r) [(0,vO 1 [(.fn (.func 43) [] [])]),(1,vO 6 (ao.cells C1))]:=by
 unfold dW at h
 refine eL (fu:=Tryz.f113) (c:=Np 1) (nt:=19) (fun hm=>absurd hm (by decide)) ?_
 intro E hE
 refine ae hE 1 [] [] (kp [0,1]) (kq [0,1]) 18 pn ?_
 refine ae hE 2 [] [] (kp [0,1,7,8]) (kq [0,1]) 66 pn ?_
 exact b5 hE 2 [] (kp [0,1,7,8]) (kq [0,1]) 2 pn (kc N _ _ N _ _ h E hE)
noncomputable abbrev TK:=bu Tryz.f87
theorem ke (N s C1 r) (h:dn N s C1=some r):Sd 87 [(aD ao.cells ao.d s),(.fn (.func 88) [] [(.op 0 0 0),(.op 1 0 0)])] [(0,vO 1 [(.fn (.func 43) [] [])]),(1,vO 6 (ao.cells C1))] 2 (aB r) [(0,vO 1 [(.fn (.func 43) [] [])]),(1,vO 6 (ao.cells C1))]:=by
 unfold dn at h
 refine eL (fu:=Tryz.f87) (c:=TK 1) (nt:=9) (fun hm=>absurd hm (by decide)) ?_
 intro E hE
 refine ae hE 1 [] [] (kp [0,1]) (kq [0,1]) 18 pn ?_
 obtain ⟨uh,hr,h⟩:=aG h
 refine ae hE 1 [(2,⟨[0,1],true,(aI uh),[],0,false,none⟩)] [] (kp [4]) (kq [0,1]) 98 (pc (k7 _ _ _ _ hr) pn) ?_
 obtain rfl:=bQ h
 exact bV hE 0 Tryz.f87 [] (kp [4]) (kq [0,1]) 98 pn [] pn
noncomputable abbrev TL:=bu Tryz.f46
theorem dz (N n lo hi r) (h:dA N n lo hi=some r):Sd 46 [(aI n),(aI lo),(aI hi)] [] 0 (aB r) []:=by
 unfold dA at h
 refine eL (fu:=Tryz.f46) (c:=TL 1) (nt:=15) (fun hm=>rfl) ?_
 intro E hE
 refine ae hE 1 [] [] (kp [0,1,2]) [] 16 pn ?_
 refine ae hE 1 [] [] (kp [6]) [] 160 (pc (fun hg:(!(decide (n < lo)))=true=>(pc hg (pc hg pn))) (pc (fun hq:(!(decide (n < lo)))=true=>(pc hq pn)) pn)) ?_
 obtain rfl:=bQ h
 exact bV hE 0 Tryz.f46 [] (kp [6]) [] 160 pn [] pn
noncomputable abbrev TM:=bu Tryz.f44
theorem vM (N x r) (h:nD N x=some r):Sd 44 [(.agg (ao.cells x))] [] 0 (aI r) []:=by
 unfold nD at h
 refine eL (fu:=Tryz.f44) (c:=TM 1) (nt:=38) (fun hm=>rfl) ?_
 intro E hE
 refine ae hE 1 [] [] (kp [1]) (kq [0]) 32 pn ?_
 obtain ⟨cg,hr,h⟩:=aG h
 obtain ⟨cP,dg,h⟩:=aG h
 obtain ⟨fA,gR,h⟩:=aG h
 obtain ⟨n3,kE,h⟩:=aG h
 obtain ⟨zK,n5,h⟩:=aG h
 refine ae hE 2 [(2,oT (aB cg)),(6,oT (aB cP)),(11,oT (aB fA)),(16,oT (aB n3)),(21,oT (aB zK))] [] (kp [1,25]) (kq [0]) 400 (pc o1 (pc (dz _ _ _ _ _ hr) (pc (fun hg:(!cg)=true=>(pc hg (pc o1 pn))) (pc (fun hg:(!cg)=true=>(pc (dz _ _ _ _ _ (er dg hg)) (pc hg pn))) (pc (fun hq:(!cg)=true=>(pc hq pn)) (pc (fun hg:(!(cond cg true cP))=true=>(pc hg (pc o1 pn))) (pc (fun hg:(!(cond cg true cP))=true=>(pc (dz _ _ _ _ _ (er gR hg)) (pc hg pn))) (pc (fun hq:(!(cond cg true cP))=true=>(pc hq pn)) (pc (fun hg:(!(cond (cond cg true cP) true fA))=true=>(pc hg (pc o1 pn))) (pc (fun hg:(!(cond (cond cg true cP) true fA))=true=>(pc (dz _ _ _ _ _ (er kE hg)) (pc hg pn))) (pc (fun hq:(!(cond (cond cg true cP) true fA))=true=>(pc hq pn)) (pc (fun hg:(!(cond (cond (cond cg true cP) true fA) true n3))=true=>(pc hg (pc o1 pn))) (pc (fun hg:(!(cond (cond (cond cg true cP) true fA) true n3))=true=>(pc (dz _ _ _ _ _ (er n5 hg)) (pc hg pn))) (pc (fun hq:(!(cond (cond (cond cg true cP) true fA) true n3))=true=>(pc hq pn)) pn)))))))))))))) ?_
 refine ct 0 25 h (fun cR h=>?_) (fun cR h=>?_)
 ·refine ae hE 1 [] [] (kp [2]) [] 416 pn ?_
  obtain rfl:=bQ h
  exact bV hE 0 Tryz.f44 [] (kp [2]) [] 416 pn [] pn
 ·refine ae hE 3 [] [] (kp [37]) [] 592 (pc o1 (pc o1 (pc (fun hg:(x.q7 == x.iJ)=true=>(pc hg (pc o1 pn))) (pc (fun hg:(x.q7 == x.iJ)=true=>(pc hg (pc o1 pn))) (pc (fun hg:(x.q7 == x.iJ)=true=>(pc hg (pc hg pn))) (pc (fun hq:(x.q7 == x.iJ)=true=>(pc hq pn)) pn)))))) ?_
  refine ct 0 37 h (fun gB h=>?_) (fun gB h=>?_)
  ·refine ae hE 1 [] [] (kp [2]) [] 608 pn ?_
   obtain rfl:=bQ h
   exact bV hE 0 Tryz.f44 [] (kp [2]) [] 608 pn [] pn
  ·refine ae hE 2 [] [] (kp [2]) [] 608 pn ?_
   obtain rfl:=bQ h
   exact bV hE 0 Tryz.f44 [] (kp [2]) [] 608 pn [] pn
noncomputable abbrev Nq:=bu Tryz.f42
def sY (N:Nat) (l:List ao) (K:Int→Option (Int)):Prop:=∀ (x:Int) (r:Int),K x=some r→∀ E,a3 E 0→az Tryz.prog E 42 40 (aQ E [] (aI r)) [.code (Nq 116),.inLoop (Nq 116),.inBlock 0,.code (Nq 15)] ⟨[(0,(aD ao.cells ao.d l)),(3,(.fn (.func 44) [] [])),(6,(.op 0 0 0)),(16,(aD ao.cells ao.d l)),(17,(aI ((l.length:Nat):Int))),(18,(aI x))],[(0,vO 1 [(.fn (.func 43) [] [])])],1⟩
theorem rX (N l fuel):sY N l (fo N l fuel):=by
 induction fuel with
 | zero=>intro _ r h;rw [fo.eq_1] at h;cases h
 | succ fuel ih =>
  intro x r h E hE
  rw [fo.eq_2] at h
  refine ae hE 1 [] [] (kp [0,3,6,16,17,18,19]) (kq [0]) 17 pn ?_
  refine ct 1 19 h (fun gB h=>?_) (fun gB h=>?_)
  ·obtain ⟨c,h⟩:=ab h
   refine ae hE 4 [] [] (kp [0,3,6,9,10,16,17,18]) (kq [0,65]) 113 (pc c (pc o1 pn)) ?_
   obtain ⟨j3,hr,h⟩:=aG h
   obtain ⟨HR,dg,h⟩:=aG h
   refine ae hE 2 [(2,oT (aS j3)),(3,oT (aB HR))] [] (kp [0,3,6,9,10,16,17,18,27]) (kq [0,65]) 193 (pc o1 (pc o1 (pc (jM _ _ _ hr) (pc (z6 _ _ _ dg) pn)))) ?_
   refine ct 0 27 h (fun qp h=>?_) (fun qp h=>?_)
   ·refine ae hE 1 [] [] (kp [8]) [] 209 pn ?_
    obtain rfl:=bQ h
    exact bV hE 0 Tryz.f42 [] (kp [8]) [] 209 pn [] pn
   ·obtain ⟨c2,h⟩:=ab h
    obtain ⟨c3,h⟩:=ab h
    obtain ⟨uh,gR,h⟩:=aG h
    refine ae hE 3 [(4,⟨[0,65],true,(aB uh),[],0,false,none⟩)] [] (kp [0,3,6,10,16,17,18,32]) (kq [0,65]) 273 (pc c2 (pc c3 (pc (show Sd 87 [(.sl ((x).toNat - 0) (fun zi=>ao.cells (l.getD (a8 0 zi) ao.d))),(.fn (.func 88) [] [(.op 0 0 0),(.op 1 0 0)])] [(0,vO 1 [(.fn (.func 43) [] [])]),(1,vO 6 (ao.cells (l.getD ((x).toNat) ao.d)))] 2 (aB uh) [(0,vO 1 [(.fn (.func 43) [] [])]),(1,vO 6 (ao.cells (l.getD ((x).toNat) ao.d)))] from (Sound.conv (ke _ _ _ _ gR) (.cons (Alike.sl (vn l 0 ((x).toNat) c2) (fun zq fb=>BD ao.cells ao.d l 0 ((x).toNat) zq fb)) (.cons (Alike.refl _) .nil)))) pn))) ?_
    refine ct 0 32 h (fun zW h=>?_) (fun zW h=>?_)
    ·refine ae hE 1 [] [] (kp [8]) [] 289 pn ?_
     obtain rfl:=bQ h
     exact bV hE 0 Tryz.f42 [] (kp [8]) [] 289 pn [] pn
    ·obtain ⟨j4,kE,h⟩:=aG h
     refine ae hE 2 [(2,oT (aI j4))] [] (kp [0,3,6,11,16,17,18]) (kq [0]) 337 (pc o1 (pc (vM _ _ _ kE) pn)) ?_
     refine ae hE 1 [] [] (kp [0,3,6,11,16,17,18,37]) (kq [0]) 369 pn ?_
     refine ct 0 37 h (fun Fk h=>?_) (fun Fk h=>?_)
     ·refine ae hE 1 [] [] (kp [8]) [] 401 pn ?_
      obtain rfl:=bQ h
      exact bV hE 0 Tryz.f42 [] (kp [8]) [] 401 pn [] pn
     ·refine ae hE 2 [] [] (kp [0,3,6,16,17,18]) (kq [0]) 401 pn ?_
      exact b5 hE 1 [] (kp [0,3,6,16,17,18]) (kq [0]) 1 pn (ih _ _ h E hE)
  ·refine ae hE 2 [] [] (kp [8]) [] 33 pn ?_
   obtain rfl:=bQ h
   exact bV hE 0 Tryz.f42 [] (kp [8]) [] 48 pn [] pn
theorem uM (N l cm r) (h:mL N l cm=some r):Sd 42 [(aD ao.cells ao.d l),(aI cm),(.fn (.func 43) [] []),(.fn (.func 44) [] [])] [] 0 (aI r) []:=by
 unfold mL at h
 refine eL (fu:=Tryz.f42) (c:=Nq 1) (nt:=40) (fun hm=>rfl) ?_
 intro E hE
 refine ae hE 1 [] [] (kp [0,1,3,6]) (kq [0]) 32 pn ?_
 refine ae hE 2 [] [] (kp [0,3,6,15]) (kq [0]) 96 pn ?_
 refine ct 0 15 h (fun cR h=>?_) (fun cR h=>?_)
 ·refine ae hE 1 [] [] (kp [8]) [] 112 pn ?_
  obtain rfl:=bQ h
  exact bV hE 0 Tryz.f42 [] (kp [8]) [] 112 pn [] pn
 ·refine ae hE 3 [] [] (kp [0,3,6,16,17,18]) (kq [0]) 144 pn ?_
  exact b5 hE 2 [] (kp [0,3,6,16,17,18]) (kq [0]) 1 pn (rX N _ N _ _ h E hE)
noncomputable abbrev TN:=bu Tryz.f20
theorem kT (N l r) (h:im N l=some r):Sd 20 [(aD ao.cells ao.d l)] [] 0 (aI r) []:=by
 unfold im at h
 refine eL (fu:=Tryz.f20) (c:=TN 1) (nt:=5) (fun hm=>rfl) ?_
 intro E hE
 refine ae hE 1 [] [] (kp [0]) [] 16 pn ?_
 obtain ⟨uh,hr,h⟩:=aG h
 refine ae hE 1 [(1,oT (aI uh))] [] (kp [2]) [] 64 (pc (uM _ _ _ _ hr) pn) ?_
 obtain rfl:=bQ h
 exact bV hE 0 Tryz.f20 [] (kp [2]) [] 64 pn [] pn
noncomputable abbrev H0:=bu Tryz.f41
def rh (N:Nat) (l:ao) (K:Int→Int→Option (Int)):Prop:=∀ (root:Int) (x:Int) (r:Int),K root x=some r→∀ E,a3 E 0→az Tryz.prog E 41 43 (aQ E [] (aI r)) [.code (H0 500),.inLoop (H0 500),.inBlock 0,.code (H0 63)] ⟨[(5,(aI (ah ((ah ((ah (l.iJ - l.q7)) * (ah (l.iJ - l.q7))))+(ah ((ah (l.lY - l.uR)) * (ah (l.lY - l.uR)))))))),(6,(aI root)),(26,(aI x))],[],0⟩
def yL (N:Nat) (l:ao) (x:Int) (K:Int→Option (Int)):Prop:=∀ (GD:Int) (r:Int),K GD=some r→∀ E,a3 E 0→az Tryz.prog E 41 43 (aQ E [] (aI r)) [.code (H0 4007),.inLoop (H0 500),.inBlock 0,.code (H0 63)] ⟨[(5,(aI (ah ((ah ((ah (l.iJ - l.q7)) * (ah (l.iJ - l.q7))))+(ah ((ah (l.lY - l.uR)) * (ah (l.lY - l.uR)))))))),(6,(aI GD)),(26,(aI x))],[],0⟩
theorem qB (N:Nat) (l:ao) (x:Int) (kW:Int→Int→Option (Int)) (xL:rh N l kW):yL N l x (mv N l x kW):=by
 intro GD r h E hE
 unfold mv at h
 refine ae hE 0 [] [] (kp [5,6,26]) [] 32 pn ?_
 exact b5 hE 1 [] (kp [5,6,26]) [] 0 pn (xL _ _ _ h E hE)
theorem xM (N l fuel):rh N l (iU N l fuel):=by
 induction fuel with
 | zero=>intro _ _ r h;rw [iU.eq_1] at h;cases h
 | succ fuel ih =>
  intro root x r h E hE
  rw [iU.eq_2] at h
  refine ae hE 1 [] [] (kp [5,6,26,27]) [] 16 pn ?_
  refine ct 1 27 h (fun cR h=>?_) (fun cR h=>?_)
  ·refine ae hE 4 [] [] (kp [5,6,7,26]) [] 48 pn ?_
   obtain ⟨c,h⟩:=ab h
   refine ae hE 1 [] [] (kp [5,6,8,26]) [] 144 (pc c pn) ?_
   refine ae hE 1 [] [] (kp [5,6,8,26,38]) [] 224 pn ?_
   refine ct 0 38 h (fun gB h=>?_) (fun gB h=>?_)
   ·refine ae hE 0 [] [] (kp [5,6,26]) [] 256 pn ?_
    exact b5 hE 1 [] (kp [5,6,26]) [] 0 pn (qB N _ _ _ ih _ _ h E hE)
   ·exact b5 hE 2 [] (kp [5,6,26]) [] 0 pn (qB N _ _ _ ih _ _ h E hE)
  ·refine ae hE 2 [] [] (kp [2]) [] 64 pn ?_
   obtain rfl:=bQ h
   exact bV hE 0 Tryz.f41 [] (kp [2]) [] 64 pn [] pn
theorem uu (N l r) (h:pD N l=some r):Sd 41 [(.agg (ao.cells l))] [] 0 (aI r) []:=by
 unfold pD at h
 refine eL (fu:=Tryz.f41) (c:=H0 1) (nt:=43) (fun hm=>rfl) ?_
 intro E hE
 refine ae hE 1 [] [] (kp [1]) (kq [0]) 32 pn ?_
 refine ae hE 1 [] [] (kp [3,4]) [] 224 (pc o1 (pc o1 (pc o1 (pc o1 pn)))) ?_
 refine ae hE 1 [] [] (kp [5]) [] 352 pn ?_
 refine ae hE 1 [] [] (kp [5,6]) [] 368 pn ?_
 refine ae hE 2 [] [] (kp [5,6,26]) [] 384 pn ?_
 exact b5 hE 2 [] (kp [5,6,26]) [] 0 pn (xM N _ N _ _ _ h E hE)
noncomputable abbrev TO:=bu Tryz.f19
theorem Be (N l r) (h:tC N l=some r):Sd 19 [(.agg (ao.cells l))] [] 0 (.tup [(aI r.1),(aI r.2)]) []:=by
 unfold tC at h
 refine eL (fu:=Tryz.f19) (c:=TO 1) (nt:=13) (fun hm=>rfl) ?_
 intro E hE
 refine ae hE 1 [] [] (kp [1]) (kq [0]) 48 pn ?_
 obtain ⟨bC,hr,h⟩:=aG h
 refine ae hE 2 [(2,oT (aI bC))] [] (kp [1,4]) (kq [0]) 112 (pc o1 (pc (show Sd 20 [(.sl 1 (fun zi=>(fun zi=>([[(aS l.p9),(aI l.q7),(aI l.uR),(aI l.iJ),(aI l.lY),(aI l.tv)]]:List (List AV)).getD zi []) (a8 0 zi)))] [] 0 (aI bC) [] from (Sound.conv (kT _ _ _ hr) (.cons (Alike.sl rfl (fun zq fb=>bE ao.cells ao.d ([l]:List ao) zq fb)) .nil))) (pc (z1 1) pn))) ?_
 refine ae hE 1 [] [] (kp [1,4,9]) (kq [0]) 144 pn ?_
 refine ct 0 9 h (fun cR h=>?_) (fun cR h=>?_)
 ·refine ae hE 1 [] [] (kp [2,3]) [] 192 pn ?_
  obtain rfl:=bQ h
  exact bV hE 0 Tryz.f19 [] (kp [2,3]) [] 192 pn [] pn
 ·obtain ⟨Cz,dg,h⟩:=aG h
  refine ae hE 2 [(1,oT (aI Cz))] [] (kp [2,3]) [] 208 (pc o1 (pc (uu _ _ _ dg) pn)) ?_
  obtain rfl:=bQ h
  exact bV hE 0 Tryz.f19 [] (kp [2,3]) [] 208 pn [] pn
noncomputable abbrev TP:=bu Tryz.f6
theorem CW (N r) (h:vu N=some r):Sd 6 [] [] 0 (aB r) []:=by
 unfold vu at h
 refine eL (fu:=Tryz.f6) (c:=TP 1) (nt:=14) (fun hm=>rfl) ?_
 intro E hE
 refine ae hE 1 [] [] [] [] 16 pn ?_
 obtain ⟨vv,hr,h⟩:=aG h
 refine ae hE 1 [(1,oT (.tup [(aI vv.1),(aI vv.2)]))] [] (kp [1,2]) [] 128 (pc (Be _ _ _ hr) pn) ?_
 refine ae hE 1 [] [] (kp [0]) [] 240 (pc (fun hg:(vv.2 == 0)=true=>(pc hg pn)) (pc (fun hq:(vv.2 == 0)=true=>(pc hq pn)) pn)) ?_
 obtain rfl:=bQ h
 exact bV hE 0 Tryz.f6 [] (kp [0]) [] 240 pn [] pn
noncomputable abbrev Nr:=bu Tryz.f7
def z7 (N:Nat) (l:List ao) (K:Int→Option (Bool)):Prop:=∀ (i:Int) (r:Bool),K i=some r→∀ E,a3 E 0→az Tryz.prog E 7 20 (aQ E [] (aB r)) [.code (Nr 52),.inLoop (Nr 52),.inBlock 0,.code (Nr 7)] ⟨[(0,(aD ao.cells ao.d l)),(3,(aI i))],[],0⟩
theorem yM (N l fuel):z7 N l (ly N l fuel):=by
 induction fuel with
 | zero=>intro _ r h;rw [ly.eq_1] at h;cases h
 | succ fuel ih =>
  intro i r h E hE
  rw [ly.eq_2] at h
  refine ae hE 2 [] [] (kp [0,3,7]) [] 64 pn ?_
  refine ct 0 7 h (fun cR h=>?_) (fun cR h=>?_)
  ·obtain ⟨c,h⟩:=ab h
   refine ae hE 4 [] [] (kp [0,3,16]) [] 176 (pc c pn) ?_
   refine ct 0 16 h (fun gB h=>?_) (fun gB h=>?_)
   ·refine ae hE 1 [] [] (kp [2]) [] 192 pn ?_
    obtain rfl:=bQ h
    exact bV hE 0 Tryz.f7 [] (kp [2]) [] 192 pn [] pn
   ·refine ae hE 2 [] [] (kp [0,3]) [] 224 pn ?_
    exact b5 hE 1 [] (kp [0,3]) [] 0 pn (ih _ _ h E hE)
  ·refine ae hE 2 [] [] (kp [2]) [] 128 pn ?_
   obtain rfl:=bQ h
   exact bV hE 0 Tryz.f7 [] (kp [2]) [] 128 pn [] pn
theorem CX (N l r) (h:vw N l=some r):Sd 7 [(aD ao.cells ao.d l)] [] 0 (aB r) []:=by
 unfold vw at h
 refine eL (fu:=Tryz.f7) (c:=Nr 1) (nt:=20) (fun hm=>rfl) ?_
 intro E hE
 refine ae hE 1 [] [] (kp [0]) [] 16 pn ?_
 refine ae hE 2 [] [] (kp [0,3]) [] 32 pn ?_
 exact b5 hE 2 [] (kp [0,3]) [] 0 pn (yM N _ N _ _ h E hE)
noncomputable abbrev TQ:=bu Tryz.f45
theorem yN (N IU r) (h:qh N IU=some r):Sd 45 [(aB IU)] [] 0 (aI r) []:=by
 unfold qh at h
 refine eL (fu:=Tryz.f45) (c:=TQ 1) (nt:=4) (fun hm=>rfl) ?_
 intro E hE
 refine ae hE 1 [] [] (kp [0]) [] 16 pn ?_
 refine ae hE 2 [] [] (kp [3]) [] 32 pn ?_
 refine ct 0 3 h (fun cR h=>?_) (fun cR h=>?_)
 ·refine ae hE 1 [] [] (kp [2]) [] 48 pn ?_
  obtain rfl:=bQ h
  exact bV hE 0 Tryz.f45 [] (kp [2]) [] 48 pn [] pn
 ·refine ae hE 2 [] [] (kp [2]) [] 48 pn ?_
  obtain rfl:=bQ h
  exact bV hE 0 Tryz.f45 [] (kp [2]) [] 48 pn [] pn
noncomputable abbrev TR:=bu Tryz.f21
theorem oD (N w r) (h:kX N w=some r):Sd 21 [(.agg (dE.cells w))] [] 0 (aI r) []:=by
 unfold kX at h
 refine eL (fu:=Tryz.f21) (c:=TR 1) (nt:=17) (fun hm=>rfl) ?_
 intro E hE
 refine ae hE 1 [] [] (kp [1]) (kq [0]) 32 pn ?_
 obtain ⟨cg,hr,h⟩:=aG h
 obtain ⟨cP,dg,h⟩:=aG h
 obtain ⟨fA,gR,h⟩:=aG h
 obtain ⟨Fe,kE,h⟩:=aG h
 refine ae hE 1 [(2,oT (aB cg)),(6,oT (aB cP)),(11,oT (aB fA)),(13,oT (aI Fe))] [] (kp [2]) [] 272 (pc o1 (pc (dz _ _ _ _ _ hr) (pc (fun hg:(!cg)=true=>(pc hg (pc o1 pn))) (pc (fun hg:(!cg)=true=>(pc (dz _ _ _ _ _ (er dg hg)) (pc hg pn))) (pc (fun hq:(!cg)=true=>(pc hq pn)) (pc (fun hg:(!(cond cg true cP))=true=>(pc hg (pc o1 pn))) (pc (fun hg:(!(cond cg true cP))=true=>(pc (dz _ _ _ _ _ (er gR hg)) (pc hg pn))) (pc (fun hq:(!(cond cg true cP))=true=>(pc hq pn)) (pc (yN _ _ _ kE) pn))))))))) ?_
 obtain rfl:=bQ h
 exact bV hE 0 Tryz.f21 [] (kp [2]) [] 272 pn [] pn
noncomputable abbrev TS:=bu Tryz.f48
theorem cy (N n r) (h:cT N n=some r):Sd 48 [(aI n)] [] 0 (.agg (ai r)) []:=by
 unfold cT at h
 refine eL (fu:=Tryz.f48) (c:=TS 1) (nt:=6) (fun hm=>rfl) ?_
 intro E hE
 refine ae hE 1 [] [] (kp [0,2]) (kq [0]) 16 pn ?_
 obtain ⟨Ew,hr,h⟩:=aG h
 obtain ⟨xz,dg,h⟩:=aG h
 refine ae hE 1 [(1,oT (.agg (jr Ew))),(2,oT (.agg (ai xz)))] [] (kp [2]) (kq [0]) 80 (pc (wv _ _ _ hr) (pc (yI _ _ _ dg) (pc o1 pn))) ?_
 obtain rfl:=bQ h
 exact bV hE 0 Tryz.f48 [] (kp [2]) [(16,.af 0)] 80 pn [16] (pc o1 pn)
noncomputable abbrev TT:=bu Tryz.f47
theorem n6 (N w r) (h:me N w=some r):Sd 47 [(.agg (dE.cells w))] [] 0 (.agg (aq.cells r)) []:=by
 unfold me at h
 refine eL (fu:=Tryz.f47) (c:=TT 1) (nt:=13) (fun hm=>rfl) ?_
 intro E hE
 refine ae hE 1 [] [] (kp [1,2]) (kq [0,16]) 32 pn ?_
 obtain ⟨dp,hr,h⟩:=aG h
 obtain ⟨cD,dg,h⟩:=aG h
 obtain ⟨cE,gR,h⟩:=aG h
 refine ae hE 1 [(2,oT (.agg (ai dp))),(5,oT (.agg (ai cD))),(8,oT (.agg (ai cE)))] [] (kp [2]) (kq [16]) 208 (pc o1 (pc (cy _ _ _ hr) (pc o1 (pc (cy _ _ _ dg) (pc o1 (pc (cy _ _ _ gR) (pc o1 pn))))))) ?_
 obtain rfl:=bQ h
 exact bV hE 0 Tryz.f47 [] (kp [2]) (kq [16]) 208 pn [16] (pc o1 pn)
noncomputable abbrev TU:=bu Tryz.f91
theorem Fq (N a b r) (h:zL N a b=some r):Sd 91 [(aI a),(aI b)] [] 0 (.tup [(.agg (ai r.1)),(aI r.2)]) []:=by
 unfold zL at h
 refine eL (fu:=Tryz.f91) (c:=TU 1) (nt:=14) (fun hm=>rfl) ?_
 intro E hE
 refine ae hE 1 [] [] (kp [0,1,4]) (kq [0]) 32 pn ?_
 refine ae hE 2 [] [] (kp [0,1,4,7]) (kq [0]) 64 pn ?_
 refine ct 0 7 h (fun cR h=>?_) (fun cR h=>?_)
 ·refine ae hE 1 [] [] (kp [4,5]) (kq [0]) 112 (pc o1 pn) ?_
  obtain rfl:=bQ h
  exact bV hE 0 Tryz.f91 [] (kp [4,5]) [(16,.var 0 [.af,.sl (([]:List Int).length) (fun zi=>(cU .u16) (([]:List Int).getD zi 0)),.af,.sl (([]:List Int).length) (fun zi=>(cU .u16) (([]:List Int).getD zi 0))])] 112 (pc (Eq.refl 0) (pc (Eq.refl 0) pn)) [16] (pc o1 pn)
 ·obtain ⟨Ew,hr,h⟩:=aG h
  obtain ⟨HS,dg,h⟩:=aG h
  obtain ⟨zd,gR,h⟩:=aG h
  refine ae hE 2 [(1,oT (.agg (jr Ew))),(3,oT (.agg (jr HS))),(4,oT (.agg (ai zd)))] [] (kp [4,5]) (kq [0]) 176 (pc (wv _ _ _ hr) (pc (wv _ _ _ dg) (pc (gC _ _ _ _ gR) (pc o1 pn)))) ?_
  obtain rfl:=bQ h
  exact bV hE 0 Tryz.f91 [] (kp [4,5]) [(16,.af 0)] 176 pn [16] (pc o1 pn)
noncomputable abbrev TV:=bu Tryz.f50
theorem kH (N l r) (h:jm N l=some r):Sd 50 [(.agg (ao.cells l))] [] 0 (.agg (aq.cells r)) []:=by
 unfold jm at h
 refine eL (fu:=Tryz.f50) (c:=TV 1) (nt:=47) (fun hm=>rfl) ?_
 intro E hE
 refine ae hE 1 [] [] (kp [1,2]) (kq [0,16]) 32 pn ?_
 obtain ⟨Cz,hr,h⟩:=aG h
 obtain ⟨CA,dg,h⟩:=aG h
 refine ae hE 1 [(3,oT (aI Cz)),(4,oT (.tup [(.agg (ai CA.1)),(aI CA.2)]))] [] (kp [1,2,3]) (kq [0,16,160]) 208 (pc o1 (pc o1 (pc (uu _ _ _ hr) (pc (Fq _ _ _ _ dg) (pc o1 pn))))) ?_
 obtain ⟨dp,gR,h⟩:=aG h
 obtain ⟨bh,kE,h⟩:=aG h
 obtain ⟨cD,n5,h⟩:=aG h
 obtain ⟨bI,sH,h⟩:=aG h
 refine ae hE 1 [(6,oT (.agg (ai dp))),(7,oT (.agg (ai bh))),(14,oT (.agg (ai cD))),(15,oT (.agg (ai bI)))] [] (kp [1,2,5,6]) (kq [0,16,464,480]) 528 (pc o1 (pc o1 (pc o1 (pc (cy _ _ _ gR) (pc (bZ _ _ _ _ kE) (pc o1 (pc o1 (pc o1 (pc (cy _ _ _ n5) (pc (bZ _ _ _ _ sH) (pc o1 (pc o1 pn)))))))))))) ?_
 obtain ⟨cE,tL,h⟩:=aG h
 obtain ⟨cN,AZ,h⟩:=aG h
 obtain ⟨Ff,AY,h⟩:=aG h
 obtain ⟨qi,tK,h⟩:=aG h
 obtain ⟨au,vI,h⟩:=aG h
 refine ae hE 1 [(2,oT (.agg (ai cE))),(4,oT (.agg (ai cN))),(7,oT (.agg (ai Ff))),(9,oT (.agg (ai qi))),(10,oT (.agg (ai au)))] [] (kp [2,5,6,7]) (kq [16,464,480,704]) 736 (pc o1 (pc (cy _ _ _ tL) (pc o1 (pc (bZ _ _ _ _ AZ) (pc o1 (pc (cy _ _ _ AY) (pc o1 (pc (bZ _ _ _ _ tK) (pc (dB _ _ _ _ vI) (pc o1 pn)))))))))) ?_
 refine ae hE 1 [] [] (kp [2]) (kq [16]) 816 (pc o1 (pc o1 (pc o1 (pc o1 pn)))) ?_
 obtain rfl:=bQ h
 exact bV hE 0 Tryz.f50 [] (kp [2]) (kq [16]) 816 pn [16] (pc o1 pn)
noncomputable abbrev dD:=bu Tryz.f22
def yO (N:Nat) (l:List ao) (ak:aq) (K:(List ag)→Int→Option (aN)):Prop:=∀ (rows:List ag) (x:Int) (r:aN),K rows x=some r→∀ E,a3 E 0→az Tryz.prog E 22 137 (aQ E [] (.agg (aN.cells r))) [.code (dD 500),.inLoop (dD 500),.inBlock 0,.code (dD 63)] ⟨[(0,(aD ao.cells ao.d l)),(4,(.op 0 0 0)),(5,(aI ((l.length:Nat):Int))),(6,(.op 1 0 0)),(7,(.os 2 0 rows.length)),(26,(aI ((l.length:Nat):Int))),(27,(aI x))],[(0,vO 3 [(aB false),.nil,.nil]),(1,vO 12 (aq.cells ak)),(2,aO 5 uf ag.d rows)],3⟩
def yP (N:Nat) (l:List ao) (ak:aq) (rows:List ag) (au:aa) (K:(List aa)→(List aa)→Int→Option (aN)):Prop:=∀ (cm:List aa) (least:List aa) (x2:Int) (r:aN),K cm least x2=some r→∀ E,a3 E 0→az Tryz.prog E 22 137 (aQ E [] (.agg (aN.cells r))) [.code (dD 1037108),.inLoop (dD 1037108),.inBlock 4,.code (dD 129639),.inBlock 3,.code (dD 8103),.inLoop (dD 1012),.inBlock 2,.code (dD 127)] ⟨[(0,(aD ao.cells ao.d l)),(4,(.op 0 0 0)),(5,(aI ((l.length:Nat):Int))),(6,(.op 1 0 0)),(7,(.os 2 0 rows.length)),(11,(aI 0)),(12,(.op 3 0 0)),(13,(.op 5 0 0)),(53,(aI 0)),(66,(aD ao.cells ao.d l)),(67,(aI ((l.length:Nat):Int))),(68,(aI x2))],[(0,vO 3 [(aB false),.nil,.nil]),(1,vO 12 (aq.cells ak)),(2,aO 5 uf ag.d rows),(3,vN 5 [(.os 4 0 cm.length),(aB au.fN.fG),(eU au.fN.fL),(aB au.fD.fG),(eU au.fD.fL)]),(4,aO 4 ai aa.d cm),(5,vN 5 [(.os 6 0 least.length),(aB ak.e0.fN.fG),(eU ak.e0.fN.fL),(aB ak.e0.fD.fG),(eU ak.e0.fD.fL)]),(6,aO 4 ai aa.d least)],7⟩
def yQ (N:Nat) (l:List ao) (ak:aq) (rows:List ag) (au:aa) (cm:List aa) (least:List aa) (aK:aa) (K:(List aa)→(List aa)→Int→Option (aN)):Prop:=∀ (bX:List aa) (a9:List aa) (x3:Int) (r:aN),K bX a9 x3=some r→∀ E,a3 E 0→az Tryz.prog E 22 137 (aQ E [] (.agg (aN.cells r))) [.code (dD 1037108),.inLoop (dD 1037108),.inBlock 4,.code (dD 129639),.inBlock 3,.code (dD 8103),.inLoop (dD 1012),.inBlock 2,.code (dD 127)] ⟨[(0,(aD ao.cells ao.d l)),(4,(.op 0 0 0)),(5,(aI ((l.length:Nat):Int))),(6,(.op 1 0 0)),(7,(.os 2 0 ((rows ++ ([(⟨cm,au⟩:ag),(⟨least,ak.e0⟩:ag)]:List ag)).length))),(11,(aI 1)),(12,(.op 3 0 0)),(13,(.op 5 0 0)),(53,(aI 1)),(66,(aD ao.cells ao.d l)),(67,(aI ((l.length:Nat):Int))),(68,(aI x3))],[(0,vO 3 [(aB false),.nil,.nil]),(1,vO 12 (aq.cells ak)),(2,aO 5 uf ag.d (rows ++ ([(⟨cm,au⟩:ag),(⟨least,ak.e0⟩:ag)]:List ag))),(3,vN 5 [(.os 4 0 bX.length),(aB aK.fN.fG),(eU aK.fN.fL),(aB aK.fD.fG),(eU aK.fD.fL)]),(4,aO 4 ai aa.d bX),(5,vN 5 [(.os 6 0 a9.length),(aB ak.e1.fN.fG),(eU ak.e1.fN.fL),(aB ak.e1.fD.fG),(eU ak.e1.fD.fL)]),(6,aO 4 ai aa.d a9)],7⟩
def yR (N:Nat) (l:List ao) (ak:aq) (rows:List ag) (au:aa) (cm:List aa) (least:List aa) (aK:aa) (bX:List aa) (a9:List aa) (bU:aa) (K:(List aa)→(List aa)→Int→Option (aN)):Prop:=∀ (eE:List aa) (cQ:List aa) (x4:Int) (r:aN),K eE cQ x4=some r→∀ E,a3 E 0→az Tryz.prog E 22 137 (aQ E [] (.agg (aN.cells r))) [.code (dD 1037108),.inLoop (dD 1037108),.inBlock 4,.code (dD 129639),.inBlock 3,.code (dD 8103),.inLoop (dD 1012),.inBlock 2,.code (dD 127)] ⟨[(0,(aD ao.cells ao.d l)),(4,(.op 0 0 0)),(5,(aI ((l.length:Nat):Int))),(6,(.op 1 0 0)),(7,(.os 2 0 (((rows ++ ([(⟨cm,au⟩:ag),(⟨least,ak.e0⟩:ag)]:List ag)) ++ ([(⟨bX,aK⟩:ag),(⟨a9,ak.e1⟩:ag)]:List ag)).length))),(11,(aI 2)),(12,(.op 3 0 0)),(13,(.op 5 0 0)),(53,(aI 2)),(66,(aD ao.cells ao.d l)),(67,(aI ((l.length:Nat):Int))),(68,(aI x4))],[(0,vO 3 [(aB false),.nil,.nil]),(1,vO 12 (aq.cells ak)),(2,aO 5 uf ag.d ((rows ++ ([(⟨cm,au⟩:ag),(⟨least,ak.e0⟩:ag)]:List ag)) ++ ([(⟨bX,aK⟩:ag),(⟨a9,ak.e1⟩:ag)]:List ag))),(3,vN 5 [(.os 4 0 eE.length),(aB bU.fN.fG),(eU bU.fN.fL),(aB bU.fD.fG),(eU bU.fD.fL)]),(4,aO 4 ai aa.d eE),(5,vN 5 [(.os 6 0 cQ.length),(aB ak.e2.fN.fG),(eU ak.e2.fN.fL),(aB ak.e2.fD.fG),(eU ak.e2.fD.fL)]),(6,aO 4 ai aa.d cQ)],7⟩
theorem xN (N l ak rows au cm least aK bX a9 bU fuel):yR N l ak rows au cm least aK bX a9 bU (kz N l ak rows au cm least aK bX a9 bU fuel):=by
 induction fuel with
 | zero=>intro _ _ _ r h;rw [kz.eq_1] at h;cases h
 | succ fuel ih =>
  intro eE cQ x4 r h E hE
  rw [kz.eq_2] at h
  refine ae hE 1 [] [] (kp [0,4,5,6,7,11,12,13,53,66,67,68,69]) (kq [0,1,2,3,4,5,6]) 23 pn ?_
  refine ct 1 69 h (fun zW h=>?_) (fun zW h=>?_)
  ·obtain ⟨JI,h⟩:=ab h
   refine ae hE 4 [] [] (kp [0,4,5,6,7,11,12,13,15,53,66,67,68]) (kq [0,1,2,3,4,5,6,55]) 87 (pc JI (pc o1 pn)) ?_
   obtain ⟨iQ,CU,h⟩:=aG h
   refine ae hE 1 [(1,oT (.agg (aq.cells iQ)))] [] (kp [0,4,5,6,7,11,12,13,16,53,66,67,68]) (kq [0,1,2,3,4,5,6,151]) 183 (pc o1 (pc (kH _ _ _ CU) (pc (show 0≤(2:Int)∧(2:Int) < ((3:Nat):Int) by decide) (pc o1 pn)))) ?_
   obtain ⟨GH,h⟩:=ab h
   obtain ⟨ef,CV,h⟩:=aG h
   obtain ⟨IV,h⟩:=ab h
   refine ae hE 0 [(9,oT (.agg (ai ef)))] [] (kp [0,4,5,6,7,11,12,13,53,66,67,68]) (kq [0,1,2] ++ [(3,.var 3 [.ja ((eE ++ ([iQ.e2]:List aa)).length),.af,.af,.af,.af]),(5,.var 5 [.ja ((cQ ++ ([ef]:List aa)).length),.af,.af,.af,.af]),(247,.arr 247 ((eE ++ ([iQ.e2]:List aa)).length) (fun zi=>ai ((eE ++ ([iQ.e2]:List aa)).getD zi aa.d))),(359,.arr 359 ((cQ ++ ([ef]:List aa)).length) (fun zi=>ai ((cQ ++ ([ef]:List aa)).getD zi aa.d)))]) 439 (pc o1 (pc o1 (pc (Eq.refl eE.length) (pc GH (pc (z1 1) (pc (show ∀ zi,zi < 1→AV.fx ((fun zi=>([[(aB iQ.e2.fN.fG),(eU iQ.e2.fN.fL),(aB iQ.e2.fD.fG),(eU iQ.e2.fD.fL)]]:List (List AV)).getD zi []) (a8 0 zi))=true from (om rfl)) (pc o1 (pc o1 (pc (show Sd 49 [(.agg [(aB false),.nil,(aB false),.nil]),(.agg (ai iQ.e2))] [] 0 (.agg (ai ef)) [] from (Sound.conv (dB _ _ _ _ CV) (.cons (Alike.agg (.cons (Alike.refl _) (.cons Alike.nil (.cons (Alike.refl _) (.cons Alike.nil .nil))))) (.cons (Alike.refl _) .nil)))) (pc (Eq.refl cQ.length) (pc IV (pc (z1 1) (pc (show ∀ zi,zi < 1→AV.fx ((fun zi=>([[(aB ef.fN.fG),(eU ef.fN.fL),(aB ef.fD.fG),(eU ef.fD.fL)]]:List (List AV)).getD zi []) (a8 0 zi))=true from (om rfl)) (pc o1 (pc o1 (pc (show (eE.length+1)=(eE ++ ([iQ.e2]:List aa)).length from (aw rfl rfl)) (pc (show (cQ.length+1)=(cQ ++ ([ef]:List aa)).length from (aw rfl rfl)) (pc (show eE.length+1=(eE ++ ([iQ.e2]:List aa)).length from (aw rfl rfl)) (pc (show ∀ zi,zi < (eE ++ ([iQ.e2]:List aa)).length→(fun zi=>ai ((eE ++ ([iQ.e2]:List aa)).getD zi aa.d)) zi=((fun zm=>if zm < eE.length then (fun zi=>ai (eE.getD zi aa.d)) zm else (fun zi=>([[(aB iQ.e2.fN.fG),(eU iQ.e2.fN.fL),(aB iQ.e2.fD.fG),(eU iQ.e2.fD.fL)]]:List (List AV)).getD zi []) (zm - eE.length))) zi from (bk ai aa.d eE ([iQ.e2]:List aa) rfl (fun _ _=>rfl) (fun zq fb=>bE ai aa.d ([iQ.e2]:List aa) zq fb))) (pc (show cQ.length+1=(cQ ++ ([ef]:List aa)).length from (aw rfl rfl)) (pc (show ∀ zi,zi < (cQ ++ ([ef]:List aa)).length→(fun zi=>ai ((cQ ++ ([ef]:List aa)).getD zi aa.d)) zi=((fun zm=>if zm < cQ.length then (fun zi=>ai (cQ.getD zi aa.d)) zm else (fun zi=>([[(aB ef.fN.fG),(eU ef.fN.fL),(aB ef.fD.fG),(eU ef.fD.fL)]]:List (List AV)).getD zi []) (zm - cQ.length))) zi from (bk ai aa.d cQ ([ef]:List aa) rfl (fun _ _=>rfl) (fun zq fb=>bE ai aa.d ([ef]:List aa) zq fb))) pn))))))))))))))))))))) ?_
   refine ae hE 1 [] [] (kp [0,4,5,6,7,11,12,13,53,66,67,68]) (kq [0,1,2,3,5,247,359]) 471 pn ?_
   exact b5 hE 1 [] (kp [0,4,5,6,7,11,12,13,53,66,67,68]) (kq [0,1,2,3] ++ [(4,.af 247)] ++ kq [5] ++ [(6,.af 359)]) 7 pn (ih _ _ _ _ h E hE)
  ·obtain ⟨Oy,h⟩:=ab h
   refine ae hE 1 [(3,⟨[],true,.k6,[(4,aO 4 ai aa.d eE),(6,aO 4 ai aa.d cQ)],0,true,none⟩)] [] (kp [0,4,5,6] ++ [(7,.ja ((((rows ++ ([(⟨cm,au⟩:ag),(⟨least,ak.e0⟩:ag)]:List ag)) ++ ([(⟨bX,aK⟩:ag),(⟨a9,ak.e1⟩:ag)]:List ag)) ++ ([(⟨eE,bU⟩:ag),(⟨cQ,ak.e2⟩:ag)]:List ag)).length))] ++ kp [53]) (kq [0,1] ++ [(87,.arr 87 ((((rows ++ ([(⟨cm,au⟩:ag),(⟨least,ak.e0⟩:ag)]:List ag)) ++ ([(⟨bX,aK⟩:ag),(⟨a9,ak.e1⟩:ag)]:List ag)) ++ ([(⟨eE,bU⟩:ag),(⟨cQ,ak.e2⟩:ag)]:List ag)).length) (fun zi=>uf ((((rows ++ ([(⟨cm,au⟩:ag),(⟨least,ak.e0⟩:ag)]:List ag)) ++ ([(⟨bX,aK⟩:ag),(⟨a9,ak.e1⟩:ag)]:List ag)) ++ ([(⟨eE,bU⟩:ag),(⟨cQ,ak.e2⟩:ag)]:List ag)).getD zi ag.d)))]) 119 (pc o1 (pc o1 (pc (show eE.length≤eE.length from (a7 _)) (pc (show ∀ zi,zi < eE.length→(fun zi=>ai (eE.getD zi aa.d)) zi=(fun zi=>ai (eE.getD zi aa.d)) zi from (fun _ _=>rfl)) (pc (show cQ.length≤cQ.length from (a7 _)) (pc (show ∀ zi,zi < cQ.length→(fun zi=>ai (cQ.getD zi aa.d)) zi=(fun zi=>ai (cQ.getD zi aa.d)) zi from (fun _ _=>rfl)) (pc (Eq.refl eE.length) (pc (Eq.refl cQ.length) (pc (Eq.refl (((rows ++ ([(⟨cm,au⟩:ag),(⟨least,ak.e0⟩:ag)]:List ag)) ++ ([(⟨bX,aK⟩:ag),(⟨a9,ak.e1⟩:ag)]:List ag)).length)) (pc Oy (pc (z1 2) (pc (show ∀ zi,zi < 2→AV.fx ((fun zi=>([[(aD ai aa.d eE),(aB bU.fN.fG),(eU bU.fN.fL),(aB bU.fD.fG),(eU bU.fD.fL)],[(aD ai aa.d cQ),(aB ak.e2.fN.fG),(eU ak.e2.fN.fL),(aB ak.e2.fD.fG),(eU ak.e2.fD.fL)]]:List (List AV)).getD zi []) (a8 0 zi))=true from (om rfl)) (pc (show (((rows ++ ([(⟨cm,au⟩:ag),(⟨least,ak.e0⟩:ag)]:List ag)) ++ ([(⟨bX,aK⟩:ag),(⟨a9,ak.e1⟩:ag)]:List ag)).length+2)=(((rows ++ ([(⟨cm,au⟩:ag),(⟨least,ak.e0⟩:ag)]:List ag)) ++ ([(⟨bX,aK⟩:ag),(⟨a9,ak.e1⟩:ag)]:List ag)) ++ ([(⟨eE,bU⟩:ag),(⟨cQ,ak.e2⟩:ag)]:List ag)).length from (aw rfl rfl)) (pc (show ((rows ++ ([(⟨cm,au⟩:ag),(⟨least,ak.e0⟩:ag)]:List ag)) ++ ([(⟨bX,aK⟩:ag),(⟨a9,ak.e1⟩:ag)]:List ag)).length+2=(((rows ++ ([(⟨cm,au⟩:ag),(⟨least,ak.e0⟩:ag)]:List ag)) ++ ([(⟨bX,aK⟩:ag),(⟨a9,ak.e1⟩:ag)]:List ag)) ++ ([(⟨eE,bU⟩:ag),(⟨cQ,ak.e2⟩:ag)]:List ag)).length from (aw rfl rfl)) (pc (show ∀ zi,zi < (((rows ++ ([(⟨cm,au⟩:ag),(⟨least,ak.e0⟩:ag)]:List ag)) ++ ([(⟨bX,aK⟩:ag),(⟨a9,ak.e1⟩:ag)]:List ag)) ++ ([(⟨eE,bU⟩:ag),(⟨cQ,ak.e2⟩:ag)]:List ag)).length→(fun zi=>uf ((((rows ++ ([(⟨cm,au⟩:ag),(⟨least,ak.e0⟩:ag)]:List ag)) ++ ([(⟨bX,aK⟩:ag),(⟨a9,ak.e1⟩:ag)]:List ag)) ++ ([(⟨eE,bU⟩:ag),(⟨cQ,ak.e2⟩:ag)]:List ag)).getD zi ag.d)) zi=((fun zm=>if zm < ((rows ++ ([(⟨cm,au⟩:ag),(⟨least,ak.e0⟩:ag)]:List ag)) ++ ([(⟨bX,aK⟩:ag),(⟨a9,ak.e1⟩:ag)]:List ag)).length then (fun zi=>uf (((rows ++ ([(⟨cm,au⟩:ag),(⟨least,ak.e0⟩:ag)]:List ag)) ++ ([(⟨bX,aK⟩:ag),(⟨a9,ak.e1⟩:ag)]:List ag)).getD zi ag.d)) zm else (fun zi=>([[(aD ai aa.d eE),(aB bU.fN.fG),(eU bU.fN.fL),(aB bU.fD.fG),(eU bU.fD.fL)],[(aD ai aa.d cQ),(aB ak.e2.fN.fG),(eU ak.e2.fN.fL),(aB ak.e2.fD.fG),(eU ak.e2.fD.fL)]]:List (List AV)).getD zi []) (zm - ((rows ++ ([(⟨cm,au⟩:ag),(⟨least,ak.e0⟩:ag)]:List ag)) ++ ([(⟨bX,aK⟩:ag),(⟨a9,ak.e1⟩:ag)]:List ag)).length))) zi from (bk uf ag.d ((rows ++ ([(⟨cm,au⟩:ag),(⟨least,ak.e0⟩:ag)]:List ag)) ++ ([(⟨bX,aK⟩:ag),(⟨a9,ak.e1⟩:ag)]:List ag)) ([(⟨eE,bU⟩:ag),(⟨cQ,ak.e2⟩:ag)]:List ag) rfl (fun _ _=>rfl) (fun zq fb=>bE uf ag.d ([(⟨eE,bU⟩:ag),(⟨cQ,ak.e2⟩:ag)]:List ag) zq fb))) pn))))))))))))))) ?_
   refine ae hE 1 [] [] (kp [0,4,5,6,7,53]) (kq [0,1,87]) 151 pn ?_
   refine ae hE 2 [] [] (kp [0,4,5,6,7,53,54]) (kq [0,1,87]) 167 pn ?_
   refine sA 1 [.code (dD 4050),.code (dD 4051),.inLoop (dD 1012),.inBlock 2,.code (dD 127)] ?_
   refine sC 54 (dD 8100) (dD 8101) false (fun hq=>absurd hq (by decide)) (fun _=>?_) 
   obtain ⟨cH,Fp,h⟩:=aG h
   refine ae hE 2 [(2,⟨[],true,(.tup [(aD ai aa.d cH.1),(aD ai aa.d cH.2.1),(aI cH.2.2)]),[],0,true,none⟩)] [] (kp [4,5,17,18,19]) (kq [0]) 327 (pc (Bd _ _ _ _ Fp) (pc (z1 ((((rows ++ ([(⟨cm,au⟩:ag),(⟨least,ak.e0⟩:ag)]:List ag)) ++ ([(⟨bX,aK⟩:ag),(⟨a9,ak.e1⟩:ag)]:List ag)) ++ ([(⟨eE,bU⟩:ag),(⟨cQ,ak.e2⟩:ag)]:List ag)).length)) pn)) ?_
   refine ae hE 2 [] [] (kp [4,5,17,18,105]) (kq [0]) 359 pn ?_
   refine ct 0 105 h (fun Fk h=>?_) (fun Fk h=>?_)
   ·refine ae hE 1 [] [] (kp [4]) (kq [0]) 407 (pc o1 pn) ?_
    obtain rfl:=bQ h
    exact bV hE 0 Tryz.f22 [] (kp [4]) [(16,.var 0 [.af,.af,.sl (([]:List aa).length) (fun zi=>ai (([]:List aa).getD zi aa.d))])] 407 (pc (Eq.refl 0) pn) [16] (pc o1 pn)
   ·refine ae hE 2 [] [] (kp [4,5,18,20]) (kq [0,375]) 407 (pc o1 pn) ?_
    refine ae hE 2 [] [] (kp [4,5,18,20,109]) (kq [0,375]) 423 pn ?_
    refine ae hE 3 [] [] (kp [4,5,18,20,109,110]) (kq [0,375]) 439 pn ?_
    refine sA 1 [.code (dD 65490),.code (dD 65491),.inLoop (dD 16372),.inBlock 6,.code (dD 2047)] ?_
    refine sC 110 (dD 130980) (dD 130981) true (fun _=>?_) (fun hq=>absurd hq (by decide)) 
    refine ae hE 4 [] [] (kp [4,5,18,20,21,109]) (kq [0,375]) 471 pn ?_
    obtain ⟨Nj,h⟩:=ab h
    obtain ⟨JJ,h⟩:=ab h
    obtain ⟨aX,PD,h⟩:=aG h
    refine ae hE 0 [(19,oT (.agg (ai aX)))] [] (kp [4,5,18,20,109]) (kq [0] ++ [(375,.var 375 [.af,.af,.ja (([aX]:List aa).length)]),(807,.arr 807 (([aX]:List aa).length) (fun zi=>ai (([aX]:List aa).getD zi aa.d)))]) 855 (pc o1 (pc Nj (pc JJ (pc (dB _ _ _ _ PD) (pc (show 1 * 64≤140737488355328 by decide) (pc (z1 1) (pc (show ∀ zi,zi < 1→AV.fx ((fun zi=>([[(aB aX.fN.fG),(eU aX.fN.fL),(aB aX.fD.fG),(eU aX.fD.fL)]]:List (List AV)).getD zi []) (a8 0 zi))=true from (om rfl)) (pc o1 (pc (Eq.refl 1) (pc (Eq.refl 1) (pc (show ∀ zi,zi < ([aX]:List aa).length→(fun zi=>ai (([aX]:List aa).getD zi aa.d)) zi=(fun zi=>([[(aB aX.fN.fG),(eU aX.fN.fL),(aB aX.fD.fG),(eU aX.fD.fL)]]:List (List AV)).getD zi []) zi from (fun zq fb=>bE ai aa.d ([aX]:List aa) zq fb)) pn))))))))))) ?_
    refine ae hE 1 [] [] (kp [4,5,18,20,109]) (kq [0,375,807]) 887 pn ?_
    refine ae hE 2 [] [] (kp [4,5,18,20,109,110]) (kq [0,375,807]) 903 pn ?_
    refine sA 1 [.code (dD 65490),.code (dD 65491),.inLoop (dD 16372),.inBlock 6,.code (dD 2047)] ?_
    refine sC 110 (dD 130980) (dD 130981) true (fun _=>?_) (fun hq=>absurd hq (by decide)) 
    refine ae hE 4 [] [] (kp [4,5,18,20,21,109]) (kq [0,375,807]) 935 pn ?_
    obtain ⟨PB,h⟩:=ab h
    obtain ⟨Q7,h⟩:=ab h
    obtain ⟨bq,PE,h⟩:=aG h
    obtain ⟨PC,h⟩:=ab h
    refine ae hE 0 [(19,oT (.agg (ai bq)))] [] (kp [4,5,18,20,109]) (kq [0] ++ [(375,.var 375 [.af,.af,.ja ((([aX]:List aa) ++ ([bq]:List aa)).length)]),(1271,.arr 1271 ((([aX]:List aa) ++ ([bq]:List aa)).length) (fun zi=>ai ((([aX]:List aa) ++ ([bq]:List aa)).getD zi aa.d)))]) 1319 (pc o1 (pc PB (pc Q7 (pc (dB _ _ _ _ PE) (pc (Eq.refl (([aX]:List aa).length)) (pc PC (pc (z1 1) (pc (show ∀ zi,zi < 1→AV.fx ((fun zi=>([[(aB bq.fN.fG),(eU bq.fN.fL),(aB bq.fD.fG),(eU bq.fD.fL)]]:List (List AV)).getD zi []) (a8 0 zi))=true from (om rfl)) (pc o1 (pc (show (([aX]:List aa).length+1)=(([aX]:List aa) ++ ([bq]:List aa)).length from (aw rfl rfl)) (pc (show ([aX]:List aa).length+1=(([aX]:List aa) ++ ([bq]:List aa)).length from (aw rfl rfl)) (pc (show ∀ zi,zi < (([aX]:List aa) ++ ([bq]:List aa)).length→(fun zi=>ai ((([aX]:List aa) ++ ([bq]:List aa)).getD zi aa.d)) zi=((fun zm=>if zm < ([aX]:List aa).length then (fun zi=>ai (([aX]:List aa).getD zi aa.d)) zm else (fun zi=>([[(aB bq.fN.fG),(eU bq.fN.fL),(aB bq.fD.fG),(eU bq.fD.fL)]]:List (List AV)).getD zi []) (zm - ([aX]:List aa).length))) zi from (bk ai aa.d ([aX]:List aa) ([bq]:List aa) rfl (fun _ _=>rfl) (fun zq fb=>bE ai aa.d ([bq]:List aa) zq fb))) pn)))))))))))) ?_
    refine ae hE 1 [] [] (kp [4,5,18,20,109]) (kq [0,375,1271]) 1351 pn ?_
    refine ae hE 2 [] [] (kp [4,5,18,20,109,110]) (kq [0,375,1271]) 1367 pn ?_
    refine sA 1 [.code (dD 65490),.code (dD 65491),.inLoop (dD 16372),.inBlock 6,.code (dD 2047)] ?_
    refine sC 110 (dD 130980) (dD 130981) true (fun _=>?_) (fun hq=>absurd hq (by decide)) 
    refine ae hE 4 [] [] (kp [4,5,18,20,21,109]) (kq [0,375,1271]) 1399 pn ?_
    obtain ⟨Q8,h⟩:=ab h
    obtain ⟨R5,h⟩:=ab h
    obtain ⟨cX,PF,h⟩:=aG h
    obtain ⟨R6,h⟩:=ab h
    refine ae hE 0 [(19,oT (.agg (ai cX)))] [] (kp [4,5,18,20,109]) (kq [0] ++ [(375,.var 375 [.af,.af,.ja (((([aX]:List aa) ++ ([bq]:List aa)) ++ ([cX]:List aa)).length)]),(1735,.arr 1735 (((([aX]:List aa) ++ ([bq]:List aa)) ++ ([cX]:List aa)).length) (fun zi=>ai (((([aX]:List aa) ++ ([bq]:List aa)) ++ ([cX]:List aa)).getD zi aa.d)))]) 1783 (pc o1 (pc Q8 (pc R5 (pc (dB _ _ _ _ PF) (pc (Eq.refl ((([aX]:List aa) ++ ([bq]:List aa)).length)) (pc R6 (pc (z1 1) (pc (show ∀ zi,zi < 1→AV.fx ((fun zi=>([[(aB cX.fN.fG),(eU cX.fN.fL),(aB cX.fD.fG),(eU cX.fD.fL)]]:List (List AV)).getD zi []) (a8 0 zi))=true from (om rfl)) (pc o1 (pc (show ((([aX]:List aa) ++ ([bq]:List aa)).length+1)=((([aX]:List aa) ++ ([bq]:List aa)) ++ ([cX]:List aa)).length from (aw rfl rfl)) (pc (show (([aX]:List aa) ++ ([bq]:List aa)).length+1=((([aX]:List aa) ++ ([bq]:List aa)) ++ ([cX]:List aa)).length from (aw rfl rfl)) (pc (show ∀ zi,zi < ((([aX]:List aa) ++ ([bq]:List aa)) ++ ([cX]:List aa)).length→(fun zi=>ai (((([aX]:List aa) ++ ([bq]:List aa)) ++ ([cX]:List aa)).getD zi aa.d)) zi=((fun zm=>if zm < (([aX]:List aa) ++ ([bq]:List aa)).length then (fun zi=>ai ((([aX]:List aa) ++ ([bq]:List aa)).getD zi aa.d)) zm else (fun zi=>([[(aB cX.fN.fG),(eU cX.fN.fL),(aB cX.fD.fG),(eU cX.fD.fL)]]:List (List AV)).getD zi []) (zm - (([aX]:List aa) ++ ([bq]:List aa)).length))) zi from (bk ai aa.d (([aX]:List aa) ++ ([bq]:List aa)) ([cX]:List aa) rfl (fun _ _=>rfl) (fun zq fb=>bE ai aa.d ([cX]:List aa) zq fb))) pn)))))))))))) ?_
    refine ae hE 1 [] [] (kp [4,5,18,20,109]) (kq [0,375,1735]) 1815 pn ?_
    refine ae hE 2 [] [] (kp [4,5,18,20,109,110]) (kq [0,375,1735]) 1831 pn ?_
    refine sA 1 [.code (dD 65490),.code (dD 65491),.inLoop (dD 16372),.inBlock 6,.code (dD 2047)] ?_
    refine sC 110 (dD 130980) (dD 130981) false (fun hq=>absurd hq (by decide)) (fun _=>?_) 
    refine ae hE 2 [] [] (kp [4]) (kq [0,1735]) 1863 (pc o1 (pc o1 pn)) ?_
    obtain rfl:=bQ h
    exact bV hE 0 Tryz.f22 [1735] (kp [4]) [(16,.var 0 [.af,.sl (([]:List aa).length) (fun zi=>ai (([]:List aa).getD zi aa.d)),.sl (((([aX]:List aa) ++ ([bq]:List aa)) ++ ([cX]:List aa)).length) (fun zi=>ai (((([aX]:List aa) ++ ([bq]:List aa)) ++ ([cX]:List aa)).getD zi aa.d))])] 1863 (pc (Eq.refl 0) (pc (Eq.refl (((([aX]:List aa) ++ ([bq]:List aa)) ++ ([cX]:List aa)).length)) (pc (z1 (((([aX]:List aa) ++ ([bq]:List aa)) ++ ([cX]:List aa)).length)) (pc (aZ (((([aX]:List aa) ++ ([bq]:List aa)) ++ ([cX]:List aa)).length) (fun zi=>ai (((([aX]:List aa) ++ ([bq]:List aa)) ++ ([cX]:List aa)).getD zi aa.d))) pn)))) [16] (pc o1 pn)
theorem xO (N l ak rows au cm least aK fuel):yQ N l ak rows au cm least aK (kA N l ak rows au cm least aK fuel):=by
 induction fuel with
 | zero=>intro _ _ _ r h;rw [kA.eq_1] at h;cases h
 | succ fuel ih =>
  intro bX a9 x3 r h E hE
  rw [kA.eq_2] at h
  refine ae hE 1 [] [] (kp [0,4,5,6,7,11,12,13,53,66,67,68,69]) (kq [0,1,2,3,4,5,6]) 23 pn ?_
  refine ct 1 69 h (fun qp h=>?_) (fun qp h=>?_)
  ·obtain ⟨c8,h⟩:=ab h
   refine ae hE 4 [] [] (kp [0,4,5,6,7,11,12,13,15,53,66,67,68]) (kq [0,1,2,3,4,5,6,55]) 87 (pc c8 (pc o1 pn)) ?_
   obtain ⟨iR,AY,h⟩:=aG h
   refine ae hE 1 [(1,oT (.agg (aq.cells iR)))] [] (kp [0,4,5,6,7,11,12,13,16,53,66,67,68]) (kq [0,1,2,3,4,5,6,151]) 183 (pc o1 (pc (kH _ _ _ AY) (pc (show 0≤(1:Int)∧(1:Int) < ((3:Nat):Int) by decide) (pc o1 pn)))) ?_
   obtain ⟨c9,h⟩:=ab h
   obtain ⟨eg,tK,h⟩:=aG h
   obtain ⟨JK,h⟩:=ab h
   refine ae hE 0 [(9,oT (.agg (ai eg)))] [] (kp [0,4,5,6,7,11,12,13,53,66,67,68]) (kq [0,1,2] ++ [(3,.var 3 [.ja ((bX ++ ([iR.e1]:List aa)).length),.af,.af,.af,.af]),(5,.var 5 [.ja ((a9 ++ ([eg]:List aa)).length),.af,.af,.af,.af]),(247,.arr 247 ((bX ++ ([iR.e1]:List aa)).length) (fun zi=>ai ((bX ++ ([iR.e1]:List aa)).getD zi aa.d))),(359,.arr 359 ((a9 ++ ([eg]:List aa)).length) (fun zi=>ai ((a9 ++ ([eg]:List aa)).getD zi aa.d)))]) 439 (pc o1 (pc o1 (pc (Eq.refl bX.length) (pc c9 (pc (z1 1) (pc (show ∀ zi,zi < 1→AV.fx ((fun zi=>([[(aB iR.e1.fN.fG),(eU iR.e1.fN.fL),(aB iR.e1.fD.fG),(eU iR.e1.fD.fL)]]:List (List AV)).getD zi []) (a8 0 zi))=true from (om rfl)) (pc o1 (pc o1 (pc (show Sd 49 [(.agg [(aB false),.nil,(aB false),.nil]),(.agg (ai iR.e1))] [] 0 (.agg (ai eg)) [] from (Sound.conv (dB _ _ _ _ tK) (.cons (Alike.agg (.cons (Alike.refl _) (.cons Alike.nil (.cons (Alike.refl _) (.cons Alike.nil .nil))))) (.cons (Alike.refl _) .nil)))) (pc (Eq.refl a9.length) (pc JK (pc (z1 1) (pc (show ∀ zi,zi < 1→AV.fx ((fun zi=>([[(aB eg.fN.fG),(eU eg.fN.fL),(aB eg.fD.fG),(eU eg.fD.fL)]]:List (List AV)).getD zi []) (a8 0 zi))=true from (om rfl)) (pc o1 (pc o1 (pc (show (bX.length+1)=(bX ++ ([iR.e1]:List aa)).length from (aw rfl rfl)) (pc (show (a9.length+1)=(a9 ++ ([eg]:List aa)).length from (aw rfl rfl)) (pc (show bX.length+1=(bX ++ ([iR.e1]:List aa)).length from (aw rfl rfl)) (pc (show ∀ zi,zi < (bX ++ ([iR.e1]:List aa)).length→(fun zi=>ai ((bX ++ ([iR.e1]:List aa)).getD zi aa.d)) zi=((fun zm=>if zm < bX.length then (fun zi=>ai (bX.getD zi aa.d)) zm else (fun zi=>([[(aB iR.e1.fN.fG),(eU iR.e1.fN.fL),(aB iR.e1.fD.fG),(eU iR.e1.fD.fL)]]:List (List AV)).getD zi []) (zm - bX.length))) zi from (bk ai aa.d bX ([iR.e1]:List aa) rfl (fun _ _=>rfl) (fun zq fb=>bE ai aa.d ([iR.e1]:List aa) zq fb))) (pc (show a9.length+1=(a9 ++ ([eg]:List aa)).length from (aw rfl rfl)) (pc (show ∀ zi,zi < (a9 ++ ([eg]:List aa)).length→(fun zi=>ai ((a9 ++ ([eg]:List aa)).getD zi aa.d)) zi=((fun zm=>if zm < a9.length then (fun zi=>ai (a9.getD zi aa.d)) zm else (fun zi=>([[(aB eg.fN.fG),(eU eg.fN.fL),(aB eg.fD.fG),(eU eg.fD.fL)]]:List (List AV)).getD zi []) (zm - a9.length))) zi from (bk ai aa.d a9 ([eg]:List aa) rfl (fun _ _=>rfl) (fun zq fb=>bE ai aa.d ([eg]:List aa) zq fb))) pn))))))))))))))))))))) ?_
   refine ae hE 1 [] [] (kp [0,4,5,6,7,11,12,13,53,66,67,68]) (kq [0,1,2,3,5,247,359]) 471 pn ?_
   exact b5 hE 1 [] (kp [0,4,5,6,7,11,12,13,53,66,67,68]) (kq [0,1,2,3] ++ [(4,.af 247)] ++ kq [5] ++ [(6,.af 359)]) 7 pn (ih _ _ _ _ h E hE)
  ·obtain ⟨FR,h⟩:=ab h
   refine ae hE 1 [(3,⟨[],true,.k6,[(4,aO 4 ai aa.d bX),(6,aO 4 ai aa.d a9)],0,true,none⟩)] [] (kp [0,4,5,6] ++ [(7,.ja (((rows ++ ([(⟨cm,au⟩:ag),(⟨least,ak.e0⟩:ag)]:List ag)) ++ ([(⟨bX,aK⟩:ag),(⟨a9,ak.e1⟩:ag)]:List ag)).length))] ++ kp [53]) (kq [0,1] ++ [(87,.arr 87 (((rows ++ ([(⟨cm,au⟩:ag),(⟨least,ak.e0⟩:ag)]:List ag)) ++ ([(⟨bX,aK⟩:ag),(⟨a9,ak.e1⟩:ag)]:List ag)).length) (fun zi=>uf (((rows ++ ([(⟨cm,au⟩:ag),(⟨least,ak.e0⟩:ag)]:List ag)) ++ ([(⟨bX,aK⟩:ag),(⟨a9,ak.e1⟩:ag)]:List ag)).getD zi ag.d)))]) 119 (pc o1 (pc o1 (pc (show bX.length≤bX.length from (a7 _)) (pc (show ∀ zi,zi < bX.length→(fun zi=>ai (bX.getD zi aa.d)) zi=(fun zi=>ai (bX.getD zi aa.d)) zi from (fun _ _=>rfl)) (pc (show a9.length≤a9.length from (a7 _)) (pc (show ∀ zi,zi < a9.length→(fun zi=>ai (a9.getD zi aa.d)) zi=(fun zi=>ai (a9.getD zi aa.d)) zi from (fun _ _=>rfl)) (pc (Eq.refl bX.length) (pc (Eq.refl a9.length) (pc (Eq.refl ((rows ++ ([(⟨cm,au⟩:ag),(⟨least,ak.e0⟩:ag)]:List ag)).length)) (pc FR (pc (z1 2) (pc (show ∀ zi,zi < 2→AV.fx ((fun zi=>([[(aD ai aa.d bX),(aB aK.fN.fG),(eU aK.fN.fL),(aB aK.fD.fG),(eU aK.fD.fL)],[(aD ai aa.d a9),(aB ak.e1.fN.fG),(eU ak.e1.fN.fL),(aB ak.e1.fD.fG),(eU ak.e1.fD.fL)]]:List (List AV)).getD zi []) (a8 0 zi))=true from (om rfl)) (pc (show ((rows ++ ([(⟨cm,au⟩:ag),(⟨least,ak.e0⟩:ag)]:List ag)).length+2)=((rows ++ ([(⟨cm,au⟩:ag),(⟨least,ak.e0⟩:ag)]:List ag)) ++ ([(⟨bX,aK⟩:ag),(⟨a9,ak.e1⟩:ag)]:List ag)).length from (aw rfl rfl)) (pc (show (rows ++ ([(⟨cm,au⟩:ag),(⟨least,ak.e0⟩:ag)]:List ag)).length+2=((rows ++ ([(⟨cm,au⟩:ag),(⟨least,ak.e0⟩:ag)]:List ag)) ++ ([(⟨bX,aK⟩:ag),(⟨a9,ak.e1⟩:ag)]:List ag)).length from (aw rfl rfl)) (pc (show ∀ zi,zi < ((rows ++ ([(⟨cm,au⟩:ag),(⟨least,ak.e0⟩:ag)]:List ag)) ++ ([(⟨bX,aK⟩:ag),(⟨a9,ak.e1⟩:ag)]:List ag)).length→(fun zi=>uf (((rows ++ ([(⟨cm,au⟩:ag),(⟨least,ak.e0⟩:ag)]:List ag)) ++ ([(⟨bX,aK⟩:ag),(⟨a9,ak.e1⟩:ag)]:List ag)).getD zi ag.d)) zi=((fun zm=>if zm < (rows ++ ([(⟨cm,au⟩:ag),(⟨least,ak.e0⟩:ag)]:List ag)).length then (fun zi=>uf ((rows ++ ([(⟨cm,au⟩:ag),(⟨least,ak.e0⟩:ag)]:List ag)).getD zi ag.d)) zm else (fun zi=>([[(aD ai aa.d bX),(aB aK.fN.fG),(eU aK.fN.fL),(aB aK.fD.fG),(eU aK.fD.fL)],[(aD ai aa.d a9),(aB ak.e1.fN.fG),(eU ak.e1.fN.fL),(aB ak.e1.fD.fG),(eU ak.e1.fD.fL)]]:List (List AV)).getD zi []) (zm - (rows ++ ([(⟨cm,au⟩:ag),(⟨least,ak.e0⟩:ag)]:List ag)).length))) zi from (bk uf ag.d (rows ++ ([(⟨cm,au⟩:ag),(⟨least,ak.e0⟩:ag)]:List ag)) ([(⟨bX,aK⟩:ag),(⟨a9,ak.e1⟩:ag)]:List ag) rfl (fun _ _=>rfl) (fun zq fb=>bE uf ag.d ([(⟨bX,aK⟩:ag),(⟨a9,ak.e1⟩:ag)]:List ag) zq fb))) pn))))))))))))))) ?_
   refine ae hE 1 [] [] (kp [0,4,5,6,7,53]) (kq [0,1,87]) 151 pn ?_
   refine ae hE 2 [] [] (kp [0,4,5,6,7,53,54]) (kq [0,1,87]) 167 pn ?_
   refine sA 1 [.code (dD 4050),.code (dD 4051),.inLoop (dD 1012),.inBlock 2,.code (dD 127)] ?_
   refine sC 54 (dD 8100) (dD 8101) true (fun _=>?_) (fun hq=>absurd hq (by decide)) 
   refine ae hE 4 [] [] (kp [0,4,5,6,7,11,53]) (kq [0,1,87]) 199 pn ?_
   obtain ⟨bU,vI,h⟩:=aG h
   refine ae hE 1 [(4,oT (.agg (ai bU)))] [] (kp [0,4,5,6,7,11,12,13,53]) (kq [0,1,87,359,375]) 423 (pc (show 0≤(2:Int)∧(2:Int) < 3 by decide) (pc o1 (pc (show Sd 49 [(.agg [(aB false),.nil,(aB false),.nil]),(.agg (ai ak.e2))] [] 0 (.agg (ai bU)) [] from (Sound.conv (dB _ _ _ _ vI) (.cons (Alike.agg (.cons (Alike.refl _) (.cons Alike.nil (.cons (Alike.refl _) (.cons Alike.nil .nil))))) (.cons (Alike.refl _) .nil)))) (pc (show 0≤(2:Int)∧(2:Int) < 3 by decide) (pc o1 (pc o1 (pc o1 pn))))))) ?_
   refine ae hE 2 [] [] (kp [0,4,5,6,7,11,12,13,53,66,67,68]) (kq [0,1,87,359,375]) 471 pn ?_
   exact b5 hE 2 [] (kp [0,4,5,6,7,11,12,13,53,66,67,68]) (kq [0,1] ++ [(2,.af 87),(3,.var 359 [.mU 4,.af,.af,.af,.af]),(4,.nil 4 (fun zi=>ai (([]:List aa).getD zi aa.d))),(5,.var 375 [.mU 6,.af,.af,.af,.af]),(6,.nil 4 (fun zi=>ai (([]:List aa).getD zi aa.d)))]) 7 pn (xN N _ _ _ _ _ _ _ _ _ _ N _ _ _ _ h E hE)
theorem xP (N l ak rows au fuel):yP N l ak rows au (kB N l ak rows au fuel):=by
 induction fuel with
 | zero=>intro _ _ _ r h;rw [kB.eq_1] at h;cases h
 | succ fuel ih =>
  intro cm least x2 r h E hE
  rw [kB.eq_2] at h
  refine ae hE 1 [] [] (kp [0,4,5,6,7,11,12,13,53,66,67,68,69]) (kq [0,1,2,3,4,5,6]) 23 pn ?_
  refine ct 1 69 h (fun gB h=>?_) (fun gB h=>?_)
  ·obtain ⟨c4,h⟩:=ab h
   refine ae hE 4 [] [] (kp [0,4,5,6,7,11,12,13,15,53,66,67,68]) (kq [0,1,2,3,4,5,6,55]) 87 (pc c4 (pc o1 pn)) ?_
   obtain ⟨g4,sH,h⟩:=aG h
   refine ae hE 1 [(1,oT (.agg (aq.cells g4)))] [] (kp [0,4,5,6,7,11,12,13,16,53,66,67,68]) (kq [0,1,2,3,4,5,6,151]) 183 (pc o1 (pc (kH _ _ _ sH) (pc (show 0≤(0:Int)∧(0:Int) < ((3:Nat):Int) by decide) (pc o1 pn)))) ?_
   obtain ⟨c5,h⟩:=ab h
   obtain ⟨eh,tL,h⟩:=aG h
   obtain ⟨c6,h⟩:=ab h
   refine ae hE 0 [(9,oT (.agg (ai eh)))] [] (kp [0,4,5,6,7,11,12,13,53,66,67,68]) (kq [0,1,2] ++ [(3,.var 3 [.ja ((cm ++ ([g4.e0]:List aa)).length),.af,.af,.af,.af]),(5,.var 5 [.ja ((least ++ ([eh]:List aa)).length),.af,.af,.af,.af]),(247,.arr 247 ((cm ++ ([g4.e0]:List aa)).length) (fun zi=>ai ((cm ++ ([g4.e0]:List aa)).getD zi aa.d))),(359,.arr 359 ((least ++ ([eh]:List aa)).length) (fun zi=>ai ((least ++ ([eh]:List aa)).getD zi aa.d)))]) 439 (pc o1 (pc o1 (pc (Eq.refl cm.length) (pc c5 (pc (z1 1) (pc (show ∀ zi,zi < 1→AV.fx ((fun zi=>([[(aB g4.e0.fN.fG),(eU g4.e0.fN.fL),(aB g4.e0.fD.fG),(eU g4.e0.fD.fL)]]:List (List AV)).getD zi []) (a8 0 zi))=true from (om rfl)) (pc o1 (pc o1 (pc (show Sd 49 [(.agg [(aB false),.nil,(aB false),.nil]),(.agg (ai g4.e0))] [] 0 (.agg (ai eh)) [] from (Sound.conv (dB _ _ _ _ tL) (.cons (Alike.agg (.cons (Alike.refl _) (.cons Alike.nil (.cons (Alike.refl _) (.cons Alike.nil .nil))))) (.cons (Alike.refl _) .nil)))) (pc (Eq.refl least.length) (pc c6 (pc (z1 1) (pc (show ∀ zi,zi < 1→AV.fx ((fun zi=>([[(aB eh.fN.fG),(eU eh.fN.fL),(aB eh.fD.fG),(eU eh.fD.fL)]]:List (List AV)).getD zi []) (a8 0 zi))=true from (om rfl)) (pc o1 (pc o1 (pc (show (cm.length+1)=(cm ++ ([g4.e0]:List aa)).length from (aw rfl rfl)) (pc (show (least.length+1)=(least ++ ([eh]:List aa)).length from (aw rfl rfl)) (pc (show cm.length+1=(cm ++ ([g4.e0]:List aa)).length from (aw rfl rfl)) (pc (show ∀ zi,zi < (cm ++ ([g4.e0]:List aa)).length→(fun zi=>ai ((cm ++ ([g4.e0]:List aa)).getD zi aa.d)) zi=((fun zm=>if zm < cm.length then (fun zi=>ai (cm.getD zi aa.d)) zm else (fun zi=>([[(aB g4.e0.fN.fG),(eU g4.e0.fN.fL),(aB g4.e0.fD.fG),(eU g4.e0.fD.fL)]]:List (List AV)).getD zi []) (zm - cm.length))) zi from (bk ai aa.d cm ([g4.e0]:List aa) rfl (fun _ _=>rfl) (fun zq fb=>bE ai aa.d ([g4.e0]:List aa) zq fb))) (pc (show least.length+1=(least ++ ([eh]:List aa)).length from (aw rfl rfl)) (pc (show ∀ zi,zi < (least ++ ([eh]:List aa)).length→(fun zi=>ai ((least ++ ([eh]:List aa)).getD zi aa.d)) zi=((fun zm=>if zm < least.length then (fun zi=>ai (least.getD zi aa.d)) zm else (fun zi=>([[(aB eh.fN.fG),(eU eh.fN.fL),(aB eh.fD.fG),(eU eh.fD.fL)]]:List (List AV)).getD zi []) (zm - least.length))) zi from (bk ai aa.d least ([eh]:List aa) rfl (fun _ _=>rfl) (fun zq fb=>bE ai aa.d ([eh]:List aa) zq fb))) pn))))))))))))))))))))) ?_
   refine ae hE 1 [] [] (kp [0,4,5,6,7,11,12,13,53,66,67,68]) (kq [0,1,2,3,5,247,359]) 471 pn ?_
   exact b5 hE 1 [] (kp [0,4,5,6,7,11,12,13,53,66,67,68]) (kq [0,1,2,3] ++ [(4,.af 247)] ++ kq [5] ++ [(6,.af 359)]) 7 pn (ih _ _ _ _ h E hE)
  ·obtain ⟨c7,h⟩:=ab h
   refine ae hE 1 [(3,⟨[],true,.k6,[(4,aO 4 ai aa.d cm),(6,aO 4 ai aa.d least)],0,true,none⟩)] [] (kp [0,4,5,6] ++ [(7,.ja ((rows ++ ([(⟨cm,au⟩:ag),(⟨least,ak.e0⟩:ag)]:List ag)).length))] ++ kp [53]) (kq [0,1] ++ [(87,.arr 87 ((rows ++ ([(⟨cm,au⟩:ag),(⟨least,ak.e0⟩:ag)]:List ag)).length) (fun zi=>uf ((rows ++ ([(⟨cm,au⟩:ag),(⟨least,ak.e0⟩:ag)]:List ag)).getD zi ag.d)))]) 119 (pc o1 (pc o1 (pc (show cm.length≤cm.length from (a7 _)) (pc (show ∀ zi,zi < cm.length→(fun zi=>ai (cm.getD zi aa.d)) zi=(fun zi=>ai (cm.getD zi aa.d)) zi from (fun _ _=>rfl)) (pc (show least.length≤least.length from (a7 _)) (pc (show ∀ zi,zi < least.length→(fun zi=>ai (least.getD zi aa.d)) zi=(fun zi=>ai (least.getD zi aa.d)) zi from (fun _ _=>rfl)) (pc (Eq.refl cm.length) (pc (Eq.refl least.length) (pc (Eq.refl rows.length) (pc c7 (pc (z1 2) (pc (show ∀ zi,zi < 2→AV.fx ((fun zi=>([[(aD ai aa.d cm),(aB au.fN.fG),(eU au.fN.fL),(aB au.fD.fG),(eU au.fD.fL)],[(aD ai aa.d least),(aB ak.e0.fN.fG),(eU ak.e0.fN.fL),(aB ak.e0.fD.fG),(eU ak.e0.fD.fL)]]:List (List AV)).getD zi []) (a8 0 zi))=true from (om rfl)) (pc (show (rows.length+2)=(rows ++ ([(⟨cm,au⟩:ag),(⟨least,ak.e0⟩:ag)]:List ag)).length from (aw rfl rfl)) (pc (show rows.length+2=(rows ++ ([(⟨cm,au⟩:ag),(⟨least,ak.e0⟩:ag)]:List ag)).length from (aw rfl rfl)) (pc (show ∀ zi,zi < (rows ++ ([(⟨cm,au⟩:ag),(⟨least,ak.e0⟩:ag)]:List ag)).length→(fun zi=>uf ((rows ++ ([(⟨cm,au⟩:ag),(⟨least,ak.e0⟩:ag)]:List ag)).getD zi ag.d)) zi=((fun zm=>if zm < rows.length then (fun zi=>uf (rows.getD zi ag.d)) zm else (fun zi=>([[(aD ai aa.d cm),(aB au.fN.fG),(eU au.fN.fL),(aB au.fD.fG),(eU au.fD.fL)],[(aD ai aa.d least),(aB ak.e0.fN.fG),(eU ak.e0.fN.fL),(aB ak.e0.fD.fG),(eU ak.e0.fD.fL)]]:List (List AV)).getD zi []) (zm - rows.length))) zi from (bk uf ag.d rows ([(⟨cm,au⟩:ag),(⟨least,ak.e0⟩:ag)]:List ag) rfl (fun _ _=>rfl) (fun zq fb=>bE uf ag.d ([(⟨cm,au⟩:ag),(⟨least,ak.e0⟩:ag)]:List ag) zq fb))) pn))))))))))))))) ?_
   refine ae hE 1 [] [] (kp [0,4,5,6,7,53]) (kq [0,1,87]) 151 pn ?_
   refine ae hE 2 [] [] (kp [0,4,5,6,7,53,54]) (kq [0,1,87]) 167 pn ?_
   refine sA 1 [.code (dD 4050),.code (dD 4051),.inLoop (dD 1012),.inBlock 2,.code (dD 127)] ?_
   refine sC 54 (dD 8100) (dD 8101) true (fun _=>?_) (fun hq=>absurd hq (by decide)) 
   refine ae hE 4 [] [] (kp [0,4,5,6,7,11,53]) (kq [0,1,87]) 199 pn ?_
   obtain ⟨aK,AZ,h⟩:=aG h
   refine ae hE 1 [(4,oT (.agg (ai aK)))] [] (kp [0,4,5,6,7,11,12,13,53]) (kq [0,1,87,359,375]) 423 (pc (show 0≤(1:Int)∧(1:Int) < 3 by decide) (pc o1 (pc (show Sd 49 [(.agg [(aB false),.nil,(aB false),.nil]),(.agg (ai ak.e1))] [] 0 (.agg (ai aK)) [] from (Sound.conv (dB _ _ _ _ AZ) (.cons (Alike.agg (.cons (Alike.refl _) (.cons Alike.nil (.cons (Alike.refl _) (.cons Alike.nil .nil))))) (.cons (Alike.refl _) .nil)))) (pc (show 0≤(1:Int)∧(1:Int) < 3 by decide) (pc o1 (pc o1 (pc o1 pn))))))) ?_
   refine ae hE 2 [] [] (kp [0,4,5,6,7,11,12,13,53,66,67,68]) (kq [0,1,87,359,375]) 471 pn ?_
   exact b5 hE 2 [] (kp [0,4,5,6,7,11,12,13,53,66,67,68]) (kq [0,1] ++ [(2,.af 87),(3,.var 359 [.mU 4,.af,.af,.af,.af]),(4,.nil 4 (fun zi=>ai (([]:List aa).getD zi aa.d))),(5,.var 375 [.mU 6,.af,.af,.af,.af]),(6,.nil 4 (fun zi=>ai (([]:List aa).getD zi aa.d)))]) 7 pn (xO N _ _ _ _ _ _ _ N _ _ _ _ h E hE)
theorem xQ (N l ak fuel):yO N l ak (kC N l ak fuel):=by
 induction fuel with
 | zero=>intro _ _ r h;rw [kC.eq_1] at h;cases h
 | succ fuel ih =>
  intro rows x r h E hE
  rw [kC.eq_2] at h
  refine ae hE 1 [] [] (kp [0,4,5,6,7,26,27,28]) (kq [0,1,2]) 19 pn ?_
  refine ct 1 28 h (fun cR h=>?_) (fun cR h=>?_)
  ·refine ae hE 4 [] [] (kp [0,4,5,6,7,8,26,27]) (kq [0,1,2]) 51 pn ?_
   obtain ⟨c,h⟩:=ab h
   obtain ⟨dp,dg,h⟩:=aG h
   refine ae hE 1 [(2,oT (.agg (ai dp)))] [] (kp [0,4,5,6,7,8,9,10,26,27]) (kq [0,1,2] ++ [(67,.K8 67 ((List.replicate l.length aa.d:List aa).length) (fun zi=>ai ((List.replicate l.length aa.d:List aa).getD zi aa.d))),(131,.K8 131 ((List.replicate l.length aa.d:List aa).length) (fun zi=>ai ((List.replicate l.length aa.d:List aa).getD zi aa.d))),(163,.var 163 [.ja ((List.replicate l.length aa.d:List aa).length),.af,.af,.af,.af]),(179,.var 179 [.ja ((List.replicate l.length aa.d:List aa).length),.af,.sl (([]:List Int).length) (fun zi=>(cU .u16) (([]:List Int).getD zi 0)),.af,.sl (([]:List Int).length) (fun zi=>(cU .u16) (([]:List Int).getD zi 0))])]) 227 (pc (show 0≤((l.length:Nat):Int) from c.1) (pc (show ((l.length:Nat):Int)≤((l.length:Nat):Int) from (Int.le_refl _)) (pc (show (64:Int) * ((l.length:Nat):Int)≤281474976710656 from c.2.1) (pc (show ((l.length:Nat):Int)≤9223372036854775807 from c.2.2) (pc (cy _ _ _ dg) (pc (show 0≤((l.length:Nat):Int) from c.1) (pc (show ((l.length:Nat):Int)≤((l.length:Nat):Int) from (Int.le_refl _)) (pc (show (64:Int) * ((l.length:Nat):Int)≤281474976710656 from c.2.1) (pc (show ((l.length:Nat):Int)≤9223372036854775807 from c.2.2) (pc o1 (pc o1 (pc (show (List.replicate l.length aa.d:List aa).length≤l.length from (Nat.le_of_eq (Eq.symm ((eb).symm)))) (pc (show ∀ zi,zi < (List.replicate l.length aa.d:List aa).length→FN ((fun _=>[(aB false),.nil,(aB false),.nil]) zi) ((fun zi=>ai ((List.replicate l.length aa.d:List aa).getD zi aa.d)) zi) from (fun zq fb=>mI ai aa.d aa.d l.length zq ⟨.inl rfl,.inr ⟨rfl,_,rfl⟩,.inl rfl,.inr ⟨rfl,_,rfl⟩,trivial⟩ fb)) (pc (show (List.replicate l.length aa.d:List aa).length≤l.length from (Nat.le_of_eq (Eq.symm ((eb).symm)))) (pc (show ∀ zi,zi < (List.replicate l.length aa.d:List aa).length→FN ((fun _=>[(aB false),.nil,(aB false),.nil]) zi) ((fun zi=>ai ((List.replicate l.length aa.d:List aa).getD zi aa.d)) zi) from (fun zq fb=>mI ai aa.d aa.d l.length zq ⟨.inl rfl,.inr ⟨rfl,_,rfl⟩,.inl rfl,.inr ⟨rfl,_,rfl⟩,trivial⟩ fb)) (pc (show l.length=(List.replicate l.length aa.d:List aa).length from (eb).symm) (pc (show l.length=(List.replicate l.length aa.d:List aa).length from (eb).symm) (pc (Eq.refl 0) (pc (Eq.refl 0) pn))))))))))))))))))) ?_
   obtain ⟨cD,gR,h⟩:=aG h
   obtain ⟨cE,kE,h⟩:=aG h
   obtain ⟨c2,h⟩:=ab h
   refine ae hE 1 [(6,oT (.agg (ai cD))),(7,oT (.agg (ai cE)))] [] (kp [0,4,5,6,7,9,10,26,27]) (kq [0,1,2] ++ [(67,.arr 67 (((List.replicate l.length aa.d:List aa).set ((x).toNat) cD).length) (fun zi=>ai (((List.replicate l.length aa.d:List aa).set ((x).toNat) cD).getD zi aa.d))),(131,.arr 131 (((List.replicate l.length aa.d:List aa).set ((x).toNat) cE).length) (fun zi=>ai (((List.replicate l.length aa.d:List aa).set ((x).toNat) cE).getD zi aa.d))),(163,.var 163 [.ja (((List.replicate l.length aa.d:List aa).set ((x).toNat) cD).length),.af,.af,.af,.af]),(179,.var 179 [.ja (((List.replicate l.length aa.d:List aa).set ((x).toNat) cE).length),.af,.af,.af,.af])]) 419 (pc o1 (pc o1 (pc (cy _ _ _ gR) (pc (cy _ _ _ kE) (pc c2 (pc (cM c2) (pc c2 (pc (cM c2) (pc (ay (List.replicate l.length aa.d:List aa) ((x).toNat) cD) (pc (bS ai aa.d (List.replicate l.length aa.d:List aa) ((x).toNat) cD) (pc (ay (List.replicate l.length aa.d:List aa) ((x).toNat) cE) (pc (bS ai aa.d (List.replicate l.length aa.d:List aa) ((x).toNat) cE) (pc (ay (List.replicate l.length aa.d:List aa) ((x).toNat) cD) (pc (ay (List.replicate l.length aa.d:List aa) ((x).toNat) cE) pn)))))))))))))) ?_
   obtain ⟨c3,h⟩:=ab h
   refine ae hE 0 [(3,⟨[],true,.k6,[(67,aO 4 ai aa.d ((List.replicate l.length aa.d:List aa).set ((x).toNat) cD)),(131,aO 4 ai aa.d ((List.replicate l.length aa.d:List aa).set ((x).toNat) cE))],0,true,none⟩)] [] (kp [0,4,5,6] ++ [(7,.ja ((rows ++ ([(⟨((List.replicate l.length aa.d:List aa).set ((x).toNat) cD),dp⟩:ag),(⟨((List.replicate l.length aa.d:List aa).set ((x).toNat) cE),(⟨(⟨false,([]:List Int)⟩:bd),(⟨false,([]:List Int)⟩:bd)⟩:aa)⟩:ag)]:List ag)).length))] ++ kp [26,27]) (kq [0,1] ++ [(483,.arr 483 ((rows ++ ([(⟨((List.replicate l.length aa.d:List aa).set ((x).toNat) cD),dp⟩:ag),(⟨((List.replicate l.length aa.d:List aa).set ((x).toNat) cE),(⟨(⟨false,([]:List Int)⟩:bd),(⟨false,([]:List Int)⟩:bd)⟩:aa)⟩:ag)]:List ag)).length) (fun zi=>uf ((rows ++ ([(⟨((List.replicate l.length aa.d:List aa).set ((x).toNat) cD),dp⟩:ag),(⟨((List.replicate l.length aa.d:List aa).set ((x).toNat) cE),(⟨(⟨false,([]:List Int)⟩:bd),(⟨false,([]:List Int)⟩:bd)⟩:aa)⟩:ag)]:List ag)).getD zi ag.d)))]) 515 (pc o1 (pc o1 (pc (show ((List.replicate l.length aa.d:List aa).set ((x).toNat) cD).length≤((List.replicate l.length aa.d:List aa).set ((x).toNat) cD).length from (a7 _)) (pc (show ∀ zi,zi < ((List.replicate l.length aa.d:List aa).set ((x).toNat) cD).length→(fun zi=>ai (((List.replicate l.length aa.d:List aa).set ((x).toNat) cD).getD zi aa.d)) zi=(fun zi=>ai (((List.replicate l.length aa.d:List aa).set ((x).toNat) cD).getD zi aa.d)) zi from (fun _ _=>rfl)) (pc (show ((List.replicate l.length aa.d:List aa).set ((x).toNat) cE).length≤((List.replicate l.length aa.d:List aa).set ((x).toNat) cE).length from (a7 _)) (pc (show ∀ zi,zi < ((List.replicate l.length aa.d:List aa).set ((x).toNat) cE).length→(fun zi=>ai (((List.replicate l.length aa.d:List aa).set ((x).toNat) cE).getD zi aa.d)) zi=(fun zi=>ai (((List.replicate l.length aa.d:List aa).set ((x).toNat) cE).getD zi aa.d)) zi from (fun _ _=>rfl)) (pc (Eq.refl (((List.replicate l.length aa.d:List aa).set ((x).toNat) cD).length)) (pc (Eq.refl (((List.replicate l.length aa.d:List aa).set ((x).toNat) cE).length)) (pc (Eq.refl rows.length) (pc c3 (pc (z1 2) (pc (show ∀ zi,zi < 2→AV.fx ((fun zi=>([[(aD ai aa.d ((List.replicate l.length aa.d:List aa).set ((x).toNat) cD)),(aB dp.fN.fG),(eU dp.fN.fL),(aB dp.fD.fG),(eU dp.fD.fL)],[(aD ai aa.d ((List.replicate l.length aa.d:List aa).set ((x).toNat) cE)),(aB false),(eU ([]:List Int)),(aB false),(eU ([]:List Int))]]:List (List AV)).getD zi []) (a8 0 zi))=true from (om rfl)) (pc (show (rows.length+2)=(rows ++ ([(⟨((List.replicate l.length aa.d:List aa).set ((x).toNat) cD),dp⟩:ag),(⟨((List.replicate l.length aa.d:List aa).set ((x).toNat) cE),(⟨(⟨false,([]:List Int)⟩:bd),(⟨false,([]:List Int)⟩:bd)⟩:aa)⟩:ag)]:List ag)).length from (aw rfl rfl)) (pc (show rows.length+2=(rows ++ ([(⟨((List.replicate l.length aa.d:List aa).set ((x).toNat) cD),dp⟩:ag),(⟨((List.replicate l.length aa.d:List aa).set ((x).toNat) cE),(⟨(⟨false,([]:List Int)⟩:bd),(⟨false,([]:List Int)⟩:bd)⟩:aa)⟩:ag)]:List ag)).length from (aw rfl rfl)) (pc (show ∀ zi,zi < (rows ++ ([(⟨((List.replicate l.length aa.d:List aa).set ((x).toNat) cD),dp⟩:ag),(⟨((List.replicate l.length aa.d:List aa).set ((x).toNat) cE),(⟨(⟨false,([]:List Int)⟩:bd),(⟨false,([]:List Int)⟩:bd)⟩:aa)⟩:ag)]:List ag)).length→(fun zi=>uf ((rows ++ ([(⟨((List.replicate l.length aa.d:List aa).set ((x).toNat) cD),dp⟩:ag),(⟨((List.replicate l.length aa.d:List aa).set ((x).toNat) cE),(⟨(⟨false,([]:List Int)⟩:bd),(⟨false,([]:List Int)⟩:bd)⟩:aa)⟩:ag)]:List ag)).getD zi ag.d)) zi=((fun zm=>if zm < rows.length then (fun zi=>uf (rows.getD zi ag.d)) zm else (fun zi=>([[(aD ai aa.d ((List.replicate l.length aa.d:List aa).set ((x).toNat) cD)),(aB dp.fN.fG),(eU dp.fN.fL),(aB dp.fD.fG),(eU dp.fD.fL)],[(aD ai aa.d ((List.replicate l.length aa.d:List aa).set ((x).toNat) cE)),(aB false),(eU ([]:List Int)),(aB false),(eU ([]:List Int))]]:List (List AV)).getD zi []) (zm - rows.length))) zi from (bk uf ag.d rows ([(⟨((List.replicate l.length aa.d:List aa).set ((x).toNat) cD),dp⟩:ag),(⟨((List.replicate l.length aa.d:List aa).set ((x).toNat) cE),(⟨(⟨false,([]:List Int)⟩:bd),(⟨false,([]:List Int)⟩:bd)⟩:aa)⟩:ag)]:List ag) rfl (fun _ _=>rfl) (fun zq fb=>bE uf ag.d ([(⟨((List.replicate l.length aa.d:List aa).set ((x).toNat) cD),dp⟩:ag),(⟨((List.replicate l.length aa.d:List aa).set ((x).toNat) cE),(⟨(⟨false,([]:List Int)⟩:bd),(⟨false,([]:List Int)⟩:bd)⟩:aa)⟩:ag)]:List ag) zq fb))) pn))))))))))))))) ?_
   refine ae hE 1 [] [] (kp [0,4,5,6,7,26,27]) (kq [0,1,483]) 547 pn ?_
   exact b5 hE 1 [] (kp [0,4,5,6,7,26,27]) (kq [0,1] ++ [(2,.af 483)]) 3 pn (ih _ _ _ h E hE)
  ·refine ae hE 3 [] [] (kp [0,4,5,6,7,53]) (kq [0,1,2]) 35 pn ?_
   refine ae hE 3 [] [] (kp [0,4,5,6,7,53,54]) (kq [0,1,2]) 51 pn ?_
   refine sA 1 [.code (dD 4050),.code (dD 4051),.inLoop (dD 1012),.inBlock 2,.code (dD 127)] ?_
   refine sC 54 (dD 8100) (dD 8101) true (fun _=>?_) (fun hq=>absurd hq (by decide)) 
   refine ae hE 4 [] [] (kp [0,4,5,6,7,11,53]) (kq [0,1,2]) 83 pn ?_
   obtain ⟨au,n5,h⟩:=aG h
   refine ae hE 1 [(4,oT (.agg (ai au)))] [] (kp [0,4,5,6,7,11,12,13,53]) (kq [0,1,2,243,259]) 307 (pc (show 0≤(0:Int)∧(0:Int) < 3 by decide) (pc o1 (pc (show Sd 49 [(.agg [(aB false),.nil,(aB false),.nil]),(.agg (ai ak.e0))] [] 0 (.agg (ai au)) [] from (Sound.conv (dB _ _ _ _ n5) (.cons (Alike.agg (.cons (Alike.refl _) (.cons Alike.nil (.cons (Alike.refl _) (.cons Alike.nil .nil))))) (.cons (Alike.refl _) .nil)))) (pc (show 0≤(0:Int)∧(0:Int) < 3 by decide) (pc o1 (pc o1 (pc o1 pn))))))) ?_
   refine ae hE 2 [] [] (kp [0,4,5,6,7,11,12,13,53,66,67,68]) (kq [0,1,2,243,259]) 355 pn ?_
   exact b5 hE 2 [] (kp [0,4,5,6,7,11,12,13,53,66,67,68]) (kq [0,1,2] ++ [(3,.var 243 [.mU 4,.af,.af,.af,.af]),(4,.nil 4 (fun zi=>ai (([]:List aa).getD zi aa.d))),(5,.var 259 [.mU 6,.af,.af,.af,.af]),(6,.nil 4 (fun zi=>ai (([]:List aa).getD zi aa.d)))]) 7 pn (xP N _ _ _ _ N _ _ _ _ h E hE)
theorem Bf (N l w r) (h:tD N l w=some r):Sd 22 [(aD ao.cells ao.d l),(.agg (dE.cells w))] [] 0 (.agg (aN.cells r)) []:=by
 unfold tD at h
 refine eL (fu:=Tryz.f22) (c:=dD 1) (nt:=137) (fun hm=>rfl) ?_
 intro E hE
 refine ae hE 1 [] [] (kp [0,3,4]) (kq [0,16]) 32 pn ?_
 refine ae hE 1 [] [] (kp [0,3,4,5]) (kq [0,16]) 80 pn ?_
 obtain ⟨ak,hr,h⟩:=aG h
 refine ae hE 1 [(1,oT (.agg (aq.cells ak)))] [] (kp [0,4,5,6]) (kq [16,112]) 144 (pc o1 (pc (n6 _ _ _ hr) (pc o1 pn))) ?_
 refine ae hE 1 [] [] (kp [0,4,5,6,7]) (kq [16,112]) 160 pn ?_
 refine ae hE 2 [] [] (kp [0,4,5,6,7,26,27]) (kq [16,112]) 192 pn ?_
 exact b5 hE 2 [] (kp [0,4,5,6] ++ [(7,.mU 2)] ++ kp [26,27]) [(0,.af 16),(1,.af 112),(2,.nil 5 (fun zi=>uf (([]:List ag).getD zi ag.d)))] 3 pn (xQ N _ _ N _ _ _ h E hE)
noncomputable abbrev Ns:=bu Tryz.f23
def Bg (N:Nat) (s:ByteArray) (K:Int→Option (Bool)):Prop:=∀ (i:Int) (r:Bool),K i=some r→∀ E,a3 E 0→az Tryz.prog E 23 55 (aQ E [] (aB r)) [.code (Ns 116),.inLoop (Ns 116),.inBlock 0,.code (Ns 15)] ⟨[(0,(aS s)),(3,(aI i))],[],0⟩
theorem z8 (N s fuel):Bg N s (mf N s fuel):=by
 induction fuel with
 | zero=>intro _ r h;rw [mf.eq_1] at h;cases h
 | succ fuel ih =>
  intro i r h E hE
  rw [mf.eq_2] at h
  refine ae hE 2 [] [] (kp [0,3,17]) [] 64 pn ?_
  refine ct 0 17 h (fun gB h=>?_) (fun gB h=>?_)
  ·obtain ⟨c,h⟩:=ab h
   refine ae hE 4 [] [] (kp [0,3,4]) [] 128 (pc c pn) ?_
   refine ae hE 1 [] [] (kp [0,3,4,5]) [] 368 (pc (fun hg:(decide ((zA s i)≥97))=true=>(pc hg pn)) (pc (fun hq:(decide ((zA s i)≥97))=true=>(pc hq pn)) (pc (fun hg:(!(cond (decide ((zA s i)≥97)) (decide ((zA s i)≤122)) false))=true=>(pc hg pn)) (pc (fun hg:((!(cond (decide ((zA s i)≥97)) (decide ((zA s i)≤122)) false)) && ((!(cond (decide ((zA s i)≥97)) (decide ((zA s i)≤122)) false)) && (decide ((zA s i)≥65))))=true=>(pc hg pn)) (pc (fun hg:(!(cond (decide ((zA s i)≥97)) (decide ((zA s i)≤122)) false))=true=>(pc hg (pc hg (pc (fun hq:(decide ((zA s i)≥65))=true=>(pc (show ((!(cond (decide ((zA s i)≥97)) (decide ((zA s i)≤122)) false)) && ((!(cond (decide ((zA s i)≥97)) (decide ((zA s i)≤122)) false)) && (decide ((zA s i)≥65))))=true from (jR hg (jR hg hq))) pn)) pn)))) (pc (fun hq:(!(cond (decide ((zA s i)≥97)) (decide ((zA s i)≤122)) false))=true=>(pc hq pn)) pn)))))) ?_
   refine ae hE 1 [] [] (kp [0,3,54]) [] 656 (pc (fun hg:(!(cond (cond (decide ((zA s i)≥97)) (decide ((zA s i)≤122)) false) true (cond (decide ((zA s i)≥65)) (decide ((zA s i)≤90)) false)))=true=>(pc hg pn)) (pc (fun hg:((!(cond (cond (decide ((zA s i)≥97)) (decide ((zA s i)≤122)) false) true (cond (decide ((zA s i)≥65)) (decide ((zA s i)≤90)) false))) && ((!(cond (cond (decide ((zA s i)≥97)) (decide ((zA s i)≤122)) false) true (cond (decide ((zA s i)≥65)) (decide ((zA s i)≤90)) false))) && (!(i == 0))))=true=>(pc hg pn)) (pc (fun hg:(((!(cond (cond (decide ((zA s i)≥97)) (decide ((zA s i)≤122)) false) true (cond (decide ((zA s i)≥65)) (decide ((zA s i)≤90)) false))) && ((!(cond (cond (decide ((zA s i)≥97)) (decide ((zA s i)≤122)) false) true (cond (decide ((zA s i)≥65)) (decide ((zA s i)≤90)) false))) && (!(i == 0)))) && (((!(cond (cond (decide ((zA s i)≥97)) (decide ((zA s i)≤122)) false) true (cond (decide ((zA s i)≥65)) (decide ((zA s i)≤90)) false))) && ((!(cond (cond (decide ((zA s i)≥97)) (decide ((zA s i)≤122)) false) true (cond (decide ((zA s i)≥65)) (decide ((zA s i)≤90)) false))) && (!(i == 0)))) && ((zA s i) != 45)))=true=>(pc hg pn)) (pc (fun hg:((((!(cond (cond (decide ((zA s i)≥97)) (decide ((zA s i)≤122)) false) true (cond (decide ((zA s i)≥65)) (decide ((zA s i)≤90)) false))) && ((!(cond (cond (decide ((zA s i)≥97)) (decide ((zA s i)≤122)) false) true (cond (decide ((zA s i)≥65)) (decide ((zA s i)≤90)) false))) && (!(i == 0)))) && (((!(cond (cond (decide ((zA s i)≥97)) (decide ((zA s i)≤122)) false) true (cond (decide ((zA s i)≥65)) (decide ((zA s i)≤90)) false))) && ((!(cond (cond (decide ((zA s i)≥97)) (decide ((zA s i)≤122)) false) true (cond (decide ((zA s i)≥65)) (decide ((zA s i)≤90)) false))) && (!(i == 0)))) && ((zA s i) != 45))) && ((((!(cond (cond (decide ((zA s i)≥97)) (decide ((zA s i)≤122)) false) true (cond (decide ((zA s i)≥65)) (decide ((zA s i)≤90)) false))) && ((!(cond (cond (decide ((zA s i)≥97)) (decide ((zA s i)≤122)) false) true (cond (decide ((zA s i)≥65)) (decide ((zA s i)≤90)) false))) && (!(i == 0)))) && (((!(cond (cond (decide ((zA s i)≥97)) (decide ((zA s i)≤122)) false) true (cond (decide ((zA s i)≥65)) (decide ((zA s i)≤90)) false))) && ((!(cond (cond (decide ((zA s i)≥97)) (decide ((zA s i)≤122)) false) true (cond (decide ((zA s i)≥65)) (decide ((zA s i)≤90)) false))) && (!(i == 0)))) && ((zA s i) != 45))) && (!(decide ((zA s i) < 48)))))=true=>(pc hg pn)) (pc (fun hg:(((!(cond (cond (decide ((zA s i)≥97)) (decide ((zA s i)≤122)) false) true (cond (decide ((zA s i)≥65)) (decide ((zA s i)≤90)) false))) && ((!(cond (cond (decide ((zA s i)≥97)) (decide ((zA s i)≤122)) false) true (cond (decide ((zA s i)≥65)) (decide ((zA s i)≤90)) false))) && (!(i == 0)))) && (((!(cond (cond (decide ((zA s i)≥97)) (decide ((zA s i)≤122)) false) true (cond (decide ((zA s i)≥65)) (decide ((zA s i)≤90)) false))) && ((!(cond (cond (decide ((zA s i)≥97)) (decide ((zA s i)≤122)) false) true (cond (decide ((zA s i)≥65)) (decide ((zA s i)≤90)) false))) && (!(i == 0)))) && ((zA s i) != 45)))=true=>(pc hg (pc hg (pc (fun hq:(!(decide ((zA s i) < 48)))=true=>(pc (show ((((!(cond (cond (decide ((zA s i)≥97)) (decide ((zA s i)≤122)) false) true (cond (decide ((zA s i)≥65)) (decide ((zA s i)≤90)) false))) && ((!(cond (cond (decide ((zA s i)≥97)) (decide ((zA s i)≤122)) false) true (cond (decide ((zA s i)≥65)) (decide ((zA s i)≤90)) false))) && (!(i == 0)))) && (((!(cond (cond (decide ((zA s i)≥97)) (decide ((zA s i)≤122)) false) true (cond (decide ((zA s i)≥65)) (decide ((zA s i)≤90)) false))) && ((!(cond (cond (decide ((zA s i)≥97)) (decide ((zA s i)≤122)) false) true (cond (decide ((zA s i)≥65)) (decide ((zA s i)≤90)) false))) && (!(i == 0)))) && ((zA s i) != 45))) && ((((!(cond (cond (decide ((zA s i)≥97)) (decide ((zA s i)≤122)) false) true (cond (decide ((zA s i)≥65)) (decide ((zA s i)≤90)) false))) && ((!(cond (cond (decide ((zA s i)≥97)) (decide ((zA s i)≤122)) false) true (cond (decide ((zA s i)≥65)) (decide ((zA s i)≤90)) false))) && (!(i == 0)))) && (((!(cond (cond (decide ((zA s i)≥97)) (decide ((zA s i)≤122)) false) true (cond (decide ((zA s i)≥65)) (decide ((zA s i)≤90)) false))) && ((!(cond (cond (decide ((zA s i)≥97)) (decide ((zA s i)≤122)) false) true (cond (decide ((zA s i)≥65)) (decide ((zA s i)≤90)) false))) && (!(i == 0)))) && ((zA s i) != 45))) && (!(decide ((zA s i) < 48)))))=true from (jR hg (jR hg hq))) pn)) pn)))) (pc (fun hg:((!(cond (cond (decide ((zA s i)≥97)) (decide ((zA s i)≤122)) false) true (cond (decide ((zA s i)≥65)) (decide ((zA s i)≤90)) false))) && ((!(cond (cond (decide ((zA s i)≥97)) (decide ((zA s i)≤122)) false) true (cond (decide ((zA s i)≥65)) (decide ((zA s i)≤90)) false))) && (!(i == 0))))=true=>(pc hg (pc hg (pc (fun hq:((zA s i) != 45)=true=>(pc (show (((!(cond (cond (decide ((zA s i)≥97)) (decide ((zA s i)≤122)) false) true (cond (decide ((zA s i)≥65)) (decide ((zA s i)≤90)) false))) && ((!(cond (cond (decide ((zA s i)≥97)) (decide ((zA s i)≤122)) false) true (cond (decide ((zA s i)≥65)) (decide ((zA s i)≤90)) false))) && (!(i == 0)))) && (((!(cond (cond (decide ((zA s i)≥97)) (decide ((zA s i)≤122)) false) true (cond (decide ((zA s i)≥65)) (decide ((zA s i)≤90)) false))) && ((!(cond (cond (decide ((zA s i)≥97)) (decide ((zA s i)≤122)) false) true (cond (decide ((zA s i)≥65)) (decide ((zA s i)≤90)) false))) && (!(i == 0)))) && ((zA s i) != 45)))=true from (jR hg (jR hg hq))) pn)) pn)))) (pc (fun hg:(!(cond (cond (decide ((zA s i)≥97)) (decide ((zA s i)≤122)) false) true (cond (decide ((zA s i)≥65)) (decide ((zA s i)≤90)) false)))=true=>(pc hg (pc hg (pc (fun hq:(!(i == 0))=true=>(pc (show ((!(cond (cond (decide ((zA s i)≥97)) (decide ((zA s i)≤122)) false) true (cond (decide ((zA s i)≥65)) (decide ((zA s i)≤90)) false))) && ((!(cond (cond (decide ((zA s i)≥97)) (decide ((zA s i)≤122)) false) true (cond (decide ((zA s i)≥65)) (decide ((zA s i)≤90)) false))) && (!(i == 0))))=true from (jR hg (jR hg hq))) pn)) pn)))) (pc (fun hq:(!(cond (cond (decide ((zA s i)≥97)) (decide ((zA s i)≤122)) false) true (cond (decide ((zA s i)≥65)) (decide ((zA s i)≤90)) false)))=true=>(pc hq pn)) pn)))))))) ?_
   refine ct 0 54 h (fun qp h=>?_) (fun qp h=>?_)
   ·refine ae hE 1 [] [] (kp [2]) [] 672 pn ?_
    obtain rfl:=bQ h
    exact bV hE 0 Tryz.f23 [] (kp [2]) [] 672 pn [] pn
   ·refine ae hE 2 [] [] (kp [0,3]) [] 704 pn ?_
    exact b5 hE 1 [] (kp [0,3]) [] 0 pn (ih _ _ h E hE)
  ·refine ae hE 2 [] [] (kp [2]) [] 80 pn ?_
   obtain rfl:=bQ h
   exact bV hE 0 Tryz.f23 [] (kp [2]) [] 80 pn [] pn
theorem DH (N s r) (h:xB N s=some r):Sd 23 [(aS s)] [] 0 (aB r) []:=by
 unfold xB at h
 refine eL (fu:=Tryz.f23) (c:=Ns 1) (nt:=55) (fun hm=>rfl) ?_
 intro E hE
 refine ae hE 1 [] [] (kp [0]) [] 16 pn ?_
 refine ae hE 2 [] [] (kp [0,13]) [] 144 (pc (fun hg:(!(decide (((s.size:Nat):Int) < 1)))=true=>(pc hg pn)) (pc (fun hg:(!(decide (((s.size:Nat):Int) < 1)))=true=>(pc hg pn)) (pc (fun hq:(!(decide (((s.size:Nat):Int) < 1)))=true=>(pc hq pn)) pn))) ?_
 refine ct 0 13 h (fun cR h=>?_) (fun cR h=>?_)
 ·refine ae hE 1 [] [] (kp [2]) [] 160 pn ?_
  obtain rfl:=bQ h
  exact bV hE 0 Tryz.f23 [] (kp [2]) [] 160 pn [] pn
 ·refine ae hE 3 [] [] (kp [0,3]) [] 160 pn ?_
  exact b5 hE 2 [] (kp [0,3]) [] 0 pn (z8 N _ N _ _ h E hE)
noncomputable abbrev TW:=bu Tryz.f25
theorem e7 (N n low high r) (h:fP N n low high=some r):Sd 25 [(aI n),(aI low),(aI high)] [] 0 (aB r) []:=by
 unfold fP at h
 refine eL (fu:=Tryz.f25) (c:=TW 1) (nt:=15) (fun hm=>rfl) ?_
 intro E hE
 refine ae hE 1 [] [] (kp [0,1,2]) [] 16 pn ?_
 refine ae hE 1 [] [] (kp [6]) [] 160 (pc (fun hg:(decide (n≥low))=true=>(pc hg (pc hg pn))) (pc (fun hq:(decide (n≥low))=true=>(pc hq pn)) pn)) ?_
 obtain rfl:=bQ h
 exact bV hE 0 Tryz.f25 [] (kp [6]) [] 160 pn [] pn
noncomputable abbrev TX:=bu Tryz.f24
theorem xR (N l r) (h:oL N l=some r):Sd 24 [(.agg (ao.cells l))] [] 0 (aI r) []:=by
 unfold oL at h
 refine eL (fu:=Tryz.f24) (c:=TX 1) (nt:=43) (fun hm=>rfl) ?_
 intro E hE
 refine ae hE 1 [] [] (kp [1]) (kq [0]) 32 pn ?_
 obtain ⟨uF,hr,h⟩:=aG h
 obtain ⟨n4,dg,h⟩:=aG h
 obtain ⟨vz,gR,h⟩:=aG h
 obtain ⟨GF,kE,h⟩:=aG h
 obtain ⟨Pu,n5,h⟩:=aG h
 refine ae hE 2 [(2,oT (aB uF)),(7,oT (aB n4)),(13,oT (aB vz)),(19,oT (aB GF)),(25,oT (aB Pu))] [] (kp [1,30]) (kq [0]) 480 (pc o1 (pc (e7 _ _ _ _ _ hr) (pc (fun hg:(!(!uF))=true=>(pc hg (pc o1 pn))) (pc (fun hg:(!(!uF))=true=>(pc (e7 _ _ _ _ _ (er dg hg)) (pc hg pn))) (pc (fun hg:(!(!uF))=true=>(pc hg pn)) (pc (fun hq:(!(!uF))=true=>(pc hq pn)) (pc (fun hg:(!(cond (!uF) true (!n4)))=true=>(pc hg (pc o1 pn))) (pc (fun hg:(!(cond (!uF) true (!n4)))=true=>(pc (e7 _ _ _ _ _ (er gR hg)) (pc hg pn))) (pc (fun hg:(!(cond (!uF) true (!n4)))=true=>(pc hg pn)) (pc (fun hq:(!(cond (!uF) true (!n4)))=true=>(pc hq pn)) (pc (fun hg:(!(cond (cond (!uF) true (!n4)) true (!vz)))=true=>(pc hg (pc o1 pn))) (pc (fun hg:(!(cond (cond (!uF) true (!n4)) true (!vz)))=true=>(pc (e7 _ _ _ _ _ (er kE hg)) (pc hg pn))) (pc (fun hg:(!(cond (cond (!uF) true (!n4)) true (!vz)))=true=>(pc hg pn)) (pc (fun hq:(!(cond (cond (!uF) true (!n4)) true (!vz)))=true=>(pc hq pn)) (pc (fun hg:(!(cond (cond (cond (!uF) true (!n4)) true (!vz)) true (!GF)))=true=>(pc hg (pc o1 pn))) (pc (fun hg:(!(cond (cond (cond (!uF) true (!n4)) true (!vz)) true (!GF)))=true=>(pc (e7 _ _ _ _ _ (er n5 hg)) (pc hg pn))) (pc (fun hg:(!(cond (cond (cond (!uF) true (!n4)) true (!vz)) true (!GF)))=true=>(pc hg pn)) (pc (fun hq:(!(cond (cond (cond (!uF) true (!n4)) true (!vz)) true (!GF)))=true=>(pc hq pn)) pn)))))))))))))))))) ?_
 refine ct 0 30 h (fun cR h=>?_) (fun cR h=>?_)
 ·refine ae hE 1 [] [] (kp [2]) [] 496 pn ?_
  obtain rfl:=bQ h
  exact bV hE 0 Tryz.f24 [] (kp [2]) [] 496 pn [] pn
 ·refine ae hE 3 [] [] (kp [42]) [] 672 (pc o1 (pc o1 (pc (fun hg:(l.q7 == l.iJ)=true=>(pc hg (pc o1 pn))) (pc (fun hg:(l.q7 == l.iJ)=true=>(pc hg (pc o1 pn))) (pc (fun hg:(l.q7 == l.iJ)=true=>(pc hg (pc hg pn))) (pc (fun hq:(l.q7 == l.iJ)=true=>(pc hq pn)) pn)))))) ?_
  refine ct 0 42 h (fun gB h=>?_) (fun gB h=>?_)
  ·refine ae hE 1 [] [] (kp [2]) [] 688 pn ?_
   obtain rfl:=bQ h
   exact bV hE 0 Tryz.f24 [] (kp [2]) [] 688 pn [] pn
  ·refine ae hE 2 [] [] (kp [2]) [] 688 pn ?_
   obtain rfl:=bQ h
   exact bV hE 0 Tryz.f24 [] (kp [2]) [] 688 pn [] pn
noncomputable abbrev DI:=bu Tryz.f9
def nQ (N:Nat) (l:List ao) (K:Int→Option (Int)):Prop:=∀ (i:Int) (r:Int),K i=some r→∀ E,a3 E 0→az Tryz.prog E 9 46 (aQ E [] (aI r)) [.code (DI 116),.inLoop (DI 116),.inBlock 0,.code (DI 15)] ⟨[(0,(aD ao.cells ao.d l)),(3,(aI i))],[],0⟩
def uN (N:Nat) (l:List ao) (i:Int) (K:Int→Option (Int)):Prop:=∀ (k:Int) (r:Int),K k=some r→∀ E,a3 E 0→az Tryz.prog E 9 46 (aQ E [] (aI r)) [.code (DI 29844),.inLoop (DI 29844),.inBlock 2,.code (DI 3731),.inBlock 1,.code (DI 467),.inLoop (DI 116),.inBlock 0,.code (DI 15)] ⟨[(0,(aD ao.cells ao.d l)),(3,(aI i)),(4,(aI k))],[],0⟩
theorem tT (N:Nat) (l:List ao) (i:Int) (fq:Int→Option (Int)) (tU:nQ N l fq) (fuel:Nat):uN N l i (gD N l i fq fuel):=by
 induction fuel with
 | zero=>intro _ r h;rw [gD.eq_1] at h;cases h
 | succ fuel ih =>
  intro k r h E hE
  rw [gD.eq_2] at h
  refine ae hE 2 [] [] (kp [0,3,4,24]) [] 48 pn ?_
  refine ct 0 24 h (fun zW h=>?_) (fun zW h=>?_)
  ·obtain ⟨c2,h⟩:=ab h
   obtain ⟨c3,h⟩:=ab h
   refine ae hE 4 [] [] (kp [0,3,4,37]) [] 224 (pc c2 (pc c3 pn)) ?_
   refine ct 0 37 h (fun Fk h=>?_) (fun Fk h=>?_)
   ·refine ae hE 1 [] [] (kp [2]) [] 240 pn ?_
    obtain rfl:=bQ h
    exact bV hE 0 Tryz.f9 [] (kp [2]) [] 240 pn [] pn
   ·refine ae hE 2 [] [] (kp [0,3,4]) [] 272 pn ?_
    exact b5 hE 1 [] (kp [0,3,4]) [] 0 pn (ih _ _ h E hE)
  ·obtain ⟨c4,h⟩:=ab h
   obtain ⟨j4,dg,h⟩:=aG h
   refine ae hE 2 [(4,oT (aI j4))] [] (kp [0,3,5]) [] 144 (pc c4 (pc (xR _ _ _ dg) pn)) ?_
   refine ae hE 1 [] [] (kp [0,3,5,44]) [] 176 pn ?_
   refine ct 0 44 h (fun Nk h=>?_) (fun Nk h=>?_)
   ·refine ae hE 1 [] [] (kp [2]) [] 208 pn ?_
    obtain rfl:=bQ h
    exact bV hE 0 Tryz.f9 [] (kp [2]) [] 208 pn [] pn
   ·refine ae hE 2 [] [] (kp [0,3]) [] 224 pn ?_
    exact b5 hE 1 [] (kp [0,3]) [] 0 pn (tU _ _ h E hE)
theorem tV (N l fuel):nQ N l (gF N l fuel):=by
 induction fuel with
 | zero=>intro _ r h;rw [gF.eq_1] at h;cases h
 | succ fuel ih =>
  intro i r h E hE
  rw [gF.eq_2] at h
  refine ae hE 2 [] [] (kp [0,3,12]) [] 64 pn ?_
  refine ct 0 12 h (fun gB h=>?_) (fun gB h=>?_)
  ·obtain ⟨c,h⟩:=ab h
   obtain ⟨Fg,hr,h⟩:=aG h
   refine ae hE 5 [(5,oT (aB Fg))] [] (kp [0,3,21]) [] 176 (pc c (pc (DH _ _ _ hr) pn)) ?_
   refine ct 0 21 h (fun qp h=>?_) (fun qp h=>?_)
   ·refine ae hE 1 [] [] (kp [2]) [] 192 pn ?_
    obtain rfl:=bQ h
    exact bV hE 0 Tryz.f9 [] (kp [2]) [] 192 pn [] pn
   ·refine ae hE 3 [] [] (kp [0,3,4]) [] 192 pn ?_
    exact b5 hE 2 [] (kp [0,3,4]) [] 0 pn (tT N _ _ _ ih N _ _ h E hE)
  ·refine ae hE 2 [] [] (kp [2]) [] 80 pn ?_
   obtain rfl:=bQ h
   exact bV hE 0 Tryz.f9 [] (kp [2]) [] 80 pn [] pn
theorem o6 (N l r) (h:lK N l=some r):Sd 9 [(aD ao.cells ao.d l)] [] 0 (aI r) []:=by
 unfold lK at h
 refine eL (fu:=Tryz.f9) (c:=DI 1) (nt:=46) (fun hm=>rfl) ?_
 intro E hE
 refine ae hE 1 [] [] (kp [0]) [] 16 pn ?_
 refine ae hE 2 [] [] (kp [0,8]) [] 64 pn ?_
 refine ct 0 8 h (fun cR h=>?_) (fun cR h=>?_)
 ·refine ae hE 1 [] [] (kp [2]) [] 80 pn ?_
  obtain rfl:=bQ h
  exact bV hE 0 Tryz.f9 [] (kp [2]) [] 80 pn [] pn
 ·refine ae hE 3 [] [] (kp [0,3]) [] 80 pn ?_
  exact b5 hE 2 [] (kp [0,3]) [] 0 pn (tV N _ N _ _ h E hE)
noncomputable abbrev TY:=bu Tryz.f10
theorem qC (N w r) (h:mw N w=some r):Sd 10 [(.agg (dE.cells w))] [] 0 (aI r) []:=by
 unfold mw at h
 refine eL (fu:=Tryz.f10) (c:=TY 1) (nt:=19) (fun hm=>rfl) ?_
 intro E hE
 refine ae hE 1 [] [] (kp [1]) (kq [0]) 32 pn ?_
 obtain ⟨uF,hr,h⟩:=aG h
 obtain ⟨n4,dg,h⟩:=aG h
 obtain ⟨vz,gR,h⟩:=aG h
 refine ae hE 2 [(2,oT (aB uF)),(7,oT (aB n4)),(13,oT (aB vz))] [] (kp [18]) [] 288 (pc o1 (pc (e7 _ _ _ _ _ hr) (pc (fun hg:(!(!uF))=true=>(pc hg (pc o1 pn))) (pc (fun hg:(!(!uF))=true=>(pc (e7 _ _ _ _ _ (er dg hg)) (pc hg pn))) (pc (fun hg:(!(!uF))=true=>(pc hg pn)) (pc (fun hq:(!(!uF))=true=>(pc hq pn)) (pc (fun hg:(!(cond (!uF) true (!n4)))=true=>(pc hg (pc o1 pn))) (pc (fun hg:(!(cond (!uF) true (!n4)))=true=>(pc (e7 _ _ _ _ _ (er gR hg)) (pc hg pn))) (pc (fun hg:(!(cond (!uF) true (!n4)))=true=>(pc hg pn)) (pc (fun hq:(!(cond (!uF) true (!n4)))=true=>(pc hq pn)) pn)))))))))) ?_
 refine ct 0 18 h (fun cR h=>?_) (fun cR h=>?_)
 ·refine ae hE 1 [] [] (kp [2]) [] 304 pn ?_
  obtain rfl:=bQ h
  exact bV hE 0 Tryz.f10 [] (kp [2]) [] 304 pn [] pn
 ·refine ae hE 2 [] [] (kp [2]) [] 304 pn ?_
  obtain rfl:=bQ h
  exact bV hE 0 Tryz.f10 [] (kp [2]) [] 304 pn [] pn
noncomputable abbrev TZ:=bu Tryz.f11
theorem Bh (N l w r) (h:tE N l w=some r):Sd 11 [(aD ao.cells ao.d l),(.agg (dE.cells w))] [] 0 (.tup [(.agg (aN.cells r.1)),(aI r.2)]) []:=by
 unfold tE at h
 refine eL (fu:=Tryz.f11) (c:=TZ 1) (nt:=23) (fun hm=>rfl) ?_
 intro E hE
 refine ae hE 1 [] [] (kp [0,3,4]) (kq [0,16]) 48 pn ?_
 obtain ⟨bC,hr,h⟩:=aG h
 refine ae hE 2 [(1,oT (aI bC))] [] (kp [0,3,4,6]) (kq [0,16]) 96 (pc (kT _ _ _ hr) pn) ?_
 refine ae hE 1 [] [] (kp [0,3,4,6,11]) (kq [0,16]) 128 pn ?_
 refine ct 0 11 h (fun cR h=>?_) (fun cR h=>?_)
 ·refine ae hE 1 [] [] (kp [4,5]) (kq [16]) 192 (pc o1 pn) ?_
  obtain rfl:=bQ h
  exact bV hE 0 Tryz.f11 [] (kp [4,5]) [(16,.var 16 [.af,.sl (([]:List aa).length) (fun zi=>ai (([]:List aa).getD zi aa.d)),.sl (([]:List aa).length) (fun zi=>ai (([]:List aa).getD zi aa.d))])] 192 (pc (Eq.refl 0) (pc (Eq.refl 0) pn)) [16] (pc o1 pn)
 ·obtain ⟨j5,dg,h⟩:=aG h
  refine ae hE 3 [(1,oT (aI j5))] [] (kp [0,3,4,7]) (kq [0,16]) 176 (pc o1 (pc (oD _ _ _ dg) pn)) ?_
  refine ae hE 1 [] [] (kp [0,3,4,7,17]) (kq [0,16]) 208 pn ?_
  refine ct 0 17 h (fun gB h=>?_) (fun gB h=>?_)
  ·refine ae hE 1 [] [] (kp [4,5]) (kq [16]) 272 (pc o1 pn) ?_
   obtain rfl:=bQ h
   exact bV hE 0 Tryz.f11 [] (kp [4,5]) [(16,.var 16 [.af,.sl (([]:List aa).length) (fun zi=>ai (([]:List aa).getD zi aa.d)),.sl (([]:List aa).length) (fun zi=>ai (([]:List aa).getD zi aa.d))])] 272 (pc (Eq.refl 0) (pc (Eq.refl 0) pn)) [16] (pc o1 pn)
  ·obtain ⟨Lv,gR,h⟩:=aG h
   refine ae hE 2 [(2,oT (.agg (aN.cells Lv)))] [] (kp [4,5]) (kq [16]) 288 (pc o1 (pc (Bf _ _ _ _ gR) (pc o1 pn))) ?_
   obtain rfl:=bQ h
   exact bV hE 0 Tryz.f11 [] (kp [4,5]) (kq [16]) 288 pn [16] (pc o1 pn)
noncomputable abbrev Nt:=bu Tryz.f111
def Bi (N:Nat) (neg:Bool) (a:List Int) (K:(List Int)→Int→Option (bd)):Prop:=∀ (x:List Int) (i:Int) (r:bd),K x i=some r→∀ E,a3 E 0→az Tryz.prog E 111 31 (aQ E [] (.agg (jr r))) [.code (Nt 116),.inLoop (Nt 116),.inBlock 0,.code (Nt 15)] ⟨[(1,(aD cI 0 a)),(4,(.op 0 0 0)),(5,(.op 1 0 0)),(6,(aI i))],[(0,vO 2 [(aB false),.nil]),(1,vN 2 [(aB (cond neg (decide (((a.length:Nat):Int) > 0)) false)),(.os 2 0 x.length)]),(2,aU x)],3⟩
theorem z9 (N neg a fuel):Bi N neg a (g5 N neg a fuel):=by
 induction fuel with
 | zero=>intro _ _ r h;rw [g5.eq_1] at h;cases h
 | succ fuel ih =>
  intro x i r h E hE
  rw [g5.eq_2] at h
  refine ae hE 2 [] [] (kp [1,4,5,6,17]) (kq [0,1,2]) 67 pn ?_
  refine ct 0 17 h (fun cR h=>?_) (fun cR h=>?_)
  ·obtain ⟨c,h⟩:=ab h
   obtain ⟨c2,h⟩:=ab h
   refine ae hE 3 [] [] (kp [1,4,5,6]) (kq [0] ++ [(1,.var 1 [.af,.ja ((x ++ ([(IntKind.u16.wrap ((a.getD ((i).toNat) 0)))]:List Int)).length)]),(195,.arr 195 ((x ++ ([(IntKind.u16.wrap ((a.getD ((i).toNat) 0)))]:List Int)).length) (fun zi=>(cU .u16) ((x ++ ([(IntKind.u16.wrap ((a.getD ((i).toNat) 0)))]:List Int)).getD zi 0)))]) 243 (pc o1 (pc c (pc (Eq.refl x.length) (pc c2 (pc (z1 1) (pc (show ∀ zi,zi < 1→AV.fx ((fun zi=>([[(uG (IntKind.u16.wrap ((a.getD ((i).toNat) 0))))]]:List (List AV)).getD zi []) (a8 0 zi))=true from (om rfl)) (pc o1 (pc (show (x.length+1)=(x ++ ([(IntKind.u16.wrap ((a.getD ((i).toNat) 0)))]:List Int)).length from (aw rfl rfl)) (pc (show x.length+1=(x ++ ([(IntKind.u16.wrap ((a.getD ((i).toNat) 0)))]:List Int)).length from (aw rfl rfl)) (pc (show ∀ zi,zi < (x ++ ([(IntKind.u16.wrap ((a.getD ((i).toNat) 0)))]:List Int)).length→(fun zi=>(cU .u16) ((x ++ ([(IntKind.u16.wrap ((a.getD ((i).toNat) 0)))]:List Int)).getD zi 0)) zi=((fun zm=>if zm < x.length then (fun zi=>(cU .u16) (x.getD zi 0)) zm else (fun zi=>([[(uG (IntKind.u16.wrap ((a.getD ((i).toNat) 0))))]]:List (List AV)).getD zi []) (zm - x.length))) zi from (bk (cU .u16) 0 x ([(IntKind.u16.wrap ((a.getD ((i).toNat) 0)))]:List Int) rfl (fun _ _=>rfl) (fun zq fb=>bE (cU .u16) 0 ([(IntKind.u16.wrap ((a.getD ((i).toNat) 0)))]:List Int) zq fb))) pn)))))))))) ?_
   refine ae hE 1 [] [] (kp [1,4,5,6]) (kq [0,1,195]) 291 pn ?_
   exact b5 hE 1 [] (kp [1,4,5,6]) (kq [0,1] ++ [(2,.af 195)]) 3 pn (ih _ _ _ h E hE)
  ·refine ae hE 2 [] [] (kp [4]) (kq [0,2]) 99 (pc o1 (pc o1 pn)) ?_
   obtain rfl:=bQ h
   exact bV hE 0 Tryz.f111 [2] (kp [4]) [(16,.var 0 [.af,.sl (x.length) (fun zi=>(cU .u16) (x.getD zi 0))])] 99 (pc (Eq.refl x.length) (pc (z1 x.length) (pc (aZ x.length (fun zi=>(cU .u16) (x.getD zi 0))) pn))) [16] (pc o1 pn)
theorem fW (N neg a r) (h:dX N neg a=some r):Sd 111 [(aB neg),(aD cI 0 a)] [] 0 (.agg (jr r)) []:=by
 unfold dX at h
 refine eL (fu:=Tryz.f111) (c:=Nt 1) (nt:=31) (fun hm=>rfl) ?_
 intro E hE
 refine ae hE 1 [] [] (kp [0,1,4]) (kq [0]) 16 pn ?_
 refine ae hE 1 [] [] (kp [1,4,5]) (kq [0,128]) 160 (pc (fun hg:neg=true=>(pc hg pn)) (pc (fun hg:neg=true=>(pc hg pn)) (pc (fun hq:neg=true=>(pc hq pn)) (pc o1 pn)))) ?_
 refine ae hE 2 [] [] (kp [1,4,5,6]) (kq [0,128]) 176 pn ?_
 exact b5 hE 2 [] (kp [1,4,5,6]) (kq [0] ++ [(1,.var 128 [.af,.mU 2]),(2,.nil 1 (fun zi=>(cU .u16) (([]:List Int).getD zi 0)))]) 3 pn (z9 N _ _ N _ _ _ h E hE)
noncomputable abbrev Nu:=bu Tryz.f93
def DJ (N:Nat) (n:Int) (K:(List Int)→Int→Option (bd)):Prop:=∀ (a:List Int) (u:Int) (r:bd),K a u=some r→∀ E,a3 E 0→az Tryz.prog E 93 25 (aQ E [] (.agg (jr r))) [.code (Nu 248),.inLoop (Nu 248),.inBlock 0,.code (Nu 63)] ⟨[(0,(aI n)),(2,(.op 0 0 0)),(3,(.os 1 0 a.length)),(4,(FQ u))],[(0,vO 2 [(aB false),.nil]),(1,aO 1 cI 0 a)],2⟩
theorem vP (N n fuel):DJ N n (jn N n fuel):=by
 induction fuel with
 | zero=>intro _ _ r h;rw [jn.eq_1] at h;cases h
 | succ fuel ih =>
  intro a u r h E hE
  rw [jn.eq_2] at h
  refine ae hE 2 [] [] (kp [0,2,3,4,12]) (kq [0,1]) 34 pn ?_
  refine ct 0 12 h (fun gB h=>?_) (fun gB h=>?_)
  ·obtain ⟨c,h⟩:=ab h
   refine ae hE 3 [] [] (kp [0,2] ++ [(3,.ja ((a ++ ([(ah ((u.tmod 65536)))]:List Int)).length))] ++ kp [4]) (kq [0] ++ [(114,.arr 114 ((a ++ ([(ah ((u.tmod 65536)))]:List Int)).length) (fun zi=>cI ((a ++ ([(ah ((u.tmod 65536)))]:List Int)).getD zi 0)))]) 146 (pc (show (65536:Int)≠0 by decide) (pc (Eq.refl a.length) (pc c (pc (z1 1) (pc (show ∀ zi,zi < 1→AV.fx ((fun zi=>([[(aI (ah ((u.tmod 65536))))]]:List (List AV)).getD zi []) (a8 0 zi))=true from (om rfl)) (pc (show (a.length+1)=(a ++ ([(ah ((u.tmod 65536)))]:List Int)).length from (aw rfl rfl)) (pc (show a.length+1=(a ++ ([(ah ((u.tmod 65536)))]:List Int)).length from (aw rfl rfl)) (pc (show ∀ zi,zi < (a ++ ([(ah ((u.tmod 65536)))]:List Int)).length→(fun zi=>cI ((a ++ ([(ah ((u.tmod 65536)))]:List Int)).getD zi 0)) zi=((fun zm=>if zm < a.length then (fun zi=>cI (a.getD zi 0)) zm else (fun zi=>([[(aI (ah ((u.tmod 65536))))]]:List (List AV)).getD zi []) (zm - a.length))) zi from (bk cI 0 a ([(ah ((u.tmod 65536)))]:List Int) rfl (fun _ _=>rfl) (fun zq fb=>bE cI 0 ([(ah ((u.tmod 65536)))]:List Int) zq fb))) pn)))))))) ?_
   refine ae hE 1 [] [] (kp [0,2,3,4]) (kq [0,114]) 194 (pc (show (65536:Int)≠0 by decide) pn) ?_
   exact b5 hE 1 [] (kp [0,2,3,4]) (kq [0] ++ [(1,.af 114)]) 2 pn (ih _ _ _ h E hE)
  ·obtain ⟨nF,hr,h⟩:=aG h
   refine ae hE 2 [(3,⟨[],true,(.agg (jr nF)),[],0,true,none⟩)] [] (kp [2]) (kq [0]) 114 (pc (fW _ _ _ _ hr) (pc (z1 a.length) (pc o1 pn))) ?_
   obtain rfl:=bQ h
   exact bV hE 0 Tryz.f93 [] (kp [2]) [(16,.af 0)] 114 pn [16] (pc o1 pn)
theorem vQ (N n r) (h:qj N n=some r):Sd 93 [(aI n)] [] 0 (.agg (jr r)) []:=by
 unfold qj at h
 refine eL (fu:=Tryz.f93) (c:=Nu 1) (nt:=25) (fun hm=>rfl) ?_
 intro E hE
 refine ae hE 1 [] [] (kp [0,2]) (kq [0]) 16 pn ?_
 refine ae hE 1 [] [] (kp [0,2,3]) (kq [0]) 32 pn ?_
 refine ae hE 1 [] [] (kp [0,2,3,4]) (kq [0]) 80 pn ?_
 refine ae hE 2 [] [] (kp [0,2,3,4,8]) (kq [0]) 112 pn ?_
 refine ct 0 8 h (fun cR h=>?_) (fun cR h=>?_)
 ·refine ae hE 0 [] [] (kp [0,2,3,4]) (kq [0]) 160 pn ?_
  exact b5 hE 3 [] (kp [0,2] ++ [(3,.mU 1)] ++ kp [4]) (kq [0] ++ [(1,.nil 1 (fun zi=>cI (([]:List Int).getD zi 0)))]) 2 pn (vP N _ N _ _ _ h E hE)
 ·exact b5 hE 4 [] (kp [0,2] ++ [(3,.mU 1)] ++ kp [4]) (kq [0] ++ [(1,.nil 1 (fun zi=>cI (([]:List Int).getD zi 0)))]) 2 pn (vP N _ N _ _ _ h E hE)
noncomputable abbrev T0:=bu Tryz.f54
theorem iu (N n r) (h:lL N n=some r):Sd 54 [(aI n)] [] 0 (.agg (ai r)) []:=by
 unfold lL at h
 refine eL (fu:=Tryz.f54) (c:=T0 1) (nt:=7) (fun hm=>rfl) ?_
 intro E hE
 refine ae hE 1 [] [] (kp [0,2]) (kq [0]) 16 pn ?_
 obtain ⟨Ew,hr,h⟩:=aG h
 obtain ⟨HS,dg,h⟩:=aG h
 refine ae hE 1 [(1,oT (.agg (jr Ew))),(2,oT (.agg (jr HS)))] [] (kp [2]) (kq [0]) 96 (pc (vQ _ _ _ hr) (pc (vQ _ _ _ dg) (pc o1 pn))) ?_
 obtain rfl:=bQ h
 exact bV hE 0 Tryz.f54 [] (kp [2]) [(16,.af 0)] 96 pn [16] (pc o1 pn)
noncomputable abbrev T4:=bu Tryz.f51
theorem vR (N w r) (h:q8 N w=some r):Sd 51 [(.agg (dE.cells w))] [] 0 (.agg (aq.cells r)) []:=by
 unfold q8 at h
 refine eL (fu:=Tryz.f51) (c:=T4 1) (nt:=13) (fun hm=>rfl) ?_
 intro E hE
 refine ae hE 1 [] [] (kp [1,2]) (kq [0,16]) 32 pn ?_
 obtain ⟨rQ,hr,h⟩:=aG h
 obtain ⟨Pv,dg,h⟩:=aG h
 obtain ⟨Pw,gR,h⟩:=aG h
 refine ae hE 1 [(2,oT (.agg (ai rQ))),(5,oT (.agg (ai Pv))),(8,oT (.agg (ai Pw)))] [] (kp [2]) (kq [16]) 208 (pc o1 (pc (iu _ _ _ hr) (pc o1 (pc (iu _ _ _ dg) (pc o1 (pc (iu _ _ _ gR) (pc o1 pn))))))) ?_
 obtain rfl:=bQ h
 exact bV hE 0 Tryz.f51 [] (kp [2]) (kq [16]) 208 pn [16] (pc o1 pn)
noncomputable abbrev Nv:=bu Tryz.f129
def Bj (N:Nat) (a:List Int) (K:Int→Option ((List Int))):Prop:=∀ (n:Int) (r:(List Int)),K n=some r→∀ E,a3 E 0→az Tryz.prog E 129 23 (aQ E [] (aD cI 0 r)) [.code (Nv 56),.inLoop (Nv 56),.inBlock 0,.code (Nv 15)] ⟨[(0,(aD cI 0 a)),(3,(aI n))],[],0⟩
theorem Aa (N a fuel):Bj N a (g6 N a fuel):=by
 induction fuel with
 | zero=>intro _ r h;rw [g6.eq_1] at h;cases h
 | succ fuel ih =>
  intro n r h E hE
  rw [g6.eq_2] at h
  obtain ⟨c,h⟩:=ab h
  refine ae hE 2 [] [] (kp [0,3,15]) [] 160 (pc (fun hg:(decide (n > 0))=true=>(pc hg pn)) (pc (fun hg:(decide (n > 0))=true=>(pc hg (pc hg (pc (c hg) pn)))) (pc (fun hg:(decide (n > 0))=true=>(pc hg pn)) (pc (fun hg:(decide (n > 0))=true=>(pc hg pn)) (pc (fun hq:(decide (n > 0))=true=>(pc hq pn)) pn))))) ?_
  refine ct 0 15 h (fun cR h=>?_) (fun cR h=>?_)
  ·refine ae hE 2 [] [] (kp [0,3]) [] 208 pn ?_
   exact b5 hE 2 [] (kp [0,3]) [] 0 pn (ih _ _ h E hE)
  ·obtain ⟨c2,h⟩:=ab h
   obtain ⟨c3,h⟩:=ab h
   obtain ⟨c4,h⟩:=ab h
   refine ae hE 2 [] [] [(2,.ja ((([]:List Int) ++ ((a.take ((n).toNat)).drop 0)).length))] [(224,.arr 224 ((([]:List Int) ++ ((a.take ((n).toNat)).drop 0)).length) (fun zi=>cI ((([]:List Int) ++ ((a.take ((n).toNat)).drop 0)).getD zi 0)))] 256 (pc c2 (pc c3 (pc (Eq.refl 0) (pc c4 (pc (show ∀ zi,zi < ((n).toNat - 0)→AV.fx ((fun zi=>cI (a.getD (a8 0 zi) 0)) zi)=true from (fun _ _=>rfl)) (pc (show (0+((n).toNat - 0))=(([]:List Int) ++ ((a.take ((n).toNat)).drop 0)).length from (aw rfl (vn a 0 ((n).toNat) c2))) (pc (show 0+((n).toNat - 0)=(([]:List Int) ++ ((a.take ((n).toNat)).drop 0)).length from (aw rfl (vn a 0 ((n).toNat) c2))) (pc (show ∀ zi,zi < (([]:List Int) ++ ((a.take ((n).toNat)).drop 0)).length→(fun zi=>cI ((([]:List Int) ++ ((a.take ((n).toNat)).drop 0)).getD zi 0)) zi=((fun zm=>if zm < 0 then (fun _=>[]) zm else (fun zi=>cI (a.getD (a8 0 zi) 0)) (zm - 0))) zi from (bk cI 0 ([]:List Int) ((a.take ((n).toNat)).drop 0) rfl (fun zq fb=>absurd fb (iw _)) (fun zq fb=>BD cI 0 a 0 ((n).toNat) zq fb))) pn)))))))) ?_
   obtain rfl:=bQ h
   exact bV hE 0 Tryz.f129 [224] [(2,.sl ((([]:List Int) ++ ((a.take ((n).toNat)).drop 0)).length) (fun zi=>cI ((([]:List Int) ++ ((a.take ((n).toNat)).drop 0)).getD zi 0)))] [] 256 (pc (Eq.refl ((([]:List Int) ++ ((a.take ((n).toNat)).drop 0)).length)) (pc (z1 ((([]:List Int) ++ ((a.take ((n).toNat)).drop 0)).length)) (pc (aZ ((([]:List Int) ++ ((a.take ((n).toNat)).drop 0)).length) (fun zi=>cI ((([]:List Int) ++ ((a.take ((n).toNat)).drop 0)).getD zi 0))) pn))) [] pn
theorem kO (N a r) (h:j6 N a=some r):Sd 129 [(aD cI 0 a)] [] 0 (aD cI 0 r) []:=by
 unfold j6 at h
 refine eL (fu:=Tryz.f129) (c:=Nv 1) (nt:=23) (fun hm=>rfl) ?_
 intro E hE
 refine ae hE 1 [] [] (kp [0]) [] 16 pn ?_
 refine ae hE 1 [] [] (kp [0,3]) [] 64 pn ?_
 exact b5 hE 3 [] (kp [0,3]) [] 0 pn (Aa N _ N _ _ h E hE)
noncomputable abbrev Nw:=bu Tryz.f112
def Bk (N:Nat) (l:List Int) (K:(List Int)→Int→Option ((List Int))):Prop:=∀ (a:List Int) (i:Int) (r:(List Int)),K a i=some r→∀ E,a3 E 0→az Tryz.prog E 112 21 (aQ E [] (aD cI 0 r)) [.code (Nw 116),.inLoop (Nw 116),.inBlock 0,.code (Nw 15)] ⟨[(0,(eU l)),(3,(.os 0 0 a.length)),(4,(aI i))],[(0,aO 1 cI 0 a)],1⟩
theorem Ad (N l fuel):Bk N l (g7 N l fuel):=by
 induction fuel with
 | zero=>intro _ _ r h;rw [g7.eq_1] at h;cases h
 | succ fuel ih =>
  intro a i r h E hE
  rw [g7.eq_2] at h
  refine ae hE 2 [] [] (kp [0,3,4,8]) (kq [0]) 65 pn ?_
  refine ct 0 8 h (fun cR h=>?_) (fun cR h=>?_)
  ·obtain ⟨c,h⟩:=ab h
   obtain ⟨c2,h⟩:=ab h
   refine ae hE 3 [] [] (kp [0] ++ [(3,.ja ((a ++ ([(ah ((l.getD ((i).toNat) 0)))]:List Int)).length))] ++ kp [4]) [(177,.arr 177 ((a ++ ([(ah ((l.getD ((i).toNat) 0)))]:List Int)).length) (fun zi=>cI ((a ++ ([(ah ((l.getD ((i).toNat) 0)))]:List Int)).getD zi 0)))] 209 (pc c (pc (Eq.refl a.length) (pc c2 (pc (z1 1) (pc (show ∀ zi,zi < 1→AV.fx ((fun zi=>([[(aI (ah ((l.getD ((i).toNat) 0))))]]:List (List AV)).getD zi []) (a8 0 zi))=true from (om rfl)) (pc (show (a.length+1)=(a ++ ([(ah ((l.getD ((i).toNat) 0)))]:List Int)).length from (aw rfl rfl)) (pc (show a.length+1=(a ++ ([(ah ((l.getD ((i).toNat) 0)))]:List Int)).length from (aw rfl rfl)) (pc (show ∀ zi,zi < (a ++ ([(ah ((l.getD ((i).toNat) 0)))]:List Int)).length→(fun zi=>cI ((a ++ ([(ah ((l.getD ((i).toNat) 0)))]:List Int)).getD zi 0)) zi=((fun zm=>if zm < a.length then (fun zi=>cI (a.getD zi 0)) zm else (fun zi=>([[(aI (ah ((l.getD ((i).toNat) 0))))]]:List (List AV)).getD zi []) (zm - a.length))) zi from (bk cI 0 a ([(ah ((l.getD ((i).toNat) 0)))]:List Int) rfl (fun _ _=>rfl) (fun zq fb=>bE cI 0 ([(ah ((l.getD ((i).toNat) 0)))]:List Int) zq fb))) pn)))))))) ?_
   refine ae hE 1 [] [] (kp [0,3,4]) (kq [177]) 257 pn ?_
   exact b5 hE 1 [] (kp [0,3,4]) [(0,.af 177)] 1 pn (ih _ _ _ h E hE)
  ·obtain ⟨bA,hr,h⟩:=aG h
   refine ae hE 2 [(1,⟨[],true,(aD cI 0 bA),[],0,true,none⟩)] [] (kp [2]) [] 113 (pc (kO _ _ _ hr) (pc (z1 a.length) pn)) ?_
   obtain rfl:=bQ h
   exact bV hE 0 Tryz.f112 [] (kp [2]) [] 113 pn [] pn
theorem g9 (N l r) (h:fB N l=some r):Sd 112 [(eU l)] [] 0 (aD cI 0 r) []:=by
 unfold fB at h
 refine eL (fu:=Tryz.f112) (c:=Nw 1) (nt:=21) (fun hm=>rfl) ?_
 intro E hE
 refine ae hE 1 [] [] (kp [0]) [] 16 pn ?_
 refine ae hE 1 [] [] (kp [0,3]) [] 32 pn ?_
 refine ae hE 2 [] [] (kp [0,3,4]) [] 48 pn ?_
 exact b5 hE 2 [] (kp [0] ++ [(3,.mU 0)] ++ kp [4]) [(0,.nil 1 (fun zi=>cI (([]:List Int).getD zi 0)))] 1 pn (Ad N _ N _ _ _ h E hE)
noncomputable abbrev T5:=bu Tryz.f131
theorem nI (N a i r) (h:jT N a i=some r):Sd 131 [(aD cI 0 a),(aI i)] [] 0 (aI r) []:=by
 unfold jT at h
 refine eL (fu:=Tryz.f131) (c:=T5 1) (nt:=13) (fun hm=>rfl) ?_
 intro E hE
 refine ae hE 1 [] [] (kp [0,1]) [] 16 pn ?_
 refine ae hE 2 [] [] (kp [0,1,8]) [] 80 pn ?_
 refine ct 0 8 h (fun cR h=>?_) (fun cR h=>?_)
 ·obtain ⟨c,h⟩:=ab h
  refine ae hE 1 [] [] (kp [4]) [] 160 (pc c pn) ?_
  obtain rfl:=bQ h
  exact bV hE 0 Tryz.f131 [] (kp [4]) [] 160 pn [] pn
 ·refine ae hE 2 [] [] (kp [4]) [] 96 pn ?_
  obtain rfl:=bQ h
  exact bV hE 0 Tryz.f131 [] (kp [4]) [] 96 pn [] pn
noncomputable abbrev Fs:=bu Tryz.f121
def sZ (N:Nat) (a:List Int) (b:List Int) (K:(List Int)→Int→Option ((List Int))):Prop:=∀ (out:List Int) (i:Int) (r:(List Int)),K out i=some r→∀ E,a3 E 0→az Tryz.prog E 121 61 (aQ E [] (aD cI 0 r)) [.code (Fs 116),.inLoop (Fs 116),.inBlock 0,.code (Fs 15)] ⟨[(0,(aD cI 0 a)),(1,(aD cI 0 b)),(5,(.os 0 0 out.length)),(6,(aI i))],[(0,aO 1 cI 0 out)],1⟩
def Ae (N:Nat) (a:List Int) (b:List Int) (i:Int) (K:(List Int)→Int→Int→Option ((List Int))):Prop:=∀ (ew:List Int) (carry:Int) (k:Int) (r:(List Int)),K ew carry k=some r→∀ E,a3 E 0→az Tryz.prog E 121 61 (aQ E [] (aD cI 0 r)) [.code (Fs 14924),.inLoop (Fs 14924),.inBlock 2,.inBlock 1,.code (Fs 467),.inLoop (Fs 116),.inBlock 0,.code (Fs 15)] ⟨[(0,(aD cI 0 a)),(1,(aD cI 0 b)),(5,(.os 0 0 ew.length)),(6,(aI i)),(7,(aI carry)),(8,(aI k))],[(0,aO 1 cI 0 ew)],1⟩
theorem yS (N:Nat) (a:List Int) (b:List Int) (i:Int) (jJ:(List Int)→Int→Option ((List Int))) (yT:sZ N a b jJ) (fuel:Nat):Ae N a b i (gk N a b i jJ fuel):=by
 induction fuel with
 | zero=>intro _ _ _ r h;rw [gk.eq_1] at h;cases h
 | succ fuel ih =>
  intro ew carry k r h E hE
  rw [gk.eq_2] at h
  refine ae hE 2 [] [] (kp [0,1,5,6,7,8,30]) (kq [0]) 129 (pc (fun hg:(!(decide (k < ((b.length:Nat):Int))))=true=>(pc hg pn)) (pc (fun hq:(!(decide (k < ((b.length:Nat):Int))))=true=>(pc hq pn)) pn)) ?_
  refine ct 0 30 h (fun gB h=>?_) (fun gB h=>?_)
  ·obtain ⟨c2,h⟩:=ab h
   obtain ⟨c3,h⟩:=ab h
   obtain ⟨bP,hr,h⟩:=aG h
   refine ae hE 4 [(12,oT (aI bP))] [] (kp [0,1,5,6,8,9]) (kq [0]) 417 (pc c2 (pc (cM c2) (pc c3 (pc (nI _ _ _ _ hr) pn)))) ?_
   refine ae hE 1 [] [] (kp [0,1] ++ [(5,.ja ((ew.set ((ah (i+k)).toNat) ((ah ((ah ((ew.getD ((ah (i+k)).toNat) 0)+(ah ((a.getD ((i).toNat) 0) * bP))))+carry)).tmod 65536)).length))] ++ kp [6,8,9]) [(0,.arr 0 ((ew.set ((ah (i+k)).toNat) ((ah ((ah ((ew.getD ((ah (i+k)).toNat) 0)+(ah ((a.getD ((i).toNat) 0) * bP))))+carry)).tmod 65536)).length) (fun zi=>cI ((ew.set ((ah (i+k)).toNat) ((ah ((ah ((ew.getD ((ah (i+k)).toNat) 0)+(ah ((a.getD ((i).toNat) 0) * bP))))+carry)).tmod 65536)).getD zi 0)))] 545 (pc (show (65536:Int)≠0 by decide) (pc c2 (pc (cM c2) (pc (ay ew ((ah (i+k)).toNat) ((ah ((ah ((ew.getD ((ah (i+k)).toNat) 0)+(ah ((a.getD ((i).toNat) 0) * bP))))+carry)).tmod 65536)) (pc (ay ew ((ah (i+k)).toNat) ((ah ((ah ((ew.getD ((ah (i+k)).toNat) 0)+(ah ((a.getD ((i).toNat) 0) * bP))))+carry)).tmod 65536)) (pc (bS cI 0 ew ((ah (i+k)).toNat) ((ah ((ah ((ew.getD ((ah (i+k)).toNat) 0)+(ah ((a.getD ((i).toNat) 0) * bP))))+carry)).tmod 65536)) pn)))))) ?_
   refine ae hE 0 [] [] (kp [0,1,5,6,7,8]) (kq [0]) 593 (pc (show (65536:Int)≠0 by decide) pn) ?_
   refine ae hE 1 [] [] (kp [0,1,5,6,7,8]) (kq [0]) 641 pn ?_
   exact b5 hE 1 [] (kp [0,1,5,6,7,8]) (kq [0]) 1 pn (ih _ _ _ _ h E hE)
  ·refine ae hE 2 [] [] (kp [0,1,5,6]) (kq [0]) 177 pn ?_
   exact b5 hE 1 [] (kp [0,1,5,6]) (kq [0]) 1 pn (yT _ _ _ h E hE)
theorem yU (N a b fuel):sZ N a b (gl N a b fuel):=by
 induction fuel with
 | zero=>intro _ _ r h;rw [gl.eq_1] at h;cases h
 | succ fuel ih =>
  intro out i r h E hE
  rw [gl.eq_2] at h
  refine ae hE 2 [] [] (kp [0,1,5,6,20]) (kq [0]) 65 pn ?_
  refine ct 0 20 h (fun cR h=>?_) (fun cR h=>?_)
  ·refine ae hE 4 [] [] (kp [0,1,5,6,7]) (kq [0]) 81 pn ?_
   refine ae hE 1 [] [] (kp [0,1,5,6,7,8]) (kq [0]) 97 pn ?_
   exact b5 hE 2 [] (kp [0,1,5,6,7,8]) (kq [0]) 1 pn (yS N _ _ _ _ ih N _ _ _ _ h E hE)
  ·obtain ⟨bA,dg,h⟩:=aG h
   refine ae hE 2 [(1,⟨[],true,(aD cI 0 bA),[],0,true,none⟩)] [] (kp [4]) [] 113 (pc (kO _ _ _ dg) (pc (z1 out.length) pn)) ?_
   obtain rfl:=bQ h
   exact bV hE 0 Tryz.f121 [] (kp [4]) [] 113 pn [] pn
theorem qD (N a b r) (h:jU N a b=some r):Sd 121 [(aD cI 0 a),(aD cI 0 b)] [] 0 (aD cI 0 r) []:=by
 unfold jU at h
 refine eL (fu:=Tryz.f121) (c:=Fs 1) (nt:=61) (fun hm=>rfl) ?_
 intro E hE
 refine ae hE 1 [] [] (kp [0,1]) [] 16 pn ?_
 obtain ⟨c,h⟩:=ab h
 refine ae hE 1 [] [] (kp [0,1] ++ [(5,.ja ((List.replicate ((ah ((ah (((a.length:Nat):Int)+((b.length:Nat):Int)))+1)).toNat) 0:List Int).length))]) [(112,.arr 112 ((List.replicate ((ah ((ah (((a.length:Nat):Int)+((b.length:Nat):Int)))+1)).toNat) 0:List Int).length) (fun zi=>cI ((List.replicate ((ah ((ah (((a.length:Nat):Int)+((b.length:Nat):Int)))+1)).toNat) 0:List Int).getD zi 0)))] 144 (pc (show 0≤(ah ((ah (((a.length:Nat):Int)+((b.length:Nat):Int)))+1)) from c.1) (pc (show (ah ((ah (((a.length:Nat):Int)+((b.length:Nat):Int)))+1))≤(ah ((ah (((a.length:Nat):Int)+((b.length:Nat):Int)))+1)) from (Int.le_refl _)) (pc (show (8:Int) * (ah ((ah (((a.length:Nat):Int)+((b.length:Nat):Int)))+1))≤281474976710656 from c.2.1) (pc (show (ah ((ah (((a.length:Nat):Int)+((b.length:Nat):Int)))+1))≤9223372036854775807 from c.2.2) (pc (show (ah ((ah (((a.length:Nat):Int)+((b.length:Nat):Int)))+1)).toNat=(List.replicate ((ah ((ah (((a.length:Nat):Int)+((b.length:Nat):Int)))+1)).toNat) 0:List Int).length from (eb).symm) (pc (show (ah ((ah (((a.length:Nat):Int)+((b.length:Nat):Int)))+1)).toNat=(List.replicate ((ah ((ah (((a.length:Nat):Int)+((b.length:Nat):Int)))+1)).toNat) 0:List Int).length from (eb).symm) (pc (show ∀ zi,zi < (List.replicate ((ah ((ah (((a.length:Nat):Int)+((b.length:Nat):Int)))+1)).toNat) 0:List Int).length→(fun zi=>cI ((List.replicate ((ah ((ah (((a.length:Nat):Int)+((b.length:Nat):Int)))+1)).toNat) 0:List Int).getD zi 0)) zi=(fun _=>[(aI 0)]) zi from (fun zq fb=>pz cI 0 0 ((ah ((ah (((a.length:Nat):Int)+((b.length:Nat):Int)))+1)).toNat) zq fb)) pn))))))) ?_
 refine ae hE 2 [] [] (kp [0,1,5,6]) (kq [112]) 160 pn ?_
 exact b5 hE 2 [] (kp [0,1,5,6]) [(0,.af 112)] 1 pn (yU N _ _ N _ _ _ h E hE)
noncomputable abbrev Nx:=bu Tryz.f119
def xS (N:Nat) (a:List Int) (b:List Int) (K:Int→Option (Int)):Prop:=∀ (i:Int) (r:Int),K i=some r→∀ E,a3 E 0→az Tryz.prog E 119 41 (aQ E [] (aI r)) [.code (Nx 116),.inLoop (Nx 116),.inBlock 0,.code (Nx 15)] ⟨[(0,(aD cI 0 a)),(1,(aD cI 0 b)),(5,(aI i))],[],0⟩
theorem wN (N a b fuel):xS N a b (eF N a b fuel):=by
 induction fuel with
 | zero=>intro _ r h;rw [eF.eq_1] at h;cases h
 | succ fuel ih =>
  intro i r h E hE
  rw [eF.eq_2] at h
  refine ae hE 2 [] [] (kp [0,1,5,20]) [] 32 pn ?_
  refine ct 0 20 h (fun gB h=>?_) (fun gB h=>?_)
  ·obtain ⟨c,h⟩:=ab h
   obtain ⟨c2,h⟩:=ab h
   refine ae hE 4 [] [] (kp [0,1,5,31]) [] 176 (pc c (pc c2 pn)) ?_
   refine ct 0 31 h (fun qp h=>?_) (fun qp h=>?_)
   ·refine ae hE 1 [] [] (kp [4]) [] 336 (pc c (pc c2 pn)) ?_
    obtain rfl:=bQ h
    exact bV hE 0 Tryz.f119 [] (kp [4]) [] 336 pn [] pn
   ·refine ae hE 2 [] [] (kp [0,1,5]) [] 224 pn ?_
    exact b5 hE 1 [] (kp [0,1,5]) [] 0 pn (ih _ _ h E hE)
  ·refine ae hE 2 [] [] (kp [4]) [] 48 pn ?_
   obtain rfl:=bQ h
   exact bV hE 0 Tryz.f119 [] (kp [4]) [] 48 pn [] pn
theorem s6 (N a b r) (h:kL N a b=some r):Sd 119 [(aD cI 0 a),(aD cI 0 b)] [] 0 (aI r) []:=by
 unfold kL at h
 refine eL (fu:=Tryz.f119) (c:=Nx 1) (nt:=41) (fun hm=>rfl) ?_
 intro E hE
 refine ae hE 1 [] [] (kp [0,1]) [] 16 pn ?_
 refine ae hE 2 [] [] (kp [0,1,10]) [] 96 pn ?_
 refine ct 0 10 h (fun cR h=>?_) (fun cR h=>?_)
 ·refine ae hE 1 [] [] (kp [4]) [] 192 pn ?_
  obtain rfl:=bQ h
  exact bV hE 0 Tryz.f119 [] (kp [4]) [] 192 pn [] pn
 ·refine ae hE 3 [] [] (kp [0,1,5]) [] 160 pn ?_
  exact b5 hE 2 [] (kp [0,1,5]) [] 0 pn (wN N _ _ N _ _ h E hE)
noncomputable abbrev GJ:=bu Tryz.f120
def s7 (N:Nat) (a:List Int) (b:List Int) (K:(List Int)→Int→Int→Option ((List Int))):Prop:=∀ (out:List Int) (borrow:Int) (i:Int) (r:(List Int)),K out borrow i=some r→∀ E,a3 E 0→az Tryz.prog E 120 35 (aQ E [] (aD cI 0 r)) [.code (GJ 244),.inLoop (GJ 244),.inBlock 0,.code (GJ 31)] ⟨[(0,(aD cI 0 a)),(1,(aD cI 0 b)),(5,(.os 0 0 out.length)),(6,(aI borrow)),(7,(aI i))],[(0,aO 1 cI 0 out)],1⟩
def Af (N:Nat) (a:List Int) (b:List Int) (out:List Int) (i:Int) (K:Int→Int→Option ((List Int))):Prop:=∀ (iB:Int) (s:Int) (r:(List Int)),K iB s=some r→∀ E,a3 E 0→az Tryz.prog E 120 35 (aQ E [] (aD cI 0 r)) [.code (GJ 15655),.inBlock 1,.code (GJ 979),.inLoop (GJ 244),.inBlock 0,.code (GJ 31)] ⟨[(0,(aD cI 0 a)),(1,(aD cI 0 b)),(5,(.os 0 0 out.length)),(6,(aI iB)),(7,(aI i)),(8,(aI s))],[(0,aO 1 cI 0 out)],1⟩
theorem ri (N:Nat) (a:List Int) (b:List Int) (out:List Int) (i:Int) (lM:(List Int)→Int→Int→Option ((List Int))) (yV:s7 N a b lM):Af N a b out i (jK N a b out i lM):=by
 intro iB s r h E hE
 unfold jK at h
 obtain ⟨c2,h⟩:=ab h
 refine ae hE 0 [] [] (kp [0,1] ++ [(5,.ja ((out ++ ([s]:List Int)).length))] ++ kp [6,7]) [(49,.arr 49 ((out ++ ([s]:List Int)).length) (fun zi=>cI ((out ++ ([s]:List Int)).getD zi 0)))] 81 (pc (Eq.refl out.length) (pc c2 (pc (z1 1) (pc (show ∀ zi,zi < 1→AV.fx ((fun zi=>([[(aI s)]]:List (List AV)).getD zi []) (a8 0 zi))=true from (om rfl)) (pc (show (out.length+1)=(out ++ ([s]:List Int)).length from (aw rfl rfl)) (pc (show out.length+1=(out ++ ([s]:List Int)).length from (aw rfl rfl)) (pc (show ∀ zi,zi < (out ++ ([s]:List Int)).length→(fun zi=>cI ((out ++ ([s]:List Int)).getD zi 0)) zi=((fun zm=>if zm < out.length then (fun zi=>cI (out.getD zi 0)) zm else (fun zi=>([[(aI s)]]:List (List AV)).getD zi []) (zm - out.length))) zi from (bk cI 0 out ([s]:List Int) rfl (fun _ _=>rfl) (fun zq fb=>bE cI 0 ([s]:List Int) zq fb))) pn))))))) ?_
 refine ae hE 1 [] [] (kp [0,1,5,6,7]) (kq [49]) 129 pn ?_
 exact b5 hE 1 [] (kp [0,1,5,6,7]) [(0,.af 49)] 1 pn (yV _ _ _ _ h E hE)
theorem yW (N a b fuel):s7 N a b (ej N a b fuel):=by
 induction fuel with
 | zero=>intro _ _ _ r h;rw [ej.eq_1] at h;cases h
 | succ fuel ih =>
  intro out borrow i r h E hE
  rw [ej.eq_2] at h
  refine ae hE 2 [] [] (kp [0,1,5,6,7,12]) (kq [0]) 65 pn ?_
  refine ct 0 12 h (fun cR h=>?_) (fun cR h=>?_)
  ·obtain ⟨c,h⟩:=ab h
   obtain ⟨bP,hr,h⟩:=aG h
   refine ae hE 4 [(6,oT (aI bP))] [] (kp [0,1,5,7,8]) (kq [0]) 241 (pc c (pc (nI _ _ _ _ hr) pn)) ?_
   refine ae hE 1 [] [] (kp [0,1,5,6,7,8]) (kq [0]) 257 pn ?_
   refine ae hE 2 [] [] (kp [0,1,5,6,7,8,26]) (kq [0]) 289 pn ?_
   refine ct 0 26 h (fun gB h=>?_) (fun gB h=>?_)
   ·refine ae hE 1 [] [] (kp [0,1,5,7,8]) (kq [0]) 337 pn ?_
    refine ae hE 0 [] [] (kp [0,1,5,6,7,8]) (kq [0]) 353 pn ?_
    exact b5 hE 0 [] (kp [0,1,5,6,7,8]) (kq [0]) 1 pn (ri N _ _ _ _ _ ih _ _ _ h E hE)
   ·exact b5 hE 1 [] (kp [0,1,5,6,7,8]) (kq [0]) 1 pn (ri N _ _ _ _ _ ih _ _ _ h E hE)
  ·obtain ⟨bA,dg,h⟩:=aG h
   refine ae hE 2 [(1,⟨[],true,(aD cI 0 bA),[],0,true,none⟩)] [] (kp [4]) [] 113 (pc (kO _ _ _ dg) (pc (z1 out.length) pn)) ?_
   obtain rfl:=bQ h
   exact bV hE 0 Tryz.f120 [] (kp [4]) [] 113 pn [] pn
theorem qE (N a b r) (h:mY N a b=some r):Sd 120 [(aD cI 0 a),(aD cI 0 b)] [] 0 (aD cI 0 r) []:=by
 unfold mY at h
 refine eL (fu:=Tryz.f120) (c:=GJ 1) (nt:=35) (fun hm=>rfl) ?_
 intro E hE
 refine ae hE 1 [] [] (kp [0,1]) [] 16 pn ?_
 refine ae hE 1 [] [] (kp [0,1,5]) [] 32 pn ?_
 refine ae hE 1 [] [] (kp [0,1,5,6]) [] 48 pn ?_
 refine ae hE 2 [] [] (kp [0,1,5,6,7]) [] 64 pn ?_
 exact b5 hE 2 [] (kp [0,1] ++ [(5,.mU 0)] ++ kp [6,7]) [(0,.nil 1 (fun zi=>cI (([]:List Int).getD zi 0)))] 1 pn (yW N _ _ N _ _ _ _ h E hE)
noncomputable abbrev Ag:=bu Tryz.f117
def oS (N:Nat) (a:List Int) (b:List Int) (K:(List Int)→(List Int)→Int→Option ((List Int)×(List Int))):Prop:=∀ (rest:List Int) (q:List Int) (i:Int) (r:(List Int)×(List Int)),K rest q i=some r→∀ E,a3 E 0→az Tryz.prog E 117 63 (aQ E [] (.tup [(aD cI 0 r.1),(aD cI 0 r.2)])) [.code (Ag 244),.inLoop (Ag 244),.inBlock 0,.code (Ag 31)] ⟨[(0,(aD cI 0 a)),(1,(aD cI 0 b)),(6,(aD cI 0 rest)),(7,(.os 0 0 q.length)),(8,(aI i))],[(0,aO 1 cI 0 q)],1⟩
def Bl (N:Nat) (a:List Int) (b:List Int) (q:List Int) (i:Int) (bA:(List Int)) (K:Int→Int→Option ((List Int)×(List Int))):Prop:=∀ (lo:Int) (hi:Int) (r:(List Int)×(List Int)),K lo hi=some r→∀ E,a3 E 0→az Tryz.prog E 117 63 (aQ E [] (.tup [(aD cI 0 r.1),(aD cI 0 r.2)])) [.code (Ag 62616),.inLoop (Ag 62616),.inBlock 2,.code (Ag 15655),.inBlock 1,.code (Ag 979),.inLoop (Ag 244),.inBlock 0,.code (Ag 31)] ⟨[(0,(aD cI 0 a)),(1,(aD cI 0 b)),(6,(aD cI 0 bA)),(7,(.os 0 0 q.length)),(8,(aI i)),(9,(aI lo)),(10,(aI hi))],[(0,aO 1 cI 0 q)],1⟩
def Bm (N:Nat) (a:List Int) (b:List Int) (q:List Int) (i:Int) (lo:Int) (K:(List Int)→Option ((List Int)×(List Int))):Prop:=∀ (GG:List Int) (r:(List Int)×(List Int)),K GG=some r→∀ E,a3 E 0→az Tryz.prog E 117 63 (aQ E [] (.tup [(aD cI 0 r.1),(aD cI 0 r.2)])) [.code (Ag 979),.inLoop (Ag 244),.inBlock 0,.code (Ag 31)] ⟨[(0,(aD cI 0 a)),(1,(aD cI 0 b)),(6,(aD cI 0 GG)),(7,(.os 0 0 ((q.set ((i).toNat) lo).length))),(8,(aI i))],[(0,aO 1 cI 0 (q.set ((i).toNat) lo))],1⟩
theorem s8 (N:Nat) (a:List Int) (b:List Int) (q:List Int) (i:Int) (lo:Int) (cL:(List Int)→(List Int)→Int→Option ((List Int)×(List Int))) (lU:oS N a b cL):Bm N a b q i lo (kM N a b q i lo cL):=by
 intro GG r h E hE
 unfold kM at h
 refine ae hE 0 [] [] (kp [0,1,6,7,8]) (kq [0]) 49 pn ?_
 exact b5 hE 1 [] (kp [0,1,6,7,8]) (kq [0]) 1 pn (lU _ _ _ _ h E hE)
theorem Ah (N:Nat) (a:List Int) (b:List Int) (q:List Int) (i:Int) (bA:(List Int)) (cL:(List Int)→(List Int)→Int→Option ((List Int)×(List Int))) (lU:oS N a b cL) (fuel:Nat):Bl N a b q i bA (fQ N a b q i bA cL fuel):=by
 induction fuel with
 | zero=>intro _ _ r h;rw [fQ.eq_1] at h;cases h
 | succ fuel ih =>
  intro lo hi r h E hE
  rw [fQ.eq_2] at h
  refine ae hE 2 [] [] (kp [0,1,6,7,8,9,10,32]) (kq [0]) 49 pn ?_
  refine ct 0 32 h (fun gB h=>?_) (fun gB h=>?_)
  ·refine ae hE 3 [] [] (kp [0,1,6,7,8,9,10,11]) (kq [0]) 145 (pc (show (2:Int)≠0 by decide) pn) ?_
   obtain ⟨oH,dg,h⟩:=aG h
   obtain ⟨ig,gR,h⟩:=aG h
   refine ae hE 1 [(3,⟨[],true,(aD cI 0 oH),[],0,true,none⟩),(5,oT (aI ig))] [] (kp [0,1,6,7,8,9,10,11,44]) (kq [0]) 257 (pc (show Sd 121 [(aD cI 0 b),(.sl 1 (fun zi=>(fun zi=>([[(aI (ah ((ah ((ah (lo+hi))+1)).tdiv 2)))]]:List (List AV)).getD zi []) (a8 0 zi)))] [] 0 (aD cI 0 oH) [] from (Sound.conv (qD _ _ _ _ dg) (.cons (Alike.refl _) (.cons (Alike.sl rfl (fun zq fb=>bE cI 0 ([(ah ((ah ((ah (lo+hi))+1)).tdiv 2))]:List Int) zq fb)) .nil)))) (pc (z1 1) (pc (s6 _ _ _ _ gR) pn))) ?_
   refine ct 0 44 h (fun qp h=>?_) (fun qp h=>?_)
   ·refine ae hE 0 [] [] (kp [0,1,6,7,8,9,10]) (kq [0]) 289 pn ?_
    exact b5 hE 2 [] (kp [0,1,6,7,8,9,10]) (kq [0]) 1 pn (ih _ _ _ h E hE)
   ·refine ae hE 0 [] [] (kp [0,1,6,7,8,9,10]) (kq [0]) 305 pn ?_
    exact b5 hE 2 [] (kp [0,1,6,7,8,9,10]) (kq [0]) 1 pn (ih _ _ _ h E hE)
  ·obtain ⟨c4,h⟩:=ab h
   refine ae hE 2 [] [] (kp [0,1,6] ++ [(7,.ja ((q.set ((i).toNat) lo).length))] ++ kp [8,9]) [(0,.arr 0 ((q.set ((i).toNat) lo).length) (fun zi=>cI ((q.set ((i).toNat) lo).getD zi 0)))] 129 (pc c4 (pc (cM c4) (pc (ay q ((i).toNat) lo) (pc (ay q ((i).toNat) lo) (pc (bS cI 0 q ((i).toNat) lo) pn))))) ?_
   refine ae hE 1 [] [] (kp [0,1,6,7,8,9,53]) (kq [0]) 161 pn ?_
   refine ct 0 53 h (fun zW h=>?_) (fun zW h=>?_)
   ·obtain ⟨BE,kE,h⟩:=aG h
    obtain ⟨qd,n5,h⟩:=aG h
    refine ae hE 0 [(4,⟨[],true,(aD cI 0 BE),[],0,true,none⟩),(5,oT (aD cI 0 qd))] [] (kp [0,1,6,7,8]) (kq [0]) 273 (pc (show Sd 121 [(aD cI 0 b),(.sl 1 (fun zi=>(fun zi=>([[(aI lo)]]:List (List AV)).getD zi []) (a8 0 zi)))] [] 0 (aD cI 0 BE) [] from (Sound.conv (qD _ _ _ _ kE) (.cons (Alike.refl _) (.cons (Alike.sl rfl (fun zq fb=>bE cI 0 ([lo]:List Int) zq fb)) .nil)))) (pc (z1 1) (pc (qE _ _ _ _ n5) pn))) ?_
    exact b5 hE 1 [] (kp [0,1,6,7,8]) (kq [0]) 1 pn (s8 N _ _ _ _ _ _ lU _ _ h E hE)
   ·exact b5 hE 2 [] (kp [0,1,6,7,8]) (kq [0]) 1 pn (s8 N _ _ _ _ _ _ lU _ _ h E hE)
theorem Ai (N a b fuel):oS N a b (fR N a b fuel):=by
 induction fuel with
 | zero=>intro _ _ _ r h;rw [fR.eq_1] at h;cases h
 | succ fuel ih =>
  intro rest q i r h E hE
  rw [fR.eq_2] at h
  refine ae hE 2 [] [] (kp [0,1,6,7,8,19]) (kq [0]) 33 pn ?_
  refine ct 0 19 h (fun cR h=>?_) (fun cR h=>?_)
  ·obtain ⟨c2,h⟩:=ab h
   obtain ⟨c3,h⟩:=ab h
   obtain ⟨bA,hr,h⟩:=aG h
   refine ae hE 4 [(7,⟨[],true,(aD cI 0 bA),[],0,true,none⟩)] [] (kp [0,1,6,7,8]) (kq [0]) 177 (pc c2 (pc (Eq.refl 1) (pc c3 (pc (show ∀ zi,zi < rest.length→AV.fx ((fun zi=>cI (rest.getD zi 0)) zi)=true from (fun _ _=>rfl)) (pc (show Sd 129 [(.sl (1+rest.length) (fun zi=>((fun zm=>if zm < 1 then (fun zi=>([[(aI (a.getD ((i).toNat) 0))]]:List (List AV)).getD zi []) zm else (fun zi=>cI (rest.getD zi 0)) (zm - 1))) (a8 0 zi)))] [] 0 (aD cI 0 bA) [] from (Sound.conv (kO _ _ _ hr) (.cons (Alike.sl (aw rfl rfl) (bk cI 0 ([(a.getD ((i).toNat) 0)]:List Int) rest rfl (fun zq fb=>bE cI 0 ([(a.getD ((i).toNat) 0)]:List Int) zq fb) (fun _ _=>rfl))) .nil))) (pc (z1 (1+rest.length)) pn)))))) ?_
   refine ae hE 1 [] [] (kp [0,1,6,7,8,9,10]) (kq [0]) 209 pn ?_
   exact b5 hE 3 [] (kp [0,1,6,7,8,9,10]) (kq [0]) 1 pn (Ah N _ _ _ _ _ _ ih N _ _ _ h E hE)
  ·obtain ⟨gK,sH,h⟩:=aG h
   refine ae hE 2 [(1,⟨[],true,(aD cI 0 gK),[],0,true,none⟩)] [] (kp [4,5]) [] 113 (pc (kO _ _ _ sH) (pc (z1 q.length) pn)) ?_
   obtain rfl:=bQ h
   exact bV hE 0 Tryz.f117 [] (kp [4,5]) [] 113 pn [] pn
theorem rY (N a b r) (h:lz N a b=some r):Sd 117 [(aD cI 0 a),(aD cI 0 b)] [] 0 (.tup [(aD cI 0 r.1),(aD cI 0 r.2)]) []:=by
 unfold lz at h
 refine eL (fu:=Tryz.f117) (c:=Ag 1) (nt:=63) (fun hm=>rfl) ?_
 intro E hE
 refine ae hE 1 [] [] (kp [0,1]) [] 32 pn ?_
 refine ae hE 1 [] [] (kp [0,1,6]) [] 48 pn ?_
 obtain ⟨c,h⟩:=ab h
 refine ae hE 1 [] [] (kp [0,1,6] ++ [(7,.ja ((List.replicate a.length 0:List Int).length))]) [(80,.arr 80 ((List.replicate a.length 0:List Int).length) (fun zi=>cI ((List.replicate a.length 0:List Int).getD zi 0)))] 112 (pc (show 0≤((a.length:Nat):Int) from c.1) (pc (show ((a.length:Nat):Int)≤((a.length:Nat):Int) from (Int.le_refl _)) (pc (show (8:Int) * ((a.length:Nat):Int)≤281474976710656 from c.2.1) (pc (show ((a.length:Nat):Int)≤9223372036854775807 from c.2.2) (pc (show a.length=(List.replicate a.length 0:List Int).length from (eb).symm) (pc (show a.length=(List.replicate a.length 0:List Int).length from (eb).symm) (pc (show ∀ zi,zi < (List.replicate a.length 0:List Int).length→(fun zi=>cI ((List.replicate a.length 0:List Int).getD zi 0)) zi=(fun _=>[(aI 0)]) zi from (fun zq fb=>pz cI 0 0 a.length zq fb)) pn))))))) ?_
 refine ae hE 2 [] [] (kp [0,1,6,7,8]) (kq [80]) 176 pn ?_
 exact b5 hE 2 [] (kp [0,1] ++ [(6,.sl (([]:List Int).length) (fun zi=>cI (([]:List Int).getD zi 0)))] ++ kp [7,8]) [(0,.af 80)] 1 (pc (Eq.refl 0) pn) (Ai N _ _ N _ _ _ _ h E hE)
noncomputable abbrev Ny:=bu Tryz.f116
def CY (N:Nat) (K:(List Int)→(List Int)→Option ((List Int))):Prop:=∀ (a2:List Int) (b2:List Int) (r:(List Int)),K a2 b2=some r→∀ E,a3 E 0→az Tryz.prog E 116 19 (aQ E [] (aD cI 0 r)) [.code (Ny 24),.inLoop (Ny 24),.inBlock 0,.code (Ny 7)] ⟨[(0,(aD cI 0 a2)),(1,(aD cI 0 b2))],[],0⟩
theorem Bn (N fuel):CY N (j7 N fuel):=by
 induction fuel with
 | zero=>intro _ _ r h;rw [j7.eq_1] at h;cases h
 | succ fuel ih =>
  intro a2 b2 r h E hE
  rw [j7.eq_2] at h
  refine ae hE 2 [] [] (kp [0,1,9]) [] 48 pn ?_
  refine ct 0 9 h (fun cR h=>?_) (fun cR h=>?_)
  ·obtain ⟨jF,hr,h⟩:=aG h
   refine ae hE 3 [(2,oT (.tup [(aD cI 0 jF.1),(aD cI 0 jF.2)]))] [] (kp [1,6]) [] 176 (pc (rY _ _ _ _ hr) pn) ?_
   refine ae hE 0 [] [] (kp [0,1]) [] 240 pn ?_
   exact b5 hE 2 [] (kp [0,1]) [] 0 pn (ih _ _ _ h E hE)
  ·refine ae hE 2 [] [] (kp [4]) [] 80 pn ?_
   obtain rfl:=bQ h
   exact bV hE 0 Tryz.f116 [] (kp [4]) [] 80 pn [] pn
theorem Ft (N a b r) (h:wu N a b=some r):Sd 116 [(aD cI 0 a),(aD cI 0 b)] [] 0 (aD cI 0 r) []:=by
 unfold wu at h
 refine eL (fu:=Tryz.f116) (c:=Ny 1) (nt:=19) (fun hm=>rfl) ?_
 intro E hE
 refine ae hE 1 [] [] (kp [0,1]) [] 16 pn ?_
 exact b5 hE 3 [] (kp [0,1]) [] 0 pn (Bn N N _ _ _ h E hE)
noncomputable abbrev T6:=bu Tryz.f94
theorem oh (N a b r) (h:mM N a b=some r):Sd 94 [(.agg (jr a)),(.agg (jr b))] [] 0 (.agg (ai r)) []:=by
 unfold mM at h
 refine eL (fu:=Tryz.f94) (c:=T6 1) (nt:=52) (fun hm=>rfl) ?_
 intro E hE
 refine ae hE 1 [] [] (kp [2,3,4]) (kq [0,16,32]) 48 pn ?_
 obtain ⟨kY,hr,h⟩:=aG h
 obtain ⟨l7,dg,h⟩:=aG h
 refine ae hE 1 [(2,oT (aD cI 0 kY)),(5,oT (aD cI 0 l7))] [] (kp [2,3,4,5,6]) (kq [0,16,32]) 176 (pc o1 (pc (g9 _ _ _ hr) (pc o1 (pc (g9 _ _ _ dg) pn)))) ?_
 refine ae hE 2 [] [] (kp [2,3,4,5,6,20]) (kq [0,16,32]) 224 pn ?_
 refine ct 0 20 h (fun cR h=>?_) (fun cR h=>?_)
 ·obtain ⟨nF,gR,h⟩:=aG h
  obtain ⟨Ew,kE,h⟩:=aG h
  refine ae hE 1 [(3,oT (.agg (jr nF))),(4,oT (.agg (jr Ew)))] [] (kp [4]) (kq [32]) 336 (pc o1 (pc (fW _ _ _ _ gR) (pc (vQ _ _ _ kE) (pc o1 pn)))) ?_
  obtain rfl:=bQ h
  exact bV hE 0 Tryz.f94 [] (kp [4]) [(16,.af 32)] 336 pn [16] (pc o1 pn)
 ·obtain ⟨Nb,n5,h⟩:=aG h
  refine ae hE 2 [(2,oT (aD cI 0 Nb))] [] (kp [2,3,4,5,6,7]) (kq [0,16,32]) 288 (pc (Ft _ _ _ _ n5) pn) ?_
  obtain ⟨jF,sH,h⟩:=aG h
  refine ae hE 1 [(2,oT (.tup [(aD cI 0 jF.1),(aD cI 0 jF.2)]))] [] (kp [2,3,4,6,7,8]) (kq [0,16,32]) 416 (pc (rY _ _ _ _ sH) pn) ?_
  obtain ⟨iL,tL,h⟩:=aG h
  refine ae hE 1 [(2,oT (.tup [(aD cI 0 iL.1),(aD cI 0 iL.2)]))] [] (kp [2,3,4,8,10]) (kq [0,16,32]) 544 (pc (rY _ _ _ _ tL) pn) ?_
  obtain ⟨xC,AZ,h⟩:=aG h
  obtain ⟨xD,AY,h⟩:=aG h
  refine ae hE 1 [(6,oT (.agg (jr xC))),(8,oT (.agg (jr xD)))] [] (kp [4]) (kq [32]) 720 (pc o1 (pc o1 (pc (fW _ _ _ _ AZ) (pc (fW _ _ _ _ AY) (pc o1 pn))))) ?_
  obtain rfl:=bQ h
  exact bV hE 0 Tryz.f94 [] (kp [4]) [(16,.af 32)] 720 pn [16] (pc o1 pn)
noncomputable abbrev T7:=bu Tryz.f84
theorem eI (N x r) (h:eN N x=some r):Sd 84 [(.agg (ai x))] [] 0 (.agg (ai r)) []:=by
 unfold eN at h
 refine eL (fu:=Tryz.f84) (c:=T7 1) (nt:=8) (fun hm=>rfl) ?_
 intro E hE
 refine ae hE 1 [] [] (kp [1,2]) (kq [0,16]) 32 pn ?_
 obtain ⟨qk,hr,h⟩:=aG h
 refine ae hE 1 [(4,oT (.agg (ai qk)))] [] (kp [2]) (kq [16]) 128 (pc o1 (pc o1 (pc (oh _ _ _ _ hr) (pc o1 pn)))) ?_
 obtain rfl:=bQ h
 exact bV hE 0 Tryz.f84 [] (kp [2]) (kq [16]) 128 pn [16] (pc o1 pn)
noncomputable abbrev Q9:=bu Tryz.f92
theorem DK (N a r) (h:tF N a=some r):Sd 92 [(.agg (jr a))] [] 0 (aI r) []:=by
 unfold tF at h
 refine eL (fu:=Tryz.f92) (c:=Q9 1) (nt:=10) (fun hm=>rfl) ?_
 intro E hE
 refine ae hE 1 [] [] (kp [1]) (kq [0]) 32 pn ?_
 obtain ⟨kY,hr,h⟩:=aG h
 refine ae hE 2 [(2,oT (aD cI 0 kY))] [] (kp [1,7]) (kq [0]) 112 (pc o1 (pc (g9 _ _ _ hr) pn)) ?_
 refine ct 0 7 h (fun cR h=>?_) (fun cR h=>?_)
 ·refine ae hE 1 [] [] (kp [2]) [] 128 pn ?_
  obtain rfl:=bQ h
  exact bV hE 0 Tryz.f92 [] (kp [2]) [] 128 pn [] pn
 ·refine ae hE 3 [] [] (kp [9]) [] 144 (pc o1 pn) ?_
  refine ct 0 9 h (fun gB h=>?_) (fun gB h=>?_)
  ·refine ae hE 1 [] [] (kp [2]) [] 160 pn ?_
   obtain rfl:=bQ h
   exact bV hE 0 Tryz.f92 [] (kp [2]) [] 160 pn [] pn
  ·refine ae hE 2 [] [] (kp [2]) [] 160 pn ?_
   obtain rfl:=bQ h
   exact bV hE 0 Tryz.f92 [] (kp [2]) [] 160 pn [] pn
noncomputable abbrev T8:=bu Tryz.f52
theorem fF (N x r) (h:fS N x=some r):Sd 52 [(.agg (ai x))] [] 0 (aI r) []:=by
 unfold fS at h
 refine eL (fu:=Tryz.f52) (c:=T8 1) (nt:=7) (fun hm=>rfl) ?_
 intro E hE
 refine ae hE 1 [] [] (kp [1]) (kq [0]) 32 pn ?_
 obtain ⟨dk,hr,h⟩:=aG h
 obtain ⟨Lw,dg,h⟩:=aG h
 refine ae hE 1 [(1,oT (.agg (ai dk))),(3,oT (aI Lw))] [] (kp [2]) [] 112 (pc o1 (pc (eI _ _ _ hr) (pc (DK _ _ _ dg) pn))) ?_
 obtain rfl:=bQ h
 exact bV hE 0 Tryz.f52 [] (kp [2]) [] 112 pn [] pn
noncomputable abbrev Ra:=bu Tryz.f85
theorem Fu (N a r) (h:zM N a=some r):Sd 85 [(.agg (jr a))] [] 0 (.agg (jr r)) []:=by
 unfold zM at h
 refine eL (fu:=Tryz.f85) (c:=Ra 1) (nt:=10) (fun hm=>rfl) ?_
 intro E hE
 refine ae hE 1 [] [] (kp [1,2]) (kq [0,16]) 32 pn ?_
 obtain ⟨kY,hr,h⟩:=aG h
 obtain ⟨nF,dg,h⟩:=aG h
 refine ae hE 1 [(5,oT (aD cI 0 kY)),(6,oT (.agg (jr nF)))] [] (kp [2]) (kq [16]) 160 (pc o1 (pc o1 (pc (g9 _ _ _ hr) (pc (fW _ _ _ _ dg) (pc o1 pn))))) ?_
 obtain rfl:=bQ h
 exact bV hE 0 Tryz.f85 [] (kp [2]) (kq [16]) 160 pn [16] (pc o1 pn)
noncomputable abbrev Rb:=bu Tryz.f40
theorem Bo (N x r) (h:tG N x=some r):Sd 40 [(.agg (ai x))] [] 0 (.agg (ai r)) []:=by
 unfold tG at h
 refine eL (fu:=Tryz.f40) (c:=Rb 1) (nt:=12) (fun hm=>rfl) ?_
 intro E hE
 refine ae hE 1 [] [] (kp [1,2]) (kq [0,16]) 32 pn ?_
 obtain ⟨dk,hr,h⟩:=aG h
 refine ae hE 1 [(1,oT (.agg (ai dk)))] [] (kp [2,3]) (kq [16,64]) 96 (pc o1 (pc (eI _ _ _ hr) (pc o1 pn))) ?_
 obtain ⟨Px,dg,h⟩:=aG h
 refine ae hE 1 [(2,oT (.agg (jr Px)))] [] (kp [2]) (kq [16]) 208 (pc o1 (pc (Fu _ _ _ dg) (pc o1 (pc o1 pn)))) ?_
 obtain rfl:=bQ h
 exact bV hE 0 Tryz.f40 [] (kp [2]) (kq [16]) 208 pn [16] (pc o1 pn)
noncomputable abbrev Rc:=bu Tryz.f96
theorem kf (N a b r) (h:lN N a b=some r):Sd 96 [(.agg (jr a)),(.agg (jr b))] [] 0 (.agg (jr r)) []:=by
 unfold lN at h
 refine eL (fu:=Tryz.f96) (c:=Rc 1) (nt:=18) (fun hm=>rfl) ?_
 intro E hE
 refine ae hE 1 [] [] (kp [2,3,4]) (kq [0,16,32]) 48 pn ?_
 obtain ⟨kY,hr,h⟩:=aG h
 obtain ⟨l7,dg,h⟩:=aG h
 obtain ⟨oH,gR,h⟩:=aG h
 obtain ⟨nF,kE,h⟩:=aG h
 refine ae hE 1 [(7,oT (aD cI 0 kY)),(10,oT (aD cI 0 l7)),(11,oT (aD cI 0 oH)),(12,oT (.agg (jr nF)))] [] (kp [4]) (kq [32]) 272 (pc o1 (pc o1 (pc o1 (pc (g9 _ _ _ hr) (pc o1 (pc (g9 _ _ _ dg) (pc (qD _ _ _ _ gR) (pc (fW _ _ _ _ kE) (pc o1 pn))))))))) ?_
 obtain rfl:=bQ h
 exact bV hE 0 Tryz.f96 [] (kp [4]) [(16,.af 32)] 272 pn [16] (pc o1 pn)
noncomputable abbrev IW:=bu Tryz.f118
def Bp (N:Nat) (a:List Int) (b:List Int) (K:(List Int)→Int→Int→Option ((List Int))):Prop:=∀ (out:List Int) (carry:Int) (i:Int) (r:(List Int)),K out carry i=some r→∀ E,a3 E 0→az Tryz.prog E 118 43 (aQ E [] (aD cI 0 r)) [.code (IW 244),.inLoop (IW 244),.inBlock 0,.code (IW 31)] ⟨[(0,(aD cI 0 a)),(1,(aD cI 0 b)),(5,(.os 0 0 out.length)),(6,(aI carry)),(7,(aI i))],[(0,aO 1 cI 0 out)],1⟩
theorem Aj (N a b fuel):Bp N a b (mg N a b fuel):=by
 induction fuel with
 | zero=>intro _ _ _ r h;rw [mg.eq_1] at h;cases h
 | succ fuel ih =>
  intro out carry i r h E hE
  rw [mg.eq_2] at h
  refine ae hE 2 [] [] (kp [0,1,5,6,7,22]) (kq [0]) 225 (pc (fun hg:(!(decide (i < ((a.length:Nat):Int))))=true=>(pc hg pn)) (pc (fun hg:(!(decide (i < ((a.length:Nat):Int))))=true=>(pc hg (pc hg pn))) (pc (fun hq:(!(decide (i < ((a.length:Nat):Int))))=true=>(pc hq pn)) (pc (fun hg:(!(cond (decide (i < ((a.length:Nat):Int))) true (decide (i < ((b.length:Nat):Int)))))=true=>(pc hg pn)) (pc (fun hq:(!(cond (decide (i < ((a.length:Nat):Int))) true (decide (i < ((b.length:Nat):Int)))))=true=>(pc hq pn)) pn))))) ?_
  refine ct 0 22 h (fun cR h=>?_) (fun cR h=>?_)
  ·obtain ⟨bP,hr,h⟩:=aG h
   obtain ⟨j8,dg,h⟩:=aG h
   refine ae hE 4 [(2,oT (aI bP)),(5,oT (aI j8))] [] (kp [0,1,5,7,8]) (kq [0]) 385 (pc (nI _ _ _ _ hr) (pc (nI _ _ _ _ dg) pn)) ?_
   obtain ⟨c,h⟩:=ab h
   refine ae hE 1 [] [] (kp [0,1] ++ [(5,.ja ((out ++ ([((ah ((ah (bP+j8))+carry)).tmod 65536)]:List Int)).length))] ++ kp [7,8]) [(449,.arr 449 ((out ++ ([((ah ((ah (bP+j8))+carry)).tmod 65536)]:List Int)).length) (fun zi=>cI ((out ++ ([((ah ((ah (bP+j8))+carry)).tmod 65536)]:List Int)).getD zi 0)))] 481 (pc (show (65536:Int)≠0 by decide) (pc (Eq.refl out.length) (pc c (pc (z1 1) (pc (show ∀ zi,zi < 1→AV.fx ((fun zi=>([[(aI ((ah ((ah (bP+j8))+carry)).tmod 65536))]]:List (List AV)).getD zi []) (a8 0 zi))=true from (om rfl)) (pc (show (out.length+1)=(out ++ ([((ah ((ah (bP+j8))+carry)).tmod 65536)]:List Int)).length from (aw rfl rfl)) (pc (show out.length+1=(out ++ ([((ah ((ah (bP+j8))+carry)).tmod 65536)]:List Int)).length from (aw rfl rfl)) (pc (show ∀ zi,zi < (out ++ ([((ah ((ah (bP+j8))+carry)).tmod 65536)]:List Int)).length→(fun zi=>cI ((out ++ ([((ah ((ah (bP+j8))+carry)).tmod 65536)]:List Int)).getD zi 0)) zi=((fun zm=>if zm < out.length then (fun zi=>cI (out.getD zi 0)) zm else (fun zi=>([[(aI ((ah ((ah (bP+j8))+carry)).tmod 65536))]]:List (List AV)).getD zi []) (zm - out.length))) zi from (bk cI 0 out ([((ah ((ah (bP+j8))+carry)).tmod 65536)]:List Int) rfl (fun _ _=>rfl) (fun zq fb=>bE cI 0 ([((ah ((ah (bP+j8))+carry)).tmod 65536)]:List Int) zq fb))) pn)))))))) ?_
   refine ae hE 0 [] [] (kp [0,1,5,6,7]) (kq [449]) 529 (pc (show (65536:Int)≠0 by decide) pn) ?_
   refine ae hE 1 [] [] (kp [0,1,5,6,7]) (kq [449]) 577 pn ?_
   exact b5 hE 1 [] (kp [0,1,5,6,7]) [(0,.af 449)] 1 pn (ih _ _ _ _ h E hE)
  ·obtain ⟨bA,gR,h⟩:=aG h
   refine ae hE 2 [(1,⟨[],true,(aD cI 0 bA),[],0,true,none⟩)] [] (kp [4]) [] 273 (pc (kO _ _ _ gR) (pc (z1 out.length) pn)) ?_
   obtain rfl:=bQ h
   exact bV hE 0 Tryz.f118 [] (kp [4]) [] 273 pn [] pn
theorem DL (N a b r) (h:xE N a b=some r):Sd 118 [(aD cI 0 a),(aD cI 0 b)] [] 0 (aD cI 0 r) []:=by
 unfold xE at h
 refine eL (fu:=Tryz.f118) (c:=IW 1) (nt:=43) (fun hm=>rfl) ?_
 intro E hE
 refine ae hE 1 [] [] (kp [0,1]) [] 16 pn ?_
 refine ae hE 1 [] [] (kp [0,1,5]) [] 32 pn ?_
 refine ae hE 1 [] [] (kp [0,1,5,6]) [] 48 pn ?_
 refine ae hE 2 [] [] (kp [0,1,5,6,7]) [] 64 pn ?_
 exact b5 hE 2 [] (kp [0,1] ++ [(5,.mU 0)] ++ kp [6,7]) [(0,.nil 1 (fun zi=>cI (([]:List Int).getD zi 0)))] 1 pn (Aj N _ _ N _ _ _ _ h E hE)
noncomputable abbrev Rd:=bu Tryz.f95
theorem Fv (N a b r) (h:zN N a b=some r):Sd 95 [(.agg (jr a)),(.agg (jr b))] [] 0 (.agg (jr r)) []:=by
 unfold zN at h
 refine eL (fu:=Tryz.f95) (c:=Rd 1) (nt:=40) (fun hm=>rfl) ?_
 intro E hE
 refine ae hE 1 [] [] (kp [2,3,4]) (kq [0,16,32]) 48 pn ?_
 obtain ⟨kY,hr,h⟩:=aG h
 obtain ⟨l7,dg,h⟩:=aG h
 refine ae hE 1 [(2,oT (aD cI 0 kY)),(5,oT (aD cI 0 l7))] [] (kp [2,3,4,5,6]) (kq [0,16,32]) 176 (pc o1 (pc (g9 _ _ _ hr) (pc o1 (pc (g9 _ _ _ dg) pn)))) ?_
 refine ae hE 2 [] [] (kp [2,3,4,5,6,17]) (kq [0,16,32]) 256 (pc o1 (pc o1 pn)) ?_
 refine ct 0 17 h (fun cR h=>?_) (fun cR h=>?_)
 ·obtain ⟨Ct,gR,h⟩:=aG h
  obtain ⟨nF,kE,h⟩:=aG h
  refine ae hE 1 [(4,oT (aD cI 0 Ct)),(5,oT (.agg (jr nF)))] [] (kp [4]) (kq [32]) 368 (pc o1 (pc (DL _ _ _ _ gR) (pc (fW _ _ _ _ kE) (pc o1 pn)))) ?_
  obtain rfl:=bQ h
  exact bV hE 0 Tryz.f95 [] (kp [4]) [(16,.af 32)] 368 pn [16] (pc o1 pn)
 ·obtain ⟨ig,n5,h⟩:=aG h
  refine ae hE 3 [(2,oT (aI ig))] [] (kp [2,3,4,5,6,27]) (kq [0,16,32]) 320 (pc (s6 _ _ _ _ n5) pn) ?_
  refine ct 0 27 h (fun gB h=>?_) (fun gB h=>?_)
  ·obtain ⟨qd,sH,h⟩:=aG h
   obtain ⟨xC,tL,h⟩:=aG h
   refine ae hE 1 [(4,oT (aD cI 0 qd)),(5,oT (.agg (jr xC)))] [] (kp [4]) (kq [32]) 432 (pc o1 (pc (qE _ _ _ _ sH) (pc (fW _ _ _ _ tL) (pc o1 pn)))) ?_
   obtain rfl:=bQ h
   exact bV hE 0 Tryz.f95 [] (kp [4]) [(16,.af 32)] 432 pn [16] (pc o1 pn)
  ·obtain ⟨tz,AZ,h⟩:=aG h
   obtain ⟨xD,AY,h⟩:=aG h
   refine ae hE 2 [(4,oT (aD cI 0 tz)),(5,oT (.agg (jr xD)))] [] (kp [4]) (kq [32]) 432 (pc o1 (pc (qE _ _ _ _ AZ) (pc (fW _ _ _ _ AY) (pc o1 pn)))) ?_
   obtain rfl:=bQ h
   exact bV hE 0 Tryz.f95 [] (kp [4]) [(16,.af 32)] 432 pn [16] (pc o1 pn)
noncomputable abbrev Re:=bu Tryz.f55
theorem e8 (N x y r) (h:fT N x y=some r):Sd 55 [(.agg (ai x)),(.agg (ai y))] [] 0 (.agg (ai r)) []:=by
 unfold fT at h
 refine eL (fu:=Tryz.f55) (c:=Re 1) (nt:=28) (fun hm=>rfl) ?_
 intro E hE
 refine ae hE 1 [] [] (kp [2,3,4]) (kq [0,16,32]) 48 pn ?_
 obtain ⟨dk,hr,h⟩:=aG h
 obtain ⟨fC,dg,h⟩:=aG h
 refine ae hE 1 [(1,oT (.agg (ai dk))),(3,oT (.agg (ai fC)))] [] (kp [4,5,6]) (kq [32,112,128]) 176 (pc o1 (pc (eI _ _ _ hr) (pc o1 (pc (eI _ _ _ dg) (pc o1 (pc o1 pn)))))) ?_
 obtain ⟨qf,gR,h⟩:=aG h
 obtain ⟨lp,kE,h⟩:=aG h
 obtain ⟨HO,n5,h⟩:=aG h
 obtain ⟨Cu,sH,h⟩:=aG h
 obtain ⟨qk,tL,h⟩:=aG h
 refine ae hE 1 [(4,oT (.agg (jr qf))),(9,oT (.agg (jr lp))),(10,oT (.agg (jr HO))),(15,oT (.agg (jr Cu))),(16,oT (.agg (ai qk)))] [] (kp [4]) (kq [32]) 464 (pc o1 (pc o1 (pc (kf _ _ _ _ gR) (pc o1 (pc o1 (pc (kf _ _ _ _ kE) (pc (Fv _ _ _ _ n5) (pc o1 (pc o1 (pc (kf _ _ _ _ sH) (pc (oh _ _ _ _ tL) (pc o1 pn)))))))))))) ?_
 obtain rfl:=bQ h
 exact bV hE 0 Tryz.f55 [] (kp [4]) [(16,.af 32)] 464 pn [16] (pc o1 pn)
noncomputable abbrev Rf:=bu Tryz.f83
theorem uv (N x y r) (h:pE N x y=some r):Sd 83 [(.agg (ai x)),(.agg (ai y))] [] 0 (.agg (ai r)) []:=by
 unfold pE at h
 refine eL (fu:=Tryz.f83) (c:=Rf 1) (nt:=9) (fun hm=>rfl) ?_
 intro E hE
 refine ae hE 1 [] [] (kp [2,3,4]) (kq [0,16,32]) 48 pn ?_
 obtain ⟨Fh,hr,h⟩:=aG h
 obtain ⟨aW,dg,h⟩:=aG h
 refine ae hE 1 [(2,oT (.agg (ai Fh))),(3,oT (.agg (ai aW)))] [] (kp [4]) (kq [32]) 128 (pc o1 (pc o1 (pc (Bo _ _ _ hr) (pc (e8 _ _ _ _ dg) (pc o1 pn))))) ?_
 obtain rfl:=bQ h
 exact bV hE 0 Tryz.f83 [] (kp [4]) [(16,.af 32)] 128 pn [16] (pc o1 pn)
noncomputable abbrev Rg:=bu Tryz.f53
theorem Bq (N x y r) (h:tH N x y=some r):Sd 53 [(.agg (ai x)),(.agg (ai y))] [] 0 (aI r) []:=by
 unfold tH at h
 refine eL (fu:=Tryz.f53) (c:=Rg 1) (nt:=9) (fun hm=>rfl) ?_
 intro E hE
 refine ae hE 1 [] [] (kp [2,3]) (kq [0,16]) 48 pn ?_
 obtain ⟨au,hr,h⟩:=aG h
 obtain ⟨eG,dg,h⟩:=aG h
 refine ae hE 1 [(2,oT (.agg (ai au))),(3,oT (aI eG))] [] (kp [4]) [] 128 (pc o1 (pc o1 (pc (uv _ _ _ _ hr) (pc (fF _ _ _ dg) pn)))) ?_
 obtain rfl:=bQ h
 exact bV hE 0 Tryz.f53 [] (kp [4]) [] 128 pn [] pn
end Go.Den
