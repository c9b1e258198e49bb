/- Each function of the program does what its Lean function computes (part 2). No conditions. -/
import Derived.Test.YtdigjibahkjfdaaGreatExactNoBetterSa
import Derived.Test.YtdigjibahkjfdaaGreatProg
set_option linter.unusedVariables false
set_option maxRecDepth 100000
namespace Go.Den
open Go.Ab Go.Proofs Go.Ab.aw
noncomputable abbrev Vn:=cy Tryz.f76
def s5 (N:Nat) (s:List aa) (K:Int→Option (Int)):Prop:=∀ (x:Int) (r:Int),K x=some r→∀ E,aQ E 0→aw Tryz.prog E 76 19 (aY E [] (aI r)) [.code (Vn 52),.inLoop (Vn 52),.inBlock 0,.code (Vn 7)] ⟨[(0,(aK ag aa.d s)),(1,(.fn (.func 77) [] [])),(7,(aI ((s.length:Nat):Int))),(8,(aI x))],[],0⟩
theorem sq (N s fuel):s5 N s (cC N s fuel):=by
 induction fuel with
 | zero=>intro _ r h;rw [cC.eq_1] at h;cases h
 | succ fuel ih =>
  intro x r h E hE
  rw [cC.eq_2] at h
  refine ah hE 1 [] [] (kp [0,1,7,8,9]) [] 16 pn ?_
  refine dK 1 9 h (fun dQ h=>?_) (fun dQ h=>?_)
  ·refine ah hE 4 [] [] (kp [0,1,5,7,8]) [] 48 pn ?_
   obtain ⟨c,h⟩:=ab h
   obtain ⟨Gd,hr,h⟩:=bq h
   refine ah hE 1 [(5,oT (aB Gd))] [] (kp [0,1,5,7,8,16]) [] 144 (pc c (pc (wh _ _ _ hr) pn)) ?_
   refine dK 0 16 h (fun iZ h=>?_) (fun iZ h=>?_)
   ·refine ah hE 1 [] [] (kp [4]) [] 176 pn ?_
    obtain rfl:=dj h
    exact dw hE 0 Tryz.f76 [] (kp [4]) [] 176 pn [] pn
   ·refine ah hE 2 [] [] (kp [0,1,7,8]) [] 176 pn ?_
    exact dh hE 1 [] (kp [0,1,7,8]) [] 0 pn (ih _ _ h E hE)
  ·refine ah hE 2 [] [] (kp [4]) [] 32 pn ?_
   obtain rfl:=dj h
   exact dw hE 0 Tryz.f76 [] (kp [4]) [] 48 pn [] pn
theorem uv (N s r) (h:jF N s=some r):Sd 76 [(aK ag aa.d s),(.fn (.func 77) [] [])] [] 0 (aI r) []:=by
 unfold jF at h
 refine gX (fu:=Tryz.f76) (c:=Vn 1) (nt:=19) (fun hm=>rfl) ?_
 intro E hE
 refine ah hE 1 [] [] (kp [0,1]) [] 16 pn ?_
 refine ah hE 2 [] [] (kp [0,1,7,8]) [] 64 pn ?_
 exact dh hE 2 [] (kp [0,1,7,8]) [] 0 pn (sq N _ N _ _ h E hE)
noncomputable abbrev adt:=cy Tryz.f78
theorem tU (N i j C0 r) (h:jh N i j C0=some r):Sd 78 [(.os 0 0 C0.length),(aI i),(aI j)] [(0,aO 1 cI 0 C0)] 1 (.os 0 0 r.2.length) [(0,aO 1 cI 0 r.2)]:=by
 unfold jh at h
 refine gX (fu:=Tryz.f78) (c:=adt 1) (nt:=33) (fun hm=>absurd hm (by decide)) ?_
 intro E hE
 refine ah hE 1 [] [] (kp [0,1,2]) (kq [0]) 17 pn ?_
 obtain ⟨c,h⟩:=ab h
 refine ah hE 1 [(5,oF (.mV))] [] (kp [0,1,2]) (kq [0]) 113 (pc c pn) ?_
 refine ah hE 2 [] [] (kp [0,1,2,16]) (kq [0]) 161 pn ?_
 refine dK 0 16 h (fun dQ h=>?_) (fun dQ h=>?_)
 ·refine ah hE 1 [] [] (kp [6]) (kq [0]) 193 pn ?_
  obtain rfl:=dj h
  exact dw hE 0 Tryz.f78 [] (kp [6]) (kq [0]) 193 pn [] pn
 ·refine ah hE 2 [] [] (kp [0,1,2,7]) (kq [0]) 209 pn ?_
  obtain ⟨c2,h⟩:=ab h
  obtain ⟨c3,h⟩:=ab h
  obtain ⟨c4,h⟩:=ab h
  obtain ⟨c5,h⟩:=ab h
  obtain ⟨c6,h⟩:=ab h
  obtain ⟨c7,h⟩:=ab h
  refine ah hE 1 [(6,oF (.mV))] [] (kp [0,7]) [(0,.arr 0 ((kQ C0 ((i).toNat) ((j).toNat)).length) (fun zi=>cI ((kQ C0 ((i).toNat) ((j).toNat)).getD zi 0)))] 337 (pc c2 (pc c3 (pc c4 (pc c5 (pc (show 0 < C0.length∧((i).toNat - 0)+(C0.length - (j).toNat)≤C0.length by have h1:=c6;have h2:=c7;omega) (pc (show (j).toNat+(C0.length - (j).toNat)≤C0.length by have h1:=c6;omega) (pc (show ∀ zi,zi < C0.length→AV.kN (cI (C0.getD zi 0))=true from (fun _ _=>rfl)) (pc (show C0.length=(kQ C0 ((i).toNat) ((j).toNat)).length from (E7 c6)) (pc (show ∀ zi,zi < (kQ C0 ((i).toNat) ((j).toNat)).length→(fun zi=>cI ((kQ C0 ((i).toNat) ((j).toNat)).getD zi 0)) zi=((fun zm=>if zm < ((i).toNat - 0) then cI (C0.getD zm 0) else if zm < ((i).toNat - 0)+(C0.length - (j).toNat) then cI (C0.getD (bQ (j).toNat (zm - ((i).toNat - 0))) 0) else cI (C0.getD zm 0))) zi from (fun zq j8=>Oo cI 0 C0 ((i).toNat) ((j).toNat) c6 zq j8)) pn))))))))) ?_
  obtain ⟨c8,h⟩:=ab h
  obtain ⟨c9,h⟩:=ab h
  refine ah hE 1 [(4,oF (.mV)),(5,oF (.mV))] [] [(0,.lO (((kQ C0 ((i).toNat) ((j).toNat)).take (((i).toNat - 0)+(C0.length - (j).toNat))).length))] [(0,.arr 0 (((kQ C0 ((i).toNat) ((j).toNat)).take (((i).toNat - 0)+(C0.length - (j).toNat))).length) (fun zi=>cI (((kQ C0 ((i).toNat) ((j).toNat)).take (((i).toNat - 0)+(C0.length - (j).toNat))).getD zi 0)))] 433 (pc c8 (pc (show 0≤(((((i).toNat - 0)+(C0.length - (j).toNat)):Nat):Int) from (Int.natCast_nonneg _)) (pc (show 0≤((C0.length:Nat):Int) from (Int.natCast_nonneg _)) (pc c9 (pc (show (((i).toNat - 0)+(C0.length - (j).toNat))=((kQ C0 ((i).toNat) ((j).toNat)).take (((i).toNat - 0)+(C0.length - (j).toNat))).length from (JB c9)) (pc (show (((i).toNat - 0)+(C0.length - (j).toNat))=((kQ C0 ((i).toNat) ((j).toNat)).take (((i).toNat - 0)+(C0.length - (j).toNat))).length from (JB c9)) (pc (show ∀ zi,zi < ((kQ C0 ((i).toNat) ((j).toNat)).take (((i).toNat - 0)+(C0.length - (j).toNat))).length→(fun zi=>cI (((kQ C0 ((i).toNat) ((j).toNat)).take (((i).toNat - 0)+(C0.length - (j).toNat))).getD zi 0)) zi=(fun zi=>cI ((kQ C0 ((i).toNat) ((j).toNat)).getD zi 0)) zi from (fun zq j8=>RX cI 0 (kQ C0 ((i).toNat) ((j).toNat)) (((i).toNat - 0)+(C0.length - (j).toNat)) zq j8)) pn))))))) ?_
  refine ah hE 1 [] [] (kp [6]) (kq [0]) 465 pn ?_
  obtain rfl:=dj h
  exact dw hE 0 Tryz.f78 [] (kp [6]) (kq [0]) 465 pn [] pn
noncomputable abbrev adu:=cy Tryz.f79
theorem xu (N i j C0 r) (h:lD N i j C0=some r):Sd 79 [(.os 0 0 C0.length),(aI i),(aI j)] [(0,aO 4 ag aa.d C0)] 1 (.os 0 0 r.2.length) [(0,aO 4 ag aa.d r.2)]:=by
 unfold lD at h
 refine gX (fu:=Tryz.f79) (c:=adu 1) (nt:=33) (fun hm=>absurd hm (by decide)) ?_
 intro E hE
 refine ah hE 1 [] [] (kp [0,1,2]) (kq [0]) 17 pn ?_
 obtain ⟨c,h⟩:=ab h
 refine ah hE 1 [(5,oF (.mV))] [] (kp [0,1,2]) (kq [0]) 113 (pc c pn) ?_
 refine ah hE 2 [] [] (kp [0,1,2,16]) (kq [0]) 161 pn ?_
 refine dK 0 16 h (fun dQ h=>?_) (fun dQ h=>?_)
 ·refine ah hE 1 [] [] (kp [6]) (kq [0]) 193 pn ?_
  obtain rfl:=dj h
  exact dw hE 0 Tryz.f79 [] (kp [6]) (kq [0]) 193 pn [] pn
 ·refine ah hE 2 [] [] (kp [0,1,2,7]) (kq [0]) 209 pn ?_
  obtain ⟨c2,h⟩:=ab h
  obtain ⟨c3,h⟩:=ab h
  obtain ⟨c4,h⟩:=ab h
  obtain ⟨c5,h⟩:=ab h
  obtain ⟨c6,h⟩:=ab h
  obtain ⟨c7,h⟩:=ab h
  refine ah hE 1 [(6,oF (.mV))] [] (kp [0,7]) [(0,.arr 0 ((kQ C0 ((i).toNat) ((j).toNat)).length) (fun zi=>ag ((kQ C0 ((i).toNat) ((j).toNat)).getD zi aa.d)))] 337 (pc c2 (pc c3 (pc c4 (pc c5 (pc (show 0 < C0.length∧((i).toNat - 0)+(C0.length - (j).toNat)≤C0.length by have h1:=c6;have h2:=c7;omega) (pc (show (j).toNat+(C0.length - (j).toNat)≤C0.length by have h1:=c6;omega) (pc (show ∀ zi,zi < C0.length→AV.kN (ag (C0.getD zi aa.d))=true from (fun _ _=>rfl)) (pc (show C0.length=(kQ C0 ((i).toNat) ((j).toNat)).length from (E7 c6)) (pc (show ∀ zi,zi < (kQ C0 ((i).toNat) ((j).toNat)).length→(fun zi=>ag ((kQ C0 ((i).toNat) ((j).toNat)).getD zi aa.d)) zi=((fun zm=>if zm < ((i).toNat - 0) then ag (C0.getD zm aa.d) else if zm < ((i).toNat - 0)+(C0.length - (j).toNat) then ag (C0.getD (bQ (j).toNat (zm - ((i).toNat - 0))) aa.d) else ag (C0.getD zm aa.d))) zi from (fun zq j8=>Oo ag aa.d C0 ((i).toNat) ((j).toNat) c6 zq j8)) pn))))))))) ?_
  obtain ⟨c8,h⟩:=ab h
  obtain ⟨c9,h⟩:=ab h
  refine ah hE 1 [(4,oF (.mV)),(5,oF (.mV))] [] [(0,.lO (((kQ C0 ((i).toNat) ((j).toNat)).take (((i).toNat - 0)+(C0.length - (j).toNat))).length))] [(0,.arr 0 (((kQ C0 ((i).toNat) ((j).toNat)).take (((i).toNat - 0)+(C0.length - (j).toNat))).length) (fun zi=>ag (((kQ C0 ((i).toNat) ((j).toNat)).take (((i).toNat - 0)+(C0.length - (j).toNat))).getD zi aa.d)))] 433 (pc c8 (pc (show 0≤(((((i).toNat - 0)+(C0.length - (j).toNat)):Nat):Int) from (Int.natCast_nonneg _)) (pc (show 0≤((C0.length:Nat):Int) from (Int.natCast_nonneg _)) (pc c9 (pc (show (((i).toNat - 0)+(C0.length - (j).toNat))=((kQ C0 ((i).toNat) ((j).toNat)).take (((i).toNat - 0)+(C0.length - (j).toNat))).length from (JB c9)) (pc (show (((i).toNat - 0)+(C0.length - (j).toNat))=((kQ C0 ((i).toNat) ((j).toNat)).take (((i).toNat - 0)+(C0.length - (j).toNat))).length from (JB c9)) (pc (show ∀ zi,zi < ((kQ C0 ((i).toNat) ((j).toNat)).take (((i).toNat - 0)+(C0.length - (j).toNat))).length→(fun zi=>ag (((kQ C0 ((i).toNat) ((j).toNat)).take (((i).toNat - 0)+(C0.length - (j).toNat))).getD zi aa.d)) zi=(fun zi=>ag ((kQ C0 ((i).toNat) ((j).toNat)).getD zi aa.d)) zi from (fun zq j8=>RX ag aa.d (kQ C0 ((i).toNat) ((j).toNat)) (((i).toNat - 0)+(C0.length - (j).toNat)) zq j8)) pn))))))) ?_
  refine ah hE 1 [] [] (kp [6]) (kq [0]) 465 pn ?_
  obtain rfl:=dj h
  exact dw hE 0 Tryz.f79 [] (kp [6]) (kq [0]) 465 pn [] pn
noncomputable abbrev x9:=cy Tryz.f34
def pN (N:Nat) (C0:Int) (bd:Int) (bZ:Bool) (cL:List Int) (cO:Bool) (cP:List Int) (cg:Int) (C1:List Int) (C2:List Int) (C3:List (List aa)) (C4:List aa) (C5:List aa) (K:Int→Int→Option (Bool×jq×(List Int)×(List Int)×(List (List aa))×(List aa))):Prop:=∀ (low:Int) (x:Int) (r:Bool×jq×(List Int)×(List Int)×(List (List aa))×(List aa)),K low x=some r→∀ E,aQ E 6→aw Tryz.prog E 34 177 (aY E [(0,vN 12 [(aI r.2.1.tk),(aI r.2.1.tl),(.os 1 0 r.2.2.1.length),(.os 2 0 r.2.2.2.1.length),(.os 3 0 r.2.2.2.2.1.length),(.os 4 0 r.2.2.2.2.2.length),(.os 6 0 r.2.1.eY.length),(aB r.2.1.af.fN.fG),(eU r.2.1.af.fN.fL),(aB r.2.1.af.fD.fG),(eU r.2.1.af.fD.fL),(aI r.2.1.bI)]),(1,aO 1 cI 0 r.2.2.1),(2,aO 1 cI 0 r.2.2.2.1),(3,aM 4 ag aa.d r.2.2.2.2.1),(4,aO 4 ag aa.d r.2.2.2.2.2),(6,aO 4 ag aa.d r.2.1.eY)] (aB r.1)) [.code (x9 116),.inLoop (x9 116),.inBlock 0,.code (x9 15)] ⟨[(0,(.op 0 0 0)),(3,(aI low)),(15,(aI ((C4.length:Nat):Int))),(16,(aI x))],[(0,vN 12 [(aI C0),(aI bd),(.os 1 0 C1.length),(.os 2 0 C2.length),(.os 3 0 C3.length),(.os 4 0 C4.length),(.os 6 0 C5.length),(aB bZ),(eU cL),(aB cO),(eU cP),(aI cg)]),(1,aO 1 cI 0 C1),(2,aO 1 cI 0 C2),(3,aM 4 ag aa.d C3),(4,aO 4 ag aa.d C4),(6,aO 4 ag aa.d C5)],7⟩
def wi (N:Nat) (C0:Int) (bd:Int) (bZ:Bool) (cL:List Int) (cO:Bool) (cP:List Int) (cg:Int) (C1:List Int) (C2:List Int) (C3:List (List aa)) (C4:List aa) (C5:List aa) (x:Int) (K:Int→Option (Bool×jq×(List Int)×(List Int)×(List (List aa))×(List aa))):Prop:=∀ (R6:Int) (r:Bool×jq×(List Int)×(List Int)×(List (List aa))×(List aa)),K R6=some r→∀ E,aQ E 6→aw Tryz.prog E 34 177 (aY E [(0,vN 12 [(aI r.2.1.tk),(aI r.2.1.tl),(.os 1 0 r.2.2.1.length),(.os 2 0 r.2.2.2.1.length),(.os 3 0 r.2.2.2.2.1.length),(.os 4 0 r.2.2.2.2.2.length),(.os 6 0 r.2.1.eY.length),(aB r.2.1.af.fN.fG),(eU r.2.1.af.fN.fL),(aB r.2.1.af.fD.fG),(eU r.2.1.af.fD.fL),(aI r.2.1.bI)]),(1,aO 1 cI 0 r.2.2.1),(2,aO 1 cI 0 r.2.2.2.1),(3,aM 4 ag aa.d r.2.2.2.2.1),(4,aO 4 ag aa.d r.2.2.2.2.2),(6,aO 4 ag aa.d r.2.1.eY)] (aB r.1)) [.code (x9 935),.inLoop (x9 116),.inBlock 0,.code (x9 15)] ⟨[(0,(.op 0 0 0)),(3,(aI R6)),(15,(aI ((C4.length:Nat):Int))),(16,(aI x))],[(0,vN 12 [(aI C0),(aI bd),(.os 1 0 C1.length),(.os 2 0 C2.length),(.os 3 0 C3.length),(.os 4 0 C4.length),(.os 6 0 C5.length),(aB bZ),(eU cL),(aB cO),(eU cP),(aI cg)]),(1,aO 1 cI 0 C1),(2,aO 1 cI 0 C2),(3,aM 4 ag aa.d C3),(4,aO 4 ag aa.d C4),(6,aO 4 ag aa.d C5)],7⟩
theorem oz (N:Nat) (C0:Int) (bd:Int) (bZ:Bool) (cL:List Int) (cO:Bool) (cP:List Int) (cg:Int) (C1:List Int) (C2:List Int) (C3:List (List aa)) (C4:List aa) (C5:List aa) (x:Int) (ji:Int→Int→Option (Bool×jq×(List Int)×(List Int)×(List (List aa))×(List aa))) (vj:pN N C0 bd bZ cL cO cP cg C1 C2 C3 C4 C5 ji):wi N C0 bd bZ cL cO cP cg C1 C2 C3 C4 C5 x (ia N C0 bd bZ cL cO cP cg C1 C2 C3 C4 C5 x ji):=by
 intro R6 r h E hE
 unfold ia at h
 refine ah hE 0 [] [] (kp [0,3,15,16]) (kq [0,1,2,3,4,6]) 39 pn ?_
 exact dh hE 1 [] (kp [0,3,15,16]) (kq [0,1,2,3,4,6]) 7 pn (vj _ _ _ h E hE)
def wj (N:Nat) (K:Int→Int→(List Int)→(List Int)→(List (List aa))→(List aa)→(List aa)→Bool→(List Int)→Bool→(List Int)→Int→Option (Bool×jq×(List Int)×(List Int)×(List (List aa))×(List aa))):Prop:=∀ (cd:Int) (mW:Int) (js:List Int) (mI:List Int) (fk:List (List aa)) (il:List aa) (mX:List aa) (pP:Bool) (pQ:List Int) (sQ:Bool) (oe:List Int) (yL:Int) (r:Bool×jq×(List Int)×(List Int)×(List (List aa))×(List aa)),K cd mW js mI fk il mX pP pQ sQ oe yL=some r→∀ E,aQ E 6→aw Tryz.prog E 34 177 (aY E [(0,vN 12 [(aI r.2.1.tk),(aI r.2.1.tl),(.os 1 0 r.2.2.1.length),(.os 2 0 r.2.2.2.1.length),(.os 3 0 r.2.2.2.2.1.length),(.os 4 0 r.2.2.2.2.2.length),(.os 6 0 r.2.1.eY.length),(aB r.2.1.af.fN.fG),(eU r.2.1.af.fN.fL),(aB r.2.1.af.fD.fG),(eU r.2.1.af.fD.fL),(aI r.2.1.bI)]),(1,aO 1 cI 0 r.2.2.1),(2,aO 1 cI 0 r.2.2.2.1),(3,aM 4 ag aa.d r.2.2.2.2.1),(4,aO 4 ag aa.d r.2.2.2.2.2),(6,aO 4 ag aa.d r.2.1.eY)] (aB r.1)) [.code (x9 252),.code (x9 253),.code (x9 127)] ⟨[(0,(.op 0 0 0))],[(0,vN 12 [(aI cd),(aI mW),(.os 1 0 js.length),(.os 2 0 mI.length),(.os 3 0 fk.length),(.os 4 0 il.length),(.os 6 0 mX.length),(aB pP),(eU pQ),(aB sQ),(eU oe),(aI yL)]),(1,aO 1 cI 0 js),(2,aO 1 cI 0 mI),(3,aM 4 ag aa.d fk),(4,aO 4 ag aa.d il),(6,aO 4 ag aa.d mX)],7⟩
def wm (N:Nat) (K:Int→Int→(List Int)→(List Int)→(List (List aa))→(List aa)→(List aa)→Bool→(List Int)→Bool→(List Int)→Int→Option (Bool×jq×(List Int)×(List Int)×(List (List aa))×(List aa))):Prop:=∀ (u9:Int) (vb:Int) (se:List Int) (Lk:List Int) (AZ:List (List aa)) (sf:List aa) (BU:List aa) (vW:Bool) (vX:List Int) (vY:Bool) (vZ:List Int) (um:Int) (r:Bool×jq×(List Int)×(List Int)×(List (List aa))×(List aa)),K u9 vb se Lk AZ sf BU vW vX vY vZ um=some r→∀ E,aQ E 6→aw Tryz.prog E 34 177 (aY E [(0,vN 12 [(aI r.2.1.tk),(aI r.2.1.tl),(.os 1 0 r.2.2.1.length),(.os 2 0 r.2.2.2.1.length),(.os 3 0 r.2.2.2.2.1.length),(.os 4 0 r.2.2.2.2.2.length),(.os 6 0 r.2.1.eY.length),(aB r.2.1.af.fN.fG),(eU r.2.1.af.fN.fL),(aB r.2.1.af.fD.fG),(eU r.2.1.af.fD.fL),(aI r.2.1.bI)]),(1,aO 1 cI 0 r.2.2.1),(2,aO 1 cI 0 r.2.2.2.1),(3,aM 4 ag aa.d r.2.2.2.2.1),(4,aO 4 ag aa.d r.2.2.2.2.2),(6,aO 4 ag aa.d r.2.1.eY)] (aB r.1)) [.code (x9 254),.code (x9 255)] ⟨[(0,(.op 0 0 0))],[(0,vN 12 [(aI u9),(aI vb),(.os 1 0 se.length),(.os 2 0 Lk.length),(.os 3 0 AZ.length),(.os 4 0 sf.length),(.os 6 0 BU.length),(aB vW),(eU vX),(aB vY),(eU vZ),(aI um)]),(1,aO 1 cI 0 se),(2,aO 1 cI 0 Lk),(3,aM 4 ag aa.d AZ),(4,aO 4 ag aa.d sf),(6,aO 4 ag aa.d BU)],7⟩
def wo (N:Nat) (u9:Int) (vb:Int) (se:List Int) (AZ:List (List aa)) (sf:List aa) (BU:List aa) (vW:Bool) (vX:List Int) (vY:Bool) (vZ:List Int) (um:Int) (bw:Int) (cF:(List Int)×(List Int)) (K:(List (List aa))→Int→Option (Bool×jq×(List Int)×(List Int)×(List (List aa))×(List aa))):Prop:=∀ (k7:List (List aa)) (x2:Int) (r:Bool×jq×(List Int)×(List Int)×(List (List aa))×(List aa)),K k7 x2=some r→∀ E,aQ E 6→aw Tryz.prog E 34 177 (aY E [(0,vN 12 [(aI r.2.1.tk),(aI r.2.1.tl),(.os 1 0 r.2.2.1.length),(.os 2 0 r.2.2.2.1.length),(.os 3 0 r.2.2.2.2.1.length),(.os 4 0 r.2.2.2.2.2.length),(.os 6 0 r.2.1.eY.length),(aB r.2.1.af.fN.fG),(eU r.2.1.af.fN.fL),(aB r.2.1.af.fD.fG),(eU r.2.1.af.fD.fL),(aI r.2.1.bI)]),(1,aO 1 cI 0 r.2.2.1),(2,aO 1 cI 0 r.2.2.2.1),(3,aM 4 ag aa.d r.2.2.2.2.1),(4,aO 4 ag aa.d r.2.2.2.2.2),(6,aO 4 ag aa.d r.2.1.eY)] (aB r.1)) [.code (x9 8180),.inLoop (x9 8180),.inBlock 2,.code (x9 1023)] ⟨[(0,(.op 0 0 0)),(8,(aI bw)),(126,(aI ((AZ.length:Nat):Int))),(127,(aI x2))],[(0,vN 12 [(aI u9),(aI vb),(.os 1 0 se.length),(.os 2 0 cF.2.length),(.os 3 0 k7.length),(.os 4 0 sf.length),(.os 6 0 BU.length),(aB vW),(eU vX),(aB vY),(eU vZ),(aI um)]),(1,aO 1 cI 0 se),(2,aO 1 cI 0 cF.2),(3,aM 4 ag aa.d k7),(4,aO 4 ag aa.d sf),(6,aO 4 ag aa.d BU)],7⟩
def wq (N:Nat) (u9:Int) (vb:Int) (se:List Int) (sf:List aa) (vW:Bool) (vX:List Int) (vY:Bool) (vZ:List Int) (um:Int) (cF:(List Int)×(List Int)) (k7:List (List aa)) (K:(List aa)→Int→Option (Bool×jq×(List Int)×(List Int)×(List (List aa))×(List aa))):Prop:=∀ (BT:List aa) (x3:Int) (r:Bool×jq×(List Int)×(List Int)×(List (List aa))×(List aa)),K BT x3=some r→∀ E,aQ E 6→aw Tryz.prog E 34 177 (aY E [(0,vN 12 [(aI r.2.1.tk),(aI r.2.1.tl),(.os 1 0 r.2.2.1.length),(.os 2 0 r.2.2.2.1.length),(.os 3 0 r.2.2.2.2.1.length),(.os 4 0 r.2.2.2.2.2.length),(.os 6 0 r.2.1.eY.length),(aB r.2.1.af.fN.fG),(eU r.2.1.af.fN.fL),(aB r.2.1.af.fD.fG),(eU r.2.1.af.fD.fL),(aI r.2.1.bI)]),(1,aO 1 cI 0 r.2.2.1),(2,aO 1 cI 0 r.2.2.2.1),(3,aM 4 ag aa.d r.2.2.2.2.1),(4,aO 4 ag aa.d r.2.2.2.2.2),(6,aO 4 ag aa.d r.2.1.eY)] (aB r.1)) [.code (x9 32756),.inLoop (x9 32756),.inBlock 4,.code (x9 4095)] ⟨[(0,(.op 0 0 0)),(161,(aI (((List.replicate cF.2.length aa.d:List aa).length:Nat):Int))),(162,(aI x3))],[(0,vN 12 [(aI u9),(aI vb),(.os 1 0 se.length),(.os 2 0 cF.2.length),(.os 3 0 k7.length),(.os 4 0 sf.length),(.os 6 0 BT.length),(aB vW),(eU vX),(aB vY),(eU vZ),(aI um)]),(1,aO 1 cI 0 se),(2,aO 1 cI 0 cF.2),(3,aM 4 ag aa.d k7),(4,aO 4 ag aa.d sf),(6,aO 4 ag aa.d BT)],7⟩
theorem vk (N u9 vb se sf vW vX vY vZ um cF k7 fuel):wq N u9 vb se sf vW vX vY vZ um cF k7 (dR N u9 vb se sf vW vX vY vZ um cF k7 fuel):=by
 induction fuel with
 | zero=>intro _ _ r h;rw [dR.eq_1] at h;cases h
 | succ fuel ih =>
  intro BT x3 r h E hE
  rw [dR.eq_2] at h
  refine ah hE 1 [] [] (kp [0,161,162,163]) (kq [0,1,2,3,4,6]) 23 pn ?_
  refine dK 1 163 h (fun hq8 h=>?_) (fun hq8 h=>?_)
  ·refine ah hE 4 [] [] (kp [0,10,161,162]) (kq [0,1,2,3,4,6]) 55 pn ?_
   obtain ⟨dV,Nk,h⟩:=bq h
   obtain ⟨XZ,h⟩:=ab h
   refine ah hE 0 [(5,oT (.agg (ag dV)))] [] (kp [0,161,162]) ([(0,.var 0 [.ai,.ai,.ai,.ai,.ai,.ai,.lO ((BT.set ((x3).toNat) dV).length),.ai,.ai,.ai,.ai,.ai])] ++ kq [1,2,3,4] ++ [(6,.arr 6 ((BT.set ((x3).toNat) dV).length) (fun zi=>ag ((BT.set ((x3).toNat) dV).getD zi aa.d)))]) 183 (pc o1 (pc (cX _ _ _ Nk) (pc XZ (pc (dm XZ) (pc (aG BT ((x3).toNat) dV) (pc (aG BT ((x3).toNat) dV) (pc (cH ag aa.d BT ((x3).toNat) dV) pn))))))) ?_
   refine ah hE 1 [] [] (kp [0,161,162]) (kq [0,1,2,3,4,6]) 215 pn ?_
   exact dh hE 1 [] (kp [0,161,162]) (kq [0,1,2,3,4,6]) 7 pn (ih _ _ _ h E hE)
  ·obtain ⟨b8,Nl,h⟩:=bq h
   refine ah hE 2 [(1,oT (.agg (ag b8)))] [] [] (kq [0,1,2,3,4,6]) 103 (pc (cX _ _ _ Nl) (pc o1 pn)) ?_
   refine ah hE 1 [] [] (kp [2]) (kq [0,1,2,3,4,6]) 119 pn ?_
   obtain rfl:=dj h
   exact dw hE 0 Tryz.f34 [] (kp [2]) (kq [0,1,2,3,4,6]) 119 pn [] pn
theorem vn (N u9 vb se AZ sf BU vW vX vY vZ um bw cF fuel):wo N u9 vb se AZ sf BU vW vX vY vZ um bw cF (dS N u9 vb se AZ sf BU vW vX vY vZ um bw cF fuel):=by
 induction fuel with
 | zero=>intro _ _ r h;rw [dS.eq_1] at h;cases h
 | succ fuel ih =>
  intro k7 x2 r h E hE
  rw [dS.eq_2] at h
  refine ah hE 1 [] [] (kp [0,8,126,127,128]) (kq [0,1,2,3,4,6]) 23 pn ?_
  refine dK 1 128 h (fun hq7 h=>?_) (fun hq7 h=>?_)
  ·refine ah hE 4 [] [] (kp [0,8,9,126,127]) (kq [0,1,2,3,4,6]) 55 pn ?_
   obtain ⟨Y1,h⟩:=ab h
   refine RU 3 ((x2).toNat) 4 ((k7.getD ((x2).toNat) []).length) (fun zi=>ag ((k7.getD ((x2).toNat) []).getD zi aa.d)) (pc Y1 (pc (show bk [] (mG k7) ((x2).toNat)=mR 4 ag aa.d (k7.getD ((x2).toNat) []) from rfl) pn)) ?_
   obtain ⟨Y2,h⟩:=ab h
   obtain ⟨pZ,Nj,h⟩:=bq h
   refine ah hE 0 [(11,oF (.os 55 0 ((k7.getD ((x2).toNat) []).length))),(15,⟨[55],false,(.os 0 0 pZ.2.length),[(0,aO 4 ag aa.d pZ.2)],0,false,none⟩)] [] (kp [0,8,126,127]) (kq [0,1,2] ++ [(3,.po 3 (k7.length) [((x2).toNat,55,pZ.2.length)] (mG k7))] ++ kq [4,6,55]) 359 (pc o1 (pc o1 (pc Y2 (pc (dm Y2) (pc (show (bk [((x2).toNat,55,(k7.getD ((x2).toNat) []).length)] (mG k7) ((x2).toNat))[0]?=some (.os 55 0 ((k7.getD ((x2).toNat) []).length)) from (gO rfl)) (pc (xu _ _ _ _ _ Nj) (pc Y2 (pc (dm Y2) (pc (Eq.refl k7.length) (pc (show ∀ zm,zm < k7.length→bk [((x2).toNat,55,pZ.2.length)] (mG k7) zm=if zm=(x2).toNat then [.os 55 0 pZ.2.length] else bk [((x2).toNat,55,(k7.getD ((x2).toNat) []).length)] (mG k7) zm from (U2 _ _ _ _ _ rfl)) (pc (iM k7) pn))))))))))) ?_
   refine PN 3 55 ((x2).toNat) (pc Y1 (pc (show bk [((x2).toNat,55,pZ.2.length)] (mG k7) ((x2).toNat)=[.os 55 0 pZ.2.length] from if_pos rfl) (pc (show ∀ zj,zj < pZ.2.length→mP (ag (pZ.2.getD zj aa.d))=true from fun _ _=>rfl) pn))) ?_
   refine Kt hE [] (kp [0,8,126,127]) ([(0,.var 0 [.ai,.ai,.ai,.ai,.lO ((k7.set ((x2).toNat) pZ.2).length),.ai,.ai,.ai,.ai,.ai,.ai,.ai])] ++ kq [1,2] ++ [(3,.po 3 ((k7.set ((x2).toNat) pZ.2).length) [] (mG (k7.set ((x2).toNat) pZ.2)))] ++ kq [4,6]) 359 (pc (aG k7 ((x2).toNat) pZ.2) (pc (aG k7 ((x2).toNat) pZ.2) (pc (BO (sz:=4) (c:=ag) (d:=aa.d) k7 ((x2).toNat) 55 pZ.2.length pZ.2 [] Y1 Dh) (pc (iM (k7.set ((x2).toNat) pZ.2)) pn)))) ?_
   refine ah hE 1 [] [] (kp [0,8,126,127]) (kq [0,1,2,3,4,6]) 391 pn ?_
   exact dh hE 1 [] (kp [0,8,126,127]) (kq [0,1,2,3,4,6]) 7 pn (ih _ _ _ h E hE)
  ·obtain ⟨Y3,h⟩:=ab h
   refine ah hE 2 [] [] (kp [0]) ([(0,.var 0 [.ai,.ai,.ai,.ai,.ai,.ai,.lO ((List.replicate cF.2.length aa.d:List aa).length),.ai,.ai,.ai,.ai,.ai])] ++ kq [1,2,3,4] ++ [(119,.RJ 119 ((List.replicate cF.2.length aa.d:List aa).length) (fun zi=>ag ((List.replicate cF.2.length aa.d:List aa).getD zi aa.d)))]) 183 (pc o1 (pc (show 0≤((cF.2.length:Nat):Int) from Y3.1) (pc (show ((cF.2.length:Nat):Int)≤((cF.2.length:Nat):Int) from (Int.le_refl _)) (pc (show (64:Int) * ((cF.2.length:Nat):Int)≤281474976710656 from Y3.2.1) (pc (show ((cF.2.length:Nat):Int)≤9223372036854775807 from Y3.2.2) (pc o1 (pc (show cF.2.length=(List.replicate cF.2.length aa.d:List aa).length from (de).symm) (pc (show (List.replicate cF.2.length aa.d:List aa).length≤cF.2.length from (Nat.le_of_eq (Eq.symm ((de).symm)))) (pc (show ∀ zi,zi < (List.replicate cF.2.length aa.d:List aa).length→Ks ((fun _=>[(aB false),.nil,(aB false),.nil]) zi) ((fun zi=>ag ((List.replicate cF.2.length aa.d:List aa).getD zi aa.d)) zi) from (fun zq j8=>oZ ag aa.d aa.d cF.2.length zq ⟨.inl rfl,.inr ⟨rfl,_,rfl⟩,.inl rfl,.inr ⟨rfl,_,rfl⟩,trivial⟩ j8)) pn))))))))) ?_
   refine ah hE 2 [] [] (kp [0,161,162]) (kq [0,1,2,3,4,119]) 279 (pc o1 pn) ?_
   exact dh hE 2 [] (kp [0,161,162]) (kq [0,1,2,3,4] ++ [(6,.ai 119)]) 7 pn (vk N _ _ _ _ _ _ _ _ _ _ _ N _ _ _ h E hE)
theorem oA (N):wm N (ic N):=by
 intro u9 vb se Lk AZ sf BU vW vX vY vZ um r h E hE
 unfold ic at h
 obtain ⟨bw,A4,h⟩:=bq h
 refine ah hE 0 [(8,oT (aI bw))] [] (kp [0,8]) (kq [0,1,2,3,4,6]) 167 (pc o1 (pc o1 (pc (dz _ _ _ _ A4) (pc (z1 Lk.length) pn)))) ?_
 obtain ⟨cF,GH,h⟩:=bq h
 refine ah hE 1 [(8,⟨[2],false,(.os 0 0 cF.2.length),[(0,aO 1 cI 0 cF.2)],0,false,none⟩)] [] (kp [0,8]) (kq [0,1,2,3,4,6]) 359 (pc o1 (pc (tU _ _ _ _ _ GH) (pc o1 pn))) ?_
 refine ah hE 2 [] [] (kp [0,8,126,127]) (kq [0,1,2,3,4,6]) 455 (pc o1 pn) ?_
 exact dh hE 2 [] (kp [0,8,126,127]) (kq [0,1,2,3,4,6]) 7 pn (vn N _ _ _ _ _ _ _ _ _ _ _ _ _ N _ _ _ h E hE)
theorem oB (N):wj N (fH N):=by
 intro cd mW js mI fk il mX pP pQ sQ oe yL r h E hE
 unfold fH at h
 obtain ⟨aN,Ag,h⟩:=bq h
 refine ah hE 0 [(8,oT (aI aN))] [] (kp [0,6]) (kq [0,1,2,3,4,6]) 167 (pc o1 (pc o1 (pc (dz _ _ _ _ Ag) (pc (z1 js.length) pn)))) ?_
 refine ah hE 1 [] [] (kp [0,6,89]) (kq [0,1,2,3,4,6]) 199 pn ?_
 refine dK 0 89 h (fun Nf h=>?_) (fun Nf h=>?_)
 ·obtain ⟨XX,h⟩:=ab h
  refine RU 3 ((aN).toNat) 4 ((fk.getD ((aN).toNat) []).length) (fun zi=>ag ((fk.getD ((aN).toNat) []).getD zi aa.d)) (pc XX (pc (show bk [] (mG fk) ((aN).toNat)=mR 4 ag aa.d (fk.getD ((aN).toNat) []) from rfl) pn)) ?_
  obtain ⟨Sb,h⟩:=ab h
  obtain ⟨Gf,HT,h⟩:=bq h
  refine ah hE 1 [(6,oF (.os 199 0 ((fk.getD ((aN).toNat) []).length))),(7,oT (aI Gf))] [] (kp [0,6,7]) (kq [0,1,2] ++ [(3,.po 3 (fk.length) [((aN).toNat,199,(fk.getD ((aN).toNat) []).length)] (mG fk))] ++ kq [4,6,199]) 359 (pc o1 (pc Sb (pc (dm Sb) (pc (show (bk [((aN).toNat,199,(fk.getD ((aN).toNat) []).length)] (mG fk) ((aN).toNat))[0]?=some (.os 199 0 ((fk.getD ((aN).toNat) []).length)) from (gO rfl)) (pc (uv _ _ _ HT) (pc (z1 ((fk.getD ((aN).toNat) []).length)) (pc (Eq.refl fk.length) (pc (mC fk [((aN).toNat,199,(fk.getD ((aN).toNat) []).length)]) (pc (iM fk) pn))))))))) ?_
  refine PN 3 199 ((aN).toNat) (pc XX (pc (show bk [((aN).toNat,199,(fk.getD ((aN).toNat) []).length)] (mG fk) ((aN).toNat)=[.os 199 0 (fk.getD ((aN).toNat) []).length] from if_pos rfl) (pc (show ∀ zj,zj < (fk.getD ((aN).toNat) []).length→mP (ag ((fk.getD ((aN).toNat) []).getD zj aa.d))=true from fun _ _=>rfl) pn))) ?_
  refine Kt hE [] (kp [0,6,7]) (kq [0,1,2] ++ [(3,.po 3 (fk.length) [] (mG fk))] ++ kq [4,6]) 359 (pc (Eq.refl (fk.length)) (pc (ri (sz:=4) (c:=ag) (d:=aa.d) fk ((aN).toNat) 199 ((fk.getD ((aN).toNat) []).length) [] Dh) (pc (iM fk) pn))) ?_
  obtain ⟨dH,HS,h⟩:=bq h
  obtain ⟨c18,h⟩:=ab h
  obtain ⟨c19,h⟩:=ab h
  obtain ⟨c20,h⟩:=ab h
  obtain ⟨c21,h⟩:=ab h
  obtain ⟨c22,h⟩:=ab h
  refine ah hE 0 [(3,⟨[0,1,2,3,4,6],false,(.tup []),[(0,vN 12 [(aI dH.1.tk),(aI dH.1.tl),(.os 1 0 dH.2.1.length),(.os 2 0 dH.2.2.1.length),(.os 3 0 dH.2.2.2.1.length),(.os 4 0 dH.2.2.2.2.1.length),(.os 5 0 dH.2.2.2.2.2.length),(aB dH.1.af.fN.fG),(eU dH.1.af.fN.fL),(aB dH.1.af.fD.fG),(eU dH.1.af.fD.fL),(aI dH.1.bI)]),(1,aO 1 cI 0 dH.2.1),(2,aO 1 cI 0 dH.2.2.1),(3,aM 4 ag aa.d dH.2.2.2.1),(4,aO 4 ag aa.d dH.2.2.2.2.1),(5,aO 4 ag aa.d dH.2.2.2.2.2)],0,false,none⟩)] [] (kp [0]) (kq [0,1,2,3,4,6]) 423 (pc (nz _ _ _ _ _ _ _ _ _ _ _ _ _ _ _ _ HS) pn) ?_
  exact dh hE 1 [] (kp [0]) (kq [0,1,2,3,4,6]) 7 pn (oA N _ _ _ _ _ _ _ _ _ _ _ _ _ h E hE)
 ·exact dh hE 2 [] (kp [0]) (kq [0,1,2,3,4,6]) 7 pn (oA N _ _ _ _ _ _ _ _ _ _ _ _ _ h E hE)
theorem vo (N C0 bd bZ cL cO cP cg C1 C2 C3 C4 C5 fuel):pN N C0 bd bZ cL cO cP cg C1 C2 C3 C4 C5 (bF N C0 bd bZ cL cO cP cg C1 C2 C3 C4 C5 fuel):=by
 induction fuel with
 | zero=>intro _ _ r h;rw [bF.eq_1] at h;cases h
 | succ fuel ih =>
  intro low x r h E hE
  rw [bF.eq_2] at h
  refine ah hE 1 [] [] (kp [0,3,15,16,17]) (kq [0,1,2,3,4,6]) 23 pn ?_
  refine dK 1 17 h (fun dQ h=>?_) (fun dQ h=>?_)
  ·refine ah hE 4 [] [] (kp [0,3,4,15,16]) (kq [0,1,2,3,4,6]) 55 pn ?_
   obtain ⟨c,h⟩:=ab h
   obtain ⟨an,hr,h⟩:=bq h
   obtain ⟨c2,h⟩:=ab h
   obtain ⟨c3,h⟩:=ab h
   obtain ⟨eT,eW,h⟩:=bq h
   refine ah hE 1 [(7,oT (aI an)),(27,oT (aI eT))] [] (kp [0,3,4,15,16,49]) (kq [0,1,2,3,4,6]) 551 (pc o1 (pc c (pc (dm c) (pc (iH _ _ _ hr) (pc (fun hg:(decide (an < 0))=true=>(pc hg pn)) (pc (fun hg:((decide (an < 0)) && ((decide (an < 0)) && (!(decide (low < 0)))))=true=>(pc hg pn)) (pc (fun hg:((decide (an < 0)) && ((decide (an < 0)) && (!(decide (low < 0)))))=true=>(pc hg pn)) (pc (fun hg:((decide (an < 0)) && ((decide (an < 0)) && (!(decide (low < 0)))))=true=>(pc hg (pc o1 pn))) (pc (fun hg:((decide (an < 0)) && ((decide (an < 0)) && (!(decide (low < 0)))))=true=>(pc hg (pc hg (pc (c2 hg) pn)))) (pc (fun hg:((decide (an < 0)) && ((decide (an < 0)) && (!(decide (low < 0)))))=true=>(pc hg (pc (dm (c2 hg)) pn))) (pc (fun hg:((decide (an < 0)) && ((decide (an < 0)) && (!(decide (low < 0)))))=true=>(pc hg pn)) (pc (fun hg:((decide (an < 0)) && ((decide (an < 0)) && (!(decide (low < 0)))))=true=>(pc hg pn)) (pc (fun hg:((decide (an < 0)) && ((decide (an < 0)) && (!(decide (low < 0)))))=true=>(pc hg (pc o1 pn))) (pc (fun hg:((decide (an < 0)) && ((decide (an < 0)) && (!(decide (low < 0)))))=true=>(pc hg (pc hg (pc (c3 hg) pn)))) (pc (fun hg:((decide (an < 0)) && ((decide (an < 0)) && (!(decide (low < 0)))))=true=>(pc hg (pc (dm (c3 hg)) pn))) (pc (fun hg:((decide (an < 0)) && ((decide (an < 0)) && (!(decide (low < 0)))))=true=>(pc (lr _ _ _ _ (ax eW hg)) (pc hg (pc hg pn)))) (pc (fun hg:((decide (an < 0)) && ((decide (an < 0)) && (!(decide (low < 0)))))=true=>(pc hg pn)) (pc (fun hg:(decide (an < 0))=true=>(pc hg (pc hg (pc (fun hq:(!(decide (low < 0)))=true=>(pc (show ((decide (an < 0)) && ((decide (an < 0)) && (!(decide (low < 0)))))=true from (uE hg (uE hg hq))) pn)) pn)))) (pc (fun hq:(decide (an < 0))=true=>(pc hq pn)) pn))))))))))))))))))) ?_
   refine dK 0 49 h (fun iZ h=>?_) (fun iZ h=>?_)
   ·refine ah hE 0 [] [] (kp [0,3,15,16]) (kq [0,1,2,3,4,6]) 583 pn ?_
    exact dh hE 1 [] (kp [0,3,15,16]) (kq [0,1,2,3,4,6]) 7 pn (oz N _ _ _ _ _ _ _ _ _ _ _ _ _ _ ih _ _ h E hE)
   ·exact dh hE 2 [] (kp [0,3,15,16]) (kq [0,1,2,3,4,6]) 7 pn (oz N _ _ _ _ _ _ _ _ _ _ _ _ _ _ ih _ _ h E hE)
  ·refine ah hE 2 [] [] (kp [0,3,5]) (kq [0,1,2,3,4,6]) 135 (pc o1 pn) ?_
   refine ah hE 2 [] [] (kp [0,3,5,59]) (kq [0,1,2,3,4,6]) 167 pn ?_
   refine dK 0 59 h (fun qq h=>?_) (fun qq h=>?_)
   ·obtain ⟨ar,lL,h⟩:=bq h
    obtain ⟨c4,h⟩:=ab h
    refine ah hE 1 [(5,oT (.agg (ag ar)))] [] (kp [0,3,5]) ([(0,.var 0 [.ai,.ai,.ai,.ai,.ai,.ai,.lO ((C5.set ((ao (((C2.length:Nat):Int) - 1)).toNat) ar).length),.ai,.ai,.ai,.ai,.ai])] ++ kq [1,2,3,4] ++ [(6,.arr 6 ((C5.set ((ao (((C2.length:Nat):Int) - 1)).toNat) ar).length) (fun zi=>ag ((C5.set ((ao (((C2.length:Nat):Int) - 1)).toNat) ar).getD zi aa.d)))]) 295 (pc o1 (pc (cX _ _ _ lL) (pc c4 (pc (dm c4) (pc (aG C5 ((ao (((C2.length:Nat):Int) - 1)).toNat) ar) (pc (aG C5 ((ao (((C2.length:Nat):Int) - 1)).toNat) ar) (pc (cH ag aa.d C5 ((ao (((C2.length:Nat):Int) - 1)).toNat) ar) pn))))))) ?_
    obtain ⟨bE,px,h⟩:=bq h
    obtain ⟨c5,h⟩:=ab h
    obtain ⟨c6,h⟩:=ab h
    obtain ⟨c7,h⟩:=ab h
    obtain ⟨c8,h⟩:=ab h
    obtain ⟨c9,h⟩:=ab h
    refine ah hE 1 [(3,⟨[0,1,2,3,4,6],false,(.tup []),[(0,vN 12 [(aI bE.1.tk),(aI bE.1.tl),(.os 1 0 bE.2.1.length),(.os 2 0 bE.2.2.1.length),(.os 3 0 bE.2.2.2.1.length),(.os 4 0 bE.2.2.2.2.1.length),(.os 5 0 bE.2.2.2.2.2.length),(aB bE.1.af.fN.fG),(eU bE.1.af.fN.fL),(aB bE.1.af.fD.fG),(eU bE.1.af.fD.fL),(aI bE.1.bI)]),(1,aO 1 cI 0 bE.2.1),(2,aO 1 cI 0 bE.2.2.1),(3,aM 4 ag aa.d bE.2.2.2.1),(4,aO 4 ag aa.d bE.2.2.2.2.1),(5,aO 4 ag aa.d bE.2.2.2.2.2)],0,false,none⟩)] [] (kp [0]) (kq [0,1,2,3,4,6]) 359 (pc (nz _ _ _ _ _ _ _ _ _ _ _ _ _ _ _ _ px) pn) ?_
    obtain ⟨aD,uI,h⟩:=bq h
    obtain ⟨Sc,h⟩:=ab h
    obtain ⟨Mj,h⟩:=ab h
    obtain ⟨Sa,h⟩:=ab h
    obtain ⟨Ng,h⟩:=ab h
    obtain ⟨QA,h⟩:=ab h
    refine ah hE 1 [(1,⟨[0,1,2,3,4,6],false,(aI aD.1),[(0,vN 12 [(aI aD.2.1.tk),(aI aD.2.1.tl),(.os 1 0 aD.2.2.1.length),(.os 2 0 aD.2.2.2.1.length),(.os 3 0 aD.2.2.2.2.1.length),(.os 4 0 aD.2.2.2.2.2.1.length),(.os 5 0 aD.2.2.2.2.2.2.length),(aB aD.2.1.af.fN.fG),(eU aD.2.1.af.fN.fL),(aB aD.2.1.af.fD.fG),(eU aD.2.1.af.fD.fL),(aI aD.2.1.bI)]),(1,aO 1 cI 0 aD.2.2.1),(2,aO 1 cI 0 aD.2.2.2.1),(3,aM 4 ag aa.d aD.2.2.2.2.1),(4,aO 4 ag aa.d aD.2.2.2.2.2.1),(5,aO 4 ag aa.d aD.2.2.2.2.2.2)],0,false,none⟩)] [] (kp [0]) (kq [0,1,2,3,4,6]) 391 (pc (rI _ _ _ _ _ _ _ _ _ _ _ _ _ _ uI) pn) ?_
    obtain ⟨eS,yT,h⟩:=bq h
    refine ah hE 1 [(4,oT (aB eS))] [] (kp [0,78]) (kq [0,1,2,3,4,6]) 487 (pc o1 (pc (gD _ _ _ yT) pn)) ?_
    refine dK 0 78 h (fun Eu h=>?_) (fun Eu h=>?_)
    ·refine ah hE 1 [] [] (kp [2]) (kq [0,1,2,3,4,6]) 503 pn ?_
     obtain rfl:=dj h
     exact dw hE 0 Tryz.f34 [] (kp [2]) (kq [0,1,2,3,4,6]) 503 pn [] pn
    ·exact dh hE 3 [] (kp [0]) (kq [0,1,2,3,4,6]) 7 pn (oB N _ _ _ _ _ _ _ _ _ _ _ _ _ h E hE)
   ·exact dh hE 3 [] (kp [0]) (kq [0,1,2,3,4,6]) 7 pn (oB N _ _ _ _ _ _ _ _ _ _ _ _ _ h E hE)
theorem ya (N C0 bd bZ cL cO cP cg C1 C2 C3 C4 C5 r) (h:l5 N C0 bd bZ cL cO cP cg C1 C2 C3 C4 C5=some r):Sd 34 [(.op 0 0 0)] [(0,vN 12 [(aI C0),(aI bd),(.os 1 0 C1.length),(.os 2 0 C2.length),(.os 3 0 C3.length),(.os 4 0 C4.length),(.os 5 0 C5.length),(aB bZ),(eU cL),(aB cO),(eU cP),(aI cg)]),(1,aO 1 cI 0 C1),(2,aO 1 cI 0 C2),(3,aM 4 ag aa.d C3),(4,aO 4 ag aa.d C4),(5,aO 4 ag aa.d C5)] 6 (aB r.1) [(0,vN 12 [(aI r.2.1.tk),(aI r.2.1.tl),(.os 1 0 r.2.2.1.length),(.os 2 0 r.2.2.2.1.length),(.os 3 0 r.2.2.2.2.1.length),(.os 4 0 r.2.2.2.2.2.length),(.os 6 0 r.2.1.eY.length),(aB r.2.1.af.fN.fG),(eU r.2.1.af.fN.fL),(aB r.2.1.af.fD.fG),(eU r.2.1.af.fD.fL),(aI r.2.1.bI)]),(1,aO 1 cI 0 r.2.2.1),(2,aO 1 cI 0 r.2.2.2.1),(3,aM 4 ag aa.d r.2.2.2.2.1),(4,aO 4 ag aa.d r.2.2.2.2.2),(6,aO 4 ag aa.d r.2.1.eY)]:=by
 unfold l5 at h
 refine gX (fu:=Tryz.f34) (c:=x9 1) (nt:=177) (fun hm=>absurd hm (by decide)) ?_
 intro E hE
 refine ah hE 1 [] [] (kp [0]) (kq [0,1,2,3,4,5]) 22 pn ?_
 refine ah hE 1 [] [] (kp [0,3]) (kq [0,1,2,3,4,5]) 38 pn ?_
 refine ah hE 2 [] [] (kp [0,3,15,16]) (kq [0,1,2,3,4,5]) 134 (pc o1 pn) ?_
 exact dh hE 2 [] (kp [0,3,15,16]) (kq [0,1,2,3,4] ++ [(6,.ai 5)]) 7 pn (vo N _ _ _ _ _ _ _ _ _ _ _ _ N _ _ _ h E hE)
noncomputable abbrev Nn:=cy Tryz.f35
def mh (N:Nat) (C0:Int) (bd:Int) (bZ:Bool) (cL:List Int) (cO:Bool) (cP:List Int) (cg:Int) (C1:List Int) (C2:List Int) (C3:List (List aa)) (C4:List aa) (C5:List aa) (K:(List aa)→Int→Option ((List aa))):Prop:=∀ (out:List aa) (x:Int) (r:(List aa)),K out x=some r→∀ E,aQ E 6→aw Tryz.prog E 35 47 (aY E [(0,vN 12 [(aI C0),(aI bd),(.os 1 0 C1.length),(.os 2 0 C2.length),(.os 3 0 C3.length),(.os 4 0 C4.length),(.os 5 0 C5.length),(aB bZ),(eU cL),(aB cO),(eU cP),(aI cg)]),(1,aO 1 cI 0 C1),(2,aO 1 cI 0 C2),(3,aM 4 ag aa.d C3),(4,aO 4 ag aa.d C4),(5,aO 4 ag aa.d C5),(6,aO 4 ag aa.d r)] (.os 6 0 r.length)) [.code (Nn 116),.inLoop (Nn 116),.inBlock 0,.code (Nn 15)] ⟨[(0,(.op 0 0 0)),(3,(.os 6 0 out.length)),(12,(aI (((List.replicate ((bd).toNat) aa.d:List aa).length:Nat):Int))),(13,(aI x))],[(0,vN 12 [(aI C0),(aI bd),(.os 1 0 C1.length),(.os 2 0 C2.length),(.os 3 0 C3.length),(.os 4 0 C4.length),(.os 5 0 C5.length),(aB bZ),(eU cL),(aB cO),(eU cP),(aI cg)]),(1,aO 1 cI 0 C1),(2,aO 1 cI 0 C2),(3,aM 4 ag aa.d C3),(4,aO 4 ag aa.d C4),(5,aO 4 ag aa.d C5),(6,aO 4 ag aa.d out)],7⟩
def ss (N:Nat) (C0:Int) (bd:Int) (bZ:Bool) (cL:List Int) (cO:Bool) (cP:List Int) (cg:Int) (C1:List Int) (C2:List Int) (C3:List (List aa)) (C4:List aa) (C5:List aa) (x:Int) (K:(List aa)→Option ((List aa))):Prop:=∀ (fY:List aa) (r:(List aa)),K fY=some r→∀ E,aQ E 6→aw Tryz.prog E 35 47 (aY E [(0,vN 12 [(aI C0),(aI bd),(.os 1 0 C1.length),(.os 2 0 C2.length),(.os 3 0 C3.length),(.os 4 0 C4.length),(.os 5 0 C5.length),(aB bZ),(eU cL),(aB cO),(eU cP),(aI cg)]),(1,aO 1 cI 0 C1),(2,aO 1 cI 0 C2),(3,aM 4 ag aa.d C3),(4,aO 4 ag aa.d C4),(5,aO 4 ag aa.d C5),(6,aO 4 ag aa.d r)] (.os 6 0 r.length)) [.code (Nn 935),.inLoop (Nn 116),.inBlock 0,.code (Nn 15)] ⟨[(0,(.op 0 0 0)),(3,(.os 6 0 fY.length)),(12,(aI (((List.replicate ((bd).toNat) aa.d:List aa).length:Nat):Int))),(13,(aI x))],[(0,vN 12 [(aI C0),(aI bd),(.os 1 0 C1.length),(.os 2 0 C2.length),(.os 3 0 C3.length),(.os 4 0 C4.length),(.os 5 0 C5.length),(aB bZ),(eU cL),(aB cO),(eU cP),(aI cg)]),(1,aO 1 cI 0 C1),(2,aO 1 cI 0 C2),(3,aM 4 ag aa.d C3),(4,aO 4 ag aa.d C4),(5,aO 4 ag aa.d C5),(6,aO 4 ag aa.d fY)],7⟩
theorem lV (N:Nat) (C0:Int) (bd:Int) (bZ:Bool) (cL:List Int) (cO:Bool) (cP:List Int) (cg:Int) (C1:List Int) (C2:List Int) (C3:List (List aa)) (C4:List aa) (C5:List aa) (x:Int) (fS:(List aa)→Int→Option ((List aa))) (rJ:mh N C0 bd bZ cL cO cP cg C1 C2 C3 C4 C5 fS):ss N C0 bd bZ cL cO cP cg C1 C2 C3 C4 C5 x (fe N C0 bd bZ cL cO cP cg C1 C2 C3 C4 C5 x fS):=by
 intro fY r h E hE
 unfold fe at h
 refine ah hE 0 [] [] (kp [0,3,12,13]) (kq [0,1,2,3,4,5,6]) 39 pn ?_
 exact dh hE 1 [] (kp [0,3,12,13]) (kq [0,1,2,3,4,5,6]) 7 pn (rJ _ _ _ h E hE)
theorem rK (N C0 bd bZ cL cO cP cg C1 C2 C3 C4 C5 fuel):mh N C0 bd bZ cL cO cP cg C1 C2 C3 C4 C5 (bT N C0 bd bZ cL cO cP cg C1 C2 C3 C4 C5 fuel):=by
 induction fuel with
 | zero=>intro _ _ r h;rw [bT.eq_1] at h;cases h
 | succ fuel ih =>
  intro out x r h E hE
  rw [bT.eq_2] at h
  refine ah hE 1 [] [] (kp [0,3,12,13,14]) (kq [0,1,2,3,4,5,6]) 23 pn ?_
  refine dK 1 14 h (fun dQ h=>?_) (fun dQ h=>?_)
  ·refine ah hE 4 [] [] (kp [0,3,4,12,13]) (kq [0,1,2,3,4,5,6]) 55 pn ?_
   obtain ⟨ar,hr,h⟩:=bq h
   obtain ⟨c2,h⟩:=ab h
   refine ah hE 1 [(2,oT (.agg (ag ar)))] [] (kp [0] ++ [(3,.lO ((out.set ((x).toNat) ar).length))] ++ kp [4,12,13]) (kq [0,1,2,3,4,5] ++ [(6,.arr 6 ((out.set ((x).toNat) ar).length) (fun zi=>ag ((out.set ((x).toNat) ar).getD zi aa.d)))]) 135 (pc (cX _ _ _ hr) (pc c2 (pc (dm c2) (pc (aG out ((x).toNat) ar) (pc (aG out ((x).toNat) ar) (pc (cH ag aa.d out ((x).toNat) ar) pn)))))) ?_
   obtain ⟨aN,eW,h⟩:=bq h
   refine ah hE 1 [(11,oT (aI aN))] [] (kp [0,3,4,5,12,13]) (kq [0,1,2,3,4,5,6]) 343 (pc o1 (pc o1 (pc (dz _ _ _ _ eW) (pc (z1 C2.length) pn)))) ?_
   refine ah hE 1 [] [] (kp [0,3,4,5,12,13,33]) (kq [0,1,2,3,4,5,6]) 375 pn ?_
   refine dK 0 33 h (fun iZ h=>?_) (fun iZ h=>?_)
   ·obtain ⟨c3,h⟩:=ab h
    obtain ⟨aR,lL,h⟩:=bq h
    obtain ⟨c4,h⟩:=ab h
    refine ah hE 0 [(9,oT (.agg (ag aR)))] [] (kp [0] ++ [(3,.lO (((out.set ((x).toNat) ar).set ((x).toNat) aR).length))] ++ kp [12,13]) (kq [0,1,2,3,4,5] ++ [(6,.arr 6 (((out.set ((x).toNat) ar).set ((x).toNat) aR).length) (fun zi=>ag (((out.set ((x).toNat) ar).set ((x).toNat) aR).getD zi aa.d)))]) 567 (pc o1 (pc c3 (pc (dm c3) (pc (gW _ _ _ lL) (pc c4 (pc (dm c4) (pc (aG (out.set ((x).toNat) ar) ((x).toNat) aR) (pc (aG (out.set ((x).toNat) ar) ((x).toNat) aR) (pc (cH ag aa.d (out.set ((x).toNat) ar) ((x).toNat) aR) pn))))))))) ?_
    exact dh hE 1 [] (kp [0,3,12,13]) (kq [0,1,2,3,4,5,6]) 7 pn (lV N _ _ _ _ _ _ _ _ _ _ _ _ _ _ ih _ _ h E hE)
   ·exact dh hE 2 [] (kp [0,3,12,13]) (kq [0,1,2,3,4,5,6]) 7 pn (lV N _ _ _ _ _ _ _ _ _ _ _ _ _ _ ih _ _ h E hE)
  ·refine ah hE 2 [] [] (kp [2]) (kq [0,1,2,3,4,5,6]) 55 pn ?_
   obtain rfl:=dj h
   exact dw hE 0 Tryz.f35 [] (kp [2]) (kq [0,1,2,3,4,5,6]) 55 pn [] pn
theorem nB (N C0 bd bZ cL cO cP cg C1 C2 C3 C4 C5 r) (h:eZ N C0 bd bZ cL cO cP cg C1 C2 C3 C4 C5=some r):Sd 35 [(.op 0 0 0)] [(0,vN 12 [(aI C0),(aI bd),(.os 1 0 C1.length),(.os 2 0 C2.length),(.os 3 0 C3.length),(.os 4 0 C4.length),(.os 5 0 C5.length),(aB bZ),(eU cL),(aB cO),(eU cP),(aI cg)]),(1,aO 1 cI 0 C1),(2,aO 1 cI 0 C2),(3,aM 4 ag aa.d C3),(4,aO 4 ag aa.d C4),(5,aO 4 ag aa.d C5)] 6 (.os 6 0 r.length) [(0,vN 12 [(aI C0),(aI bd),(.os 1 0 C1.length),(.os 2 0 C2.length),(.os 3 0 C3.length),(.os 4 0 C4.length),(.os 5 0 C5.length),(aB bZ),(eU cL),(aB cO),(eU cP),(aI cg)]),(1,aO 1 cI 0 C1),(2,aO 1 cI 0 C2),(3,aM 4 ag aa.d C3),(4,aO 4 ag aa.d C4),(5,aO 4 ag aa.d C5),(6,aO 4 ag aa.d r)]:=by
 unfold eZ at h
 refine gX (fu:=Tryz.f35) (c:=Nn 1) (nt:=47) (fun hm=>absurd hm (by decide)) ?_
 intro E hE
 refine ah hE 1 [] [] (kp [0]) (kq [0,1,2,3,4,5]) 22 pn ?_
 obtain ⟨c,h⟩:=ab h
 refine ah hE 1 [] [] (kp [0] ++ [(3,.lO ((List.replicate ((bd).toNat) aa.d:List aa).length))]) (kq [0,1,2,3,4,5] ++ [(86,.RJ 86 ((List.replicate ((bd).toNat) aa.d:List aa).length) (fun zi=>ag ((List.replicate ((bd).toNat) aa.d:List aa).getD zi aa.d)))]) 118 (pc o1 (pc (show 0≤bd from c.1) (pc (show bd≤bd from (Int.le_refl _)) (pc (show (64:Int) * bd≤281474976710656 from c.2.1) (pc (show bd≤9223372036854775807 from c.2.2) (pc (show (bd).toNat=(List.replicate ((bd).toNat) aa.d:List aa).length from (de).symm) (pc (show (List.replicate ((bd).toNat) aa.d:List aa).length≤(bd).toNat from (Nat.le_of_eq (Eq.symm ((de).symm)))) (pc (show ∀ zi,zi < (List.replicate ((bd).toNat) aa.d:List aa).length→Ks ((fun _=>[(aB false),.nil,(aB false),.nil]) zi) ((fun zi=>ag ((List.replicate ((bd).toNat) aa.d:List aa).getD zi aa.d)) zi) from (fun zq j8=>oZ ag aa.d aa.d ((bd).toNat) zq ⟨.inl rfl,.inr ⟨rfl,_,rfl⟩,.inl rfl,.inr ⟨rfl,_,rfl⟩,trivial⟩ j8)) pn)))))))) ?_
 refine ah hE 2 [] [] (kp [0,3,12,13]) (kq [0,1,2,3,4,5,86]) 166 pn ?_
 exact dh hE 2 [] (kp [0,3,12,13]) (kq [0,1,2,3,4,5] ++ [(6,.ai 86)]) 7 pn (rK N _ _ _ _ _ _ _ _ _ _ _ _ N _ _ _ h E hE)
noncomputable abbrev adv:=cy Tryz.f40
theorem uL (N mq C0 bd bZ cL cO cP cg C1 C2 C3 C4 C5 r) (h:nm N mq C0 bd bZ cL cO cP cg C1 C2 C3 C4 C5=some r):Sd 40 [(.op 0 0 0),(aI mq)] [(0,vN 12 [(aI C0),(aI bd),(.os 1 0 C1.length),(.os 2 0 C2.length),(.os 3 0 C3.length),(.os 4 0 C4.length),(.os 5 0 C5.length),(aB bZ),(eU cL),(aB cO),(eU cP),(aI cg)]),(1,aO 1 cI 0 C1),(2,aO 1 cI 0 C2),(3,aM 4 ag aa.d C3),(4,aO 4 ag aa.d C4),(5,aO 4 ag aa.d C5)] 6 (.agg (ag r)) [(0,vN 12 [(aI C0),(aI bd),(.os 1 0 C1.length),(.os 2 0 C2.length),(.os 3 0 C3.length),(.os 4 0 C4.length),(.os 5 0 C5.length),(aB bZ),(eU cL),(aB cO),(eU cP),(aI cg)]),(1,aO 1 cI 0 C1),(2,aO 1 cI 0 C2),(3,aM 4 ag aa.d C3),(4,aO 4 ag aa.d C4),(5,aO 4 ag aa.d C5)]:=by
 unfold nm at h
 refine gX (fu:=Tryz.f40) (c:=adv 1) (nt:=22) (fun hm=>absurd hm (by decide)) ?_
 intro E hE
 refine ah hE 1 [] [] (kp [0,1,4]) (kq [0,1,2,3,4,5,6]) 22 pn ?_
 obtain ⟨aN,hr,h⟩:=bq h
 refine ah hE 2 [(5,oT (aI aN))] [] (kp [0,4,5]) (kq [0,1,2,3,4,5,6]) 134 (pc o1 (pc (dz _ _ _ _ hr) (pc (z1 C1.length) pn))) ?_
 refine ah hE 1 [] [] (kp [0,4,5,13]) (kq [0,1,2,3,4,5,6]) 166 pn ?_
 refine dK 0 13 h (fun dQ h=>?_) (fun dQ h=>?_)
 ·obtain ⟨c,h⟩:=ab h
  refine ah hE 1 [] [] (kp [4]) (kq [0,1,2,3,4,5,6]) 294 (pc o1 (pc c (pc (dm c) (pc o1 pn)))) ?_
  obtain rfl:=dj h
  exact dw hE 0 Tryz.f40 [] (kp [4]) (kq [0,1,2,3,4,5] ++ [(22,.ai 6)]) 294 pn [22] (pc o1 pn)
 ·obtain ⟨ar,eW,h⟩:=bq h
  refine ah hE 2 [(0,oT (.agg (ag ar)))] [] (kp [4]) (kq [0,1,2,3,4,5,6]) 198 (pc (cX _ _ _ eW) (pc o1 pn)) ?_
  obtain rfl:=dj h
  exact dw hE 0 Tryz.f40 [] (kp [4]) (kq [0,1,2,3,4,5] ++ [(22,.ai 6)]) 198 pn [22] (pc o1 pn)
noncomputable abbrev Vo:=cy Tryz.f38
def xw (N:Nat) (C0:Int) (bd:Int) (bZ:Bool) (cL:List Int) (cO:Bool) (cP:List Int) (cg:Int) (C1:List Int) (C2:List Int) (C3:List (List aa)) (C4:List aa) (C5:List aa) (K:(List aa)→Int→Option ((List aa))):Prop:=∀ (out:List aa) (x:Int) (r:(List aa)),K out x=some r→∀ E,aQ E 6→aw Tryz.prog E 38 34 (aY E [(0,vN 12 [(aI C0),(aI bd),(.os 1 0 C1.length),(.os 2 0 C2.length),(.os 3 0 C3.length),(.os 4 0 C4.length),(.os 5 0 C5.length),(aB bZ),(eU cL),(aB cO),(eU cP),(aI cg)]),(1,aO 1 cI 0 C1),(2,aO 1 cI 0 C2),(3,aM 4 ag aa.d C3),(4,aO 4 ag aa.d C4),(5,aO 4 ag aa.d C5),(6,aO 4 ag aa.d r)] (.os 6 0 r.length)) [.code (Vo 116),.inLoop (Vo 116),.inBlock 0,.code (Vo 15)] ⟨[(0,(.op 0 0 0)),(1,(.fn (.func 40) [(.op 0 0 0)] [])),(5,(.os 6 0 out.length)),(13,(aI (((List.replicate ((C0).toNat) aa.d:List aa).length:Nat):Int))),(14,(aI x))],[(0,vN 12 [(aI C0),(aI bd),(.os 1 0 C1.length),(.os 2 0 C2.length),(.os 3 0 C3.length),(.os 4 0 C4.length),(.os 5 0 C5.length),(aB bZ),(eU cL),(aB cO),(eU cP),(aI cg)]),(1,aO 1 cI 0 C1),(2,aO 1 cI 0 C2),(3,aM 4 ag aa.d C3),(4,aO 4 ag aa.d C4),(5,aO 4 ag aa.d C5),(6,aO 4 ag aa.d out)],7⟩
theorem wu (N C0 bd bZ cL cO cP cg C1 C2 C3 C4 C5 fuel):xw N C0 bd bZ cL cO cP cg C1 C2 C3 C4 C5 (dZ N C0 bd bZ cL cO cP cg C1 C2 C3 C4 C5 fuel):=by
 induction fuel with
 | zero=>intro _ _ r h;rw [dZ.eq_1] at h;cases h
 | succ fuel ih =>
  intro out x r h E hE
  rw [dZ.eq_2] at h
  refine ah hE 1 [] [] (kp [0,1,5,13,14,15]) (kq [0,1,2,3,4,5,6]) 23 pn ?_
  refine dK 1 15 h (fun dQ h=>?_) (fun dQ h=>?_)
  ·refine ah hE 4 [] [] (kp [0,1,5,6,13,14]) (kq [0,1,2,3,4,5,6]) 55 pn ?_
   obtain ⟨rat,hr,h⟩:=bq h
   obtain ⟨XU,eW,h⟩:=bq h
   obtain ⟨dc,lL,h⟩:=bq h
   obtain ⟨c2,h⟩:=ab h
   refine ah hE 0 [(4,⟨[0,1,2,3,4,5],true,(.agg (ag rat)),[],0,false,none⟩),(12,⟨[0,1,2,3,4,5],true,(.agg (ag XU)),[],0,false,none⟩),(13,oT (.agg (ag dc)))] [] (kp [0,1] ++ [(5,.lO ((out.set ((x).toNat) dc).length))] ++ kp [13,14]) (kq [0,1,2,3,4,5] ++ [(6,.arr 6 ((out.set ((x).toNat) dc).length) (fun zi=>ag ((out.set ((x).toNat) dc).getD zi aa.d)))]) 311 (pc (uL _ _ _ _ _ _ _ _ _ _ _ _ _ _ _ hr) (pc (iM C3) (pc o1 (pc (uL _ _ _ _ _ _ _ _ _ _ _ _ _ _ _ eW) (pc (iM C3) (pc (mB _ _ _ _ lL) (pc c2 (pc (dm c2) (pc (aG out ((x).toNat) dc) (pc (aG out ((x).toNat) dc) (pc (cH ag aa.d out ((x).toNat) dc) pn))))))))))) ?_
   refine ah hE 1 [] [] (kp [0,1,5,13,14]) (kq [0,1,2,3,4,5,6]) 343 pn ?_
   exact dh hE 1 [] (kp [0,1,5,13,14]) (kq [0,1,2,3,4,5,6]) 7 pn (ih _ _ _ h E hE)
  ·refine ah hE 2 [] [] (kp [4]) (kq [0,1,2,3,4,5,6]) 55 pn ?_
   obtain rfl:=dj h
   exact dw hE 0 Tryz.f38 [] (kp [4]) (kq [0,1,2,3,4,5,6]) 55 pn [] pn
theorem yZ (N C0 bd bZ cL cO cP cg C1 C2 C3 C4 C5 r) (h:k8 N C0 bd bZ cL cO cP cg C1 C2 C3 C4 C5=some r):Sd 38 [(.op 0 0 0),(.fn (.func 40) [(.op 0 0 0)] [])] [(0,vN 12 [(aI C0),(aI bd),(.os 1 0 C1.length),(.os 2 0 C2.length),(.os 3 0 C3.length),(.os 4 0 C4.length),(.os 5 0 C5.length),(aB bZ),(eU cL),(aB cO),(eU cP),(aI cg)]),(1,aO 1 cI 0 C1),(2,aO 1 cI 0 C2),(3,aM 4 ag aa.d C3),(4,aO 4 ag aa.d C4),(5,aO 4 ag aa.d C5)] 6 (.os 6 0 r.length) [(0,vN 12 [(aI C0),(aI bd),(.os 1 0 C1.length),(.os 2 0 C2.length),(.os 3 0 C3.length),(.os 4 0 C4.length),(.os 5 0 C5.length),(aB bZ),(eU cL),(aB cO),(eU cP),(aI cg)]),(1,aO 1 cI 0 C1),(2,aO 1 cI 0 C2),(3,aM 4 ag aa.d C3),(4,aO 4 ag aa.d C4),(5,aO 4 ag aa.d C5),(6,aO 4 ag aa.d r)]:=by
 unfold k8 at h
 refine gX (fu:=Tryz.f38) (c:=Vo 1) (nt:=34) (fun hm=>absurd hm (by decide)) ?_
 intro E hE
 refine ah hE 1 [] [] (kp [0,1]) (kq [0,1,2,3,4,5]) 22 pn ?_
 obtain ⟨c,h⟩:=ab h
 refine ah hE 1 [] [] (kp [0,1] ++ [(5,.lO ((List.replicate ((C0).toNat) aa.d:List aa).length))]) (kq [0,1,2,3,4,5] ++ [(86,.RJ 86 ((List.replicate ((C0).toNat) aa.d:List aa).length) (fun zi=>ag ((List.replicate ((C0).toNat) aa.d:List aa).getD zi aa.d)))]) 118 (pc o1 (pc (show 0≤C0 from c.1) (pc (show C0≤C0 from (Int.le_refl _)) (pc (show (64:Int) * C0≤281474976710656 from c.2.1) (pc (show C0≤9223372036854775807 from c.2.2) (pc (show (C0).toNat=(List.replicate ((C0).toNat) aa.d:List aa).length from (de).symm) (pc (show (List.replicate ((C0).toNat) aa.d:List aa).length≤(C0).toNat from (Nat.le_of_eq (Eq.symm ((de).symm)))) (pc (show ∀ zi,zi < (List.replicate ((C0).toNat) aa.d:List aa).length→Ks ((fun _=>[(aB false),.nil,(aB false),.nil]) zi) ((fun zi=>ag ((List.replicate ((C0).toNat) aa.d:List aa).getD zi aa.d)) zi) from (fun zq j8=>oZ ag aa.d aa.d ((C0).toNat) zq ⟨.inl rfl,.inr ⟨rfl,_,rfl⟩,.inl rfl,.inr ⟨rfl,_,rfl⟩,trivial⟩ j8)) pn)))))))) ?_
 refine ah hE 2 [] [] (kp [0,1,5,13,14]) (kq [0,1,2,3,4,5,86]) 166 pn ?_
 exact dh hE 2 [] (kp [0,1,5,13,14]) (kq [0,1,2,3,4,5] ++ [(6,.ai 86)]) 7 pn (wu N _ _ _ _ _ _ _ _ _ _ _ _ N _ _ _ h E hE)
noncomputable abbrev Vp:=cy Tryz.f9
def y4 (N:Nat) (n:Int) (l:List aE) (K:Int→Option (Int)):Prop:=∀ (i:Int) (r:Int),K i=some r→∀ E,aQ E 0→aw Tryz.prog E 9 29 (aY E [] (aI r)) [.code (Vp 244),.inLoop (Vp 244),.inBlock 0,.code (Vp 31)] ⟨[(0,(aI n)),(1,(aK zN aE.d l)),(5,(aI i))],[],0⟩
theorem yc (N n l fuel):y4 N n l (fg N n l fuel):=by
 induction fuel with
 | zero=>intro _ r h;rw [fg.eq_1] at h;cases h
 | succ fuel ih =>
  intro i r h E hE
  rw [fg.eq_2] at h
  refine ah hE 2 [] [] (kp [0,1,5,18]) [] 64 pn ?_
  refine dK 0 18 h (fun qq h=>?_) (fun qq h=>?_)
  ·obtain ⟨c,h⟩:=ab h
   refine ah hE 4 [] [] (kp [0,1,5,28]) [] 192 (pc c pn) ?_
   refine dK 0 28 h (fun Eu h=>?_) (fun Eu h=>?_)
   ·refine ah hE 1 [] [] (kp [4]) [] 208 pn ?_
    obtain rfl:=dj h
    exact dw hE 0 Tryz.f9 [] (kp [4]) [] 208 pn [] pn
   ·refine ah hE 2 [] [] (kp [0,1,5]) [] 240 pn ?_
    exact dh hE 1 [] (kp [0,1,5]) [] 0 pn (ih _ _ h E hE)
  ·refine ah hE 2 [] [] (kp [4]) [] 80 pn ?_
   obtain rfl:=dj h
   exact dw hE 0 Tryz.f9 [] (kp [4]) [] 80 pn [] pn
theorem tV (N n l r) (h:kK N n l=some r):Sd 9 [(aI n),(aK zN aE.d l)] [] 0 (aI r) []:=by
 unfold kK at h
 refine gX (fu:=Tryz.f9) (c:=Vp 1) (nt:=29) (fun hm=>rfl) ?_
 intro E hE
 refine ah hE 1 [] [] (kp [0,1]) [] 16 pn ?_
 refine ah hE 2 [] [] (kp [0,1,11]) [] 112 (pc (fun hg:(!(decide (n < 0)))=true=>(pc hg pn)) (pc (fun hq:(!(decide (n < 0)))=true=>(pc hq pn)) pn)) ?_
 refine dK 0 11 h (fun dQ h=>?_) (fun dQ h=>?_)
 ·refine ah hE 1 [] [] (kp [4]) [] 128 pn ?_
  obtain rfl:=dj h
  exact dw hE 0 Tryz.f9 [] (kp [4]) [] 128 pn [] pn
 ·refine ah hE 3 [] [] (kp [0,1,14]) [] 160 pn ?_
  refine dK 0 14 h (fun iZ h=>?_) (fun iZ h=>?_)
  ·refine ah hE 1 [] [] (kp [4]) [] 176 pn ?_
   obtain rfl:=dj h
   exact dw hE 0 Tryz.f9 [] (kp [4]) [] 176 pn [] pn
  ·refine ah hE 3 [] [] (kp [0,1,5]) [] 176 pn ?_
   exact dh hE 2 [] (kp [0,1,5]) [] 0 pn (yc N _ _ N _ _ h E hE)
noncomputable abbrev JT:=cy Tryz.f5
def n9 (N:Nat) (p:cQ) (K:Int→Option (Bool)):Prop:=∀ (i:Int) (r:Bool),K i=some r→∀ E,aQ E 0→aw Tryz.prog E 5 104 (aY E [] (aB r)) [.code (JT 116),.inLoop (JT 116),.inBlock 0,.code (JT 15)] ⟨[(1,(.op 0 0 0)),(3,(aI i))],[(0,vO 2 (cQ.cells p))],1⟩
def uw (N:Nat) (p:cQ) (i:Int) (K:Int→Option (Bool)):Prop:=∀ (j:Int) (r:Bool),K j=some r→∀ E,aQ E 0→aw Tryz.prog E 5 104 (aY E [] (aB r)) [.code (JT 14924),.inLoop (JT 14924),.inBlock 2,.inBlock 1,.code (JT 467),.inLoop (JT 116),.inBlock 0,.code (JT 15)] ⟨[(1,(.op 0 0 0)),(3,(aI i)),(4,(aI j))],[(0,vO 2 (cQ.cells p))],1⟩
theorem tW (N:Nat) (p:cQ) (i:Int) (fw:Int→Option (Bool)) (tX:n9 N p fw) (fuel:Nat):uw N p i (bN N p i fw fuel):=by
 induction fuel with
 | zero=>intro _ r h;rw [bN.eq_1] at h;cases h
 | succ fuel ih =>
  intro j r h E hE
  rw [bN.eq_2] at h
  obtain ⟨c4,h⟩:=ab h
  refine ah hE 2 [] [] (kp [1,3,4,56]) (kq [0]) 145 (pc o1 (pc c4 pn)) ?_
  refine dK 0 56 h (fun Eu h=>?_) (fun Eu h=>?_)
  ·obtain ⟨c5,h⟩:=ab h
   obtain ⟨c6,h⟩:=ab h
   obtain ⟨c7,h⟩:=ab h
   refine ah hE 4 [] [] (kp [1,3,4,86]) (kq [0]) 593 (pc o1 (pc c4 (pc c5 (pc (fun hg:(!(decide ((((((((p.jT.getD ((i).toNat) aE.d).bj).getD ((j).toNat) aa.d).fN).fL).length:Nat):Int) > 2)))=true=>(pc hg (pc o1 pn))) (pc (fun hg:(!(decide ((((((((p.jT.getD ((i).toNat) aE.d).bj).getD ((j).toNat) aa.d).fN).fL).length:Nat):Int) > 2)))=true=>(pc hg (pc hg (pc (c6 hg) pn)))) (pc (fun hg:(!(decide ((((((((p.jT.getD ((i).toNat) aE.d).bj).getD ((j).toNat) aa.d).fN).fL).length:Nat):Int) > 2)))=true=>(pc hg pn)) (pc (fun hg:(!(decide ((((((((p.jT.getD ((i).toNat) aE.d).bj).getD ((j).toNat) aa.d).fN).fL).length:Nat):Int) > 2)))=true=>(pc hg pn)) (pc (fun hg:(!(decide ((((((((p.jT.getD ((i).toNat) aE.d).bj).getD ((j).toNat) aa.d).fN).fL).length:Nat):Int) > 2)))=true=>(pc hg (pc hg (pc (c7 hg) pn)))) (pc (fun hg:(!(decide ((((((((p.jT.getD ((i).toNat) aE.d).bj).getD ((j).toNat) aa.d).fN).fL).length:Nat):Int) > 2)))=true=>(pc hg pn)) (pc (fun hg:(!(decide ((((((((p.jT.getD ((i).toNat) aE.d).bj).getD ((j).toNat) aa.d).fN).fL).length:Nat):Int) > 2)))=true=>(pc hg pn)) (pc (fun hg:(!(decide ((((((((p.jT.getD ((i).toNat) aE.d).bj).getD ((j).toNat) aa.d).fN).fL).length:Nat):Int) > 2)))=true=>(pc hg pn)) (pc (fun hg:(!(decide ((((((((p.jT.getD ((i).toNat) aE.d).bj).getD ((j).toNat) aa.d).fN).fL).length:Nat):Int) > 2)))=true=>(pc hg pn)) (pc (fun hg:(!(decide ((((((((p.jT.getD ((i).toNat) aE.d).bj).getD ((j).toNat) aa.d).fN).fL).length:Nat):Int) > 2)))=true=>(pc hg pn)) (pc (fun hq:(!(decide ((((((((p.jT.getD ((i).toNat) aE.d).bj).getD ((j).toNat) aa.d).fN).fL).length:Nat):Int) > 2)))=true=>(pc hq pn)) pn)))))))))))))) ?_
   refine dK 0 86 h (fun Nf h=>?_) (fun Nf h=>?_)
   ·refine ah hE 1 [] [] (kp [2]) [] 609 pn ?_
    obtain rfl:=dj h
    exact dw hE 0 Tryz.f5 [] (kp [2]) [] 609 pn [] pn
   ·refine ah hE 2 [] [] (kp [1,3,4]) (kq [0]) 641 pn ?_
    exact dh hE 1 [] (kp [1,3,4]) (kq [0]) 1 pn (ih _ _ h E hE)
  ·refine ah hE 2 [] [] (kp [1,3]) (kq [0]) 193 pn ?_
   exact dh hE 1 [] (kp [1,3]) (kq [0]) 1 pn (tX _ _ h E hE)
theorem tY (N p fuel):n9 N p (bt N p fuel):=by
 induction fuel with
 | zero=>intro _ r h;rw [bt.eq_1] at h;cases h
 | succ fuel ih =>
  intro i r h E hE
  rw [bt.eq_2] at h
  refine ah hE 2 [] [] (kp [1,3,13]) (kq [0]) 81 (pc o1 pn) ?_
  refine dK 0 13 h (fun iZ h=>?_) (fun iZ h=>?_)
  ·obtain ⟨c,h⟩:=ab h
   obtain ⟨c2,h⟩:=ab h
   obtain ⟨c3,h⟩:=ab h
   refine ah hE 5 [] [] (kp [1,3,47]) (kq [0]) 593 (pc o1 (pc c (pc (fun hg:(!(decide (((((((p.jT.getD ((i).toNat) aE.d).bK).fN).fL).length:Nat):Int) > 2)))=true=>(pc hg (pc o1 pn))) (pc (fun hg:(!(decide (((((((p.jT.getD ((i).toNat) aE.d).bK).fN).fL).length:Nat):Int) > 2)))=true=>(pc hg (pc hg (pc (c2 hg) pn)))) (pc (fun hg:(!(decide (((((((p.jT.getD ((i).toNat) aE.d).bK).fN).fL).length:Nat):Int) > 2)))=true=>(pc hg pn)) (pc (fun hg:(!(decide (((((((p.jT.getD ((i).toNat) aE.d).bK).fN).fL).length:Nat):Int) > 2)))=true=>(pc hg pn)) (pc (fun hg:(!(decide (((((((p.jT.getD ((i).toNat) aE.d).bK).fN).fL).length:Nat):Int) > 2)))=true=>(pc hg pn)) (pc (fun hg:(!(decide (((((((p.jT.getD ((i).toNat) aE.d).bK).fN).fL).length:Nat):Int) > 2)))=true=>(pc hg pn)) (pc (fun hg:(!(decide (((((((p.jT.getD ((i).toNat) aE.d).bK).fN).fL).length:Nat):Int) > 2)))=true=>(pc hg pn)) (pc (fun hg:(!(decide (((((((p.jT.getD ((i).toNat) aE.d).bK).fN).fL).length:Nat):Int) > 2)))=true=>(pc hg pn)) (pc (fun hq:(!(decide (((((((p.jT.getD ((i).toNat) aE.d).bK).fN).fL).length:Nat):Int) > 2)))=true=>(pc hq pn)) (pc (fun hg:(!(cond (decide (((((((p.jT.getD ((i).toNat) aE.d).bK).fN).fL).length:Nat):Int) > 2)) true (decide (((((((p.jT.getD ((i).toNat) aE.d).bK).fD).fL).length:Nat):Int) > 2))))=true=>(pc hg (pc o1 pn))) (pc (fun hg:(!(cond (decide (((((((p.jT.getD ((i).toNat) aE.d).bK).fN).fL).length:Nat):Int) > 2)) true (decide (((((((p.jT.getD ((i).toNat) aE.d).bK).fD).fL).length:Nat):Int) > 2))))=true=>(pc hg (pc hg (pc (c3 hg) pn)))) (pc (fun hg:(!(cond (decide (((((((p.jT.getD ((i).toNat) aE.d).bK).fN).fL).length:Nat):Int) > 2)) true (decide (((((((p.jT.getD ((i).toNat) aE.d).bK).fD).fL).length:Nat):Int) > 2))))=true=>(pc hg pn)) (pc (fun hg:(!(cond (decide (((((((p.jT.getD ((i).toNat) aE.d).bK).fN).fL).length:Nat):Int) > 2)) true (decide (((((((p.jT.getD ((i).toNat) aE.d).bK).fD).fL).length:Nat):Int) > 2))))=true=>(pc hg pn)) (pc (fun hg:(!(cond (decide (((((((p.jT.getD ((i).toNat) aE.d).bK).fN).fL).length:Nat):Int) > 2)) true (decide (((((((p.jT.getD ((i).toNat) aE.d).bK).fD).fL).length:Nat):Int) > 2))))=true=>(pc hg pn)) (pc (fun hg:(!(cond (decide (((((((p.jT.getD ((i).toNat) aE.d).bK).fN).fL).length:Nat):Int) > 2)) true (decide (((((((p.jT.getD ((i).toNat) aE.d).bK).fD).fL).length:Nat):Int) > 2))))=true=>(pc hg pn)) (pc (fun hq:(!(cond (decide (((((((p.jT.getD ((i).toNat) aE.d).bK).fN).fL).length:Nat):Int) > 2)) true (decide (((((((p.jT.getD ((i).toNat) aE.d).bK).fD).fL).length:Nat):Int) > 2))))=true=>(pc hq pn)) pn)))))))))))))))))) ?_
   refine dK 0 47 h (fun qq h=>?_) (fun qq h=>?_)
   ·refine ah hE 1 [] [] (kp [2]) [] 609 pn ?_
    obtain rfl:=dj h
    exact dw hE 0 Tryz.f5 [] (kp [2]) [] 609 pn [] pn
   ·refine ah hE 2 [] [] (kp [1,3,4]) (kq [0]) 609 pn ?_
    exact dh hE 2 [] (kp [1,3,4]) (kq [0]) 1 pn (tW N _ _ _ ih N _ _ h E hE)
  ·obtain ⟨bz,hr,h⟩:=bq h
   refine ah hE 2 [(4,oT (aI bz))] [] (kp [2]) [] 369 (pc o1 (pc o1 (pc (tV _ _ _ _ hr) (pc (fun hg:(!(bz != 0))=true=>(pc hg (pc o1 pn))) (pc (fun hg:(!(bz != 0))=true=>(pc hg pn)) (pc (fun hg:((!(bz != 0)) && ((!(bz != 0)) && (decide (p.Kw≤4))))=true=>(pc hg (pc o1 pn))) (pc (fun hg:((!(bz != 0)) && ((!(bz != 0)) && (decide (p.Kw≤4))))=true=>(pc hg pn)) (pc (fun hg:((!(bz != 0)) && ((!(bz != 0)) && (decide (p.Kw≤4))))=true=>(pc hg pn)) (pc (fun hg:(!(bz != 0))=true=>(pc hg (pc hg (pc (fun hq:(decide (p.Kw≤4))=true=>(pc (show ((!(bz != 0)) && ((!(bz != 0)) && (decide (p.Kw≤4))))=true from (uE hg (uE hg hq))) pn)) pn)))) (pc (fun hq:(!(bz != 0))=true=>(pc hq pn)) pn)))))))))) ?_
   obtain rfl:=dj h
   exact dw hE 0 Tryz.f5 [] (kp [2]) [] 369 pn [] pn
theorem wv (N p r) (h:iR N p=some r):Sd 5 [(.agg (cQ.cells p))] [] 0 (aB r) []:=by
 unfold iR at h
 refine gX (fu:=Tryz.f5) (c:=JT 1) (nt:=104) (fun hm=>rfl) ?_
 intro E hE
 refine ah hE 1 [] [] (kp [1]) (kq [0]) 32 pn ?_
 refine ah hE 2 [] [] (kp [1,8]) (kq [0]) 96 (pc o1 pn) ?_
 refine dK 0 8 h (fun dQ h=>?_) (fun dQ h=>?_)
 ·refine ah hE 1 [] [] (kp [2]) [] 112 pn ?_
  obtain rfl:=dj h
  exact dw hE 0 Tryz.f5 [] (kp [2]) [] 112 pn [] pn
 ·refine ah hE 3 [] [] (kp [1,3]) (kq [0]) 112 pn ?_
  exact dh hE 2 [] (kp [1,3]) (kq [0]) 1 pn (tY N _ N _ _ h E hE)
noncomputable abbrev adw:=cy Tryz.f17
theorem Ay (N x r) (h:o8 N x=some r):Sd 17 [(.agg (ag x))] [] 0 (aB r) []:=by
 unfold o8 at h
 refine gX (fu:=Tryz.f17) (c:=adw 1) (nt:=15) (fun hm=>rfl) ?_
 intro E hE
 refine ah hE 1 [] [] (kp [1]) (kq [0]) 32 pn ?_
 refine ah hE 1 [] [] (kp [2]) [] 240 (pc o1 (pc (fun hg:(!(decide (((x.fN.fL.length:Nat):Int) > 12)))=true=>(pc hg pn)) (pc (fun hg:(!(decide (((x.fN.fL.length:Nat):Int) > 12)))=true=>(pc hg (pc o1 pn))) (pc (fun hg:(!(decide (((x.fN.fL.length:Nat):Int) > 12)))=true=>(pc hg pn)) (pc (fun hg:(!(decide (((x.fN.fL.length:Nat):Int) > 12)))=true=>(pc hg pn)) (pc (fun hq:(!(decide (((x.fN.fL.length:Nat):Int) > 12)))=true=>(pc hq pn)) pn)))))) ?_
 obtain rfl:=dj h
 exact dw hE 0 Tryz.f17 [] (kp [2]) [] 240 pn [] pn
noncomputable abbrev Vq:=cy Tryz.f6
def A6 (N:Nat) (l:List aa) (K:Int→Option (Bool)):Prop:=∀ (i:Int) (r:Bool),K i=some r→∀ E,aQ E 0→aw Tryz.prog E 6 21 (aY E [] (aB r)) [.code (Vq 116),.inLoop (Vq 116),.inBlock 0,.code (Vq 15)] ⟨[(0,(aK ag aa.d l)),(5,(aI i))],[],0⟩
theorem Ah (N l fuel):A6 N l (dB N l fuel):=by
 induction fuel with
 | zero=>intro _ r h;rw [dB.eq_1] at h;cases h
 | succ fuel ih =>
  intro i r h E hE
  rw [dB.eq_2] at h
  refine ah hE 2 [] [] (kp [0,5,13]) [] 64 pn ?_
  refine dK 0 13 h (fun iZ h=>?_) (fun iZ h=>?_)
  ·obtain ⟨c,h⟩:=ab h
   obtain ⟨rz,hr,h⟩:=bq h
   refine ah hE 4 [(4,oT (aB rz))] [] (kp [0,5,20]) [] 144 (pc c (pc (Ay _ _ _ hr) pn)) ?_
   refine dK 0 20 h (fun qq h=>?_) (fun qq h=>?_)
   ·refine ah hE 1 [] [] (kp [4]) [] 160 pn ?_
    obtain rfl:=dj h
    exact dw hE 0 Tryz.f6 [] (kp [4]) [] 160 pn [] pn
   ·refine ah hE 2 [] [] (kp [0,5]) [] 192 pn ?_
    exact dh hE 1 [] (kp [0,5]) [] 0 pn (ih _ _ h E hE)
  ·refine ah hE 2 [] [] (kp [4]) [] 80 pn ?_
   obtain rfl:=dj h
   exact dw hE 0 Tryz.f6 [] (kp [4]) [] 80 pn [] pn
theorem qI (N l most r) (h:ln N l most=some r):Sd 6 [(aK ag aa.d l),(aI most)] [] 0 (aB r) []:=by
 unfold ln at h
 refine gX (fu:=Tryz.f6) (c:=Vq 1) (nt:=21) (fun hm=>rfl) ?_
 intro E hE
 refine ah hE 1 [] [] (kp [0,1]) [] 16 pn ?_
 refine ah hE 2 [] [] (kp [0,9]) [] 80 pn ?_
 refine dK 0 9 h (fun dQ h=>?_) (fun dQ h=>?_)
 ·refine ah hE 1 [] [] (kp [4]) [] 96 pn ?_
  obtain rfl:=dj h
  exact dw hE 0 Tryz.f6 [] (kp [4]) [] 96 pn [] pn
 ·refine ah hE 3 [] [] (kp [0,5]) [] 96 pn ?_
  exact dh hE 2 [] (kp [0,5]) [] 0 pn (Ah N _ N _ _ h E hE)
noncomputable abbrev Vr:=cy Tryz.f62
def GI (N:Nat) (K:Int→(List Int)→Option ((List Int))):Prop:=∀ (n2:Int) (out:List Int) (r:(List Int)),K n2 out=some r→∀ E,aQ E 0→aw Tryz.prog E 62 15 (aY E [] (eU r)) [.code (Vr 56),.inLoop (Vr 56),.inBlock 0,.code (Vr 15)] ⟨[(0,(IW n2)),(3,(.os 0 0 out.length))],[(0,aU out)],1⟩
theorem EL (N fuel):GI N (l6 N fuel):=by
 induction fuel with
 | zero=>intro _ _ r h;rw [l6.eq_1] at h;cases h
 | succ fuel ih =>
  intro n2 out r h E hE
  rw [l6.eq_2] at h
  refine ah hE 2 [] [] (kp [0,3,5]) (kq [0]) 33 pn ?_
  refine dK 0 5 h (fun dQ h=>?_) (fun dQ h=>?_)
  ·obtain ⟨c,h⟩:=ab h
   refine ah hE 3 [] [] (kp [0] ++ [(3,.lO ((out ++ ([(IntKind.u16.wrap ((vP .u64 n2 65535)))]:List Int)).length))]) [(113,.arr 113 ((out ++ ([(IntKind.u16.wrap ((vP .u64 n2 65535)))]:List Int)).length) (fun zi=>(cU .u16) ((out ++ ([(IntKind.u16.wrap ((vP .u64 n2 65535)))]:List Int)).getD zi 0)))] 145 (pc (Eq.refl out.length) (pc c (pc (z1 1) (pc (show ∀ zi,zi < 1→AV.kN ((fun zi=>([[(wO (IntKind.u16.wrap ((vP .u64 n2 65535))))]]:List (List AV)).getD zi []) (bQ 0 zi))=true from (AK rfl)) (pc (show (out.length+1)=(out ++ ([(IntKind.u16.wrap ((vP .u64 n2 65535)))]:List Int)).length from (bD rfl rfl)) (pc (show out.length+1=(out ++ ([(IntKind.u16.wrap ((vP .u64 n2 65535)))]:List Int)).length from (bD rfl rfl)) (pc (show ∀ zi,zi < (out ++ ([(IntKind.u16.wrap ((vP .u64 n2 65535)))]:List Int)).length→(fun zi=>(cU .u16) ((out ++ ([(IntKind.u16.wrap ((vP .u64 n2 65535)))]:List Int)).getD zi 0)) zi=((fun zm=>if zm < out.length then (fun zi=>(cU .u16) (out.getD zi 0)) zm else (fun zi=>([[(wO (IntKind.u16.wrap ((vP .u64 n2 65535))))]]:List (List AV)).getD zi []) (zm - out.length))) zi from (dY (cU .u16) 0 out ([(IntKind.u16.wrap ((vP .u64 n2 65535)))]:List Int) rfl (fun _ _=>rfl) (fun zq j8=>dU (cU .u16) 0 ([(IntKind.u16.wrap ((vP .u64 n2 65535)))]:List Int) zq j8))) pn))))))) ?_
   refine ah hE 1 [] [] (kp [0,3]) (kq [113]) 193 (pc (show (0:Int)≤16 by decide) pn) ?_
   exact dh hE 1 [] (kp [0,3]) [(0,.ai 113)] 1 pn (ih _ _ _ h E hE)
  ·refine ah hE 2 [] [] (kp [2]) (kq [0]) 65 pn ?_
   obtain rfl:=dj h
   exact dw hE 0 Tryz.f62 [0] [(2,.sl (out.length) (fun zi=>(cU .u16) (out.getD zi 0)))] [] 65 (pc (Eq.refl out.length) (pc (z1 out.length) (pc (aZ out.length (fun zi=>(cU .u16) (out.getD zi 0))) pn))) [] pn
theorem B6 (N n r) (h:tq N n=some r):Sd 62 [(IW n)] [] 0 (eU r) []:=by
 unfold tq at h
 refine gX (fu:=Tryz.f62) (c:=Vr 1) (nt:=15) (fun hm=>rfl) ?_
 intro E hE
 refine ah hE 1 [] [] (kp [0]) [] 16 pn ?_
 refine ah hE 1 [] [] (kp [0,3]) [] 32 pn ?_
 exact dh hE 3 [] (kp [0] ++ [(3,.tF 0)]) [(0,.nil 1 (fun zi=>(cU .u16) (([]:List Int).getD zi 0)))] 1 pn (EL N N _ _ _ h E hE)
noncomputable abbrev adx:=cy Tryz.f25
theorem rL (N n r) (h:xN N n=some r):Sd 25 [(aI n)] [] 0 (.agg (iv r)) []:=by
 unfold xN at h
 refine gX (fu:=Tryz.f25) (c:=adx 1) (nt:=16) (fun hm=>rfl) ?_
 intro E hE
 refine ah hE 1 [] [] (kp [0,2]) (kq [0]) 16 pn ?_
 refine ah hE 2 [] [] (kp [0,2,4]) (kq [0]) 48 pn ?_
 refine dK 0 4 h (fun dQ h=>?_) (fun dQ h=>?_)
 ·obtain ⟨Nb,hr,h⟩:=bq h
  refine ah hE 1 [(5,oT (eU Nb))] [] (kp [2]) (kq [0]) 176 (pc (B6 _ _ _ hr) (pc o1 pn)) ?_
  obtain rfl:=dj h
  exact dw hE 0 Tryz.f25 [] (kp [2]) [(16,.ai 0)] 176 pn [16] (pc o1 pn)
 ·obtain ⟨JL,eW,h⟩:=bq h
  refine ah hE 2 [(2,oT (eU JL))] [] (kp [2]) (kq [0]) 128 (pc (B6 _ _ _ eW) (pc o1 pn)) ?_
  obtain rfl:=dj h
  exact dw hE 0 Tryz.f25 [] (kp [2]) [(16,.ai 0)] 128 pn [16] (pc o1 pn)
noncomputable abbrev X6:=cy Tryz.f24
def EM (N:Nat) (a:bR) (b:bR) (K:(List Int)→(List Int)→Option (bR×bR×Int)):Prop:=∀ (n:List Int) (rest:List Int) (r:bR×bR×Int),K n rest=some r→∀ E,aQ E 0→aw Tryz.prog E 24 50 (aY E [] (.tup [(.agg (iv r.1)),(.agg (iv r.2.1)),(aI r.2.2)])) [.code (X6 126),.code (X6 127)] ⟨[(2,(.op 0 0 0)),(3,(.op 1 0 0)),(4,(.op 2 0 0)),(5,(.op 3 0 0)),(9,(eU n)),(10,(eU rest))],[(0,vO 2 (iv a)),(1,vO 2 (iv b)),(2,vO 2 [(aB false),.nil]),(3,vO 2 [(aB false),.nil])],4⟩
theorem wx (N a b):EM N a b (ou N a b):=by
 intro n rest r h E hE
 unfold ou at h
 obtain ⟨JK,yT,h⟩:=bq h
 obtain ⟨AX,Ag,h⟩:=bq h
 refine ah hE 0 [(6,oT (.agg (iv JK))),(8,oT (.agg (iv AX)))] [] (kp [4,5,6]) (kq [2,3]) 196 (pc o1 (pc o1 (pc (gC _ _ _ _ yT) (pc (gC _ _ _ _ Ag) (pc o1 (pc o1 pn)))))) ?_
 obtain rfl:=dj h
 exact dw hE 0 Tryz.f24 [] (kp [4,5,6]) [(16,.ai 2),(17,.ai 3)] 196 pn [16,17] (pc o1 (pc o1 pn))
theorem HZ (N a b r) (h:xi N a b=some r):Sd 24 [(.agg (iv a)),(.agg (iv b))] [] 0 (.tup [(.agg (iv r.1)),(.agg (iv r.2.1)),(aI r.2.2)]) []:=by
 unfold xi at h
 refine gX (fu:=Tryz.f24) (c:=X6 1) (nt:=50) (fun hm=>rfl) ?_
 intro E hE
 refine ah hE 1 [] [] (kp [2,3,4,5]) (kq [0,16,32,48]) 80 pn ?_
 obtain ⟨b7,hr,h⟩:=bq h
 obtain ⟨gu,eW,h⟩:=bq h
 refine ah hE 1 [(2,oT (eU b7)),(5,oT (eU gu))] [] (kp [2,3,4,5,7,8]) (kq [0,16,32,48]) 208 (pc o1 (pc (eb _ _ _ hr) (pc o1 (pc (eb _ _ _ eW) pn)))) ?_
 refine ah hE 2 [] [] (kp [2,3,4,5,7,8,19]) (kq [0,16,32,48]) 256 pn ?_
 refine dK 0 19 h (fun dQ h=>?_) (fun dQ h=>?_)
 ·refine ah hE 1 [] [] (kp [4,5,6]) (kq [32,48]) 336 (pc o1 (pc o1 pn)) ?_
  obtain rfl:=dj h
  exact dw hE 0 Tryz.f24 [] (kp [4,5,6]) [(16,.var 32 [.ai,.sl (([]:List Int).length) (fun zi=>(cU .u16) (([]:List Int).getD zi 0))]),(17,.var 48 [.ai,.sl (([]:List Int).length) (fun zi=>(cU .u16) (([]:List Int).getD zi 0))])] 336 (pc (Eq.refl 0) (pc (Eq.refl 0) pn)) [16,17] (pc o1 (pc o1 pn))
 ·obtain ⟨jz,lL,h⟩:=bq h
  refine ah hE 2 [(2,oT (.tup [(eU jz.1),(eU jz.2)]))] [] (kp [2,3,4,5,8,9,10]) (kq [0,16,32,48]) 384 (pc (qU _ _ _ _ lL) pn) ?_
  refine ah hE 2 [] [] (kp [2,3,4,5,8,9,10,34]) (kq [0,16,32,48]) 496 (pc o1 (pc (fun hg:a.fG=true=>(pc hg pn)) (pc (fun hg:a.fG=true=>(pc hg pn)) (pc (fun hq:a.fG=true=>(pc hq pn)) pn)))) ?_
  refine dK 0 34 h (fun iZ h=>?_) (fun iZ h=>?_)
  ·obtain ⟨xM,px,h⟩:=bq h
   obtain ⟨o7,uI,h⟩:=bq h
   refine ah hE 0 [(2,⟨[],true,(eU xM),[],0,true,none⟩),(5,oT (eU o7))] [] (kp [2,3,4,5,9,10]) (kq [0,16,32,48]) 624 (pc (show Sd 59 [(eU jz.1),(.sl 1 (fun zi=>(fun zi=>([[(wO 1)]]:List (List AV)).getD zi []) (bQ 0 zi)))] [] 0 (eU xM) [] from (Sound.conv (D7 _ _ _ _ px) (.cons (Alike.refl _) (.cons (Alike.sl rfl (fun zq j8=>dU (cU .u16) 0 ([1]:List Int) zq j8)) .nil)))) (pc (z1 1) (pc (xm _ _ _ _ uI) pn))) ?_
   exact dh hE 1 [] (kp [2,3,4,5,9,10]) (kq [0] ++ [(1,.ai 16),(2,.ai 32),(3,.ai 48)]) 4 pn (wx N _ _ _ _ _ h E hE)
  ·exact dh hE 2 [] (kp [2,3,4,5,9,10]) (kq [0] ++ [(1,.ai 16),(2,.ai 32),(3,.ai 48)]) 4 pn (wx N _ _ _ _ _ h E hE)
noncomputable abbrev ady:=cy Tryz.f26
theorem JU (N a b r) (h:zP N a b=some r):Sd 26 [(aI a),(aI b)] [] 0 (.tup [(.agg (ag r.1)),(aI r.2)]) []:=by
 unfold zP at h
 refine gX (fu:=Tryz.f26) (c:=ady 1) (nt:=14) (fun hm=>rfl) ?_
 intro E hE
 refine ah hE 1 [] [] (kp [0,1,4]) (kq [0]) 32 pn ?_
 refine ah hE 2 [] [] (kp [0,1,4,7]) (kq [0]) 64 pn ?_
 refine dK 0 7 h (fun dQ h=>?_) (fun dQ h=>?_)
 ·refine ah hE 1 [] [] (kp [4,5]) (kq [0]) 112 (pc o1 pn) ?_
  obtain rfl:=dj h
  exact dw hE 0 Tryz.f26 [] (kp [4,5]) [(16,.var 0 [.ai,.sl (([]:List Int).length) (fun zi=>(cU .u16) (([]:List Int).getD zi 0)),.ai,.sl (([]:List Int).length) (fun zi=>(cU .u16) (([]:List Int).getD zi 0))])] 112 (pc (Eq.refl 0) (pc (Eq.refl 0) pn)) [16] (pc o1 pn)
 ·obtain ⟨Kx,hr,h⟩:=bq h
  obtain ⟨Nc,eW,h⟩:=bq h
  obtain ⟨CC,lL,h⟩:=bq h
  refine ah hE 2 [(1,oT (.agg (iv Kx))),(3,oT (.agg (iv Nc))),(4,oT (.agg (ag CC)))] [] (kp [4,5]) (kq [0]) 176 (pc (Dp _ _ _ hr) (pc (Dp _ _ _ eW) (pc (jn _ _ _ _ lL) (pc o1 pn)))) ?_
  obtain rfl:=dj h
  exact dw hE 0 Tryz.f26 [] (kp [4,5]) [(16,.ai 0)] 176 pn [16] (pc o1 pn)
noncomputable abbrev adz:=cy Tryz.f29
theorem GJ (N n r) (h:IV N n=some r):Sd 29 [(aI n)] [] 0 (.agg (ag r)) []:=by
 unfold IV at h
 refine gX (fu:=Tryz.f29) (c:=adz 1) (nt:=7) (fun hm=>rfl) ?_
 intro E hE
 refine ah hE 1 [] [] (kp [0,2]) (kq [0]) 16 pn ?_
 obtain ⟨rZ,hr,h⟩:=bq h
 obtain ⟨R7,eW,h⟩:=bq h
 refine ah hE 1 [(1,oT (.agg (iv rZ))),(2,oT (.agg (iv R7)))] [] (kp [2]) (kq [0]) 96 (pc (rL _ _ _ hr) (pc (rL _ _ _ eW) (pc o1 pn))) ?_
 obtain rfl:=dj h
 exact dw hE 0 Tryz.f29 [] (kp [2]) [(16,.ai 0)] 96 pn [16] (pc o1 pn)
noncomputable abbrev Vs:=cy Tryz.f27
def Ln (N:Nat) (l:List Int) (K:(List aa)→Int→Option ((List aa))):Prop:=∀ (out:List aa) (i:Int) (r:(List aa)),K out i=some r→∀ E,aQ E 0→aw Tryz.prog E 27 20 (aY E [] (aK ag aa.d r)) [.code (Vs 116),.inLoop (Vs 116),.inBlock 0,.code (Vs 15)] ⟨[(0,(aK cI 0 l)),(3,(.os 0 0 out.length)),(4,(aI i))],[(0,aO 4 ag aa.d out)],1⟩
theorem JV (N l fuel):Ln N l (pE N l fuel):=by
 induction fuel with
 | zero=>intro _ _ r h;rw [pE.eq_1] at h;cases h
 | succ fuel ih =>
  intro out i r h E hE
  rw [pE.eq_2] at h
  refine ah hE 2 [] [] (kp [0,3,4,8]) (kq [0]) 65 pn ?_
  refine dK 0 8 h (fun dQ h=>?_) (fun dQ h=>?_)
  ·obtain ⟨c,h⟩:=ab h
   obtain ⟨rW,hr,h⟩:=bq h
   obtain ⟨c2,h⟩:=ab h
   refine ah hE 3 [(5,oT (.agg (ag rW)))] [] (kp [0] ++ [(3,.lO ((out ++ ([rW]:List aa)).length))] ++ kp [4]) [(177,.arr 177 ((out ++ ([rW]:List aa)).length) (fun zi=>ag ((out ++ ([rW]:List aa)).getD zi aa.d)))] 209 (pc c (pc (GJ _ _ _ hr) (pc (Eq.refl out.length) (pc c2 (pc (z1 1) (pc (show ∀ zi,zi < 1→AV.kN ((fun zi=>([[(aB rW.fN.fG),(eU rW.fN.fL),(aB rW.fD.fG),(eU rW.fD.fL)]]:List (List AV)).getD zi []) (bQ 0 zi))=true from (AK rfl)) (pc (show (out.length+1)=(out ++ ([rW]:List aa)).length from (bD rfl rfl)) (pc (show out.length+1=(out ++ ([rW]:List aa)).length from (bD rfl rfl)) (pc (show ∀ zi,zi < (out ++ ([rW]:List aa)).length→(fun zi=>ag ((out ++ ([rW]:List aa)).getD zi aa.d)) zi=((fun zm=>if zm < out.length then (fun zi=>ag (out.getD zi aa.d)) zm else (fun zi=>([[(aB rW.fN.fG),(eU rW.fN.fL),(aB rW.fD.fG),(eU rW.fD.fL)]]:List (List AV)).getD zi []) (zm - out.length))) zi from (dY ag aa.d out ([rW]:List aa) rfl (fun _ _=>rfl) (fun zq j8=>dU ag aa.d ([rW]:List aa) zq j8))) pn))))))))) ?_
   refine ah hE 1 [] [] (kp [0,3,4]) (kq [177]) 257 pn ?_
   exact dh hE 1 [] (kp [0,3,4]) [(0,.ai 177)] 1 pn (ih _ _ _ h E hE)
  ·refine ah hE 2 [] [] (kp [2]) (kq [0]) 97 pn ?_
   obtain rfl:=dj h
   exact dw hE 0 Tryz.f27 [0] [(2,.sl (out.length) (fun zi=>ag (out.getD zi aa.d)))] [] 97 (pc (Eq.refl out.length) (pc (z1 out.length) (pc (aZ out.length (fun zi=>ag (out.getD zi aa.d))) pn))) [] pn
theorem PZ (N l r) (h:Gg N l=some r):Sd 27 [(aK cI 0 l)] [] 0 (aK ag aa.d r) []:=by
 unfold Gg at h
 refine gX (fu:=Tryz.f27) (c:=Vs 1) (nt:=20) (fun hm=>rfl) ?_
 intro E hE
 refine ah hE 1 [] [] (kp [0]) [] 16 pn ?_
 refine ah hE 1 [] [] (kp [0,3]) [] 32 pn ?_
 refine ah hE 2 [] [] (kp [0,3,4]) [] 48 pn ?_
 exact dh hE 2 [] (kp [0] ++ [(3,.tF 0)] ++ kp [4]) [(0,.nil 4 (fun zi=>ag (([]:List aa).getD zi aa.d)))] 1 pn (JV N _ N _ _ _ h E hE)
noncomputable abbrev Vt:=cy Tryz.f65
def Ai (N:Nat) (c:fo) (K:Int→Option (Int)):Prop:=∀ (x:Int) (r:Int),K x=some r→∀ E,aQ E 0→aw Tryz.prog E 65 52 (aY E [] (aI r)) [.code (Vt 244),.inLoop (Vt 244),.inBlock 0,.code (Vt 31)] ⟨[(1,(.op 0 0 0)),(17,(aK cI 0 c.av)),(18,(aI ((c.av.length:Nat):Int))),(19,(aI x))],[(0,vO 2 (x5 c))],1⟩
theorem y5 (N c fuel):Ai N c (fC N c fuel):=by
 induction fuel with
 | zero=>intro _ r h;rw [fC.eq_1] at h;cases h
 | succ fuel ih =>
  intro x r h E hE
  rw [fC.eq_2] at h
  refine ah hE 1 [] [] (kp [1,17,18,19,20]) (kq [0]) 17 pn ?_
  refine dK 1 20 h (fun qq h=>?_) (fun qq h=>?_)
  ·obtain ⟨c2,h⟩:=ab h
   refine ah hE 4 [] [] (kp [1,3,4,17,18,19]) (kq [0]) 97 (pc c2 pn) ?_
   obtain ⟨c3,h⟩:=ab h
   obtain ⟨an,hr,h⟩:=bq h
   refine ah hE 2 [(12,oT (aI an))] [] (kp [1,3,4,17,18,19,38]) (kq [0]) 337 (pc (fun hg:(!(decide ((c.av.getD ((x).toNat) 0) < (-10000000))))=true=>(pc hg pn)) (pc (fun hq:(!(decide ((c.av.getD ((x).toNat) 0) < (-10000000))))=true=>(pc hq pn)) (pc (fun hg:(!(cond (decide ((c.av.getD ((x).toNat) 0) < (-10000000))) true (decide ((c.av.getD ((x).toNat) 0) > 10000000))))=true=>(pc hg (pc o1 pn))) (pc (fun hg:(!(cond (decide ((c.av.getD ((x).toNat) 0) < (-10000000))) true (decide ((c.av.getD ((x).toNat) 0) > 10000000))))=true=>(pc hg (pc hg (pc (c3 hg) pn)))) (pc (fun hg:(!(cond (decide ((c.av.getD ((x).toNat) 0) < (-10000000))) true (decide ((c.av.getD ((x).toNat) 0) > 10000000))))=true=>(pc hg pn)) (pc (fun hg:(!(cond (decide ((c.av.getD ((x).toNat) 0) < (-10000000))) true (decide ((c.av.getD ((x).toNat) 0) > 10000000))))=true=>(pc (iH _ _ _ (ax hr hg)) (pc hg pn))) (pc (fun hg:(!(cond (decide ((c.av.getD ((x).toNat) 0) < (-10000000))) true (decide ((c.av.getD ((x).toNat) 0) > 10000000))))=true=>(pc hg pn)) (pc (fun hq:(!(cond (decide ((c.av.getD ((x).toNat) 0) < (-10000000))) true (decide ((c.av.getD ((x).toNat) 0) > 10000000))))=true=>(pc hq pn)) pn)))))))) ?_
   refine dK 0 38 h (fun Eu h=>?_) (fun Eu h=>?_)
   ·refine ah hE 1 [] [] (kp [2]) [] 353 pn ?_
    obtain rfl:=dj h
    exact dw hE 0 Tryz.f65 [] (kp [2]) [] 353 pn [] pn
   ·obtain ⟨c4,h⟩:=ab h
    refine ah hE 2 [] [] (kp [1,17,18,19,50]) (kq [0]) 529 (pc (fun hg:(decide (x > 0))=true=>(pc hg (pc o1 pn))) (pc (fun hg:(decide (x > 0))=true=>(pc hg pn)) (pc (fun hg:(decide (x > 0))=true=>(pc hg (pc hg (pc (c4 hg) pn)))) (pc (fun hg:(decide (x > 0))=true=>(pc hg pn)) (pc (fun hg:(decide (x > 0))=true=>(pc hg (pc hg pn))) (pc (fun hq:(decide (x > 0))=true=>(pc hq pn)) pn)))))) ?_
    refine dK 0 50 h (fun Nf h=>?_) (fun Nf h=>?_)
    ·refine ah hE 1 [] [] (kp [2]) [] 545 pn ?_
     obtain rfl:=dj h
     exact dw hE 0 Tryz.f65 [] (kp [2]) [] 545 pn [] pn
    ·refine ah hE 2 [] [] (kp [1,17,18,19]) (kq [0]) 561 pn ?_
     exact dh hE 1 [] (kp [1,17,18,19]) (kq [0]) 1 pn (ih _ _ h E hE)
  ·refine ah hE 2 [] [] (kp [2]) [] 33 pn ?_
   obtain rfl:=dj h
   exact dw hE 0 Tryz.f65 [] (kp [2]) [] 48 pn [] pn
theorem B7 (N c r) (h:np N c=some r):Sd 65 [(.agg (x5 c))] [] 0 (aI r) []:=by
 unfold np at h
 refine gX (fu:=Tryz.f65) (c:=Vt 1) (nt:=52) (fun hm=>rfl) ?_
 intro E hE
 refine ah hE 1 [] [] (kp [1]) (kq [0]) 32 pn ?_
 refine ah hE 2 [] [] (kp [1,8]) (kq [0]) 96 (pc o1 pn) ?_
 refine dK 0 8 h (fun dQ h=>?_) (fun dQ h=>?_)
 ·refine ah hE 1 [] [] (kp [2]) [] 112 pn ?_
  obtain rfl:=dj h
  exact dw hE 0 Tryz.f65 [] (kp [2]) [] 112 pn [] pn
 ·refine ah hE 3 [] [] (kp [1,15]) (kq [0]) 208 (pc o1 (pc o1 pn)) ?_
  refine dK 0 15 h (fun iZ h=>?_) (fun iZ h=>?_)
  ·refine ah hE 1 [] [] (kp [2]) [] 224 pn ?_
   obtain rfl:=dj h
   exact dw hE 0 Tryz.f65 [] (kp [2]) [] 224 pn [] pn
  ·refine ah hE 3 [] [] (kp [1,17,18,19]) (kq [0]) 272 (pc o1 pn) ?_
   exact dh hE 2 [] (kp [1,17,18,19]) (kq [0]) 1 pn (y5 N _ N _ _ h E hE)
noncomputable abbrev adA:=cy Tryz.f67
theorem JW (N c y r) (h:Dl N c y=some r):Sd 67 [(.agg (x5 c)),(.agg (ag y))] [] 0 (.fn (.func 104) [] [(.op 0 0 0),(.op 1 0 0)]) [(0,vO 2 (x5 r.1)),(1,vO 4 (ag r.2))]:=by
 unfold Dl at h
 refine gX (fu:=Tryz.f67) (c:=adA 1) (nt:=6) (fun hm=>rfl) ?_
 intro E hE
 refine ah hE 1 [] [] (kp [2,3]) (kq [0,16]) 48 pn ?_
 refine ah hE 1 [] [] (kp [4]) (kq [0,16]) 80 pn ?_
 obtain rfl:=dj h
 exact dw hE 0 Tryz.f67 [] (kp [4]) (kq [0] ++ [(1,.ai 16)]) 80 pn [] pn
noncomputable abbrev gz:=cy Tryz.f104
theorem B8 (N RD C1 C2 fuel):∀ (bd:aa) (before:aa) (x:Int) (r:aa),gK N RD C1 C2 fuel bd before x=some r→∀ E,aQ E 3→∀ lY,(∀ (WE:aa) (WG:aa) (yx yr:aa),RD WE WG yx=some yr→Xs Tryz.prog E ⟨lY,[.agg (ag WE),.agg (ag WG)],0,vO 4 (ag yx),vO 4 (ag yr)⟩)→aw Tryz.prog E 104 43 (aY E [(0,vO 4 (ag r)),(1,vO 2 (x5 C1)),(2,vO 4 (ag C2))] (.tup [])) [.code (gz 28),.inLoop (gz 28),.inBlock 0] ⟨[(0,(.atom (.func (.yield lY) #[] #[]))),(1,(.op 1 0 0)),(2,(.op 2 0 0)),(4,(.op 3 0 0)),(10,(aK cI 0 C1.av)),(11,(aI ((C1.av.length:Nat):Int))),(12,(aI x))],[(0,vO 4 (ag bd)),(1,vO 2 (x5 C1)),(2,vO 4 (ag C2)),(3,vO 4 (ag before))],4⟩:=by
 induction fuel with
 | zero=>intro _ _ _ r h;rw [gK.eq_1] at h;cases h
 | succ fuel ih =>
  intro bd before x r h E hE lY hY
  rw [gK.eq_2] at h
  refine sA 1 [.code (gz 56),.code (gz 57),.inLoop (gz 28),.inBlock 0] ?_
  refine sR hE ⟨[(0,(.atom (.func (.yield lY) #[] #[]))),(1,(.op 1 0 0)),(2,(.op 2 0 0)),(4,(.op 3 0 0)),(10,(aK cI 0 C1.av)),(11,(aI ((C1.av.length:Nat):Int))),(12,(aI x)),(13,(aB (decide (x < ((C1.av.length:Nat):Int)))))],[(0,vO 4 (ag bd)),(1,vO 2 (x5 C1)),(2,vO 4 (ag C2)),(3,vO 4 (ag before))],20⟩ (gz 56) [] [] (kp [0,1,2,4,10,11,12,13]) (kq [0,1,2,3]) 20 [] trivial ?_
  refine sA 1 [.code (gz 114),.code (gz 115),.inLoop (gz 28),.inBlock 0] ?_
  refine sC 13 (gz 228) (gz 229) (decide (x < ((C1.av.length:Nat):Int))) (fun dQ=>?_) (fun dQ=>?_)
  ·have h:=ax h dQ
   refine sA 4 [.code (gz 920),.code (gz 921),.inBlock 1,.code (gz 231),.inLoop (gz 28),.inBlock 0] ?_
   obtain ⟨c,h⟩:=ab h
   refine sR hE ⟨[(0,(.atom (.func (.yield lY) #[] #[]))),(1,(.op 1 0 0)),(2,(.op 2 0 0)),(4,(.op 3 0 0)),(5,(aI x)),(6,(aI (C1.av.getD ((x).toNat) 0))),(10,(aK cI 0 C1.av)),(11,(aI ((C1.av.length:Nat):Int))),(12,(aI x))],[(0,vO 4 (ag bd)),(1,vO 2 (x5 C1)),(2,vO 4 (ag C2)),(3,vO 4 (ag before))],100⟩ (gz 920) [] [] (kp [0,1,2,4,5,6,10,11,12]) (kq [0,1,2,3]) 100 [0≤x∧x < ((C1.av.length:Nat):Int)] ⟨c,trivial⟩ ?_
   refine sA 1 [.code (gz 1842),.code (gz 1843),.inBlock 1,.code (gz 231),.inLoop (gz 28),.inBlock 0] ?_
   obtain ⟨dV,eW,h⟩:=bq h
   obtain ⟨dc,lL,h⟩:=bq h
   refine sR hE ⟨[(0,(.atom (.func (.yield lY) #[] #[]))),(1,(.op 1 0 0)),(2,(.op 2 0 0)),(4,(.op 3 0 0)),(5,(aI x)),(7,(.op 164 0 0)),(10,(aK cI 0 C1.av)),(11,(aI ((C1.av.length:Nat):Int))),(12,(aI x))],[(0,vO 4 (ag bd)),(1,vO 2 (x5 C1)),(2,vO 4 (ag C2)),(3,vO 4 (ag before)),(164,vO 4 (ag dc))],196⟩ (gz 1842) [(2,oT (.agg (ag dV))),(3,oT (.agg (ag dc)))] [] (kp [0,1,2,4,5,7,10,11,12]) (kq [0,1,2,3,164]) 196 [0 < 1,Sd 66 [(aI (C1.av.getD ((x).toNat) 0))] [] 0 (.agg (ag dV)) [],Sd 56 [(.agg (ag C2)),(.agg (ag dV))] [] 0 (.agg (ag dc)) [],0 < 1] ⟨o1,(cX _ _ _ eW),(mB _ _ _ _ lL),o1,trivial⟩ ?_
   refine sA 2 [.code (gz 7372),.code (gz 7373),.code (gz 3687),.inBlock 1,.code (gz 231),.inLoop (gz 28),.inBlock 0] ?_
   obtain ⟨an,px,h⟩:=bq h
   obtain ⟨c2,h⟩:=ab h
   obtain ⟨ow,uI,h⟩:=bq h
   rcases condSplit h with ⟨hG,h⟩ | ⟨hG,h⟩
   ·obtain ⟨ry,hry,h⟩:=bq h
    refine sRY hE ⟨[(0,(.atom (.func (.yield lY) #[] #[]))),(1,(.op 1 0 0)),(2,(.op 2 0 0)),(4,(.op 3 0 0)),(5,(aI x)),(10,(aK cI 0 C1.av)),(11,(aI ((C1.av.length:Nat):Int))),(12,(aI x)),(36,(aB (cond (decide (an < 0)) true (!true))))],[(0,vO 4 (ag ry)),(1,vO 2 (x5 C1)),(2,vO 4 (ag C2)),(3,vO 4 (ag before))],452⟩ (gz 7372) [(1,oT (aI an)),(11,oT (.agg (ag ow))),(13,⟨[],true,.mV,[],1,false,some ⟨lY,[(.agg (ag ow)),(.agg (ag dc))],0,vO 4 (ag bd),vO 4 (ag ry)⟩⟩),(14,⟨[],true,.mV,[],1,false,none⟩)] [] (kp [0,1,2,4,5,10,11,12,36]) (kq [0,1,2,3]) 452 [0 < 1,Sd 47 [(.agg (ag dc))] [] 0 (aI an) [],(!(decide (an < 0)))=true→aW [(!(decide (an < 0)))=true,0 < 1],(!(decide (an < 0)))=true→aW [(!(decide (an < 0)))=true,(!(decide (an < 0)))=true,0≤x∧x < ((C1.bc.length:Nat):Int)],(!(decide (an < 0)))=true→aW [(!(decide (an < 0)))=true],(!(decide (an < 0)))=true→aW [0 < 1],(!(decide (an < 0)))=true→aW [Sd 56 [(.agg [(aB (((C1.bc.getD ((x).toNat) aa.d).fN).fG)),(eU (((C1.bc.getD ((x).toNat) aa.d).fN).fL)),(aB (((C1.bc.getD ((x).toNat) aa.d).fD).fG)),(eU (((C1.bc.getD ((x).toNat) aa.d).fD).fL))]),(.agg (ag before))] [] 0 (.agg (ag ow)) [],(!(decide (an < 0)))=true,(!(decide (an < 0)))=true],(!(decide (an < 0)))=true→aW [0 < 1],(!(decide (an < 0)))=true,(lY=lY∧(#[]:Array Value)=#[]∧(#[]:Array Value)=#[]∧([(.agg (ag ow)),(.agg (ag dc))]:List AV)=[(.agg (ag ow)),(.agg (ag dc))]∧(vO 4 (ag bd):Ob)=vO 4 (ag bd)),(!(decide (an < 0)))=true,(!(decide (an < 0)))=true,(!(decide (an < 0)))=true,(!(decide (an < 0)))=true] ⟨o1,(iH _ _ _ px),(fun hg=>⟨hg,o1,trivial⟩),(fun hg=>⟨hg,hg,(c2 hg),trivial⟩),(fun hg=>⟨hg,trivial⟩),(fun hg=>⟨o1,trivial⟩),(fun hg=>⟨(mB _ _ _ _ (ax uI hg)),hg,hg,trivial⟩),(fun hg=>⟨o1,trivial⟩),hG,⟨rfl,rfl,rfl,rfl,rfl⟩,hG,hG,hG,hG,trivial⟩ ⟨trivial,⟨trivial,⟨hY ow dc bd ry hry,⟨trivial,trivial⟩⟩⟩⟩ ?_
    refine sC 36 (gz 14746) (gz 14747) (cond (decide (an < 0)) true (!true)) (fun iZ=>?_) (fun iZ=>?_)
    ·have h:=ax h iZ
     obtain rfl:=dj h
     refine sW hE ⟨[],[(0,vO 4 (ag ry)),(1,vO 2 (x5 C1)),(2,vO 4 (ag C2))],452⟩ [] [] (kq [0,1,2]) 452 [] trivial ?_
     exact sT Tryz.f104 [] [] trivial
    ·have h:=aL h iZ
     refine sA 1 [.code (gz 3687),.inBlock 1,.code (gz 231),.inLoop (gz 28),.inBlock 0] ?_
     obtain ⟨c3,h⟩:=ab h
     refine sR hE ⟨[(0,(.atom (.func (.yield lY) #[] #[]))),(1,(.op 1 0 0)),(2,(.op 2 0 0)),(4,(.op 3 0 0)),(10,(aK cI 0 C1.av)),(11,(aI ((C1.av.length:Nat):Int))),(12,(aI x))],[(0,vO 4 (ag ry)),(1,vO 2 (x5 C1)),(2,vO 4 (ag C2)),(3,vO 4 [(aB (((C1.bc.getD ((x).toNat) aa.d).fN).fG)),(eU (((C1.bc.getD ((x).toNat) aa.d).fN).fL)),(aB (((C1.bc.getD ((x).toNat) aa.d).fD).fG)),(eU (((C1.bc.getD ((x).toNat) aa.d).fD).fL))])],548⟩ (gz 3687) [] [] (kp [0,1,2,4,10,11,12]) (kq [0,1,2,3]) 548 [0 < 1,0≤x∧x < ((C1.bc.length:Nat):Int),0 < 1] ⟨o1,c3,o1,trivial⟩ ?_
     refine sA 1 [.code (gz 231),.inLoop (gz 28),.inBlock 0] ?_
     refine sR hE ⟨[(0,(.atom (.func (.yield lY) #[] #[]))),(1,(.op 1 0 0)),(2,(.op 2 0 0)),(4,(.op 3 0 0)),(10,(aK cI 0 C1.av)),(11,(aI ((C1.av.length:Nat):Int))),(12,(aI (ao (x+1))))],[(0,vO 4 (ag ry)),(1,vO 2 (x5 C1)),(2,vO 4 (ag C2)),(3,vO 4 [(aB (((C1.bc.getD ((x).toNat) aa.d).fN).fG)),(eU (((C1.bc.getD ((x).toNat) aa.d).fN).fL)),(aB (((C1.bc.getD ((x).toNat) aa.d).fD).fG)),(eU (((C1.bc.getD ((x).toNat) aa.d).fD).fL))])],580⟩ (gz 231) [] [] (kp [0,1,2,4,10,11,12]) (kq [0,1,2,3]) 580 [] trivial ?_
     refine sA 1 [.code (gz 28),.inLoop (gz 28),.inBlock 0] ?_
     exact sW hE _ [] (kp [0,1,2,4,10,11,12]) (kq [0,1,2,3]) 4 [] trivial (ih ry (⟨((C1.bc.getD ((x).toNat) aa.d).fN),((C1.bc.getD ((x).toNat) aa.d).fD)⟩:aa) (ao (x+1)) _ h E hE lY hY)
   ·refine sR hE ⟨[(0,(.atom (.func (.yield lY) #[] #[]))),(1,(.op 1 0 0)),(2,(.op 2 0 0)),(4,(.op 3 0 0)),(5,(aI x)),(10,(aK cI 0 C1.av)),(11,(aI ((C1.av.length:Nat):Int))),(12,(aI x)),(36,(aB (cond (decide (an < 0)) true false)))],[(0,vO 4 (ag bd)),(1,vO 2 (x5 C1)),(2,vO 4 (ag C2)),(3,vO 4 (ag before))],452⟩ (gz 7372) [(1,oT (aI an)),(11,oT (.agg (ag ow))),(13,⟨[],true,(aB false),[],2,false,none⟩),(14,⟨[],true,(aB false),[],2,false,none⟩)] [] (kp [0,1,2,4,5,10,11,12,36]) (kq [0,1,2,3]) 452 [0 < 1,Sd 47 [(.agg (ag dc))] [] 0 (aI an) [],(!(decide (an < 0)))=true→aW [(!(decide (an < 0)))=true,0 < 1],(!(decide (an < 0)))=true→aW [(!(decide (an < 0)))=true,(!(decide (an < 0)))=true,0≤x∧x < ((C1.bc.length:Nat):Int)],(!(decide (an < 0)))=true→aW [(!(decide (an < 0)))=true],(!(decide (an < 0)))=true→aW [0 < 1],(!(decide (an < 0)))=true→aW [Sd 56 [(.agg [(aB (((C1.bc.getD ((x).toNat) aa.d).fN).fG)),(eU (((C1.bc.getD ((x).toNat) aa.d).fN).fL)),(aB (((C1.bc.getD ((x).toNat) aa.d).fD).fG)),(eU (((C1.bc.getD ((x).toNat) aa.d).fD).fL))]),(.agg (ag before))] [] 0 (.agg (ag ow)) [],(!(decide (an < 0)))=true,(!(decide (an < 0)))=true],(!(decide (an < 0)))=true→aW [0 < 1],(!(decide (an < 0)))=false,(!(decide (an < 0)))=false,(!(decide (an < 0)))=true→aW [(!(decide (an < 0)))=true]] ⟨o1,(iH _ _ _ px),(fun hg=>⟨hg,o1,trivial⟩),(fun hg=>⟨hg,hg,(c2 hg),trivial⟩),(fun hg=>⟨hg,trivial⟩),(fun hg=>⟨o1,trivial⟩),(fun hg=>⟨(mB _ _ _ _ (ax uI hg)),hg,hg,trivial⟩),(fun hg=>⟨o1,trivial⟩),hG,hG,(fun hq=>⟨hq,trivial⟩),trivial⟩ ?_
    refine sC 36 (gz 14746) (gz 14747) (cond (decide (an < 0)) true false) (fun qq=>?_) (fun qq=>?_)
    ·have h:=ax h qq
     obtain rfl:=dj h
     refine sW hE ⟨[],[(0,vO 4 (ag bd)),(1,vO 2 (x5 C1)),(2,vO 4 (ag C2))],452⟩ [] [] (kq [0,1,2]) 452 [] trivial ?_
     exact sT Tryz.f104 [] [] trivial
    ·have h:=aL h qq
     refine sA 1 [.code (gz 3687),.inBlock 1,.code (gz 231),.inLoop (gz 28),.inBlock 0] ?_
     obtain ⟨c4,h⟩:=ab h
     refine sR hE ⟨[(0,(.atom (.func (.yield lY) #[] #[]))),(1,(.op 1 0 0)),(2,(.op 2 0 0)),(4,(.op 3 0 0)),(10,(aK cI 0 C1.av)),(11,(aI ((C1.av.length:Nat):Int))),(12,(aI x))],[(0,vO 4 (ag bd)),(1,vO 2 (x5 C1)),(2,vO 4 (ag C2)),(3,vO 4 [(aB (((C1.bc.getD ((x).toNat) aa.d).fN).fG)),(eU (((C1.bc.getD ((x).toNat) aa.d).fN).fL)),(aB (((C1.bc.getD ((x).toNat) aa.d).fD).fG)),(eU (((C1.bc.getD ((x).toNat) aa.d).fD).fL))])],548⟩ (gz 3687) [] [] (kp [0,1,2,4,10,11,12]) (kq [0,1,2,3]) 548 [0 < 1,0≤x∧x < ((C1.bc.length:Nat):Int),0 < 1] ⟨o1,c4,o1,trivial⟩ ?_
     refine sA 1 [.code (gz 231),.inLoop (gz 28),.inBlock 0] ?_
     refine sR hE ⟨[(0,(.atom (.func (.yield lY) #[] #[]))),(1,(.op 1 0 0)),(2,(.op 2 0 0)),(4,(.op 3 0 0)),(10,(aK cI 0 C1.av)),(11,(aI ((C1.av.length:Nat):Int))),(12,(aI (ao (x+1))))],[(0,vO 4 (ag bd)),(1,vO 2 (x5 C1)),(2,vO 4 (ag C2)),(3,vO 4 [(aB (((C1.bc.getD ((x).toNat) aa.d).fN).fG)),(eU (((C1.bc.getD ((x).toNat) aa.d).fN).fL)),(aB (((C1.bc.getD ((x).toNat) aa.d).fD).fG)),(eU (((C1.bc.getD ((x).toNat) aa.d).fD).fL))])],580⟩ (gz 231) [] [] (kp [0,1,2,4,10,11,12]) (kq [0,1,2,3]) 580 [] trivial ?_
     refine sA 1 [.code (gz 28),.inLoop (gz 28),.inBlock 0] ?_
     exact sW hE _ [] (kp [0,1,2,4,10,11,12]) (kq [0,1,2,3]) 4 [] trivial (ih bd (⟨((C1.bc.getD ((x).toNat) aa.d).fN),((C1.bc.getD ((x).toNat) aa.d).fD)⟩:aa) (ao (x+1)) _ h E hE lY hY)
  ·have h:=aL h dQ
   refine sA 1 [] ?_
   obtain rfl:=dj h
   refine sW hE ⟨[],[(0,vO 4 (ag bd)),(1,vO 2 (x5 C1)),(2,vO 4 (ag C2))],51⟩ [] [] (kq [0,1,2]) 51 [] trivial ?_
   exact sF Tryz.f104 [] [] trivial
theorem GK (N RD C0 C1 C2 r) (h:uG N RD C0 C1 C2=some r):∀ E,aQ E 3→∀ lY,(∀ (WE:aa) (WG:aa) (yx yr:aa),RD WE WG yx=some yr→Xs Tryz.prog E ⟨lY,[.agg (ag WE),.agg (ag WG)],0,vO 4 (ag yx),vO 4 (ag yr)⟩)→aw Tryz.prog E 104 43 (aY E [(0,vO 4 (ag r)),(1,vO 2 (x5 C1)),(2,vO 4 (ag C2))] (.tup [])) [.code (gz 1)] ⟨tG [(.atom (.func (.yield lY) #[] #[])),(.op 1 0 0),(.op 2 0 0)] 0,[(0,vO 4 (ag C0)),(1,vO 2 (x5 C1)),(2,vO 4 (ag C2))],3⟩:=by
 intro E hE lY hY
 unfold uG at h
 refine sA 1 [.code (gz 2),.code (gz 3)] ?_
 obtain ⟨ar,hr,h⟩:=bq h
 refine sR hE ⟨[(0,(.atom (.func (.yield lY) #[] #[]))),(1,(.op 1 0 0)),(2,(.op 2 0 0)),(4,(.op 19 0 0))],[(0,vO 4 (ag C0)),(1,vO 2 (x5 C1)),(2,vO 4 (ag C2)),(19,vO 4 (ag ar))],51⟩ (gz 2) [(0,oT (.agg (ag ar)))] [] (kp [0,1,2,4]) (kq [0,1,2,19]) 51 [Sd 66 [(aI 0)] [] 0 (.agg (ag ar)) [],0 < 1] ⟨(cX _ _ _ hr),o1,trivial⟩ ?_
 refine sA 1 [.code (gz 6),.code (gz 7)] ?_
 refine sR hE ⟨[(0,(.atom (.func (.yield lY) #[] #[]))),(1,(.op 1 0 0)),(2,(.op 2 0 0)),(4,(.op 19 0 0)),(10,(aK cI 0 C1.av)),(11,(aI ((C1.av.length:Nat):Int))),(12,(aI 0))],[(0,vO 4 (ag C0)),(1,vO 2 (x5 C1)),(2,vO 4 (ag C2)),(19,vO 4 (ag ar))],115⟩ (gz 6) [] [] (kp [0,1,2,4,10,11,12]) (kq [0,1,2,19]) 115 [0 < 1] ⟨o1,trivial⟩ ?_
 refine sA 2 [.code (gz 28),.inLoop (gz 28),.inBlock 0] ?_
 exact sW hE _ [] (kp [0,1,2,4,10,11,12]) (kq [0,1,2] ++ [(3,.ai 19)]) 4 [] trivial (B8 N RD C1 C2 N C0 ar 0 _ h E hE lY hY)
noncomputable abbrev mi:=cy Tryz.f28
theorem GL (N:Nat) (change:aa) (Qz:aa) (sum:aa) (r:aa) (h:rC N change Qz sum=some r):∀ E,aQ E 1 →
  WI Tryz.prog E 28 (Z3 (mi 122)) ⟨[(7,(.op 0 0 0)),(20,(.agg (ag change))),(21,(.agg (ag Qz)))],[(0,vO 4 (ag sum))],1⟩ ⟨[(7,(.op 0 0 0)),(8,(.op 1 0 0)),(9,(.op 33 0 0))],[(0,vO 4 (ag sum)),(1,vO 4 (ag change)),(33,vO 4 (ag Qz))],65⟩∧WI Tryz.prog E 28 (rfB (mi 122)) ⟨[(7,(.op 0 0 0)),(8,(.op 1 0 0)),(9,(.op 33 0 0))],[(0,vO 4 (ag sum)),(1,vO 4 (ag change)),(33,vO 4 (ag Qz))],65⟩ ⟨[],[(0,vO 4 (ag r))],161⟩:=by
 unfold rC at h
 obtain ⟨cb,hr,h⟩:=bq h
 obtain ⟨a9,eW,h⟩:=bq h
 obtain rfl:=dj h
 exact fun E hE=>⟨(WI.sS (cat (Z3 (mi 122)) (XG 2)) (cat (Z3 (mi 122)) (XG 3)) (WI.sR hE ⟨[(7,(.op 0 0 0)),(20,(.agg (ag change))),(21,(.agg (ag Qz)))],[(0,vO 4 (ag sum))],1⟩ ⟨[(7,(.op 0 0 0)),(8,(.op 1 0 0)),(21,(.agg (ag Qz)))],[(0,vO 4 (ag sum)),(1,vO 4 (ag change))],33⟩ (cat (Z3 (mi 122)) (XG 2)) [] [] (kp [7,8,21]) (kq [0,1]) 33 [0 < 1] ⟨o1,trivial⟩) (WI.sR hE ⟨[(7,(.op 0 0 0)),(8,(.op 1 0 0)),(21,(.agg (ag Qz)))],[(0,vO 4 (ag sum)),(1,vO 4 (ag change))],33⟩ ⟨[(7,(.op 0 0 0)),(8,(.op 1 0 0)),(9,(.op 33 0 0))],[(0,vO 4 (ag sum)),(1,vO 4 (ag change)),(33,vO 4 (ag Qz))],65⟩ (cat (Z3 (mi 122)) (XG 3)) [] [] (kp [7,8,9]) (kq [0,1,33]) 65 [0 < 1] ⟨o1,trivial⟩)),(WI.sB 1 (cat (rfB (mi 122)) (XG 2)) (WI.sR hE ⟨[(7,(.op 0 0 0)),(8,(.op 1 0 0)),(9,(.op 33 0 0))],[(0,vO 4 (ag sum)),(1,vO 4 (ag change)),(33,vO 4 (ag Qz))],65⟩ ⟨[],[(0,vO 4 (ag a9))],161⟩ (cat (rfB (mi 122)) (XG 2)) [(3,oT (.agg (ag cb))),(4,oT (.agg (ag a9)))] [] [] (kq [0]) 161 [0 < 1,0 < 1,0 < 1,Sd 69 [(.agg (ag change)),(.agg (ag Qz))] [] 0 (.agg (ag cb)) [],Sd 68 [(.agg (ag sum)),(.agg (ag cb))] [] 0 (.agg (ag a9)) [],0 < 1] ⟨o1,o1,o1,(eK _ _ _ _ hr),(eJ _ _ _ _ eW),o1,trivial⟩))⟩
theorem JX (N c y r) (h:zQ N c y=some r):Sd 28 [(.agg (x5 c)),(.agg (ag y))] [] 0 (.tup [(.agg (ag r.1)),(aI r.2)]) []:=by
 unfold zQ at h
 refine gX (fu:=Tryz.f28) (c:=mi 1) (nt:=28) (fun hm=>rfl) ?_
 intro E hE
 refine sA 1 [.code (mi 2),.code (mi 3)] ?_
 refine sR hE ⟨[(2,(.op 0 0 0)),(3,(.op 16 0 0)),(4,(.op 32 0 0))],[(0,vO 2 (x5 c)),(16,vO 4 (ag y)),(32,vO 4 [(aB false),.nil,(aB false),.nil])],64⟩ (mi 2) [] [] (kp [2,3,4]) (kq [0,16,32]) 64 [] trivial ?_
 refine sA 2 [.code (mi 12),.code (mi 13),.code (mi 7)] ?_
 obtain ⟨iS,hr,h⟩:=bq h
 refine sR hE ⟨[(2,(.op 0 0 0)),(3,(.op 16 0 0)),(4,(.op 32 0 0)),(6,(aI iS))],[(0,vO 2 (x5 c)),(16,vO 4 (ag y)),(32,vO 4 [(aB false),.nil,(aB false),.nil])],112⟩ (mi 12) [(1,oT (aI iS))] [] (kp [2,3,4,6]) (kq [0,16,32]) 112 [0 < 1,Sd 65 [(.agg (x5 c))] [] 0 (aI iS) []] ⟨o1,(B7 _ _ _ hr),trivial⟩ ?_
 refine sA 1 [.code (mi 26),.code (mi 27),.code (mi 7)] ?_
 refine sR hE ⟨[(2,(.op 0 0 0)),(3,(.op 16 0 0)),(4,(.op 32 0 0)),(6,(aI iS)),(13,(aB (iS != 0)))],[(0,vO 2 (x5 c)),(16,vO 4 (ag y)),(32,vO 4 [(aB false),.nil,(aB false),.nil])],144⟩ (mi 26) [] [] (kp [2,3,4,6,13]) (kq [0,16,32]) 144 [] trivial ?_
 refine sC 13 (mi 54) (mi 55) (iS != 0) (fun dQ=>?_) (fun dQ=>?_)
 ·have h:=ax h dQ
  refine sA 1 [.code (mi 108),.code (mi 109),.code (mi 7)] ?_
  refine sR hE ⟨[(4,(.op 32 0 0)),(5,(aI iS))],[(32,vO 4 [(aB false),.nil,(aB false),.nil])],208⟩ (mi 108) [] [] (kp [4,5]) (kq [32]) 208 [0 < 1] ⟨o1,trivial⟩ ?_
  obtain rfl:=dj h
  refine sW hE ⟨[(4,(.op 16 0 0)),(5,(aI iS))],[(16,vO 4 [(aB false),(eU ([]:List Int)),(aB false),(eU ([]:List Int))])],208⟩ [] (kp [4,5]) [(16,.var 32 [.ai,.sl (([]:List Int).length) (fun zi=>(cU .u16) (([]:List Int).getD zi 0)),.ai,.sl (([]:List Int).length) (fun zi=>(cU .u16) (([]:List Int).getD zi 0))])] 208 [([]:List Int).length=0,([]:List Int).length=0] ⟨rfl,rfl,trivial⟩ ?_
  exact sT Tryz.f28 [16] [0 < 1] ⟨o1,trivial⟩
 ·have h:=aL h dQ
  refine sA 2 [.code (mi 14),.code (mi 15)] ?_
  obtain ⟨ar,eW,h⟩:=bq h
  refine sR hE ⟨[(2,(.op 0 0 0)),(3,(.op 16 0 0)),(4,(.op 32 0 0)),(7,(.op 160 0 0))],[(0,vO 2 (x5 c)),(16,vO 4 (ag y)),(32,vO 4 [(aB false),.nil,(aB false),.nil]),(160,vO 4 (ag ar))],192⟩ (mi 14) [(0,oT (.agg (ag ar)))] [] (kp [2,3,4,7]) (kq [0,16,32,160]) 192 [Sd 66 [(aI 0)] [] 0 (.agg (ag ar)) [],0 < 1] ⟨(cX _ _ _ eW),o1,trivial⟩ ?_
  refine sA 2 [.code (mi 60),.code (mi 61),.code (mi 31)] ?_
  obtain ⟨lp,lL,h⟩:=bq h
  refine sR hE ⟨[(4,(.op 32 0 0)),(7,(.op 160 0 0)),(19,(.fn (.func 104) [] [(.op 224 0 0),(.op 225 0 0)]))],[(32,vO 4 [(aB false),.nil,(aB false),.nil]),(160,vO 4 (ag ar)),(224,vO 2 (x5 lp.1)),(225,vO 4 (ag lp.2))],240⟩ (mi 60) [(2,⟨[],false,(.fn (.func 104) [] [(.op 0 0 0),(.op 1 0 0)]),[(0,vO 2 (x5 lp.1)),(1,vO 4 (ag lp.2))],0,false,none⟩)] [] (kp [4,7,19]) (kq [32,160,224,225]) 240 [0 < 1,0 < 1,Sd 67 [(.agg (x5 c)),(.agg (ag y))] [] 0 (.fn (.func 104) [] [(.op 0 0 0),(.op 1 0 0)]) [(0,vO 2 (x5 lp.1)),(1,vO 4 (ag lp.2))]] ⟨o1,o1,(JW _ _ _ _ lL),trivial⟩ ?_
  refine sA 1 [.code (mi 122),.inBlock 0,.code (mi 31)] ?_
  obtain ⟨rr,hrr,h⟩:=bq h
  refine aw.range (m1:=3) (m9:=1) (nt1:=43) (orc:=⟨[160,224,225],false,.tup [],[(0,vO 4 (ag rr)),(1,vO 2 (x5 lp.1)),(2,vO 4 (ag lp.2))],0,false,none⟩) (avs:=fun l=>[.atom (.func (.yield l) #[] #[]),.op 1 0 0,.op 2 0 0]) (rU:=[(0,vO 4 (ag ar)),(1,vO 2 (x5 lp.1)),(2,vO 4 (ag lp.2))]) (dx:=[(0,vO 4 (ag rr)),(1,vO 2 (x5 lp.1)),(2,vO 4 (ag lp.2))]) (res:=.tup []) (x:=.tup []) (gid:=104) (fu:=Tryz.f104) (c1:=gz 1) (rds:=[160,224,225]) (upd:=yy [160,224,225] 240 [(0,vO 4 (ag rr)),(1,vO 2 (x5 lp.1)),(2,vO 4 (ag lp.2))] 0 [160,224,225] ++ (AL [160,224,225] 240 [(0,vO 4 (ag rr)),(1,vO 2 (x5 lp.1)),(2,vO 4 (ag lp.2))] ++ [])) hE rfl rfl (by kernel_rfl) (by kernel_rfl) (by kernel_rfl) (fun _=>by kernel_rfl) (fun l=>by kernel_rfl) (fun E1 l rq hm hl HI zs Qw Wp has Pq kr hsn=>?_) (by decide) (by decide) (by show (1:Nat)≤256;decide) (fun E9 D hE9 HB ZZ hD HI Z0=>?_)
  ·refine GK N (rC N) ar lp.1 lp.2 rr hrr E1 ⟨hm,fun h=>absurd h (by decide)⟩ l (fun WE WG yx yr hy=>?_)
   have W:=GL N WE WG yx yr hy
   refine XI (nt:=28) hl HI zs Qw (by rw [hm];decide) rfl rfl (by show (4:Nat)≠0;decide) rfl (by rw [Wp];rfl) (st0:=⟨[(7,(.op 0 0 0)),(20,(.agg (ag WE))),(21,(.agg (ag WG)))],[(0,vO 4 (ag yx))],1⟩) rfl rfl ?_ ?_ (fun E' hE'=>by rw [has];exact (W E' hE').1) (fun E' hE'=>by rw [Pq];exact (W E' hE').2)
   ·rfl
   ·intro w S μ vs Px Hw;exact PS Wp kr (by decide) (by decide) (by decide) (by decide) (by decide) (hsn 7) Px Hw
  ·refine gh.sA 2 [.code (mi 62),.code (mi 63)] ?_
   refine gh.sR hE9 ⟨[(4,(.op 32 0 0)),(5,(aI 0))],[(32,vO 4 (ag rr))],304⟩ (mi 62) [] [] (kp [4,5]) (kq [32]) 304 [0 < 1,0 < 1] ⟨o1,o1,trivial⟩ ?_
   obtain rfl:=dj h
   refine gh.sW hE9 ⟨[(4,(.op 16 0 0)),(5,(aI 0))],[(16,vO 4 (ag rr))],304⟩ [] (kp [4,5]) [(16,.ai 32)] 304 [] trivial ?_
   exact gh.sT HB ZZ hD HI Z0 Tryz.f28 [16] [0 < 1] ⟨o1,trivial⟩
noncomputable abbrev Vu:=cy Tryz.f30
def Dx (N:Nat) (a:bR) (b:bR) (K:Int→Option (Bool)):Prop:=∀ (i:Int) (r:Bool),K i=some r→∀ E,aQ E 0→aw Tryz.prog E 30 38 (aY E [] (aB r)) [.code (Vu 116),.inLoop (Vu 116),.inBlock 0,.code (Vu 15)] ⟨[(2,(.op 0 0 0)),(3,(.op 1 0 0)),(5,(aI i))],[(0,vO 2 (iv a)),(1,vO 2 (iv b))],2⟩
theorem B9 (N a b fuel):Dx N a b (iT N a b fuel):=by
 induction fuel with
 | zero=>intro _ r h;rw [iT.eq_1] at h;cases h
 | succ fuel ih =>
  intro i r h E hE
  rw [iT.eq_2] at h
  refine ah hE 2 [] [] (kp [2,3,5,24]) (kq [0,1]) 82 (pc o1 pn) ?_
  refine dK 0 24 h (fun iZ h=>?_) (fun iZ h=>?_)
  ·obtain ⟨c,h⟩:=ab h
   obtain ⟨c2,h⟩:=ab h
   refine ah hE 4 [] [] (kp [2,3,5,37]) (kq [0,1]) 258 (pc o1 (pc c (pc o1 (pc c2 pn)))) ?_
   refine dK 0 37 h (fun qq h=>?_) (fun qq h=>?_)
   ·refine ah hE 1 [] [] (kp [4]) [] 274 pn ?_
    obtain rfl:=dj h
    exact dw hE 0 Tryz.f30 [] (kp [4]) [] 274 pn [] pn
   ·refine ah hE 2 [] [] (kp [2,3,5]) (kq [0,1]) 306 pn ?_
    exact dh hE 1 [] (kp [2,3,5]) (kq [0,1]) 2 pn (ih _ _ h E hE)
  ·refine ah hE 2 [] [] (kp [4]) [] 98 pn ?_
   obtain rfl:=dj h
   exact dw hE 0 Tryz.f30 [] (kp [4]) [] 98 pn [] pn
theorem qf (N a b r) (h:k9 N a b=some r):Sd 30 [(.agg (iv a)),(.agg (iv b))] [] 0 (aB r) []:=by
 unfold k9 at h
 refine gX (fu:=Tryz.f30) (c:=Vu 1) (nt:=38) (fun hm=>rfl) ?_
 intro E hE
 refine ah hE 1 [] [] (kp [2,3]) (kq [0,16]) 48 pn ?_
 refine ah hE 2 [] [] (kp [2,3,19]) (kq [0,16]) 272 (pc o1 (pc o1 (pc (fun hg:(!(!(a.fG == b.fG)))=true=>(pc hg (pc o1 pn))) (pc (fun hg:(!(!(a.fG == b.fG)))=true=>(pc hg pn)) (pc (fun hg:(!(!(a.fG == b.fG)))=true=>(pc hg (pc o1 pn))) (pc (fun hg:(!(!(a.fG == b.fG)))=true=>(pc hg pn)) (pc (fun hg:(!(!(a.fG == b.fG)))=true=>(pc hg (pc hg pn))) (pc (fun hq:(!(!(a.fG == b.fG)))=true=>(pc hq pn)) pn)))))))) ?_
 refine dK 0 19 h (fun dQ h=>?_) (fun dQ h=>?_)
 ·refine ah hE 1 [] [] (kp [4]) [] 288 pn ?_
  obtain rfl:=dj h
  exact dw hE 0 Tryz.f30 [] (kp [4]) [] 288 pn [] pn
 ·refine ah hE 3 [] [] (kp [2,3,5]) (kq [0,16]) 288 pn ?_
  exact dh hE 2 [] (kp [2,3,5]) (kq [0] ++ [(1,.ai 16)]) 2 pn (B9 N _ _ N _ _ h E hE)
noncomputable abbrev P0:=cy Tryz.f31
def No (N:Nat) (K:Int→Int→Option (aa)):Prop:=∀ (a2:Int) (b2:Int) (r:aa),K a2 b2=some r→∀ E,aQ E 0→aw Tryz.prog E 31 34 (aY E [] (.agg (ag r))) [.code (P0 14),.code (P0 15)] ⟨[(0,(aI a2)),(1,(aI b2)),(4,(.op 0 0 0))],[(0,vO 4 [(aB false),.nil,(aB false),.nil])],1⟩
def Np (N:Nat) (a2:Int) (b2:Int) (K:Int→Int→Option (aa)):Prop:=∀ (x:Int) (y:Int) (r:aa),K x y=some r→∀ E,aQ E 0→aw Tryz.prog E 31 34 (aY E [] (.agg (ag r))) [.code (P0 248),.inLoop (P0 248),.inBlock 0,.code (P0 63)] ⟨[(0,(aI a2)),(1,(aI b2)),(4,(.op 0 0 0)),(5,(aI x)),(6,(aI y))],[(0,vO 4 [(aB false),.nil,(aB false),.nil])],1⟩
theorem D8 (N a2 b2 fuel):Np N a2 b2 (p7 N a2 b2 fuel):=by
 induction fuel with
 | zero=>intro _ _ r h;rw [p7.eq_1] at h;cases h
 | succ fuel ih =>
  intro x y r h E hE
  rw [p7.eq_2] at h
  refine ah hE 2 [] [] (kp [0,1,4,5,6,20]) (kq [0]) 33 pn ?_
  refine dK 0 20 h (fun qq h=>?_) (fun qq h=>?_)
  ·obtain ⟨c,h⟩:=ab h
   refine ah hE 2 [] [] (kp [0,1,4,5,6]) (kq [0]) 129 (pc c pn) ?_
   exact dh hE 2 [] (kp [0,1,4,5,6]) (kq [0]) 1 pn (ih _ _ _ h E hE)
  ·obtain ⟨c2,h⟩:=ab h
   obtain ⟨rZ,hr,h⟩:=bq h
   obtain ⟨R7,eW,h⟩:=bq h
   refine ah hE 2 [(3,oT (.agg (iv rZ))),(7,oT (.agg (iv R7)))] [] (kp [4]) (kq [0]) 193 (pc c2 (pc (rL _ _ _ hr) (pc c2 (pc (rL _ _ _ eW) (pc o1 pn))))) ?_
   obtain rfl:=dj h
   exact dw hE 0 Tryz.f31 [] (kp [4]) [(16,.ai 0)] 193 pn [16] (pc o1 pn)
theorem D9 (N):No N (yM N):=by
 intro a2 b2 r h E hE
 unfold yM at h
 refine ah hE 0 [] [] (kp [0,1,4,5,6]) (kq [0]) 65 pn ?_
 refine ah hE 2 [] [] (kp [0,1,4,5,6,16]) (kq [0]) 97 pn ?_
 refine dK 0 16 h (fun iZ h=>?_) (fun iZ h=>?_)
 ·refine ah hE 0 [] [] (kp [0,1,4,5,6]) (kq [0]) 145 pn ?_
  exact dh hE 3 [] (kp [0,1,4,5,6]) (kq [0]) 1 pn (D8 N _ _ N _ _ _ h E hE)
 ·exact dh hE 4 [] (kp [0,1,4,5,6]) (kq [0]) 1 pn (D8 N _ _ N _ _ _ h E hE)
theorem Sh (N a b r) (h:Ll N a b=some r):Sd 31 [(aI a),(aI b)] [] 0 (.agg (ag r)) []:=by
 unfold Ll at h
 refine gX (fu:=Tryz.f31) (c:=P0 1) (nt:=34) (fun hm=>rfl) ?_
 intro E hE
 refine ah hE 1 [] [] (kp [0,1,4]) (kq [0]) 16 pn ?_
 refine ah hE 2 [] [] (kp [0,1,4,8]) (kq [0]) 48 pn ?_
 refine dK 0 8 h (fun dQ h=>?_) (fun dQ h=>?_)
 ·refine ah hE 0 [] [] (kp [0,1,4]) (kq [0]) 144 pn ?_
  exact dh hE 1 [] (kp [0,1,4]) (kq [0]) 1 pn (D9 N _ _ _ h E hE)
 ·exact dh hE 2 [] (kp [0,1,4]) (kq [0]) 1 pn (D9 N _ _ _ h E hE)
noncomputable abbrev adC:=cy Tryz.f10
theorem y6 (N a b r) (h:pF N a b=some r):Sd 10 [(.agg (ag a)),(.agg (ag b))] [] 0 (aB r) []:=by
 unfold pF at h
 refine gX (fu:=Tryz.f10) (c:=adC 1) (nt:=17) (fun hm=>rfl) ?_
 intro E hE
 refine ah hE 1 [] [] (kp [2,3]) (kq [0,16]) 48 pn ?_
 obtain ⟨cR,hr,h⟩:=bq h
 obtain ⟨dW,eW,h⟩:=bq h
 refine ah hE 1 [(4,oT (aB cR)),(10,oT (aB dW))] [] (kp [4]) [] 256 (pc o1 (pc o1 (pc (qf _ _ _ _ hr) (pc (fun hg:cR=true=>(pc hg (pc o1 pn))) (pc (fun hg:cR=true=>(pc hg (pc o1 pn))) (pc (fun hg:cR=true=>(pc (qf _ _ _ _ (ax eW hg)) (pc hg (pc hg pn)))) (pc (fun hq:cR=true=>(pc hq pn)) pn))))))) ?_
 obtain rfl:=dj h
 exact dw hE 0 Tryz.f10 [] (kp [4]) [] 256 pn [] pn
noncomputable abbrev adE:=cy Tryz.f7
theorem qg (N r) (h:gS N=some r):Sd 7 [] [] 0 (aB r) []:=by
 unfold gS at h
 refine gX (fu:=Tryz.f7) (c:=adE 1) (nt:=60) (fun hm=>rfl) ?_
 intro E hE
 refine ah hE 1 [] [] [] [] 16 pn ?_
 obtain ⟨rZ,hr,h⟩:=bq h
 obtain ⟨R7,eW,h⟩:=bq h
 obtain ⟨dI,lL,h⟩:=bq h
 refine ah hE 1 [(0,oT (.agg (iv rZ))),(1,oT (.agg (iv R7))),(2,oT (.tup [(.agg (iv dI.1)),(.agg (iv dI.2.1)),(aI dI.2.2)]))] [] (kp [1,2,3]) (kq [128,144]) 208 (pc (rL _ _ _ hr) (pc (rL _ _ _ eW) (pc (HZ _ _ _ _ lL) (pc o1 (pc o1 pn))))) ?_
 obtain ⟨l7,px,h⟩:=bq h
 refine ah hE 1 [(0,oT (.tup [(.agg (ag l7.1)),(aI l7.2)]))] [] (kp [1,2,3,4,5]) (kq [128,144,272]) 320 (pc (JU _ _ _ _ px) (pc o1 pn)) ?_
 obtain ⟨rWs,uI,h⟩:=bq h
 refine ah hE 1 [(2,⟨[],true,(aK ag aa.d rWs),[],0,true,none⟩)] [] (kp [1,2,3,4,5,6]) (kq [128,144,272] ++ [(320,.arr 320 (([0,10]:List Int).length) (fun zi=>cI (([0,10]:List Int).getD zi 0))),(384,.var 384 [.lO (([0,10]:List Int).length),.ai])]) 416 (pc (show Sd 27 [(.sl 2 (fun zi=>(fun zi=>([[(aI 2)],[(aI 0)]]:List (List AV)).getD zi []) (bQ 0 zi)))] [] 0 (aK ag aa.d rWs) [] from (Sound.conv (PZ _ _ _ uI) (.cons (Alike.sl rfl (fun zq j8=>dU cI 0 ([2,0]:List Int) zq j8)) .nil))) (pc (z1 2) (pc o1 (pc (Eq.refl 2) (pc (show ∀ zi,zi < ([0,10]:List Int).length→(fun zi=>cI (([0,10]:List Int).getD zi 0)) zi=(fun zi=>([[(aI 0)],[(aI 10)]]:List (List AV)).getD zi []) zi from (fun zq j8=>dU cI 0 ([0,10]:List Int) zq j8)) (pc (Eq.refl 2) pn)))))) ?_
 obtain ⟨rW,yT,h⟩:=bq h
 obtain ⟨tN,Ag,h⟩:=bq h
 refine ah hE 1 [(1,oT (.agg (ag rW))),(2,⟨[],true,(.tup [(.agg (ag tN.1)),(aI tN.2)]),[],0,true,none⟩)] [] (kp [1,2,3,4,5,7,8]) (kq [128,144,272,512]) 560 (pc o1 (pc (GJ _ _ _ yT) (pc (JX _ _ _ _ Ag) (pc (z1 (([0,10]:List Int).length)) (pc o1 pn))))) ?_
 obtain ⟨rZ3,HT,h⟩:=bq h
 obtain ⟨cR,HS,h⟩:=bq h
 obtain ⟨rZ4,A4,h⟩:=bq h
 obtain ⟨dW,GH,h⟩:=bq h
 obtain ⟨rQ,Nj,h⟩:=bq h
 obtain ⟨nr,Nk,h⟩:=bq h
 obtain ⟨rW2,Nl,h⟩:=bq h
 obtain ⟨Dm,Sg,h⟩:=bq h
 refine ah hE 1 [(4,oT (.agg (iv rZ3))),(5,oT (aB cR)),(9,oT (.agg (iv rZ4))),(10,oT (aB dW)),(18,oT (.agg (ag rQ))),(19,oT (aB nr)),(27,oT (.agg (ag rW2))),(28,oT (aB Dm))] [] (kp [0]) [] 1056 (pc (fun hg:(dI.2.2 == 0)=true=>(pc o1 pn)) (pc (fun hg:(dI.2.2 == 0)=true=>(pc (rL _ _ _ (ax HT hg)) pn)) (pc (fun hg:(dI.2.2 == 0)=true=>(pc (qf _ _ _ _ (ax HS hg)) (pc hg (pc hg pn)))) (pc (fun hq:(dI.2.2 == 0)=true=>(pc hq pn)) (pc (fun hg:(cond (dI.2.2 == 0) cR false)=true=>(pc o1 pn)) (pc (fun hg:(cond (dI.2.2 == 0) cR false)=true=>(pc (rL _ _ _ (ax A4 hg)) pn)) (pc (fun hg:(cond (dI.2.2 == 0) cR false)=true=>(pc (qf _ _ _ _ (ax GH hg)) (pc hg (pc hg pn)))) (pc (fun hq:(cond (dI.2.2 == 0) cR false)=true=>(pc hq pn)) (pc (fun hg:(cond (cond (dI.2.2 == 0) cR false) dW false)=true=>(pc hg pn)) (pc (fun hq:(cond (cond (dI.2.2 == 0) cR false) dW false)=true=>(pc hq pn)) (pc (fun hg:(cond (cond (cond (dI.2.2 == 0) cR false) dW false) (l7.2 == 0) false)=true=>(pc o1 pn)) (pc (fun hg:(cond (cond (cond (dI.2.2 == 0) cR false) dW false) (l7.2 == 0) false)=true=>(pc (Sh _ _ _ _ (ax Nj hg)) pn)) (pc (fun hg:(cond (cond (cond (dI.2.2 == 0) cR false) dW false) (l7.2 == 0) false)=true=>(pc (y6 _ _ _ _ (ax Nk hg)) (pc hg (pc hg pn)))) (pc (fun hq:(cond (cond (cond (dI.2.2 == 0) cR false) dW false) (l7.2 == 0) false)=true=>(pc hq pn)) (pc (fun hg:(cond (cond (cond (cond (dI.2.2 == 0) cR false) dW false) (l7.2 == 0) false) nr false)=true=>(pc hg pn)) (pc (fun hq:(cond (cond (cond (cond (dI.2.2 == 0) cR false) dW false) (l7.2 == 0) false) nr false)=true=>(pc hq pn)) (pc (fun hg:(cond (cond (cond (cond (cond (dI.2.2 == 0) cR false) dW false) (l7.2 == 0) false) nr false) (tN.2 == 0) false)=true=>(pc o1 pn)) (pc (fun hg:(cond (cond (cond (cond (cond (dI.2.2 == 0) cR false) dW false) (l7.2 == 0) false) nr false) (tN.2 == 0) false)=true=>(pc (GJ _ _ _ (ax Nl hg)) pn)) (pc (fun hg:(cond (cond (cond (cond (cond (dI.2.2 == 0) cR false) dW false) (l7.2 == 0) false) nr false) (tN.2 == 0) false)=true=>(pc (y6 _ _ _ _ (ax Sg hg)) (pc hg (pc hg pn)))) (pc (fun hq:(cond (cond (cond (cond (cond (dI.2.2 == 0) cR false) dW false) (l7.2 == 0) false) nr false) (tN.2 == 0) false)=true=>(pc hq pn)) pn)))))))))))))))))))) ?_
 obtain rfl:=dj h
 exact dw hE 0 Tryz.f7 [] (kp [0]) [] 1056 pn [] pn
noncomputable abbrev rM:=cy Tryz.f36
def nC (N:Nat) (ae:List aa) (C0:Int) (bd:Int) (cg:Int) (C1:List Int) (C2:List Int) (C3:List (List aa)) (C4:List aa) (K:(List aa)→Bool→(List Int)→Bool→(List Int)→Int→Option (jq×(List aa))):Prop:=∀ (cd:List aa) (mW:Bool) (js:List Int) (mI:Bool) (fk:List Int) (x:Int) (r:jq×(List aa)),K cd mW js mI fk x=some r→∀ E,aQ E 6→aw Tryz.prog E 36 119 (aY E [(0,vN 12 [(aI r.1.tk),(aI r.1.tl),(.os 1 0 C1.length),(.os 2 0 C2.length),(.os 3 0 C3.length),(.os 4 0 C4.length),(.os 5 0 r.2.length),(aB r.1.af.fN.fG),(eU r.1.af.fN.fL),(aB r.1.af.fD.fG),(eU r.1.af.fD.fL),(aI r.1.bI)]),(1,aO 1 cI 0 C1),(2,aO 1 cI 0 C2),(3,aM 4 ag aa.d C3),(4,aO 4 ag aa.d C4),(5,aO 4 ag aa.d r.2)] (.tup [])) [.code (rM 12),.inLoop (rM 12),.inBlock 0] ⟨[(0,(.op 0 0 0)),(11,(aK ag aa.d ae)),(12,(aI ((ae.length:Nat):Int))),(13,(aI x))],[(0,vN 12 [(aI C0),(aI bd),(.os 1 0 C1.length),(.os 2 0 C2.length),(.os 3 0 C3.length),(.os 4 0 C4.length),(.os 5 0 cd.length),(aB mW),(eU js),(aB mI),(eU fk),(aI cg)]),(1,aO 1 cI 0 C1),(2,aO 1 cI 0 C2),(3,aM 4 ag aa.d C3),(4,aO 4 ag aa.d C4),(5,aO 4 ag aa.d cd)],6⟩
def rN (N:Nat) (ae:List aa) (C0:Int) (bd:Int) (cg:Int) (C1:List Int) (C2:List Int) (C3:List (List aa)) (C4:List aa) (x:Int) (K:(List aa)→Bool→(List Int)→Bool→(List Int)→(List (Int×aa))→Option (jq×(List aa))):Prop:=∀ (il:List aa) (mX:Bool) (pP:List Int) (pQ:Bool) (sQ:List Int) (rem:List (Int×aa)) (r:jq×(List aa)),K il mX pP pQ sQ rem=some r→∀ E,aQ E 6→∀ E0 lI,JF E0 E lI aI (fun x=>.agg (ag x)) none rem→aw Tryz.prog E 36 119 (aY E0 [(0,vN 12 [(aI r.1.tk),(aI r.1.tl),(.os 1 0 C1.length),(.os 2 0 C2.length),(.os 3 0 C3.length),(.os 4 0 C4.length),(.os 5 0 r.2.length),(aB r.1.af.fN.fG),(eU r.1.af.fN.fL),(aB r.1.af.fD.fG),(eU r.1.af.fD.fL),(aI r.1.bI)]),(1,aO 1 cI 0 C1),(2,aO 1 cI 0 C2),(3,aM 4 ag aa.d C3),(4,aO 4 ag aa.d C4),(5,aO 4 ag aa.d r.2)] (.tup [])) [.code (rM 3276),.inLoop (rM 3276),.inBlock 2,.inBlock 1,.code (rM 103),.inLoop (rM 12),.inBlock 0] ⟨[(0,(.op 0 0 0)),(11,(aK ag aa.d ae)),(12,(aI ((ae.length:Nat):Int))),(13,(aI x)),(31,(.atom (.pointer (some ⟨lI,0,none⟩))))],[(0,vN 12 [(aI C0),(aI bd),(.os 1 0 C1.length),(.os 2 0 C2.length),(.os 3 0 C3.length),(.os 4 0 C4.length),(.os 5 0 il.length),(aB mX),(eU pP),(aB pQ),(eU sQ),(aI cg)]),(1,aO 1 cI 0 C1),(2,aO 1 cI 0 C2),(3,aM 4 ag aa.d C3),(4,aO 4 ag aa.d C4),(5,aO 4 ag aa.d il)],6⟩
def y7 (N:Nat) (ae:List aa) (C0:Int) (bd:Int) (cg:Int) (C1:List Int) (C2:List Int) (C3:List (List aa)) (C4:List aa) (x:Int) (il:List aa) (CD:Int×aa) (left:List (Int×aa)) (bw:Int) (dg:aa) (K:(List aa)→Int→Option (jq×(List aa))):Prop:=∀ (oe:List aa) (x2:Int) (r:jq×(List aa)),K oe x2=some r→∀ E,aQ E 6→∀ E0 lI,JF E0 E lI aI (fun x=>.agg (ag x)) none left→aw Tryz.prog E 36 119 (aY E0 [(0,vN 12 [(aI r.1.tk),(aI r.1.tl),(.os 1 0 C1.length),(.os 2 0 C2.length),(.os 3 0 C3.length),(.os 4 0 C4.length),(.os 5 0 r.2.length),(aB r.1.af.fN.fG),(eU r.1.af.fN.fL),(aB r.1.af.fD.fG),(eU r.1.af.fD.fL),(aI r.1.bI)]),(1,aO 1 cI 0 C1),(2,aO 1 cI 0 C2),(3,aM 4 ag aa.d C3),(4,aO 4 ag aa.d C4),(5,aO 4 ag aa.d r.2)] (.tup [])) [.code (rM 3355516),.inLoop (rM 3355516),.inBlock 4,.inBlock 3,.inLoop (rM 3276),.inBlock 2,.inBlock 1,.code (rM 103),.inLoop (rM 12),.inBlock 0] ⟨[(0,(.op 0 0 0)),(7,(.op 6 0 0)),(9,(aI bw)),(11,(aK ag aa.d ae)),(12,(aI ((ae.length:Nat):Int))),(13,(aI x)),(31,(.atom (.pointer (some ⟨lI,0,none⟩)))),(87,(aI ((il.length:Nat):Int))),(88,(aI x2))],[(0,vN 12 [(aI C0),(aI bd),(.os 1 0 C1.length),(.os 2 0 C2.length),(.os 3 0 C3.length),(.os 4 0 C4.length),(.os 5 0 oe.length),(aB dg.fN.fG),(eU dg.fN.fL),(aB dg.fD.fG),(eU dg.fD.fL),(aI cg)]),(1,aO 1 cI 0 C1),(2,aO 1 cI 0 C2),(3,aM 4 ag aa.d C3),(4,aO 4 ag aa.d C4),(5,aO 4 ag aa.d oe),(6,vO 4 (ag CD.2))],7⟩
theorem yd (N:Nat) (ae:List aa) (C0:Int) (bd:Int) (cg:Int) (C1:List Int) (C2:List Int) (C3:List (List aa)) (C4:List aa) (x:Int) (il:List aa) (CD:Int×aa) (left:List (Int×aa)) (bw:Int) (dg:aa) (iU:(List aa)→Bool→(List Int)→Bool→(List Int)→(List (Int×aa))→Option (jq×(List aa))) (cx:(List aa)→Bool→(List Int)→Bool→(List Int)→Int→Option (jq×(List aa))) (ye:rN N ae C0 bd cg C1 C2 C3 C4 x iU) (mL:nC N ae C0 bd cg C1 C2 C3 C4 cx) (fuel:Nat):y7 N ae C0 bd cg C1 C2 C3 C4 x il CD left bw dg (en N ae C0 bd cg C1 C2 C3 C4 x il CD left bw dg iU cx fuel):=by
 induction fuel with
 | zero=>intro _ _ r h;rw [en.eq_1] at h;cases h
 | succ fuel ih =>
  intro oe x2 r h E hE E0 lI hI
  rw [en.eq_2] at h
  refine ah hE 1 [] [] (kp [0,7,9,11,12,13,31,87,88,89]) (kq [0,1,2,3,4,5,6]) 23 pn ?_
  refine dK 1 89 h (fun qq h=>?_) (fun qq h=>?_)
  ·refine ah hE 4 [] [] (kp [0,7,9,10,11,12,13,31,87,88]) (kq [0,1,2,3,4,5,6]) 55 pn ?_
   obtain ⟨c6,h⟩:=ab h
   refine RU 3 ((bw).toNat) 4 ((C3.getD ((bw).toNat) []).length) (fun zi=>ag ((C3.getD ((bw).toNat) []).getD zi aa.d)) (pc c6 (pc (show bk [] (mG C3) ((bw).toNat)=mR 4 ag aa.d (C3.getD ((bw).toNat) []) from rfl) pn)) ?_
   obtain ⟨c7,h⟩:=ab h
   obtain ⟨c8,h⟩:=ab h
   obtain ⟨c9,h⟩:=ab h
   obtain ⟨gJ,A4,h⟩:=bq h
   obtain ⟨jt,GH,h⟩:=bq h
   refine ah hE 0 [(19,oF (.os 55 0 ((C3.getD ((bw).toNat) []).length))),(23,oT (.agg (ag gJ))),(24,oT (.agg (ag jt)))] [] (kp [0,7,9,11,12,13,31,87,88]) ([(0,.var 0 [.ai,.ai,.ai,.ai,.ai,.ai,.lO ((oe.set ((x2).toNat) jt).length),.ai,.ai,.ai,.ai,.ai])] ++ kq [1,2] ++ [(3,.po 3 (C3.length) [((bw).toNat,55,(C3.getD ((bw).toNat) []).length)] (mG C3))] ++ kq [4] ++ [(5,.arr 5 ((oe.set ((x2).toNat) jt).length) (fun zi=>ag ((oe.set ((x2).toNat) jt).getD zi aa.d)))] ++ kq [6,55]) 503 (pc o1 (pc o1 (pc c7 (pc (dm c7) (pc o1 (pc o1 (pc c8 (pc (dm c8) (pc (show (bk [((bw).toNat,55,(C3.getD ((bw).toNat) []).length)] (mG C3) ((bw).toNat))[0]?=some (.os 55 0 ((C3.getD ((bw).toNat) []).length)) from (gO rfl)) (pc c9 (pc (dm c9) (pc (eK _ _ _ _ A4) (pc (eJ _ _ _ _ GH) (pc c7 (pc (dm c7) (pc (aG oe ((x2).toNat) jt) (pc (Eq.refl C3.length) (pc (mC C3 [((bw).toNat,55,(C3.getD ((bw).toNat) []).length)]) (pc (iM C3) (pc (aG oe ((x2).toNat) jt) (pc (cH ag aa.d oe ((x2).toNat) jt) pn))))))))))))))))))))) ?_
   refine PN 3 55 ((bw).toNat) (pc c6 (pc (show bk [((bw).toNat,55,(C3.getD ((bw).toNat) []).length)] (mG C3) ((bw).toNat)=[.os 55 0 (C3.getD ((bw).toNat) []).length] from if_pos rfl) (pc (show ∀ zj,zj < (C3.getD ((bw).toNat) []).length→mP (ag ((C3.getD ((bw).toNat) []).getD zj aa.d))=true from fun _ _=>rfl) pn))) ?_
   refine Kt hE [] (kp [0,7,9,11,12,13,31,87,88]) (kq [0,1,2] ++ [(3,.po 3 (C3.length) [] (mG C3))] ++ kq [4,5,6]) 503 (pc (Eq.refl (C3.length)) (pc (ri (sz:=4) (c:=ag) (d:=aa.d) C3 ((bw).toNat) 55 ((C3.getD ((bw).toNat) []).length) [] Dh) (pc (iM C3) pn))) ?_
   refine ah hE 1 [] [] (kp [0,7,9,11,12,13,31,87,88]) (kq [0,1,2,3,4,5,6]) 535 pn ?_
   exact dh hE 1 [] (kp [0,7,9,11,12,13,31,87,88]) (kq [0,1,2,3,4,5,6]) 7 pn (ih _ _ _ h E hE _ lI hI.forget)
  ·exact dh hE 3 [] (kp [0,11,12,13,31]) (kq [0,1,2,3,4,5]) 6 pn (ye _ _ _ _ _ _ _ h E hE _ lI hI.forget)
theorem qy (N:Nat) (ae:List aa) (C0:Int) (bd:Int) (cg:Int) (C1:List Int) (C2:List Int) (C3:List (List aa)) (C4:List aa) (x:Int) (cx:(List aa)→Bool→(List Int)→Bool→(List Int)→Int→Option (jq×(List aa))) (mL:nC N ae C0 bd cg C1 C2 C3 C4 cx) (fuel:Nat):rN N ae C0 bd cg C1 C2 C3 C4 x (b5 N ae C0 bd cg C1 C2 C3 C4 x cx fuel):=by
 induction fuel with
 | zero=>intro _ _ _ _ _ _ r h;rw [b5.eq_1] at h;cases h
 | succ fuel ih =>
  intro il mX pP pQ sQ rem r h E hE E0 lI hI
  rw [b5.eq_2] at h
  refine aw.nN hE hI 1 32 31 h (fun h=>?_) (fun CD left h E hE hI=>?_)
  ·refine Kt hE [] (kp [0,11,12,13,31,33]) (kq [0,1,2,3,4,5]) 38 pn ?_
   refine sA 1 [.code (rM 13106),.code (rM 13107),.inLoop (rM 3276),.inBlock 2,.inBlock 1,.code (rM 103),.inLoop (rM 12),.inBlock 0] ?_
   refine sC 33 (rM 26212) (rM 26213) false (fun hq=>absurd hq (by decide)) (fun _=>?_) 
   refine ah hE 2 [] [] (kp [0,11,12,13]) (kq [0,1,2,3,4,5]) 70 pn ?_
   exact dh hE 1 [] (kp [0,11,12,13]) (kq [0,1,2,3,4,5]) 6 pn (mL _ _ _ _ _ _ _ h E hE)
  ·refine Kt hE [] (kp [0,11,12,13,31,33]) (kq [0,1,2,3,4,5]) 38 pn ?_
   refine sA 1 [.code (rM 13106),.code (rM 13107),.inLoop (rM 3276),.inBlock 2,.inBlock 1,.code (rM 103),.inLoop (rM 12),.inBlock 0] ?_
   refine sC 33 (rM 26212) (rM 26213) true (fun _=>?_) (fun hq=>absurd hq (by decide)) 
   refine aw.nY hI 3 34 31 (pc o1 pn) ?_
   refine Kt hE [] (kp [0,6,7,11,12,13,31]) (kq [0,1,2,3,4,5,86]) 134 pn ?_
   obtain ⟨aN,uI,h⟩:=bq h
   refine ah hE 2 [(5,oT (aI aN))] [] (kp [0,6,7,8,11,12,13,31]) (kq [0,1,2,3,4,5,86]) 246 (pc o1 (pc (dz _ _ _ _ uI) (pc (z1 C2.length) pn))) ?_
   refine ah hE 1 [] [] (kp [0,6,7,8,11,12,13,31,44]) (kq [0,1,2,3,4,5,86]) 278 pn ?_
   refine dK 0 44 h (fun iZ h=>?_) (fun iZ h=>?_)
   ·obtain ⟨c2,h⟩:=ab h
    obtain ⟨a9,yT,h⟩:=bq h
    refine ah hE 1 [(13,oT (.agg (ag a9)))] [] (kp [0,11,12,13,31]) ([(0,.var 0 [.ai,.ai,.ai,.ai,.ai,.ai,.lO ((il.set ((aN).toNat) a9).length),.ai,.ai,.ai,.ai,.ai])] ++ kq [1,2,3,4] ++ [(5,.arr 5 ((il.set ((aN).toNat) a9).length) (fun zi=>ag ((il.set ((aN).toNat) a9).getD zi aa.d)))]) 534 (pc o1 (pc o1 (pc c2 (pc (dm c2) (pc o1 (pc (eJ _ _ _ _ yT) (pc c2 (pc (dm c2) (pc (aG il ((aN).toNat) a9) (pc (aG il ((aN).toNat) a9) (pc (cH ag aa.d il ((aN).toNat) a9) pn))))))))))) ?_
    exact dh hE 2 [] (kp [0,11,12,13,31]) (kq [0,1,2,3,4,5]) 6 pn (ih _ _ _ _ _ _ _ h E hE _ lI hI.forget)
   ·obtain ⟨bw,Ag,h⟩:=bq h
    refine ah hE 2 [(5,oT (aI bw))] [] (kp [0,7,9,11,12,13,31]) (kq [0,1,2,3,4,5,86]) 390 (pc o1 (pc (dz _ _ _ _ Ag) (pc (z1 C1.length) pn))) ?_
    obtain ⟨c3,h⟩:=ab h
    obtain ⟨cb,HT,h⟩:=bq h
    obtain ⟨dg,HS,h⟩:=bq h
    refine ah hE 1 [(13,oT (.agg (ag cb))),(14,oT (.agg (ag dg)))] [] (kp [0,7,9,11,12,13,31]) (kq [0,1,2,3,4,5,86]) 678 (pc o1 (pc o1 (pc o1 (pc c3 (pc (dm c3) (pc (eK _ _ _ _ HT) (pc (eJ _ _ _ _ HS) (pc o1 pn)))))))) ?_
    refine ah hE 1 [] [] (kp [0,7,9,11,12,13,31,87,88]) (kq [0,1,2,3,4,5,86]) 774 (pc o1 pn) ?_
    exact dh hE 2 [] (kp [0,7,9,11,12,13,31,87,88]) (kq [0,1,2,3,4,5] ++ [(6,.ai 86)]) 7 pn (yd N _ _ _ _ _ _ _ _ _ _ _ _ _ _ _ _ ih mL N _ _ _ h E hE _ lI hI.forget)
theorem yf (N ae C0 bd cg C1 C2 C3 C4 fuel):nC N ae C0 bd cg C1 C2 C3 C4 (er N ae C0 bd cg C1 C2 C3 C4 fuel):=by
 induction fuel with
 | zero=>intro _ _ _ _ _ _ r h;rw [er.eq_1] at h;cases h
 | succ fuel ih =>
  intro cd mW js mI fk x r h E hE
  rw [er.eq_2] at h
  refine ah hE 1 [] [] (kp [0,11,12,13,14]) (kq [0,1,2,3,4,5]) 22 pn ?_
  refine dK 1 14 h (fun dQ h=>?_) (fun dQ h=>?_)
  ·obtain ⟨c,h⟩:=ab h
   refine ah hE 4 [] [] (kp [0,4,5,11,12,13]) (kq [0,1,2,3,4,5,70]) 118 (pc c (pc o1 pn)) ?_
   obtain ⟨jB,hr,h⟩:=bq h
   obtain ⟨aR,eW,h⟩:=bq h
   obtain ⟨df,lL,h⟩:=bq h
   obtain ⟨dL,px,h⟩:=bq h
   obtain ⟨hA,hB⟩:=PO h
   refine aw.nG hE 1 4 13 [0,1,2,3,4,5,6,7,8,9,10,11,12,13,14,15] [0,1,2,3,5,6,7,8,9,10,11,12,13,4,14,15] [(3,oT (.agg (ag jB))),(4,oT (.tup (rk aI (fun x=>.agg (ag x)) (o6 (fun za zb=>za == zb) ([]:List (Int×aa)) x jB)))),(12,oT (.agg (ag aR))),(13,oT (.tup (rk aI (fun x=>.agg (ag x)) (o6 (fun za zb=>za == zb) (o6 (fun za zb=>za == zb) ([]:List (Int×aa)) x jB) (ao (C0+x)) aR))))] [(3,oT (.agg (ag df))),(11,oT (.agg (ag dL))),(12,oT (.tup (rk aI (fun x=>.agg (ag x)) (o6 (fun za zb=>za == zb) ([]:List (Int×aa)) (ao (C0+x)) dL)))),(13,oT (.tup (rk aI (fun x=>.agg (ag x)) (o6 (fun za zb=>za == zb) (o6 (fun za zb=>za == zb) ([]:List (Int×aa)) (ao (C0+x)) dL) x df))))] 107 3 32 31 30 118 118 aI (fun x=>.agg (ag x)) (o6 (fun za zb=>za == zb) (o6 (fun za zb=>za == zb) ([]:List (Int×aa)) x jB) (ao (C0+x)) aR) (o6 (fun za zb=>za == zb) (o6 (fun za zb=>za == zb) ([]:List (Int×aa)) (ao (C0+x)) dL) x df) (pc o1 (pc (mA _ _ _ hr) (pc (show Go.Ab.AM Tryz.prog 3 (rk aI (fun x=>.agg (ag x)) ([]:List (Int×aa))) (aI x) (.agg (ag jB))=some (rk aI (fun x=>.agg (ag x)) (o6 (fun za zb=>za == zb) ([]:List (Int×aa)) x jB)) from (yI aI (fun x=>.agg (ag x)) (U3 .i64) _ _ jB)) (pc o1 (pc o1 (pc (gW _ _ _ eW) (pc (show Go.Ab.AM Tryz.prog 3 (rk aI (fun x=>.agg (ag x)) (o6 (fun za zb=>za == zb) ([]:List (Int×aa)) x jB)) (aI (ao (C0+x))) (.agg (ag aR))=some (rk aI (fun x=>.agg (ag x)) (o6 (fun za zb=>za == zb) (o6 (fun za zb=>za == zb) ([]:List (Int×aa)) x jB) (ao (C0+x)) aR)) from (yI aI (fun x=>.agg (ag x)) (U3 .i64) _ _ aR)) pn))))))) (pc o1 (pc (mA _ _ _ lL) (pc o1 (pc o1 (pc (gW _ _ _ px) (pc (show Go.Ab.AM Tryz.prog 3 (rk aI (fun x=>.agg (ag x)) ([]:List (Int×aa))) (aI (ao (C0+x))) (.agg (ag dL))=some (rk aI (fun x=>.agg (ag x)) (o6 (fun za zb=>za == zb) ([]:List (Int×aa)) (ao (C0+x)) dL)) from (yI aI (fun x=>.agg (ag x)) (U3 .i64) _ _ dL)) (pc (show Go.Ab.AM Tryz.prog 3 (rk aI (fun x=>.agg (ag x)) (o6 (fun za zb=>za == zb) ([]:List (Int×aa)) (ao (C0+x)) dL)) (aI x) (.agg (ag df))=some (rk aI (fun x=>.agg (ag x)) (o6 (fun za zb=>za == zb) (o6 (fun za zb=>za == zb) ([]:List (Int×aa)) (ao (C0+x)) dL) x df)) from (yI aI (fun x=>.agg (ag x)) (U3 .i64) _ _ df)) pn))))))) (fun E lI hE hI=>?_) (fun E lI hE hI=>?_)
   ·replace h:=hA
    refine Kt hE [] (kp [0,11,12,13,31]) (kq [0,1,2,3,4,5]) 374 pn ?_
    exact dh hE 2 [] (kp [0,11,12,13,31]) (kq [0,1,2,3,4,5]) 6 pn (qy N _ _ _ _ _ _ _ _ _ _ ih N _ _ _ _ _ _ _ h E hE _ lI hI.forget)
   ·replace h:=hB
    refine Kt hE [] (kp [0,11,12,13,31]) (kq [0,1,2,3,4,5]) 374 pn ?_
    exact dh hE 2 [] (kp [0,11,12,13,31]) (kq [0,1,2,3,4,5]) 6 pn (qy N _ _ _ _ _ _ _ _ _ _ ih N _ _ _ _ _ _ _ h E hE _ lI hI.forget)
  ·obtain rfl:=dj h
   exact rnF hE 1 Tryz.f36 [] [] (kq [0,1,2,3,4,5]) 54 pn [] pn
theorem A7 (N ae C0 bd bZ cL cO cP cg C1 C2 C3 C4 C5 r) (h:oP N ae C0 bd bZ cL cO cP cg C1 C2 C3 C4 C5=some r):Sd 36 [(.op 0 0 0),(aK ag aa.d ae)] [(0,vN 12 [(aI C0),(aI bd),(.os 1 0 C1.length),(.os 2 0 C2.length),(.os 3 0 C3.length),(.os 4 0 C4.length),(.os 5 0 C5.length),(aB bZ),(eU cL),(aB cO),(eU cP),(aI cg)]),(1,aO 1 cI 0 C1),(2,aO 1 cI 0 C2),(3,aM 4 ag aa.d C3),(4,aO 4 ag aa.d C4),(5,aO 4 ag aa.d C5)] 6 (.tup []) [(0,vN 12 [(aI r.1.tk),(aI r.1.tl),(.os 1 0 C1.length),(.os 2 0 C2.length),(.os 3 0 C3.length),(.os 4 0 C4.length),(.os 5 0 r.2.length),(aB r.1.af.fN.fG),(eU r.1.af.fN.fL),(aB r.1.af.fD.fG),(eU r.1.af.fD.fL),(aI r.1.bI)]),(1,aO 1 cI 0 C1),(2,aO 1 cI 0 C2),(3,aM 4 ag aa.d C3),(4,aO 4 ag aa.d C4),(5,aO 4 ag aa.d r.2)]:=by
 unfold oP at h
 refine gX (fu:=Tryz.f36) (c:=rM 1) (nt:=119) (fun hm=>absurd hm (by decide)) ?_
 intro E hE
 refine ah hE 1 [] [] (kp [0,11,12,13]) (kq [0,1,2,3,4,5]) 54 pn ?_
 exact dh hE 2 [] (kp [0,11,12,13]) (kq [0,1,2,3,4,5]) 6 pn (yf N _ _ _ _ _ _ _ _ N _ _ _ _ _ _ _ h E hE)
noncomputable abbrev adF:=cy Tryz.f39
theorem y8 (N j C0 bd bZ cL cO cP cg C1 C2 C3 C4 C5 r) (h:mS N j C0 bd bZ cL cO cP cg C1 C2 C3 C4 C5=some r):Sd 39 [(.op 0 0 0),(aI j)] [(0,vN 12 [(aI C0),(aI bd),(.os 1 0 C1.length),(.os 2 0 C2.length),(.os 3 0 C3.length),(.os 4 0 C4.length),(.os 5 0 C5.length),(aB bZ),(eU cL),(aB cO),(eU cP),(aI cg)]),(1,aO 1 cI 0 C1),(2,aO 1 cI 0 C2),(3,aM 4 ag aa.d C3),(4,aO 4 ag aa.d C4),(5,aO 4 ag aa.d C5)] 6 (.fn (.func 82) [] [(.op 6 0 0),(.op 7 0 0)]) [(0,vN 12 [(aI C0),(aI bd),(.os 1 0 C1.length),(.os 2 0 C2.length),(.os 3 0 C3.length),(.os 4 0 C4.length),(.os 5 0 C5.length),(aB bZ),(eU cL),(aB cO),(eU cP),(aI cg)]),(1,aO 1 cI 0 C1),(2,aO 1 cI 0 C2),(3,aM 4 ag aa.d C3),(4,aO 4 ag aa.d C4),(5,aO 4 ag aa.d C5),(6,vN 1 [(.op 0 0 0)]),(7,vO 1 [(aI r)])]:=by
 unfold mS at h
 refine gX (fu:=Tryz.f39) (c:=adF 1) (nt:=6) (fun hm=>absurd hm (by decide)) ?_
 intro E hE
 refine ah hE 1 [] [] (kp [2,3]) (kq [0,1,2,3,4,5,6,22]) 54 pn ?_
 refine ah hE 1 [] [] (kp [4]) (kq [0,1,2,3,4,5,6,22]) 86 pn ?_
 obtain rfl:=dj h
 exact dw hE 0 Tryz.f39 [] (kp [4]) (kq [0,1,2,3,4,5,6] ++ [(7,.ai 22)]) 86 pn [] pn
noncomputable abbrev adG:=cy Tryz.f82
theorem qh (N mq C1 C12 C13 C14 C15 C16 C17 C2 C3 C4 C5 C6 C7 r) (h:ju N mq C1 C12 C13 C14 C15 C16 C17 C2 C3 C4 C5 C6 C7=some r):Sd 82 [(aI mq),(.op 0 0 0),(.op 7 0 0)] [(0,vN 1 [(.op 1 0 0)]),(1,vN 12 [(aI C1),(aI C12),(.os 2 0 C2.length),(.os 3 0 C3.length),(.os 4 0 C4.length),(.os 5 0 C5.length),(.os 6 0 C6.length),(aB C13),(eU C14),(aB C15),(eU C16),(aI C17)]),(2,aO 1 cI 0 C2),(3,aO 1 cI 0 C3),(4,aM 4 ag aa.d C4),(5,aO 4 ag aa.d C5),(6,aO 4 ag aa.d C6),(7,vO 1 [(aI C7)])] 8 (.agg (ag r)) [(0,vN 1 [(.op 1 0 0)]),(1,vN 12 [(aI C1),(aI C12),(.os 2 0 C2.length),(.os 3 0 C3.length),(.os 4 0 C4.length),(.os 5 0 C5.length),(.os 6 0 C6.length),(aB C13),(eU C14),(aB C15),(eU C16),(aI C17)]),(2,aO 1 cI 0 C2),(3,aO 1 cI 0 C3),(4,aM 4 ag aa.d C4),(5,aO 4 ag aa.d C5),(6,aO 4 ag aa.d C6),(7,vO 1 [(aI C7)])]:=by
 unfold ju at h
 refine gX (fu:=Tryz.f82) (c:=adG 1) (nt:=35) (fun hm=>absurd hm (by decide)) ?_
 intro E hE
 refine ah hE 1 [] [] (kp [0,1,2,4]) (kq [0,1,2,3,4,5,6,7,8]) 24 pn ?_
 obtain ⟨c,h⟩:=ab h
 refine ah hE 2 [] [] (kp [0,1,2,4,14]) (kq [0,1,2,3,4,5,6,7,8]) 168 (pc o1 (pc o1 (pc o1 (pc c (pc (dm c) pn))))) ?_
 refine dK 0 14 h (fun dQ h=>?_) (fun dQ h=>?_)
 ·obtain ⟨ar,hr,h⟩:=bq h
  refine ah hE 1 [(0,oT (.agg (ag ar)))] [] (kp [4]) (kq [0,1,2,3,4,5,6,7,8]) 200 (pc (cX _ _ _ hr) (pc o1 pn)) ?_
  obtain rfl:=dj h
  exact dw hE 0 Tryz.f82 [] (kp [4]) (kq [0,1,2,3,4,5,6,7] ++ [(24,.ai 8)]) 200 pn [24] (pc o1 pn)
 ·obtain ⟨aN,eW,h⟩:=bq h
  refine ah hE 3 [(5,oT (aI aN))] [] (kp [1,2,4,5]) (kq [0,1,2,3,4,5,6,7,8]) 280 (pc o1 (pc o1 (pc (dz _ _ _ _ eW) (pc (z1 C2.length) pn)))) ?_
  refine ah hE 1 [] [] (kp [1,2,4,5,23]) (kq [0,1,2,3,4,5,6,7,8]) 312 pn ?_
  refine dK 0 23 h (fun iZ h=>?_) (fun iZ h=>?_)
  ·obtain ⟨c3,h⟩:=ab h
   refine RU 4 ((aN).toNat) 4 ((C4.getD ((aN).toNat) []).length) (fun zi=>ag ((C4.getD ((aN).toNat) []).getD zi aa.d)) (pc c3 (pc (show bk [] (mG C4) ((aN).toNat)=mR 4 ag aa.d (C4.getD ((aN).toNat) []) from rfl) pn)) ?_
   obtain ⟨c4,h⟩:=ab h
   obtain ⟨c5,h⟩:=ab h
   refine ah hE 1 [(6,oF (.os 312 0 ((C4.getD ((aN).toNat) []).length)))] [] (kp [4]) (kq [0,1,2,3] ++ [(4,.po 4 (C4.length) [((aN).toNat,312,(C4.getD ((aN).toNat) []).length)] (mG C4))] ++ kq [5,6,7,8,312]) 504 (pc o1 (pc o1 (pc c4 (pc (dm c4) (pc (show (bk [((aN).toNat,312,(C4.getD ((aN).toNat) []).length)] (mG C4) ((aN).toNat))[0]?=some (.os 312 0 ((C4.getD ((aN).toNat) []).length)) from (gO rfl)) (pc o1 (pc c5 (pc (dm c5) (pc o1 (pc (Eq.refl C4.length) (pc (mC C4 [((aN).toNat,312,(C4.getD ((aN).toNat) []).length)]) (pc (iM C4) pn)))))))))))) ?_
   refine PN 4 312 ((aN).toNat) (pc c3 (pc (show bk [((aN).toNat,312,(C4.getD ((aN).toNat) []).length)] (mG C4) ((aN).toNat)=[.os 312 0 (C4.getD ((aN).toNat) []).length] from if_pos rfl) (pc (show ∀ zj,zj < (C4.getD ((aN).toNat) []).length→mP (ag ((C4.getD ((aN).toNat) []).getD zj aa.d))=true from fun _ _=>rfl) pn))) ?_
   refine Kt hE [] (kp [4]) (kq [0,1,2,3] ++ [(4,.po 4 (C4.length) [] (mG C4))] ++ kq [5,6,7,8]) 504 (pc (Eq.refl (C4.length)) (pc (ri (sz:=4) (c:=ag) (d:=aa.d) C4 ((aN).toNat) 312 ((C4.getD ((aN).toNat) []).length) [] Dh) (pc (iM C4) pn))) ?_
   obtain rfl:=dj h
   exact dw hE 0 Tryz.f82 [] (kp [4]) (kq [0,1,2,3,4,5,6,7] ++ [(24,.ai 8)]) 504 pn [24] (pc o1 pn)
  ·obtain ⟨dV,lL,h⟩:=bq h
   refine ah hE 2 [(0,oT (.agg (ag dV)))] [] (kp [4]) (kq [0,1,2,3,4,5,6,7,8]) 344 (pc (cX _ _ _ lL) (pc o1 pn)) ?_
   obtain rfl:=dj h
   exact dw hE 0 Tryz.f82 [] (kp [4]) (kq [0,1,2,3,4,5,6,7] ++ [(24,.ai 8)]) 344 pn [24] (pc o1 pn)
noncomputable abbrev Vv:=cy Tryz.f38
def ux (N:Nat) (C0:Int) (bd:Int) (bZ:Bool) (cL:List Int) (cO:Bool) (cP:List Int) (cg:Int) (C1:List Int) (C2:List Int) (C3:List (List aa)) (C4:List aa) (C5:List aa) (C7:Int) (K:(List aa)→Int→Option ((List aa))):Prop:=∀ (out:List aa) (x:Int) (r:(List aa)),K out x=some r→∀ E,aQ E 8→aw Tryz.prog E 38 34 (aY E [(0,vN 12 [(aI C0),(aI bd),(.os 1 0 C1.length),(.os 2 0 C2.length),(.os 3 0 C3.length),(.os 4 0 C4.length),(.os 5 0 C5.length),(aB bZ),(eU cL),(aB cO),(eU cP),(aI cg)]),(1,aO 1 cI 0 C1),(2,aO 1 cI 0 C2),(3,aM 4 ag aa.d C3),(4,aO 4 ag aa.d C4),(5,aO 4 ag aa.d C5),(6,vN 1 [(.op 0 0 0)]),(7,vO 1 [(aI C7)]),(8,aO 4 ag aa.d r)] (.os 8 0 r.length)) [.code (Vv 116),.inLoop (Vv 116),.inBlock 0,.code (Vv 15)] ⟨[(0,(.op 0 0 0)),(1,(.fn (.func 82) [] [(.op 6 0 0),(.op 7 0 0)])),(5,(.os 8 0 out.length)),(13,(aI (((List.replicate ((C0).toNat) aa.d:List aa).length:Nat):Int))),(14,(aI x))],[(0,vN 12 [(aI C0),(aI bd),(.os 1 0 C1.length),(.os 2 0 C2.length),(.os 3 0 C3.length),(.os 4 0 C4.length),(.os 5 0 C5.length),(aB bZ),(eU cL),(aB cO),(eU cP),(aI cg)]),(1,aO 1 cI 0 C1),(2,aO 1 cI 0 C2),(3,aM 4 ag aa.d C3),(4,aO 4 ag aa.d C4),(5,aO 4 ag aa.d C5),(6,vN 1 [(.op 0 0 0)]),(7,vO 1 [(aI C7)]),(8,aO 4 ag aa.d out)],9⟩
theorem tZ (N C0 bd bZ cL cO cP cg C1 C2 C3 C4 C5 C7 fuel):ux N C0 bd bZ cL cO cP cg C1 C2 C3 C4 C5 C7 (dr N C0 bd bZ cL cO cP cg C1 C2 C3 C4 C5 C7 fuel):=by
 induction fuel with
 | zero=>intro _ _ r h;rw [dr.eq_1] at h;cases h
 | succ fuel ih =>
  intro out x r h E hE
  rw [dr.eq_2] at h
  refine ah hE 1 [] [] (kp [0,1,5,13,14,15]) (kq [0,1,2,3,4,5,6,7,8]) 25 pn ?_
  refine dK 1 15 h (fun dQ h=>?_) (fun dQ h=>?_)
  ·refine ah hE 4 [] [] (kp [0,1,5,6,13,14]) (kq [0,1,2,3,4,5,6,7,8]) 57 pn ?_
   obtain ⟨JM,hr,h⟩:=bq h
   obtain ⟨Gh,eW,h⟩:=bq h
   obtain ⟨dc,lL,h⟩:=bq h
   obtain ⟨c2,h⟩:=ab h
   refine ah hE 0 [(4,⟨[6,0,1,2,3,4,5,7],true,(.agg (ag JM)),[],0,false,none⟩),(12,⟨[6,0,1,2,3,4,5,7],true,(.agg (ag Gh)),[],0,false,none⟩),(13,oT (.agg (ag dc)))] [] (kp [0,1] ++ [(5,.lO ((out.set ((x).toNat) dc).length))] ++ kp [13,14]) (kq [0,1,2,3,4,5,6,7] ++ [(8,.arr 8 ((out.set ((x).toNat) dc).length) (fun zi=>ag ((out.set ((x).toNat) dc).getD zi aa.d)))]) 313 (pc (qh _ _ _ _ _ _ _ _ _ _ _ _ _ _ _ _ hr) (pc (iM C3) (pc o1 (pc (qh _ _ _ _ _ _ _ _ _ _ _ _ _ _ _ _ eW) (pc (iM C3) (pc (mB _ _ _ _ lL) (pc c2 (pc (dm c2) (pc (aG out ((x).toNat) dc) (pc (aG out ((x).toNat) dc) (pc (cH ag aa.d out ((x).toNat) dc) pn))))))))))) ?_
   refine ah hE 1 [] [] (kp [0,1,5,13,14]) (kq [0,1,2,3,4,5,6,7,8]) 345 pn ?_
   exact dh hE 1 [] (kp [0,1,5,13,14]) (kq [0,1,2,3,4,5,6,7,8]) 9 pn (ih _ _ _ h E hE)
  ·refine ah hE 2 [] [] (kp [4]) (kq [0,1,2,3,4,5,6,7,8]) 57 pn ?_
   obtain rfl:=dj h
   exact dw hE 0 Tryz.f38 [] (kp [4]) (kq [0,1,2,3,4,5,6,7,8]) 57 pn [] pn
theorem wy (N C0 bd bZ cL cO cP cg C1 C2 C3 C4 C5 C7 r) (h:iV N C0 bd bZ cL cO cP cg C1 C2 C3 C4 C5 C7=some r):Sd 38 [(.op 0 0 0),(.fn (.func 82) [] [(.op 6 0 0),(.op 7 0 0)])] [(0,vN 12 [(aI C0),(aI bd),(.os 1 0 C1.length),(.os 2 0 C2.length),(.os 3 0 C3.length),(.os 4 0 C4.length),(.os 5 0 C5.length),(aB bZ),(eU cL),(aB cO),(eU cP),(aI cg)]),(1,aO 1 cI 0 C1),(2,aO 1 cI 0 C2),(3,aM 4 ag aa.d C3),(4,aO 4 ag aa.d C4),(5,aO 4 ag aa.d C5),(6,vN 1 [(.op 0 0 0)]),(7,vO 1 [(aI C7)])] 8 (.os 8 0 r.length) [(0,vN 12 [(aI C0),(aI bd),(.os 1 0 C1.length),(.os 2 0 C2.length),(.os 3 0 C3.length),(.os 4 0 C4.length),(.os 5 0 C5.length),(aB bZ),(eU cL),(aB cO),(eU cP),(aI cg)]),(1,aO 1 cI 0 C1),(2,aO 1 cI 0 C2),(3,aM 4 ag aa.d C3),(4,aO 4 ag aa.d C4),(5,aO 4 ag aa.d C5),(6,vN 1 [(.op 0 0 0)]),(7,vO 1 [(aI C7)]),(8,aO 4 ag aa.d r)]:=by
 unfold iV at h
 refine gX (fu:=Tryz.f38) (c:=Vv 1) (nt:=34) (fun hm=>absurd hm (by decide)) ?_
 intro E hE
 refine ah hE 1 [] [] (kp [0,1]) (kq [0,1,2,3,4,5,6,7]) 24 pn ?_
 obtain ⟨c,h⟩:=ab h
 refine ah hE 1 [] [] (kp [0,1] ++ [(5,.lO ((List.replicate ((C0).toNat) aa.d:List aa).length))]) (kq [0,1,2,3,4,5,6,7] ++ [(88,.RJ 88 ((List.replicate ((C0).toNat) aa.d:List aa).length) (fun zi=>ag ((List.replicate ((C0).toNat) aa.d:List aa).getD zi aa.d)))]) 120 (pc o1 (pc (show 0≤C0 from c.1) (pc (show C0≤C0 from (Int.le_refl _)) (pc (show (64:Int) * C0≤281474976710656 from c.2.1) (pc (show C0≤9223372036854775807 from c.2.2) (pc (show (C0).toNat=(List.replicate ((C0).toNat) aa.d:List aa).length from (de).symm) (pc (show (List.replicate ((C0).toNat) aa.d:List aa).length≤(C0).toNat from (Nat.le_of_eq (Eq.symm ((de).symm)))) (pc (show ∀ zi,zi < (List.replicate ((C0).toNat) aa.d:List aa).length→Ks ((fun _=>[(aB false),.nil,(aB false),.nil]) zi) ((fun zi=>ag ((List.replicate ((C0).toNat) aa.d:List aa).getD zi aa.d)) zi) from (fun zq j8=>oZ ag aa.d aa.d ((C0).toNat) zq ⟨.inl rfl,.inr ⟨rfl,_,rfl⟩,.inl rfl,.inr ⟨rfl,_,rfl⟩,trivial⟩ j8)) pn)))))))) ?_
 refine ah hE 2 [] [] (kp [0,1,5,13,14]) (kq [0,1,2,3,4,5,6,7,88]) 168 pn ?_
 exact dh hE 2 [] (kp [0,1,5,13,14]) (kq [0,1,2,3,4,5,6,7] ++ [(8,.ai 88)]) 9 pn (tZ N _ _ _ _ _ _ _ _ _ _ _ _ _ N _ _ _ h E hE)
noncomputable abbrev adH:=cy Tryz.f8
theorem EN (N ae l r) (h:la N ae l=some r):Sd 8 [(aK ag aa.d ae),(aK zN aE.d l)] [] 0 (.tup [(.agg (j4.cells r.1)),(aI r.2)]) []:=by
 unfold la at h
 refine gX (fu:=Tryz.f8) (c:=adH 1) (nt:=51) (fun hm=>rfl) ?_
 intro E hE
 refine ah hE 1 [] [] (kp [0,1,4]) (kq [0]) 32 pn ?_
 obtain ⟨bz,hr,h⟩:=bq h
 refine ah hE 2 [(3,oT (aI bz))] [] (kp [0,1,4,6]) (kq [0]) 112 (pc (nZ _ _ _ _ hr) pn) ?_
 refine ah hE 1 [] [] (kp [0,1,4,6,14]) (kq [0]) 144 pn ?_
 refine dK 0 14 h (fun dQ h=>?_) (fun dQ h=>?_)
 ·refine ah hE 1 [] [] (kp [4,5]) (kq [0]) 208 (pc o1 pn) ?_
  obtain rfl:=dj h
  exact dw hE 0 Tryz.f8 [] (kp [4,5]) [(16,.var 0 [.ai,.sl (([]:List Int).length) (fun zi=>(cU .u16) (([]:List Int).getD zi 0)),.ai,.sl (([]:List Int).length) (fun zi=>(cU .u16) (([]:List Int).getD zi 0)),.sl (([]:List aa).length) (fun zi=>ag (([]:List aa).getD zi aa.d)),.sl (([]:List aa).length) (fun zi=>ag (([]:List aa).getD zi aa.d))])] 208 (pc (Eq.refl 0) (pc (Eq.refl 0) (pc (Eq.refl 0) (pc (Eq.refl 0) pn)))) [16] (pc o1 pn)
 ·obtain ⟨fA,eW,h⟩:=bq h
  refine ah hE 2 [(3,⟨[],true,(.op 0 0 0),[(0,vN 12 [(aI fA.tk),(aI fA.tl),(.os 1 0 fA.kj.length),(.os 2 0 fA.m8.length),(.os 3 0 fA.Ku.length),(.os 4 0 fA.Kv.length),(.os 5 0 fA.eY.length),(aB fA.af.fN.fG),(eU fA.af.fN.fL),(aB fA.af.fD.fG),(eU fA.af.fD.fL),(aI fA.bI)]),(1,aO 1 cI 0 fA.kj),(2,aO 1 cI 0 fA.m8),(3,aM 4 ag aa.d fA.Ku),(4,aO 4 ag aa.d fA.Kv),(5,aO 4 ag aa.d fA.eY)],0,false,none⟩)] [] (kp [0,4,7]) (kq [0,192,193,194,195,196,197]) 224 (pc (JR _ _ _ _ eW) pn) ?_
  obtain ⟨bu,lL,h⟩:=bq h
  obtain ⟨c,h⟩:=ab h
  obtain ⟨c2,h⟩:=ab h
  obtain ⟨c3,h⟩:=ab h
  refine ah hE 2 [(1,⟨[192,193,194,195,196,197],false,(aB bu.1),[(0,vN 12 [(aI bu.2.1.tk),(aI bu.2.1.tl),(.os 1 0 bu.2.2.1.length),(.os 2 0 bu.2.2.2.1.length),(.os 3 0 bu.2.2.2.2.1.length),(.os 4 0 bu.2.2.2.2.2.length),(.os 6 0 bu.2.1.eY.length),(aB bu.2.1.af.fN.fG),(eU bu.2.1.af.fN.fL),(aB bu.2.1.af.fD.fG),(eU bu.2.1.af.fD.fL),(aI bu.2.1.bI)]),(1,aO 1 cI 0 bu.2.2.1),(2,aO 1 cI 0 bu.2.2.2.1),(3,aM 4 ag aa.d bu.2.2.2.2.1),(4,aO 4 ag aa.d bu.2.2.2.2.2),(6,aO 4 ag aa.d bu.2.1.eY)],0,false,none⟩)] [] (kp [0,4,7,23]) (kq [0,192,193,194,195,196,240]) 272 (pc (ya _ _ _ _ _ _ _ _ _ _ _ _ _ _ lL) pn) ?_
  refine dK 0 23 h (fun iZ h=>?_) (fun iZ h=>?_)
  ·obtain ⟨iA,px,h⟩:=bq h
   refine ah hE 1 [(1,⟨[192,193,194,195,196,240],true,(.os 6 0 iA.length),[(6,aO 4 ag aa.d iA)],0,false,none⟩)] [] (kp [4,5]) (kq [0,288]) 352 (pc (nB _ _ _ _ _ _ _ _ _ _ _ _ _ _ px) (pc (iM bu.2.2.2.2.1) (pc o1 pn))) ?_
   obtain rfl:=dj h
   exact dw hE 0 Tryz.f8 [288] (kp [4,5]) [(16,.var 0 [.ai,.sl (([]:List Int).length) (fun zi=>(cU .u16) (([]:List Int).getD zi 0)),.ai,.sl (([]:List Int).length) (fun zi=>(cU .u16) (([]:List Int).getD zi 0)),.sl (([]:List aa).length) (fun zi=>ag (([]:List aa).getD zi aa.d)),.sl (iA.length) (fun zi=>ag (iA.getD zi aa.d))])] 352 (pc (Eq.refl 0) (pc (Eq.refl 0) (pc (Eq.refl 0) (pc (Eq.refl iA.length) (pc (z1 iA.length) (pc (aZ iA.length (fun zi=>ag (iA.getD zi aa.d))) pn)))))) [16] (pc o1 pn)
  ·obtain ⟨v5,uI,h⟩:=bq h
   obtain ⟨c4,h⟩:=ab h
   refine ah hE 2 [(2,⟨[192,193,194,195,196,240],false,(.tup []),[(0,vN 12 [(aI v5.1.tk),(aI v5.1.tl),(.os 1 0 bu.2.2.1.length),(.os 2 0 bu.2.2.2.1.length),(.os 3 0 bu.2.2.2.2.1.length),(.os 4 0 bu.2.2.2.2.2.length),(.os 5 0 v5.2.length),(aB v5.1.af.fN.fG),(eU v5.1.af.fN.fL),(aB v5.1.af.fD.fG),(eU v5.1.af.fD.fL),(aI v5.1.bI)]),(1,aO 1 cI 0 bu.2.2.1),(2,aO 1 cI 0 bu.2.2.2.1),(3,aM 4 ag aa.d bu.2.2.2.2.1),(4,aO 4 ag aa.d bu.2.2.2.2.2),(5,aO 4 ag aa.d v5.2)],0,false,none⟩)] [] (kp [4,7]) (kq [0,192,193,194,195,196,240]) 320 (pc (A7 _ _ _ _ _ _ _ _ _ _ _ _ _ _ _ uI) pn) ?_
   obtain ⟨aD,yT,h⟩:=bq h
   obtain ⟨c5,h⟩:=ab h
   obtain ⟨c6,h⟩:=ab h
   obtain ⟨c7,h⟩:=ab h
   obtain ⟨c8,h⟩:=ab h
   obtain ⟨c9,h⟩:=ab h
   refine ah hE 2 [(1,⟨[192,193,194,195,196,240],false,(aI aD.1),[(0,vN 12 [(aI aD.2.1.tk),(aI aD.2.1.tl),(.os 1 0 aD.2.2.1.length),(.os 2 0 aD.2.2.2.1.length),(.os 3 0 aD.2.2.2.2.1.length),(.os 4 0 aD.2.2.2.2.2.1.length),(.os 5 0 aD.2.2.2.2.2.2.length),(aB aD.2.1.af.fN.fG),(eU aD.2.1.af.fN.fL),(aB aD.2.1.af.fD.fG),(eU aD.2.1.af.fD.fL),(aI aD.2.1.bI)]),(1,aO 1 cI 0 aD.2.2.1),(2,aO 1 cI 0 aD.2.2.2.1),(3,aM 4 ag aa.d aD.2.2.2.2.1),(4,aO 4 ag aa.d aD.2.2.2.2.2.1),(5,aO 4 ag aa.d aD.2.2.2.2.2.2)],0,false,none⟩)] [] (kp [4,7,8]) (kq [0,192,193,194,195,196,240]) 368 (pc (rI _ _ _ _ _ _ _ _ _ _ _ _ _ _ yT) pn) ?_
   refine ah hE 1 [] [] (kp [4,7,8,33]) (kq [0,192,193,194,195,196,240]) 400 pn ?_
   refine dK 0 33 h (fun qq h=>?_) (fun qq h=>?_)
   ·obtain ⟨Gi,Ag,h⟩:=bq h
    obtain ⟨si,HT,h⟩:=bq h
    refine ah hE 1 [(3,⟨[192,193,194,195,196,240],true,(.fn (.func 82) [] [(.op 6 0 0),(.op 7 0 0)]),[(6,vN 1 [(.op 0 0 0)]),(7,vO 1 [(aI Gi)])],0,false,none⟩),(4,⟨[192,193,194,195,196,240,448,449],true,(.os 8 0 si.length),[(8,aO 4 ag aa.d si)],0,false,none⟩)] [] (kp [4,5]) (kq [0,464]) 528 (pc (y8 _ _ _ _ _ _ _ _ _ _ _ _ _ _ _ Ag) (pc (iM aD.2.2.2.2.1) (pc (wy _ _ _ _ _ _ _ _ _ _ _ _ _ _ _ HT) (pc (iM aD.2.2.2.2.1) (pc o1 pn))))) ?_
    obtain rfl:=dj h
    exact dw hE 0 Tryz.f8 [464] (kp [4,5]) [(16,.var 0 [.ai,.sl (([]:List Int).length) (fun zi=>(cU .u16) (([]:List Int).getD zi 0)),.ai,.sl (([]:List Int).length) (fun zi=>(cU .u16) (([]:List Int).getD zi 0)),.sl (si.length) (fun zi=>ag (si.getD zi aa.d)),.sl (([]:List aa).length) (fun zi=>ag (([]:List aa).getD zi aa.d))])] 528 (pc (Eq.refl 0) (pc (Eq.refl 0) (pc (Eq.refl si.length) (pc (z1 si.length) (pc (aZ si.length (fun zi=>ag (si.getD zi aa.d))) (pc (Eq.refl 0) pn)))))) [16] (pc o1 pn)
   ·obtain ⟨oQ,HS,h⟩:=bq h
    obtain ⟨fj,A4,h⟩:=bq h
    refine ah hE 2 [(7,⟨[192,193,194,195,196,240],true,(.os 6 0 oQ.length),[(6,aO 4 ag aa.d oQ)],0,false,none⟩),(9,⟨[192,193,194,195,196,240],true,(.os 6 0 fj.length),[(6,aO 4 ag aa.d fj)],0,false,none⟩)] [] (kp [4,5]) (kq [0,512,544]) 608 (pc o1 (pc (yZ _ _ _ _ _ _ _ _ _ _ _ _ _ _ HS) (pc (iM aD.2.2.2.2.1) (pc (nB _ _ _ _ _ _ _ _ _ _ _ _ _ _ A4) (pc (iM aD.2.2.2.2.1) (pc o1 pn)))))) ?_
    obtain rfl:=dj h
    exact dw hE 0 Tryz.f8 [512,544] (kp [4,5]) [(16,.var 0 [.ai,.ai,.ai,.ai,.sl (oQ.length) (fun zi=>ag (oQ.getD zi aa.d)),.sl (fj.length) (fun zi=>ag (fj.getD zi aa.d))])] 608 (pc (Eq.refl oQ.length) (pc (z1 oQ.length) (pc (aZ oQ.length (fun zi=>ag (oQ.getD zi aa.d))) (pc (Eq.refl fj.length) (pc (z1 fj.length) (pc (aZ fj.length (fun zi=>ag (fj.getD zi aa.d))) pn)))))) [16] (pc o1 pn)
noncomputable abbrev Vw:=cy Tryz.f84
def EO (N:Nat) (neg:Bool) (a:List Int) (K:(List Int)→Int→Option (bR)):Prop:=∀ (x:List Int) (i:Int) (r:bR),K x i=some r→∀ E,aQ E 0→aw Tryz.prog E 84 31 (aY E [] (.agg (iv r))) [.code (Vw 116),.inLoop (Vw 116),.inBlock 0,.code (Vw 15)] ⟨[(1,(aK cI 0 a)),(4,(.op 0 0 0)),(5,(.op 1 0 0)),(6,(aI i))],[(0,vO 2 [(aB false),.nil]),(1,vN 2 [(aB (cond neg (decide (((a.length:Nat):Int) > 0)) false)),(.os 2 0 x.length)]),(2,aU x)],3⟩
theorem Dy (N neg a fuel):EO N neg a (jN N neg a fuel):=by
 induction fuel with
 | zero=>intro _ _ r h;rw [jN.eq_1] at h;cases h
 | succ fuel ih =>
  intro x i r h E hE
  rw [jN.eq_2] at h
  refine ah hE 2 [] [] (kp [1,4,5,6,17]) (kq [0,1,2]) 67 pn ?_
  refine dK 0 17 h (fun dQ h=>?_) (fun dQ h=>?_)
  ·obtain ⟨c,h⟩:=ab h
   obtain ⟨c2,h⟩:=ab h
   refine ah hE 3 [] [] (kp [1,4,5,6]) (kq [0] ++ [(1,.var 1 [.ai,.lO ((x ++ ([(IntKind.u16.wrap ((a.getD ((i).toNat) 0)))]:List Int)).length)]),(195,.arr 195 ((x ++ ([(IntKind.u16.wrap ((a.getD ((i).toNat) 0)))]:List Int)).length) (fun zi=>(cU .u16) ((x ++ ([(IntKind.u16.wrap ((a.getD ((i).toNat) 0)))]:List Int)).getD zi 0)))]) 243 (pc o1 (pc c (pc (Eq.refl x.length) (pc c2 (pc (z1 1) (pc (show ∀ zi,zi < 1→AV.kN ((fun zi=>([[(wO (IntKind.u16.wrap ((a.getD ((i).toNat) 0))))]]:List (List AV)).getD zi []) (bQ 0 zi))=true from (AK rfl)) (pc o1 (pc (show (x.length+1)=(x ++ ([(IntKind.u16.wrap ((a.getD ((i).toNat) 0)))]:List Int)).length from (bD rfl rfl)) (pc (show x.length+1=(x ++ ([(IntKind.u16.wrap ((a.getD ((i).toNat) 0)))]:List Int)).length from (bD rfl rfl)) (pc (show ∀ zi,zi < (x ++ ([(IntKind.u16.wrap ((a.getD ((i).toNat) 0)))]:List Int)).length→(fun zi=>(cU .u16) ((x ++ ([(IntKind.u16.wrap ((a.getD ((i).toNat) 0)))]:List Int)).getD zi 0)) zi=((fun zm=>if zm < x.length then (fun zi=>(cU .u16) (x.getD zi 0)) zm else (fun zi=>([[(wO (IntKind.u16.wrap ((a.getD ((i).toNat) 0))))]]:List (List AV)).getD zi []) (zm - x.length))) zi from (dY (cU .u16) 0 x ([(IntKind.u16.wrap ((a.getD ((i).toNat) 0)))]:List Int) rfl (fun _ _=>rfl) (fun zq j8=>dU (cU .u16) 0 ([(IntKind.u16.wrap ((a.getD ((i).toNat) 0)))]:List Int) zq j8))) pn)))))))))) ?_
   refine ah hE 1 [] [] (kp [1,4,5,6]) (kq [0,1,195]) 291 pn ?_
   exact dh hE 1 [] (kp [1,4,5,6]) (kq [0,1] ++ [(2,.ai 195)]) 3 pn (ih _ _ _ h E hE)
  ·refine ah hE 2 [] [] (kp [4]) (kq [0,2]) 99 (pc o1 (pc o1 pn)) ?_
   obtain rfl:=dj h
   exact dw hE 0 Tryz.f84 [2] (kp [4]) [(16,.var 0 [.ai,.sl (x.length) (fun zi=>(cU .u16) (x.getD zi 0))])] 99 (pc (Eq.refl x.length) (pc (z1 x.length) (pc (aZ x.length (fun zi=>(cU .u16) (x.getD zi 0))) pn))) [16] (pc o1 pn)
theorem iI (N neg a r) (h:fB N neg a=some r):Sd 84 [(aB neg),(aK cI 0 a)] [] 0 (.agg (iv r)) []:=by
 unfold fB at h
 refine gX (fu:=Tryz.f84) (c:=Vw 1) (nt:=31) (fun hm=>rfl) ?_
 intro E hE
 refine ah hE 1 [] [] (kp [0,1,4]) (kq [0]) 16 pn ?_
 refine ah hE 1 [] [] (kp [1,4,5]) (kq [0,128]) 160 (pc (fun hg:neg=true=>(pc hg pn)) (pc (fun hg:neg=true=>(pc hg pn)) (pc (fun hq:neg=true=>(pc hq pn)) (pc o1 pn)))) ?_
 refine ah hE 2 [] [] (kp [1,4,5,6]) (kq [0,128]) 176 pn ?_
 exact dh hE 2 [] (kp [1,4,5,6]) (kq [0] ++ [(1,.var 128 [.ai,.tF 2]),(2,.nil 1 (fun zi=>(cU .u16) (([]:List Int).getD zi 0)))]) 3 pn (Dy N _ _ N _ _ _ h E hE)
noncomputable abbrev Vx:=cy Tryz.f85
def H0 (N:Nat) (n:Int) (K:(List Int)→Int→Option (bR)):Prop:=∀ (a:List Int) (u:Int) (r:bR),K a u=some r→∀ E,aQ E 0→aw Tryz.prog E 85 25 (aY E [] (.agg (iv r))) [.code (Vx 248),.inLoop (Vx 248),.inBlock 0,.code (Vx 63)] ⟨[(0,(aI n)),(2,(.op 0 0 0)),(3,(.os 1 0 a.length)),(4,(IW u))],[(0,vO 2 [(aB false),.nil]),(1,aO 1 cI 0 a)],2⟩
theorem y9 (N n fuel):H0 N n (ld N n fuel):=by
 induction fuel with
 | zero=>intro _ _ r h;rw [ld.eq_1] at h;cases h
 | succ fuel ih =>
  intro a u r h E hE
  rw [ld.eq_2] at h
  refine ah hE 2 [] [] (kp [0,2,3,4,12]) (kq [0,1]) 34 pn ?_
  refine dK 0 12 h (fun iZ h=>?_) (fun iZ h=>?_)
  ·obtain ⟨c,h⟩:=ab h
   refine ah hE 3 [] [] (kp [0,2] ++ [(3,.lO ((a ++ ([(ao ((u.tmod 65536)))]:List Int)).length))] ++ kp [4]) (kq [0] ++ [(114,.arr 114 ((a ++ ([(ao ((u.tmod 65536)))]:List Int)).length) (fun zi=>cI ((a ++ ([(ao ((u.tmod 65536)))]:List Int)).getD zi 0)))]) 146 (pc (show (65536:Int)≠0 by decide) (pc (Eq.refl a.length) (pc c (pc (z1 1) (pc (show ∀ zi,zi < 1→AV.kN ((fun zi=>([[(aI (ao ((u.tmod 65536))))]]:List (List AV)).getD zi []) (bQ 0 zi))=true from (AK rfl)) (pc (show (a.length+1)=(a ++ ([(ao ((u.tmod 65536)))]:List Int)).length from (bD rfl rfl)) (pc (show a.length+1=(a ++ ([(ao ((u.tmod 65536)))]:List Int)).length from (bD rfl rfl)) (pc (show ∀ zi,zi < (a ++ ([(ao ((u.tmod 65536)))]:List Int)).length→(fun zi=>cI ((a ++ ([(ao ((u.tmod 65536)))]:List Int)).getD zi 0)) zi=((fun zm=>if zm < a.length then (fun zi=>cI (a.getD zi 0)) zm else (fun zi=>([[(aI (ao ((u.tmod 65536))))]]:List (List AV)).getD zi []) (zm - a.length))) zi from (dY cI 0 a ([(ao ((u.tmod 65536)))]:List Int) rfl (fun _ _=>rfl) (fun zq j8=>dU cI 0 ([(ao ((u.tmod 65536)))]:List Int) zq j8))) pn)))))))) ?_
   refine ah hE 1 [] [] (kp [0,2,3,4]) (kq [0,114]) 194 (pc (show (65536:Int)≠0 by decide) pn) ?_
   exact dh hE 1 [] (kp [0,2,3,4]) (kq [0] ++ [(1,.ai 114)]) 2 pn (ih _ _ _ h E hE)
  ·obtain ⟨p8,hr,h⟩:=bq h
   refine ah hE 2 [(3,⟨[],true,(.agg (iv p8)),[],0,true,none⟩)] [] (kp [2]) (kq [0]) 114 (pc (iI _ _ _ _ hr) (pc (z1 a.length) (pc o1 pn))) ?_
   obtain rfl:=dj h
   exact dw hE 0 Tryz.f85 [] (kp [2]) [(16,.ai 0)] 114 pn [16] (pc o1 pn)
theorem zc (N n r) (h:rD N n=some r):Sd 85 [(aI n)] [] 0 (.agg (iv r)) []:=by
 unfold rD at h
 refine gX (fu:=Tryz.f85) (c:=Vx 1) (nt:=25) (fun hm=>rfl) ?_
 intro E hE
 refine ah hE 1 [] [] (kp [0,2]) (kq [0]) 16 pn ?_
 refine ah hE 1 [] [] (kp [0,2,3]) (kq [0]) 32 pn ?_
 refine ah hE 1 [] [] (kp [0,2,3,4]) (kq [0]) 80 pn ?_
 refine ah hE 2 [] [] (kp [0,2,3,4,8]) (kq [0]) 112 pn ?_
 refine dK 0 8 h (fun dQ h=>?_) (fun dQ h=>?_)
 ·refine ah hE 0 [] [] (kp [0,2,3,4]) (kq [0]) 160 pn ?_
  exact dh hE 3 [] (kp [0,2] ++ [(3,.tF 1)] ++ kp [4]) (kq [0] ++ [(1,.nil 1 (fun zi=>cI (([]:List Int).getD zi 0)))]) 2 pn (y9 N _ N _ _ _ h E hE)
 ·exact dh hE 4 [] (kp [0,2] ++ [(3,.tF 1)] ++ kp [4]) (kq [0] ++ [(1,.nil 1 (fun zi=>cI (([]:List Int).getD zi 0)))]) 2 pn (y9 N _ N _ _ _ h E hE)
noncomputable abbrev adI:=cy Tryz.f51
theorem Nq (N n r) (h:zR N n=some r):Sd 51 [(aI n)] [] 0 (.agg (ag r)) []:=by
 unfold zR at h
 refine gX (fu:=Tryz.f51) (c:=adI 1) (nt:=7) (fun hm=>rfl) ?_
 intro E hE
 refine ah hE 1 [] [] (kp [0,2]) (kq [0]) 16 pn ?_
 obtain ⟨Kx,hr,h⟩:=bq h
 obtain ⟨Nc,eW,h⟩:=bq h
 refine ah hE 1 [(1,oT (.agg (iv Kx))),(2,oT (.agg (iv Nc)))] [] (kp [2]) (kq [0]) 96 (pc (zc _ _ _ hr) (pc (zc _ _ _ eW) (pc o1 pn))) ?_
 obtain rfl:=dj h
 exact dw hE 0 Tryz.f51 [] (kp [2]) [(16,.ai 0)] 96 pn [16] (pc o1 pn)
noncomputable abbrev Vy:=cy Tryz.f111
def EP (N:Nat) (a:List Int) (K:Int→Option ((List Int))):Prop:=∀ (n:Int) (r:(List Int)),K n=some r→∀ E,aQ E 0→aw Tryz.prog E 111 23 (aY E [] (aK cI 0 r)) [.code (Vy 56),.inLoop (Vy 56),.inBlock 0,.code (Vy 15)] ⟨[(0,(aK cI 0 a)),(3,(aI n))],[],0⟩
theorem Dz (N a fuel):EP N a (jO N a fuel):=by
 induction fuel with
 | zero=>intro _ r h;rw [jO.eq_1] at h;cases h
 | succ fuel ih =>
  intro n r h E hE
  rw [jO.eq_2] at h
  obtain ⟨c,h⟩:=ab h
  refine ah hE 2 [] [] (kp [0,3,15]) [] 160 (pc (fun hg:(decide (n > 0))=true=>(pc hg pn)) (pc (fun hg:(decide (n > 0))=true=>(pc hg (pc hg (pc (c hg) pn)))) (pc (fun hg:(decide (n > 0))=true=>(pc hg pn)) (pc (fun hg:(decide (n > 0))=true=>(pc hg pn)) (pc (fun hq:(decide (n > 0))=true=>(pc hq pn)) pn))))) ?_
  refine dK 0 15 h (fun dQ h=>?_) (fun dQ h=>?_)
  ·refine ah hE 2 [] [] (kp [0,3]) [] 208 pn ?_
   exact dh hE 2 [] (kp [0,3]) [] 0 pn (ih _ _ h E hE)
  ·obtain ⟨c2,h⟩:=ab h
   obtain ⟨c3,h⟩:=ab h
   obtain ⟨c4,h⟩:=ab h
   refine ah hE 2 [] [] [(2,.lO ((([]:List Int) ++ ((a.take ((n).toNat)).drop 0)).length))] [(224,.arr 224 ((([]:List Int) ++ ((a.take ((n).toNat)).drop 0)).length) (fun zi=>cI ((([]:List Int) ++ ((a.take ((n).toNat)).drop 0)).getD zi 0)))] 256 (pc c2 (pc c3 (pc (Eq.refl 0) (pc c4 (pc (show ∀ zi,zi < ((n).toNat - 0)→AV.kN ((fun zi=>cI (a.getD (bQ 0 zi) 0)) zi)=true from (fun _ _=>rfl)) (pc (show (0+((n).toNat - 0))=(([]:List Int) ++ ((a.take ((n).toNat)).drop 0)).length from (bD rfl (BN a 0 ((n).toNat) c2))) (pc (show 0+((n).toNat - 0)=(([]:List Int) ++ ((a.take ((n).toNat)).drop 0)).length from (bD rfl (BN a 0 ((n).toNat) c2))) (pc (show ∀ zi,zi < (([]:List Int) ++ ((a.take ((n).toNat)).drop 0)).length→(fun zi=>cI ((([]:List Int) ++ ((a.take ((n).toNat)).drop 0)).getD zi 0)) zi=((fun zm=>if zm < 0 then (fun _=>[]) zm else (fun zi=>cI (a.getD (bQ 0 zi) 0)) (zm - 0))) zi from (dY cI 0 ([]:List Int) ((a.take ((n).toNat)).drop 0) rfl (fun zq j8=>absurd j8 (dP _)) (fun zq j8=>JA cI 0 a 0 ((n).toNat) zq j8))) pn)))))))) ?_
   obtain rfl:=dj h
   exact dw hE 0 Tryz.f111 [224] [(2,.sl ((([]:List Int) ++ ((a.take ((n).toNat)).drop 0)).length) (fun zi=>cI ((([]:List Int) ++ ((a.take ((n).toNat)).drop 0)).getD zi 0)))] [] 256 (pc (Eq.refl ((([]:List Int) ++ ((a.take ((n).toNat)).drop 0)).length)) (pc (z1 ((([]:List Int) ++ ((a.take ((n).toNat)).drop 0)).length)) (pc (aZ ((([]:List Int) ++ ((a.take ((n).toNat)).drop 0)).length) (fun zi=>cI ((([]:List Int) ++ ((a.take ((n).toNat)).drop 0)).getD zi 0))) pn))) [] pn
theorem mD (N a r) (h:l8 N a=some r):Sd 111 [(aK cI 0 a)] [] 0 (aK cI 0 r) []:=by
 unfold l8 at h
 refine gX (fu:=Tryz.f111) (c:=Vy 1) (nt:=23) (fun hm=>rfl) ?_
 intro E hE
 refine ah hE 1 [] [] (kp [0]) [] 16 pn ?_
 refine ah hE 1 [] [] (kp [0,3]) [] 64 pn ?_
 exact dh hE 3 [] (kp [0,3]) [] 0 pn (Dz N _ N _ _ h E hE)
noncomputable abbrev Vz:=cy Tryz.f83
def ER (N:Nat) (l:List Int) (K:(List Int)→Int→Option ((List Int))):Prop:=∀ (a:List Int) (i:Int) (r:(List Int)),K a i=some r→∀ E,aQ E 0→aw Tryz.prog E 83 21 (aY E [] (aK cI 0 r)) [.code (Vz 116),.inLoop (Vz 116),.inBlock 0,.code (Vz 15)] ⟨[(0,(eU l)),(3,(.os 0 0 a.length)),(4,(aI i))],[(0,aO 1 cI 0 a)],1⟩
theorem DA (N l fuel):ER N l (jP N l fuel):=by
 induction fuel with
 | zero=>intro _ _ r h;rw [jP.eq_1] at h;cases h
 | succ fuel ih =>
  intro a i r h E hE
  rw [jP.eq_2] at h
  refine ah hE 2 [] [] (kp [0,3,4,8]) (kq [0]) 65 pn ?_
  refine dK 0 8 h (fun dQ h=>?_) (fun dQ h=>?_)
  ·obtain ⟨c,h⟩:=ab h
   obtain ⟨c2,h⟩:=ab h
   refine ah hE 3 [] [] (kp [0] ++ [(3,.lO ((a ++ ([(ao ((l.getD ((i).toNat) 0)))]:List Int)).length))] ++ kp [4]) [(177,.arr 177 ((a ++ ([(ao ((l.getD ((i).toNat) 0)))]:List Int)).length) (fun zi=>cI ((a ++ ([(ao ((l.getD ((i).toNat) 0)))]:List Int)).getD zi 0)))] 209 (pc c (pc (Eq.refl a.length) (pc c2 (pc (z1 1) (pc (show ∀ zi,zi < 1→AV.kN ((fun zi=>([[(aI (ao ((l.getD ((i).toNat) 0))))]]:List (List AV)).getD zi []) (bQ 0 zi))=true from (AK rfl)) (pc (show (a.length+1)=(a ++ ([(ao ((l.getD ((i).toNat) 0)))]:List Int)).length from (bD rfl rfl)) (pc (show a.length+1=(a ++ ([(ao ((l.getD ((i).toNat) 0)))]:List Int)).length from (bD rfl rfl)) (pc (show ∀ zi,zi < (a ++ ([(ao ((l.getD ((i).toNat) 0)))]:List Int)).length→(fun zi=>cI ((a ++ ([(ao ((l.getD ((i).toNat) 0)))]:List Int)).getD zi 0)) zi=((fun zm=>if zm < a.length then (fun zi=>cI (a.getD zi 0)) zm else (fun zi=>([[(aI (ao ((l.getD ((i).toNat) 0))))]]:List (List AV)).getD zi []) (zm - a.length))) zi from (dY cI 0 a ([(ao ((l.getD ((i).toNat) 0)))]:List Int) rfl (fun _ _=>rfl) (fun zq j8=>dU cI 0 ([(ao ((l.getD ((i).toNat) 0)))]:List Int) zq j8))) pn)))))))) ?_
   refine ah hE 1 [] [] (kp [0,3,4]) (kq [177]) 257 pn ?_
   exact dh hE 1 [] (kp [0,3,4]) [(0,.ai 177)] 1 pn (ih _ _ _ h E hE)
  ·obtain ⟨b7,hr,h⟩:=bq h
   refine ah hE 2 [(1,⟨[],true,(aK cI 0 b7),[],0,true,none⟩)] [] (kp [2]) [] 113 (pc (mD _ _ _ hr) (pc (z1 a.length) pn)) ?_
   obtain rfl:=dj h
   exact dw hE 0 Tryz.f83 [] (kp [2]) [] 113 pn [] pn
theorem jR (N l r) (h:im N l=some r):Sd 83 [(eU l)] [] 0 (aK cI 0 r) []:=by
 unfold im at h
 refine gX (fu:=Tryz.f83) (c:=Vz 1) (nt:=21) (fun hm=>rfl) ?_
 intro E hE
 refine ah hE 1 [] [] (kp [0]) [] 16 pn ?_
 refine ah hE 1 [] [] (kp [0,3]) [] 32 pn ?_
 refine ah hE 2 [] [] (kp [0,3,4]) [] 48 pn ?_
 exact dh hE 2 [] (kp [0] ++ [(3,.tF 0)] ++ kp [4]) [(0,.nil 1 (fun zi=>cI (([]:List Int).getD zi 0)))] 1 pn (DA N _ N _ _ _ h E hE)
noncomputable abbrev adJ:=cy Tryz.f120
theorem qi (N a i r) (h:lU N a i=some r):Sd 120 [(aK cI 0 a),(aI i)] [] 0 (aI r) []:=by
 unfold lU at h
 refine gX (fu:=Tryz.f120) (c:=adJ 1) (nt:=13) (fun hm=>rfl) ?_
 intro E hE
 refine ah hE 1 [] [] (kp [0,1]) [] 16 pn ?_
 refine ah hE 2 [] [] (kp [0,1,8]) [] 80 pn ?_
 refine dK 0 8 h (fun dQ h=>?_) (fun dQ h=>?_)
 ·obtain ⟨c,h⟩:=ab h
  refine ah hE 1 [] [] (kp [4]) [] 160 (pc c pn) ?_
  obtain rfl:=dj h
  exact dw hE 0 Tryz.f120 [] (kp [4]) [] 160 pn [] pn
 ·refine ah hE 2 [] [] (kp [4]) [] 96 pn ?_
  obtain rfl:=dj h
  exact dw hE 0 Tryz.f120 [] (kp [4]) [] 96 pn [] pn
noncomputable abbrev JY:=cy Tryz.f113
def wz (N:Nat) (a:List Int) (b:List Int) (K:(List Int)→Int→Option ((List Int))):Prop:=∀ (out:List Int) (i:Int) (r:(List Int)),K out i=some r→∀ E,aQ E 0→aw Tryz.prog E 113 61 (aY E [] (aK cI 0 r)) [.code (JY 116),.inLoop (JY 116),.inBlock 0,.code (JY 15)] ⟨[(0,(aK cI 0 a)),(1,(aK cI 0 b)),(5,(.os 0 0 out.length)),(6,(aI i))],[(0,aO 1 cI 0 out)],1⟩
def DB (N:Nat) (a:List Int) (b:List Int) (i:Int) (K:(List Int)→Int→Int→Option ((List Int))):Prop:=∀ (fY:List Int) (carry:Int) (k:Int) (r:(List Int)),K fY carry k=some r→∀ E,aQ E 0→aw Tryz.prog E 113 61 (aY E [] (aK cI 0 r)) [.code (JY 14924),.inLoop (JY 14924),.inBlock 2,.inBlock 1,.code (JY 467),.inLoop (JY 116),.inBlock 0,.code (JY 15)] ⟨[(0,(aK cI 0 a)),(1,(aK cI 0 b)),(5,(.os 0 0 fY.length)),(6,(aI i)),(7,(aI carry)),(8,(aI k))],[(0,aO 1 cI 0 fY)],1⟩
theorem Ca (N:Nat) (a:List Int) (b:List Int) (i:Int) (lH:(List Int)→Int→Option ((List Int))) (Cb:wz N a b lH) (fuel:Nat):DB N a b i (iW N a b i lH fuel):=by
 induction fuel with
 | zero=>intro _ _ _ r h;rw [iW.eq_1] at h;cases h
 | succ fuel ih =>
  intro fY carry k r h E hE
  rw [iW.eq_2] at h
  refine ah hE 2 [] [] (kp [0,1,5,6,7,8,30]) (kq [0]) 129 (pc (fun hg:(!(decide (k < ((b.length:Nat):Int))))=true=>(pc hg pn)) (pc (fun hq:(!(decide (k < ((b.length:Nat):Int))))=true=>(pc hq pn)) pn)) ?_
  refine dK 0 30 h (fun iZ h=>?_) (fun iZ h=>?_)
  ·obtain ⟨c2,h⟩:=ab h
   obtain ⟨c3,h⟩:=ab h
   obtain ⟨cZ,hr,h⟩:=bq h
   refine ah hE 4 [(12,oT (aI cZ))] [] (kp [0,1,5,6,8,9]) (kq [0]) 417 (pc c2 (pc (dm c2) (pc c3 (pc (qi _ _ _ _ hr) pn)))) ?_
   refine ah hE 1 [] [] (kp [0,1] ++ [(5,.lO ((fY.set ((ao (i+k)).toNat) ((ao ((ao ((fY.getD ((ao (i+k)).toNat) 0)+(ao ((a.getD ((i).toNat) 0) * cZ))))+carry)).tmod 65536)).length))] ++ kp [6,8,9]) [(0,.arr 0 ((fY.set ((ao (i+k)).toNat) ((ao ((ao ((fY.getD ((ao (i+k)).toNat) 0)+(ao ((a.getD ((i).toNat) 0) * cZ))))+carry)).tmod 65536)).length) (fun zi=>cI ((fY.set ((ao (i+k)).toNat) ((ao ((ao ((fY.getD ((ao (i+k)).toNat) 0)+(ao ((a.getD ((i).toNat) 0) * cZ))))+carry)).tmod 65536)).getD zi 0)))] 545 (pc (show (65536:Int)≠0 by decide) (pc c2 (pc (dm c2) (pc (aG fY ((ao (i+k)).toNat) ((ao ((ao ((fY.getD ((ao (i+k)).toNat) 0)+(ao ((a.getD ((i).toNat) 0) * cZ))))+carry)).tmod 65536)) (pc (aG fY ((ao (i+k)).toNat) ((ao ((ao ((fY.getD ((ao (i+k)).toNat) 0)+(ao ((a.getD ((i).toNat) 0) * cZ))))+carry)).tmod 65536)) (pc (cH cI 0 fY ((ao (i+k)).toNat) ((ao ((ao ((fY.getD ((ao (i+k)).toNat) 0)+(ao ((a.getD ((i).toNat) 0) * cZ))))+carry)).tmod 65536)) pn)))))) ?_
   refine ah hE 0 [] [] (kp [0,1,5,6,7,8]) (kq [0]) 593 (pc (show (65536:Int)≠0 by decide) pn) ?_
   refine ah hE 1 [] [] (kp [0,1,5,6,7,8]) (kq [0]) 641 pn ?_
   exact dh hE 1 [] (kp [0,1,5,6,7,8]) (kq [0]) 1 pn (ih _ _ _ _ h E hE)
  ·refine ah hE 2 [] [] (kp [0,1,5,6]) (kq [0]) 177 pn ?_
   exact dh hE 1 [] (kp [0,1,5,6]) (kq [0]) 1 pn (Cb _ _ _ h E hE)
theorem Cc (N a b fuel):wz N a b (iX N a b fuel):=by
 induction fuel with
 | zero=>intro _ _ r h;rw [iX.eq_1] at h;cases h
 | succ fuel ih =>
  intro out i r h E hE
  rw [iX.eq_2] at h
  refine ah hE 2 [] [] (kp [0,1,5,6,20]) (kq [0]) 65 pn ?_
  refine dK 0 20 h (fun dQ h=>?_) (fun dQ h=>?_)
  ·refine ah hE 4 [] [] (kp [0,1,5,6,7]) (kq [0]) 81 pn ?_
   refine ah hE 1 [] [] (kp [0,1,5,6,7,8]) (kq [0]) 97 pn ?_
   exact dh hE 2 [] (kp [0,1,5,6,7,8]) (kq [0]) 1 pn (Ca N _ _ _ _ ih N _ _ _ _ h E hE)
  ·obtain ⟨b7,eW,h⟩:=bq h
   refine ah hE 2 [(1,⟨[],true,(aK cI 0 b7),[],0,true,none⟩)] [] (kp [4]) [] 113 (pc (mD _ _ _ eW) (pc (z1 out.length) pn)) ?_
   obtain rfl:=dj h
   exact dw hE 0 Tryz.f113 [] (kp [4]) [] 113 pn [] pn
theorem ua (N a b r) (h:lg N a b=some r):Sd 113 [(aK cI 0 a),(aK cI 0 b)] [] 0 (aK cI 0 r) []:=by
 unfold lg at h
 refine gX (fu:=Tryz.f113) (c:=JY 1) (nt:=61) (fun hm=>rfl) ?_
 intro E hE
 refine ah hE 1 [] [] (kp [0,1]) [] 16 pn ?_
 obtain ⟨c,h⟩:=ab h
 refine ah hE 1 [] [] (kp [0,1] ++ [(5,.lO ((List.replicate ((ao ((ao (((a.length:Nat):Int)+((b.length:Nat):Int)))+1)).toNat) 0:List Int).length))]) [(112,.arr 112 ((List.replicate ((ao ((ao (((a.length:Nat):Int)+((b.length:Nat):Int)))+1)).toNat) 0:List Int).length) (fun zi=>cI ((List.replicate ((ao ((ao (((a.length:Nat):Int)+((b.length:Nat):Int)))+1)).toNat) 0:List Int).getD zi 0)))] 144 (pc (show 0≤(ao ((ao (((a.length:Nat):Int)+((b.length:Nat):Int)))+1)) from c.1) (pc (show (ao ((ao (((a.length:Nat):Int)+((b.length:Nat):Int)))+1))≤(ao ((ao (((a.length:Nat):Int)+((b.length:Nat):Int)))+1)) from (Int.le_refl _)) (pc (show (8:Int) * (ao ((ao (((a.length:Nat):Int)+((b.length:Nat):Int)))+1))≤281474976710656 from c.2.1) (pc (show (ao ((ao (((a.length:Nat):Int)+((b.length:Nat):Int)))+1))≤9223372036854775807 from c.2.2) (pc (show (ao ((ao (((a.length:Nat):Int)+((b.length:Nat):Int)))+1)).toNat=(List.replicate ((ao ((ao (((a.length:Nat):Int)+((b.length:Nat):Int)))+1)).toNat) 0:List Int).length from (de).symm) (pc (show (ao ((ao (((a.length:Nat):Int)+((b.length:Nat):Int)))+1)).toNat=(List.replicate ((ao ((ao (((a.length:Nat):Int)+((b.length:Nat):Int)))+1)).toNat) 0:List Int).length from (de).symm) (pc (show ∀ zi,zi < (List.replicate ((ao ((ao (((a.length:Nat):Int)+((b.length:Nat):Int)))+1)).toNat) 0:List Int).length→(fun zi=>cI ((List.replicate ((ao ((ao (((a.length:Nat):Int)+((b.length:Nat):Int)))+1)).toNat) 0:List Int).getD zi 0)) zi=(fun _=>[(aI 0)]) zi from (fun zq j8=>qQ cI 0 0 ((ao ((ao (((a.length:Nat):Int)+((b.length:Nat):Int)))+1)).toNat) zq j8)) pn))))))) ?_
 refine ah hE 2 [] [] (kp [0,1,5,6]) (kq [112]) 160 pn ?_
 exact dh hE 2 [] (kp [0,1,5,6]) [(0,.ai 112)] 1 pn (Cc N _ _ N _ _ _ h E hE)
noncomputable abbrev VA:=cy Tryz.f112
def A8 (N:Nat) (a:List Int) (b:List Int) (K:Int→Option (Int)):Prop:=∀ (i:Int) (r:Int),K i=some r→∀ E,aQ E 0→aw Tryz.prog E 112 41 (aY E [] (aI r)) [.code (VA 116),.inLoop (VA 116),.inBlock 0,.code (VA 15)] ⟨[(0,(aK cI 0 a)),(1,(aK cI 0 b)),(5,(aI i))],[],0⟩
theorem Aj (N a b fuel):A8 N a b (gk N a b fuel):=by
 induction fuel with
 | zero=>intro _ r h;rw [gk.eq_1] at h;cases h
 | succ fuel ih =>
  intro i r h E hE
  rw [gk.eq_2] at h
  refine ah hE 2 [] [] (kp [0,1,5,20]) [] 32 pn ?_
  refine dK 0 20 h (fun iZ h=>?_) (fun iZ h=>?_)
  ·obtain ⟨c,h⟩:=ab h
   obtain ⟨c2,h⟩:=ab h
   refine ah hE 4 [] [] (kp [0,1,5,31]) [] 176 (pc c (pc c2 pn)) ?_
   refine dK 0 31 h (fun qq h=>?_) (fun qq h=>?_)
   ·refine ah hE 1 [] [] (kp [4]) [] 336 (pc c (pc c2 pn)) ?_
    obtain rfl:=dj h
    exact dw hE 0 Tryz.f112 [] (kp [4]) [] 336 pn [] pn
   ·refine ah hE 2 [] [] (kp [0,1,5]) [] 224 pn ?_
    exact dh hE 1 [] (kp [0,1,5]) [] 0 pn (ih _ _ h E hE)
  ·refine ah hE 2 [] [] (kp [4]) [] 48 pn ?_
   obtain rfl:=dj h
   exact dw hE 0 Tryz.f112 [] (kp [4]) [] 48 pn [] pn
theorem wA (N a b r) (h:mv N a b=some r):Sd 112 [(aK cI 0 a),(aK cI 0 b)] [] 0 (aI r) []:=by
 unfold mv at h
 refine gX (fu:=Tryz.f112) (c:=VA 1) (nt:=41) (fun hm=>rfl) ?_
 intro E hE
 refine ah hE 1 [] [] (kp [0,1]) [] 16 pn ?_
 refine ah hE 2 [] [] (kp [0,1,10]) [] 96 pn ?_
 refine dK 0 10 h (fun dQ h=>?_) (fun dQ h=>?_)
 ·refine ah hE 1 [] [] (kp [4]) [] 192 pn ?_
  obtain rfl:=dj h
  exact dw hE 0 Tryz.f112 [] (kp [4]) [] 192 pn [] pn
 ·refine ah hE 3 [] [] (kp [0,1,5]) [] 160 pn ?_
  exact dh hE 2 [] (kp [0,1,5]) [] 0 pn (Aj N _ _ N _ _ h E hE)
noncomputable abbrev Lo:=cy Tryz.f114
def wC (N:Nat) (a:List Int) (b:List Int) (K:(List Int)→Int→Int→Option ((List Int))):Prop:=∀ (out:List Int) (borrow:Int) (i:Int) (r:(List Int)),K out borrow i=some r→∀ E,aQ E 0→aw Tryz.prog E 114 35 (aY E [] (aK cI 0 r)) [.code (Lo 244),.inLoop (Lo 244),.inBlock 0,.code (Lo 31)] ⟨[(0,(aK cI 0 a)),(1,(aK cI 0 b)),(5,(.os 0 0 out.length)),(6,(aI borrow)),(7,(aI i))],[(0,aO 1 cI 0 out)],1⟩
def DC (N:Nat) (a:List Int) (b:List Int) (out:List Int) (i:Int) (K:Int→Int→Option ((List Int))):Prop:=∀ (kn:Int) (s:Int) (r:(List Int)),K kn s=some r→∀ E,aQ E 0→aw Tryz.prog E 114 35 (aY E [] (aK cI 0 r)) [.code (Lo 15655),.inBlock 1,.code (Lo 979),.inLoop (Lo 244),.inBlock 0,.code (Lo 31)] ⟨[(0,(aK cI 0 a)),(1,(aK cI 0 b)),(5,(.os 0 0 out.length)),(6,(aI kn)),(7,(aI i)),(8,(aI s))],[(0,aO 1 cI 0 out)],1⟩
theorem uM (N:Nat) (a:List Int) (b:List Int) (out:List Int) (i:Int) (nW:(List Int)→Int→Int→Option ((List Int))) (Cd:wC N a b nW):DC N a b out i (lJ N a b out i nW):=by
 intro kn s r h E hE
 unfold lJ at h
 obtain ⟨c2,h⟩:=ab h
 refine ah hE 0 [] [] (kp [0,1] ++ [(5,.lO ((out ++ ([s]:List Int)).length))] ++ kp [6,7]) [(49,.arr 49 ((out ++ ([s]:List Int)).length) (fun zi=>cI ((out ++ ([s]:List Int)).getD zi 0)))] 81 (pc (Eq.refl out.length) (pc c2 (pc (z1 1) (pc (show ∀ zi,zi < 1→AV.kN ((fun zi=>([[(aI s)]]:List (List AV)).getD zi []) (bQ 0 zi))=true from (AK rfl)) (pc (show (out.length+1)=(out ++ ([s]:List Int)).length from (bD rfl rfl)) (pc (show out.length+1=(out ++ ([s]:List Int)).length from (bD rfl rfl)) (pc (show ∀ zi,zi < (out ++ ([s]:List Int)).length→(fun zi=>cI ((out ++ ([s]:List Int)).getD zi 0)) zi=((fun zm=>if zm < out.length then (fun zi=>cI (out.getD zi 0)) zm else (fun zi=>([[(aI s)]]:List (List AV)).getD zi []) (zm - out.length))) zi from (dY cI 0 out ([s]:List Int) rfl (fun _ _=>rfl) (fun zq j8=>dU cI 0 ([s]:List Int) zq j8))) pn))))))) ?_
 refine ah hE 1 [] [] (kp [0,1,5,6,7]) (kq [49]) 129 pn ?_
 exact dh hE 1 [] (kp [0,1,5,6,7]) [(0,.ai 49)] 1 pn (Cd _ _ _ _ h E hE)
theorem Ce (N a b fuel):wC N a b (fO N a b fuel):=by
 induction fuel with
 | zero=>intro _ _ _ r h;rw [fO.eq_1] at h;cases h
 | succ fuel ih =>
  intro out borrow i r h E hE
  rw [fO.eq_2] at h
  refine ah hE 2 [] [] (kp [0,1,5,6,7,12]) (kq [0]) 65 pn ?_
  refine dK 0 12 h (fun dQ h=>?_) (fun dQ h=>?_)
  ·obtain ⟨c,h⟩:=ab h
   obtain ⟨cZ,hr,h⟩:=bq h
   refine ah hE 4 [(6,oT (aI cZ))] [] (kp [0,1,5,7,8]) (kq [0]) 241 (pc c (pc (qi _ _ _ _ hr) pn)) ?_
   refine ah hE 1 [] [] (kp [0,1,5,6,7,8]) (kq [0]) 257 pn ?_
   refine ah hE 2 [] [] (kp [0,1,5,6,7,8,26]) (kq [0]) 289 pn ?_
   refine dK 0 26 h (fun iZ h=>?_) (fun iZ h=>?_)
   ·refine ah hE 1 [] [] (kp [0,1,5,7,8]) (kq [0]) 337 pn ?_
    refine ah hE 0 [] [] (kp [0,1,5,6,7,8]) (kq [0]) 353 pn ?_
    exact dh hE 0 [] (kp [0,1,5,6,7,8]) (kq [0]) 1 pn (uM N _ _ _ _ _ ih _ _ _ h E hE)
   ·exact dh hE 1 [] (kp [0,1,5,6,7,8]) (kq [0]) 1 pn (uM N _ _ _ _ _ ih _ _ _ h E hE)
  ·obtain ⟨b7,eW,h⟩:=bq h
   refine ah hE 2 [(1,⟨[],true,(aK cI 0 b7),[],0,true,none⟩)] [] (kp [4]) [] 113 (pc (mD _ _ _ eW) (pc (z1 out.length) pn)) ?_
   obtain rfl:=dj h
   exact dw hE 0 Tryz.f114 [] (kp [4]) [] 113 pn [] pn
theorem ub (N a b r) (h:pG N a b=some r):Sd 114 [(aK cI 0 a),(aK cI 0 b)] [] 0 (aK cI 0 r) []:=by
 unfold pG at h
 refine gX (fu:=Tryz.f114) (c:=Lo 1) (nt:=35) (fun hm=>rfl) ?_
 intro E hE
 refine ah hE 1 [] [] (kp [0,1]) [] 16 pn ?_
 refine ah hE 1 [] [] (kp [0,1,5]) [] 32 pn ?_
 refine ah hE 1 [] [] (kp [0,1,5,6]) [] 48 pn ?_
 refine ah hE 2 [] [] (kp [0,1,5,6,7]) [] 64 pn ?_
 exact dh hE 2 [] (kp [0,1] ++ [(5,.tF 0)] ++ kp [6,7]) [(0,.nil 1 (fun zi=>cI (([]:List Int).getD zi 0)))] 1 pn (Ce N _ _ N _ _ _ _ h E hE)
noncomputable abbrev DD:=cy Tryz.f87
def su (N:Nat) (a:List Int) (b:List Int) (K:(List Int)→(List Int)→Int→Option ((List Int)×(List Int))):Prop:=∀ (rest:List Int) (q:List Int) (i:Int) (r:(List Int)×(List Int)),K rest q i=some r→∀ E,aQ E 0→aw Tryz.prog E 87 63 (aY E [] (.tup [(aK cI 0 r.1),(aK cI 0 r.2)])) [.code (DD 244),.inLoop (DD 244),.inBlock 0,.code (DD 31)] ⟨[(0,(aK cI 0 a)),(1,(aK cI 0 b)),(6,(aK cI 0 rest)),(7,(.os 0 0 q.length)),(8,(aI i))],[(0,aO 1 cI 0 q)],1⟩
def ES (N:Nat) (a:List Int) (b:List Int) (q:List Int) (i:Int) (b7:(List Int)) (K:Int→Int→Option ((List Int)×(List Int))):Prop:=∀ (lo:Int) (hi:Int) (r:(List Int)×(List Int)),K lo hi=some r→∀ E,aQ E 0→aw Tryz.prog E 87 63 (aY E [] (.tup [(aK cI 0 r.1),(aK cI 0 r.2)])) [.code (DD 62616),.inLoop (DD 62616),.inBlock 2,.code (DD 15655),.inBlock 1,.code (DD 979),.inLoop (DD 244),.inBlock 0,.code (DD 31)] ⟨[(0,(aK cI 0 a)),(1,(aK cI 0 b)),(6,(aK cI 0 b7)),(7,(.os 0 0 q.length)),(8,(aI i)),(9,(aI lo)),(10,(aI hi))],[(0,aO 1 cI 0 q)],1⟩
def ET (N:Nat) (a:List Int) (b:List Int) (q:List Int) (i:Int) (lo:Int) (K:(List Int)→Option ((List Int)×(List Int))):Prop:=∀ (Lm:List Int) (r:(List Int)×(List Int)),K Lm=some r→∀ E,aQ E 0→aw Tryz.prog E 87 63 (aY E [] (.tup [(aK cI 0 r.1),(aK cI 0 r.2)])) [.code (DD 979),.inLoop (DD 244),.inBlock 0,.code (DD 31)] ⟨[(0,(aK cI 0 a)),(1,(aK cI 0 b)),(6,(aK cI 0 Lm)),(7,(.os 0 0 ((q.set ((i).toNat) lo).length))),(8,(aI i))],[(0,aO 1 cI 0 (q.set ((i).toNat) lo))],1⟩
theorem wD (N:Nat) (a:List Int) (b:List Int) (q:List Int) (i:Int) (lo:Int) (dT:(List Int)→(List Int)→Int→Option ((List Int)×(List Int))) (n4:su N a b dT):ET N a b q i lo (mw N a b q i lo dT):=by
 intro Lm r h E hE
 unfold mw at h
 refine ah hE 0 [] [] (kp [0,1,6,7,8]) (kq [0]) 49 pn ?_
 exact dh hE 1 [] (kp [0,1,6,7,8]) (kq [0]) 1 pn (n4 _ _ _ _ h E hE)
theorem DE (N:Nat) (a:List Int) (b:List Int) (q:List Int) (i:Int) (b7:(List Int)) (dT:(List Int)→(List Int)→Int→Option ((List Int)×(List Int))) (n4:su N a b dT) (fuel:Nat):ES N a b q i b7 (iB N a b q i b7 dT fuel):=by
 induction fuel with
 | zero=>intro _ _ r h;rw [iB.eq_1] at h;cases h
 | succ fuel ih =>
  intro lo hi r h E hE
  rw [iB.eq_2] at h
  refine ah hE 2 [] [] (kp [0,1,6,7,8,9,10,32]) (kq [0]) 49 pn ?_
  refine dK 0 32 h (fun iZ h=>?_) (fun iZ h=>?_)
  ·refine ah hE 3 [] [] (kp [0,1,6,7,8,9,10,11]) (kq [0]) 145 (pc (show (2:Int)≠0 by decide) pn) ?_
   obtain ⟨sb,eW,h⟩:=bq h
   obtain ⟨j6,lL,h⟩:=bq h
   refine ah hE 1 [(3,⟨[],true,(aK cI 0 sb),[],0,true,none⟩),(5,oT (aI j6))] [] (kp [0,1,6,7,8,9,10,11,44]) (kq [0]) 257 (pc (show Sd 113 [(aK cI 0 b),(.sl 1 (fun zi=>(fun zi=>([[(aI (ao ((ao ((ao (lo+hi))+1)).tdiv 2)))]]:List (List AV)).getD zi []) (bQ 0 zi)))] [] 0 (aK cI 0 sb) [] from (Sound.conv (ua _ _ _ _ eW) (.cons (Alike.refl _) (.cons (Alike.sl rfl (fun zq j8=>dU cI 0 ([(ao ((ao ((ao (lo+hi))+1)).tdiv 2))]:List Int) zq j8)) .nil)))) (pc (z1 1) (pc (wA _ _ _ _ lL) pn))) ?_
   refine dK 0 44 h (fun qq h=>?_) (fun qq h=>?_)
   ·refine ah hE 0 [] [] (kp [0,1,6,7,8,9,10]) (kq [0]) 289 pn ?_
    exact dh hE 2 [] (kp [0,1,6,7,8,9,10]) (kq [0]) 1 pn (ih _ _ _ h E hE)
   ·refine ah hE 0 [] [] (kp [0,1,6,7,8,9,10]) (kq [0]) 305 pn ?_
    exact dh hE 2 [] (kp [0,1,6,7,8,9,10]) (kq [0]) 1 pn (ih _ _ _ h E hE)
  ·obtain ⟨c4,h⟩:=ab h
   refine ah hE 2 [] [] (kp [0,1,6] ++ [(7,.lO ((q.set ((i).toNat) lo).length))] ++ kp [8,9]) [(0,.arr 0 ((q.set ((i).toNat) lo).length) (fun zi=>cI ((q.set ((i).toNat) lo).getD zi 0)))] 129 (pc c4 (pc (dm c4) (pc (aG q ((i).toNat) lo) (pc (aG q ((i).toNat) lo) (pc (cH cI 0 q ((i).toNat) lo) pn))))) ?_
   refine ah hE 1 [] [] (kp [0,1,6,7,8,9,53]) (kq [0]) 161 pn ?_
   refine dK 0 53 h (fun Eu h=>?_) (fun Eu h=>?_)
   ·obtain ⟨Fb,px,h⟩:=bq h
    obtain ⟨o7,uI,h⟩:=bq h
    refine ah hE 0 [(4,⟨[],true,(aK cI 0 Fb),[],0,true,none⟩),(5,oT (aK cI 0 o7))] [] (kp [0,1,6,7,8]) (kq [0]) 273 (pc (show Sd 113 [(aK cI 0 b),(.sl 1 (fun zi=>(fun zi=>([[(aI lo)]]:List (List AV)).getD zi []) (bQ 0 zi)))] [] 0 (aK cI 0 Fb) [] from (Sound.conv (ua _ _ _ _ px) (.cons (Alike.refl _) (.cons (Alike.sl rfl (fun zq j8=>dU cI 0 ([lo]:List Int) zq j8)) .nil)))) (pc (z1 1) (pc (ub _ _ _ _ uI) pn))) ?_
    exact dh hE 1 [] (kp [0,1,6,7,8]) (kq [0]) 1 pn (wD N _ _ _ _ _ _ n4 _ _ h E hE)
   ·exact dh hE 2 [] (kp [0,1,6,7,8]) (kq [0]) 1 pn (wD N _ _ _ _ _ _ n4 _ _ h E hE)
theorem DF (N a b fuel):su N a b (iC N a b fuel):=by
 induction fuel with
 | zero=>intro _ _ _ r h;rw [iC.eq_1] at h;cases h
 | succ fuel ih =>
  intro rest q i r h E hE
  rw [iC.eq_2] at h
  refine ah hE 2 [] [] (kp [0,1,6,7,8,19]) (kq [0]) 33 pn ?_
  refine dK 0 19 h (fun dQ h=>?_) (fun dQ h=>?_)
  ·obtain ⟨c2,h⟩:=ab h
   obtain ⟨c3,h⟩:=ab h
   obtain ⟨b7,hr,h⟩:=bq h
   refine ah hE 4 [(7,⟨[],true,(aK cI 0 b7),[],0,true,none⟩)] [] (kp [0,1,6,7,8]) (kq [0]) 177 (pc c2 (pc (Eq.refl 1) (pc c3 (pc (show ∀ zi,zi < rest.length→AV.kN ((fun zi=>cI (rest.getD zi 0)) zi)=true from (fun _ _=>rfl)) (pc (show Sd 111 [(.sl (1+rest.length) (fun zi=>((fun zm=>if zm < 1 then (fun zi=>([[(aI (a.getD ((i).toNat) 0))]]:List (List AV)).getD zi []) zm else (fun zi=>cI (rest.getD zi 0)) (zm - 1))) (bQ 0 zi)))] [] 0 (aK cI 0 b7) [] from (Sound.conv (mD _ _ _ hr) (.cons (Alike.sl (bD rfl rfl) (dY cI 0 ([(a.getD ((i).toNat) 0)]:List Int) rest rfl (fun zq j8=>dU cI 0 ([(a.getD ((i).toNat) 0)]:List Int) zq j8) (fun _ _=>rfl))) .nil))) (pc (z1 (1+rest.length)) pn)))))) ?_
   refine ah hE 1 [] [] (kp [0,1,6,7,8,9,10]) (kq [0]) 209 pn ?_
   exact dh hE 3 [] (kp [0,1,6,7,8,9,10]) (kq [0]) 1 pn (DE N _ _ _ _ _ _ ih N _ _ _ h E hE)
  ·obtain ⟨gu,yT,h⟩:=bq h
   refine ah hE 2 [(1,⟨[],true,(aK cI 0 gu),[],0,true,none⟩)] [] (kp [4,5]) [] 113 (pc (mD _ _ _ yT) (pc (z1 q.length) pn)) ?_
   obtain rfl:=dj h
   exact dw hE 0 Tryz.f87 [] (kp [4,5]) [] 113 pn [] pn
theorem vp (N a b r) (h:nu N a b=some r):Sd 87 [(aK cI 0 a),(aK cI 0 b)] [] 0 (.tup [(aK cI 0 r.1),(aK cI 0 r.2)]) []:=by
 unfold nu at h
 refine gX (fu:=Tryz.f87) (c:=DD 1) (nt:=63) (fun hm=>rfl) ?_
 intro E hE
 refine ah hE 1 [] [] (kp [0,1]) [] 32 pn ?_
 refine ah hE 1 [] [] (kp [0,1,6]) [] 48 pn ?_
 obtain ⟨c,h⟩:=ab h
 refine ah hE 1 [] [] (kp [0,1,6] ++ [(7,.lO ((List.replicate a.length 0:List Int).length))]) [(80,.arr 80 ((List.replicate a.length 0:List Int).length) (fun zi=>cI ((List.replicate a.length 0:List Int).getD zi 0)))] 112 (pc (show 0≤((a.length:Nat):Int) from c.1) (pc (show ((a.length:Nat):Int)≤((a.length:Nat):Int) from (Int.le_refl _)) (pc (show (8:Int) * ((a.length:Nat):Int)≤281474976710656 from c.2.1) (pc (show ((a.length:Nat):Int)≤9223372036854775807 from c.2.2) (pc (show a.length=(List.replicate a.length 0:List Int).length from (de).symm) (pc (show a.length=(List.replicate a.length 0:List Int).length from (de).symm) (pc (show ∀ zi,zi < (List.replicate a.length 0:List Int).length→(fun zi=>cI ((List.replicate a.length 0:List Int).getD zi 0)) zi=(fun _=>[(aI 0)]) zi from (fun zq j8=>qQ cI 0 0 a.length zq j8)) pn))))))) ?_
 refine ah hE 2 [] [] (kp [0,1,6,7,8]) (kq [80]) 176 pn ?_
 exact dh hE 2 [] (kp [0,1] ++ [(6,.sl (([]:List Int).length) (fun zi=>cI (([]:List Int).getD zi 0)))] ++ kp [7,8]) [(0,.ai 80)] 1 (pc (Eq.refl 0) pn) (DF N _ _ N _ _ _ _ h E hE)
noncomputable abbrev VC:=cy Tryz.f86
def GM (N:Nat) (K:(List Int)→(List Int)→Option ((List Int))):Prop:=∀ (a2:List Int) (b2:List Int) (r:(List Int)),K a2 b2=some r→∀ E,aQ E 0→aw Tryz.prog E 86 19 (aY E [] (aK cI 0 r)) [.code (VC 24),.inLoop (VC 24),.inBlock 0,.code (VC 7)] ⟨[(0,(aK cI 0 a2)),(1,(aK cI 0 b2))],[],0⟩
theorem EU (N fuel):GM N (l9 N fuel):=by
 induction fuel with
 | zero=>intro _ _ r h;rw [l9.eq_1] at h;cases h
 | succ fuel ih =>
  intro a2 b2 r h E hE
  rw [l9.eq_2] at h
  refine ah hE 2 [] [] (kp [0,1,9]) [] 48 pn ?_
  refine dK 0 9 h (fun dQ h=>?_) (fun dQ h=>?_)
  ·obtain ⟨ku,hr,h⟩:=bq h
   refine ah hE 3 [(2,oT (.tup [(aK cI 0 ku.1),(aK cI 0 ku.2)]))] [] (kp [1,6]) [] 176 (pc (vp _ _ _ _ hr) pn) ?_
   refine ah hE 0 [] [] (kp [0,1]) [] 240 pn ?_
   exact dh hE 2 [] (kp [0,1]) [] 0 pn (ih _ _ _ h E hE)
  ·refine ah hE 2 [] [] (kp [4]) [] 80 pn ?_
   obtain rfl:=dj h
   exact dw hE 0 Tryz.f86 [] (kp [4]) [] 80 pn [] pn
theorem JZ (N a b r) (h:zS N a b=some r):Sd 86 [(aK cI 0 a),(aK cI 0 b)] [] 0 (aK cI 0 r) []:=by
 unfold zS at h
 refine gX (fu:=Tryz.f86) (c:=VC 1) (nt:=19) (fun hm=>rfl) ?_
 intro E hE
 refine ah hE 1 [] [] (kp [0,1]) [] 16 pn ?_
 exact dh hE 3 [] (kp [0,1]) [] 0 pn (EU N N _ _ _ h E hE)
noncomputable abbrev adK:=cy Tryz.f43
theorem vq (N a b r) (h:o9 N a b=some r):Sd 43 [(.agg (iv a)),(.agg (iv b))] [] 0 (.agg (ag r)) []:=by
 unfold o9 at h
 refine gX (fu:=Tryz.f43) (c:=adK 1) (nt:=52) (fun hm=>rfl) ?_
 intro E hE
 refine ah hE 1 [] [] (kp [2,3,4]) (kq [0,16,32]) 48 pn ?_
 obtain ⟨mT,hr,h⟩:=bq h
 obtain ⟨og,eW,h⟩:=bq h
 refine ah hE 1 [(2,oT (aK cI 0 mT)),(5,oT (aK cI 0 og))] [] (kp [2,3,4,5,6]) (kq [0,16,32]) 176 (pc o1 (pc (jR _ _ _ hr) (pc o1 (pc (jR _ _ _ eW) pn)))) ?_
 refine ah hE 2 [] [] (kp [2,3,4,5,6,20]) (kq [0,16,32]) 224 pn ?_
 refine dK 0 20 h (fun dQ h=>?_) (fun dQ h=>?_)
 ·obtain ⟨p8,lL,h⟩:=bq h
  obtain ⟨Kx,px,h⟩:=bq h
  refine ah hE 1 [(3,oT (.agg (iv p8))),(4,oT (.agg (iv Kx)))] [] (kp [4]) (kq [32]) 336 (pc o1 (pc (iI _ _ _ _ lL) (pc (zc _ _ _ px) (pc o1 pn)))) ?_
  obtain rfl:=dj h
  exact dw hE 0 Tryz.f43 [] (kp [4]) [(16,.ai 32)] 336 pn [16] (pc o1 pn)
 ·obtain ⟨Vf,uI,h⟩:=bq h
  refine ah hE 2 [(2,oT (aK cI 0 Vf))] [] (kp [2,3,4,5,6,7]) (kq [0,16,32]) 288 (pc (JZ _ _ _ _ uI) pn) ?_
  obtain ⟨ku,yT,h⟩:=bq h
  refine ah hE 1 [(2,oT (.tup [(aK cI 0 ku.1),(aK cI 0 ku.2)]))] [] (kp [2,3,4,6,7,8]) (kq [0,16,32]) 416 (pc (vp _ _ _ _ yT) pn) ?_
  obtain ⟨kD,Ag,h⟩:=bq h
  refine ah hE 1 [(2,oT (.tup [(aK cI 0 kD.1),(aK cI 0 kD.2)]))] [] (kp [2,3,4,8,10]) (kq [0,16,32]) 544 (pc (vp _ _ _ _ Ag) pn) ?_
  obtain ⟨A1,HT,h⟩:=bq h
  obtain ⟨A2,HS,h⟩:=bq h
  refine ah hE 1 [(6,oT (.agg (iv A1))),(8,oT (.agg (iv A2)))] [] (kp [4]) (kq [32]) 720 (pc o1 (pc o1 (pc (iI _ _ _ _ HT) (pc (iI _ _ _ _ HS) (pc o1 pn))))) ?_
  obtain rfl:=dj h
  exact dw hE 0 Tryz.f43 [] (kp [4]) [(16,.ai 32)] 720 pn [16] (pc o1 pn)
noncomputable abbrev adL:=cy Tryz.f12
theorem jU (N x r) (h:iE N x=some r):Sd 12 [(.agg (ag x))] [] 0 (.agg (ag r)) []:=by
 unfold iE at h
 refine gX (fu:=Tryz.f12) (c:=adL 1) (nt:=8) (fun hm=>rfl) ?_
 intro E hE
 refine ah hE 1 [] [] (kp [1,2]) (kq [0,16]) 32 pn ?_
 obtain ⟨yN,hr,h⟩:=bq h
 refine ah hE 1 [(4,oT (.agg (ag yN)))] [] (kp [2]) (kq [16]) 128 (pc o1 (pc o1 (pc (vq _ _ _ _ hr) (pc o1 pn)))) ?_
 obtain rfl:=dj h
 exact dw hE 0 Tryz.f12 [] (kp [2]) (kq [16]) 128 pn [16] (pc o1 pn)
noncomputable abbrev adM:=cy Tryz.f93
theorem qj (N a b r) (h:pH N a b=some r):Sd 93 [(.agg (iv a)),(.agg (iv b))] [] 0 (.agg (iv r)) []:=by
 unfold pH at h
 refine gX (fu:=Tryz.f93) (c:=adM 1) (nt:=18) (fun hm=>rfl) ?_
 intro E hE
 refine ah hE 1 [] [] (kp [2,3,4]) (kq [0,16,32]) 48 pn ?_
 obtain ⟨mT,hr,h⟩:=bq h
 obtain ⟨og,eW,h⟩:=bq h
 obtain ⟨sb,lL,h⟩:=bq h
 obtain ⟨p8,px,h⟩:=bq h
 refine ah hE 1 [(7,oT (aK cI 0 mT)),(10,oT (aK cI 0 og)),(11,oT (aK cI 0 sb)),(12,oT (.agg (iv p8)))] [] (kp [4]) (kq [32]) 272 (pc o1 (pc o1 (pc o1 (pc (jR _ _ _ hr) (pc o1 (pc (jR _ _ _ eW) (pc (ua _ _ _ _ lL) (pc (iI _ _ _ _ px) (pc o1 pn))))))))) ?_
 obtain rfl:=dj h
 exact dw hE 0 Tryz.f93 [] (kp [4]) [(16,.ai 32)] 272 pn [16] (pc o1 pn)
noncomputable abbrev adN:=cy Tryz.f53
theorem EV (N x y r) (h:sU N x y=some r):Sd 53 [(.agg (ag x)),(.agg (ag y))] [] 0 (.agg (ag r)) []:=by
 unfold sU at h
 refine gX (fu:=Tryz.f53) (c:=adN 1) (nt:=22) (fun hm=>rfl) ?_
 intro E hE
 refine ah hE 1 [] [] (kp [2,3,4]) (kq [0,16,32]) 48 pn ?_
 obtain ⟨gL,hr,h⟩:=bq h
 obtain ⟨my,eW,h⟩:=bq h
 refine ah hE 1 [(1,oT (.agg (ag gL))),(3,oT (.agg (ag my)))] [] (kp [4,5,6]) (kq [32,112,128]) 176 (pc o1 (pc (jU _ _ _ hr) (pc o1 (pc (jU _ _ _ eW) (pc o1 (pc o1 pn)))))) ?_
 obtain ⟨xh,lL,h⟩:=bq h
 obtain ⟨pY,px,h⟩:=bq h
 obtain ⟨yN,uI,h⟩:=bq h
 refine ah hE 1 [(4,oT (.agg (iv xh))),(9,oT (.agg (iv pY))),(10,oT (.agg (ag yN)))] [] (kp [4]) (kq [32]) 368 (pc o1 (pc o1 (pc (qj _ _ _ _ lL) (pc o1 (pc o1 (pc (qj _ _ _ _ px) (pc (vq _ _ _ _ uI) (pc o1 pn)))))))) ?_
 obtain rfl:=dj h
 exact dw hE 0 Tryz.f53 [] (kp [4]) [(16,.ai 32)] 368 pn [16] (pc o1 pn)
noncomputable abbrev VD:=cy Tryz.f115
def EW (N:Nat) (a:List Int) (b:List Int) (K:(List Int)→Int→Int→Option ((List Int))):Prop:=∀ (out:List Int) (carry:Int) (i:Int) (r:(List Int)),K out carry i=some r→∀ E,aQ E 0→aw Tryz.prog E 115 43 (aY E [] (aK cI 0 r)) [.code (VD 244),.inLoop (VD 244),.inBlock 0,.code (VD 31)] ⟨[(0,(aK cI 0 a)),(1,(aK cI 0 b)),(5,(.os 0 0 out.length)),(6,(aI carry)),(7,(aI i))],[(0,aO 1 cI 0 out)],1⟩
theorem DG (N a b fuel):EW N a b (jQ N a b fuel):=by
 induction fuel with
 | zero=>intro _ _ _ r h;rw [jQ.eq_1] at h;cases h
 | succ fuel ih =>
  intro out carry i r h E hE
  rw [jQ.eq_2] at h
  refine ah hE 2 [] [] (kp [0,1,5,6,7,22]) (kq [0]) 225 (pc (fun hg:(!(decide (i < ((a.length:Nat):Int))))=true=>(pc hg pn)) (pc (fun hg:(!(decide (i < ((a.length:Nat):Int))))=true=>(pc hg (pc hg pn))) (pc (fun hq:(!(decide (i < ((a.length:Nat):Int))))=true=>(pc hq pn)) (pc (fun hg:(!(cond (decide (i < ((a.length:Nat):Int))) true (decide (i < ((b.length:Nat):Int)))))=true=>(pc hg pn)) (pc (fun hq:(!(cond (decide (i < ((a.length:Nat):Int))) true (decide (i < ((b.length:Nat):Int)))))=true=>(pc hq pn)) pn))))) ?_
  refine dK 0 22 h (fun dQ h=>?_) (fun dQ h=>?_)
  ·obtain ⟨cZ,hr,h⟩:=bq h
   obtain ⟨ma,eW,h⟩:=bq h
   refine ah hE 4 [(2,oT (aI cZ)),(5,oT (aI ma))] [] (kp [0,1,5,7,8]) (kq [0]) 385 (pc (qi _ _ _ _ hr) (pc (qi _ _ _ _ eW) pn)) ?_
   obtain ⟨c,h⟩:=ab h
   refine ah hE 1 [] [] (kp [0,1] ++ [(5,.lO ((out ++ ([((ao ((ao (cZ+ma))+carry)).tmod 65536)]:List Int)).length))] ++ kp [7,8]) [(449,.arr 449 ((out ++ ([((ao ((ao (cZ+ma))+carry)).tmod 65536)]:List Int)).length) (fun zi=>cI ((out ++ ([((ao ((ao (cZ+ma))+carry)).tmod 65536)]:List Int)).getD zi 0)))] 481 (pc (show (65536:Int)≠0 by decide) (pc (Eq.refl out.length) (pc c (pc (z1 1) (pc (show ∀ zi,zi < 1→AV.kN ((fun zi=>([[(aI ((ao ((ao (cZ+ma))+carry)).tmod 65536))]]:List (List AV)).getD zi []) (bQ 0 zi))=true from (AK rfl)) (pc (show (out.length+1)=(out ++ ([((ao ((ao (cZ+ma))+carry)).tmod 65536)]:List Int)).length from (bD rfl rfl)) (pc (show out.length+1=(out ++ ([((ao ((ao (cZ+ma))+carry)).tmod 65536)]:List Int)).length from (bD rfl rfl)) (pc (show ∀ zi,zi < (out ++ ([((ao ((ao (cZ+ma))+carry)).tmod 65536)]:List Int)).length→(fun zi=>cI ((out ++ ([((ao ((ao (cZ+ma))+carry)).tmod 65536)]:List Int)).getD zi 0)) zi=((fun zm=>if zm < out.length then (fun zi=>cI (out.getD zi 0)) zm else (fun zi=>([[(aI ((ao ((ao (cZ+ma))+carry)).tmod 65536))]]:List (List AV)).getD zi []) (zm - out.length))) zi from (dY cI 0 out ([((ao ((ao (cZ+ma))+carry)).tmod 65536)]:List Int) rfl (fun _ _=>rfl) (fun zq j8=>dU cI 0 ([((ao ((ao (cZ+ma))+carry)).tmod 65536)]:List Int) zq j8))) pn)))))))) ?_
   refine ah hE 0 [] [] (kp [0,1,5,6,7]) (kq [449]) 529 (pc (show (65536:Int)≠0 by decide) pn) ?_
   refine ah hE 1 [] [] (kp [0,1,5,6,7]) (kq [449]) 577 pn ?_
   exact dh hE 1 [] (kp [0,1,5,6,7]) [(0,.ai 449)] 1 pn (ih _ _ _ _ h E hE)
  ·obtain ⟨b7,lL,h⟩:=bq h
   refine ah hE 2 [(1,⟨[],true,(aK cI 0 b7),[],0,true,none⟩)] [] (kp [4]) [] 273 (pc (mD _ _ _ lL) (pc (z1 out.length) pn)) ?_
   obtain rfl:=dj h
   exact dw hE 0 Tryz.f115 [] (kp [4]) [] 273 pn [] pn
theorem H2 (N a b r) (h:xj N a b=some r):Sd 115 [(aK cI 0 a),(aK cI 0 b)] [] 0 (aK cI 0 r) []:=by
 unfold xj at h
 refine gX (fu:=Tryz.f115) (c:=VD 1) (nt:=43) (fun hm=>rfl) ?_
 intro E hE
 refine ah hE 1 [] [] (kp [0,1]) [] 16 pn ?_
 refine ah hE 1 [] [] (kp [0,1,5]) [] 32 pn ?_
 refine ah hE 1 [] [] (kp [0,1,5,6]) [] 48 pn ?_
 refine ah hE 2 [] [] (kp [0,1,5,6,7]) [] 64 pn ?_
 exact dh hE 2 [] (kp [0,1] ++ [(5,.tF 0)] ++ kp [6,7]) [(0,.nil 1 (fun zi=>cI (([]:List Int).getD zi 0)))] 1 pn (DG N _ _ N _ _ _ _ h E hE)
noncomputable abbrev adO:=cy Tryz.f92
theorem J0 (N a b r) (h:zT N a b=some r):Sd 92 [(.agg (iv a)),(.agg (iv b))] [] 0 (.agg (iv r)) []:=by
 unfold zT at h
 refine gX (fu:=Tryz.f92) (c:=adO 1) (nt:=40) (fun hm=>rfl) ?_
 intro E hE
 refine ah hE 1 [] [] (kp [2,3,4]) (kq [0,16,32]) 48 pn ?_
 obtain ⟨mT,hr,h⟩:=bq h
 obtain ⟨og,eW,h⟩:=bq h
 refine ah hE 1 [(2,oT (aK cI 0 mT)),(5,oT (aK cI 0 og))] [] (kp [2,3,4,5,6]) (kq [0,16,32]) 176 (pc o1 (pc (jR _ _ _ hr) (pc o1 (pc (jR _ _ _ eW) pn)))) ?_
 refine ah hE 2 [] [] (kp [2,3,4,5,6,17]) (kq [0,16,32]) 256 (pc o1 (pc o1 pn)) ?_
 refine dK 0 17 h (fun dQ h=>?_) (fun dQ h=>?_)
 ·obtain ⟨xM,lL,h⟩:=bq h
  obtain ⟨p8,px,h⟩:=bq h
  refine ah hE 1 [(4,oT (aK cI 0 xM)),(5,oT (.agg (iv p8)))] [] (kp [4]) (kq [32]) 368 (pc o1 (pc (H2 _ _ _ _ lL) (pc (iI _ _ _ _ px) (pc o1 pn)))) ?_
  obtain rfl:=dj h
  exact dw hE 0 Tryz.f92 [] (kp [4]) [(16,.ai 32)] 368 pn [16] (pc o1 pn)
 ·obtain ⟨j6,uI,h⟩:=bq h
  refine ah hE 3 [(2,oT (aI j6))] [] (kp [2,3,4,5,6,27]) (kq [0,16,32]) 320 (pc (wA _ _ _ _ uI) pn) ?_
  refine dK 0 27 h (fun iZ h=>?_) (fun iZ h=>?_)
  ·obtain ⟨o7,yT,h⟩:=bq h
   obtain ⟨A1,Ag,h⟩:=bq h
   refine ah hE 1 [(4,oT (aK cI 0 o7)),(5,oT (.agg (iv A1)))] [] (kp [4]) (kq [32]) 432 (pc o1 (pc (ub _ _ _ _ yT) (pc (iI _ _ _ _ Ag) (pc o1 pn)))) ?_
   obtain rfl:=dj h
   exact dw hE 0 Tryz.f92 [] (kp [4]) [(16,.ai 32)] 432 pn [16] (pc o1 pn)
  ·obtain ⟨xg,HT,h⟩:=bq h
   obtain ⟨A2,HS,h⟩:=bq h
   refine ah hE 2 [(4,oT (aK cI 0 xg)),(5,oT (.agg (iv A2)))] [] (kp [4]) (kq [32]) 432 (pc o1 (pc (ub _ _ _ _ HT) (pc (iI _ _ _ _ HS) (pc o1 pn)))) ?_
   obtain rfl:=dj h
   exact dw hE 0 Tryz.f92 [] (kp [4]) [(16,.ai 32)] 432 pn [16] (pc o1 pn)
noncomputable abbrev adP:=cy Tryz.f52
theorem xU (N x y r) (h:p9 N x y=some r):Sd 52 [(.agg (ag x)),(.agg (ag y))] [] 0 (.agg (ag r)) []:=by
 unfold p9 at h
 refine gX (fu:=Tryz.f52) (c:=adP 1) (nt:=28) (fun hm=>rfl) ?_
 intro E hE
 refine ah hE 1 [] [] (kp [2,3,4]) (kq [0,16,32]) 48 pn ?_
 obtain ⟨gL,hr,h⟩:=bq h
 obtain ⟨my,eW,h⟩:=bq h
 refine ah hE 1 [(1,oT (.agg (ag gL))),(3,oT (.agg (ag my)))] [] (kp [4,5,6]) (kq [32,112,128]) 176 (pc o1 (pc (jU _ _ _ hr) (pc o1 (pc (jU _ _ _ eW) (pc o1 (pc o1 pn)))))) ?_
 obtain ⟨xh,lL,h⟩:=bq h
 obtain ⟨pY,px,h⟩:=bq h
 obtain ⟨M9,uI,h⟩:=bq h
 obtain ⟨F7,yT,h⟩:=bq h
 obtain ⟨yN,Ag,h⟩:=bq h
 refine ah hE 1 [(4,oT (.agg (iv xh))),(9,oT (.agg (iv pY))),(10,oT (.agg (iv M9))),(15,oT (.agg (iv F7))),(16,oT (.agg (ag yN)))] [] (kp [4]) (kq [32]) 464 (pc o1 (pc o1 (pc (qj _ _ _ _ lL) (pc o1 (pc o1 (pc (qj _ _ _ _ px) (pc (J0 _ _ _ _ uI) (pc o1 (pc o1 (pc (qj _ _ _ _ yT) (pc (vq _ _ _ _ Ag) (pc o1 pn)))))))))))) ?_
 obtain rfl:=dj h
 exact dw hE 0 Tryz.f52 [] (kp [4]) [(16,.ai 32)] 464 pn [16] (pc o1 pn)
noncomputable abbrev aai:=cy Tryz.f116
theorem J1 (N a r) (h:zU N a=some r):Sd 116 [(.agg (iv a))] [] 0 (.agg (iv r)) []:=by
 unfold zU at h
 refine gX (fu:=Tryz.f116) (c:=aai 1) (nt:=10) (fun hm=>rfl) ?_
 intro E hE
 refine ah hE 1 [] [] (kp [1,2]) (kq [0,16]) 32 pn ?_
 obtain ⟨mT,hr,h⟩:=bq h
 obtain ⟨p8,eW,h⟩:=bq h
 refine ah hE 1 [(5,oT (aK cI 0 mT)),(6,oT (.agg (iv p8)))] [] (kp [2]) (kq [16]) 160 (pc o1 (pc o1 (pc (jR _ _ _ hr) (pc (iI _ _ _ _ eW) (pc o1 pn))))) ?_
 obtain rfl:=dj h
 exact dw hE 0 Tryz.f116 [] (kp [2]) (kq [16]) 160 pn [16] (pc o1 pn)
noncomputable abbrev aaj:=cy Tryz.f94
theorem EX (N x r) (h:sV N x=some r):Sd 94 [(.agg (ag x))] [] 0 (.agg (ag r)) []:=by
 unfold sV at h
 refine gX (fu:=Tryz.f94) (c:=aaj 1) (nt:=12) (fun hm=>rfl) ?_
 intro E hE
 refine ah hE 1 [] [] (kp [1,2]) (kq [0,16]) 32 pn ?_
 obtain ⟨gL,hr,h⟩:=bq h
 refine ah hE 1 [(1,oT (.agg (ag gL)))] [] (kp [2,3]) (kq [16,64]) 96 (pc o1 (pc (jU _ _ _ hr) (pc o1 pn))) ?_
 obtain ⟨XV,eW,h⟩:=bq h
 refine ah hE 1 [(2,oT (.agg (iv XV)))] [] (kp [2]) (kq [16]) 208 (pc o1 (pc (J1 _ _ _ eW) (pc o1 (pc o1 pn)))) ?_
 obtain rfl:=dj h
 exact dw hE 0 Tryz.f94 [] (kp [2]) (kq [16]) 208 pn [16] (pc o1 pn)
noncomputable abbrev aak:=cy Tryz.f55
theorem EY (N x y r) (h:sX N x y=some r):Sd 55 [(.agg (ag x)),(.agg (ag y))] [] 0 (.agg (ag r)) []:=by
 unfold sX at h
 refine gX (fu:=Tryz.f55) (c:=aak 1) (nt:=9) (fun hm=>rfl) ?_
 intro E hE
 refine ah hE 1 [] [] (kp [2,3,4]) (kq [0,16,32]) 48 pn ?_
 obtain ⟨JN,hr,h⟩:=bq h
 obtain ⟨a9,eW,h⟩:=bq h
 refine ah hE 1 [(2,oT (.agg (ag JN))),(3,oT (.agg (ag a9)))] [] (kp [4]) (kq [32]) 128 (pc o1 (pc o1 (pc (EX _ _ _ hr) (pc (xU _ _ _ _ eW) (pc o1 pn))))) ?_
 obtain rfl:=dj h
 exact dw hE 0 Tryz.f55 [] (kp [4]) [(16,.ai 32)] 128 pn [16] (pc o1 pn)
noncomputable abbrev aal:=cy Tryz.f88
theorem H3 (N a r) (h:xk N a=some r):Sd 88 [(.agg (iv a))] [] 0 (aI r) []:=by
 unfold xk at h
 refine gX (fu:=Tryz.f88) (c:=aal 1) (nt:=10) (fun hm=>rfl) ?_
 intro E hE
 refine ah hE 1 [] [] (kp [1]) (kq [0]) 32 pn ?_
 obtain ⟨mT,hr,h⟩:=bq h
 refine ah hE 2 [(2,oT (aK cI 0 mT))] [] (kp [1,7]) (kq [0]) 112 (pc o1 (pc (jR _ _ _ hr) pn)) ?_
 refine dK 0 7 h (fun dQ h=>?_) (fun dQ h=>?_)
 ·refine ah hE 1 [] [] (kp [2]) [] 128 pn ?_
  obtain rfl:=dj h
  exact dw hE 0 Tryz.f88 [] (kp [2]) [] 128 pn [] pn
 ·refine ah hE 3 [] [] (kp [9]) [] 144 (pc o1 pn) ?_
  refine dK 0 9 h (fun iZ h=>?_) (fun iZ h=>?_)
  ·refine ah hE 1 [] [] (kp [2]) [] 160 pn ?_
   obtain rfl:=dj h
   exact dw hE 0 Tryz.f88 [] (kp [2]) [] 160 pn [] pn
  ·refine ah hE 2 [] [] (kp [2]) [] 160 pn ?_
   obtain rfl:=dj h
   exact dw hE 0 Tryz.f88 [] (kp [2]) [] 160 pn [] pn
noncomputable abbrev aam:=cy Tryz.f44
theorem DH (N x r) (h:qT N x=some r):Sd 44 [(.agg (ag x))] [] 0 (aI r) []:=by
 unfold qT at h
 refine gX (fu:=Tryz.f44) (c:=aam 1) (nt:=7) (fun hm=>rfl) ?_
 intro E hE
 refine ah hE 1 [] [] (kp [1]) (kq [0]) 32 pn ?_
 obtain ⟨gL,hr,h⟩:=bq h
 obtain ⟨R8,eW,h⟩:=bq h
 refine ah hE 1 [(1,oT (.agg (ag gL))),(3,oT (aI R8))] [] (kp [2]) [] 112 (pc o1 (pc (jU _ _ _ hr) (pc (H3 _ _ _ eW) pn))) ?_
 obtain rfl:=dj h
 exact dw hE 0 Tryz.f44 [] (kp [2]) [] 112 pn [] pn
noncomputable abbrev adQ:=cy Tryz.f22
theorem xV (N x y r) (h:nX N x y=some r):Sd 22 [(.agg (ag x)),(.agg (ag y))] [] 0 (aI r) []:=by
 unfold nX at h
 refine gX (fu:=Tryz.f22) (c:=adQ 1) (nt:=9) (fun hm=>rfl) ?_
 intro E hE
 refine ah hE 1 [] [] (kp [2,3]) (kq [0,16]) 48 pn ?_
 obtain ⟨dc,hr,h⟩:=bq h
 obtain ⟨Gj,eW,h⟩:=bq h
 refine ah hE 1 [(2,oT (.agg (ag dc))),(3,oT (aI Gj))] [] (kp [4]) [] 128 (pc o1 (pc o1 (pc (EY _ _ _ _ hr) (pc (DH _ _ _ eW) pn)))) ?_
 obtain rfl:=dj h
 exact dw hE 0 Tryz.f22 [] (kp [4]) [] 128 pn [] pn
noncomputable abbrev OC:=cy Tryz.f20
def A9 (N:Nat) (a:List aa) (b:List aa) (K:aa→Int→Option (aa)):Prop:=∀ (out:aa) (i:Int) (r:aa),K out i=some r→∀ E,aQ E 0→aw Tryz.prog E 20 32 (aY E [] (.agg (ag r))) [.code (OC 116),.inLoop (OC 116),.inBlock 0,.code (OC 15)] ⟨[(0,(aK ag aa.d a)),(1,(aK ag aa.d b)),(4,(.op 0 0 0)),(5,(.op 1 0 0)),(6,(aI i))],[(0,vO 4 [(aB false),.nil,(aB false),.nil]),(1,vO 4 (ag out))],2⟩
theorem Ak (N a b fuel):A9 N a b (gl N a b fuel):=by
 induction fuel with
 | zero=>intro _ _ r h;rw [gl.eq_1] at h;cases h
 | succ fuel ih =>
  intro out i r h E hE
  rw [gl.eq_2] at h
  refine ah hE 2 [] [] (kp [0,1,4,5,6,17]) (kq [0,1]) 162 (pc (fun hg:(decide (i < ((a.length:Nat):Int)))=true=>(pc hg pn)) (pc (fun hg:(decide (i < ((a.length:Nat):Int)))=true=>(pc hg (pc hg pn))) (pc (fun hq:(decide (i < ((a.length:Nat):Int)))=true=>(pc hq pn)) pn))) ?_
  refine dK 0 17 h (fun dQ h=>?_) (fun dQ h=>?_)
  ·obtain ⟨c,h⟩:=ab h
   obtain ⟨c2,h⟩:=ab h
   obtain ⟨cb,eW,h⟩:=bq h
   obtain ⟨a9,lL,h⟩:=bq h
   refine ah hE 3 [(9,oT (.agg (ag cb))),(10,oT (.agg (ag a9)))] [] (kp [0,1,4,5,6]) (kq [0,1]) 354 (pc o1 (pc c (pc c2 (pc (EV _ _ _ _ eW) (pc (xU _ _ _ _ lL) (pc o1 pn)))))) ?_
   refine ah hE 1 [] [] (kp [0,1,4,5,6]) (kq [0,1]) 402 pn ?_
   exact dh hE 1 [] (kp [0,1,4,5,6]) (kq [0,1]) 2 pn (ih _ _ _ h E hE)
  ·refine ah hE 2 [] [] (kp [4]) (kq [0]) 194 (pc o1 (pc o1 pn)) ?_
   obtain rfl:=dj h
   exact dw hE 0 Tryz.f20 [] (kp [4]) [(16,.ai 0)] 194 pn [16] (pc o1 pn)
theorem wE (N a b r) (h:ox N a b=some r):Sd 20 [(aK ag aa.d a),(aK ag aa.d b)] [] 0 (.agg (ag r)) []:=by
 unfold ox at h
 refine gX (fu:=Tryz.f20) (c:=OC 1) (nt:=32) (fun hm=>rfl) ?_
 intro E hE
 refine ah hE 1 [] [] (kp [0,1,4]) (kq [0]) 16 pn ?_
 obtain ⟨rQ,hr,h⟩:=bq h
 refine ah hE 1 [(0,oT (.agg (ag rQ)))] [] (kp [0,1,4,5]) (kq [0,32]) 64 (pc (Nq _ _ _ hr) (pc o1 pn)) ?_
 refine ah hE 2 [] [] (kp [0,1,4,5,6]) (kq [0,32]) 80 pn ?_
 exact dh hE 2 [] (kp [0,1,4,5,6]) (kq [0] ++ [(1,.ai 32)]) 2 pn (Ak N _ _ N _ _ _ h E hE)
end Go.Den
