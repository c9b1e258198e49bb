/- Each function of the program does what its Lean function computes (part 2). No conditions. -/
import Derived.Test.YtlgddcmiekcdiaaGreatBerthWorstSa
import Derived.Test.YtlgddcmiekcdiaaGreatProg
set_option linter.unusedVariables false
set_option maxRecDepth 100000
namespace Go.Den
open Go.Ab Go.Proofs Go.Ab.aE
noncomputable abbrev R6:=b8 Tryz.f76
def rP (N:Nat) (s:List aa) (K:Int→Option (Int)):Prop:=∀ (x:Int) (r:Int),K x=some r→∀ E,bh E 0→aE Tryz.prog E 76 19 (aW E [] (aI r)) [.code (R6 52),.inLoop (R6 52),.inBlock 0,.code (R6 7)] ⟨[(0,(aH ak aa.d s)),(1,(.fn (.func 77) [] [])),(7,(aI ((s.length:Nat):Int))),(8,(aI x))],[],0⟩
theorem q9 (N s fuel):rP N s (cd N s fuel):=by
 induction fuel with
 | zero=>intro _ r h;rw [cd.eq_1] at h;cases h
 | succ fuel ih =>
  intro x r h E hE
  rw [cd.eq_2] at h
  refine ae hE 1 [] [] (kp [0,1,7,8,9]) [] 16 pn ?_
  refine dr 1 9 h (fun ee h=>?_) (fun ee h=>?_)
  ·refine ae hE 4 [] [] (kp [0,1,5,7,8]) [] 48 pn ?_
   obtain ⟨c,h⟩:=ab h
   obtain ⟨EZ,hr,h⟩:=aP h
   refine ae hE 1 [(5,oT (aB EZ))] [] (kp [0,1,5,7,8,16]) [] 144 (pc c (pc (uS _ _ _ hr) pn)) ?_
   refine dr 0 16 h (fun jq h=>?_) (fun jq h=>?_)
   ·refine ae hE 1 [] [] (kp [4]) [] 176 pn ?_
    obtain rfl:=cT h
    exact cZ hE 0 Tryz.f76 [] (kp [4]) [] 176 pn [] pn
   ·refine ae hE 2 [] [] (kp [0,1,7,8]) [] 176 pn ?_
    exact cP hE 1 [] (kp [0,1,7,8]) [] 0 pn (ih _ _ h E hE)
  ·refine ae hE 2 [] [] (kp [4]) [] 32 pn ?_
   obtain rfl:=cT h
   exact cZ hE 0 Tryz.f76 [] (kp [4]) [] 48 pn [] pn
theorem tl (N s r) (h:jA N s=some r):Sd 76 [(aH ak aa.d s),(.fn (.func 77) [] [])] [] 0 (aI r) []:=by
 unfold jA at h
 refine g8 (fu:=Tryz.f76) (c:=R6 1) (nt:=19) (fun hm=>rfl) ?_
 intro E hE
 refine ae hE 1 [] [] (kp [0,1]) [] 16 pn ?_
 refine ae hE 2 [] [] (kp [0,1,7,8]) [] 64 pn ?_
 exact cP hE 2 [] (kp [0,1,7,8]) [] 0 pn (q9 N _ N _ _ h E hE)
noncomputable abbrev Zj:=b8 Tryz.f78
theorem sQ (N i j C0 r) (h:ji N i j C0=some r):Sd 78 [(.os 0 0 C0.length),(aI i),(aI j)] [(0,aO 1 cI 0 C0)] 1 (.os 0 0 r.2.length) [(0,aO 1 cI 0 r.2)]:=by
 unfold ji at h
 refine g8 (fu:=Tryz.f78) (c:=Zj 1) (nt:=33) (fun hm=>absurd hm (by decide)) ?_
 intro E hE
 refine ae hE 1 [] [] (kp [0,1,2]) (kq [0]) 17 pn ?_
 obtain ⟨c,h⟩:=ab h
 refine ae hE 1 [(5,oF (.mn))] [] (kp [0,1,2]) (kq [0]) 113 (pc c pn) ?_
 refine ae hE 2 [] [] (kp [0,1,2,16]) (kq [0]) 161 pn ?_
 refine dr 0 16 h (fun ee h=>?_) (fun ee h=>?_)
 ·refine ae hE 1 [] [] (kp [6]) (kq [0]) 193 pn ?_
  obtain rfl:=cT h
  exact cZ hE 0 Tryz.f78 [] (kp [6]) (kq [0]) 193 pn [] pn
 ·refine ae hE 2 [] [] (kp [0,1,2,7]) (kq [0]) 209 pn ?_
  obtain ⟨c2,h⟩:=ab h
  obtain ⟨c3,h⟩:=ab h
  obtain ⟨c4,h⟩:=ab h
  obtain ⟨c5,h⟩:=ab h
  obtain ⟨c6,h⟩:=ab h
  obtain ⟨c7,h⟩:=ab h
  refine ae hE 1 [(6,oF (.mn))] [] (kp [0,7]) [(0,.arr 0 ((kE C0 ((i).toNat) ((j).toNat)).length) (fun zi=>cI ((kE C0 ((i).toNat) ((j).toNat)).getD zi 0)))] 337 (pc c2 (pc c3 (pc c4 (pc c5 (pc (show 0 < C0.length∧((i).toNat - 0)+(C0.length - (j).toNat)≤C0.length by have h1:=c6;have h2:=c7;omega) (pc (show (j).toNat+(C0.length - (j).toNat)≤C0.length by have h1:=c6;omega) (pc (show ∀ zi,zi < C0.length→AV.iy (cI (C0.getD zi 0))=true from (fun _ _=>rfl)) (pc (show C0.length=(kE C0 ((i).toNat) ((j).toNat)).length from (DS c6)) (pc (show ∀ zi,zi < (kE C0 ((i).toNat) ((j).toNat)).length→(fun zi=>cI ((kE C0 ((i).toNat) ((j).toNat)).getD zi 0)) zi=((fun zm=>if zm < ((i).toNat - 0) then cI (C0.getD zm 0) else if zm < ((i).toNat - 0)+(C0.length - (j).toNat) then cI (C0.getD (bu (j).toNat (zm - ((i).toNat - 0))) 0) else cI (C0.getD zm 0))) zi from (fun zq g9=>Ma cI 0 C0 ((i).toNat) ((j).toNat) c6 zq g9)) pn))))))))) ?_
  obtain ⟨c8,h⟩:=ab h
  obtain ⟨c9,h⟩:=ab h
  refine ae hE 1 [(4,oF (.mn)),(5,oF (.mn))] [] [(0,.kD (((kE C0 ((i).toNat) ((j).toNat)).take (((i).toNat - 0)+(C0.length - (j).toNat))).length))] [(0,.arr 0 (((kE C0 ((i).toNat) ((j).toNat)).take (((i).toNat - 0)+(C0.length - (j).toNat))).length) (fun zi=>cI (((kE C0 ((i).toNat) ((j).toNat)).take (((i).toNat - 0)+(C0.length - (j).toNat))).getD zi 0)))] 433 (pc c8 (pc (show 0≤(((((i).toNat - 0)+(C0.length - (j).toNat)):Nat):Int) from (Int.natCast_nonneg _)) (pc (show 0≤((C0.length:Nat):Int) from (Int.natCast_nonneg _)) (pc c9 (pc (show (((i).toNat - 0)+(C0.length - (j).toNat))=((kE C0 ((i).toNat) ((j).toNat)).take (((i).toNat - 0)+(C0.length - (j).toNat))).length from (HZ c9)) (pc (show (((i).toNat - 0)+(C0.length - (j).toNat))=((kE C0 ((i).toNat) ((j).toNat)).take (((i).toNat - 0)+(C0.length - (j).toNat))).length from (HZ c9)) (pc (show ∀ zi,zi < ((kE C0 ((i).toNat) ((j).toNat)).take (((i).toNat - 0)+(C0.length - (j).toNat))).length→(fun zi=>cI (((kE C0 ((i).toNat) ((j).toNat)).take (((i).toNat - 0)+(C0.length - (j).toNat))).getD zi 0)) zi=(fun zi=>cI ((kE C0 ((i).toNat) ((j).toNat)).getD zi 0)) zi from (fun zq g9=>Pz cI 0 (kE C0 ((i).toNat) ((j).toNat)) (((i).toNat - 0)+(C0.length - (j).toNat)) zq g9)) pn))))))) ?_
  refine ae hE 1 [] [] (kp [6]) (kq [0]) 465 pn ?_
  obtain rfl:=cT h
  exact cZ hE 0 Tryz.f78 [] (kp [6]) (kq [0]) 465 pn [] pn
noncomputable abbrev Zk:=b8 Tryz.f79
theorem vU (N i j C0 r) (h:lj N i j C0=some r):Sd 79 [(.os 0 0 C0.length),(aI i),(aI j)] [(0,aO 4 ak aa.d C0)] 1 (.os 0 0 r.2.length) [(0,aO 4 ak aa.d r.2)]:=by
 unfold lj at h
 refine g8 (fu:=Tryz.f79) (c:=Zk 1) (nt:=33) (fun hm=>absurd hm (by decide)) ?_
 intro E hE
 refine ae hE 1 [] [] (kp [0,1,2]) (kq [0]) 17 pn ?_
 obtain ⟨c,h⟩:=ab h
 refine ae hE 1 [(5,oF (.mn))] [] (kp [0,1,2]) (kq [0]) 113 (pc c pn) ?_
 refine ae hE 2 [] [] (kp [0,1,2,16]) (kq [0]) 161 pn ?_
 refine dr 0 16 h (fun ee h=>?_) (fun ee h=>?_)
 ·refine ae hE 1 [] [] (kp [6]) (kq [0]) 193 pn ?_
  obtain rfl:=cT h
  exact cZ hE 0 Tryz.f79 [] (kp [6]) (kq [0]) 193 pn [] pn
 ·refine ae hE 2 [] [] (kp [0,1,2,7]) (kq [0]) 209 pn ?_
  obtain ⟨c2,h⟩:=ab h
  obtain ⟨c3,h⟩:=ab h
  obtain ⟨c4,h⟩:=ab h
  obtain ⟨c5,h⟩:=ab h
  obtain ⟨c6,h⟩:=ab h
  obtain ⟨c7,h⟩:=ab h
  refine ae hE 1 [(6,oF (.mn))] [] (kp [0,7]) [(0,.arr 0 ((kE C0 ((i).toNat) ((j).toNat)).length) (fun zi=>ak ((kE C0 ((i).toNat) ((j).toNat)).getD zi aa.d)))] 337 (pc c2 (pc c3 (pc c4 (pc c5 (pc (show 0 < C0.length∧((i).toNat - 0)+(C0.length - (j).toNat)≤C0.length by have h1:=c6;have h2:=c7;omega) (pc (show (j).toNat+(C0.length - (j).toNat)≤C0.length by have h1:=c6;omega) (pc (show ∀ zi,zi < C0.length→AV.iy (ak (C0.getD zi aa.d))=true from (fun _ _=>rfl)) (pc (show C0.length=(kE C0 ((i).toNat) ((j).toNat)).length from (DS c6)) (pc (show ∀ zi,zi < (kE C0 ((i).toNat) ((j).toNat)).length→(fun zi=>ak ((kE C0 ((i).toNat) ((j).toNat)).getD zi aa.d)) zi=((fun zm=>if zm < ((i).toNat - 0) then ak (C0.getD zm aa.d) else if zm < ((i).toNat - 0)+(C0.length - (j).toNat) then ak (C0.getD (bu (j).toNat (zm - ((i).toNat - 0))) aa.d) else ak (C0.getD zm aa.d))) zi from (fun zq g9=>Ma ak aa.d C0 ((i).toNat) ((j).toNat) c6 zq g9)) pn))))))))) ?_
  obtain ⟨c8,h⟩:=ab h
  obtain ⟨c9,h⟩:=ab h
  refine ae hE 1 [(4,oF (.mn)),(5,oF (.mn))] [] [(0,.kD (((kE C0 ((i).toNat) ((j).toNat)).take (((i).toNat - 0)+(C0.length - (j).toNat))).length))] [(0,.arr 0 (((kE C0 ((i).toNat) ((j).toNat)).take (((i).toNat - 0)+(C0.length - (j).toNat))).length) (fun zi=>ak (((kE C0 ((i).toNat) ((j).toNat)).take (((i).toNat - 0)+(C0.length - (j).toNat))).getD zi aa.d)))] 433 (pc c8 (pc (show 0≤(((((i).toNat - 0)+(C0.length - (j).toNat)):Nat):Int) from (Int.natCast_nonneg _)) (pc (show 0≤((C0.length:Nat):Int) from (Int.natCast_nonneg _)) (pc c9 (pc (show (((i).toNat - 0)+(C0.length - (j).toNat))=((kE C0 ((i).toNat) ((j).toNat)).take (((i).toNat - 0)+(C0.length - (j).toNat))).length from (HZ c9)) (pc (show (((i).toNat - 0)+(C0.length - (j).toNat))=((kE C0 ((i).toNat) ((j).toNat)).take (((i).toNat - 0)+(C0.length - (j).toNat))).length from (HZ c9)) (pc (show ∀ zi,zi < ((kE C0 ((i).toNat) ((j).toNat)).take (((i).toNat - 0)+(C0.length - (j).toNat))).length→(fun zi=>ak (((kE C0 ((i).toNat) ((j).toNat)).take (((i).toNat - 0)+(C0.length - (j).toNat))).getD zi aa.d)) zi=(fun zi=>ak ((kE C0 ((i).toNat) ((j).toNat)).getD zi aa.d)) zi from (fun zq g9=>Pz ak aa.d (kE C0 ((i).toNat) ((j).toNat)) (((i).toNat - 0)+(C0.length - (j).toNat)) zq g9)) pn))))))) ?_
  refine ae hE 1 [] [] (kp [6]) (kq [0]) 465 pn ?_
  obtain rfl:=cT h
  exact cZ hE 0 Tryz.f79 [] (kp [6]) (kq [0]) 465 pn [] pn
noncomputable abbrev wV:=b8 Tryz.f34
def oV (N:Nat) (C0:Int) (bq:Int) (b7:Bool) (df:List Int) (dk:Bool) (dm:List Int) (dd:Int) (C1:List Int) (C2:List Int) (C3:List (List aa)) (C4:List aa) (C5:List aa) (K:Int→Int→Option (Bool×ly×(List Int)×(List Int)×(List (List aa))×(List aa))):Prop:=∀ (low:Int) (x:Int) (r:Bool×ly×(List Int)×(List Int)×(List (List aa))×(List aa)),K low x=some r→∀ E,bh E 6→aE Tryz.prog E 34 177 (aW E [(0,vN 12 [(aI r.2.1.wN),(aI r.2.1.wO),(.os 1 0 r.2.2.1.length),(.os 2 0 r.2.2.2.1.length),(.os 3 0 r.2.2.2.2.1.length),(.os 4 0 r.2.2.2.2.2.length),(.os 6 0 r.2.1.eK.length),(aB r.2.1.aj.fN.fG),(eU r.2.1.aj.fN.fL),(aB r.2.1.aj.fD.fG),(eU r.2.1.aj.fD.fL),(aI r.2.1.cg)]),(1,aO 1 cI 0 r.2.2.1),(2,aO 1 cI 0 r.2.2.2.1),(3,aM 4 ak aa.d r.2.2.2.2.1),(4,aO 4 ak aa.d r.2.2.2.2.2),(6,aO 4 ak aa.d r.2.1.eK)] (aB r.1)) [.code (wV 116),.inLoop (wV 116),.inBlock 0,.code (wV 15)] ⟨[(0,(.op 0 0 0)),(3,(aI low)),(15,(aI ((C4.length:Nat):Int))),(16,(aI x))],[(0,vN 12 [(aI C0),(aI bq),(.os 1 0 C1.length),(.os 2 0 C2.length),(.os 3 0 C3.length),(.os 4 0 C4.length),(.os 6 0 C5.length),(aB b7),(eU df),(aB dk),(eU dm),(aI dd)]),(1,aO 1 cI 0 C1),(2,aO 1 cI 0 C2),(3,aM 4 ak aa.d C3),(4,aO 4 ak aa.d C4),(6,aO 4 ak aa.d C5)],7⟩
def uT (N:Nat) (C0:Int) (bq:Int) (b7:Bool) (df:List Int) (dk:Bool) (dm:List Int) (dd:Int) (C1:List Int) (C2:List Int) (C3:List (List aa)) (C4:List aa) (C5:List aa) (x:Int) (K:Int→Option (Bool×ly×(List Int)×(List Int)×(List (List aa))×(List aa))):Prop:=∀ (PJ:Int) (r:Bool×ly×(List Int)×(List Int)×(List (List aa))×(List aa)),K PJ=some r→∀ E,bh E 6→aE Tryz.prog E 34 177 (aW E [(0,vN 12 [(aI r.2.1.wN),(aI r.2.1.wO),(.os 1 0 r.2.2.1.length),(.os 2 0 r.2.2.2.1.length),(.os 3 0 r.2.2.2.2.1.length),(.os 4 0 r.2.2.2.2.2.length),(.os 6 0 r.2.1.eK.length),(aB r.2.1.aj.fN.fG),(eU r.2.1.aj.fN.fL),(aB r.2.1.aj.fD.fG),(eU r.2.1.aj.fD.fL),(aI r.2.1.cg)]),(1,aO 1 cI 0 r.2.2.1),(2,aO 1 cI 0 r.2.2.2.1),(3,aM 4 ak aa.d r.2.2.2.2.1),(4,aO 4 ak aa.d r.2.2.2.2.2),(6,aO 4 ak aa.d r.2.1.eK)] (aB r.1)) [.code (wV 935),.inLoop (wV 116),.inBlock 0,.code (wV 15)] ⟨[(0,(.op 0 0 0)),(3,(aI PJ)),(15,(aI ((C4.length:Nat):Int))),(16,(aI x))],[(0,vN 12 [(aI C0),(aI bq),(.os 1 0 C1.length),(.os 2 0 C2.length),(.os 3 0 C3.length),(.os 4 0 C4.length),(.os 6 0 C5.length),(aB b7),(eU df),(aB dk),(eU dm),(aI dd)]),(1,aO 1 cI 0 C1),(2,aO 1 cI 0 C2),(3,aM 4 ak aa.d C3),(4,aO 4 ak aa.d C4),(6,aO 4 ak aa.d C5)],7⟩
theorem nW (N:Nat) (C0:Int) (bq:Int) (b7:Bool) (df:List Int) (dk:Bool) (dm:List Int) (dd:Int) (C1:List Int) (C2:List Int) (C3:List (List aa)) (C4:List aa) (C5:List aa) (x:Int) (jj:Int→Int→Option (Bool×ly×(List Int)×(List Int)×(List (List aa))×(List aa))) (uc:oV N C0 bq b7 df dk dm dd C1 C2 C3 C4 C5 jj):uT N C0 bq b7 df dk dm dd C1 C2 C3 C4 C5 x (iu N C0 bq b7 df dk dm dd C1 C2 C3 C4 C5 x jj):=by
 intro PJ r h E hE
 unfold iu at h
 refine ae hE 0 [] [] (kp [0,3,15,16]) (kq [0,1,2,3,4,6]) 39 pn ?_
 exact cP hE 1 [] (kp [0,3,15,16]) (kq [0,1,2,3,4,6]) 7 pn (uc _ _ _ h E hE)
def uU (N:Nat) (K:Int→Int→(List Int)→(List Int)→(List (List aa))→(List aa)→(List aa)→Bool→(List Int)→Bool→(List Int)→Int→Option (Bool×ly×(List Int)×(List Int)×(List (List aa))×(List aa))):Prop:=∀ (bV:Int) (nQ:Int) (lf:List Int) (po:List Int) (gp:List (List aa)) (pU:List aa) (pV:List aa) (td:Bool) (tf:List Int) (yV:Bool) (yW:List Int) (xD:Int) (r:Bool×ly×(List Int)×(List Int)×(List (List aa))×(List aa)),K bV nQ lf po gp pU pV td tf yV yW xD=some r→∀ E,bh E 6→aE Tryz.prog E 34 177 (aW E [(0,vN 12 [(aI r.2.1.wN),(aI r.2.1.wO),(.os 1 0 r.2.2.1.length),(.os 2 0 r.2.2.2.1.length),(.os 3 0 r.2.2.2.2.1.length),(.os 4 0 r.2.2.2.2.2.length),(.os 6 0 r.2.1.eK.length),(aB r.2.1.aj.fN.fG),(eU r.2.1.aj.fN.fL),(aB r.2.1.aj.fD.fG),(eU r.2.1.aj.fD.fL),(aI r.2.1.cg)]),(1,aO 1 cI 0 r.2.2.1),(2,aO 1 cI 0 r.2.2.2.1),(3,aM 4 ak aa.d r.2.2.2.2.1),(4,aO 4 ak aa.d r.2.2.2.2.2),(6,aO 4 ak aa.d r.2.1.eK)] (aB r.1)) [.code (wV 252),.code (wV 253),.code (wV 127)] ⟨[(0,(.op 0 0 0))],[(0,vN 12 [(aI bV),(aI nQ),(.os 1 0 lf.length),(.os 2 0 po.length),(.os 3 0 gp.length),(.os 4 0 pU.length),(.os 6 0 pV.length),(aB td),(eU tf),(aB yV),(eU yW),(aI xD)]),(1,aO 1 cI 0 lf),(2,aO 1 cI 0 po),(3,aM 4 ak aa.d gp),(4,aO 4 ak aa.d pU),(6,aO 4 ak aa.d pV)],7⟩
def uV (N:Nat) (K:Int→Int→(List Int)→(List Int)→(List (List aa))→(List aa)→(List aa)→Bool→(List Int)→Bool→(List Int)→Int→Option (Bool×ly×(List Int)×(List Int)×(List (List aa))×(List aa))):Prop:=∀ (tS:Int) (tT:Int) (qX:List Int) (JB:List Int) (zT:List (List aa)) (qY:List aa) (AR:List aa) (uH:Bool) (uI:List Int) (uJ:Bool) (uK:List Int) (tg:Int) (r:Bool×ly×(List Int)×(List Int)×(List (List aa))×(List aa)),K tS tT qX JB zT qY AR uH uI uJ uK tg=some r→∀ E,bh E 6→aE Tryz.prog E 34 177 (aW E [(0,vN 12 [(aI r.2.1.wN),(aI r.2.1.wO),(.os 1 0 r.2.2.1.length),(.os 2 0 r.2.2.2.1.length),(.os 3 0 r.2.2.2.2.1.length),(.os 4 0 r.2.2.2.2.2.length),(.os 6 0 r.2.1.eK.length),(aB r.2.1.aj.fN.fG),(eU r.2.1.aj.fN.fL),(aB r.2.1.aj.fD.fG),(eU r.2.1.aj.fD.fL),(aI r.2.1.cg)]),(1,aO 1 cI 0 r.2.2.1),(2,aO 1 cI 0 r.2.2.2.1),(3,aM 4 ak aa.d r.2.2.2.2.1),(4,aO 4 ak aa.d r.2.2.2.2.2),(6,aO 4 ak aa.d r.2.1.eK)] (aB r.1)) [.code (wV 254),.code (wV 255)] ⟨[(0,(.op 0 0 0))],[(0,vN 12 [(aI tS),(aI tT),(.os 1 0 qX.length),(.os 2 0 JB.length),(.os 3 0 zT.length),(.os 4 0 qY.length),(.os 6 0 AR.length),(aB uH),(eU uI),(aB uJ),(eU uK),(aI tg)]),(1,aO 1 cI 0 qX),(2,aO 1 cI 0 JB),(3,aM 4 ak aa.d zT),(4,aO 4 ak aa.d qY),(6,aO 4 ak aa.d AR)],7⟩
def uW (N:Nat) (tS:Int) (tT:Int) (qX:List Int) (zT:List (List aa)) (qY:List aa) (AR:List aa) (uH:Bool) (uI:List Int) (uJ:Bool) (uK:List Int) (tg:Int) (mv:Int) (cj:(List Int)×(List Int)) (K:(List (List aa))→Int→Option (Bool×ly×(List Int)×(List Int)×(List (List aa))×(List aa))):Prop:=∀ (kR:List (List aa)) (x2:Int) (r:Bool×ly×(List Int)×(List Int)×(List (List aa))×(List aa)),K kR x2=some r→∀ E,bh E 6→aE Tryz.prog E 34 177 (aW E [(0,vN 12 [(aI r.2.1.wN),(aI r.2.1.wO),(.os 1 0 r.2.2.1.length),(.os 2 0 r.2.2.2.1.length),(.os 3 0 r.2.2.2.2.1.length),(.os 4 0 r.2.2.2.2.2.length),(.os 6 0 r.2.1.eK.length),(aB r.2.1.aj.fN.fG),(eU r.2.1.aj.fN.fL),(aB r.2.1.aj.fD.fG),(eU r.2.1.aj.fD.fL),(aI r.2.1.cg)]),(1,aO 1 cI 0 r.2.2.1),(2,aO 1 cI 0 r.2.2.2.1),(3,aM 4 ak aa.d r.2.2.2.2.1),(4,aO 4 ak aa.d r.2.2.2.2.2),(6,aO 4 ak aa.d r.2.1.eK)] (aB r.1)) [.code (wV 8180),.inLoop (wV 8180),.inBlock 2,.code (wV 1023)] ⟨[(0,(.op 0 0 0)),(8,(aI mv)),(126,(aI ((zT.length:Nat):Int))),(127,(aI x2))],[(0,vN 12 [(aI tS),(aI tT),(.os 1 0 qX.length),(.os 2 0 cj.2.length),(.os 3 0 kR.length),(.os 4 0 qY.length),(.os 6 0 AR.length),(aB uH),(eU uI),(aB uJ),(eU uK),(aI tg)]),(1,aO 1 cI 0 qX),(2,aO 1 cI 0 cj.2),(3,aM 4 ak aa.d kR),(4,aO 4 ak aa.d qY),(6,aO 4 ak aa.d AR)],7⟩
def uX (N:Nat) (tS:Int) (tT:Int) (qX:List Int) (qY:List aa) (uH:Bool) (uI:List Int) (uJ:Bool) (uK:List Int) (tg:Int) (cj:(List Int)×(List Int)) (kR:List (List aa)) (K:(List aa)→Int→Option (Bool×ly×(List Int)×(List Int)×(List (List aa))×(List aa))):Prop:=∀ (AQ:List aa) (x3:Int) (r:Bool×ly×(List Int)×(List Int)×(List (List aa))×(List aa)),K AQ x3=some r→∀ E,bh E 6→aE Tryz.prog E 34 177 (aW E [(0,vN 12 [(aI r.2.1.wN),(aI r.2.1.wO),(.os 1 0 r.2.2.1.length),(.os 2 0 r.2.2.2.1.length),(.os 3 0 r.2.2.2.2.1.length),(.os 4 0 r.2.2.2.2.2.length),(.os 6 0 r.2.1.eK.length),(aB r.2.1.aj.fN.fG),(eU r.2.1.aj.fN.fL),(aB r.2.1.aj.fD.fG),(eU r.2.1.aj.fD.fL),(aI r.2.1.cg)]),(1,aO 1 cI 0 r.2.2.1),(2,aO 1 cI 0 r.2.2.2.1),(3,aM 4 ak aa.d r.2.2.2.2.1),(4,aO 4 ak aa.d r.2.2.2.2.2),(6,aO 4 ak aa.d r.2.1.eK)] (aB r.1)) [.code (wV 32756),.inLoop (wV 32756),.inBlock 4,.code (wV 4095)] ⟨[(0,(.op 0 0 0)),(161,(aI (((List.replicate cj.2.length aa.d:List aa).length:Nat):Int))),(162,(aI x3))],[(0,vN 12 [(aI tS),(aI tT),(.os 1 0 qX.length),(.os 2 0 cj.2.length),(.os 3 0 kR.length),(.os 4 0 qY.length),(.os 6 0 AQ.length),(aB uH),(eU uI),(aB uJ),(eU uK),(aI tg)]),(1,aO 1 cI 0 qX),(2,aO 1 cI 0 cj.2),(3,aM 4 ak aa.d kR),(4,aO 4 ak aa.d qY),(6,aO 4 ak aa.d AQ)],7⟩
theorem ud (N tS tT qX qY uH uI uJ uK tg cj kR fuel):uX N tS tT qX qY uH uI uJ uK tg cj kR (dJ N tS tT qX qY uH uI uJ uK tg cj kR fuel):=by
 induction fuel with
 | zero=>intro _ _ r h;rw [dJ.eq_1] at h;cases h
 | succ fuel ih =>
  intro AQ x3 r h E hE
  rw [dJ.eq_2] at h
  refine ae hE 1 [] [] (kp [0,161,162,163]) (kq [0,1,2,3,4,6]) 23 pn ?_
  refine dr 1 163 h (fun Wn h=>?_) (fun Wn h=>?_)
  ·refine ae hE 4 [] [] (kp [0,10,161,162]) (kq [0,1,2,3,4,6]) 55 pn ?_
   obtain ⟨ln,Ib,h⟩:=aP h
   obtain ⟨UD,h⟩:=ab h
   refine ae hE 0 [(5,oT (.agg (ak ln)))] [] (kp [0,161,162]) ([(0,.var 0 [.ah,.ah,.ah,.ah,.ah,.ah,.kD ((AQ.set ((x3).toNat) ln).length),.ah,.ah,.ah,.ah,.ah])] ++ kq [1,2,3,4] ++ [(6,.arr 6 ((AQ.set ((x3).toNat) ln).length) (fun zi=>ak ((AQ.set ((x3).toNat) ln).getD zi aa.d)))]) 183 (pc o1 (pc (gH _ _ _ Ib) (pc UD (pc (dR UD) (pc (aD AQ ((x3).toNat) ln) (pc (aD AQ ((x3).toNat) ln) (pc (cH ak aa.d AQ ((x3).toNat) ln) pn))))))) ?_
   refine ae hE 1 [] [] (kp [0,161,162]) (kq [0,1,2,3,4,6]) 215 pn ?_
   exact cP hE 1 [] (kp [0,161,162]) (kq [0,1,2,3,4,6]) 7 pn (ih _ _ _ h E hE)
  ·obtain ⟨bM,K8,h⟩:=aP h
   refine ae hE 2 [(1,oT (.agg (ak bM)))] [] [] (kq [0,1,2,3,4,6]) 103 (pc (gH _ _ _ K8) (pc o1 pn)) ?_
   refine ae hE 1 [] [] (kp [2]) (kq [0,1,2,3,4,6]) 119 pn ?_
   obtain rfl:=cT h
   exact cZ hE 0 Tryz.f34 [] (kp [2]) (kq [0,1,2,3,4,6]) 119 pn [] pn
theorem ue (N tS tT qX zT qY AR uH uI uJ uK tg mv cj fuel):uW N tS tT qX zT qY AR uH uI uJ uK tg mv cj (dK N tS tT qX zT qY AR uH uI uJ uK tg mv cj fuel):=by
 induction fuel with
 | zero=>intro _ _ r h;rw [dK.eq_1] at h;cases h
 | succ fuel ih =>
  intro kR x2 r h E hE
  rw [dK.eq_2] at h
  refine ae hE 1 [] [] (kp [0,8,126,127,128]) (kq [0,1,2,3,4,6]) 23 pn ?_
  refine dr 1 128 h (fun PO h=>?_) (fun PO h=>?_)
  ·refine ae hE 4 [] [] (kp [0,8,9,126,127]) (kq [0,1,2,3,4,6]) 55 pn ?_
   obtain ⟨Vq,h⟩:=ab h
   refine RO 3 ((x2).toNat) 4 ((kR.getD ((x2).toNat) []).length) (fun zi=>ak ((kR.getD ((x2).toNat) []).getD zi aa.d)) (pc Vq (pc (show aQ [] (mG kR) ((x2).toNat)=mR 4 ak aa.d (kR.getD ((x2).toNat) []) from rfl) pn)) ?_
   obtain ⟨Vr,h⟩:=ab h
   obtain ⟨pB,Ia,h⟩:=aP h
   refine ae hE 0 [(11,oF (.os 55 0 ((kR.getD ((x2).toNat) []).length))),(15,⟨[55],false,(.os 0 0 pB.2.length),[(0,aO 4 ak aa.d pB.2)],0,false,none⟩)] [] (kp [0,8,126,127]) (kq [0,1,2] ++ [(3,.pT 3 (kR.length) [((x2).toNat,55,pB.2.length)] (mG kR))] ++ kq [4,6,55]) 359 (pc o1 (pc o1 (pc Vr (pc (dR Vr) (pc (show (aQ [((x2).toNat,55,(kR.getD ((x2).toNat) []).length)] (mG kR) ((x2).toNat))[0]?=some (.os 55 0 ((kR.getD ((x2).toNat) []).length)) from (gO rfl)) (pc (vU _ _ _ _ _ Ia) (pc Vr (pc (dR Vr) (pc (Eq.refl kR.length) (pc (show ∀ zm,zm < kR.length→aQ [((x2).toNat,55,pB.2.length)] (mG kR) zm=if zm=(x2).toNat then [.os 55 0 pB.2.length] else aQ [((x2).toNat,55,(kR.getD ((x2).toNat) []).length)] (mG kR) zm from (RR _ _ _ _ _ rfl)) (pc (iM kR) pn))))))))))) ?_
   refine Px 3 55 ((x2).toNat) (pc Vq (pc (show aQ [((x2).toNat,55,pB.2.length)] (mG kR) ((x2).toNat)=[.os 55 0 pB.2.length] from if_pos rfl) (pc (show ∀ zj,zj < pB.2.length→nB (ak (pB.2.getD zj aa.d))=true from fun _ _=>rfl) pn))) ?_
   refine Pw hE [] (kp [0,8,126,127]) ([(0,.var 0 [.ah,.ah,.ah,.ah,.kD ((kR.set ((x2).toNat) pB.2).length),.ah,.ah,.ah,.ah,.ah,.ah,.ah])] ++ kq [1,2] ++ [(3,.pT 3 ((kR.set ((x2).toNat) pB.2).length) [] (mG (kR.set ((x2).toNat) pB.2)))] ++ kq [4,6]) 359 (pc (aD kR ((x2).toNat) pB.2) (pc (aD kR ((x2).toNat) pB.2) (pc (AM (sz:=4) (c:=ak) (d:=aa.d) kR ((x2).toNat) 55 pB.2.length pB.2 [] Vq EN) (pc (iM (kR.set ((x2).toNat) pB.2)) pn)))) ?_
   refine ae hE 1 [] [] (kp [0,8,126,127]) (kq [0,1,2,3,4,6]) 391 pn ?_
   exact cP hE 1 [] (kp [0,8,126,127]) (kq [0,1,2,3,4,6]) 7 pn (ih _ _ _ h E hE)
  ·obtain ⟨Vs,h⟩:=ab h
   refine ae hE 2 [] [] (kp [0]) ([(0,.var 0 [.ah,.ah,.ah,.ah,.ah,.ah,.kD ((List.replicate cj.2.length aa.d:List aa).length),.ah,.ah,.ah,.ah,.ah])] ++ kq [1,2,3,4] ++ [(119,.Po 119 ((List.replicate cj.2.length aa.d:List aa).length) (fun zi=>ak ((List.replicate cj.2.length aa.d:List aa).getD zi aa.d)))]) 183 (pc o1 (pc (show 0≤((cj.2.length:Nat):Int) from Vs.1) (pc (show ((cj.2.length:Nat):Int)≤((cj.2.length:Nat):Int) from (Int.le_refl _)) (pc (show (64:Int) * ((cj.2.length:Nat):Int)≤281474976710656 from Vs.2.1) (pc (show ((cj.2.length:Nat):Int)≤9223372036854775807 from Vs.2.2) (pc o1 (pc (show cj.2.length=(List.replicate cj.2.length aa.d:List aa).length from (dj).symm) (pc (show (List.replicate cj.2.length aa.d:List aa).length≤cj.2.length from (Nat.le_of_eq (Eq.symm ((dj).symm)))) (pc (show ∀ zi,zi < (List.replicate cj.2.length aa.d:List aa).length→IQ ((fun _=>[(aB false),.nil,(aB false),.nil]) zi) ((fun zi=>ak ((List.replicate cj.2.length aa.d:List aa).getD zi aa.d)) zi) from (fun zq g9=>oz ak aa.d aa.d cj.2.length zq ⟨.inl rfl,.inr ⟨rfl,_,rfl⟩,.inl rfl,.inr ⟨rfl,_,rfl⟩,trivial⟩ g9)) pn))))))))) ?_
   refine ae hE 2 [] [] (kp [0,161,162]) (kq [0,1,2,3,4,119]) 279 (pc o1 pn) ?_
   exact cP hE 2 [] (kp [0,161,162]) (kq [0,1,2,3,4] ++ [(6,.ah 119)]) 7 pn (ud N _ _ _ _ _ _ _ _ _ _ _ N _ _ _ h E hE)
theorem nX (N):uV N (iv N):=by
 intro tS tT qX JB zT qY AR uH uI uJ uK tg r h E hE
 unfold iv at h
 obtain ⟨mv,zY,h⟩:=aP h
 refine ae hE 0 [(8,oT (aI mv))] [] (kp [0,8]) (kq [0,1,2,3,4,6]) 167 (pc o1 (pc o1 (pc (im _ _ _ _ zY) (pc (z1 JB.length) pn)))) ?_
 obtain ⟨cj,Cc,h⟩:=aP h
 refine ae hE 1 [(8,⟨[2],false,(.os 0 0 cj.2.length),[(0,aO 1 cI 0 cj.2)],0,false,none⟩)] [] (kp [0,8]) (kq [0,1,2,3,4,6]) 359 (pc o1 (pc (sQ _ _ _ _ _ Cc) (pc o1 pn))) ?_
 refine ae hE 2 [] [] (kp [0,8,126,127]) (kq [0,1,2,3,4,6]) 455 (pc o1 pn) ?_
 exact cP hE 2 [] (kp [0,8,126,127]) (kq [0,1,2,3,4,6]) 7 pn (ue N _ _ _ _ _ _ _ _ _ _ _ _ _ N _ _ _ h E hE)
theorem nY (N):uU N (fC N):=by
 intro bV nQ lf po gp pU pV td tf yV yW xD r h E hE
 unfold fC at h
 obtain ⟨cQ,yX,h⟩:=aP h
 refine ae hE 0 [(8,oT (aI cQ))] [] (kp [0,6]) (kq [0,1,2,3,4,6]) 167 (pc o1 (pc o1 (pc (im _ _ _ _ yX) (pc (z1 lf.length) pn)))) ?_
 refine ae hE 1 [] [] (kp [0,6,89]) (kq [0,1,2,3,4,6]) 199 pn ?_
 refine dr 0 89 h (fun H6 h=>?_) (fun H6 h=>?_)
 ·obtain ⟨R4,h⟩:=ab h
  refine RO 3 ((cQ).toNat) 4 ((gp.getD ((cQ).toNat) []).length) (fun zi=>ak ((gp.getD ((cQ).toNat) []).getD zi aa.d)) (pc R4 (pc (show aQ [] (mG gp) ((cQ).toNat)=mR 4 ak aa.d (gp.getD ((cQ).toNat) []) from rfl) pn)) ?_
  obtain ⟨Nt,h⟩:=ab h
  obtain ⟨Uv,Gh,h⟩:=aP h
  refine ae hE 1 [(6,oF (.os 199 0 ((gp.getD ((cQ).toNat) []).length))),(7,oT (aI Uv))] [] (kp [0,6,7]) (kq [0,1,2] ++ [(3,.pT 3 (gp.length) [((cQ).toNat,199,(gp.getD ((cQ).toNat) []).length)] (mG gp))] ++ kq [4,6,199]) 359 (pc o1 (pc Nt (pc (dR Nt) (pc (show (aQ [((cQ).toNat,199,(gp.getD ((cQ).toNat) []).length)] (mG gp) ((cQ).toNat))[0]?=some (.os 199 0 ((gp.getD ((cQ).toNat) []).length)) from (gO rfl)) (pc (tl _ _ _ Gh) (pc (z1 ((gp.getD ((cQ).toNat) []).length)) (pc (Eq.refl gp.length) (pc (mC gp [((cQ).toNat,199,(gp.getD ((cQ).toNat) []).length)]) (pc (iM gp) pn))))))))) ?_
  refine Px 3 199 ((cQ).toNat) (pc R4 (pc (show aQ [((cQ).toNat,199,(gp.getD ((cQ).toNat) []).length)] (mG gp) ((cQ).toNat)=[.os 199 0 (gp.getD ((cQ).toNat) []).length] from if_pos rfl) (pc (show ∀ zj,zj < (gp.getD ((cQ).toNat) []).length→nB (ak ((gp.getD ((cQ).toNat) []).getD zj aa.d))=true from fun _ _=>rfl) pn))) ?_
  refine Pw hE [] (kp [0,6,7]) (kq [0,1,2] ++ [(3,.pT 3 (gp.length) [] (mG gp))] ++ kq [4,6]) 359 (pc (Eq.refl (gp.length)) (pc (uB (sz:=4) (c:=ak) (d:=aa.d) gp ((cQ).toNat) 199 ((gp.getD ((cQ).toNat) []).length) [] EN) (pc (iM gp) pn))) ?_
  obtain ⟨dz,Gg,h⟩:=aP h
  obtain ⟨UF,h⟩:=ab h
  obtain ⟨Wl,h⟩:=ab h
  obtain ⟨UG,h⟩:=ab h
  obtain ⟨Wm,h⟩:=ab h
  obtain ⟨XC,h⟩:=ab h
  refine ae hE 0 [(3,⟨[0,1,2,3,4,6],false,(.tup []),[(0,vN 12 [(aI dz.1.wN),(aI dz.1.wO),(.os 1 0 dz.2.1.length),(.os 2 0 dz.2.2.1.length),(.os 3 0 dz.2.2.2.1.length),(.os 4 0 dz.2.2.2.2.1.length),(.os 5 0 dz.2.2.2.2.2.length),(aB dz.1.aj.fN.fG),(eU dz.1.aj.fN.fL),(aB dz.1.aj.fD.fG),(eU dz.1.aj.fD.fL),(aI dz.1.cg)]),(1,aO 1 cI 0 dz.2.1),(2,aO 1 cI 0 dz.2.2.1),(3,aM 4 ak aa.d dz.2.2.2.1),(4,aO 4 ak aa.d dz.2.2.2.2.1),(5,aO 4 ak aa.d dz.2.2.2.2.2)],0,false,none⟩)] [] (kp [0]) (kq [0,1,2,3,4,6]) 423 (pc (m6 _ _ _ _ _ _ _ _ _ _ _ _ _ _ _ _ Gg) pn) ?_
  exact cP hE 1 [] (kp [0]) (kq [0,1,2,3,4,6]) 7 pn (nX N _ _ _ _ _ _ _ _ _ _ _ _ _ h E hE)
 ·exact cP hE 2 [] (kp [0]) (kq [0,1,2,3,4,6]) 7 pn (nX N _ _ _ _ _ _ _ _ _ _ _ _ _ h E hE)
theorem uf (N C0 bq b7 df dk dm dd C1 C2 C3 C4 C5 fuel):oV N C0 bq b7 df dk dm dd C1 C2 C3 C4 C5 (bt N C0 bq b7 df dk dm dd C1 C2 C3 C4 C5 fuel):=by
 induction fuel with
 | zero=>intro _ _ r h;rw [bt.eq_1] at h;cases h
 | succ fuel ih =>
  intro low x r h E hE
  rw [bt.eq_2] at h
  refine ae hE 1 [] [] (kp [0,3,15,16,17]) (kq [0,1,2,3,4,6]) 23 pn ?_
  refine dr 1 17 h (fun ee h=>?_) (fun ee h=>?_)
  ·refine ae hE 4 [] [] (kp [0,3,4,15,16]) (kq [0,1,2,3,4,6]) 55 pn ?_
   obtain ⟨c,h⟩:=ab h
   obtain ⟨aJ,hr,h⟩:=aP h
   obtain ⟨c2,h⟩:=ab h
   obtain ⟨c3,h⟩:=ab h
   obtain ⟨pz,eI,h⟩:=aP h
   refine ae hE 1 [(7,oT (aI aJ)),(27,oT (aI pz))] [] (kp [0,3,4,15,16,49]) (kq [0,1,2,3,4,6]) 551 (pc o1 (pc c (pc (dR c) (pc (qm _ _ _ hr) (pc (fun hg:(decide (aJ < 0))=true=>(pc hg pn)) (pc (fun hg:((decide (aJ < 0)) && ((decide (aJ < 0)) && (!(decide (low < 0)))))=true=>(pc hg pn)) (pc (fun hg:((decide (aJ < 0)) && ((decide (aJ < 0)) && (!(decide (low < 0)))))=true=>(pc hg pn)) (pc (fun hg:((decide (aJ < 0)) && ((decide (aJ < 0)) && (!(decide (low < 0)))))=true=>(pc hg (pc o1 pn))) (pc (fun hg:((decide (aJ < 0)) && ((decide (aJ < 0)) && (!(decide (low < 0)))))=true=>(pc hg (pc hg (pc (c2 hg) pn)))) (pc (fun hg:((decide (aJ < 0)) && ((decide (aJ < 0)) && (!(decide (low < 0)))))=true=>(pc hg (pc (dR (c2 hg)) pn))) (pc (fun hg:((decide (aJ < 0)) && ((decide (aJ < 0)) && (!(decide (low < 0)))))=true=>(pc hg pn)) (pc (fun hg:((decide (aJ < 0)) && ((decide (aJ < 0)) && (!(decide (low < 0)))))=true=>(pc hg pn)) (pc (fun hg:((decide (aJ < 0)) && ((decide (aJ < 0)) && (!(decide (low < 0)))))=true=>(pc hg (pc o1 pn))) (pc (fun hg:((decide (aJ < 0)) && ((decide (aJ < 0)) && (!(decide (low < 0)))))=true=>(pc hg (pc hg (pc (c3 hg) pn)))) (pc (fun hg:((decide (aJ < 0)) && ((decide (aJ < 0)) && (!(decide (low < 0)))))=true=>(pc hg (pc (dR (c3 hg)) pn))) (pc (fun hg:((decide (aJ < 0)) && ((decide (aJ < 0)) && (!(decide (low < 0)))))=true=>(pc (zw _ _ _ _ (aL eI hg)) (pc hg (pc hg pn)))) (pc (fun hg:((decide (aJ < 0)) && ((decide (aJ < 0)) && (!(decide (low < 0)))))=true=>(pc hg pn)) (pc (fun hg:(decide (aJ < 0))=true=>(pc hg (pc hg (pc (fun hq:(!(decide (low < 0)))=true=>(pc (show ((decide (aJ < 0)) && ((decide (aJ < 0)) && (!(decide (low < 0)))))=true from (mo hg (mo hg hq))) pn)) pn)))) (pc (fun hq:(decide (aJ < 0))=true=>(pc hq pn)) pn))))))))))))))))))) ?_
   refine dr 0 49 h (fun jq h=>?_) (fun jq h=>?_)
   ·refine ae hE 0 [] [] (kp [0,3,15,16]) (kq [0,1,2,3,4,6]) 583 pn ?_
    exact cP hE 1 [] (kp [0,3,15,16]) (kq [0,1,2,3,4,6]) 7 pn (nW N _ _ _ _ _ _ _ _ _ _ _ _ _ _ ih _ _ h E hE)
   ·exact cP hE 2 [] (kp [0,3,15,16]) (kq [0,1,2,3,4,6]) 7 pn (nW N _ _ _ _ _ _ _ _ _ _ _ _ _ _ ih _ _ h E hE)
  ·refine ae hE 2 [] [] (kp [0,3,5]) (kq [0,1,2,3,4,6]) 135 (pc o1 pn) ?_
   refine ae hE 2 [] [] (kp [0,3,5,59]) (kq [0,1,2,3,4,6]) 167 pn ?_
   refine dr 0 59 h (fun ti h=>?_) (fun ti h=>?_)
   ·obtain ⟨aw,kc,h⟩:=aP h
    obtain ⟨c4,h⟩:=ab h
    refine ae hE 1 [(5,oT (.agg (ak aw)))] [] (kp [0,3,5]) ([(0,.var 0 [.ah,.ah,.ah,.ah,.ah,.ah,.kD ((C5.set ((ag (((C2.length:Nat):Int) - 1)).toNat) aw).length),.ah,.ah,.ah,.ah,.ah])] ++ kq [1,2,3,4] ++ [(6,.arr 6 ((C5.set ((ag (((C2.length:Nat):Int) - 1)).toNat) aw).length) (fun zi=>ak ((C5.set ((ag (((C2.length:Nat):Int) - 1)).toNat) aw).getD zi aa.d)))]) 295 (pc o1 (pc (gH _ _ _ kc) (pc c4 (pc (dR c4) (pc (aD C5 ((ag (((C2.length:Nat):Int) - 1)).toNat) aw) (pc (aD C5 ((ag (((C2.length:Nat):Int) - 1)).toNat) aw) (pc (cH ak aa.d C5 ((ag (((C2.length:Nat):Int) - 1)).toNat) aw) pn))))))) ?_
    obtain ⟨bp,nw,h⟩:=aP h
    obtain ⟨c5,h⟩:=ab h
    obtain ⟨c6,h⟩:=ab h
    obtain ⟨c7,h⟩:=ab h
    obtain ⟨c8,h⟩:=ab h
    obtain ⟨c9,h⟩:=ab h
    refine ae hE 1 [(3,⟨[0,1,2,3,4,6],false,(.tup []),[(0,vN 12 [(aI bp.1.wN),(aI bp.1.wO),(.os 1 0 bp.2.1.length),(.os 2 0 bp.2.2.1.length),(.os 3 0 bp.2.2.2.1.length),(.os 4 0 bp.2.2.2.2.1.length),(.os 5 0 bp.2.2.2.2.2.length),(aB bp.1.aj.fN.fG),(eU bp.1.aj.fN.fL),(aB bp.1.aj.fD.fG),(eU bp.1.aj.fD.fL),(aI bp.1.cg)]),(1,aO 1 cI 0 bp.2.1),(2,aO 1 cI 0 bp.2.2.1),(3,aM 4 ak aa.d bp.2.2.2.1),(4,aO 4 ak aa.d bp.2.2.2.2.1),(5,aO 4 ak aa.d bp.2.2.2.2.2)],0,false,none⟩)] [] (kp [0]) (kq [0,1,2,3,4,6]) 359 (pc (m6 _ _ _ _ _ _ _ _ _ _ _ _ _ _ _ _ nw) pn) ?_
    obtain ⟨cJ,rN,h⟩:=aP h
    obtain ⟨Nu,h⟩:=ab h
    obtain ⟨IV,h⟩:=ab h
    obtain ⟨Ns,h⟩:=ab h
    obtain ⟨JG,h⟩:=ab h
    obtain ⟨Mg,h⟩:=ab h
    refine ae hE 1 [(1,⟨[0,1,2,3,4,6],false,(aI cJ.1),[(0,vN 12 [(aI cJ.2.1.wN),(aI cJ.2.1.wO),(.os 1 0 cJ.2.2.1.length),(.os 2 0 cJ.2.2.2.1.length),(.os 3 0 cJ.2.2.2.2.1.length),(.os 4 0 cJ.2.2.2.2.2.1.length),(.os 5 0 cJ.2.2.2.2.2.2.length),(aB cJ.2.1.aj.fN.fG),(eU cJ.2.1.aj.fN.fL),(aB cJ.2.1.aj.fD.fG),(eU cJ.2.1.aj.fD.fL),(aI cJ.2.1.cg)]),(1,aO 1 cI 0 cJ.2.2.1),(2,aO 1 cI 0 cJ.2.2.2.1),(3,aM 4 ak aa.d cJ.2.2.2.2.1),(4,aO 4 ak aa.d cJ.2.2.2.2.2.1),(5,aO 4 ak aa.d cJ.2.2.2.2.2.2)],0,false,none⟩)] [] (kp [0]) (kq [0,1,2,3,4,6]) 391 (pc (xQ _ _ _ _ _ _ _ _ _ _ _ _ _ _ rN) pn) ?_
    obtain ⟨fT,xK,h⟩:=aP h
    refine ae hE 1 [(4,oT (aB fT))] [] (kp [0,78]) (kq [0,1,2,3,4,6]) 487 (pc o1 (pc (iT _ _ _ xK) pn)) ?_
    refine dr 0 78 h (fun Dc h=>?_) (fun Dc h=>?_)
    ·refine ae hE 1 [] [] (kp [2]) (kq [0,1,2,3,4,6]) 503 pn ?_
     obtain rfl:=cT h
     exact cZ hE 0 Tryz.f34 [] (kp [2]) (kq [0,1,2,3,4,6]) 503 pn [] pn
    ·exact cP hE 3 [] (kp [0]) (kq [0,1,2,3,4,6]) 7 pn (nY N _ _ _ _ _ _ _ _ _ _ _ _ _ h E hE)
   ·exact cP hE 3 [] (kp [0]) (kq [0,1,2,3,4,6]) 7 pn (nY N _ _ _ _ _ _ _ _ _ _ _ _ _ h E hE)
theorem wW (N C0 bq b7 df dk dm dd C1 C2 C3 C4 C5 r) (h:lH N C0 bq b7 df dk dm dd C1 C2 C3 C4 C5=some r):Sd 34 [(.op 0 0 0)] [(0,vN 12 [(aI C0),(aI bq),(.os 1 0 C1.length),(.os 2 0 C2.length),(.os 3 0 C3.length),(.os 4 0 C4.length),(.os 5 0 C5.length),(aB b7),(eU df),(aB dk),(eU dm),(aI dd)]),(1,aO 1 cI 0 C1),(2,aO 1 cI 0 C2),(3,aM 4 ak aa.d C3),(4,aO 4 ak aa.d C4),(5,aO 4 ak aa.d C5)] 6 (aB r.1) [(0,vN 12 [(aI r.2.1.wN),(aI r.2.1.wO),(.os 1 0 r.2.2.1.length),(.os 2 0 r.2.2.2.1.length),(.os 3 0 r.2.2.2.2.1.length),(.os 4 0 r.2.2.2.2.2.length),(.os 6 0 r.2.1.eK.length),(aB r.2.1.aj.fN.fG),(eU r.2.1.aj.fN.fL),(aB r.2.1.aj.fD.fG),(eU r.2.1.aj.fD.fL),(aI r.2.1.cg)]),(1,aO 1 cI 0 r.2.2.1),(2,aO 1 cI 0 r.2.2.2.1),(3,aM 4 ak aa.d r.2.2.2.2.1),(4,aO 4 ak aa.d r.2.2.2.2.2),(6,aO 4 ak aa.d r.2.1.eK)]:=by
 unfold lH at h
 refine g8 (fu:=Tryz.f34) (c:=wV 1) (nt:=177) (fun hm=>absurd hm (by decide)) ?_
 intro E hE
 refine ae hE 1 [] [] (kp [0]) (kq [0,1,2,3,4,5]) 22 pn ?_
 refine ae hE 1 [] [] (kp [0,3]) (kq [0,1,2,3,4,5]) 38 pn ?_
 refine ae hE 2 [] [] (kp [0,3,15,16]) (kq [0,1,2,3,4,5]) 134 (pc o1 pn) ?_
 exact cP hE 2 [] (kp [0,3,15,16]) (kq [0,1,2,3,4] ++ [(6,.ah 5)]) 7 pn (uf N _ _ _ _ _ _ _ _ _ _ _ _ N _ _ _ h E hE)
noncomputable abbrev La:=b8 Tryz.f35
def l7 (N:Nat) (C0:Int) (bq:Int) (b7:Bool) (df:List Int) (dk:Bool) (dm:List Int) (dd:Int) (C1:List Int) (C2:List Int) (C3:List (List aa)) (C4:List aa) (C5:List aa) (K:(List aa)→Int→Option ((List aa))):Prop:=∀ (out:List aa) (x:Int) (r:(List aa)),K out x=some r→∀ E,bh E 6→aE Tryz.prog E 35 47 (aW E [(0,vN 12 [(aI C0),(aI bq),(.os 1 0 C1.length),(.os 2 0 C2.length),(.os 3 0 C3.length),(.os 4 0 C4.length),(.os 5 0 C5.length),(aB b7),(eU df),(aB dk),(eU dm),(aI dd)]),(1,aO 1 cI 0 C1),(2,aO 1 cI 0 C2),(3,aM 4 ak aa.d C3),(4,aO 4 ak aa.d C4),(5,aO 4 ak aa.d C5),(6,aO 4 ak aa.d r)] (.os 6 0 r.length)) [.code (La 116),.inLoop (La 116),.inBlock 0,.code (La 15)] ⟨[(0,(.op 0 0 0)),(3,(.os 6 0 out.length)),(12,(aI (((List.replicate ((bq).toNat) aa.d:List aa).length:Nat):Int))),(13,(aI x))],[(0,vN 12 [(aI C0),(aI bq),(.os 1 0 C1.length),(.os 2 0 C2.length),(.os 3 0 C3.length),(.os 4 0 C4.length),(.os 5 0 C5.length),(aB b7),(eU df),(aB dk),(eU dm),(aI dd)]),(1,aO 1 cI 0 C1),(2,aO 1 cI 0 C2),(3,aM 4 ak aa.d C3),(4,aO 4 ak aa.d C4),(5,aO 4 ak aa.d C5),(6,aO 4 ak aa.d out)],7⟩
def re (N:Nat) (C0:Int) (bq:Int) (b7:Bool) (df:List Int) (dk:Bool) (dm:List Int) (dd:Int) (C1:List Int) (C2:List Int) (C3:List (List aa)) (C4:List aa) (C5:List aa) (x:Int) (K:(List aa)→Option ((List aa))):Prop:=∀ (gf:List aa) (r:(List aa)),K gf=some r→∀ E,bh E 6→aE Tryz.prog E 35 47 (aW E [(0,vN 12 [(aI C0),(aI bq),(.os 1 0 C1.length),(.os 2 0 C2.length),(.os 3 0 C3.length),(.os 4 0 C4.length),(.os 5 0 C5.length),(aB b7),(eU df),(aB dk),(eU dm),(aI dd)]),(1,aO 1 cI 0 C1),(2,aO 1 cI 0 C2),(3,aM 4 ak aa.d C3),(4,aO 4 ak aa.d C4),(5,aO 4 ak aa.d C5),(6,aO 4 ak aa.d r)] (.os 6 0 r.length)) [.code (La 935),.inLoop (La 116),.inBlock 0,.code (La 15)] ⟨[(0,(.op 0 0 0)),(3,(.os 6 0 gf.length)),(12,(aI (((List.replicate ((bq).toNat) aa.d:List aa).length:Nat):Int))),(13,(aI x))],[(0,vN 12 [(aI C0),(aI bq),(.os 1 0 C1.length),(.os 2 0 C2.length),(.os 3 0 C3.length),(.os 4 0 C4.length),(.os 5 0 C5.length),(aB b7),(eU df),(aB dk),(eU dm),(aI dd)]),(1,aO 1 cI 0 C1),(2,aO 1 cI 0 C2),(3,aM 4 ak aa.d C3),(4,aO 4 ak aa.d C4),(5,aO 4 ak aa.d C5),(6,aO 4 ak aa.d gf)],7⟩
theorem lC (N:Nat) (C0:Int) (bq:Int) (b7:Bool) (df:List Int) (dk:Bool) (dm:List Int) (dd:Int) (C1:List Int) (C2:List Int) (C3:List (List aa)) (C4:List aa) (C5:List aa) (x:Int) (fU:(List aa)→Int→Option ((List aa))) (qJ:l7 N C0 bq b7 df dk dm dd C1 C2 C3 C4 C5 fU):re N C0 bq b7 df dk dm dd C1 C2 C3 C4 C5 x (eO N C0 bq b7 df dk dm dd C1 C2 C3 C4 C5 x fU):=by
 intro gf r h E hE
 unfold eO at h
 refine ae hE 0 [] [] (kp [0,3,12,13]) (kq [0,1,2,3,4,5,6]) 39 pn ?_
 exact cP hE 1 [] (kp [0,3,12,13]) (kq [0,1,2,3,4,5,6]) 7 pn (qJ _ _ _ h E hE)
theorem qK (N C0 bq b7 df dk dm dd C1 C2 C3 C4 C5 fuel):l7 N C0 bq b7 df dk dm dd C1 C2 C3 C4 C5 (bG N C0 bq b7 df dk dm dd C1 C2 C3 C4 C5 fuel):=by
 induction fuel with
 | zero=>intro _ _ r h;rw [bG.eq_1] at h;cases h
 | succ fuel ih =>
  intro out x r h E hE
  rw [bG.eq_2] at h
  refine ae hE 1 [] [] (kp [0,3,12,13,14]) (kq [0,1,2,3,4,5,6]) 23 pn ?_
  refine dr 1 14 h (fun ee h=>?_) (fun ee h=>?_)
  ·refine ae hE 4 [] [] (kp [0,3,4,12,13]) (kq [0,1,2,3,4,5,6]) 55 pn ?_
   obtain ⟨aw,hr,h⟩:=aP h
   obtain ⟨c2,h⟩:=ab h
   refine ae hE 1 [(2,oT (.agg (ak aw)))] [] (kp [0] ++ [(3,.kD ((out.set ((x).toNat) aw).length))] ++ kp [4,12,13]) (kq [0,1,2,3,4,5] ++ [(6,.arr 6 ((out.set ((x).toNat) aw).length) (fun zi=>ak ((out.set ((x).toNat) aw).getD zi aa.d)))]) 135 (pc (gH _ _ _ hr) (pc c2 (pc (dR c2) (pc (aD out ((x).toNat) aw) (pc (aD out ((x).toNat) aw) (pc (cH ak aa.d out ((x).toNat) aw) pn)))))) ?_
   obtain ⟨cQ,eI,h⟩:=aP h
   refine ae hE 1 [(11,oT (aI cQ))] [] (kp [0,3,4,5,12,13]) (kq [0,1,2,3,4,5,6]) 343 (pc o1 (pc o1 (pc (im _ _ _ _ eI) (pc (z1 C2.length) pn)))) ?_
   refine ae hE 1 [] [] (kp [0,3,4,5,12,13,33]) (kq [0,1,2,3,4,5,6]) 375 pn ?_
   refine dr 0 33 h (fun jq h=>?_) (fun jq h=>?_)
   ·obtain ⟨c3,h⟩:=ab h
    obtain ⟨aV,kc,h⟩:=aP h
    obtain ⟨c4,h⟩:=ab h
    refine ae hE 0 [(9,oT (.agg (ak aV)))] [] (kp [0] ++ [(3,.kD (((out.set ((x).toNat) aw).set ((x).toNat) aV).length))] ++ kp [12,13]) (kq [0,1,2,3,4,5] ++ [(6,.arr 6 (((out.set ((x).toNat) aw).set ((x).toNat) aV).length) (fun zi=>ak (((out.set ((x).toNat) aw).set ((x).toNat) aV).getD zi aa.d)))]) 567 (pc o1 (pc c3 (pc (dR c3) (pc (kx _ _ _ kc) (pc c4 (pc (dR c4) (pc (aD (out.set ((x).toNat) aw) ((x).toNat) aV) (pc (aD (out.set ((x).toNat) aw) ((x).toNat) aV) (pc (cH ak aa.d (out.set ((x).toNat) aw) ((x).toNat) aV) pn))))))))) ?_
    exact cP hE 1 [] (kp [0,3,12,13]) (kq [0,1,2,3,4,5,6]) 7 pn (lC N _ _ _ _ _ _ _ _ _ _ _ _ _ _ ih _ _ h E hE)
   ·exact cP hE 2 [] (kp [0,3,12,13]) (kq [0,1,2,3,4,5,6]) 7 pn (lC N _ _ _ _ _ _ _ _ _ _ _ _ _ _ ih _ _ h E hE)
  ·refine ae hE 2 [] [] (kp [2]) (kq [0,1,2,3,4,5,6]) 55 pn ?_
   obtain rfl:=cT h
   exact cZ hE 0 Tryz.f35 [] (kp [2]) (kq [0,1,2,3,4,5,6]) 55 pn [] pn
theorem sR (N C0 bq b7 df dk dm dd C1 C2 C3 C4 C5 r) (h:jk N C0 bq b7 df dk dm dd C1 C2 C3 C4 C5=some r):Sd 35 [(.op 0 0 0)] [(0,vN 12 [(aI C0),(aI bq),(.os 1 0 C1.length),(.os 2 0 C2.length),(.os 3 0 C3.length),(.os 4 0 C4.length),(.os 5 0 C5.length),(aB b7),(eU df),(aB dk),(eU dm),(aI dd)]),(1,aO 1 cI 0 C1),(2,aO 1 cI 0 C2),(3,aM 4 ak aa.d C3),(4,aO 4 ak aa.d C4),(5,aO 4 ak aa.d C5)] 6 (.os 6 0 r.length) [(0,vN 12 [(aI C0),(aI bq),(.os 1 0 C1.length),(.os 2 0 C2.length),(.os 3 0 C3.length),(.os 4 0 C4.length),(.os 5 0 C5.length),(aB b7),(eU df),(aB dk),(eU dm),(aI dd)]),(1,aO 1 cI 0 C1),(2,aO 1 cI 0 C2),(3,aM 4 ak aa.d C3),(4,aO 4 ak aa.d C4),(5,aO 4 ak aa.d C5),(6,aO 4 ak aa.d r)]:=by
 unfold jk at h
 refine g8 (fu:=Tryz.f35) (c:=La 1) (nt:=47) (fun hm=>absurd hm (by decide)) ?_
 intro E hE
 refine ae hE 1 [] [] (kp [0]) (kq [0,1,2,3,4,5]) 22 pn ?_
 obtain ⟨c,h⟩:=ab h
 refine ae hE 1 [] [] (kp [0] ++ [(3,.kD ((List.replicate ((bq).toNat) aa.d:List aa).length))]) (kq [0,1,2,3,4,5] ++ [(86,.Po 86 ((List.replicate ((bq).toNat) aa.d:List aa).length) (fun zi=>ak ((List.replicate ((bq).toNat) aa.d:List aa).getD zi aa.d)))]) 118 (pc o1 (pc (show 0≤bq from c.1) (pc (show bq≤bq from (Int.le_refl _)) (pc (show (64:Int) * bq≤281474976710656 from c.2.1) (pc (show bq≤9223372036854775807 from c.2.2) (pc (show (bq).toNat=(List.replicate ((bq).toNat) aa.d:List aa).length from (dj).symm) (pc (show (List.replicate ((bq).toNat) aa.d:List aa).length≤(bq).toNat from (Nat.le_of_eq (Eq.symm ((dj).symm)))) (pc (show ∀ zi,zi < (List.replicate ((bq).toNat) aa.d:List aa).length→IQ ((fun _=>[(aB false),.nil,(aB false),.nil]) zi) ((fun zi=>ak ((List.replicate ((bq).toNat) aa.d:List aa).getD zi aa.d)) zi) from (fun zq g9=>oz ak aa.d aa.d ((bq).toNat) zq ⟨.inl rfl,.inr ⟨rfl,_,rfl⟩,.inl rfl,.inr ⟨rfl,_,rfl⟩,trivial⟩ g9)) pn)))))))) ?_
 refine ae hE 2 [] [] (kp [0,3,12,13]) (kq [0,1,2,3,4,5,86]) 166 pn ?_
 exact cP hE 2 [] (kp [0,3,12,13]) (kq [0,1,2,3,4,5] ++ [(6,.ah 86)]) 7 pn (qK N _ _ _ _ _ _ _ _ _ _ _ _ N _ _ _ h E hE)
noncomputable abbrev Zl:=b8 Tryz.f37
theorem tB (N yB C0 bq b7 df dk dm dd C1 C2 C3 C4 C5 r) (h:mX N yB C0 bq b7 df dk dm dd C1 C2 C3 C4 C5=some r):Sd 37 [(.op 0 0 0),(aI yB)] [(0,vN 12 [(aI C0),(aI bq),(.os 1 0 C1.length),(.os 2 0 C2.length),(.os 3 0 C3.length),(.os 4 0 C4.length),(.os 5 0 C5.length),(aB b7),(eU df),(aB dk),(eU dm),(aI dd)]),(1,aO 1 cI 0 C1),(2,aO 1 cI 0 C2),(3,aM 4 ak aa.d C3),(4,aO 4 ak aa.d C4),(5,aO 4 ak aa.d C5)] 6 (.agg (ak r)) [(0,vN 12 [(aI C0),(aI bq),(.os 1 0 C1.length),(.os 2 0 C2.length),(.os 3 0 C3.length),(.os 4 0 C4.length),(.os 5 0 C5.length),(aB b7),(eU df),(aB dk),(eU dm),(aI dd)]),(1,aO 1 cI 0 C1),(2,aO 1 cI 0 C2),(3,aM 4 ak aa.d C3),(4,aO 4 ak aa.d C4),(5,aO 4 ak aa.d C5)]:=by
 unfold mX at h
 refine g8 (fu:=Tryz.f37) (c:=Zl 1) (nt:=22) (fun hm=>absurd hm (by decide)) ?_
 intro E hE
 refine ae hE 1 [] [] (kp [0,1,4]) (kq [0,1,2,3,4,5,6]) 22 pn ?_
 obtain ⟨cQ,hr,h⟩:=aP h
 refine ae hE 2 [(5,oT (aI cQ))] [] (kp [0,4,5]) (kq [0,1,2,3,4,5,6]) 134 (pc o1 (pc (im _ _ _ _ hr) (pc (z1 C1.length) pn))) ?_
 refine ae hE 1 [] [] (kp [0,4,5,13]) (kq [0,1,2,3,4,5,6]) 166 pn ?_
 refine dr 0 13 h (fun ee h=>?_) (fun ee h=>?_)
 ·obtain ⟨c,h⟩:=ab h
  refine ae hE 1 [] [] (kp [4]) (kq [0,1,2,3,4,5,6]) 294 (pc o1 (pc c (pc (dR c) (pc o1 pn)))) ?_
  obtain rfl:=cT h
  exact cZ hE 0 Tryz.f37 [] (kp [4]) (kq [0,1,2,3,4,5] ++ [(22,.ah 6)]) 294 pn [22] (pc o1 pn)
 ·obtain ⟨aw,eI,h⟩:=aP h
  refine ae hE 2 [(0,oT (.agg (ak aw)))] [] (kp [4]) (kq [0,1,2,3,4,5,6]) 198 (pc (gH _ _ _ eI) (pc o1 pn)) ?_
  obtain rfl:=cT h
  exact cZ hE 0 Tryz.f37 [] (kp [4]) (kq [0,1,2,3,4,5] ++ [(22,.ah 6)]) 198 pn [22] (pc o1 pn)
noncomputable abbrev R7:=b8 Tryz.f36
def vV (N:Nat) (C0:Int) (bq:Int) (b7:Bool) (df:List Int) (dk:Bool) (dm:List Int) (dd:Int) (C1:List Int) (C2:List Int) (C3:List (List aa)) (C4:List aa) (C5:List aa) (K:(List aa)→Int→Option ((List aa))):Prop:=∀ (out:List aa) (x:Int) (r:(List aa)),K out x=some r→∀ E,bh E 6→aE Tryz.prog E 36 34 (aW E [(0,vN 12 [(aI C0),(aI bq),(.os 1 0 C1.length),(.os 2 0 C2.length),(.os 3 0 C3.length),(.os 4 0 C4.length),(.os 5 0 C5.length),(aB b7),(eU df),(aB dk),(eU dm),(aI dd)]),(1,aO 1 cI 0 C1),(2,aO 1 cI 0 C2),(3,aM 4 ak aa.d C3),(4,aO 4 ak aa.d C4),(5,aO 4 ak aa.d C5),(6,aO 4 ak aa.d r)] (.os 6 0 r.length)) [.code (R7 116),.inLoop (R7 116),.inBlock 0,.code (R7 15)] ⟨[(0,(.op 0 0 0)),(1,(.fn (.func 37) [(.op 0 0 0)] [])),(5,(.os 6 0 out.length)),(13,(aI (((List.replicate ((C0).toNat) aa.d:List aa).length:Nat):Int))),(14,(aI x))],[(0,vN 12 [(aI C0),(aI bq),(.os 1 0 C1.length),(.os 2 0 C2.length),(.os 3 0 C3.length),(.os 4 0 C4.length),(.os 5 0 C5.length),(aB b7),(eU df),(aB dk),(eU dm),(aI dd)]),(1,aO 1 cI 0 C1),(2,aO 1 cI 0 C2),(3,aM 4 ak aa.d C3),(4,aO 4 ak aa.d C4),(5,aO 4 ak aa.d C5),(6,aO 4 ak aa.d out)],7⟩
theorem uY (N C0 bq b7 df dk dm dd C1 C2 C3 C4 C5 fuel):vV N C0 bq b7 df dk dm dd C1 C2 C3 C4 C5 (dY N C0 bq b7 df dk dm dd C1 C2 C3 C4 C5 fuel):=by
 induction fuel with
 | zero=>intro _ _ r h;rw [dY.eq_1] at h;cases h
 | succ fuel ih =>
  intro out x r h E hE
  rw [dY.eq_2] at h
  refine ae hE 1 [] [] (kp [0,1,5,13,14,15]) (kq [0,1,2,3,4,5,6]) 23 pn ?_
  refine dr 1 15 h (fun ee h=>?_) (fun ee h=>?_)
  ·refine ae hE 4 [] [] (kp [0,1,5,6,13,14]) (kq [0,1,2,3,4,5,6]) 55 pn ?_
   obtain ⟨rat,hr,h⟩:=aP h
   obtain ⟨Uw,eI,h⟩:=aP h
   obtain ⟨au,kc,h⟩:=aP h
   obtain ⟨c2,h⟩:=ab h
   refine ae hE 0 [(4,⟨[0,1,2,3,4,5],true,(.agg (ak rat)),[],0,false,none⟩),(12,⟨[0,1,2,3,4,5],true,(.agg (ak Uw)),[],0,false,none⟩),(13,oT (.agg (ak au)))] [] (kp [0,1] ++ [(5,.kD ((out.set ((x).toNat) au).length))] ++ kp [13,14]) (kq [0,1,2,3,4,5] ++ [(6,.arr 6 ((out.set ((x).toNat) au).length) (fun zi=>ak ((out.set ((x).toNat) au).getD zi aa.d)))]) 311 (pc (tB _ _ _ _ _ _ _ _ _ _ _ _ _ _ _ hr) (pc (iM C3) (pc o1 (pc (tB _ _ _ _ _ _ _ _ _ _ _ _ _ _ _ eI) (pc (iM C3) (pc (eY _ _ _ _ kc) (pc c2 (pc (dR c2) (pc (aD out ((x).toNat) au) (pc (aD out ((x).toNat) au) (pc (cH ak aa.d out ((x).toNat) au) pn))))))))))) ?_
   refine ae hE 1 [] [] (kp [0,1,5,13,14]) (kq [0,1,2,3,4,5,6]) 343 pn ?_
   exact cP hE 1 [] (kp [0,1,5,13,14]) (kq [0,1,2,3,4,5,6]) 7 pn (ih _ _ _ h E hE)
  ·refine ae hE 2 [] [] (kp [4]) (kq [0,1,2,3,4,5,6]) 55 pn ?_
   obtain rfl:=cT h
   exact cZ hE 0 Tryz.f36 [] (kp [4]) (kq [0,1,2,3,4,5,6]) 55 pn [] pn
theorem xR (N C0 bq b7 df dk dm dd C1 C2 C3 C4 C5 r) (h:mw N C0 bq b7 df dk dm dd C1 C2 C3 C4 C5=some r):Sd 36 [(.op 0 0 0),(.fn (.func 37) [(.op 0 0 0)] [])] [(0,vN 12 [(aI C0),(aI bq),(.os 1 0 C1.length),(.os 2 0 C2.length),(.os 3 0 C3.length),(.os 4 0 C4.length),(.os 5 0 C5.length),(aB b7),(eU df),(aB dk),(eU dm),(aI dd)]),(1,aO 1 cI 0 C1),(2,aO 1 cI 0 C2),(3,aM 4 ak aa.d C3),(4,aO 4 ak aa.d C4),(5,aO 4 ak aa.d C5)] 6 (.os 6 0 r.length) [(0,vN 12 [(aI C0),(aI bq),(.os 1 0 C1.length),(.os 2 0 C2.length),(.os 3 0 C3.length),(.os 4 0 C4.length),(.os 5 0 C5.length),(aB b7),(eU df),(aB dk),(eU dm),(aI dd)]),(1,aO 1 cI 0 C1),(2,aO 1 cI 0 C2),(3,aM 4 ak aa.d C3),(4,aO 4 ak aa.d C4),(5,aO 4 ak aa.d C5),(6,aO 4 ak aa.d r)]:=by
 unfold mw at h
 refine g8 (fu:=Tryz.f36) (c:=R7 1) (nt:=34) (fun hm=>absurd hm (by decide)) ?_
 intro E hE
 refine ae hE 1 [] [] (kp [0,1]) (kq [0,1,2,3,4,5]) 22 pn ?_
 obtain ⟨c,h⟩:=ab h
 refine ae hE 1 [] [] (kp [0,1] ++ [(5,.kD ((List.replicate ((C0).toNat) aa.d:List aa).length))]) (kq [0,1,2,3,4,5] ++ [(86,.Po 86 ((List.replicate ((C0).toNat) aa.d:List aa).length) (fun zi=>ak ((List.replicate ((C0).toNat) aa.d:List aa).getD zi aa.d)))]) 118 (pc o1 (pc (show 0≤C0 from c.1) (pc (show C0≤C0 from (Int.le_refl _)) (pc (show (64:Int) * C0≤281474976710656 from c.2.1) (pc (show C0≤9223372036854775807 from c.2.2) (pc (show (C0).toNat=(List.replicate ((C0).toNat) aa.d:List aa).length from (dj).symm) (pc (show (List.replicate ((C0).toNat) aa.d:List aa).length≤(C0).toNat from (Nat.le_of_eq (Eq.symm ((dj).symm)))) (pc (show ∀ zi,zi < (List.replicate ((C0).toNat) aa.d:List aa).length→IQ ((fun _=>[(aB false),.nil,(aB false),.nil]) zi) ((fun zi=>ak ((List.replicate ((C0).toNat) aa.d:List aa).getD zi aa.d)) zi) from (fun zq g9=>oz ak aa.d aa.d ((C0).toNat) zq ⟨.inl rfl,.inr ⟨rfl,_,rfl⟩,.inl rfl,.inr ⟨rfl,_,rfl⟩,trivial⟩ g9)) pn)))))))) ?_
 refine ae hE 2 [] [] (kp [0,1,5,13,14]) (kq [0,1,2,3,4,5,86]) 166 pn ?_
 exact cP hE 2 [] (kp [0,1,5,13,14]) (kq [0,1,2,3,4,5] ++ [(6,.ah 86)]) 7 pn (uY N _ _ _ _ _ _ _ _ _ _ _ _ N _ _ _ h E hE)
noncomputable abbrev C_0:=b8 Tryz.f17
theorem Dt (N n l r) (h:pC N n l=some r):Sd 17 [(aI n),(aH wo af.d l)] [] 0 (.tup [(aH ak aa.d r.1),(aH ak aa.d r.2.1),(aI r.2.2)]) []:=by
 unfold pC at h
 refine g8 (fu:=Tryz.f17) (c:=C_0 1) (nt:=27) (fun hm=>rfl) ?_
 intro E hE
 refine ae hE 1 [] [] (kp [0,1]) [] 48 pn ?_
 obtain ⟨vJ,hr,h⟩:=aP h
 refine ae hE 2 [(2,oT (aI vJ))] [] (kp [0,1,7]) [] 112 (pc (B3 _ _ _ _ hr) pn) ?_
 refine ae hE 1 [] [] (kp [0,1,7,13]) [] 144 pn ?_
 refine dr 0 13 h (fun ee h=>?_) (fun ee h=>?_)
 ·refine ae hE 1 [] [] (kp [4,5,6]) [] 208 pn ?_
  obtain rfl:=cT h
  exact cZ hE 0 Tryz.f17 [] ([(4,.sl (([]:List aa).length) (fun zi=>ak (([]:List aa).getD zi aa.d))),(5,.sl (([]:List aa).length) (fun zi=>ak (([]:List aa).getD zi aa.d)))] ++ kp [6]) [] 208 (pc (Eq.refl 0) (pc (Eq.refl 0) pn)) [] pn
 ·obtain ⟨fq,eI,h⟩:=aP h
  refine ae hE 2 [(2,⟨[],true,(.op 0 0 0),[(0,vN 12 [(aI fq.wN),(aI fq.wO),(.os 1 0 fq.j8.length),(.os 2 0 fq.mN.length),(.os 3 0 fq.IS.length),(.os 4 0 fq.IT.length),(.os 5 0 fq.eK.length),(aB fq.aj.fN.fG),(eU fq.aj.fN.fL),(aB fq.aj.fD.fG),(eU fq.aj.fD.fL),(aI fq.cg)]),(1,aO 1 cI 0 fq.j8),(2,aO 1 cI 0 fq.mN),(3,aM 4 ak aa.d fq.IS),(4,aO 4 ak aa.d fq.IT),(5,aO 4 ak aa.d fq.eK)],0,false,none⟩)] [] (kp [8]) (kq [176,177,178,179,180,181]) 208 (pc (H8 _ _ _ _ eI) pn) ?_
  obtain ⟨bQ,kc,h⟩:=aP h
  obtain ⟨c,h⟩:=ab h
  obtain ⟨c2,h⟩:=ab h
  obtain ⟨c3,h⟩:=ab h
  refine ae hE 2 [(1,⟨[176,177,178,179,180,181],false,(aB bQ.1),[(0,vN 12 [(aI bQ.2.1.wN),(aI bQ.2.1.wO),(.os 1 0 bQ.2.2.1.length),(.os 2 0 bQ.2.2.2.1.length),(.os 3 0 bQ.2.2.2.2.1.length),(.os 4 0 bQ.2.2.2.2.2.length),(.os 6 0 bQ.2.1.eK.length),(aB bQ.2.1.aj.fN.fG),(eU bQ.2.1.aj.fN.fL),(aB bQ.2.1.aj.fD.fG),(eU bQ.2.1.aj.fD.fL),(aI bQ.2.1.cg)]),(1,aO 1 cI 0 bQ.2.2.1),(2,aO 1 cI 0 bQ.2.2.2.1),(3,aM 4 ak aa.d bQ.2.2.2.2.1),(4,aO 4 ak aa.d bQ.2.2.2.2.2),(6,aO 4 ak aa.d bQ.2.1.eK)],0,false,none⟩)] [] (kp [8,20]) (kq [176,177,178,179,180,224]) 256 (pc (wW _ _ _ _ _ _ _ _ _ _ _ _ _ _ kc) pn) ?_
  refine dr 0 20 h (fun jq h=>?_) (fun jq h=>?_)
  ·obtain ⟨iP,nw,h⟩:=aP h
   refine ae hE 1 [(1,⟨[176,177,178,179,180,224],true,(.os 6 0 iP.length),[(6,aO 4 ak aa.d iP)],0,false,none⟩)] [] (kp [4,5,6]) (kq [272]) 336 (pc (sR _ _ _ _ _ _ _ _ _ _ _ _ _ _ nw) (pc (iM bQ.2.2.2.2.1) pn)) ?_
   obtain rfl:=cT h
   exact cZ hE 0 Tryz.f17 [272] ([(4,.sl (([]:List aa).length) (fun zi=>ak (([]:List aa).getD zi aa.d))),(5,.sl (iP.length) (fun zi=>ak (iP.getD zi aa.d)))] ++ kp [6]) [] 336 (pc (Eq.refl 0) (pc (Eq.refl iP.length) (pc (z1 iP.length) (pc (aZ iP.length (fun zi=>ak (iP.getD zi aa.d))) pn)))) [] pn
  ·obtain ⟨tU,rN,h⟩:=aP h
   refine ae hE 2 [(3,⟨[176,177,178,179,180,224],true,(.os 6 0 tU.length),[(6,aO 4 ak aa.d tU)],0,false,none⟩)] [] (kp [4,5,6]) (kq [304]) 368 (pc (xR _ _ _ _ _ _ _ _ _ _ _ _ _ _ rN) (pc (iM bQ.2.2.2.2.1) pn)) ?_
   obtain rfl:=cT h
   exact cZ hE 0 Tryz.f17 [304] ([(4,.sl (tU.length) (fun zi=>ak (tU.getD zi aa.d))),(5,.sl (([]:List aa).length) (fun zi=>ak (([]:List aa).getD zi aa.d)))] ++ kp [6]) [] 368 (pc (Eq.refl tU.length) (pc (z1 tU.length) (pc (aZ tU.length (fun zi=>ak (tU.getD zi aa.d))) (pc (Eq.refl 0) pn)))) [] pn
noncomputable abbrev Zm:=b8 Tryz.f43
theorem lu (N x r) (h:eP N x=some r):Sd 43 [(.agg (ai.cells x))] [] 0 (aS r) []:=by
 unfold eP at h
 refine g8 (fu:=Tryz.f43) (c:=Zm 1) (nt:=5) (fun hm=>rfl) ?_
 intro E hE
 refine ae hE 1 [] [] (kp [1]) (kq [0]) 32 pn ?_
 refine ae hE 1 [] [] (kp [2]) [] 80 (pc o1 pn) ?_
 obtain rfl:=cT h
 exact cZ hE 0 Tryz.f43 [] (kp [2]) [] 80 pn [] pn
noncomputable abbrev R8:=b8 Tryz.f86
def z4 (N:Nat) (s:ByteArray) (K:Int→Option (Bool)):Prop:=∀ (x:Int) (r:Bool),K x=some r→∀ E,bh E 0→aE Tryz.prog E 86 57 (aW E [] (aB r)) [.code (R8 116),.inLoop (R8 116),.inBlock 0,.code (R8 15)] ⟨[(0,(aS s)),(15,(aI ((s.size:Nat):Int))),(16,(aI x))],[],0⟩
theorem yY (N s fuel):z4 N s (gr N s fuel):=by
 induction fuel with
 | zero=>intro _ r h;rw [gr.eq_1] at h;cases h
 | succ fuel ih =>
  intro x r h E hE
  rw [gr.eq_2] at h
  refine ae hE 1 [] [] (kp [0,15,16,17]) [] 16 pn ?_
  refine dr 1 17 h (fun jq h=>?_) (fun jq h=>?_)
  ·refine ae hE 4 [] [] (kp [0,3,15,16]) [] 48 pn ?_
   obtain ⟨c,h⟩:=ab h
   refine ae hE 1 [] [] (kp [0,3,4,15,16]) [] 112 (pc c pn) ?_
   refine ae hE 1 [] [] (kp [0,3,4,5,15,16]) [] 352 (pc (fun hg:(decide ((zA s x)≥97))=true=>(pc hg pn)) (pc (fun hq:(decide ((zA s x)≥97))=true=>(pc hq pn)) (pc (fun hg:(!(cond (decide ((zA s x)≥97)) (decide ((zA s x)≤122)) false))=true=>(pc hg pn)) (pc (fun hg:((!(cond (decide ((zA s x)≥97)) (decide ((zA s x)≤122)) false)) && ((!(cond (decide ((zA s x)≥97)) (decide ((zA s x)≤122)) false)) && (decide ((zA s x)≥65))))=true=>(pc hg pn)) (pc (fun hg:(!(cond (decide ((zA s x)≥97)) (decide ((zA s x)≤122)) false))=true=>(pc hg (pc hg (pc (fun hq:(decide ((zA s x)≥65))=true=>(pc (show ((!(cond (decide ((zA s x)≥97)) (decide ((zA s x)≤122)) false)) && ((!(cond (decide ((zA s x)≥97)) (decide ((zA s x)≤122)) false)) && (decide ((zA s x)≥65))))=true from (mo hg (mo hg hq))) pn)) pn)))) (pc (fun hq:(!(cond (decide ((zA s x)≥97)) (decide ((zA s x)≤122)) false))=true=>(pc hq pn)) pn)))))) ?_
   refine ae hE 1 [] [] (kp [0,3,5,6,15,16]) [] 528 (pc (fun hg:(decide ((zA s x)≥48))=true=>(pc hg pn)) (pc (fun hq:(decide ((zA s x)≥48))=true=>(pc hq pn)) (pc (fun hg:(!(cond (decide ((zA s x)≥48)) (decide ((zA s x)≤57)) false))=true=>(pc hg pn)) (pc (fun hq:(!(cond (decide ((zA s x)≥48)) (decide ((zA s x)≤57)) false))=true=>(pc hq pn)) pn)))) ?_
   refine ae hE 1 [] [] (kp [0,15,16,55]) [] 688 (pc (fun hg:(!(cond (cond (decide ((zA s x)≥97)) (decide ((zA s x)≤122)) false) true (cond (decide ((zA s x)≥65)) (decide ((zA s x)≤90)) false)))=true=>(pc hg pn)) (pc (fun hg:((!(cond (cond (decide ((zA s x)≥97)) (decide ((zA s x)≤122)) false) true (cond (decide ((zA s x)≥65)) (decide ((zA s x)≤90)) false))) && ((!(cond (cond (decide ((zA s x)≥97)) (decide ((zA s x)≤122)) false) true (cond (decide ((zA s x)≥65)) (decide ((zA s x)≤90)) false))) && (!(x == 0))))=true=>(pc hg pn)) (pc (fun hg:(!(cond (cond (decide ((zA s x)≥97)) (decide ((zA s x)≤122)) false) true (cond (decide ((zA s x)≥65)) (decide ((zA s x)≤90)) false)))=true=>(pc hg (pc hg (pc (fun hq:(!(x == 0))=true=>(pc (show ((!(cond (cond (decide ((zA s x)≥97)) (decide ((zA s x)≤122)) false) true (cond (decide ((zA s x)≥65)) (decide ((zA s x)≤90)) false))) && ((!(cond (cond (decide ((zA s x)≥97)) (decide ((zA s x)≤122)) false) true (cond (decide ((zA s x)≥65)) (decide ((zA s x)≤90)) false))) && (!(x == 0))))=true from (mo hg (mo hg hq))) pn)) pn)))) (pc (fun hq:(!(cond (cond (decide ((zA s x)≥97)) (decide ((zA s x)≤122)) false) true (cond (decide ((zA s x)≥65)) (decide ((zA s x)≤90)) false)))=true=>(pc hq pn)) pn)))) ?_
   refine dr 0 55 h (fun ti h=>?_) (fun ti h=>?_)
   ·refine ae hE 1 [] [] (kp [2]) [] 704 pn ?_
    obtain rfl:=cT h
    exact cZ hE 0 Tryz.f86 [] (kp [2]) [] 704 pn [] pn
   ·refine ae hE 2 [] [] (kp [0,15,16]) [] 720 pn ?_
    exact cP hE 1 [] (kp [0,15,16]) [] 0 pn (ih _ _ h E hE)
  ·refine ae hE 2 [] [] (kp [2]) [] 32 pn ?_
   obtain rfl:=cT h
   exact cZ hE 0 Tryz.f86 [] (kp [2]) [] 48 pn [] pn
theorem Cd (N s r) (h:nR N s=some r):Sd 86 [(aS s)] [] 0 (aB r) []:=by
 unfold nR at h
 refine g8 (fu:=Tryz.f86) (c:=R8 1) (nt:=57) (fun hm=>rfl) ?_
 intro E hE
 refine ae hE 1 [] [] (kp [0]) [] 16 pn ?_
 refine ae hE 2 [] [] (kp [0,13]) [] 128 (pc (fun hg:(!(lk s ByteArray.empty))=true=>(pc hg pn)) (pc (fun hg:(!(lk s ByteArray.empty))=true=>(pc hg pn)) (pc (fun hq:(!(lk s ByteArray.empty))=true=>(pc hq pn)) pn))) ?_
 refine dr 0 13 h (fun ee h=>?_) (fun ee h=>?_)
 ·refine ae hE 1 [] [] (kp [2]) [] 144 pn ?_
  obtain rfl:=cT h
  exact cZ hE 0 Tryz.f86 [] (kp [2]) [] 144 pn [] pn
 ·refine ae hE 3 [] [] (kp [0,15,16]) [] 176 pn ?_
  exact cP hE 2 [] (kp [0,15,16]) [] 0 pn (yY N _ N _ _ h E hE)
noncomputable abbrev Zn:=b8 Tryz.f88
theorem uZ (N y C1 r) (h:kS N y C1=some r):Sd 88 [(.agg (ai.cells y)),(.op 0 0 0),(.op 1 0 0)] [(0,vO 1 [(.fn (.func 43) [] [])]),(1,vO 6 (ai.cells C1))] 2 (aB r) [(0,vO 1 [(.fn (.func 43) [] [])]),(1,vO 6 (ai.cells C1))]:=by
 unfold kS at h
 refine g8 (fu:=Tryz.f88) (c:=Zn 1) (nt:=12) (fun hm=>absurd hm (by decide)) ?_
 intro E hE
 refine ae hE 1 [] [] (kp [1,2,3]) (kq [0,1,2]) 34 pn ?_
 obtain ⟨lI,hr,h⟩:=aP h
 obtain ⟨tV,eI,h⟩:=aP h
 refine ae hE 1 [(2,oT (aS lI)),(5,oT (aS tV))] [] (kp [4]) (kq [0,1]) 162 (pc o1 (pc o1 (pc (lu _ _ _ hr) (pc o1 (pc o1 (pc (lu _ _ _ eI) pn)))))) ?_
 obtain rfl:=cT h
 exact cZ hE 0 Tryz.f88 [] (kp [4]) (kq [0,1]) 162 pn [] pn
noncomputable abbrev R9:=b8 Tryz.f113
def l8 (N:Nat) (s:List ai) (C1:ai) (K:Int→Option (Int)):Prop:=∀ (x:Int) (r:Int),K x=some r→∀ E,bh E 2→aE Tryz.prog E 113 19 (aW E [(0,vO 1 [(.fn (.func 43) [] [])]),(1,vO 6 (ai.cells C1))] (aI r)) [.code (R9 52),.inLoop (R9 52),.inBlock 0,.code (R9 7)] ⟨[(0,(aH ai.cells ai.d s)),(1,(.fn (.func 88) [] [(.op 0 0 0),(.op 1 0 0)])),(7,(aI ((s.length:Nat):Int))),(8,(aI x))],[(0,vO 1 [(.fn (.func 43) [] [])]),(1,vO 6 (ai.cells C1))],2⟩
theorem lR (N s C1 fuel):l8 N s C1 (ba N s C1 fuel):=by
 induction fuel with
 | zero=>intro _ r h;rw [ba.eq_1] at h;cases h
 | succ fuel ih =>
  intro x r h E hE
  rw [ba.eq_2] at h
  refine ae hE 1 [] [] (kp [0,1,7,8,9]) (kq [0,1]) 18 pn ?_
  refine dr 1 9 h (fun ee h=>?_) (fun ee h=>?_)
  ·refine ae hE 4 [] [] (kp [0,1,5,7,8]) (kq [0,1]) 50 pn ?_
   obtain ⟨c,h⟩:=ab h
   obtain ⟨K1,hr,h⟩:=aP h
   refine ae hE 1 [(5,⟨[0,1],true,(aB K1),[],0,false,none⟩)] [] (kp [0,1,5,7,8,16]) (kq [0,1]) 146 (pc c (pc (uZ _ _ _ _ hr) pn)) ?_
   refine dr 0 16 h (fun jq h=>?_) (fun jq h=>?_)
   ·refine ae hE 1 [] [] (kp [4]) (kq [0,1]) 178 pn ?_
    obtain rfl:=cT h
    exact cZ hE 0 Tryz.f113 [] (kp [4]) (kq [0,1]) 178 pn [] pn
   ·refine ae hE 2 [] [] (kp [0,1,7,8]) (kq [0,1]) 178 pn ?_
    exact cP hE 1 [] (kp [0,1,7,8]) (kq [0,1]) 2 pn (ih _ _ h E hE)
  ·refine ae hE 2 [] [] (kp [4]) (kq [0,1]) 34 pn ?_
   obtain rfl:=cT h
   exact cZ hE 0 Tryz.f113 [] (kp [4]) (kq [0,1]) 50 pn [] pn
theorem mE (N s C1 r) (h:cK N s C1=some r):Sd 113 [(aH ai.cells ai.d s),(.fn (.func 88) [] [(.op 0 0 0),(.op 1 0 0)])] [(0,vO 1 [(.fn (.func 43) [] [])]),(1,vO 6 (ai.cells C1))] 2 (aI r) [(0,vO 1 [(.fn (.func 43) [] [])]),(1,vO 6 (ai.cells C1))]:=by
 unfold cK at h
 refine g8 (fu:=Tryz.f113) (c:=R9 1) (nt:=19) (fun hm=>absurd hm (by decide)) ?_
 intro E hE
 refine ae hE 1 [] [] (kp [0,1]) (kq [0,1]) 18 pn ?_
 refine ae hE 2 [] [] (kp [0,1,7,8]) (kq [0,1]) 66 pn ?_
 exact cP hE 2 [] (kp [0,1,7,8]) (kq [0,1]) 2 pn (lR N _ _ N _ _ h E hE)
noncomputable abbrev Zo:=b8 Tryz.f87
theorem lS (N s C1 r) (h:cl N s C1=some r):Sd 87 [(aH ai.cells ai.d s),(.fn (.func 88) [] [(.op 0 0 0),(.op 1 0 0)])] [(0,vO 1 [(.fn (.func 43) [] [])]),(1,vO 6 (ai.cells C1))] 2 (aB r) [(0,vO 1 [(.fn (.func 43) [] [])]),(1,vO 6 (ai.cells C1))]:=by
 unfold cl at h
 refine g8 (fu:=Tryz.f87) (c:=Zo 1) (nt:=9) (fun hm=>absurd hm (by decide)) ?_
 intro E hE
 refine ae hE 1 [] [] (kp [0,1]) (kq [0,1]) 18 pn ?_
 obtain ⟨wq,hr,h⟩:=aP h
 refine ae hE 1 [(2,⟨[0,1],true,(aI wq),[],0,false,none⟩)] [] (kp [4]) (kq [0,1]) 98 (pc (mE _ _ _ _ hr) pn) ?_
 obtain rfl:=cT h
 exact cZ hE 0 Tryz.f87 [] (kp [4]) (kq [0,1]) 98 pn [] pn
noncomputable abbrev Zp:=b8 Tryz.f46
theorem eT (N n lo hi r) (h:dP N n lo hi=some r):Sd 46 [(aI n),(aI lo),(aI hi)] [] 0 (aB r) []:=by
 unfold dP at h
 refine g8 (fu:=Tryz.f46) (c:=Zp 1) (nt:=15) (fun hm=>rfl) ?_
 intro E hE
 refine ae hE 1 [] [] (kp [0,1,2]) [] 16 pn ?_
 refine ae hE 1 [] [] (kp [6]) [] 160 (pc (fun hg:(!(decide (n < lo)))=true=>(pc hg (pc hg pn))) (pc (fun hq:(!(decide (n < lo)))=true=>(pc hq pn)) pn)) ?_
 obtain rfl:=cT h
 exact cZ hE 0 Tryz.f46 [] (kp [6]) [] 160 pn [] pn
noncomputable abbrev Zq:=b8 Tryz.f44
theorem xS (N x r) (h:kT N x=some r):Sd 44 [(.agg (ai.cells x))] [] 0 (aI r) []:=by
 unfold kT at h
 refine g8 (fu:=Tryz.f44) (c:=Zq 1) (nt:=38) (fun hm=>rfl) ?_
 intro E hE
 refine ae hE 1 [] [] (kp [1]) (kq [0]) 32 pn ?_
 obtain ⟨de,hr,h⟩:=aP h
 obtain ⟨dS,eI,h⟩:=aP h
 obtain ⟨iB,kc,h⟩:=aP h
 obtain ⟨qd,nw,h⟩:=aP h
 obtain ⟨B0,rN,h⟩:=aP h
 refine ae hE 2 [(2,oT (aB de)),(6,oT (aB dS)),(11,oT (aB iB)),(16,oT (aB qd)),(21,oT (aB B0))] [] (kp [1,25]) (kq [0]) 400 (pc o1 (pc (eT _ _ _ _ _ hr) (pc (fun hg:(!de)=true=>(pc hg (pc o1 pn))) (pc (fun hg:(!de)=true=>(pc (eT _ _ _ _ _ (aL eI hg)) (pc hg pn))) (pc (fun hq:(!de)=true=>(pc hq pn)) (pc (fun hg:(!(cond de true dS))=true=>(pc hg (pc o1 pn))) (pc (fun hg:(!(cond de true dS))=true=>(pc (eT _ _ _ _ _ (aL kc hg)) (pc hg pn))) (pc (fun hq:(!(cond de true dS))=true=>(pc hq pn)) (pc (fun hg:(!(cond (cond de true dS) true iB))=true=>(pc hg (pc o1 pn))) (pc (fun hg:(!(cond (cond de true dS) true iB))=true=>(pc (eT _ _ _ _ _ (aL nw hg)) (pc hg pn))) (pc (fun hq:(!(cond (cond de true dS) true iB))=true=>(pc hq pn)) (pc (fun hg:(!(cond (cond (cond de true dS) true iB) true qd))=true=>(pc hg (pc o1 pn))) (pc (fun hg:(!(cond (cond (cond de true dS) true iB) true qd))=true=>(pc (eT _ _ _ _ _ (aL rN hg)) (pc hg pn))) (pc (fun hq:(!(cond (cond (cond de true dS) true iB) true qd))=true=>(pc hq pn)) pn)))))))))))))) ?_
 refine dr 0 25 h (fun ee h=>?_) (fun ee h=>?_)
 ·refine ae hE 1 [] [] (kp [2]) [] 416 pn ?_
  obtain rfl:=cT h
  exact cZ hE 0 Tryz.f44 [] (kp [2]) [] 416 pn [] pn
 ·refine ae hE 3 [] [] (kp [37]) [] 592 (pc o1 (pc o1 (pc (fun hg:(x.jf == x.bX)=true=>(pc hg (pc o1 pn))) (pc (fun hg:(x.jf == x.bX)=true=>(pc hg (pc o1 pn))) (pc (fun hg:(x.jf == x.bX)=true=>(pc hg (pc hg pn))) (pc (fun hq:(x.jf == x.bX)=true=>(pc hq pn)) pn)))))) ?_
  refine dr 0 37 h (fun jq h=>?_) (fun jq h=>?_)
  ·refine ae hE 1 [] [] (kp [2]) [] 608 pn ?_
   obtain rfl:=cT h
   exact cZ hE 0 Tryz.f44 [] (kp [2]) [] 608 pn [] pn
  ·refine ae hE 2 [] [] (kp [2]) [] 608 pn ?_
   obtain rfl:=cT h
   exact cZ hE 0 Tryz.f44 [] (kp [2]) [] 608 pn [] pn
noncomputable abbrev Sa:=b8 Tryz.f42
def u5 (N:Nat) (l:List ai) (K:Int→Option (Int)):Prop:=∀ (x:Int) (r:Int),K x=some r→∀ E,bh E 0→aE Tryz.prog E 42 40 (aW E [] (aI r)) [.code (Sa 116),.inLoop (Sa 116),.inBlock 0,.code (Sa 15)] ⟨[(0,(aH ai.cells ai.d l)),(3,(.fn (.func 44) [] [])),(6,(.op 0 0 0)),(16,(aH ai.cells ai.d l)),(17,(aI ((l.length:Nat):Int))),(18,(aI x))],[(0,vO 1 [(.fn (.func 43) [] [])])],1⟩
theorem ug (N l fuel):u5 N l (dh N l fuel):=by
 induction fuel with
 | zero=>intro _ r h;rw [dh.eq_1] at h;cases h
 | succ fuel ih =>
  intro x r h E hE
  rw [dh.eq_2] at h
  refine ae hE 1 [] [] (kp [0,3,6,16,17,18,19]) (kq [0]) 17 pn ?_
  refine dr 1 19 h (fun jq h=>?_) (fun jq h=>?_)
  ·obtain ⟨c,h⟩:=ab h
   refine ae hE 4 [] [] (kp [0,3,6,9,10,16,17,18]) (kq [0,65]) 113 (pc c (pc o1 pn)) ?_
   obtain ⟨lI,hr,h⟩:=aP h
   obtain ⟨K2,eI,h⟩:=aP h
   refine ae hE 2 [(2,oT (aS lI)),(3,oT (aB K2))] [] (kp [0,3,6,9,10,16,17,18,27]) (kq [0,65]) 193 (pc o1 (pc o1 (pc (lu _ _ _ hr) (pc (Cd _ _ _ eI) pn)))) ?_
   refine dr 0 27 h (fun ti h=>?_) (fun ti h=>?_)
   ·refine ae hE 1 [] [] (kp [8]) [] 209 pn ?_
    obtain rfl:=cT h
    exact cZ hE 0 Tryz.f42 [] (kp [8]) [] 209 pn [] pn
   ·obtain ⟨c2,h⟩:=ab h
    obtain ⟨c3,h⟩:=ab h
    obtain ⟨wq,kc,h⟩:=aP h
    refine ae hE 3 [(4,⟨[0,65],true,(aB wq),[],0,false,none⟩)] [] (kp [0,3,6,10,16,17,18,32]) (kq [0,65]) 273 (pc c2 (pc c3 (pc (show Sd 87 [(.sl ((x).toNat - 0) (fun zi=>ai.cells (l.getD (bu 0 zi) ai.d))),(.fn (.func 88) [] [(.op 0 0 0),(.op 1 0 0)])] [(0,vO 1 [(.fn (.func 43) [] [])]),(1,vO 6 (ai.cells (l.getD ((x).toNat) ai.d)))] 2 (aB wq) [(0,vO 1 [(.fn (.func 43) [] [])]),(1,vO 6 (ai.cells (l.getD ((x).toNat) ai.d)))] from (Sound.conv (lS _ _ _ _ kc) (.cons (Alike.sl (xz l 0 ((x).toNat) c2) (fun zq g9=>DR ai.cells ai.d l 0 ((x).toNat) zq g9)) (.cons (Alike.refl _) .nil)))) pn))) ?_
    refine dr 0 32 h (fun Dc h=>?_) (fun Dc h=>?_)
    ·refine ae hE 1 [] [] (kp [8]) [] 289 pn ?_
     obtain rfl:=cT h
     exact cZ hE 0 Tryz.f42 [] (kp [8]) [] 289 pn [] pn
    ·obtain ⟨lJ,nw,h⟩:=aP h
     refine ae hE 2 [(2,oT (aI lJ))] [] (kp [0,3,6,11,16,17,18]) (kq [0]) 337 (pc o1 (pc (xS _ _ _ nw) pn)) ?_
     refine ae hE 1 [] [] (kp [0,3,6,11,16,17,18,37]) (kq [0]) 369 pn ?_
     refine dr 0 37 h (fun H6 h=>?_) (fun H6 h=>?_)
     ·refine ae hE 1 [] [] (kp [8]) [] 401 pn ?_
      obtain rfl:=cT h
      exact cZ hE 0 Tryz.f42 [] (kp [8]) [] 401 pn [] pn
     ·refine ae hE 2 [] [] (kp [0,3,6,16,17,18]) (kq [0]) 401 pn ?_
      exact cP hE 1 [] (kp [0,3,6,16,17,18]) (kq [0]) 1 pn (ih _ _ h E hE)
  ·refine ae hE 2 [] [] (kp [8]) [] 33 pn ?_
   obtain rfl:=cT h
   exact cZ hE 0 Tryz.f42 [] (kp [8]) [] 48 pn [] pn
theorem wX (N l di r) (h:lK N l di=some r):Sd 42 [(aH ai.cells ai.d l),(aI di),(.fn (.func 43) [] []),(.fn (.func 44) [] [])] [] 0 (aI r) []:=by
 unfold lK at h
 refine g8 (fu:=Tryz.f42) (c:=Sa 1) (nt:=40) (fun hm=>rfl) ?_
 intro E hE
 refine ae hE 1 [] [] (kp [0,1,3,6]) (kq [0]) 32 pn ?_
 refine ae hE 2 [] [] (kp [0,3,6,15]) (kq [0]) 96 pn ?_
 refine dr 0 15 h (fun ee h=>?_) (fun ee h=>?_)
 ·refine ae hE 1 [] [] (kp [8]) [] 112 pn ?_
  obtain rfl:=cT h
  exact cZ hE 0 Tryz.f42 [] (kp [8]) [] 112 pn [] pn
 ·refine ae hE 3 [] [] (kp [0,3,6,16,17,18]) (kq [0]) 144 pn ?_
  exact cP hE 2 [] (kp [0,3,6,16,17,18]) (kq [0]) 1 pn (ug N _ N _ _ h E hE)
noncomputable abbrev Zr:=b8 Tryz.f20
theorem mj (N l r) (h:eR N l=some r):Sd 20 [(aH ai.cells ai.d l)] [] 0 (aI r) []:=by
 unfold eR at h
 refine g8 (fu:=Tryz.f20) (c:=Zr 1) (nt:=5) (fun hm=>rfl) ?_
 intro E hE
 refine ae hE 1 [] [] (kp [0]) [] 16 pn ?_
 obtain ⟨wq,hr,h⟩:=aP h
 refine ae hE 1 [(1,oT (aI wq))] [] (kp [2]) [] 64 (pc (wX _ _ _ _ hr) pn) ?_
 obtain rfl:=cT h
 exact cZ hE 0 Tryz.f20 [] (kp [2]) [] 64 pn [] pn
noncomputable abbrev Lb:=b8 Tryz.f41
def tC (N:Nat) (l:ai) (K:Int→Int→Option (Int)):Prop:=∀ (root:Int) (x:Int) (r:Int),K root x=some r→∀ E,bh E 0→aE Tryz.prog E 41 43 (aW E [] (aI r)) [.code (Lb 500),.inLoop (Lb 500),.inBlock 0,.code (Lb 63)] ⟨[(5,(aI (ag ((ag ((ag (l.bX - l.jf)) * (ag (l.bX - l.jf))))+(ag ((ag (l.cz - l.jR)) * (ag (l.cz - l.jR)))))))),(6,(aI root)),(26,(aI x))],[],0⟩
def A3 (N:Nat) (l:ai) (x:Int) (K:Int→Option (Int)):Prop:=∀ (JC:Int) (r:Int),K JC=some r→∀ E,bh E 0→aE Tryz.prog E 41 43 (aW E [] (aI r)) [.code (Lb 4007),.inLoop (Lb 500),.inBlock 0,.code (Lb 63)] ⟨[(5,(aI (ag ((ag ((ag (l.bX - l.jf)) * (ag (l.bX - l.jf))))+(ag ((ag (l.cz - l.jR)) * (ag (l.cz - l.jR)))))))),(6,(aI JC)),(26,(aI x))],[],0⟩
theorem sS (N:Nat) (l:ai) (x:Int) (mz:Int→Int→Option (Int)) (z5:tC N l mz):A3 N l x (l5 N l x mz):=by
 intro JC r h E hE
 unfold l5 at h
 refine ae hE 0 [] [] (kp [5,6,26]) [] 32 pn ?_
 exact cP hE 1 [] (kp [5,6,26]) [] 0 pn (z5 _ _ _ h E hE)
theorem z6 (N l fuel):tC N l (fV N l fuel):=by
 induction fuel with
 | zero=>intro _ _ r h;rw [fV.eq_1] at h;cases h
 | succ fuel ih =>
  intro root x r h E hE
  rw [fV.eq_2] at h
  refine ae hE 1 [] [] (kp [5,6,26,27]) [] 16 pn ?_
  refine dr 1 27 h (fun ee h=>?_) (fun ee h=>?_)
  ·refine ae hE 4 [] [] (kp [5,6,7,26]) [] 48 pn ?_
   obtain ⟨c,h⟩:=ab h
   refine ae hE 1 [] [] (kp [5,6,8,26]) [] 144 (pc c pn) ?_
   refine ae hE 1 [] [] (kp [5,6,8,26,38]) [] 224 pn ?_
   refine dr 0 38 h (fun jq h=>?_) (fun jq h=>?_)
   ·refine ae hE 0 [] [] (kp [5,6,26]) [] 256 pn ?_
    exact cP hE 1 [] (kp [5,6,26]) [] 0 pn (sS N _ _ _ ih _ _ h E hE)
   ·exact cP hE 2 [] (kp [5,6,26]) [] 0 pn (sS N _ _ _ ih _ _ h E hE)
  ·refine ae hE 2 [] [] (kp [2]) [] 64 pn ?_
   obtain rfl:=cT h
   exact cZ hE 0 Tryz.f41 [] (kp [2]) [] 64 pn [] pn
theorem wC (N l r) (h:np N l=some r):Sd 41 [(.agg (ai.cells l))] [] 0 (aI r) []:=by
 unfold np at h
 refine g8 (fu:=Tryz.f41) (c:=Lb 1) (nt:=43) (fun hm=>rfl) ?_
 intro E hE
 refine ae hE 1 [] [] (kp [1]) (kq [0]) 32 pn ?_
 refine ae hE 1 [] [] (kp [3,4]) [] 224 (pc o1 (pc o1 (pc o1 (pc o1 pn)))) ?_
 refine ae hE 1 [] [] (kp [5]) [] 352 pn ?_
 refine ae hE 1 [] [] (kp [5,6]) [] 368 pn ?_
 refine ae hE 2 [] [] (kp [5,6,26]) [] 384 pn ?_
 exact cP hE 2 [] (kp [5,6,26]) [] 0 pn (z6 N _ N _ _ _ h E hE)
noncomputable abbrev Zs:=b8 Tryz.f19
theorem Du (N l r) (h:pD N l=some r):Sd 19 [(.agg (ai.cells l))] [] 0 (.tup [(aI r.1),(aI r.2)]) []:=by
 unfold pD at h
 refine g8 (fu:=Tryz.f19) (c:=Zs 1) (nt:=13) (fun hm=>rfl) ?_
 intro E hE
 refine ae hE 1 [] [] (kp [1]) (kq [0]) 48 pn ?_
 obtain ⟨bm,hr,h⟩:=aP h
 refine ae hE 2 [(2,oT (aI bm))] [] (kp [1,4]) (kq [0]) 112 (pc o1 (pc (show Sd 20 [(.sl 1 (fun zi=>(fun zi=>([[(aS l.fY),(aI l.jf),(aI l.jR),(aI l.bX),(aI l.cz),(aI l.nH)]]:List (List AV)).getD zi []) (bu 0 zi)))] [] 0 (aI bm) [] from (Sound.conv (mj _ _ _ hr) (.cons (Alike.sl rfl (fun zq g9=>b9 ai.cells ai.d ([l]:List ai) zq g9)) .nil))) (pc (z1 1) pn))) ?_
 refine ae hE 1 [] [] (kp [1,4,9]) (kq [0]) 144 pn ?_
 refine dr 0 9 h (fun ee h=>?_) (fun ee h=>?_)
 ·refine ae hE 1 [] [] (kp [2,3]) [] 192 pn ?_
  obtain rfl:=cT h
  exact cZ hE 0 Tryz.f19 [] (kp [2,3]) [] 192 pn [] pn
 ·obtain ⟨E0,eI,h⟩:=aP h
  refine ae hE 2 [(1,oT (aI E0))] [] (kp [2,3]) [] 208 (pc o1 (pc (wC _ _ _ eI) pn)) ?_
  obtain rfl:=cT h
  exact cZ hE 0 Tryz.f19 [] (kp [2,3]) [] 208 pn [] pn
noncomputable abbrev Zt:=b8 Tryz.f6
theorem Fp (N r) (h:qC N=some r):Sd 6 [] [] 0 (aB r) []:=by
 unfold qC at h
 refine g8 (fu:=Tryz.f6) (c:=Zt 1) (nt:=14) (fun hm=>rfl) ?_
 intro E hE
 refine ae hE 1 [] [] [] [] 16 pn ?_
 obtain ⟨xE,hr,h⟩:=aP h
 refine ae hE 1 [(1,oT (.tup [(aI xE.1),(aI xE.2)]))] [] (kp [1,2]) [] 128 (pc (Du _ _ _ hr) pn) ?_
 refine ae hE 1 [] [] (kp [0]) [] 240 (pc (fun hg:(xE.2 == 0)=true=>(pc hg pn)) (pc (fun hq:(xE.2 == 0)=true=>(pc hq pn)) pn)) ?_
 obtain rfl:=cT h
 exact cZ hE 0 Tryz.f6 [] (kp [0]) [] 240 pn [] pn
noncomputable abbrev Sb:=b8 Tryz.f7
def Ce (N:Nat) (l:List ai) (K:Int→Option (Bool)):Prop:=∀ (i:Int) (r:Bool),K i=some r→∀ E,bh E 0→aE Tryz.prog E 7 20 (aW E [] (aB r)) [.code (Sb 52),.inLoop (Sb 52),.inBlock 0,.code (Sb 7)] ⟨[(0,(aH ai.cells ai.d l)),(3,(aI i))],[],0⟩
theorem A4 (N l fuel):Ce N l (iZ N l fuel):=by
 induction fuel with
 | zero=>intro _ r h;rw [iZ.eq_1] at h;cases h
 | succ fuel ih =>
  intro i r h E hE
  rw [iZ.eq_2] at h
  refine ae hE 2 [] [] (kp [0,3,7]) [] 64 pn ?_
  refine dr 0 7 h (fun ee h=>?_) (fun ee h=>?_)
  ·obtain ⟨c,h⟩:=ab h
   refine ae hE 4 [] [] (kp [0,3,16]) [] 176 (pc c pn) ?_
   refine dr 0 16 h (fun jq h=>?_) (fun jq h=>?_)
   ·refine ae hE 1 [] [] (kp [2]) [] 192 pn ?_
    obtain rfl:=cT h
    exact cZ hE 0 Tryz.f7 [] (kp [2]) [] 192 pn [] pn
   ·refine ae hE 2 [] [] (kp [0,3]) [] 224 pn ?_
    exact cP hE 1 [] (kp [0,3]) [] 0 pn (ih _ _ h E hE)
  ·refine ae hE 2 [] [] (kp [2]) [] 128 pn ?_
   obtain rfl:=cT h
   exact cZ hE 0 Tryz.f7 [] (kp [2]) [] 128 pn [] pn
theorem Fq (N l r) (h:qD N l=some r):Sd 7 [(aH ai.cells ai.d l)] [] 0 (aB r) []:=by
 unfold qD at h
 refine g8 (fu:=Tryz.f7) (c:=Sb 1) (nt:=20) (fun hm=>rfl) ?_
 intro E hE
 refine ae hE 1 [] [] (kp [0]) [] 16 pn ?_
 refine ae hE 2 [] [] (kp [0,3]) [] 32 pn ?_
 exact cP hE 2 [] (kp [0,3]) [] 0 pn (A4 N _ N _ _ h E hE)
noncomputable abbrev Zu:=b8 Tryz.f45
theorem A5 (N Mf r) (h:pE N Mf=some r):Sd 45 [(aB Mf)] [] 0 (aI r) []:=by
 unfold pE at h
 refine g8 (fu:=Tryz.f45) (c:=Zu 1) (nt:=4) (fun hm=>rfl) ?_
 intro E hE
 refine ae hE 1 [] [] (kp [0]) [] 16 pn ?_
 refine ae hE 2 [] [] (kp [3]) [] 32 pn ?_
 refine dr 0 3 h (fun ee h=>?_) (fun ee h=>?_)
 ·refine ae hE 1 [] [] (kp [2]) [] 48 pn ?_
  obtain rfl:=cT h
  exact cZ hE 0 Tryz.f45 [] (kp [2]) [] 48 pn [] pn
 ·refine ae hE 2 [] [] (kp [2]) [] 48 pn ?_
  obtain rfl:=cT h
  exact cZ hE 0 Tryz.f45 [] (kp [2]) [] 48 pn [] pn
noncomputable abbrev Zv:=b8 Tryz.f21
theorem qL (N w r) (h:gP N w=some r):Sd 21 [(.agg (bJ.cells w))] [] 0 (aI r) []:=by
 unfold gP at h
 refine g8 (fu:=Tryz.f21) (c:=Zv 1) (nt:=17) (fun hm=>rfl) ?_
 intro E hE
 refine ae hE 1 [] [] (kp [1]) (kq [0]) 32 pn ?_
 obtain ⟨de,hr,h⟩:=aP h
 obtain ⟨dS,eI,h⟩:=aP h
 obtain ⟨iB,kc,h⟩:=aP h
 obtain ⟨H0,nw,h⟩:=aP h
 refine ae hE 1 [(2,oT (aB de)),(6,oT (aB dS)),(11,oT (aB iB)),(13,oT (aI H0))] [] (kp [2]) [] 272 (pc o1 (pc (eT _ _ _ _ _ hr) (pc (fun hg:(!de)=true=>(pc hg (pc o1 pn))) (pc (fun hg:(!de)=true=>(pc (eT _ _ _ _ _ (aL eI hg)) (pc hg pn))) (pc (fun hq:(!de)=true=>(pc hq pn)) (pc (fun hg:(!(cond de true dS))=true=>(pc hg (pc o1 pn))) (pc (fun hg:(!(cond de true dS))=true=>(pc (eT _ _ _ _ _ (aL kc hg)) (pc hg pn))) (pc (fun hq:(!(cond de true dS))=true=>(pc hq pn)) (pc (A5 _ _ _ nw) pn))))))))) ?_
 obtain rfl:=cT h
 exact cZ hE 0 Tryz.f21 [] (kp [2]) [] 272 pn [] pn
noncomputable abbrev Zw:=b8 Tryz.f48
theorem eu (N n r) (h:er N n=some r):Sd 48 [(aI n)] [] 0 (.agg (ak r)) []:=by
 unfold er at h
 refine g8 (fu:=Tryz.f48) (c:=Zw 1) (nt:=6) (fun hm=>rfl) ?_
 intro E hE
 refine ae hE 1 [] [] (kp [0,2]) (kq [0]) 16 pn ?_
 obtain ⟨F2,hr,h⟩:=aP h
 obtain ⟨zS,eI,h⟩:=aP h
 refine ae hE 1 [(1,oT (.agg (lg F2))),(2,oT (.agg (ak zS)))] [] (kp [2]) (kq [0]) 80 (pc (yG _ _ _ hr) (pc (AZ _ _ _ eI) (pc o1 pn))) ?_
 obtain rfl:=cT h
 exact cZ hE 0 Tryz.f48 [] (kp [2]) [(16,.ah 0)] 80 pn [16] (pc o1 pn)
noncomputable abbrev Zx:=b8 Tryz.f47
theorem Cf (N w r) (h:qj N w=some r):Sd 47 [(.agg (bJ.cells w))] [] 0 (.agg (av.cells r)) []:=by
 unfold qj at h
 refine g8 (fu:=Tryz.f47) (c:=Zx 1) (nt:=13) (fun hm=>rfl) ?_
 intro E hE
 refine ae hE 1 [] [] (kp [1,2]) (kq [0,16]) 32 pn ?_
 obtain ⟨g7,hr,h⟩:=aP h
 obtain ⟨dA,eI,h⟩:=aP h
 obtain ⟨dB,kc,h⟩:=aP h
 refine ae hE 1 [(2,oT (.agg (ak g7))),(5,oT (.agg (ak dA))),(8,oT (.agg (ak dB)))] [] (kp [2]) (kq [16]) 208 (pc o1 (pc (eu _ _ _ hr) (pc o1 (pc (eu _ _ _ eI) (pc o1 (pc (eu _ _ _ kc) (pc o1 pn))))))) ?_
 obtain rfl:=cT h
 exact cZ hE 0 Tryz.f47 [] (kp [2]) (kq [16]) 208 pn [16] (pc o1 pn)
noncomputable abbrev Zy:=b8 Tryz.f91
theorem Ic (N a b r) (h:yC N a b=some r):Sd 91 [(aI a),(aI b)] [] 0 (.tup [(.agg (ak r.1)),(aI r.2)]) []:=by
 unfold yC at h
 refine g8 (fu:=Tryz.f91) (c:=Zy 1) (nt:=14) (fun hm=>rfl) ?_
 intro E hE
 refine ae hE 1 [] [] (kp [0,1,4]) (kq [0]) 32 pn ?_
 refine ae hE 2 [] [] (kp [0,1,4,7]) (kq [0]) 64 pn ?_
 refine dr 0 7 h (fun ee h=>?_) (fun ee h=>?_)
 ·refine ae hE 1 [] [] (kp [4,5]) (kq [0]) 112 (pc o1 pn) ?_
  obtain rfl:=cT h
  exact cZ hE 0 Tryz.f91 [] (kp [4,5]) [(16,.var 0 [.ah,.sl (([]:List Int).length) (fun zi=>(cU .u16) (([]:List Int).getD zi 0)),.ah,.sl (([]:List Int).length) (fun zi=>(cU .u16) (([]:List Int).getD zi 0))])] 112 (pc (Eq.refl 0) (pc (Eq.refl 0) pn)) [16] (pc o1 pn)
 ·obtain ⟨F2,hr,h⟩:=aP h
  obtain ⟨K3,eI,h⟩:=aP h
  obtain ⟨Bx,kc,h⟩:=aP h
  refine ae hE 2 [(1,oT (.agg (lg F2))),(3,oT (.agg (lg K3))),(4,oT (.agg (ak Bx)))] [] (kp [4,5]) (kq [0]) 176 (pc (yG _ _ _ hr) (pc (yG _ _ _ eI) (pc (jr _ _ _ _ kc) (pc o1 pn)))) ?_
  obtain rfl:=cT h
  exact cZ hE 0 Tryz.f91 [] (kp [4,5]) [(16,.ah 0)] 176 pn [16] (pc o1 pn)
noncomputable abbrev Zz:=b8 Tryz.f50
theorem rf (N l r) (h:nr N l=some r):Sd 50 [(.agg (ai.cells l))] [] 0 (.agg (av.cells r)) []:=by
 unfold nr at h
 refine g8 (fu:=Tryz.f50) (c:=Zz 1) (nt:=47) (fun hm=>rfl) ?_
 intro E hE
 refine ae hE 1 [] [] (kp [1,2]) (kq [0,16]) 32 pn ?_
 obtain ⟨E0,hr,h⟩:=aP h
 obtain ⟨E2,eI,h⟩:=aP h
 refine ae hE 1 [(3,oT (aI E0)),(4,oT (.tup [(.agg (ak E2.1)),(aI E2.2)]))] [] (kp [1,2,3]) (kq [0,16,160]) 208 (pc o1 (pc o1 (pc (wC _ _ _ hr) (pc (Ic _ _ _ _ eI) (pc o1 pn))))) ?_
 obtain ⟨g7,kc,h⟩:=aP h
 obtain ⟨ct,nw,h⟩:=aP h
 obtain ⟨dA,rN,h⟩:=aP h
 obtain ⟨du,xK,h⟩:=aP h
 refine ae hE 1 [(6,oT (.agg (ak g7))),(7,oT (.agg (ak ct))),(14,oT (.agg (ak dA))),(15,oT (.agg (ak du)))] [] (kp [1,2,5,6]) (kq [0,16,464,480]) 528 (pc o1 (pc o1 (pc o1 (pc (eu _ _ _ kc) (pc (fO _ _ _ _ nw) (pc o1 (pc o1 (pc o1 (pc (eu _ _ _ rN) (pc (fO _ _ _ _ xK) (pc o1 (pc o1 pn)))))))))))) ?_
 obtain ⟨dB,yX,h⟩:=aP h
 obtain ⟨gN,Gh,h⟩:=aP h
 obtain ⟨H2,Gg,h⟩:=aP h
 obtain ⟨sE,zY,h⟩:=aP h
 obtain ⟨au,Cc,h⟩:=aP h
 refine ae hE 1 [(2,oT (.agg (ak dB))),(4,oT (.agg (ak gN))),(7,oT (.agg (ak H2))),(9,oT (.agg (ak sE))),(10,oT (.agg (ak au)))] [] (kp [2,5,6,7]) (kq [16,464,480,704]) 736 (pc o1 (pc (eu _ _ _ yX) (pc o1 (pc (fO _ _ _ _ Gh) (pc o1 (pc (eu _ _ _ Gg) (pc o1 (pc (fO _ _ _ _ zY) (pc (eY _ _ _ _ Cc) (pc o1 pn)))))))))) ?_
 refine ae hE 1 [] [] (kp [2]) (kq [16]) 816 (pc o1 (pc o1 (pc o1 (pc o1 pn)))) ?_
 obtain rfl:=cT h
 exact cZ hE 0 Tryz.f50 [] (kp [2]) (kq [16]) 816 pn [16] (pc o1 pn)
noncomputable abbrev e8:=b8 Tryz.f22
def A6 (N:Nat) (l:List ai) (aq:av) (K:(List af)→Int→Option (bF)):Prop:=∀ (rows:List af) (x:Int) (r:bF),K rows x=some r→∀ E,bh E 0→aE Tryz.prog E 22 137 (aW E [] (.agg (bF.cells r))) [.code (e8 500),.inLoop (e8 500),.inBlock 0,.code (e8 63)] ⟨[(0,(aH ai.cells ai.d l)),(4,(.op 0 0 0)),(5,(aI ((l.length:Nat):Int))),(6,(.op 1 0 0)),(7,(.os 2 0 rows.length)),(26,(aI ((l.length:Nat):Int))),(27,(aI x))],[(0,vO 3 [(aB false),.nil,.nil]),(1,vO 12 (av.cells aq)),(2,aO 5 wo af.d rows)],3⟩
def A7 (N:Nat) (l:List ai) (aq:av) (rows:List af) (au:aa) (K:(List aa)→(List aa)→Int→Option (bF)):Prop:=∀ (di:List aa) (least:List aa) (x2:Int) (r:bF),K di least x2=some r→∀ E,bh E 0→aE Tryz.prog E 22 137 (aW E [] (.agg (bF.cells r))) [.code (e8 1037108),.inLoop (e8 1037108),.inBlock 4,.code (e8 129639),.inBlock 3,.code (e8 8103),.inLoop (e8 1012),.inBlock 2,.code (e8 127)] ⟨[(0,(aH ai.cells ai.d l)),(4,(.op 0 0 0)),(5,(aI ((l.length:Nat):Int))),(6,(.op 1 0 0)),(7,(.os 2 0 rows.length)),(11,(aI 0)),(12,(.op 3 0 0)),(13,(.op 5 0 0)),(53,(aI 0)),(66,(aH ai.cells ai.d l)),(67,(aI ((l.length:Nat):Int))),(68,(aI x2))],[(0,vO 3 [(aB false),.nil,.nil]),(1,vO 12 (av.cells aq)),(2,aO 5 wo af.d rows),(3,vN 5 [(.os 4 0 di.length),(aB au.fN.fG),(eU au.fN.fL),(aB au.fD.fG),(eU au.fD.fL)]),(4,aO 4 ak aa.d di),(5,vN 5 [(.os 6 0 least.length),(aB aq.e0.fN.fG),(eU aq.e0.fN.fL),(aB aq.e0.fD.fG),(eU aq.e0.fD.fL)]),(6,aO 4 ak aa.d least)],7⟩
def A8 (N:Nat) (l:List ai) (aq:av) (rows:List af) (au:aa) (di:List aa) (least:List aa) (aR:aa) (K:(List aa)→(List aa)→Int→Option (bF)):Prop:=∀ (cN:List aa) (bw:List aa) (x3:Int) (r:bF),K cN bw x3=some r→∀ E,bh E 0→aE Tryz.prog E 22 137 (aW E [] (.agg (bF.cells r))) [.code (e8 1037108),.inLoop (e8 1037108),.inBlock 4,.code (e8 129639),.inBlock 3,.code (e8 8103),.inLoop (e8 1012),.inBlock 2,.code (e8 127)] ⟨[(0,(aH ai.cells ai.d l)),(4,(.op 0 0 0)),(5,(aI ((l.length:Nat):Int))),(6,(.op 1 0 0)),(7,(.os 2 0 ((rows ++ ([(⟨di,au⟩:af),(⟨least,aq.e0⟩:af)]:List af)).length))),(11,(aI 1)),(12,(.op 3 0 0)),(13,(.op 5 0 0)),(53,(aI 1)),(66,(aH ai.cells ai.d l)),(67,(aI ((l.length:Nat):Int))),(68,(aI x3))],[(0,vO 3 [(aB false),.nil,.nil]),(1,vO 12 (av.cells aq)),(2,aO 5 wo af.d (rows ++ ([(⟨di,au⟩:af),(⟨least,aq.e0⟩:af)]:List af))),(3,vN 5 [(.os 4 0 cN.length),(aB aR.fN.fG),(eU aR.fN.fL),(aB aR.fD.fG),(eU aR.fD.fL)]),(4,aO 4 ak aa.d cN),(5,vN 5 [(.os 6 0 bw.length),(aB aq.e1.fN.fG),(eU aq.e1.fN.fL),(aB aq.e1.fD.fG),(eU aq.e1.fD.fL)]),(6,aO 4 ak aa.d bw)],7⟩
def A9 (N:Nat) (l:List ai) (aq:av) (rows:List af) (au:aa) (di:List aa) (least:List aa) (aR:aa) (cN:List aa) (bw:List aa) (cL:aa) (K:(List aa)→(List aa)→Int→Option (bF)):Prop:=∀ (gu:List aa) (dT:List aa) (x4:Int) (r:bF),K gu dT x4=some r→∀ E,bh E 0→aE Tryz.prog E 22 137 (aW E [] (.agg (bF.cells r))) [.code (e8 1037108),.inLoop (e8 1037108),.inBlock 4,.code (e8 129639),.inBlock 3,.code (e8 8103),.inLoop (e8 1012),.inBlock 2,.code (e8 127)] ⟨[(0,(aH ai.cells ai.d l)),(4,(.op 0 0 0)),(5,(aI ((l.length:Nat):Int))),(6,(.op 1 0 0)),(7,(.os 2 0 (((rows ++ ([(⟨di,au⟩:af),(⟨least,aq.e0⟩:af)]:List af)) ++ ([(⟨cN,aR⟩:af),(⟨bw,aq.e1⟩:af)]:List af)).length))),(11,(aI 2)),(12,(.op 3 0 0)),(13,(.op 5 0 0)),(53,(aI 2)),(66,(aH ai.cells ai.d l)),(67,(aI ((l.length:Nat):Int))),(68,(aI x4))],[(0,vO 3 [(aB false),.nil,.nil]),(1,vO 12 (av.cells aq)),(2,aO 5 wo af.d ((rows ++ ([(⟨di,au⟩:af),(⟨least,aq.e0⟩:af)]:List af)) ++ ([(⟨cN,aR⟩:af),(⟨bw,aq.e1⟩:af)]:List af))),(3,vN 5 [(.os 4 0 gu.length),(aB cL.fN.fG),(eU cL.fN.fL),(aB cL.fD.fG),(eU cL.fD.fL)]),(4,aO 4 ak aa.d gu),(5,vN 5 [(.os 6 0 dT.length),(aB aq.e2.fN.fG),(eU aq.e2.fN.fL),(aB aq.e2.fD.fG),(eU aq.e2.fD.fL)]),(6,aO 4 ak aa.d dT)],7⟩
theorem z7 (N l aq rows au di least aR cN bw cL fuel):A9 N l aq rows au di least aR cN bw cL (dq N l aq rows au di least aR cN bw cL fuel):=by
 induction fuel with
 | zero=>intro _ _ _ r h;rw [dq.eq_1] at h;cases h
 | succ fuel ih =>
  intro gu dT x4 r h E hE
  rw [dq.eq_2] at h
  refine ae hE 1 [] [] (kp [0,4,5,6,7,11,12,13,53,66,67,68,69]) (kq [0,1,2,3,4,5,6]) 23 pn ?_
  refine dr 1 69 h (fun Dc h=>?_) (fun Dc h=>?_)
  ·obtain ⟨Ns,h⟩:=ab h
   refine ae hE 4 [] [] (kp [0,4,5,6,7,11,12,13,15,53,66,67,68]) (kq [0,1,2,3,4,5,6,55]) 87 (pc Ns (pc o1 pn)) ?_
   obtain ⟨kn,Ia,h⟩:=aP h
   refine ae hE 1 [(1,oT (.agg (av.cells kn)))] [] (kp [0,4,5,6,7,11,12,13,16,53,66,67,68]) (kq [0,1,2,3,4,5,6,151]) 183 (pc o1 (pc (rf _ _ _ Ia) (pc (show 0≤(2:Int)∧(2:Int) < ((3:Nat):Int) by decide) (pc o1 pn)))) ?_
   obtain ⟨JG,h⟩:=ab h
   obtain ⟨fH,Ib,h⟩:=aP h
   obtain ⟨Mg,h⟩:=ab h
   refine ae hE 0 [(9,oT (.agg (ak fH)))] [] (kp [0,4,5,6,7,11,12,13,53,66,67,68]) (kq [0,1,2] ++ [(3,.var 3 [.kD ((gu ++ ([kn.e2]:List aa)).length),.ah,.ah,.ah,.ah]),(5,.var 5 [.kD ((dT ++ ([fH]:List aa)).length),.ah,.ah,.ah,.ah]),(247,.arr 247 ((gu ++ ([kn.e2]:List aa)).length) (fun zi=>ak ((gu ++ ([kn.e2]:List aa)).getD zi aa.d))),(359,.arr 359 ((dT ++ ([fH]:List aa)).length) (fun zi=>ak ((dT ++ ([fH]:List aa)).getD zi aa.d)))]) 439 (pc o1 (pc o1 (pc (Eq.refl gu.length) (pc JG (pc (z1 1) (pc (show ∀ zi,zi < 1→AV.iy ((fun zi=>([[(aB kn.e2.fN.fG),(eU kn.e2.fN.fL),(aB kn.e2.fD.fG),(eU kn.e2.fD.fL)]]:List (List AV)).getD zi []) (bu 0 zi))=true from (qw rfl)) (pc o1 (pc o1 (pc (show Sd 49 [(.agg [(aB false),.nil,(aB false),.nil]),(.agg (ak kn.e2))] [] 0 (.agg (ak fH)) [] from (Sound.conv (eY _ _ _ _ Ib) (.cons (Alike.agg (.cons (Alike.refl _) (.cons Alike.nil (.cons (Alike.refl _) (.cons Alike.nil .nil))))) (.cons (Alike.refl _) .nil)))) (pc (Eq.refl dT.length) (pc Mg (pc (z1 1) (pc (show ∀ zi,zi < 1→AV.iy ((fun zi=>([[(aB fH.fN.fG),(eU fH.fN.fL),(aB fH.fD.fG),(eU fH.fD.fL)]]:List (List AV)).getD zi []) (bu 0 zi))=true from (qw rfl)) (pc o1 (pc o1 (pc (show (gu.length+1)=(gu ++ ([kn.e2]:List aa)).length from (ax rfl rfl)) (pc (show (dT.length+1)=(dT ++ ([fH]:List aa)).length from (ax rfl rfl)) (pc (show gu.length+1=(gu ++ ([kn.e2]:List aa)).length from (ax rfl rfl)) (pc (show ∀ zi,zi < (gu ++ ([kn.e2]:List aa)).length→(fun zi=>ak ((gu ++ ([kn.e2]:List aa)).getD zi aa.d)) zi=((fun zm=>if zm < gu.length then (fun zi=>ak (gu.getD zi aa.d)) zm else (fun zi=>([[(aB kn.e2.fN.fG),(eU kn.e2.fN.fL),(aB kn.e2.fD.fG),(eU kn.e2.fD.fL)]]:List (List AV)).getD zi []) (zm - gu.length))) zi from (bL ak aa.d gu ([kn.e2]:List aa) rfl (fun _ _=>rfl) (fun zq g9=>b9 ak aa.d ([kn.e2]:List aa) zq g9))) (pc (show dT.length+1=(dT ++ ([fH]:List aa)).length from (ax rfl rfl)) (pc (show ∀ zi,zi < (dT ++ ([fH]:List aa)).length→(fun zi=>ak ((dT ++ ([fH]:List aa)).getD zi aa.d)) zi=((fun zm=>if zm < dT.length then (fun zi=>ak (dT.getD zi aa.d)) zm else (fun zi=>([[(aB fH.fN.fG),(eU fH.fN.fL),(aB fH.fD.fG),(eU fH.fD.fL)]]:List (List AV)).getD zi []) (zm - dT.length))) zi from (bL ak aa.d dT ([fH]:List aa) rfl (fun _ _=>rfl) (fun zq g9=>b9 ak aa.d ([fH]:List aa) zq g9))) pn))))))))))))))))))))) ?_
   refine ae hE 1 [] [] (kp [0,4,5,6,7,11,12,13,53,66,67,68]) (kq [0,1,2,3,5,247,359]) 471 pn ?_
   exact cP hE 1 [] (kp [0,4,5,6,7,11,12,13,53,66,67,68]) (kq [0,1,2,3] ++ [(4,.ah 247)] ++ kq [5] ++ [(6,.ah 359)]) 7 pn (ih _ _ _ _ h E hE)
  ·obtain ⟨Tx,h⟩:=ab h
   refine ae hE 1 [(3,⟨[],true,.mn,[(4,aO 4 ak aa.d gu),(6,aO 4 ak aa.d dT)],0,true,none⟩)] [] (kp [0,4,5,6] ++ [(7,.kD ((((rows ++ ([(⟨di,au⟩:af),(⟨least,aq.e0⟩:af)]:List af)) ++ ([(⟨cN,aR⟩:af),(⟨bw,aq.e1⟩:af)]:List af)) ++ ([(⟨gu,cL⟩:af),(⟨dT,aq.e2⟩:af)]:List af)).length))] ++ kp [53]) (kq [0,1] ++ [(87,.arr 87 ((((rows ++ ([(⟨di,au⟩:af),(⟨least,aq.e0⟩:af)]:List af)) ++ ([(⟨cN,aR⟩:af),(⟨bw,aq.e1⟩:af)]:List af)) ++ ([(⟨gu,cL⟩:af),(⟨dT,aq.e2⟩:af)]:List af)).length) (fun zi=>wo ((((rows ++ ([(⟨di,au⟩:af),(⟨least,aq.e0⟩:af)]:List af)) ++ ([(⟨cN,aR⟩:af),(⟨bw,aq.e1⟩:af)]:List af)) ++ ([(⟨gu,cL⟩:af),(⟨dT,aq.e2⟩:af)]:List af)).getD zi af.d)))]) 119 (pc o1 (pc o1 (pc (show gu.length≤gu.length from (aF _)) (pc (show ∀ zi,zi < gu.length→(fun zi=>ak (gu.getD zi aa.d)) zi=(fun zi=>ak (gu.getD zi aa.d)) zi from (fun _ _=>rfl)) (pc (show dT.length≤dT.length from (aF _)) (pc (show ∀ zi,zi < dT.length→(fun zi=>ak (dT.getD zi aa.d)) zi=(fun zi=>ak (dT.getD zi aa.d)) zi from (fun _ _=>rfl)) (pc (Eq.refl gu.length) (pc (Eq.refl dT.length) (pc (Eq.refl (((rows ++ ([(⟨di,au⟩:af),(⟨least,aq.e0⟩:af)]:List af)) ++ ([(⟨cN,aR⟩:af),(⟨bw,aq.e1⟩:af)]:List af)).length)) (pc Tx (pc (z1 2) (pc (show ∀ zi,zi < 2→AV.iy ((fun zi=>([[(aH ak aa.d gu),(aB cL.fN.fG),(eU cL.fN.fL),(aB cL.fD.fG),(eU cL.fD.fL)],[(aH ak aa.d dT),(aB aq.e2.fN.fG),(eU aq.e2.fN.fL),(aB aq.e2.fD.fG),(eU aq.e2.fD.fL)]]:List (List AV)).getD zi []) (bu 0 zi))=true from (qw rfl)) (pc (show (((rows ++ ([(⟨di,au⟩:af),(⟨least,aq.e0⟩:af)]:List af)) ++ ([(⟨cN,aR⟩:af),(⟨bw,aq.e1⟩:af)]:List af)).length+2)=(((rows ++ ([(⟨di,au⟩:af),(⟨least,aq.e0⟩:af)]:List af)) ++ ([(⟨cN,aR⟩:af),(⟨bw,aq.e1⟩:af)]:List af)) ++ ([(⟨gu,cL⟩:af),(⟨dT,aq.e2⟩:af)]:List af)).length from (ax rfl rfl)) (pc (show ((rows ++ ([(⟨di,au⟩:af),(⟨least,aq.e0⟩:af)]:List af)) ++ ([(⟨cN,aR⟩:af),(⟨bw,aq.e1⟩:af)]:List af)).length+2=(((rows ++ ([(⟨di,au⟩:af),(⟨least,aq.e0⟩:af)]:List af)) ++ ([(⟨cN,aR⟩:af),(⟨bw,aq.e1⟩:af)]:List af)) ++ ([(⟨gu,cL⟩:af),(⟨dT,aq.e2⟩:af)]:List af)).length from (ax rfl rfl)) (pc (show ∀ zi,zi < (((rows ++ ([(⟨di,au⟩:af),(⟨least,aq.e0⟩:af)]:List af)) ++ ([(⟨cN,aR⟩:af),(⟨bw,aq.e1⟩:af)]:List af)) ++ ([(⟨gu,cL⟩:af),(⟨dT,aq.e2⟩:af)]:List af)).length→(fun zi=>wo ((((rows ++ ([(⟨di,au⟩:af),(⟨least,aq.e0⟩:af)]:List af)) ++ ([(⟨cN,aR⟩:af),(⟨bw,aq.e1⟩:af)]:List af)) ++ ([(⟨gu,cL⟩:af),(⟨dT,aq.e2⟩:af)]:List af)).getD zi af.d)) zi=((fun zm=>if zm < ((rows ++ ([(⟨di,au⟩:af),(⟨least,aq.e0⟩:af)]:List af)) ++ ([(⟨cN,aR⟩:af),(⟨bw,aq.e1⟩:af)]:List af)).length then (fun zi=>wo (((rows ++ ([(⟨di,au⟩:af),(⟨least,aq.e0⟩:af)]:List af)) ++ ([(⟨cN,aR⟩:af),(⟨bw,aq.e1⟩:af)]:List af)).getD zi af.d)) zm else (fun zi=>([[(aH ak aa.d gu),(aB cL.fN.fG),(eU cL.fN.fL),(aB cL.fD.fG),(eU cL.fD.fL)],[(aH ak aa.d dT),(aB aq.e2.fN.fG),(eU aq.e2.fN.fL),(aB aq.e2.fD.fG),(eU aq.e2.fD.fL)]]:List (List AV)).getD zi []) (zm - ((rows ++ ([(⟨di,au⟩:af),(⟨least,aq.e0⟩:af)]:List af)) ++ ([(⟨cN,aR⟩:af),(⟨bw,aq.e1⟩:af)]:List af)).length))) zi from (bL wo af.d ((rows ++ ([(⟨di,au⟩:af),(⟨least,aq.e0⟩:af)]:List af)) ++ ([(⟨cN,aR⟩:af),(⟨bw,aq.e1⟩:af)]:List af)) ([(⟨gu,cL⟩:af),(⟨dT,aq.e2⟩:af)]:List af) rfl (fun _ _=>rfl) (fun zq g9=>b9 wo af.d ([(⟨gu,cL⟩:af),(⟨dT,aq.e2⟩:af)]:List af) zq g9))) pn))))))))))))))) ?_
   refine ae hE 1 [] [] (kp [0,4,5,6,7,53]) (kq [0,1,87]) 151 pn ?_
   refine ae hE 2 [] [] (kp [0,4,5,6,7,53,54]) (kq [0,1,87]) 167 pn ?_
   refine sA 1 [.code (e8 4050),.code (e8 4051),.inLoop (e8 1012),.inBlock 2,.code (e8 127)] ?_
   refine sC 54 (e8 8100) (e8 8101) false (fun hq=>absurd hq (by decide)) (fun _=>?_) 
   obtain ⟨dG,K8,h⟩:=aP h
   refine ae hE 2 [(2,⟨[],true,(.tup [(aH ak aa.d dG.1),(aH ak aa.d dG.2.1),(aI dG.2.2)]),[],0,true,none⟩)] [] (kp [4,5,17,18,19]) (kq [0]) 327 (pc (Dt _ _ _ _ K8) (pc (z1 ((((rows ++ ([(⟨di,au⟩:af),(⟨least,aq.e0⟩:af)]:List af)) ++ ([(⟨cN,aR⟩:af),(⟨bw,aq.e1⟩:af)]:List af)) ++ ([(⟨gu,cL⟩:af),(⟨dT,aq.e2⟩:af)]:List af)).length)) pn)) ?_
   refine ae hE 2 [] [] (kp [4,5,17,18,105]) (kq [0]) 359 pn ?_
   refine dr 0 105 h (fun H6 h=>?_) (fun H6 h=>?_)
   ·refine ae hE 1 [] [] (kp [4]) (kq [0]) 407 (pc o1 pn) ?_
    obtain rfl:=cT h
    exact cZ hE 0 Tryz.f22 [] (kp [4]) [(16,.var 0 [.ah,.ah,.sl (([]:List aa).length) (fun zi=>ak (([]:List aa).getD zi aa.d))])] 407 (pc (Eq.refl 0) pn) [16] (pc o1 pn)
   ·refine ae hE 2 [] [] (kp [4,5,18,20]) (kq [0,375]) 407 (pc o1 pn) ?_
    refine ae hE 2 [] [] (kp [4,5,18,20,109]) (kq [0,375]) 423 pn ?_
    refine ae hE 3 [] [] (kp [4,5,18,20,109,110]) (kq [0,375]) 439 pn ?_
    refine sA 1 [.code (e8 65490),.code (e8 65491),.inLoop (e8 16372),.inBlock 6,.code (e8 2047)] ?_
    refine sC 110 (e8 130980) (e8 130981) true (fun _=>?_) (fun hq=>absurd hq (by decide)) 
    refine ae hE 4 [] [] (kp [4,5,18,20,21,109]) (kq [0,375]) 471 pn ?_
    obtain ⟨R4,h⟩:=ab h
    obtain ⟨Nt,h⟩:=ab h
    obtain ⟨bj,UH,h⟩:=aP h
    refine ae hE 0 [(19,oT (.agg (ak bj)))] [] (kp [4,5,18,20,109]) (kq [0] ++ [(375,.var 375 [.ah,.ah,.kD (([bj]:List aa).length)]),(807,.arr 807 (([bj]:List aa).length) (fun zi=>ak (([bj]:List aa).getD zi aa.d)))]) 855 (pc o1 (pc R4 (pc Nt (pc (eY _ _ _ _ UH) (pc (show 1 * 64≤140737488355328 by decide) (pc (z1 1) (pc (show ∀ zi,zi < 1→AV.iy ((fun zi=>([[(aB bj.fN.fG),(eU bj.fN.fL),(aB bj.fD.fG),(eU bj.fD.fL)]]:List (List AV)).getD zi []) (bu 0 zi))=true from (qw rfl)) (pc o1 (pc (Eq.refl 1) (pc (Eq.refl 1) (pc (show ∀ zi,zi < ([bj]:List aa).length→(fun zi=>ak (([bj]:List aa).getD zi aa.d)) zi=(fun zi=>([[(aB bj.fN.fG),(eU bj.fN.fL),(aB bj.fD.fG),(eU bj.fD.fL)]]:List (List AV)).getD zi []) zi from (fun zq g9=>b9 ak aa.d ([bj]:List aa) zq g9)) pn))))))))))) ?_
    refine ae hE 1 [] [] (kp [4,5,18,20,109]) (kq [0,375,807]) 887 pn ?_
    refine ae hE 2 [] [] (kp [4,5,18,20,109,110]) (kq [0,375,807]) 903 pn ?_
    refine sA 1 [.code (e8 65490),.code (e8 65491),.inLoop (e8 16372),.inBlock 6,.code (e8 2047)] ?_
    refine sC 110 (e8 130980) (e8 130981) true (fun _=>?_) (fun hq=>absurd hq (by decide)) 
    refine ae hE 4 [] [] (kp [4,5,18,20,21,109]) (kq [0,375,807]) 935 pn ?_
    obtain ⟨UF,h⟩:=ab h
    obtain ⟨Wl,h⟩:=ab h
    obtain ⟨bO,UI,h⟩:=aP h
    obtain ⟨UG,h⟩:=ab h
    refine ae hE 0 [(19,oT (.agg (ak bO)))] [] (kp [4,5,18,20,109]) (kq [0] ++ [(375,.var 375 [.ah,.ah,.kD ((([bj]:List aa) ++ ([bO]:List aa)).length)]),(1271,.arr 1271 ((([bj]:List aa) ++ ([bO]:List aa)).length) (fun zi=>ak ((([bj]:List aa) ++ ([bO]:List aa)).getD zi aa.d)))]) 1319 (pc o1 (pc UF (pc Wl (pc (eY _ _ _ _ UI) (pc (Eq.refl (([bj]:List aa).length)) (pc UG (pc (z1 1) (pc (show ∀ zi,zi < 1→AV.iy ((fun zi=>([[(aB bO.fN.fG),(eU bO.fN.fL),(aB bO.fD.fG),(eU bO.fD.fL)]]:List (List AV)).getD zi []) (bu 0 zi))=true from (qw rfl)) (pc o1 (pc (show (([bj]:List aa).length+1)=(([bj]:List aa) ++ ([bO]:List aa)).length from (ax rfl rfl)) (pc (show ([bj]:List aa).length+1=(([bj]:List aa) ++ ([bO]:List aa)).length from (ax rfl rfl)) (pc (show ∀ zi,zi < (([bj]:List aa) ++ ([bO]:List aa)).length→(fun zi=>ak ((([bj]:List aa) ++ ([bO]:List aa)).getD zi aa.d)) zi=((fun zm=>if zm < ([bj]:List aa).length then (fun zi=>ak (([bj]:List aa).getD zi aa.d)) zm else (fun zi=>([[(aB bO.fN.fG),(eU bO.fN.fL),(aB bO.fD.fG),(eU bO.fD.fL)]]:List (List AV)).getD zi []) (zm - ([bj]:List aa).length))) zi from (bL ak aa.d ([bj]:List aa) ([bO]:List aa) rfl (fun _ _=>rfl) (fun zq g9=>b9 ak aa.d ([bO]:List aa) zq g9))) pn)))))))))))) ?_
    refine ae hE 1 [] [] (kp [4,5,18,20,109]) (kq [0,375,1271]) 1351 pn ?_
    refine ae hE 2 [] [] (kp [4,5,18,20,109,110]) (kq [0,375,1271]) 1367 pn ?_
    refine sA 1 [.code (e8 65490),.code (e8 65491),.inLoop (e8 16372),.inBlock 6,.code (e8 2047)] ?_
    refine sC 110 (e8 130980) (e8 130981) true (fun _=>?_) (fun hq=>absurd hq (by decide)) 
    refine ae hE 4 [] [] (kp [4,5,18,20,21,109]) (kq [0,375,1271]) 1399 pn ?_
    obtain ⟨Wm,h⟩:=ab h
    obtain ⟨XC,h⟩:=ab h
    obtain ⟨dZ,UJ,h⟩:=aP h
    obtain ⟨XD,h⟩:=ab h
    refine ae hE 0 [(19,oT (.agg (ak dZ)))] [] (kp [4,5,18,20,109]) (kq [0] ++ [(375,.var 375 [.ah,.ah,.kD (((([bj]:List aa) ++ ([bO]:List aa)) ++ ([dZ]:List aa)).length)]),(1735,.arr 1735 (((([bj]:List aa) ++ ([bO]:List aa)) ++ ([dZ]:List aa)).length) (fun zi=>ak (((([bj]:List aa) ++ ([bO]:List aa)) ++ ([dZ]:List aa)).getD zi aa.d)))]) 1783 (pc o1 (pc Wm (pc XC (pc (eY _ _ _ _ UJ) (pc (Eq.refl ((([bj]:List aa) ++ ([bO]:List aa)).length)) (pc XD (pc (z1 1) (pc (show ∀ zi,zi < 1→AV.iy ((fun zi=>([[(aB dZ.fN.fG),(eU dZ.fN.fL),(aB dZ.fD.fG),(eU dZ.fD.fL)]]:List (List AV)).getD zi []) (bu 0 zi))=true from (qw rfl)) (pc o1 (pc (show ((([bj]:List aa) ++ ([bO]:List aa)).length+1)=((([bj]:List aa) ++ ([bO]:List aa)) ++ ([dZ]:List aa)).length from (ax rfl rfl)) (pc (show (([bj]:List aa) ++ ([bO]:List aa)).length+1=((([bj]:List aa) ++ ([bO]:List aa)) ++ ([dZ]:List aa)).length from (ax rfl rfl)) (pc (show ∀ zi,zi < ((([bj]:List aa) ++ ([bO]:List aa)) ++ ([dZ]:List aa)).length→(fun zi=>ak (((([bj]:List aa) ++ ([bO]:List aa)) ++ ([dZ]:List aa)).getD zi aa.d)) zi=((fun zm=>if zm < (([bj]:List aa) ++ ([bO]:List aa)).length then (fun zi=>ak ((([bj]:List aa) ++ ([bO]:List aa)).getD zi aa.d)) zm else (fun zi=>([[(aB dZ.fN.fG),(eU dZ.fN.fL),(aB dZ.fD.fG),(eU dZ.fD.fL)]]:List (List AV)).getD zi []) (zm - (([bj]:List aa) ++ ([bO]:List aa)).length))) zi from (bL ak aa.d (([bj]:List aa) ++ ([bO]:List aa)) ([dZ]:List aa) rfl (fun _ _=>rfl) (fun zq g9=>b9 ak aa.d ([dZ]:List aa) zq g9))) pn)))))))))))) ?_
    refine ae hE 1 [] [] (kp [4,5,18,20,109]) (kq [0,375,1735]) 1815 pn ?_
    refine ae hE 2 [] [] (kp [4,5,18,20,109,110]) (kq [0,375,1735]) 1831 pn ?_
    refine sA 1 [.code (e8 65490),.code (e8 65491),.inLoop (e8 16372),.inBlock 6,.code (e8 2047)] ?_
    refine sC 110 (e8 130980) (e8 130981) false (fun hq=>absurd hq (by decide)) (fun _=>?_) 
    refine ae hE 2 [] [] (kp [4]) (kq [0,1735]) 1863 (pc o1 (pc o1 pn)) ?_
    obtain rfl:=cT h
    exact cZ hE 0 Tryz.f22 [1735] (kp [4]) [(16,.var 0 [.ah,.sl (([]:List aa).length) (fun zi=>ak (([]:List aa).getD zi aa.d)),.sl (((([bj]:List aa) ++ ([bO]:List aa)) ++ ([dZ]:List aa)).length) (fun zi=>ak (((([bj]:List aa) ++ ([bO]:List aa)) ++ ([dZ]:List aa)).getD zi aa.d))])] 1863 (pc (Eq.refl 0) (pc (Eq.refl (((([bj]:List aa) ++ ([bO]:List aa)) ++ ([dZ]:List aa)).length)) (pc (z1 (((([bj]:List aa) ++ ([bO]:List aa)) ++ ([dZ]:List aa)).length)) (pc (aZ (((([bj]:List aa) ++ ([bO]:List aa)) ++ ([dZ]:List aa)).length) (fun zi=>ak (((([bj]:List aa) ++ ([bO]:List aa)) ++ ([dZ]:List aa)).getD zi aa.d))) pn)))) [16] (pc o1 pn)
theorem z8 (N l aq rows au di least aR fuel):A8 N l aq rows au di least aR (eW N l aq rows au di least aR fuel):=by
 induction fuel with
 | zero=>intro _ _ _ r h;rw [eW.eq_1] at h;cases h
 | succ fuel ih =>
  intro cN bw x3 r h E hE
  rw [eW.eq_2] at h
  refine ae hE 1 [] [] (kp [0,4,5,6,7,11,12,13,53,66,67,68,69]) (kq [0,1,2,3,4,5,6]) 23 pn ?_
  refine dr 1 69 h (fun ti h=>?_) (fun ti h=>?_)
  ·obtain ⟨c8,h⟩:=ab h
   refine ae hE 4 [] [] (kp [0,4,5,6,7,11,12,13,15,53,66,67,68]) (kq [0,1,2,3,4,5,6,55]) 87 (pc c8 (pc o1 pn)) ?_
   obtain ⟨ko,Gg,h⟩:=aP h
   refine ae hE 1 [(1,oT (.agg (av.cells ko)))] [] (kp [0,4,5,6,7,11,12,13,16,53,66,67,68]) (kq [0,1,2,3,4,5,6,151]) 183 (pc o1 (pc (rf _ _ _ Gg) (pc (show 0≤(1:Int)∧(1:Int) < ((3:Nat):Int) by decide) (pc o1 pn)))) ?_
   obtain ⟨c9,h⟩:=ab h
   obtain ⟨fI,zY,h⟩:=aP h
   obtain ⟨Nu,h⟩:=ab h
   refine ae hE 0 [(9,oT (.agg (ak fI)))] [] (kp [0,4,5,6,7,11,12,13,53,66,67,68]) (kq [0,1,2] ++ [(3,.var 3 [.kD ((cN ++ ([ko.e1]:List aa)).length),.ah,.ah,.ah,.ah]),(5,.var 5 [.kD ((bw ++ ([fI]:List aa)).length),.ah,.ah,.ah,.ah]),(247,.arr 247 ((cN ++ ([ko.e1]:List aa)).length) (fun zi=>ak ((cN ++ ([ko.e1]:List aa)).getD zi aa.d))),(359,.arr 359 ((bw ++ ([fI]:List aa)).length) (fun zi=>ak ((bw ++ ([fI]:List aa)).getD zi aa.d)))]) 439 (pc o1 (pc o1 (pc (Eq.refl cN.length) (pc c9 (pc (z1 1) (pc (show ∀ zi,zi < 1→AV.iy ((fun zi=>([[(aB ko.e1.fN.fG),(eU ko.e1.fN.fL),(aB ko.e1.fD.fG),(eU ko.e1.fD.fL)]]:List (List AV)).getD zi []) (bu 0 zi))=true from (qw rfl)) (pc o1 (pc o1 (pc (show Sd 49 [(.agg [(aB false),.nil,(aB false),.nil]),(.agg (ak ko.e1))] [] 0 (.agg (ak fI)) [] from (Sound.conv (eY _ _ _ _ zY) (.cons (Alike.agg (.cons (Alike.refl _) (.cons Alike.nil (.cons (Alike.refl _) (.cons Alike.nil .nil))))) (.cons (Alike.refl _) .nil)))) (pc (Eq.refl bw.length) (pc Nu (pc (z1 1) (pc (show ∀ zi,zi < 1→AV.iy ((fun zi=>([[(aB fI.fN.fG),(eU fI.fN.fL),(aB fI.fD.fG),(eU fI.fD.fL)]]:List (List AV)).getD zi []) (bu 0 zi))=true from (qw rfl)) (pc o1 (pc o1 (pc (show (cN.length+1)=(cN ++ ([ko.e1]:List aa)).length from (ax rfl rfl)) (pc (show (bw.length+1)=(bw ++ ([fI]:List aa)).length from (ax rfl rfl)) (pc (show cN.length+1=(cN ++ ([ko.e1]:List aa)).length from (ax rfl rfl)) (pc (show ∀ zi,zi < (cN ++ ([ko.e1]:List aa)).length→(fun zi=>ak ((cN ++ ([ko.e1]:List aa)).getD zi aa.d)) zi=((fun zm=>if zm < cN.length then (fun zi=>ak (cN.getD zi aa.d)) zm else (fun zi=>([[(aB ko.e1.fN.fG),(eU ko.e1.fN.fL),(aB ko.e1.fD.fG),(eU ko.e1.fD.fL)]]:List (List AV)).getD zi []) (zm - cN.length))) zi from (bL ak aa.d cN ([ko.e1]:List aa) rfl (fun _ _=>rfl) (fun zq g9=>b9 ak aa.d ([ko.e1]:List aa) zq g9))) (pc (show bw.length+1=(bw ++ ([fI]:List aa)).length from (ax rfl rfl)) (pc (show ∀ zi,zi < (bw ++ ([fI]:List aa)).length→(fun zi=>ak ((bw ++ ([fI]:List aa)).getD zi aa.d)) zi=((fun zm=>if zm < bw.length then (fun zi=>ak (bw.getD zi aa.d)) zm else (fun zi=>([[(aB fI.fN.fG),(eU fI.fN.fL),(aB fI.fD.fG),(eU fI.fD.fL)]]:List (List AV)).getD zi []) (zm - bw.length))) zi from (bL ak aa.d bw ([fI]:List aa) rfl (fun _ _=>rfl) (fun zq g9=>b9 ak aa.d ([fI]:List aa) zq g9))) pn))))))))))))))))))))) ?_
   refine ae hE 1 [] [] (kp [0,4,5,6,7,11,12,13,53,66,67,68]) (kq [0,1,2,3,5,247,359]) 471 pn ?_
   exact cP hE 1 [] (kp [0,4,5,6,7,11,12,13,53,66,67,68]) (kq [0,1,2,3] ++ [(4,.ah 247)] ++ kq [5] ++ [(6,.ah 359)]) 7 pn (ih _ _ _ _ h E hE)
  ·obtain ⟨IV,h⟩:=ab h
   refine ae hE 1 [(3,⟨[],true,.mn,[(4,aO 4 ak aa.d cN),(6,aO 4 ak aa.d bw)],0,true,none⟩)] [] (kp [0,4,5,6] ++ [(7,.kD (((rows ++ ([(⟨di,au⟩:af),(⟨least,aq.e0⟩:af)]:List af)) ++ ([(⟨cN,aR⟩:af),(⟨bw,aq.e1⟩:af)]:List af)).length))] ++ kp [53]) (kq [0,1] ++ [(87,.arr 87 (((rows ++ ([(⟨di,au⟩:af),(⟨least,aq.e0⟩:af)]:List af)) ++ ([(⟨cN,aR⟩:af),(⟨bw,aq.e1⟩:af)]:List af)).length) (fun zi=>wo (((rows ++ ([(⟨di,au⟩:af),(⟨least,aq.e0⟩:af)]:List af)) ++ ([(⟨cN,aR⟩:af),(⟨bw,aq.e1⟩:af)]:List af)).getD zi af.d)))]) 119 (pc o1 (pc o1 (pc (show cN.length≤cN.length from (aF _)) (pc (show ∀ zi,zi < cN.length→(fun zi=>ak (cN.getD zi aa.d)) zi=(fun zi=>ak (cN.getD zi aa.d)) zi from (fun _ _=>rfl)) (pc (show bw.length≤bw.length from (aF _)) (pc (show ∀ zi,zi < bw.length→(fun zi=>ak (bw.getD zi aa.d)) zi=(fun zi=>ak (bw.getD zi aa.d)) zi from (fun _ _=>rfl)) (pc (Eq.refl cN.length) (pc (Eq.refl bw.length) (pc (Eq.refl ((rows ++ ([(⟨di,au⟩:af),(⟨least,aq.e0⟩:af)]:List af)).length)) (pc IV (pc (z1 2) (pc (show ∀ zi,zi < 2→AV.iy ((fun zi=>([[(aH ak aa.d cN),(aB aR.fN.fG),(eU aR.fN.fL),(aB aR.fD.fG),(eU aR.fD.fL)],[(aH ak aa.d bw),(aB aq.e1.fN.fG),(eU aq.e1.fN.fL),(aB aq.e1.fD.fG),(eU aq.e1.fD.fL)]]:List (List AV)).getD zi []) (bu 0 zi))=true from (qw rfl)) (pc (show ((rows ++ ([(⟨di,au⟩:af),(⟨least,aq.e0⟩:af)]:List af)).length+2)=((rows ++ ([(⟨di,au⟩:af),(⟨least,aq.e0⟩:af)]:List af)) ++ ([(⟨cN,aR⟩:af),(⟨bw,aq.e1⟩:af)]:List af)).length from (ax rfl rfl)) (pc (show (rows ++ ([(⟨di,au⟩:af),(⟨least,aq.e0⟩:af)]:List af)).length+2=((rows ++ ([(⟨di,au⟩:af),(⟨least,aq.e0⟩:af)]:List af)) ++ ([(⟨cN,aR⟩:af),(⟨bw,aq.e1⟩:af)]:List af)).length from (ax rfl rfl)) (pc (show ∀ zi,zi < ((rows ++ ([(⟨di,au⟩:af),(⟨least,aq.e0⟩:af)]:List af)) ++ ([(⟨cN,aR⟩:af),(⟨bw,aq.e1⟩:af)]:List af)).length→(fun zi=>wo (((rows ++ ([(⟨di,au⟩:af),(⟨least,aq.e0⟩:af)]:List af)) ++ ([(⟨cN,aR⟩:af),(⟨bw,aq.e1⟩:af)]:List af)).getD zi af.d)) zi=((fun zm=>if zm < (rows ++ ([(⟨di,au⟩:af),(⟨least,aq.e0⟩:af)]:List af)).length then (fun zi=>wo ((rows ++ ([(⟨di,au⟩:af),(⟨least,aq.e0⟩:af)]:List af)).getD zi af.d)) zm else (fun zi=>([[(aH ak aa.d cN),(aB aR.fN.fG),(eU aR.fN.fL),(aB aR.fD.fG),(eU aR.fD.fL)],[(aH ak aa.d bw),(aB aq.e1.fN.fG),(eU aq.e1.fN.fL),(aB aq.e1.fD.fG),(eU aq.e1.fD.fL)]]:List (List AV)).getD zi []) (zm - (rows ++ ([(⟨di,au⟩:af),(⟨least,aq.e0⟩:af)]:List af)).length))) zi from (bL wo af.d (rows ++ ([(⟨di,au⟩:af),(⟨least,aq.e0⟩:af)]:List af)) ([(⟨cN,aR⟩:af),(⟨bw,aq.e1⟩:af)]:List af) rfl (fun _ _=>rfl) (fun zq g9=>b9 wo af.d ([(⟨cN,aR⟩:af),(⟨bw,aq.e1⟩:af)]:List af) zq g9))) pn))))))))))))))) ?_
   refine ae hE 1 [] [] (kp [0,4,5,6,7,53]) (kq [0,1,87]) 151 pn ?_
   refine ae hE 2 [] [] (kp [0,4,5,6,7,53,54]) (kq [0,1,87]) 167 pn ?_
   refine sA 1 [.code (e8 4050),.code (e8 4051),.inLoop (e8 1012),.inBlock 2,.code (e8 127)] ?_
   refine sC 54 (e8 8100) (e8 8101) true (fun _=>?_) (fun hq=>absurd hq (by decide)) 
   refine ae hE 4 [] [] (kp [0,4,5,6,7,11,53]) (kq [0,1,87]) 199 pn ?_
   obtain ⟨cL,Cc,h⟩:=aP h
   refine ae hE 1 [(4,oT (.agg (ak cL)))] [] (kp [0,4,5,6,7,11,12,13,53]) (kq [0,1,87,359,375]) 423 (pc (show 0≤(2:Int)∧(2:Int) < 3 by decide) (pc o1 (pc (show Sd 49 [(.agg [(aB false),.nil,(aB false),.nil]),(.agg (ak aq.e2))] [] 0 (.agg (ak cL)) [] from (Sound.conv (eY _ _ _ _ Cc) (.cons (Alike.agg (.cons (Alike.refl _) (.cons Alike.nil (.cons (Alike.refl _) (.cons Alike.nil .nil))))) (.cons (Alike.refl _) .nil)))) (pc (show 0≤(2:Int)∧(2:Int) < 3 by decide) (pc o1 (pc o1 (pc o1 pn))))))) ?_
   refine ae hE 2 [] [] (kp [0,4,5,6,7,11,12,13,53,66,67,68]) (kq [0,1,87,359,375]) 471 pn ?_
   exact cP hE 2 [] (kp [0,4,5,6,7,11,12,13,53,66,67,68]) (kq [0,1] ++ [(2,.ah 87),(3,.var 359 [.oK 4,.ah,.ah,.ah,.ah]),(4,.nil 4 (fun zi=>ak (([]:List aa).getD zi aa.d))),(5,.var 375 [.oK 6,.ah,.ah,.ah,.ah]),(6,.nil 4 (fun zi=>ak (([]:List aa).getD zi aa.d)))]) 7 pn (z7 N _ _ _ _ _ _ _ _ _ _ N _ _ _ _ h E hE)
theorem z9 (N l aq rows au fuel):A7 N l aq rows au (eX N l aq rows au fuel):=by
 induction fuel with
 | zero=>intro _ _ _ r h;rw [eX.eq_1] at h;cases h
 | succ fuel ih =>
  intro di least x2 r h E hE
  rw [eX.eq_2] at h
  refine ae hE 1 [] [] (kp [0,4,5,6,7,11,12,13,53,66,67,68,69]) (kq [0,1,2,3,4,5,6]) 23 pn ?_
  refine dr 1 69 h (fun jq h=>?_) (fun jq h=>?_)
  ·obtain ⟨c4,h⟩:=ab h
   refine ae hE 4 [] [] (kp [0,4,5,6,7,11,12,13,15,53,66,67,68]) (kq [0,1,2,3,4,5,6,55]) 87 (pc c4 (pc o1 pn)) ?_
   obtain ⟨nC,xK,h⟩:=aP h
   refine ae hE 1 [(1,oT (.agg (av.cells nC)))] [] (kp [0,4,5,6,7,11,12,13,16,53,66,67,68]) (kq [0,1,2,3,4,5,6,151]) 183 (pc o1 (pc (rf _ _ _ xK) (pc (show 0≤(0:Int)∧(0:Int) < ((3:Nat):Int) by decide) (pc o1 pn)))) ?_
   obtain ⟨c5,h⟩:=ab h
   obtain ⟨fJ,yX,h⟩:=aP h
   obtain ⟨c6,h⟩:=ab h
   refine ae hE 0 [(9,oT (.agg (ak fJ)))] [] (kp [0,4,5,6,7,11,12,13,53,66,67,68]) (kq [0,1,2] ++ [(3,.var 3 [.kD ((di ++ ([nC.e0]:List aa)).length),.ah,.ah,.ah,.ah]),(5,.var 5 [.kD ((least ++ ([fJ]:List aa)).length),.ah,.ah,.ah,.ah]),(247,.arr 247 ((di ++ ([nC.e0]:List aa)).length) (fun zi=>ak ((di ++ ([nC.e0]:List aa)).getD zi aa.d))),(359,.arr 359 ((least ++ ([fJ]:List aa)).length) (fun zi=>ak ((least ++ ([fJ]:List aa)).getD zi aa.d)))]) 439 (pc o1 (pc o1 (pc (Eq.refl di.length) (pc c5 (pc (z1 1) (pc (show ∀ zi,zi < 1→AV.iy ((fun zi=>([[(aB nC.e0.fN.fG),(eU nC.e0.fN.fL),(aB nC.e0.fD.fG),(eU nC.e0.fD.fL)]]:List (List AV)).getD zi []) (bu 0 zi))=true from (qw rfl)) (pc o1 (pc o1 (pc (show Sd 49 [(.agg [(aB false),.nil,(aB false),.nil]),(.agg (ak nC.e0))] [] 0 (.agg (ak fJ)) [] from (Sound.conv (eY _ _ _ _ yX) (.cons (Alike.agg (.cons (Alike.refl _) (.cons Alike.nil (.cons (Alike.refl _) (.cons Alike.nil .nil))))) (.cons (Alike.refl _) .nil)))) (pc (Eq.refl least.length) (pc c6 (pc (z1 1) (pc (show ∀ zi,zi < 1→AV.iy ((fun zi=>([[(aB fJ.fN.fG),(eU fJ.fN.fL),(aB fJ.fD.fG),(eU fJ.fD.fL)]]:List (List AV)).getD zi []) (bu 0 zi))=true from (qw rfl)) (pc o1 (pc o1 (pc (show (di.length+1)=(di ++ ([nC.e0]:List aa)).length from (ax rfl rfl)) (pc (show (least.length+1)=(least ++ ([fJ]:List aa)).length from (ax rfl rfl)) (pc (show di.length+1=(di ++ ([nC.e0]:List aa)).length from (ax rfl rfl)) (pc (show ∀ zi,zi < (di ++ ([nC.e0]:List aa)).length→(fun zi=>ak ((di ++ ([nC.e0]:List aa)).getD zi aa.d)) zi=((fun zm=>if zm < di.length then (fun zi=>ak (di.getD zi aa.d)) zm else (fun zi=>([[(aB nC.e0.fN.fG),(eU nC.e0.fN.fL),(aB nC.e0.fD.fG),(eU nC.e0.fD.fL)]]:List (List AV)).getD zi []) (zm - di.length))) zi from (bL ak aa.d di ([nC.e0]:List aa) rfl (fun _ _=>rfl) (fun zq g9=>b9 ak aa.d ([nC.e0]:List aa) zq g9))) (pc (show least.length+1=(least ++ ([fJ]:List aa)).length from (ax rfl rfl)) (pc (show ∀ zi,zi < (least ++ ([fJ]:List aa)).length→(fun zi=>ak ((least ++ ([fJ]:List aa)).getD zi aa.d)) zi=((fun zm=>if zm < least.length then (fun zi=>ak (least.getD zi aa.d)) zm else (fun zi=>([[(aB fJ.fN.fG),(eU fJ.fN.fL),(aB fJ.fD.fG),(eU fJ.fD.fL)]]:List (List AV)).getD zi []) (zm - least.length))) zi from (bL ak aa.d least ([fJ]:List aa) rfl (fun _ _=>rfl) (fun zq g9=>b9 ak aa.d ([fJ]:List aa) zq g9))) pn))))))))))))))))))))) ?_
   refine ae hE 1 [] [] (kp [0,4,5,6,7,11,12,13,53,66,67,68]) (kq [0,1,2,3,5,247,359]) 471 pn ?_
   exact cP hE 1 [] (kp [0,4,5,6,7,11,12,13,53,66,67,68]) (kq [0,1,2,3] ++ [(4,.ah 247)] ++ kq [5] ++ [(6,.ah 359)]) 7 pn (ih _ _ _ _ h E hE)
  ·obtain ⟨c7,h⟩:=ab h
   refine ae hE 1 [(3,⟨[],true,.mn,[(4,aO 4 ak aa.d di),(6,aO 4 ak aa.d least)],0,true,none⟩)] [] (kp [0,4,5,6] ++ [(7,.kD ((rows ++ ([(⟨di,au⟩:af),(⟨least,aq.e0⟩:af)]:List af)).length))] ++ kp [53]) (kq [0,1] ++ [(87,.arr 87 ((rows ++ ([(⟨di,au⟩:af),(⟨least,aq.e0⟩:af)]:List af)).length) (fun zi=>wo ((rows ++ ([(⟨di,au⟩:af),(⟨least,aq.e0⟩:af)]:List af)).getD zi af.d)))]) 119 (pc o1 (pc o1 (pc (show di.length≤di.length from (aF _)) (pc (show ∀ zi,zi < di.length→(fun zi=>ak (di.getD zi aa.d)) zi=(fun zi=>ak (di.getD zi aa.d)) zi from (fun _ _=>rfl)) (pc (show least.length≤least.length from (aF _)) (pc (show ∀ zi,zi < least.length→(fun zi=>ak (least.getD zi aa.d)) zi=(fun zi=>ak (least.getD zi aa.d)) zi from (fun _ _=>rfl)) (pc (Eq.refl di.length) (pc (Eq.refl least.length) (pc (Eq.refl rows.length) (pc c7 (pc (z1 2) (pc (show ∀ zi,zi < 2→AV.iy ((fun zi=>([[(aH ak aa.d di),(aB au.fN.fG),(eU au.fN.fL),(aB au.fD.fG),(eU au.fD.fL)],[(aH ak aa.d least),(aB aq.e0.fN.fG),(eU aq.e0.fN.fL),(aB aq.e0.fD.fG),(eU aq.e0.fD.fL)]]:List (List AV)).getD zi []) (bu 0 zi))=true from (qw rfl)) (pc (show (rows.length+2)=(rows ++ ([(⟨di,au⟩:af),(⟨least,aq.e0⟩:af)]:List af)).length from (ax rfl rfl)) (pc (show rows.length+2=(rows ++ ([(⟨di,au⟩:af),(⟨least,aq.e0⟩:af)]:List af)).length from (ax rfl rfl)) (pc (show ∀ zi,zi < (rows ++ ([(⟨di,au⟩:af),(⟨least,aq.e0⟩:af)]:List af)).length→(fun zi=>wo ((rows ++ ([(⟨di,au⟩:af),(⟨least,aq.e0⟩:af)]:List af)).getD zi af.d)) zi=((fun zm=>if zm < rows.length then (fun zi=>wo (rows.getD zi af.d)) zm else (fun zi=>([[(aH ak aa.d di),(aB au.fN.fG),(eU au.fN.fL),(aB au.fD.fG),(eU au.fD.fL)],[(aH ak aa.d least),(aB aq.e0.fN.fG),(eU aq.e0.fN.fL),(aB aq.e0.fD.fG),(eU aq.e0.fD.fL)]]:List (List AV)).getD zi []) (zm - rows.length))) zi from (bL wo af.d rows ([(⟨di,au⟩:af),(⟨least,aq.e0⟩:af)]:List af) rfl (fun _ _=>rfl) (fun zq g9=>b9 wo af.d ([(⟨di,au⟩:af),(⟨least,aq.e0⟩:af)]:List af) zq g9))) pn))))))))))))))) ?_
   refine ae hE 1 [] [] (kp [0,4,5,6,7,53]) (kq [0,1,87]) 151 pn ?_
   refine ae hE 2 [] [] (kp [0,4,5,6,7,53,54]) (kq [0,1,87]) 167 pn ?_
   refine sA 1 [.code (e8 4050),.code (e8 4051),.inLoop (e8 1012),.inBlock 2,.code (e8 127)] ?_
   refine sC 54 (e8 8100) (e8 8101) true (fun _=>?_) (fun hq=>absurd hq (by decide)) 
   refine ae hE 4 [] [] (kp [0,4,5,6,7,11,53]) (kq [0,1,87]) 199 pn ?_
   obtain ⟨aR,Gh,h⟩:=aP h
   refine ae hE 1 [(4,oT (.agg (ak aR)))] [] (kp [0,4,5,6,7,11,12,13,53]) (kq [0,1,87,359,375]) 423 (pc (show 0≤(1:Int)∧(1:Int) < 3 by decide) (pc o1 (pc (show Sd 49 [(.agg [(aB false),.nil,(aB false),.nil]),(.agg (ak aq.e1))] [] 0 (.agg (ak aR)) [] from (Sound.conv (eY _ _ _ _ Gh) (.cons (Alike.agg (.cons (Alike.refl _) (.cons Alike.nil (.cons (Alike.refl _) (.cons Alike.nil .nil))))) (.cons (Alike.refl _) .nil)))) (pc (show 0≤(1:Int)∧(1:Int) < 3 by decide) (pc o1 (pc o1 (pc o1 pn))))))) ?_
   refine ae hE 2 [] [] (kp [0,4,5,6,7,11,12,13,53,66,67,68]) (kq [0,1,87,359,375]) 471 pn ?_
   exact cP hE 2 [] (kp [0,4,5,6,7,11,12,13,53,66,67,68]) (kq [0,1] ++ [(2,.ah 87),(3,.var 359 [.oK 4,.ah,.ah,.ah,.ah]),(4,.nil 4 (fun zi=>ak (([]:List aa).getD zi aa.d))),(5,.var 375 [.oK 6,.ah,.ah,.ah,.ah]),(6,.nil 4 (fun zi=>ak (([]:List aa).getD zi aa.d)))]) 7 pn (z8 N _ _ _ _ _ _ _ N _ _ _ _ h E hE)
theorem Aa (N l aq fuel):A6 N l aq (gW N l aq fuel):=by
 induction fuel with
 | zero=>intro _ _ r h;rw [gW.eq_1] at h;cases h
 | succ fuel ih =>
  intro rows x r h E hE
  rw [gW.eq_2] at h
  refine ae hE 1 [] [] (kp [0,4,5,6,7,26,27,28]) (kq [0,1,2]) 19 pn ?_
  refine dr 1 28 h (fun ee h=>?_) (fun ee h=>?_)
  ·refine ae hE 4 [] [] (kp [0,4,5,6,7,8,26,27]) (kq [0,1,2]) 51 pn ?_
   obtain ⟨c,h⟩:=ab h
   obtain ⟨g7,eI,h⟩:=aP h
   refine ae hE 1 [(2,oT (.agg (ak g7)))] [] (kp [0,4,5,6,7,8,9,10,26,27]) (kq [0,1,2] ++ [(67,.Po 67 ((List.replicate l.length aa.d:List aa).length) (fun zi=>ak ((List.replicate l.length aa.d:List aa).getD zi aa.d))),(131,.Po 131 ((List.replicate l.length aa.d:List aa).length) (fun zi=>ak ((List.replicate l.length aa.d:List aa).getD zi aa.d))),(163,.var 163 [.kD ((List.replicate l.length aa.d:List aa).length),.ah,.ah,.ah,.ah]),(179,.var 179 [.kD ((List.replicate l.length aa.d:List aa).length),.ah,.sl (([]:List Int).length) (fun zi=>(cU .u16) (([]:List Int).getD zi 0)),.ah,.sl (([]:List Int).length) (fun zi=>(cU .u16) (([]:List Int).getD zi 0))])]) 227 (pc (show 0≤((l.length:Nat):Int) from c.1) (pc (show ((l.length:Nat):Int)≤((l.length:Nat):Int) from (Int.le_refl _)) (pc (show (64:Int) * ((l.length:Nat):Int)≤281474976710656 from c.2.1) (pc (show ((l.length:Nat):Int)≤9223372036854775807 from c.2.2) (pc (eu _ _ _ eI) (pc (show 0≤((l.length:Nat):Int) from c.1) (pc (show ((l.length:Nat):Int)≤((l.length:Nat):Int) from (Int.le_refl _)) (pc (show (64:Int) * ((l.length:Nat):Int)≤281474976710656 from c.2.1) (pc (show ((l.length:Nat):Int)≤9223372036854775807 from c.2.2) (pc o1 (pc o1 (pc (show (List.replicate l.length aa.d:List aa).length≤l.length from (Nat.le_of_eq (Eq.symm ((dj).symm)))) (pc (show ∀ zi,zi < (List.replicate l.length aa.d:List aa).length→IQ ((fun _=>[(aB false),.nil,(aB false),.nil]) zi) ((fun zi=>ak ((List.replicate l.length aa.d:List aa).getD zi aa.d)) zi) from (fun zq g9=>oz ak aa.d aa.d l.length zq ⟨.inl rfl,.inr ⟨rfl,_,rfl⟩,.inl rfl,.inr ⟨rfl,_,rfl⟩,trivial⟩ g9)) (pc (show (List.replicate l.length aa.d:List aa).length≤l.length from (Nat.le_of_eq (Eq.symm ((dj).symm)))) (pc (show ∀ zi,zi < (List.replicate l.length aa.d:List aa).length→IQ ((fun _=>[(aB false),.nil,(aB false),.nil]) zi) ((fun zi=>ak ((List.replicate l.length aa.d:List aa).getD zi aa.d)) zi) from (fun zq g9=>oz ak aa.d aa.d l.length zq ⟨.inl rfl,.inr ⟨rfl,_,rfl⟩,.inl rfl,.inr ⟨rfl,_,rfl⟩,trivial⟩ g9)) (pc (show l.length=(List.replicate l.length aa.d:List aa).length from (dj).symm) (pc (show l.length=(List.replicate l.length aa.d:List aa).length from (dj).symm) (pc (Eq.refl 0) (pc (Eq.refl 0) pn))))))))))))))))))) ?_
   obtain ⟨dA,kc,h⟩:=aP h
   obtain ⟨dB,nw,h⟩:=aP h
   obtain ⟨c2,h⟩:=ab h
   refine ae hE 1 [(6,oT (.agg (ak dA))),(7,oT (.agg (ak dB)))] [] (kp [0,4,5,6,7,9,10,26,27]) (kq [0,1,2] ++ [(67,.arr 67 (((List.replicate l.length aa.d:List aa).set ((x).toNat) dA).length) (fun zi=>ak (((List.replicate l.length aa.d:List aa).set ((x).toNat) dA).getD zi aa.d))),(131,.arr 131 (((List.replicate l.length aa.d:List aa).set ((x).toNat) dB).length) (fun zi=>ak (((List.replicate l.length aa.d:List aa).set ((x).toNat) dB).getD zi aa.d))),(163,.var 163 [.kD (((List.replicate l.length aa.d:List aa).set ((x).toNat) dA).length),.ah,.ah,.ah,.ah]),(179,.var 179 [.kD (((List.replicate l.length aa.d:List aa).set ((x).toNat) dB).length),.ah,.ah,.ah,.ah])]) 419 (pc o1 (pc o1 (pc (eu _ _ _ kc) (pc (eu _ _ _ nw) (pc c2 (pc (dR c2) (pc c2 (pc (dR c2) (pc (aD (List.replicate l.length aa.d:List aa) ((x).toNat) dA) (pc (cH ak aa.d (List.replicate l.length aa.d:List aa) ((x).toNat) dA) (pc (aD (List.replicate l.length aa.d:List aa) ((x).toNat) dB) (pc (cH ak aa.d (List.replicate l.length aa.d:List aa) ((x).toNat) dB) (pc (aD (List.replicate l.length aa.d:List aa) ((x).toNat) dA) (pc (aD (List.replicate l.length aa.d:List aa) ((x).toNat) dB) pn)))))))))))))) ?_
   obtain ⟨c3,h⟩:=ab h
   refine ae hE 0 [(3,⟨[],true,.mn,[(67,aO 4 ak aa.d ((List.replicate l.length aa.d:List aa).set ((x).toNat) dA)),(131,aO 4 ak aa.d ((List.replicate l.length aa.d:List aa).set ((x).toNat) dB))],0,true,none⟩)] [] (kp [0,4,5,6] ++ [(7,.kD ((rows ++ ([(⟨((List.replicate l.length aa.d:List aa).set ((x).toNat) dA),g7⟩:af),(⟨((List.replicate l.length aa.d:List aa).set ((x).toNat) dB),(⟨(⟨false,([]:List Int)⟩:bW),(⟨false,([]:List Int)⟩:bW)⟩:aa)⟩:af)]:List af)).length))] ++ kp [26,27]) (kq [0,1] ++ [(483,.arr 483 ((rows ++ ([(⟨((List.replicate l.length aa.d:List aa).set ((x).toNat) dA),g7⟩:af),(⟨((List.replicate l.length aa.d:List aa).set ((x).toNat) dB),(⟨(⟨false,([]:List Int)⟩:bW),(⟨false,([]:List Int)⟩:bW)⟩:aa)⟩:af)]:List af)).length) (fun zi=>wo ((rows ++ ([(⟨((List.replicate l.length aa.d:List aa).set ((x).toNat) dA),g7⟩:af),(⟨((List.replicate l.length aa.d:List aa).set ((x).toNat) dB),(⟨(⟨false,([]:List Int)⟩:bW),(⟨false,([]:List Int)⟩:bW)⟩:aa)⟩:af)]:List af)).getD zi af.d)))]) 515 (pc o1 (pc o1 (pc (show ((List.replicate l.length aa.d:List aa).set ((x).toNat) dA).length≤((List.replicate l.length aa.d:List aa).set ((x).toNat) dA).length from (aF _)) (pc (show ∀ zi,zi < ((List.replicate l.length aa.d:List aa).set ((x).toNat) dA).length→(fun zi=>ak (((List.replicate l.length aa.d:List aa).set ((x).toNat) dA).getD zi aa.d)) zi=(fun zi=>ak (((List.replicate l.length aa.d:List aa).set ((x).toNat) dA).getD zi aa.d)) zi from (fun _ _=>rfl)) (pc (show ((List.replicate l.length aa.d:List aa).set ((x).toNat) dB).length≤((List.replicate l.length aa.d:List aa).set ((x).toNat) dB).length from (aF _)) (pc (show ∀ zi,zi < ((List.replicate l.length aa.d:List aa).set ((x).toNat) dB).length→(fun zi=>ak (((List.replicate l.length aa.d:List aa).set ((x).toNat) dB).getD zi aa.d)) zi=(fun zi=>ak (((List.replicate l.length aa.d:List aa).set ((x).toNat) dB).getD zi aa.d)) zi from (fun _ _=>rfl)) (pc (Eq.refl (((List.replicate l.length aa.d:List aa).set ((x).toNat) dA).length)) (pc (Eq.refl (((List.replicate l.length aa.d:List aa).set ((x).toNat) dB).length)) (pc (Eq.refl rows.length) (pc c3 (pc (z1 2) (pc (show ∀ zi,zi < 2→AV.iy ((fun zi=>([[(aH ak aa.d ((List.replicate l.length aa.d:List aa).set ((x).toNat) dA)),(aB g7.fN.fG),(eU g7.fN.fL),(aB g7.fD.fG),(eU g7.fD.fL)],[(aH ak aa.d ((List.replicate l.length aa.d:List aa).set ((x).toNat) dB)),(aB false),(eU ([]:List Int)),(aB false),(eU ([]:List Int))]]:List (List AV)).getD zi []) (bu 0 zi))=true from (qw rfl)) (pc (show (rows.length+2)=(rows ++ ([(⟨((List.replicate l.length aa.d:List aa).set ((x).toNat) dA),g7⟩:af),(⟨((List.replicate l.length aa.d:List aa).set ((x).toNat) dB),(⟨(⟨false,([]:List Int)⟩:bW),(⟨false,([]:List Int)⟩:bW)⟩:aa)⟩:af)]:List af)).length from (ax rfl rfl)) (pc (show rows.length+2=(rows ++ ([(⟨((List.replicate l.length aa.d:List aa).set ((x).toNat) dA),g7⟩:af),(⟨((List.replicate l.length aa.d:List aa).set ((x).toNat) dB),(⟨(⟨false,([]:List Int)⟩:bW),(⟨false,([]:List Int)⟩:bW)⟩:aa)⟩:af)]:List af)).length from (ax rfl rfl)) (pc (show ∀ zi,zi < (rows ++ ([(⟨((List.replicate l.length aa.d:List aa).set ((x).toNat) dA),g7⟩:af),(⟨((List.replicate l.length aa.d:List aa).set ((x).toNat) dB),(⟨(⟨false,([]:List Int)⟩:bW),(⟨false,([]:List Int)⟩:bW)⟩:aa)⟩:af)]:List af)).length→(fun zi=>wo ((rows ++ ([(⟨((List.replicate l.length aa.d:List aa).set ((x).toNat) dA),g7⟩:af),(⟨((List.replicate l.length aa.d:List aa).set ((x).toNat) dB),(⟨(⟨false,([]:List Int)⟩:bW),(⟨false,([]:List Int)⟩:bW)⟩:aa)⟩:af)]:List af)).getD zi af.d)) zi=((fun zm=>if zm < rows.length then (fun zi=>wo (rows.getD zi af.d)) zm else (fun zi=>([[(aH ak aa.d ((List.replicate l.length aa.d:List aa).set ((x).toNat) dA)),(aB g7.fN.fG),(eU g7.fN.fL),(aB g7.fD.fG),(eU g7.fD.fL)],[(aH ak aa.d ((List.replicate l.length aa.d:List aa).set ((x).toNat) dB)),(aB false),(eU ([]:List Int)),(aB false),(eU ([]:List Int))]]:List (List AV)).getD zi []) (zm - rows.length))) zi from (bL wo af.d rows ([(⟨((List.replicate l.length aa.d:List aa).set ((x).toNat) dA),g7⟩:af),(⟨((List.replicate l.length aa.d:List aa).set ((x).toNat) dB),(⟨(⟨false,([]:List Int)⟩:bW),(⟨false,([]:List Int)⟩:bW)⟩:aa)⟩:af)]:List af) rfl (fun _ _=>rfl) (fun zq g9=>b9 wo af.d ([(⟨((List.replicate l.length aa.d:List aa).set ((x).toNat) dA),g7⟩:af),(⟨((List.replicate l.length aa.d:List aa).set ((x).toNat) dB),(⟨(⟨false,([]:List Int)⟩:bW),(⟨false,([]:List Int)⟩:bW)⟩:aa)⟩:af)]:List af) zq g9))) pn))))))))))))))) ?_
   refine ae hE 1 [] [] (kp [0,4,5,6,7,26,27]) (kq [0,1,483]) 547 pn ?_
   exact cP hE 1 [] (kp [0,4,5,6,7,26,27]) (kq [0,1] ++ [(2,.ah 483)]) 3 pn (ih _ _ _ h E hE)
  ·refine ae hE 3 [] [] (kp [0,4,5,6,7,53]) (kq [0,1,2]) 35 pn ?_
   refine ae hE 3 [] [] (kp [0,4,5,6,7,53,54]) (kq [0,1,2]) 51 pn ?_
   refine sA 1 [.code (e8 4050),.code (e8 4051),.inLoop (e8 1012),.inBlock 2,.code (e8 127)] ?_
   refine sC 54 (e8 8100) (e8 8101) true (fun _=>?_) (fun hq=>absurd hq (by decide)) 
   refine ae hE 4 [] [] (kp [0,4,5,6,7,11,53]) (kq [0,1,2]) 83 pn ?_
   obtain ⟨au,rN,h⟩:=aP h
   refine ae hE 1 [(4,oT (.agg (ak au)))] [] (kp [0,4,5,6,7,11,12,13,53]) (kq [0,1,2,243,259]) 307 (pc (show 0≤(0:Int)∧(0:Int) < 3 by decide) (pc o1 (pc (show Sd 49 [(.agg [(aB false),.nil,(aB false),.nil]),(.agg (ak aq.e0))] [] 0 (.agg (ak au)) [] from (Sound.conv (eY _ _ _ _ rN) (.cons (Alike.agg (.cons (Alike.refl _) (.cons Alike.nil (.cons (Alike.refl _) (.cons Alike.nil .nil))))) (.cons (Alike.refl _) .nil)))) (pc (show 0≤(0:Int)∧(0:Int) < 3 by decide) (pc o1 (pc o1 (pc o1 pn))))))) ?_
   refine ae hE 2 [] [] (kp [0,4,5,6,7,11,12,13,53,66,67,68]) (kq [0,1,2,243,259]) 355 pn ?_
   exact cP hE 2 [] (kp [0,4,5,6,7,11,12,13,53,66,67,68]) (kq [0,1,2] ++ [(3,.var 243 [.oK 4,.ah,.ah,.ah,.ah]),(4,.nil 4 (fun zi=>ak (([]:List aa).getD zi aa.d))),(5,.var 259 [.oK 6,.ah,.ah,.ah,.ah]),(6,.nil 4 (fun zi=>ak (([]:List aa).getD zi aa.d)))]) 7 pn (z9 N _ _ _ _ N _ _ _ _ h E hE)
theorem wD (N l w r) (h:lL N l w=some r):Sd 22 [(aH ai.cells ai.d l),(.agg (bJ.cells w))] [] 0 (.agg (bF.cells r)) []:=by
 unfold lL at h
 refine g8 (fu:=Tryz.f22) (c:=e8 1) (nt:=137) (fun hm=>rfl) ?_
 intro E hE
 refine ae hE 1 [] [] (kp [0,3,4]) (kq [0,16]) 32 pn ?_
 refine ae hE 1 [] [] (kp [0,3,4,5]) (kq [0,16]) 80 pn ?_
 obtain ⟨aq,hr,h⟩:=aP h
 refine ae hE 1 [(1,oT (.agg (av.cells aq)))] [] (kp [0,4,5,6]) (kq [16,112]) 144 (pc o1 (pc (Cf _ _ _ hr) (pc o1 pn))) ?_
 refine ae hE 1 [] [] (kp [0,4,5,6,7]) (kq [16,112]) 160 pn ?_
 refine ae hE 2 [] [] (kp [0,4,5,6,7,26,27]) (kq [16,112]) 192 pn ?_
 exact cP hE 2 [] (kp [0,4,5,6] ++ [(7,.oK 2)] ++ kp [26,27]) [(0,.ah 16),(1,.ah 112),(2,.nil 5 (fun zi=>wo (([]:List af).getD zi af.d)))] 3 pn (Aa N _ _ N _ _ _ h E hE)
noncomputable abbrev Lc:=b8 Tryz.f8
def Ad (N:Nat) (l:List ai) (w:List bJ) (K:Int→Option (Int×Int)):Prop:=∀ (x:Int) (r:Int×Int),K x=some r→∀ E,bh E 0→aE Tryz.prog E 8 46 (aW E [] (.tup [(aI r.1),(aI r.2)])) [.code (Lc 244),.inLoop (Lc 244),.inBlock 0,.code (Lc 31)] ⟨[(0,(aH ai.cells ai.d l)),(1,(aH bJ.cells bJ.d w)),(20,(aH bJ.cells bJ.d w)),(21,(aI ((w.length:Nat):Int))),(22,(aI x))],[],0⟩
def Ae (N:Nat) (l:List ai) (w:List bJ) (K:Int→Option (Int×Int)):Prop:=∀ (x2:Int) (r:Int×Int),K x2=some r→∀ E,bh E 0→aE Tryz.prog E 8 46 (aW E [] (.tup [(aI r.1),(aI r.2)])) [.code (Lc 500),.inLoop (Lc 500),.inBlock 2,.code (Lc 63)] ⟨[(0,(aH ai.cells ai.d l)),(32,(aH bJ.cells bJ.d w)),(33,(aI ((w.length:Nat):Int))),(34,(aI x2))],[],0⟩
theorem yZ (N l w fuel):Ae N l w (cA N l w fuel):=by
 induction fuel with
 | zero=>intro _ r h;rw [cA.eq_1] at h;cases h
 | succ fuel ih =>
  intro x2 r h E hE
  rw [cA.eq_2] at h
  refine ae hE 1 [] [] (kp [0,32,33,34,35]) [] 16 pn ?_
  refine dr 1 35 h (fun H6 h=>?_) (fun H6 h=>?_)
  ·obtain ⟨c2,h⟩:=ab h
   refine ae hE 4 [] [] (kp [0,10,11,32,33,34]) (kq [64]) 112 (pc c2 (pc o1 pn)) ?_
   obtain ⟨E3,kc,h⟩:=aP h
   refine ae hE 1 [(2,oT (.agg (bF.cells E3)))] [] (kp [0,10,32,33,34,43]) [] 192 (pc o1 (pc (wD _ _ _ _ kc) pn)) ?_
   refine dr 0 43 h (fun PO h=>?_) (fun PO h=>?_)
   ·refine ae hE 1 [] [] (kp [4,5]) [] 240 pn ?_
    obtain rfl:=cT h
    exact cZ hE 0 Tryz.f8 [] (kp [4,5]) [] 240 pn [] pn
   ·refine ae hE 2 [] [] (kp [0,32,33,34]) [] 224 pn ?_
    exact cP hE 1 [] (kp [0,32,33,34]) [] 0 pn (ih _ _ h E hE)
  ·refine ae hE 2 [] [] (kp [4,5]) [] 48 pn ?_
   obtain rfl:=cT h
   exact cZ hE 0 Tryz.f8 [] (kp [4,5]) [] 48 pn [] pn
theorem y6 (N l w fuel):Ad N l w (cR N l w fuel):=by
 induction fuel with
 | zero=>intro _ r h;rw [cR.eq_1] at h;cases h
 | succ fuel ih =>
  intro x r h E hE
  rw [cR.eq_2] at h
  refine ae hE 1 [] [] (kp [0,1,20,21,22,23]) [] 16 pn ?_
  refine dr 1 23 h (fun ti h=>?_) (fun ti h=>?_)
  ·obtain ⟨c,h⟩:=ab h
   refine ae hE 4 [] [] (kp [0,1,8,20,21,22]) (kq [48]) 80 (pc c (pc o1 pn)) ?_
   obtain ⟨lM,eI,h⟩:=aP h
   refine ae hE 1 [(1,oT (aI lM))] [] (kp [0,1,9,20,21,22]) [] 128 (pc o1 (pc (qL _ _ _ eI) pn)) ?_
   refine ae hE 1 [] [] (kp [0,1,9,20,21,22,29]) [] 160 pn ?_
   refine dr 0 29 h (fun Dc h=>?_) (fun Dc h=>?_)
   ·refine ae hE 1 [] [] (kp [4,5]) [] 208 pn ?_
    obtain rfl:=cT h
    exact cZ hE 0 Tryz.f8 [] (kp [4,5]) [] 208 pn [] pn
   ·refine ae hE 2 [] [] (kp [0,1,20,21,22]) [] 192 pn ?_
    exact cP hE 1 [] (kp [0,1,20,21,22]) [] 0 pn (ih _ _ h E hE)
  ·refine ae hE 3 [] [] (kp [0,32,33,34]) [] 64 pn ?_
   exact cP hE 2 [] (kp [0,32,33,34]) [] 0 pn (yZ N _ _ N _ _ h E hE)
theorem Cg (N l w r) (h:nT N l w=some r):Sd 8 [(aH ai.cells ai.d l),(aH bJ.cells bJ.d w)] [] 0 (.tup [(aI r.1),(aI r.2)]) []:=by
 unfold nT at h
 refine g8 (fu:=Tryz.f8) (c:=Lc 1) (nt:=46) (fun hm=>rfl) ?_
 intro E hE
 refine ae hE 1 [] [] (kp [0,1]) [] 32 pn ?_
 obtain ⟨bm,hr,h⟩:=aP h
 refine ae hE 2 [(1,oT (aI bm))] [] (kp [0,1,6]) [] 80 (pc (mj _ _ _ hr) pn) ?_
 refine ae hE 1 [] [] (kp [0,1,6,15]) [] 112 pn ?_
 refine dr 0 15 h (fun ee h=>?_) (fun ee h=>?_)
 ·refine ae hE 1 [] [] (kp [4,5]) [] 160 pn ?_
  obtain rfl:=cT h
  exact cZ hE 0 Tryz.f8 [] (kp [4,5]) [] 160 pn [] pn
 ·refine ae hE 3 [] [] (kp [0,1,19]) [] 160 pn ?_
  refine dr 0 19 h (fun jq h=>?_) (fun jq h=>?_)
  ·refine ae hE 1 [] [] (kp [4,5]) [] 192 pn ?_
   obtain rfl:=cT h
   exact cZ hE 0 Tryz.f8 [] (kp [4,5]) [] 192 pn [] pn
  ·refine ae hE 3 [] [] (kp [0,1,20,21,22]) [] 208 pn ?_
   exact cP hE 2 [] (kp [0,1,20,21,22]) [] 0 pn (y6 N _ _ N _ _ h E hE)
noncomputable abbrev Sc:=b8 Tryz.f23
def Dv (N:Nat) (s:ByteArray) (K:Int→Option (Bool)):Prop:=∀ (i:Int) (r:Bool),K i=some r→∀ E,bh E 0→aE Tryz.prog E 23 55 (aW E [] (aB r)) [.code (Sc 116),.inLoop (Sc 116),.inBlock 0,.code (Sc 15)] ⟨[(0,(aS s)),(3,(aI i))],[],0⟩
theorem Ch (N s fuel):Dv N s (jH N s fuel):=by
 induction fuel with
 | zero=>intro _ r h;rw [jH.eq_1] at h;cases h
 | succ fuel ih =>
  intro i r h E hE
  rw [jH.eq_2] at h
  refine ae hE 2 [] [] (kp [0,3,17]) [] 64 pn ?_
  refine dr 0 17 h (fun jq h=>?_) (fun jq h=>?_)
  ·obtain ⟨c,h⟩:=ab h
   refine ae hE 4 [] [] (kp [0,3,4]) [] 128 (pc c pn) ?_
   refine ae hE 1 [] [] (kp [0,3,4,5]) [] 368 (pc (fun hg:(decide ((zA s i)≥97))=true=>(pc hg pn)) (pc (fun hq:(decide ((zA s i)≥97))=true=>(pc hq pn)) (pc (fun hg:(!(cond (decide ((zA s i)≥97)) (decide ((zA s i)≤122)) false))=true=>(pc hg pn)) (pc (fun hg:((!(cond (decide ((zA s i)≥97)) (decide ((zA s i)≤122)) false)) && ((!(cond (decide ((zA s i)≥97)) (decide ((zA s i)≤122)) false)) && (decide ((zA s i)≥65))))=true=>(pc hg pn)) (pc (fun hg:(!(cond (decide ((zA s i)≥97)) (decide ((zA s i)≤122)) false))=true=>(pc hg (pc hg (pc (fun hq:(decide ((zA s i)≥65))=true=>(pc (show ((!(cond (decide ((zA s i)≥97)) (decide ((zA s i)≤122)) false)) && ((!(cond (decide ((zA s i)≥97)) (decide ((zA s i)≤122)) false)) && (decide ((zA s i)≥65))))=true from (mo hg (mo hg hq))) pn)) pn)))) (pc (fun hq:(!(cond (decide ((zA s i)≥97)) (decide ((zA s i)≤122)) false))=true=>(pc hq pn)) pn)))))) ?_
   refine ae hE 1 [] [] (kp [0,3,54]) [] 656 (pc (fun hg:(!(cond (cond (decide ((zA s i)≥97)) (decide ((zA s i)≤122)) false) true (cond (decide ((zA s i)≥65)) (decide ((zA s i)≤90)) false)))=true=>(pc hg pn)) (pc (fun hg:((!(cond (cond (decide ((zA s i)≥97)) (decide ((zA s i)≤122)) false) true (cond (decide ((zA s i)≥65)) (decide ((zA s i)≤90)) false))) && ((!(cond (cond (decide ((zA s i)≥97)) (decide ((zA s i)≤122)) false) true (cond (decide ((zA s i)≥65)) (decide ((zA s i)≤90)) false))) && (!(i == 0))))=true=>(pc hg pn)) (pc (fun hg:(((!(cond (cond (decide ((zA s i)≥97)) (decide ((zA s i)≤122)) false) true (cond (decide ((zA s i)≥65)) (decide ((zA s i)≤90)) false))) && ((!(cond (cond (decide ((zA s i)≥97)) (decide ((zA s i)≤122)) false) true (cond (decide ((zA s i)≥65)) (decide ((zA s i)≤90)) false))) && (!(i == 0)))) && (((!(cond (cond (decide ((zA s i)≥97)) (decide ((zA s i)≤122)) false) true (cond (decide ((zA s i)≥65)) (decide ((zA s i)≤90)) false))) && ((!(cond (cond (decide ((zA s i)≥97)) (decide ((zA s i)≤122)) false) true (cond (decide ((zA s i)≥65)) (decide ((zA s i)≤90)) false))) && (!(i == 0)))) && ((zA s i) != 45)))=true=>(pc hg pn)) (pc (fun hg:((((!(cond (cond (decide ((zA s i)≥97)) (decide ((zA s i)≤122)) false) true (cond (decide ((zA s i)≥65)) (decide ((zA s i)≤90)) false))) && ((!(cond (cond (decide ((zA s i)≥97)) (decide ((zA s i)≤122)) false) true (cond (decide ((zA s i)≥65)) (decide ((zA s i)≤90)) false))) && (!(i == 0)))) && (((!(cond (cond (decide ((zA s i)≥97)) (decide ((zA s i)≤122)) false) true (cond (decide ((zA s i)≥65)) (decide ((zA s i)≤90)) false))) && ((!(cond (cond (decide ((zA s i)≥97)) (decide ((zA s i)≤122)) false) true (cond (decide ((zA s i)≥65)) (decide ((zA s i)≤90)) false))) && (!(i == 0)))) && ((zA s i) != 45))) && ((((!(cond (cond (decide ((zA s i)≥97)) (decide ((zA s i)≤122)) false) true (cond (decide ((zA s i)≥65)) (decide ((zA s i)≤90)) false))) && ((!(cond (cond (decide ((zA s i)≥97)) (decide ((zA s i)≤122)) false) true (cond (decide ((zA s i)≥65)) (decide ((zA s i)≤90)) false))) && (!(i == 0)))) && (((!(cond (cond (decide ((zA s i)≥97)) (decide ((zA s i)≤122)) false) true (cond (decide ((zA s i)≥65)) (decide ((zA s i)≤90)) false))) && ((!(cond (cond (decide ((zA s i)≥97)) (decide ((zA s i)≤122)) false) true (cond (decide ((zA s i)≥65)) (decide ((zA s i)≤90)) false))) && (!(i == 0)))) && ((zA s i) != 45))) && (!(decide ((zA s i) < 48)))))=true=>(pc hg pn)) (pc (fun hg:(((!(cond (cond (decide ((zA s i)≥97)) (decide ((zA s i)≤122)) false) true (cond (decide ((zA s i)≥65)) (decide ((zA s i)≤90)) false))) && ((!(cond (cond (decide ((zA s i)≥97)) (decide ((zA s i)≤122)) false) true (cond (decide ((zA s i)≥65)) (decide ((zA s i)≤90)) false))) && (!(i == 0)))) && (((!(cond (cond (decide ((zA s i)≥97)) (decide ((zA s i)≤122)) false) true (cond (decide ((zA s i)≥65)) (decide ((zA s i)≤90)) false))) && ((!(cond (cond (decide ((zA s i)≥97)) (decide ((zA s i)≤122)) false) true (cond (decide ((zA s i)≥65)) (decide ((zA s i)≤90)) false))) && (!(i == 0)))) && ((zA s i) != 45)))=true=>(pc hg (pc hg (pc (fun hq:(!(decide ((zA s i) < 48)))=true=>(pc (show ((((!(cond (cond (decide ((zA s i)≥97)) (decide ((zA s i)≤122)) false) true (cond (decide ((zA s i)≥65)) (decide ((zA s i)≤90)) false))) && ((!(cond (cond (decide ((zA s i)≥97)) (decide ((zA s i)≤122)) false) true (cond (decide ((zA s i)≥65)) (decide ((zA s i)≤90)) false))) && (!(i == 0)))) && (((!(cond (cond (decide ((zA s i)≥97)) (decide ((zA s i)≤122)) false) true (cond (decide ((zA s i)≥65)) (decide ((zA s i)≤90)) false))) && ((!(cond (cond (decide ((zA s i)≥97)) (decide ((zA s i)≤122)) false) true (cond (decide ((zA s i)≥65)) (decide ((zA s i)≤90)) false))) && (!(i == 0)))) && ((zA s i) != 45))) && ((((!(cond (cond (decide ((zA s i)≥97)) (decide ((zA s i)≤122)) false) true (cond (decide ((zA s i)≥65)) (decide ((zA s i)≤90)) false))) && ((!(cond (cond (decide ((zA s i)≥97)) (decide ((zA s i)≤122)) false) true (cond (decide ((zA s i)≥65)) (decide ((zA s i)≤90)) false))) && (!(i == 0)))) && (((!(cond (cond (decide ((zA s i)≥97)) (decide ((zA s i)≤122)) false) true (cond (decide ((zA s i)≥65)) (decide ((zA s i)≤90)) false))) && ((!(cond (cond (decide ((zA s i)≥97)) (decide ((zA s i)≤122)) false) true (cond (decide ((zA s i)≥65)) (decide ((zA s i)≤90)) false))) && (!(i == 0)))) && ((zA s i) != 45))) && (!(decide ((zA s i) < 48)))))=true from (mo hg (mo hg hq))) pn)) pn)))) (pc (fun hg:((!(cond (cond (decide ((zA s i)≥97)) (decide ((zA s i)≤122)) false) true (cond (decide ((zA s i)≥65)) (decide ((zA s i)≤90)) false))) && ((!(cond (cond (decide ((zA s i)≥97)) (decide ((zA s i)≤122)) false) true (cond (decide ((zA s i)≥65)) (decide ((zA s i)≤90)) false))) && (!(i == 0))))=true=>(pc hg (pc hg (pc (fun hq:((zA s i) != 45)=true=>(pc (show (((!(cond (cond (decide ((zA s i)≥97)) (decide ((zA s i)≤122)) false) true (cond (decide ((zA s i)≥65)) (decide ((zA s i)≤90)) false))) && ((!(cond (cond (decide ((zA s i)≥97)) (decide ((zA s i)≤122)) false) true (cond (decide ((zA s i)≥65)) (decide ((zA s i)≤90)) false))) && (!(i == 0)))) && (((!(cond (cond (decide ((zA s i)≥97)) (decide ((zA s i)≤122)) false) true (cond (decide ((zA s i)≥65)) (decide ((zA s i)≤90)) false))) && ((!(cond (cond (decide ((zA s i)≥97)) (decide ((zA s i)≤122)) false) true (cond (decide ((zA s i)≥65)) (decide ((zA s i)≤90)) false))) && (!(i == 0)))) && ((zA s i) != 45)))=true from (mo hg (mo hg hq))) pn)) pn)))) (pc (fun hg:(!(cond (cond (decide ((zA s i)≥97)) (decide ((zA s i)≤122)) false) true (cond (decide ((zA s i)≥65)) (decide ((zA s i)≤90)) false)))=true=>(pc hg (pc hg (pc (fun hq:(!(i == 0))=true=>(pc (show ((!(cond (cond (decide ((zA s i)≥97)) (decide ((zA s i)≤122)) false) true (cond (decide ((zA s i)≥65)) (decide ((zA s i)≤90)) false))) && ((!(cond (cond (decide ((zA s i)≥97)) (decide ((zA s i)≤122)) false) true (cond (decide ((zA s i)≥65)) (decide ((zA s i)≤90)) false))) && (!(i == 0))))=true from (mo hg (mo hg hq))) pn)) pn)))) (pc (fun hq:(!(cond (cond (decide ((zA s i)≥97)) (decide ((zA s i)≤122)) false) true (cond (decide ((zA s i)≥65)) (decide ((zA s i)≤90)) false)))=true=>(pc hq pn)) pn)))))))) ?_
   refine dr 0 54 h (fun ti h=>?_) (fun ti h=>?_)
   ·refine ae hE 1 [] [] (kp [2]) [] 672 pn ?_
    obtain rfl:=cT h
    exact cZ hE 0 Tryz.f23 [] (kp [2]) [] 672 pn [] pn
   ·refine ae hE 2 [] [] (kp [0,3]) [] 704 pn ?_
    exact cP hE 1 [] (kp [0,3]) [] 0 pn (ih _ _ h E hE)
  ·refine ae hE 2 [] [] (kp [2]) [] 80 pn ?_
   obtain rfl:=cT h
   exact cZ hE 0 Tryz.f23 [] (kp [2]) [] 80 pn [] pn
theorem Gn (N s r) (h:sG N s=some r):Sd 23 [(aS s)] [] 0 (aB r) []:=by
 unfold sG at h
 refine g8 (fu:=Tryz.f23) (c:=Sc 1) (nt:=55) (fun hm=>rfl) ?_
 intro E hE
 refine ae hE 1 [] [] (kp [0]) [] 16 pn ?_
 refine ae hE 2 [] [] (kp [0,13]) [] 144 (pc (fun hg:(!(decide (((s.size:Nat):Int) < 1)))=true=>(pc hg pn)) (pc (fun hg:(!(decide (((s.size:Nat):Int) < 1)))=true=>(pc hg pn)) (pc (fun hq:(!(decide (((s.size:Nat):Int) < 1)))=true=>(pc hq pn)) pn))) ?_
 refine dr 0 13 h (fun ee h=>?_) (fun ee h=>?_)
 ·refine ae hE 1 [] [] (kp [2]) [] 160 pn ?_
  obtain rfl:=cT h
  exact cZ hE 0 Tryz.f23 [] (kp [2]) [] 160 pn [] pn
 ·refine ae hE 3 [] [] (kp [0,3]) [] 160 pn ?_
  exact cP hE 2 [] (kp [0,3]) [] 0 pn (Ch N _ N _ _ h E hE)
noncomputable abbrev ZA:=b8 Tryz.f25
theorem gX (N n low high r) (h:fW N n low high=some r):Sd 25 [(aI n),(aI low),(aI high)] [] 0 (aB r) []:=by
 unfold fW at h
 refine g8 (fu:=Tryz.f25) (c:=ZA 1) (nt:=15) (fun hm=>rfl) ?_
 intro E hE
 refine ae hE 1 [] [] (kp [0,1,2]) [] 16 pn ?_
 refine ae hE 1 [] [] (kp [6]) [] 160 (pc (fun hg:(decide (n≥low))=true=>(pc hg (pc hg pn))) (pc (fun hq:(decide (n≥low))=true=>(pc hq pn)) pn)) ?_
 obtain rfl:=cT h
 exact cZ hE 0 Tryz.f25 [] (kp [6]) [] 160 pn [] pn
noncomputable abbrev ZC:=b8 Tryz.f24
theorem Af (N l r) (h:l6 N l=some r):Sd 24 [(.agg (ai.cells l))] [] 0 (aI r) []:=by
 unfold l6 at h
 refine g8 (fu:=Tryz.f24) (c:=ZC 1) (nt:=43) (fun hm=>rfl) ?_
 intro E hE
 refine ae hE 1 [] [] (kp [1]) (kq [0]) 32 pn ?_
 obtain ⟨wP,hr,h⟩:=aP h
 obtain ⟨qe,eI,h⟩:=aP h
 obtain ⟨xF,kc,h⟩:=aP h
 obtain ⟨JD,nw,h⟩:=aP h
 obtain ⟨Ux,rN,h⟩:=aP h
 refine ae hE 2 [(2,oT (aB wP)),(7,oT (aB qe)),(13,oT (aB xF)),(19,oT (aB JD)),(25,oT (aB Ux))] [] (kp [1,30]) (kq [0]) 480 (pc o1 (pc (gX _ _ _ _ _ hr) (pc (fun hg:(!(!wP))=true=>(pc hg (pc o1 pn))) (pc (fun hg:(!(!wP))=true=>(pc (gX _ _ _ _ _ (aL eI hg)) (pc hg pn))) (pc (fun hg:(!(!wP))=true=>(pc hg pn)) (pc (fun hq:(!(!wP))=true=>(pc hq pn)) (pc (fun hg:(!(cond (!wP) true (!qe)))=true=>(pc hg (pc o1 pn))) (pc (fun hg:(!(cond (!wP) true (!qe)))=true=>(pc (gX _ _ _ _ _ (aL kc hg)) (pc hg pn))) (pc (fun hg:(!(cond (!wP) true (!qe)))=true=>(pc hg pn)) (pc (fun hq:(!(cond (!wP) true (!qe)))=true=>(pc hq pn)) (pc (fun hg:(!(cond (cond (!wP) true (!qe)) true (!xF)))=true=>(pc hg (pc o1 pn))) (pc (fun hg:(!(cond (cond (!wP) true (!qe)) true (!xF)))=true=>(pc (gX _ _ _ _ _ (aL nw hg)) (pc hg pn))) (pc (fun hg:(!(cond (cond (!wP) true (!qe)) true (!xF)))=true=>(pc hg pn)) (pc (fun hq:(!(cond (cond (!wP) true (!qe)) true (!xF)))=true=>(pc hq pn)) (pc (fun hg:(!(cond (cond (cond (!wP) true (!qe)) true (!xF)) true (!JD)))=true=>(pc hg (pc o1 pn))) (pc (fun hg:(!(cond (cond (cond (!wP) true (!qe)) true (!xF)) true (!JD)))=true=>(pc (gX _ _ _ _ _ (aL rN hg)) (pc hg pn))) (pc (fun hg:(!(cond (cond (cond (!wP) true (!qe)) true (!xF)) true (!JD)))=true=>(pc hg pn)) (pc (fun hq:(!(cond (cond (cond (!wP) true (!qe)) true (!xF)) true (!JD)))=true=>(pc hq pn)) pn)))))))))))))))))) ?_
 refine dr 0 30 h (fun ee h=>?_) (fun ee h=>?_)
 ·refine ae hE 1 [] [] (kp [2]) [] 496 pn ?_
  obtain rfl:=cT h
  exact cZ hE 0 Tryz.f24 [] (kp [2]) [] 496 pn [] pn
 ·refine ae hE 3 [] [] (kp [42]) [] 672 (pc o1 (pc o1 (pc (fun hg:(l.jf == l.bX)=true=>(pc hg (pc o1 pn))) (pc (fun hg:(l.jf == l.bX)=true=>(pc hg (pc o1 pn))) (pc (fun hg:(l.jf == l.bX)=true=>(pc hg (pc hg pn))) (pc (fun hq:(l.jf == l.bX)=true=>(pc hq pn)) pn)))))) ?_
  refine dr 0 42 h (fun jq h=>?_) (fun jq h=>?_)
  ·refine ae hE 1 [] [] (kp [2]) [] 688 pn ?_
   obtain rfl:=cT h
   exact cZ hE 0 Tryz.f24 [] (kp [2]) [] 688 pn [] pn
  ·refine ae hE 2 [] [] (kp [2]) [] 688 pn ?_
   obtain rfl:=cT h
   exact cZ hE 0 Tryz.f24 [] (kp [2]) [] 688 pn [] pn
noncomputable abbrev Gp:=b8 Tryz.f9
def pY (N:Nat) (l:List ai) (K:Int→Option (Int)):Prop:=∀ (i:Int) (r:Int),K i=some r→∀ E,bh E 0→aE Tryz.prog E 9 46 (aW E [] (aI r)) [.code (Gp 116),.inLoop (Gp 116),.inBlock 0,.code (Gp 15)] ⟨[(0,(aH ai.cells ai.d l)),(3,(aI i))],[],0⟩
def wY (N:Nat) (l:List ai) (i:Int) (K:Int→Option (Int)):Prop:=∀ (k:Int) (r:Int),K k=some r→∀ E,bh E 0→aE Tryz.prog E 9 46 (aW E [] (aI r)) [.code (Gp 29844),.inLoop (Gp 29844),.inBlock 2,.code (Gp 3731),.inBlock 1,.code (Gp 467),.inLoop (Gp 116),.inBlock 0,.code (Gp 15)] ⟨[(0,(aH ai.cells ai.d l)),(3,(aI i)),(4,(aI k))],[],0⟩
theorem vW (N:Nat) (l:List ai) (i:Int) (iw:Int→Option (Int)) (vX:pY N l iw) (fuel:Nat):wY N l i (dL N l i iw fuel):=by
 induction fuel with
 | zero=>intro _ r h;rw [dL.eq_1] at h;cases h
 | succ fuel ih =>
  intro k r h E hE
  rw [dL.eq_2] at h
  refine ae hE 2 [] [] (kp [0,3,4,24]) [] 48 pn ?_
  refine dr 0 24 h (fun Dc h=>?_) (fun Dc h=>?_)
  ·obtain ⟨c2,h⟩:=ab h
   obtain ⟨c3,h⟩:=ab h
   refine ae hE 4 [] [] (kp [0,3,4,37]) [] 224 (pc c2 (pc c3 pn)) ?_
   refine dr 0 37 h (fun H6 h=>?_) (fun H6 h=>?_)
   ·refine ae hE 1 [] [] (kp [2]) [] 240 pn ?_
    obtain rfl:=cT h
    exact cZ hE 0 Tryz.f9 [] (kp [2]) [] 240 pn [] pn
   ·refine ae hE 2 [] [] (kp [0,3,4]) [] 272 pn ?_
    exact cP hE 1 [] (kp [0,3,4]) [] 0 pn (ih _ _ h E hE)
  ·obtain ⟨c4,h⟩:=ab h
   obtain ⟨lJ,eI,h⟩:=aP h
   refine ae hE 2 [(4,oT (aI lJ))] [] (kp [0,3,5]) [] 144 (pc c4 (pc (Af _ _ _ eI) pn)) ?_
   refine ae hE 1 [] [] (kp [0,3,5,44]) [] 176 pn ?_
   refine dr 0 44 h (fun PO h=>?_) (fun PO h=>?_)
   ·refine ae hE 1 [] [] (kp [2]) [] 208 pn ?_
    obtain rfl:=cT h
    exact cZ hE 0 Tryz.f9 [] (kp [2]) [] 208 pn [] pn
   ·refine ae hE 2 [] [] (kp [0,3]) [] 224 pn ?_
    exact cP hE 1 [] (kp [0,3]) [] 0 pn (vX _ _ h E hE)
theorem vY (N l fuel):pY N l (eA N l fuel):=by
 induction fuel with
 | zero=>intro _ r h;rw [eA.eq_1] at h;cases h
 | succ fuel ih =>
  intro i r h E hE
  rw [eA.eq_2] at h
  refine ae hE 2 [] [] (kp [0,3,12]) [] 64 pn ?_
  refine dr 0 12 h (fun jq h=>?_) (fun jq h=>?_)
  ·obtain ⟨c,h⟩:=ab h
   obtain ⟨H3,hr,h⟩:=aP h
   refine ae hE 5 [(5,oT (aB H3))] [] (kp [0,3,21]) [] 176 (pc c (pc (Gn _ _ _ hr) pn)) ?_
   refine dr 0 21 h (fun ti h=>?_) (fun ti h=>?_)
   ·refine ae hE 1 [] [] (kp [2]) [] 192 pn ?_
    obtain rfl:=cT h
    exact cZ hE 0 Tryz.f9 [] (kp [2]) [] 192 pn [] pn
   ·refine ae hE 3 [] [] (kp [0,3,4]) [] 192 pn ?_
    exact cP hE 2 [] (kp [0,3,4]) [] 0 pn (vW N _ _ _ ih N _ _ h E hE)
  ·refine ae hE 2 [] [] (kp [2]) [] 80 pn ?_
   obtain rfl:=cT h
   exact cZ hE 0 Tryz.f9 [] (kp [2]) [] 80 pn [] pn
theorem rv (N l r) (h:fc N l=some r):Sd 9 [(aH ai.cells ai.d l)] [] 0 (aI r) []:=by
 unfold fc at h
 refine g8 (fu:=Tryz.f9) (c:=Gp 1) (nt:=46) (fun hm=>rfl) ?_
 intro E hE
 refine ae hE 1 [] [] (kp [0]) [] 16 pn ?_
 refine ae hE 2 [] [] (kp [0,8]) [] 64 pn ?_
 refine dr 0 8 h (fun ee h=>?_) (fun ee h=>?_)
 ·refine ae hE 1 [] [] (kp [2]) [] 80 pn ?_
  obtain rfl:=cT h
  exact cZ hE 0 Tryz.f9 [] (kp [2]) [] 80 pn [] pn
 ·refine ae hE 3 [] [] (kp [0,3]) [] 80 pn ?_
  exact cP hE 2 [] (kp [0,3]) [] 0 pn (vY N _ N _ _ h E hE)
noncomputable abbrev ZD:=b8 Tryz.f10
theorem sU (N w r) (h:jo N w=some r):Sd 10 [(.agg (bJ.cells w))] [] 0 (aI r) []:=by
 unfold jo at h
 refine g8 (fu:=Tryz.f10) (c:=ZD 1) (nt:=19) (fun hm=>rfl) ?_
 intro E hE
 refine ae hE 1 [] [] (kp [1]) (kq [0]) 32 pn ?_
 obtain ⟨wP,hr,h⟩:=aP h
 obtain ⟨qe,eI,h⟩:=aP h
 obtain ⟨xF,kc,h⟩:=aP h
 refine ae hE 2 [(2,oT (aB wP)),(7,oT (aB qe)),(13,oT (aB xF))] [] (kp [18]) [] 288 (pc o1 (pc (gX _ _ _ _ _ hr) (pc (fun hg:(!(!wP))=true=>(pc hg (pc o1 pn))) (pc (fun hg:(!(!wP))=true=>(pc (gX _ _ _ _ _ (aL eI hg)) (pc hg pn))) (pc (fun hg:(!(!wP))=true=>(pc hg pn)) (pc (fun hq:(!(!wP))=true=>(pc hq pn)) (pc (fun hg:(!(cond (!wP) true (!qe)))=true=>(pc hg (pc o1 pn))) (pc (fun hg:(!(cond (!wP) true (!qe)))=true=>(pc (gX _ _ _ _ _ (aL kc hg)) (pc hg pn))) (pc (fun hg:(!(cond (!wP) true (!qe)))=true=>(pc hg pn)) (pc (fun hq:(!(cond (!wP) true (!qe)))=true=>(pc hq pn)) pn)))))))))) ?_
 refine dr 0 18 h (fun ee h=>?_) (fun ee h=>?_)
 ·refine ae hE 1 [] [] (kp [2]) [] 304 pn ?_
  obtain rfl:=cT h
  exact cZ hE 0 Tryz.f10 [] (kp [2]) [] 304 pn [] pn
 ·refine ae hE 2 [] [] (kp [2]) [] 304 pn ?_
  obtain rfl:=cT h
  exact cZ hE 0 Tryz.f10 [] (kp [2]) [] 304 pn [] pn
noncomputable abbrev ZE:=b8 Tryz.f11
theorem Dw (N l w r) (h:pF N l w=some r):Sd 11 [(aH ai.cells ai.d l),(.agg (bJ.cells w))] [] 0 (.tup [(.agg (bF.cells r.1)),(aI r.2)]) []:=by
 unfold pF at h
 refine g8 (fu:=Tryz.f11) (c:=ZE 1) (nt:=23) (fun hm=>rfl) ?_
 intro E hE
 refine ae hE 1 [] [] (kp [0,3,4]) (kq [0,16]) 48 pn ?_
 obtain ⟨bm,hr,h⟩:=aP h
 refine ae hE 2 [(1,oT (aI bm))] [] (kp [0,3,4,6]) (kq [0,16]) 96 (pc (mj _ _ _ hr) pn) ?_
 refine ae hE 1 [] [] (kp [0,3,4,6,11]) (kq [0,16]) 128 pn ?_
 refine dr 0 11 h (fun ee h=>?_) (fun ee h=>?_)
 ·refine ae hE 1 [] [] (kp [4,5]) (kq [16]) 192 (pc o1 pn) ?_
  obtain rfl:=cT h
  exact cZ hE 0 Tryz.f11 [] (kp [4,5]) [(16,.var 16 [.ah,.sl (([]:List aa).length) (fun zi=>ak (([]:List aa).getD zi aa.d)),.sl (([]:List aa).length) (fun zi=>ak (([]:List aa).getD zi aa.d))])] 192 (pc (Eq.refl 0) (pc (Eq.refl 0) pn)) [16] (pc o1 pn)
 ·obtain ⟨lM,eI,h⟩:=aP h
  refine ae hE 3 [(1,oT (aI lM))] [] (kp [0,3,4,7]) (kq [0,16]) 176 (pc o1 (pc (qL _ _ _ eI) pn)) ?_
  refine ae hE 1 [] [] (kp [0,3,4,7,17]) (kq [0,16]) 208 pn ?_
  refine dr 0 17 h (fun jq h=>?_) (fun jq h=>?_)
  ·refine ae hE 1 [] [] (kp [4,5]) (kq [16]) 272 (pc o1 pn) ?_
   obtain rfl:=cT h
   exact cZ hE 0 Tryz.f11 [] (kp [4,5]) [(16,.var 16 [.ah,.sl (([]:List aa).length) (fun zi=>ak (([]:List aa).getD zi aa.d)),.sl (([]:List aa).length) (fun zi=>ak (([]:List aa).getD zi aa.d))])] 272 (pc (Eq.refl 0) (pc (Eq.refl 0) pn)) [16] (pc o1 pn)
  ·obtain ⟨E3,kc,h⟩:=aP h
   refine ae hE 2 [(2,oT (.agg (bF.cells E3)))] [] (kp [4,5]) (kq [16]) 288 (pc o1 (pc (wD _ _ _ _ kc) (pc o1 pn))) ?_
   obtain rfl:=cT h
   exact cZ hE 0 Tryz.f11 [] (kp [4,5]) (kq [16]) 288 pn [16] (pc o1 pn)
noncomputable abbrev Se:=b8 Tryz.f111
def Dx (N:Nat) (neg:Bool) (a:List Int) (K:(List Int)→Int→Option (bW)):Prop:=∀ (x:List Int) (i:Int) (r:bW),K x i=some r→∀ E,bh E 0→aE Tryz.prog E 111 31 (aW E [] (.agg (lg r))) [.code (Se 116),.inLoop (Se 116),.inBlock 0,.code (Se 15)] ⟨[(1,(aH cI 0 a)),(4,(.op 0 0 0)),(5,(.op 1 0 0)),(6,(aI i))],[(0,vO 2 [(aB false),.nil]),(1,vN 2 [(aB (cond neg (decide (((a.length:Nat):Int) > 0)) false)),(.os 2 0 x.length)]),(2,aU x)],3⟩
theorem Ci (N neg a fuel):Dx N neg a (jI N neg a fuel):=by
 induction fuel with
 | zero=>intro _ _ r h;rw [jI.eq_1] at h;cases h
 | succ fuel ih =>
  intro x i r h E hE
  rw [jI.eq_2] at h
  refine ae hE 2 [] [] (kp [1,4,5,6,17]) (kq [0,1,2]) 67 pn ?_
  refine dr 0 17 h (fun ee h=>?_) (fun ee h=>?_)
  ·obtain ⟨c,h⟩:=ab h
   obtain ⟨c2,h⟩:=ab h
   refine ae hE 3 [] [] (kp [1,4,5,6]) (kq [0] ++ [(1,.var 1 [.ah,.kD ((x ++ ([(IntKind.u16.wrap ((a.getD ((i).toNat) 0)))]:List Int)).length)]),(195,.arr 195 ((x ++ ([(IntKind.u16.wrap ((a.getD ((i).toNat) 0)))]:List Int)).length) (fun zi=>(cU .u16) ((x ++ ([(IntKind.u16.wrap ((a.getD ((i).toNat) 0)))]:List Int)).getD zi 0)))]) 243 (pc o1 (pc c (pc (Eq.refl x.length) (pc c2 (pc (z1 1) (pc (show ∀ zi,zi < 1→AV.iy ((fun zi=>([[(wQ (IntKind.u16.wrap ((a.getD ((i).toNat) 0))))]]:List (List AV)).getD zi []) (bu 0 zi))=true from (qw rfl)) (pc o1 (pc (show (x.length+1)=(x ++ ([(IntKind.u16.wrap ((a.getD ((i).toNat) 0)))]:List Int)).length from (ax rfl rfl)) (pc (show x.length+1=(x ++ ([(IntKind.u16.wrap ((a.getD ((i).toNat) 0)))]:List Int)).length from (ax rfl rfl)) (pc (show ∀ zi,zi < (x ++ ([(IntKind.u16.wrap ((a.getD ((i).toNat) 0)))]:List Int)).length→(fun zi=>(cU .u16) ((x ++ ([(IntKind.u16.wrap ((a.getD ((i).toNat) 0)))]:List Int)).getD zi 0)) zi=((fun zm=>if zm < x.length then (fun zi=>(cU .u16) (x.getD zi 0)) zm else (fun zi=>([[(wQ (IntKind.u16.wrap ((a.getD ((i).toNat) 0))))]]:List (List AV)).getD zi []) (zm - x.length))) zi from (bL (cU .u16) 0 x ([(IntKind.u16.wrap ((a.getD ((i).toNat) 0)))]:List Int) rfl (fun _ _=>rfl) (fun zq g9=>b9 (cU .u16) 0 ([(IntKind.u16.wrap ((a.getD ((i).toNat) 0)))]:List Int) zq g9))) pn)))))))))) ?_
   refine ae hE 1 [] [] (kp [1,4,5,6]) (kq [0,1,195]) 291 pn ?_
   exact cP hE 1 [] (kp [1,4,5,6]) (kq [0,1] ++ [(2,.ah 195)]) 3 pn (ih _ _ _ h E hE)
  ·refine ae hE 2 [] [] (kp [4]) (kq [0,2]) 99 (pc o1 (pc o1 pn)) ?_
   obtain rfl:=cT h
   exact cZ hE 0 Tryz.f111 [2] (kp [4]) [(16,.var 0 [.ah,.sl (x.length) (fun zi=>(cU .u16) (x.getD zi 0))])] 99 (pc (Eq.refl x.length) (pc (z1 x.length) (pc (aZ x.length (fun zi=>(cU .u16) (x.getD zi 0))) pn))) [16] (pc o1 pn)
theorem iU (N neg a r) (h:ft N neg a=some r):Sd 111 [(aB neg),(aH cI 0 a)] [] 0 (.agg (lg r)) []:=by
 unfold ft at h
 refine g8 (fu:=Tryz.f111) (c:=Se 1) (nt:=31) (fun hm=>rfl) ?_
 intro E hE
 refine ae hE 1 [] [] (kp [0,1,4]) (kq [0]) 16 pn ?_
 refine ae hE 1 [] [] (kp [1,4,5]) (kq [0,128]) 160 (pc (fun hg:neg=true=>(pc hg pn)) (pc (fun hg:neg=true=>(pc hg pn)) (pc (fun hq:neg=true=>(pc hq pn)) (pc o1 pn)))) ?_
 refine ae hE 2 [] [] (kp [1,4,5,6]) (kq [0,128]) 176 pn ?_
 exact cP hE 2 [] (kp [1,4,5,6]) (kq [0] ++ [(1,.var 128 [.ah,.oK 2]),(2,.nil 1 (fun zi=>(cU .u16) (([]:List Int).getD zi 0)))]) 3 pn (Ci N _ _ N _ _ _ h E hE)
noncomputable abbrev Sf:=b8 Tryz.f93
def Gq (N:Nat) (n:Int) (K:(List Int)→Int→Option (bW)):Prop:=∀ (a:List Int) (u:Int) (r:bW),K a u=some r→∀ E,bh E 0→aE Tryz.prog E 93 25 (aW E [] (.agg (lg r))) [.code (Sf 248),.inLoop (Sf 248),.inBlock 0,.code (Sf 63)] ⟨[(0,(aI n)),(2,(.op 0 0 0)),(3,(.os 1 0 a.length)),(4,(IU u))],[(0,vO 2 [(aB false),.nil]),(1,aO 1 cI 0 a)],2⟩
theorem xT (N n fuel):Gq N n (kU N n fuel):=by
 induction fuel with
 | zero=>intro _ _ r h;rw [kU.eq_1] at h;cases h
 | succ fuel ih =>
  intro a u r h E hE
  rw [kU.eq_2] at h
  refine ae hE 2 [] [] (kp [0,2,3,4,12]) (kq [0,1]) 34 pn ?_
  refine dr 0 12 h (fun jq h=>?_) (fun jq h=>?_)
  ·obtain ⟨c,h⟩:=ab h
   refine ae hE 3 [] [] (kp [0,2] ++ [(3,.kD ((a ++ ([(ag ((u.tmod 65536)))]:List Int)).length))] ++ kp [4]) (kq [0] ++ [(114,.arr 114 ((a ++ ([(ag ((u.tmod 65536)))]:List Int)).length) (fun zi=>cI ((a ++ ([(ag ((u.tmod 65536)))]:List Int)).getD zi 0)))]) 146 (pc (show (65536:Int)≠0 by decide) (pc (Eq.refl a.length) (pc c (pc (z1 1) (pc (show ∀ zi,zi < 1→AV.iy ((fun zi=>([[(aI (ag ((u.tmod 65536))))]]:List (List AV)).getD zi []) (bu 0 zi))=true from (qw rfl)) (pc (show (a.length+1)=(a ++ ([(ag ((u.tmod 65536)))]:List Int)).length from (ax rfl rfl)) (pc (show a.length+1=(a ++ ([(ag ((u.tmod 65536)))]:List Int)).length from (ax rfl rfl)) (pc (show ∀ zi,zi < (a ++ ([(ag ((u.tmod 65536)))]:List Int)).length→(fun zi=>cI ((a ++ ([(ag ((u.tmod 65536)))]:List Int)).getD zi 0)) zi=((fun zm=>if zm < a.length then (fun zi=>cI (a.getD zi 0)) zm else (fun zi=>([[(aI (ag ((u.tmod 65536))))]]:List (List AV)).getD zi []) (zm - a.length))) zi from (bL cI 0 a ([(ag ((u.tmod 65536)))]:List Int) rfl (fun _ _=>rfl) (fun zq g9=>b9 cI 0 ([(ag ((u.tmod 65536)))]:List Int) zq g9))) pn)))))))) ?_
   refine ae hE 1 [] [] (kp [0,2,3,4]) (kq [0,114]) 194 (pc (show (65536:Int)≠0 by decide) pn) ?_
   exact cP hE 1 [] (kp [0,2,3,4]) (kq [0] ++ [(1,.ah 114)]) 2 pn (ih _ _ _ h E hE)
  ·obtain ⟨pG,hr,h⟩:=aP h
   refine ae hE 2 [(3,⟨[],true,(.agg (lg pG)),[],0,true,none⟩)] [] (kp [2]) (kq [0]) 114 (pc (iU _ _ _ _ hr) (pc (z1 a.length) (pc o1 pn))) ?_
   obtain rfl:=cT h
   exact cZ hE 0 Tryz.f93 [] (kp [2]) [(16,.ah 0)] 114 pn [16] (pc o1 pn)
theorem xU (N n r) (h:qE N n=some r):Sd 93 [(aI n)] [] 0 (.agg (lg r)) []:=by
 unfold qE at h
 refine g8 (fu:=Tryz.f93) (c:=Sf 1) (nt:=25) (fun hm=>rfl) ?_
 intro E hE
 refine ae hE 1 [] [] (kp [0,2]) (kq [0]) 16 pn ?_
 refine ae hE 1 [] [] (kp [0,2,3]) (kq [0]) 32 pn ?_
 refine ae hE 1 [] [] (kp [0,2,3,4]) (kq [0]) 80 pn ?_
 refine ae hE 2 [] [] (kp [0,2,3,4,8]) (kq [0]) 112 pn ?_
 refine dr 0 8 h (fun ee h=>?_) (fun ee h=>?_)
 ·refine ae hE 0 [] [] (kp [0,2,3,4]) (kq [0]) 160 pn ?_
  exact cP hE 3 [] (kp [0,2] ++ [(3,.oK 1)] ++ kp [4]) (kq [0] ++ [(1,.nil 1 (fun zi=>cI (([]:List Int).getD zi 0)))]) 2 pn (xT N _ N _ _ _ h E hE)
 ·exact cP hE 4 [] (kp [0,2] ++ [(3,.oK 1)] ++ kp [4]) (kq [0] ++ [(1,.nil 1 (fun zi=>cI (([]:List Int).getD zi 0)))]) 2 pn (xT N _ N _ _ _ h E hE)
noncomputable abbrev ZF:=b8 Tryz.f54
theorem j4 (N n r) (h:mA N n=some r):Sd 54 [(aI n)] [] 0 (.agg (ak r)) []:=by
 unfold mA at h
 refine g8 (fu:=Tryz.f54) (c:=ZF 1) (nt:=7) (fun hm=>rfl) ?_
 intro E hE
 refine ae hE 1 [] [] (kp [0,2]) (kq [0]) 16 pn ?_
 obtain ⟨F2,hr,h⟩:=aP h
 obtain ⟨K3,eI,h⟩:=aP h
 refine ae hE 1 [(1,oT (.agg (lg F2))),(2,oT (.agg (lg K3)))] [] (kp [2]) (kq [0]) 96 (pc (xU _ _ _ hr) (pc (xU _ _ _ eI) (pc o1 pn))) ?_
 obtain rfl:=cT h
 exact cZ hE 0 Tryz.f54 [] (kp [2]) [(16,.ah 0)] 96 pn [16] (pc o1 pn)
noncomputable abbrev ZG:=b8 Tryz.f51
theorem xV (N w r) (h:qF N w=some r):Sd 51 [(.agg (bJ.cells w))] [] 0 (.agg (av.cells r)) []:=by
 unfold qF at h
 refine g8 (fu:=Tryz.f51) (c:=ZG 1) (nt:=13) (fun hm=>rfl) ?_
 intro E hE
 refine ae hE 1 [] [] (kp [1,2]) (kq [0,16]) 32 pn ?_
 obtain ⟨rQ,hr,h⟩:=aP h
 obtain ⟨Uy,eI,h⟩:=aP h
 obtain ⟨Uz,kc,h⟩:=aP h
 refine ae hE 1 [(2,oT (.agg (ak rQ))),(5,oT (.agg (ak Uy))),(8,oT (.agg (ak Uz)))] [] (kp [2]) (kq [16]) 208 (pc o1 (pc (j4 _ _ _ hr) (pc o1 (pc (j4 _ _ _ eI) (pc o1 (pc (j4 _ _ _ kc) (pc o1 pn))))))) ?_
 obtain rfl:=cT h
 exact cZ hE 0 Tryz.f51 [] (kp [2]) (kq [16]) 208 pn [16] (pc o1 pn)
noncomputable abbrev Sg:=b8 Tryz.f129
def Dy (N:Nat) (a:List Int) (K:Int→Option ((List Int))):Prop:=∀ (n:Int) (r:(List Int)),K n=some r→∀ E,bh E 0→aE Tryz.prog E 129 23 (aW E [] (aH cI 0 r)) [.code (Sg 56),.inLoop (Sg 56),.inBlock 0,.code (Sg 15)] ⟨[(0,(aH cI 0 a)),(3,(aI n))],[],0⟩
theorem Cj (N a fuel):Dy N a (jJ N a fuel):=by
 induction fuel with
 | zero=>intro _ r h;rw [jJ.eq_1] at h;cases h
 | succ fuel ih =>
  intro n r h E hE
  rw [jJ.eq_2] at h
  obtain ⟨c,h⟩:=ab h
  refine ae hE 2 [] [] (kp [0,3,15]) [] 160 (pc (fun hg:(decide (n > 0))=true=>(pc hg pn)) (pc (fun hg:(decide (n > 0))=true=>(pc hg (pc hg (pc (c hg) pn)))) (pc (fun hg:(decide (n > 0))=true=>(pc hg pn)) (pc (fun hg:(decide (n > 0))=true=>(pc hg pn)) (pc (fun hq:(decide (n > 0))=true=>(pc hq pn)) pn))))) ?_
  refine dr 0 15 h (fun ee h=>?_) (fun ee h=>?_)
  ·refine ae hE 2 [] [] (kp [0,3]) [] 208 pn ?_
   exact cP hE 2 [] (kp [0,3]) [] 0 pn (ih _ _ h E hE)
  ·obtain ⟨c2,h⟩:=ab h
   obtain ⟨c3,h⟩:=ab h
   obtain ⟨c4,h⟩:=ab h
   refine ae hE 2 [] [] [(2,.kD ((([]:List Int) ++ ((a.take ((n).toNat)).drop 0)).length))] [(224,.arr 224 ((([]:List Int) ++ ((a.take ((n).toNat)).drop 0)).length) (fun zi=>cI ((([]:List Int) ++ ((a.take ((n).toNat)).drop 0)).getD zi 0)))] 256 (pc c2 (pc c3 (pc (Eq.refl 0) (pc c4 (pc (show ∀ zi,zi < ((n).toNat - 0)→AV.iy ((fun zi=>cI (a.getD (bu 0 zi) 0)) zi)=true from (fun _ _=>rfl)) (pc (show (0+((n).toNat - 0))=(([]:List Int) ++ ((a.take ((n).toNat)).drop 0)).length from (ax rfl (xz a 0 ((n).toNat) c2))) (pc (show 0+((n).toNat - 0)=(([]:List Int) ++ ((a.take ((n).toNat)).drop 0)).length from (ax rfl (xz a 0 ((n).toNat) c2))) (pc (show ∀ zi,zi < (([]:List Int) ++ ((a.take ((n).toNat)).drop 0)).length→(fun zi=>cI ((([]:List Int) ++ ((a.take ((n).toNat)).drop 0)).getD zi 0)) zi=((fun zm=>if zm < 0 then (fun _=>[]) zm else (fun zi=>cI (a.getD (bu 0 zi) 0)) (zm - 0))) zi from (bL cI 0 ([]:List Int) ((a.take ((n).toNat)).drop 0) rfl (fun zq g9=>absurd g9 (cW _)) (fun zq g9=>DR cI 0 a 0 ((n).toNat) zq g9))) pn)))))))) ?_
   obtain rfl:=cT h
   exact cZ hE 0 Tryz.f129 [224] [(2,.sl ((([]:List Int) ++ ((a.take ((n).toNat)).drop 0)).length) (fun zi=>cI ((([]:List Int) ++ ((a.take ((n).toNat)).drop 0)).getD zi 0)))] [] 256 (pc (Eq.refl ((([]:List Int) ++ ((a.take ((n).toNat)).drop 0)).length)) (pc (z1 ((([]:List Int) ++ ((a.take ((n).toNat)).drop 0)).length)) (pc (aZ ((([]:List Int) ++ ((a.take ((n).toNat)).drop 0)).length) (fun zi=>cI ((([]:List Int) ++ ((a.take ((n).toNat)).drop 0)).getD zi 0))) pn))) [] pn
theorem mf (N a r) (h:lN N a=some r):Sd 129 [(aH cI 0 a)] [] 0 (aH cI 0 r) []:=by
 unfold lN at h
 refine g8 (fu:=Tryz.f129) (c:=Sg 1) (nt:=23) (fun hm=>rfl) ?_
 intro E hE
 refine ae hE 1 [] [] (kp [0]) [] 16 pn ?_
 refine ae hE 1 [] [] (kp [0,3]) [] 64 pn ?_
 exact cP hE 3 [] (kp [0,3]) [] 0 pn (Cj N _ N _ _ h E hE)
noncomputable abbrev Sh:=b8 Tryz.f112
def Dz (N:Nat) (l:List Int) (K:(List Int)→Int→Option ((List Int))):Prop:=∀ (a:List Int) (i:Int) (r:(List Int)),K a i=some r→∀ E,bh E 0→aE Tryz.prog E 112 21 (aW E [] (aH cI 0 r)) [.code (Sh 116),.inLoop (Sh 116),.inBlock 0,.code (Sh 15)] ⟨[(0,(eU l)),(3,(.os 0 0 a.length)),(4,(aI i))],[(0,aO 1 cI 0 a)],1⟩
theorem Ck (N l fuel):Dz N l (jK N l fuel):=by
 induction fuel with
 | zero=>intro _ _ r h;rw [jK.eq_1] at h;cases h
 | succ fuel ih =>
  intro a i r h E hE
  rw [jK.eq_2] at h
  refine ae hE 2 [] [] (kp [0,3,4,8]) (kq [0]) 65 pn ?_
  refine dr 0 8 h (fun ee h=>?_) (fun ee h=>?_)
  ·obtain ⟨c,h⟩:=ab h
   obtain ⟨c2,h⟩:=ab h
   refine ae hE 3 [] [] (kp [0] ++ [(3,.kD ((a ++ ([(ag ((l.getD ((i).toNat) 0)))]:List Int)).length))] ++ kp [4]) [(177,.arr 177 ((a ++ ([(ag ((l.getD ((i).toNat) 0)))]:List Int)).length) (fun zi=>cI ((a ++ ([(ag ((l.getD ((i).toNat) 0)))]:List Int)).getD zi 0)))] 209 (pc c (pc (Eq.refl a.length) (pc c2 (pc (z1 1) (pc (show ∀ zi,zi < 1→AV.iy ((fun zi=>([[(aI (ag ((l.getD ((i).toNat) 0))))]]:List (List AV)).getD zi []) (bu 0 zi))=true from (qw rfl)) (pc (show (a.length+1)=(a ++ ([(ag ((l.getD ((i).toNat) 0)))]:List Int)).length from (ax rfl rfl)) (pc (show a.length+1=(a ++ ([(ag ((l.getD ((i).toNat) 0)))]:List Int)).length from (ax rfl rfl)) (pc (show ∀ zi,zi < (a ++ ([(ag ((l.getD ((i).toNat) 0)))]:List Int)).length→(fun zi=>cI ((a ++ ([(ag ((l.getD ((i).toNat) 0)))]:List Int)).getD zi 0)) zi=((fun zm=>if zm < a.length then (fun zi=>cI (a.getD zi 0)) zm else (fun zi=>([[(aI (ag ((l.getD ((i).toNat) 0))))]]:List (List AV)).getD zi []) (zm - a.length))) zi from (bL cI 0 a ([(ag ((l.getD ((i).toNat) 0)))]:List Int) rfl (fun _ _=>rfl) (fun zq g9=>b9 cI 0 ([(ag ((l.getD ((i).toNat) 0)))]:List Int) zq g9))) pn)))))))) ?_
   refine ae hE 1 [] [] (kp [0,3,4]) (kq [177]) 257 pn ?_
   exact cP hE 1 [] (kp [0,3,4]) [(0,.ah 177)] 1 pn (ih _ _ _ h E hE)
  ·obtain ⟨bU,hr,h⟩:=aP h
   refine ae hE 2 [(1,⟨[],true,(aH cI 0 bU),[],0,true,none⟩)] [] (kp [2]) [] 113 (pc (mf _ _ _ hr) (pc (z1 a.length) pn)) ?_
   obtain rfl:=cT h
   exact cZ hE 0 Tryz.f112 [] (kp [2]) [] 113 pn [] pn
theorem jN (N l r) (h:iC N l=some r):Sd 112 [(eU l)] [] 0 (aH cI 0 r) []:=by
 unfold iC at h
 refine g8 (fu:=Tryz.f112) (c:=Sh 1) (nt:=21) (fun hm=>rfl) ?_
 intro E hE
 refine ae hE 1 [] [] (kp [0]) [] 16 pn ?_
 refine ae hE 1 [] [] (kp [0,3]) [] 32 pn ?_
 refine ae hE 2 [] [] (kp [0,3,4]) [] 48 pn ?_
 exact cP hE 2 [] (kp [0] ++ [(3,.oK 0)] ++ kp [4]) [(0,.nil 1 (fun zi=>cI (([]:List Int).getD zi 0)))] 1 pn (Ck N _ N _ _ _ h E hE)
noncomputable abbrev ZH:=b8 Tryz.f131
theorem pM (N a i r) (h:lB N a i=some r):Sd 131 [(aH cI 0 a),(aI i)] [] 0 (aI r) []:=by
 unfold lB at h
 refine g8 (fu:=Tryz.f131) (c:=ZH 1) (nt:=13) (fun hm=>rfl) ?_
 intro E hE
 refine ae hE 1 [] [] (kp [0,1]) [] 16 pn ?_
 refine ae hE 2 [] [] (kp [0,1,8]) [] 80 pn ?_
 refine dr 0 8 h (fun ee h=>?_) (fun ee h=>?_)
 ·obtain ⟨c,h⟩:=ab h
  refine ae hE 1 [] [] (kp [4]) [] 160 (pc c pn) ?_
  obtain rfl:=cT h
  exact cZ hE 0 Tryz.f131 [] (kp [4]) [] 160 pn [] pn
 ·refine ae hE 2 [] [] (kp [4]) [] 96 pn ?_
  obtain rfl:=cT h
  exact cZ hE 0 Tryz.f131 [] (kp [4]) [] 96 pn [] pn
noncomputable abbrev Ie:=b8 Tryz.f121
def u6 (N:Nat) (a:List Int) (b:List Int) (K:(List Int)→Int→Option ((List Int))):Prop:=∀ (out:List Int) (i:Int) (r:(List Int)),K out i=some r→∀ E,bh E 0→aE Tryz.prog E 121 61 (aW E [] (aH cI 0 r)) [.code (Ie 116),.inLoop (Ie 116),.inBlock 0,.code (Ie 15)] ⟨[(0,(aH cI 0 a)),(1,(aH cI 0 b)),(5,(.os 0 0 out.length)),(6,(aI i))],[(0,aO 1 cI 0 out)],1⟩
def Cl (N:Nat) (a:List Int) (b:List Int) (i:Int) (K:(List Int)→Int→Int→Option ((List Int))):Prop:=∀ (gf:List Int) (carry:Int) (k:Int) (r:(List Int)),K gf carry k=some r→∀ E,bh E 0→aE Tryz.prog E 121 61 (aW E [] (aH cI 0 r)) [.code (Ie 14924),.inLoop (Ie 14924),.inBlock 2,.inBlock 1,.code (Ie 467),.inLoop (Ie 116),.inBlock 0,.code (Ie 15)] ⟨[(0,(aH cI 0 a)),(1,(aH cI 0 b)),(5,(.os 0 0 gf.length)),(6,(aI i)),(7,(aI carry)),(8,(aI k))],[(0,aO 1 cI 0 gf)],1⟩
theorem Ba (N:Nat) (a:List Int) (b:List Int) (i:Int) (lp:(List Int)→Int→Option ((List Int))) (Bb:u6 N a b lp) (fuel:Nat):Cl N a b i (ja N a b i lp fuel):=by
 induction fuel with
 | zero=>intro _ _ _ r h;rw [ja.eq_1] at h;cases h
 | succ fuel ih =>
  intro gf carry k r h E hE
  rw [ja.eq_2] at h
  refine ae hE 2 [] [] (kp [0,1,5,6,7,8,30]) (kq [0]) 129 (pc (fun hg:(!(decide (k < ((b.length:Nat):Int))))=true=>(pc hg pn)) (pc (fun hq:(!(decide (k < ((b.length:Nat):Int))))=true=>(pc hq pn)) pn)) ?_
  refine dr 0 30 h (fun jq h=>?_) (fun jq h=>?_)
  ·obtain ⟨c2,h⟩:=ab h
   obtain ⟨c3,h⟩:=ab h
   obtain ⟨cG,hr,h⟩:=aP h
   refine ae hE 4 [(12,oT (aI cG))] [] (kp [0,1,5,6,8,9]) (kq [0]) 417 (pc c2 (pc (dR c2) (pc c3 (pc (pM _ _ _ _ hr) pn)))) ?_
   refine ae hE 1 [] [] (kp [0,1] ++ [(5,.kD ((gf.set ((ag (i+k)).toNat) ((ag ((ag ((gf.getD ((ag (i+k)).toNat) 0)+(ag ((a.getD ((i).toNat) 0) * cG))))+carry)).tmod 65536)).length))] ++ kp [6,8,9]) [(0,.arr 0 ((gf.set ((ag (i+k)).toNat) ((ag ((ag ((gf.getD ((ag (i+k)).toNat) 0)+(ag ((a.getD ((i).toNat) 0) * cG))))+carry)).tmod 65536)).length) (fun zi=>cI ((gf.set ((ag (i+k)).toNat) ((ag ((ag ((gf.getD ((ag (i+k)).toNat) 0)+(ag ((a.getD ((i).toNat) 0) * cG))))+carry)).tmod 65536)).getD zi 0)))] 545 (pc (show (65536:Int)≠0 by decide) (pc c2 (pc (dR c2) (pc (aD gf ((ag (i+k)).toNat) ((ag ((ag ((gf.getD ((ag (i+k)).toNat) 0)+(ag ((a.getD ((i).toNat) 0) * cG))))+carry)).tmod 65536)) (pc (aD gf ((ag (i+k)).toNat) ((ag ((ag ((gf.getD ((ag (i+k)).toNat) 0)+(ag ((a.getD ((i).toNat) 0) * cG))))+carry)).tmod 65536)) (pc (cH cI 0 gf ((ag (i+k)).toNat) ((ag ((ag ((gf.getD ((ag (i+k)).toNat) 0)+(ag ((a.getD ((i).toNat) 0) * cG))))+carry)).tmod 65536)) pn)))))) ?_
   refine ae hE 0 [] [] (kp [0,1,5,6,7,8]) (kq [0]) 593 (pc (show (65536:Int)≠0 by decide) pn) ?_
   refine ae hE 1 [] [] (kp [0,1,5,6,7,8]) (kq [0]) 641 pn ?_
   exact cP hE 1 [] (kp [0,1,5,6,7,8]) (kq [0]) 1 pn (ih _ _ _ _ h E hE)
  ·refine ae hE 2 [] [] (kp [0,1,5,6]) (kq [0]) 177 pn ?_
   exact cP hE 1 [] (kp [0,1,5,6]) (kq [0]) 1 pn (Bb _ _ _ h E hE)
theorem Bc (N a b fuel):u6 N a b (jb N a b fuel):=by
 induction fuel with
 | zero=>intro _ _ r h;rw [jb.eq_1] at h;cases h
 | succ fuel ih =>
  intro out i r h E hE
  rw [jb.eq_2] at h
  refine ae hE 2 [] [] (kp [0,1,5,6,20]) (kq [0]) 65 pn ?_
  refine dr 0 20 h (fun ee h=>?_) (fun ee h=>?_)
  ·refine ae hE 4 [] [] (kp [0,1,5,6,7]) (kq [0]) 81 pn ?_
   refine ae hE 1 [] [] (kp [0,1,5,6,7,8]) (kq [0]) 97 pn ?_
   exact cP hE 2 [] (kp [0,1,5,6,7,8]) (kq [0]) 1 pn (Ba N _ _ _ _ ih N _ _ _ _ h E hE)
  ·obtain ⟨bU,eI,h⟩:=aP h
   refine ae hE 2 [(1,⟨[],true,(aH cI 0 bU),[],0,true,none⟩)] [] (kp [4]) [] 113 (pc (mf _ _ _ eI) (pc (z1 out.length) pn)) ?_
   obtain rfl:=cT h
   exact cZ hE 0 Tryz.f121 [] (kp [4]) [] 113 pn [] pn
theorem sV (N a b r) (h:kV N a b=some r):Sd 121 [(aH cI 0 a),(aH cI 0 b)] [] 0 (aH cI 0 r) []:=by
 unfold kV at h
 refine g8 (fu:=Tryz.f121) (c:=Ie 1) (nt:=61) (fun hm=>rfl) ?_
 intro E hE
 refine ae hE 1 [] [] (kp [0,1]) [] 16 pn ?_
 obtain ⟨c,h⟩:=ab h
 refine ae hE 1 [] [] (kp [0,1] ++ [(5,.kD ((List.replicate ((ag ((ag (((a.length:Nat):Int)+((b.length:Nat):Int)))+1)).toNat) 0:List Int).length))]) [(112,.arr 112 ((List.replicate ((ag ((ag (((a.length:Nat):Int)+((b.length:Nat):Int)))+1)).toNat) 0:List Int).length) (fun zi=>cI ((List.replicate ((ag ((ag (((a.length:Nat):Int)+((b.length:Nat):Int)))+1)).toNat) 0:List Int).getD zi 0)))] 144 (pc (show 0≤(ag ((ag (((a.length:Nat):Int)+((b.length:Nat):Int)))+1)) from c.1) (pc (show (ag ((ag (((a.length:Nat):Int)+((b.length:Nat):Int)))+1))≤(ag ((ag (((a.length:Nat):Int)+((b.length:Nat):Int)))+1)) from (Int.le_refl _)) (pc (show (8:Int) * (ag ((ag (((a.length:Nat):Int)+((b.length:Nat):Int)))+1))≤281474976710656 from c.2.1) (pc (show (ag ((ag (((a.length:Nat):Int)+((b.length:Nat):Int)))+1))≤9223372036854775807 from c.2.2) (pc (show (ag ((ag (((a.length:Nat):Int)+((b.length:Nat):Int)))+1)).toNat=(List.replicate ((ag ((ag (((a.length:Nat):Int)+((b.length:Nat):Int)))+1)).toNat) 0:List Int).length from (dj).symm) (pc (show (ag ((ag (((a.length:Nat):Int)+((b.length:Nat):Int)))+1)).toNat=(List.replicate ((ag ((ag (((a.length:Nat):Int)+((b.length:Nat):Int)))+1)).toNat) 0:List Int).length from (dj).symm) (pc (show ∀ zi,zi < (List.replicate ((ag ((ag (((a.length:Nat):Int)+((b.length:Nat):Int)))+1)).toNat) 0:List Int).length→(fun zi=>cI ((List.replicate ((ag ((ag (((a.length:Nat):Int)+((b.length:Nat):Int)))+1)).toNat) 0:List Int).getD zi 0)) zi=(fun _=>[(aI 0)]) zi from (fun zq g9=>rG cI 0 0 ((ag ((ag (((a.length:Nat):Int)+((b.length:Nat):Int)))+1)).toNat) zq g9)) pn))))))) ?_
 refine ae hE 2 [] [] (kp [0,1,5,6]) (kq [112]) 160 pn ?_
 exact cP hE 2 [] (kp [0,1,5,6]) [(0,.ah 112)] 1 pn (Bc N _ _ N _ _ _ h E hE)
noncomputable abbrev Si:=b8 Tryz.f119
def Ag (N:Nat) (a:List Int) (b:List Int) (K:Int→Option (Int)):Prop:=∀ (i:Int) (r:Int),K i=some r→∀ E,bh E 0→aE Tryz.prog E 119 41 (aW E [] (aI r)) [.code (Si 116),.inLoop (Si 116),.inBlock 0,.code (Si 15)] ⟨[(0,(aH cI 0 a)),(1,(aH cI 0 b)),(5,(aI i))],[],0⟩
theorem y7 (N a b fuel):Ag N a b (gx N a b fuel):=by
 induction fuel with
 | zero=>intro _ r h;rw [gx.eq_1] at h;cases h
 | succ fuel ih =>
  intro i r h E hE
  rw [gx.eq_2] at h
  refine ae hE 2 [] [] (kp [0,1,5,20]) [] 32 pn ?_
  refine dr 0 20 h (fun jq h=>?_) (fun jq h=>?_)
  ·obtain ⟨c,h⟩:=ab h
   obtain ⟨c2,h⟩:=ab h
   refine ae hE 4 [] [] (kp [0,1,5,31]) [] 176 (pc c (pc c2 pn)) ?_
   refine dr 0 31 h (fun ti h=>?_) (fun ti h=>?_)
   ·refine ae hE 1 [] [] (kp [4]) [] 336 (pc c (pc c2 pn)) ?_
    obtain rfl:=cT h
    exact cZ hE 0 Tryz.f119 [] (kp [4]) [] 336 pn [] pn
   ·refine ae hE 2 [] [] (kp [0,1,5]) [] 224 pn ?_
    exact cP hE 1 [] (kp [0,1,5]) [] 0 pn (ih _ _ h E hE)
  ·refine ae hE 2 [] [] (kp [4]) [] 48 pn ?_
   obtain rfl:=cT h
   exact cZ hE 0 Tryz.f119 [] (kp [4]) [] 48 pn [] pn
theorem u7 (N a b r) (h:mb N a b=some r):Sd 119 [(aH cI 0 a),(aH cI 0 b)] [] 0 (aI r) []:=by
 unfold mb at h
 refine g8 (fu:=Tryz.f119) (c:=Si 1) (nt:=41) (fun hm=>rfl) ?_
 intro E hE
 refine ae hE 1 [] [] (kp [0,1]) [] 16 pn ?_
 refine ae hE 2 [] [] (kp [0,1,10]) [] 96 pn ?_
 refine dr 0 10 h (fun ee h=>?_) (fun ee h=>?_)
 ·refine ae hE 1 [] [] (kp [4]) [] 192 pn ?_
  obtain rfl:=cT h
  exact cZ hE 0 Tryz.f119 [] (kp [4]) [] 192 pn [] pn
 ·refine ae hE 3 [] [] (kp [0,1,5]) [] 160 pn ?_
  exact cP hE 2 [] (kp [0,1,5]) [] 0 pn (y7 N _ _ N _ _ h E hE)
noncomputable abbrev JI:=b8 Tryz.f120
def u9 (N:Nat) (a:List Int) (b:List Int) (K:(List Int)→Int→Int→Option ((List Int))):Prop:=∀ (out:List Int) (borrow:Int) (i:Int) (r:(List Int)),K out borrow i=some r→∀ E,bh E 0→aE Tryz.prog E 120 35 (aW E [] (aH cI 0 r)) [.code (JI 244),.inLoop (JI 244),.inBlock 0,.code (JI 31)] ⟨[(0,(aH cI 0 a)),(1,(aH cI 0 b)),(5,(.os 0 0 out.length)),(6,(aI borrow)),(7,(aI i))],[(0,aO 1 cI 0 out)],1⟩
def Cm (N:Nat) (a:List Int) (b:List Int) (out:List Int) (i:Int) (K:Int→Int→Option ((List Int))):Prop:=∀ (kb:Int) (s:Int) (r:(List Int)),K kb s=some r→∀ E,bh E 0→aE Tryz.prog E 120 35 (aW E [] (aH cI 0 r)) [.code (JI 15655),.inBlock 1,.code (JI 979),.inLoop (JI 244),.inBlock 0,.code (JI 31)] ⟨[(0,(aH cI 0 a)),(1,(aH cI 0 b)),(5,(.os 0 0 out.length)),(6,(aI kb)),(7,(aI i)),(8,(aI s))],[(0,aO 1 cI 0 out)],1⟩
theorem tD (N:Nat) (a:List Int) (b:List Int) (out:List Int) (i:Int) (nu:(List Int)→Int→Int→Option ((List Int))) (Bd:u9 N a b nu):Cm N a b out i (lq N a b out i nu):=by
 intro kb s r h E hE
 unfold lq at h
 obtain ⟨c2,h⟩:=ab h
 refine ae hE 0 [] [] (kp [0,1] ++ [(5,.kD ((out ++ ([s]:List Int)).length))] ++ kp [6,7]) [(49,.arr 49 ((out ++ ([s]:List Int)).length) (fun zi=>cI ((out ++ ([s]:List Int)).getD zi 0)))] 81 (pc (Eq.refl out.length) (pc c2 (pc (z1 1) (pc (show ∀ zi,zi < 1→AV.iy ((fun zi=>([[(aI s)]]:List (List AV)).getD zi []) (bu 0 zi))=true from (qw rfl)) (pc (show (out.length+1)=(out ++ ([s]:List Int)).length from (ax rfl rfl)) (pc (show out.length+1=(out ++ ([s]:List Int)).length from (ax rfl rfl)) (pc (show ∀ zi,zi < (out ++ ([s]:List Int)).length→(fun zi=>cI ((out ++ ([s]:List Int)).getD zi 0)) zi=((fun zm=>if zm < out.length then (fun zi=>cI (out.getD zi 0)) zm else (fun zi=>([[(aI s)]]:List (List AV)).getD zi []) (zm - out.length))) zi from (bL cI 0 out ([s]:List Int) rfl (fun _ _=>rfl) (fun zq g9=>b9 cI 0 ([s]:List Int) zq g9))) pn))))))) ?_
 refine ae hE 1 [] [] (kp [0,1,5,6,7]) (kq [49]) 129 pn ?_
 exact cP hE 1 [] (kp [0,1,5,6,7]) [(0,.ah 49)] 1 pn (Bd _ _ _ _ h E hE)
theorem Be (N a b fuel):u9 N a b (fK N a b fuel):=by
 induction fuel with
 | zero=>intro _ _ _ r h;rw [fK.eq_1] at h;cases h
 | succ fuel ih =>
  intro out borrow i r h E hE
  rw [fK.eq_2] at h
  refine ae hE 2 [] [] (kp [0,1,5,6,7,12]) (kq [0]) 65 pn ?_
  refine dr 0 12 h (fun ee h=>?_) (fun ee h=>?_)
  ·obtain ⟨c,h⟩:=ab h
   obtain ⟨cG,hr,h⟩:=aP h
   refine ae hE 4 [(6,oT (aI cG))] [] (kp [0,1,5,7,8]) (kq [0]) 241 (pc c (pc (pM _ _ _ _ hr) pn)) ?_
   refine ae hE 1 [] [] (kp [0,1,5,6,7,8]) (kq [0]) 257 pn ?_
   refine ae hE 2 [] [] (kp [0,1,5,6,7,8,26]) (kq [0]) 289 pn ?_
   refine dr 0 26 h (fun jq h=>?_) (fun jq h=>?_)
   ·refine ae hE 1 [] [] (kp [0,1,5,7,8]) (kq [0]) 337 pn ?_
    refine ae hE 0 [] [] (kp [0,1,5,6,7,8]) (kq [0]) 353 pn ?_
    exact cP hE 0 [] (kp [0,1,5,6,7,8]) (kq [0]) 1 pn (tD N _ _ _ _ _ ih _ _ _ h E hE)
   ·exact cP hE 1 [] (kp [0,1,5,6,7,8]) (kq [0]) 1 pn (tD N _ _ _ _ _ ih _ _ _ h E hE)
  ·obtain ⟨bU,eI,h⟩:=aP h
   refine ae hE 2 [(1,⟨[],true,(aH cI 0 bU),[],0,true,none⟩)] [] (kp [4]) [] 113 (pc (mf _ _ _ eI) (pc (z1 out.length) pn)) ?_
   obtain rfl:=cT h
   exact cZ hE 0 Tryz.f120 [] (kp [4]) [] 113 pn [] pn
theorem sW (N a b r) (h:oO N a b=some r):Sd 120 [(aH cI 0 a),(aH cI 0 b)] [] 0 (aH cI 0 r) []:=by
 unfold oO at h
 refine g8 (fu:=Tryz.f120) (c:=JI 1) (nt:=35) (fun hm=>rfl) ?_
 intro E hE
 refine ae hE 1 [] [] (kp [0,1]) [] 16 pn ?_
 refine ae hE 1 [] [] (kp [0,1,5]) [] 32 pn ?_
 refine ae hE 1 [] [] (kp [0,1,5,6]) [] 48 pn ?_
 refine ae hE 2 [] [] (kp [0,1,5,6,7]) [] 64 pn ?_
 exact cP hE 2 [] (kp [0,1] ++ [(5,.oK 0)] ++ kp [6,7]) [(0,.nil 1 (fun zi=>cI (([]:List Int).getD zi 0)))] 1 pn (Be N _ _ N _ _ _ _ h E hE)
noncomputable abbrev Cn:=b8 Tryz.f117
def rh (N:Nat) (a:List Int) (b:List Int) (K:(List Int)→(List Int)→Int→Option ((List Int)×(List Int))):Prop:=∀ (rest:List Int) (q:List Int) (i:Int) (r:(List Int)×(List Int)),K rest q i=some r→∀ E,bh E 0→aE Tryz.prog E 117 63 (aW E [] (.tup [(aH cI 0 r.1),(aH cI 0 r.2)])) [.code (Cn 244),.inLoop (Cn 244),.inBlock 0,.code (Cn 31)] ⟨[(0,(aH cI 0 a)),(1,(aH cI 0 b)),(6,(aH cI 0 rest)),(7,(.os 0 0 q.length)),(8,(aI i))],[(0,aO 1 cI 0 q)],1⟩
def DA (N:Nat) (a:List Int) (b:List Int) (q:List Int) (i:Int) (bU:(List Int)) (K:Int→Int→Option ((List Int)×(List Int))):Prop:=∀ (lo:Int) (hi:Int) (r:(List Int)×(List Int)),K lo hi=some r→∀ E,bh E 0→aE Tryz.prog E 117 63 (aW E [] (.tup [(aH cI 0 r.1),(aH cI 0 r.2)])) [.code (Cn 62616),.inLoop (Cn 62616),.inBlock 2,.code (Cn 15655),.inBlock 1,.code (Cn 979),.inLoop (Cn 244),.inBlock 0,.code (Cn 31)] ⟨[(0,(aH cI 0 a)),(1,(aH cI 0 b)),(6,(aH cI 0 bU)),(7,(.os 0 0 q.length)),(8,(aI i)),(9,(aI lo)),(10,(aI hi))],[(0,aO 1 cI 0 q)],1⟩
def DB (N:Nat) (a:List Int) (b:List Int) (q:List Int) (i:Int) (lo:Int) (K:(List Int)→Option ((List Int)×(List Int))):Prop:=∀ (JE:List Int) (r:(List Int)×(List Int)),K JE=some r→∀ E,bh E 0→aE Tryz.prog E 117 63 (aW E [] (.tup [(aH cI 0 r.1),(aH cI 0 r.2)])) [.code (Cn 979),.inLoop (Cn 244),.inBlock 0,.code (Cn 31)] ⟨[(0,(aH cI 0 a)),(1,(aH cI 0 b)),(6,(aH cI 0 JE)),(7,(.os 0 0 ((q.set ((i).toNat) lo).length))),(8,(aI i))],[(0,aO 1 cI 0 (q.set ((i).toNat) lo))],1⟩
theorem vb (N:Nat) (a:List Int) (b:List Int) (q:List Int) (i:Int) (lo:Int) (dQ:(List Int)→(List Int)→Int→Option ((List Int)×(List Int))) (ny:rh N a b dQ):DB N a b q i lo (mc N a b q i lo dQ):=by
 intro JE r h E hE
 unfold mc at h
 refine ae hE 0 [] [] (kp [0,1,6,7,8]) (kq [0]) 49 pn ?_
 exact cP hE 1 [] (kp [0,1,6,7,8]) (kq [0]) 1 pn (ny _ _ _ _ h E hE)
theorem Co (N:Nat) (a:List Int) (b:List Int) (q:List Int) (i:Int) (bU:(List Int)) (dQ:(List Int)→(List Int)→Int→Option ((List Int)×(List Int))) (ny:rh N a b dQ) (fuel:Nat):DA N a b q i bU (iQ N a b q i bU dQ fuel):=by
 induction fuel with
 | zero=>intro _ _ r h;rw [iQ.eq_1] at h;cases h
 | succ fuel ih =>
  intro lo hi r h E hE
  rw [iQ.eq_2] at h
  refine ae hE 2 [] [] (kp [0,1,6,7,8,9,10,32]) (kq [0]) 49 pn ?_
  refine dr 0 32 h (fun jq h=>?_) (fun jq h=>?_)
  ·refine ae hE 3 [] [] (kp [0,1,6,7,8,9,10,11]) (kq [0]) 145 (pc (show (2:Int)≠0 by decide) pn) ?_
   obtain ⟨qV,eI,h⟩:=aP h
   obtain ⟨jY,kc,h⟩:=aP h
   refine ae hE 1 [(3,⟨[],true,(aH cI 0 qV),[],0,true,none⟩),(5,oT (aI jY))] [] (kp [0,1,6,7,8,9,10,11,44]) (kq [0]) 257 (pc (show Sd 121 [(aH cI 0 b),(.sl 1 (fun zi=>(fun zi=>([[(aI (ag ((ag ((ag (lo+hi))+1)).tdiv 2)))]]:List (List AV)).getD zi []) (bu 0 zi)))] [] 0 (aH cI 0 qV) [] from (Sound.conv (sV _ _ _ _ eI) (.cons (Alike.refl _) (.cons (Alike.sl rfl (fun zq g9=>b9 cI 0 ([(ag ((ag ((ag (lo+hi))+1)).tdiv 2))]:List Int) zq g9)) .nil)))) (pc (z1 1) (pc (u7 _ _ _ _ kc) pn))) ?_
   refine dr 0 44 h (fun ti h=>?_) (fun ti h=>?_)
   ·refine ae hE 0 [] [] (kp [0,1,6,7,8,9,10]) (kq [0]) 289 pn ?_
    exact cP hE 2 [] (kp [0,1,6,7,8,9,10]) (kq [0]) 1 pn (ih _ _ _ h E hE)
   ·refine ae hE 0 [] [] (kp [0,1,6,7,8,9,10]) (kq [0]) 305 pn ?_
    exact cP hE 2 [] (kp [0,1,6,7,8,9,10]) (kq [0]) 1 pn (ih _ _ _ h E hE)
  ·obtain ⟨c4,h⟩:=ab h
   refine ae hE 2 [] [] (kp [0,1,6] ++ [(7,.kD ((q.set ((i).toNat) lo).length))] ++ kp [8,9]) [(0,.arr 0 ((q.set ((i).toNat) lo).length) (fun zi=>cI ((q.set ((i).toNat) lo).getD zi 0)))] 129 (pc c4 (pc (dR c4) (pc (aD q ((i).toNat) lo) (pc (aD q ((i).toNat) lo) (pc (cH cI 0 q ((i).toNat) lo) pn))))) ?_
   refine ae hE 1 [] [] (kp [0,1,6,7,8,9,53]) (kq [0]) 161 pn ?_
   refine dr 0 53 h (fun Dc h=>?_) (fun Dc h=>?_)
   ·obtain ⟨DU,nw,h⟩:=aP h
    obtain ⟨sx,rN,h⟩:=aP h
    refine ae hE 0 [(4,⟨[],true,(aH cI 0 DU),[],0,true,none⟩),(5,oT (aH cI 0 sx))] [] (kp [0,1,6,7,8]) (kq [0]) 273 (pc (show Sd 121 [(aH cI 0 b),(.sl 1 (fun zi=>(fun zi=>([[(aI lo)]]:List (List AV)).getD zi []) (bu 0 zi)))] [] 0 (aH cI 0 DU) [] from (Sound.conv (sV _ _ _ _ nw) (.cons (Alike.refl _) (.cons (Alike.sl rfl (fun zq g9=>b9 cI 0 ([lo]:List Int) zq g9)) .nil)))) (pc (z1 1) (pc (sW _ _ _ _ rN) pn))) ?_
    exact cP hE 1 [] (kp [0,1,6,7,8]) (kq [0]) 1 pn (vb N _ _ _ _ _ _ ny _ _ h E hE)
   ·exact cP hE 2 [] (kp [0,1,6,7,8]) (kq [0]) 1 pn (vb N _ _ _ _ _ _ ny _ _ h E hE)
theorem Cp (N a b fuel):rh N a b (iR N a b fuel):=by
 induction fuel with
 | zero=>intro _ _ _ r h;rw [iR.eq_1] at h;cases h
 | succ fuel ih =>
  intro rest q i r h E hE
  rw [iR.eq_2] at h
  refine ae hE 2 [] [] (kp [0,1,6,7,8,19]) (kq [0]) 33 pn ?_
  refine dr 0 19 h (fun ee h=>?_) (fun ee h=>?_)
  ·obtain ⟨c2,h⟩:=ab h
   obtain ⟨c3,h⟩:=ab h
   obtain ⟨bU,hr,h⟩:=aP h
   refine ae hE 4 [(7,⟨[],true,(aH cI 0 bU),[],0,true,none⟩)] [] (kp [0,1,6,7,8]) (kq [0]) 177 (pc c2 (pc (Eq.refl 1) (pc c3 (pc (show ∀ zi,zi < rest.length→AV.iy ((fun zi=>cI (rest.getD zi 0)) zi)=true from (fun _ _=>rfl)) (pc (show Sd 129 [(.sl (1+rest.length) (fun zi=>((fun zm=>if zm < 1 then (fun zi=>([[(aI (a.getD ((i).toNat) 0))]]:List (List AV)).getD zi []) zm else (fun zi=>cI (rest.getD zi 0)) (zm - 1))) (bu 0 zi)))] [] 0 (aH cI 0 bU) [] from (Sound.conv (mf _ _ _ hr) (.cons (Alike.sl (ax rfl rfl) (bL cI 0 ([(a.getD ((i).toNat) 0)]:List Int) rest rfl (fun zq g9=>b9 cI 0 ([(a.getD ((i).toNat) 0)]:List Int) zq g9) (fun _ _=>rfl))) .nil))) (pc (z1 (1+rest.length)) pn)))))) ?_
   refine ae hE 1 [] [] (kp [0,1,6,7,8,9,10]) (kq [0]) 209 pn ?_
   exact cP hE 3 [] (kp [0,1,6,7,8,9,10]) (kq [0]) 1 pn (Co N _ _ _ _ _ _ ih N _ _ _ h E hE)
  ·obtain ⟨jv,xK,h⟩:=aP h
   refine ae hE 2 [(1,⟨[],true,(aH cI 0 jv),[],0,true,none⟩)] [] (kp [4,5]) [] 113 (pc (mf _ _ _ xK) (pc (z1 q.length) pn)) ?_
   obtain rfl:=cT h
   exact cZ hE 0 Tryz.f117 [] (kp [4,5]) [] 113 pn [] pn
theorem uh (N a b r) (h:mY N a b=some r):Sd 117 [(aH cI 0 a),(aH cI 0 b)] [] 0 (.tup [(aH cI 0 r.1),(aH cI 0 r.2)]) []:=by
 unfold mY at h
 refine g8 (fu:=Tryz.f117) (c:=Cn 1) (nt:=63) (fun hm=>rfl) ?_
 intro E hE
 refine ae hE 1 [] [] (kp [0,1]) [] 32 pn ?_
 refine ae hE 1 [] [] (kp [0,1,6]) [] 48 pn ?_
 obtain ⟨c,h⟩:=ab h
 refine ae hE 1 [] [] (kp [0,1,6] ++ [(7,.kD ((List.replicate a.length 0:List Int).length))]) [(80,.arr 80 ((List.replicate a.length 0:List Int).length) (fun zi=>cI ((List.replicate a.length 0:List Int).getD zi 0)))] 112 (pc (show 0≤((a.length:Nat):Int) from c.1) (pc (show ((a.length:Nat):Int)≤((a.length:Nat):Int) from (Int.le_refl _)) (pc (show (8:Int) * ((a.length:Nat):Int)≤281474976710656 from c.2.1) (pc (show ((a.length:Nat):Int)≤9223372036854775807 from c.2.2) (pc (show a.length=(List.replicate a.length 0:List Int).length from (dj).symm) (pc (show a.length=(List.replicate a.length 0:List Int).length from (dj).symm) (pc (show ∀ zi,zi < (List.replicate a.length 0:List Int).length→(fun zi=>cI ((List.replicate a.length 0:List Int).getD zi 0)) zi=(fun _=>[(aI 0)]) zi from (fun zq g9=>rG cI 0 0 a.length zq g9)) pn))))))) ?_
 refine ae hE 2 [] [] (kp [0,1,6,7,8]) (kq [80]) 176 pn ?_
 exact cP hE 2 [] (kp [0,1] ++ [(6,.sl (([]:List Int).length) (fun zi=>cI (([]:List Int).getD zi 0)))] ++ kp [7,8]) [(0,.ah 80)] 1 (pc (Eq.refl 0) pn) (Cp N _ _ N _ _ _ _ h E hE)
noncomputable abbrev Sj:=b8 Tryz.f116
def Fs (N:Nat) (K:(List Int)→(List Int)→Option ((List Int))):Prop:=∀ (a2:List Int) (b2:List Int) (r:(List Int)),K a2 b2=some r→∀ E,bh E 0→aE Tryz.prog E 116 19 (aW E [] (aH cI 0 r)) [.code (Sj 24),.inLoop (Sj 24),.inBlock 0,.code (Sj 7)] ⟨[(0,(aH cI 0 a2)),(1,(aH cI 0 b2))],[],0⟩
theorem DC (N fuel):Fs N (lO N fuel):=by
 induction fuel with
 | zero=>intro _ _ r h;rw [lO.eq_1] at h;cases h
 | succ fuel ih =>
  intro a2 b2 r h E hE
  rw [lO.eq_2] at h
  refine ae hE 2 [] [] (kp [0,1,9]) [] 48 pn ?_
  refine dr 0 9 h (fun ee h=>?_) (fun ee h=>?_)
  ·obtain ⟨j3,hr,h⟩:=aP h
   refine ae hE 3 [(2,oT (.tup [(aH cI 0 j3.1),(aH cI 0 j3.2)]))] [] (kp [1,6]) [] 176 (pc (uh _ _ _ _ hr) pn) ?_
   refine ae hE 0 [] [] (kp [0,1]) [] 240 pn ?_
   exact cP hE 2 [] (kp [0,1]) [] 0 pn (ih _ _ _ h E hE)
  ·refine ae hE 2 [] [] (kp [4]) [] 80 pn ?_
   obtain rfl:=cT h
   exact cZ hE 0 Tryz.f116 [] (kp [4]) [] 80 pn [] pn
theorem Ig (N a b r) (h:yD N a b=some r):Sd 116 [(aH cI 0 a),(aH cI 0 b)] [] 0 (aH cI 0 r) []:=by
 unfold yD at h
 refine g8 (fu:=Tryz.f116) (c:=Sj 1) (nt:=19) (fun hm=>rfl) ?_
 intro E hE
 refine ae hE 1 [] [] (kp [0,1]) [] 16 pn ?_
 exact cP hE 3 [] (kp [0,1]) [] 0 pn (DC N N _ _ _ h E hE)
noncomputable abbrev ZJ:=b8 Tryz.f94
theorem qn (N a b r) (h:mZ N a b=some r):Sd 94 [(.agg (lg a)),(.agg (lg b))] [] 0 (.agg (ak r)) []:=by
 unfold mZ at h
 refine g8 (fu:=Tryz.f94) (c:=ZJ 1) (nt:=52) (fun hm=>rfl) ?_
 intro E hE
 refine ae hE 1 [] [] (kp [2,3,4]) (kq [0,16,32]) 48 pn ?_
 obtain ⟨mB,hr,h⟩:=aP h
 obtain ⟨nI,eI,h⟩:=aP h
 refine ae hE 1 [(2,oT (aH cI 0 mB)),(5,oT (aH cI 0 nI))] [] (kp [2,3,4,5,6]) (kq [0,16,32]) 176 (pc o1 (pc (jN _ _ _ hr) (pc o1 (pc (jN _ _ _ eI) pn)))) ?_
 refine ae hE 2 [] [] (kp [2,3,4,5,6,20]) (kq [0,16,32]) 224 pn ?_
 refine dr 0 20 h (fun ee h=>?_) (fun ee h=>?_)
 ·obtain ⟨pG,kc,h⟩:=aP h
  obtain ⟨F2,nw,h⟩:=aP h
  refine ae hE 1 [(3,oT (.agg (lg pG))),(4,oT (.agg (lg F2)))] [] (kp [4]) (kq [32]) 336 (pc o1 (pc (iU _ _ _ _ kc) (pc (xU _ _ _ nw) (pc o1 pn)))) ?_
  obtain rfl:=cT h
  exact cZ hE 0 Tryz.f94 [] (kp [4]) [(16,.ah 32)] 336 pn [16] (pc o1 pn)
 ·obtain ⟨RX,rN,h⟩:=aP h
  refine ae hE 2 [(2,oT (aH cI 0 RX))] [] (kp [2,3,4,5,6,7]) (kq [0,16,32]) 288 (pc (Ig _ _ _ _ rN) pn) ?_
  obtain ⟨j3,xK,h⟩:=aP h
  refine ae hE 1 [(2,oT (.tup [(aH cI 0 j3.1),(aH cI 0 j3.2)]))] [] (kp [2,3,4,6,7,8]) (kq [0,16,32]) 416 (pc (uh _ _ _ _ xK) pn) ?_
  obtain ⟨kj,yX,h⟩:=aP h
  refine ae hE 1 [(2,oT (.tup [(aH cI 0 kj.1),(aH cI 0 kj.2)]))] [] (kp [2,3,4,8,10]) (kq [0,16,32]) 544 (pc (uh _ _ _ _ yX) pn) ?_
  obtain ⟨zU,Gh,h⟩:=aP h
  obtain ⟨zV,Gg,h⟩:=aP h
  refine ae hE 1 [(6,oT (.agg (lg zU))),(8,oT (.agg (lg zV)))] [] (kp [4]) (kq [32]) 720 (pc o1 (pc o1 (pc (iU _ _ _ _ Gh) (pc (iU _ _ _ _ Gg) (pc o1 pn))))) ?_
  obtain rfl:=cT h
  exact cZ hE 0 Tryz.f94 [] (kp [4]) [(16,.ah 32)] 720 pn [16] (pc o1 pn)
noncomputable abbrev ZK:=b8 Tryz.f84
theorem gA (N x r) (h:fM N x=some r):Sd 84 [(.agg (ak x))] [] 0 (.agg (ak r)) []:=by
 unfold fM at h
 refine g8 (fu:=Tryz.f84) (c:=ZK 1) (nt:=8) (fun hm=>rfl) ?_
 intro E hE
 refine ae hE 1 [] [] (kp [1,2]) (kq [0,16]) 32 pn ?_
 obtain ⟨sH,hr,h⟩:=aP h
 refine ae hE 1 [(4,oT (.agg (ak sH)))] [] (kp [2]) (kq [16]) 128 (pc o1 (pc o1 (pc (qn _ _ _ _ hr) (pc o1 pn)))) ?_
 obtain rfl:=cT h
 exact cZ hE 0 Tryz.f84 [] (kp [2]) (kq [16]) 128 pn [16] (pc o1 pn)
noncomputable abbrev Wo:=b8 Tryz.f92
theorem Gr (N a r) (h:vK N a=some r):Sd 92 [(.agg (lg a))] [] 0 (aI r) []:=by
 unfold vK at h
 refine g8 (fu:=Tryz.f92) (c:=Wo 1) (nt:=10) (fun hm=>rfl) ?_
 intro E hE
 refine ae hE 1 [] [] (kp [1]) (kq [0]) 32 pn ?_
 obtain ⟨mB,hr,h⟩:=aP h
 refine ae hE 2 [(2,oT (aH cI 0 mB))] [] (kp [1,7]) (kq [0]) 112 (pc o1 (pc (jN _ _ _ hr) pn)) ?_
 refine dr 0 7 h (fun ee h=>?_) (fun ee h=>?_)
 ·refine ae hE 1 [] [] (kp [2]) [] 128 pn ?_
  obtain rfl:=cT h
  exact cZ hE 0 Tryz.f92 [] (kp [2]) [] 128 pn [] pn
 ·refine ae hE 3 [] [] (kp [9]) [] 144 (pc o1 pn) ?_
  refine dr 0 9 h (fun jq h=>?_) (fun jq h=>?_)
  ·refine ae hE 1 [] [] (kp [2]) [] 160 pn ?_
   obtain rfl:=cT h
   exact cZ hE 0 Tryz.f92 [] (kp [2]) [] 160 pn [] pn
  ·refine ae hE 2 [] [] (kp [2]) [] 160 pn ?_
   obtain rfl:=cT h
   exact cZ hE 0 Tryz.f92 [] (kp [2]) [] 160 pn [] pn
noncomputable abbrev ZL:=b8 Tryz.f52
theorem iH (N x r) (h:gG N x=some r):Sd 52 [(.agg (ak x))] [] 0 (aI r) []:=by
 unfold gG at h
 refine g8 (fu:=Tryz.f52) (c:=ZL 1) (nt:=7) (fun hm=>rfl) ?_
 intro E hE
 refine ae hE 1 [] [] (kp [1]) (kq [0]) 32 pn ?_
 obtain ⟨eE,hr,h⟩:=aP h
 obtain ⟨PK,eI,h⟩:=aP h
 refine ae hE 1 [(1,oT (.agg (ak eE))),(3,oT (aI PK))] [] (kp [2]) [] 112 (pc o1 (pc (gA _ _ _ hr) (pc (Gr _ _ _ eI) pn))) ?_
 obtain rfl:=cT h
 exact cZ hE 0 Tryz.f52 [] (kp [2]) [] 112 pn [] pn
noncomputable abbrev Wp:=b8 Tryz.f85
theorem Ih (N a r) (h:yE N a=some r):Sd 85 [(.agg (lg a))] [] 0 (.agg (lg r)) []:=by
 unfold yE at h
 refine g8 (fu:=Tryz.f85) (c:=Wp 1) (nt:=10) (fun hm=>rfl) ?_
 intro E hE
 refine ae hE 1 [] [] (kp [1,2]) (kq [0,16]) 32 pn ?_
 obtain ⟨mB,hr,h⟩:=aP h
 obtain ⟨pG,eI,h⟩:=aP h
 refine ae hE 1 [(5,oT (aH cI 0 mB)),(6,oT (.agg (lg pG)))] [] (kp [2]) (kq [16]) 160 (pc o1 (pc o1 (pc (jN _ _ _ hr) (pc (iU _ _ _ _ eI) (pc o1 pn))))) ?_
 obtain rfl:=cT h
 exact cZ hE 0 Tryz.f85 [] (kp [2]) (kq [16]) 160 pn [16] (pc o1 pn)
noncomputable abbrev Wq:=b8 Tryz.f40
theorem DD (N x r) (h:rJ N x=some r):Sd 40 [(.agg (ak x))] [] 0 (.agg (ak r)) []:=by
 unfold rJ at h
 refine g8 (fu:=Tryz.f40) (c:=Wq 1) (nt:=12) (fun hm=>rfl) ?_
 intro E hE
 refine ae hE 1 [] [] (kp [1,2]) (kq [0,16]) 32 pn ?_
 obtain ⟨eE,hr,h⟩:=aP h
 refine ae hE 1 [(1,oT (.agg (ak eE)))] [] (kp [2,3]) (kq [16,64]) 96 (pc o1 (pc (gA _ _ _ hr) (pc o1 pn))) ?_
 obtain ⟨UA,eI,h⟩:=aP h
 refine ae hE 1 [(2,oT (.agg (lg UA)))] [] (kp [2]) (kq [16]) 208 (pc o1 (pc (Ih _ _ _ eI) (pc o1 (pc o1 pn)))) ?_
 obtain rfl:=cT h
 exact cZ hE 0 Tryz.f40 [] (kp [2]) (kq [16]) 208 pn [16] (pc o1 pn)
noncomputable abbrev Wr:=b8 Tryz.f96
theorem lU (N a b r) (h:md N a b=some r):Sd 96 [(.agg (lg a)),(.agg (lg b))] [] 0 (.agg (lg r)) []:=by
 unfold md at h
 refine g8 (fu:=Tryz.f96) (c:=Wr 1) (nt:=18) (fun hm=>rfl) ?_
 intro E hE
 refine ae hE 1 [] [] (kp [2,3,4]) (kq [0,16,32]) 48 pn ?_
 obtain ⟨mB,hr,h⟩:=aP h
 obtain ⟨nI,eI,h⟩:=aP h
 obtain ⟨qV,kc,h⟩:=aP h
 obtain ⟨pG,nw,h⟩:=aP h
 refine ae hE 1 [(7,oT (aH cI 0 mB)),(10,oT (aH cI 0 nI)),(11,oT (aH cI 0 qV)),(12,oT (.agg (lg pG)))] [] (kp [4]) (kq [32]) 272 (pc o1 (pc o1 (pc o1 (pc (jN _ _ _ hr) (pc o1 (pc (jN _ _ _ eI) (pc (sV _ _ _ _ kc) (pc (iU _ _ _ _ nw) (pc o1 pn))))))))) ?_
 obtain rfl:=cT h
 exact cZ hE 0 Tryz.f96 [] (kp [4]) [(16,.ah 32)] 272 pn [16] (pc o1 pn)
noncomputable abbrev Mh:=b8 Tryz.f118
def DE (N:Nat) (a:List Int) (b:List Int) (K:(List Int)→Int→Int→Option ((List Int))):Prop:=∀ (out:List Int) (carry:Int) (i:Int) (r:(List Int)),K out carry i=some r→∀ E,bh E 0→aE Tryz.prog E 118 43 (aW E [] (aH cI 0 r)) [.code (Mh 244),.inLoop (Mh 244),.inBlock 0,.code (Mh 31)] ⟨[(0,(aH cI 0 a)),(1,(aH cI 0 b)),(5,(.os 0 0 out.length)),(6,(aI carry)),(7,(aI i))],[(0,aO 1 cI 0 out)],1⟩
theorem Cq (N a b fuel):DE N a b (jL N a b fuel):=by
 induction fuel with
 | zero=>intro _ _ _ r h;rw [jL.eq_1] at h;cases h
 | succ fuel ih =>
  intro out carry i r h E hE
  rw [jL.eq_2] at h
  refine ae hE 2 [] [] (kp [0,1,5,6,7,22]) (kq [0]) 225 (pc (fun hg:(!(decide (i < ((a.length:Nat):Int))))=true=>(pc hg pn)) (pc (fun hg:(!(decide (i < ((a.length:Nat):Int))))=true=>(pc hg (pc hg pn))) (pc (fun hq:(!(decide (i < ((a.length:Nat):Int))))=true=>(pc hq pn)) (pc (fun hg:(!(cond (decide (i < ((a.length:Nat):Int))) true (decide (i < ((b.length:Nat):Int)))))=true=>(pc hg pn)) (pc (fun hq:(!(cond (decide (i < ((a.length:Nat):Int))) true (decide (i < ((b.length:Nat):Int)))))=true=>(pc hq pn)) pn))))) ?_
  refine dr 0 22 h (fun ee h=>?_) (fun ee h=>?_)
  ·obtain ⟨cG,hr,h⟩:=aP h
   obtain ⟨lP,eI,h⟩:=aP h
   refine ae hE 4 [(2,oT (aI cG)),(5,oT (aI lP))] [] (kp [0,1,5,7,8]) (kq [0]) 385 (pc (pM _ _ _ _ hr) (pc (pM _ _ _ _ eI) pn)) ?_
   obtain ⟨c,h⟩:=ab h
   refine ae hE 1 [] [] (kp [0,1] ++ [(5,.kD ((out ++ ([((ag ((ag (cG+lP))+carry)).tmod 65536)]:List Int)).length))] ++ kp [7,8]) [(449,.arr 449 ((out ++ ([((ag ((ag (cG+lP))+carry)).tmod 65536)]:List Int)).length) (fun zi=>cI ((out ++ ([((ag ((ag (cG+lP))+carry)).tmod 65536)]:List Int)).getD zi 0)))] 481 (pc (show (65536:Int)≠0 by decide) (pc (Eq.refl out.length) (pc c (pc (z1 1) (pc (show ∀ zi,zi < 1→AV.iy ((fun zi=>([[(aI ((ag ((ag (cG+lP))+carry)).tmod 65536))]]:List (List AV)).getD zi []) (bu 0 zi))=true from (qw rfl)) (pc (show (out.length+1)=(out ++ ([((ag ((ag (cG+lP))+carry)).tmod 65536)]:List Int)).length from (ax rfl rfl)) (pc (show out.length+1=(out ++ ([((ag ((ag (cG+lP))+carry)).tmod 65536)]:List Int)).length from (ax rfl rfl)) (pc (show ∀ zi,zi < (out ++ ([((ag ((ag (cG+lP))+carry)).tmod 65536)]:List Int)).length→(fun zi=>cI ((out ++ ([((ag ((ag (cG+lP))+carry)).tmod 65536)]:List Int)).getD zi 0)) zi=((fun zm=>if zm < out.length then (fun zi=>cI (out.getD zi 0)) zm else (fun zi=>([[(aI ((ag ((ag (cG+lP))+carry)).tmod 65536))]]:List (List AV)).getD zi []) (zm - out.length))) zi from (bL cI 0 out ([((ag ((ag (cG+lP))+carry)).tmod 65536)]:List Int) rfl (fun _ _=>rfl) (fun zq g9=>b9 cI 0 ([((ag ((ag (cG+lP))+carry)).tmod 65536)]:List Int) zq g9))) pn)))))))) ?_
   refine ae hE 0 [] [] (kp [0,1,5,6,7]) (kq [449]) 529 (pc (show (65536:Int)≠0 by decide) pn) ?_
   refine ae hE 1 [] [] (kp [0,1,5,6,7]) (kq [449]) 577 pn ?_
   exact cP hE 1 [] (kp [0,1,5,6,7]) [(0,.ah 449)] 1 pn (ih _ _ _ _ h E hE)
  ·obtain ⟨bU,kc,h⟩:=aP h
   refine ae hE 2 [(1,⟨[],true,(aH cI 0 bU),[],0,true,none⟩)] [] (kp [4]) [] 273 (pc (mf _ _ _ kc) (pc (z1 out.length) pn)) ?_
   obtain rfl:=cT h
   exact cZ hE 0 Tryz.f118 [] (kp [4]) [] 273 pn [] pn
theorem Gs (N a b r) (h:vL N a b=some r):Sd 118 [(aH cI 0 a),(aH cI 0 b)] [] 0 (aH cI 0 r) []:=by
 unfold vL at h
 refine g8 (fu:=Tryz.f118) (c:=Mh 1) (nt:=43) (fun hm=>rfl) ?_
 intro E hE
 refine ae hE 1 [] [] (kp [0,1]) [] 16 pn ?_
 refine ae hE 1 [] [] (kp [0,1,5]) [] 32 pn ?_
 refine ae hE 1 [] [] (kp [0,1,5,6]) [] 48 pn ?_
 refine ae hE 2 [] [] (kp [0,1,5,6,7]) [] 64 pn ?_
 exact cP hE 2 [] (kp [0,1] ++ [(5,.oK 0)] ++ kp [6,7]) [(0,.nil 1 (fun zi=>cI (([]:List Int).getD zi 0)))] 1 pn (Cq N _ _ N _ _ _ _ h E hE)
end Go.Den
