/- Each function of the program does what its Lean function computes (part 2). No conditions. -/
import Derived.Test.YtlgddcmiekcdiaaGreatTopMooringCertificateSa
import Derived.Test.YtlgddcmiekcdiaaGreatProg
set_option linter.unusedVariables false
set_option maxRecDepth 100000
namespace Go.Den
open Go.Ab Go.Proofs Go.Ab.aG
noncomputable abbrev Ts:=cl Tryz.f76
def sY (N:Nat) (s:List aa) (K:Int→Option (Int)):Prop:=∀ (x:Int) (r:Int),K x=some r→∀ E,bk E 0→aG Tryz.prog E 76 19 (bc E [] (aI r)) [.code (Ts 52),.inLoop (Ts 52),.inBlock 0,.code (Ts 7)] ⟨[(0,(aH aj aa.d s)),(1,(.fn (.func 77) [] [])),(7,(aI ((s.length:Nat):Int))),(8,(aI x))],[],0⟩
theorem r7 (N s fuel):sY N s (cx N s fuel):=by
 induction fuel with
 | zero=>intro _ r h;rw [cx.eq_1] at h;cases h
 | succ fuel ih =>
  intro x r h E hE
  rw [cx.eq_2] at h
  refine ag hE 1 [] [] (kp [0,1,7,8,9]) [] 16 pn ?_
  refine du 1 9 h (fun ee h=>?_) (fun ee h=>?_)
  ·refine ag hE 4 [] [] (kp [0,1,5,7,8]) [] 48 pn ?_
   obtain ⟨c,h⟩:=af h
   obtain ⟨F5,hr,h⟩:=aQ h
   refine ag hE 1 [(5,oT (aB F5))] [] (kp [0,1,5,7,8,16]) [] 144 (pc c (pc (v7 _ _ _ hr) pn)) ?_
   refine du 0 16 h (fun jx h=>?_) (fun jx h=>?_)
   ·refine ag hE 1 [] [] (kp [4]) [] 176 pn ?_
    obtain rfl:=cX h
    exact db hE 0 Tryz.f76 [] (kp [4]) [] 176 pn [] pn
   ·refine ag hE 2 [] [] (kp [0,1,7,8]) [] 176 pn ?_
    exact cP hE 1 [] (kp [0,1,7,8]) [] 0 pn (ih _ _ h E hE)
  ·refine ag hE 2 [] [] (kp [4]) [] 32 pn ?_
   obtain rfl:=cX h
   exact db hE 0 Tryz.f76 [] (kp [4]) [] 48 pn [] pn
theorem um (N s r) (h:jZ N s=some r):Sd 76 [(aH aj aa.d s),(.fn (.func 77) [] [])] [] 0 (aI r) []:=by
 unfold jZ at h
 refine im (fu:=Tryz.f76) (c:=Ts 1) (nt:=19) (fun hm=>rfl) ?_
 intro E hE
 refine ag hE 1 [] [] (kp [0,1]) [] 16 pn ?_
 refine ag hE 2 [] [] (kp [0,1,7,8]) [] 64 pn ?_
 exact cP hE 2 [] (kp [0,1,7,8]) [] 0 pn (r7 N _ N _ _ h E hE)
noncomputable abbrev aaz:=cl Tryz.f78
theorem tQ (N i j C0 r) (h:jC N i j C0=some r):Sd 78 [(.os 0 0 C0.length),(aI i),(aI j)] [(0,aO 1 cI 0 C0)] 1 (.os 0 0 r.2.length) [(0,aO 1 cI 0 r.2)]:=by
 unfold jC at h
 refine im (fu:=Tryz.f78) (c:=aaz 1) (nt:=33) (fun hm=>absurd hm (by decide)) ?_
 intro E hE
 refine ag hE 1 [] [] (kp [0,1,2]) (kq [0]) 17 pn ?_
 obtain ⟨c,h⟩:=af h
 refine ag hE 1 [(5,oF (.mH))] [] (kp [0,1,2]) (kq [0]) 113 (pc c pn) ?_
 refine ag hE 2 [] [] (kp [0,1,2,16]) (kq [0]) 161 pn ?_
 refine du 0 16 h (fun ee h=>?_) (fun ee h=>?_)
 ·refine ag hE 1 [] [] (kp [6]) (kq [0]) 193 pn ?_
  obtain rfl:=cX h
  exact db hE 0 Tryz.f78 [] (kp [6]) (kq [0]) 193 pn [] pn
 ·refine ag hE 2 [] [] (kp [0,1,2,7]) (kq [0]) 209 pn ?_
  obtain ⟨c2,h⟩:=af h
  obtain ⟨c3,h⟩:=af h
  obtain ⟨c4,h⟩:=af h
  obtain ⟨c5,h⟩:=af h
  obtain ⟨c6,h⟩:=af h
  obtain ⟨c7,h⟩:=af h
  refine ag hE 1 [(6,oF (.mH))] [] (kp [0,7]) [(0,.arr 0 ((k8 C0 ((i).toNat) ((j).toNat)).length) (fun zi=>cI ((k8 C0 ((i).toNat) ((j).toNat)).getD zi 0)))] 337 (pc c2 (pc c3 (pc c4 (pc c5 (pc (show 0 < C0.length∧((i).toNat - 0)+(C0.length - (j).toNat)≤C0.length by have h1:=c6;have h2:=c7;omega) (pc (show (j).toNat+(C0.length - (j).toNat)≤C0.length by have h1:=c6;omega) (pc (show ∀ zi,zi < C0.length→AV.fJ (cI (C0.getD zi 0))=true from (fun _ _=>rfl)) (pc (show C0.length=(k8 C0 ((i).toNat) ((j).toNat)).length from (EW c6)) (pc (show ∀ zi,zi < (k8 C0 ((i).toNat) ((j).toNat)).length→(fun zi=>cI ((k8 C0 ((i).toNat) ((j).toNat)).getD zi 0)) zi=((fun zm=>if zm < ((i).toNat - 0) then cI (C0.getD zm 0) else if zm < ((i).toNat - 0)+(C0.length - (j).toNat) then cI (C0.getD (bC (j).toNat (zm - ((i).toNat - 0))) 0) else cI (C0.getD zm 0))) zi from (fun zq eY=>Nz cI 0 C0 ((i).toNat) ((j).toNat) c6 zq eY)) pn))))))))) ?_
  obtain ⟨c8,h⟩:=af h
  obtain ⟨c9,h⟩:=af h
  refine ag hE 1 [(4,oF (.mH)),(5,oF (.mH))] [] [(0,.jq (((k8 C0 ((i).toNat) ((j).toNat)).take (((i).toNat - 0)+(C0.length - (j).toNat))).length))] [(0,.arr 0 (((k8 C0 ((i).toNat) ((j).toNat)).take (((i).toNat - 0)+(C0.length - (j).toNat))).length) (fun zi=>cI (((k8 C0 ((i).toNat) ((j).toNat)).take (((i).toNat - 0)+(C0.length - (j).toNat))).getD zi 0)))] 433 (pc c8 (pc (show 0≤(((((i).toNat - 0)+(C0.length - (j).toNat)):Nat):Int) from (Int.natCast_nonneg _)) (pc (show 0≤((C0.length:Nat):Int) from (Int.natCast_nonneg _)) (pc c9 (pc (show (((i).toNat - 0)+(C0.length - (j).toNat))=((k8 C0 ((i).toNat) ((j).toNat)).take (((i).toNat - 0)+(C0.length - (j).toNat))).length from (Jk c9)) (pc (show (((i).toNat - 0)+(C0.length - (j).toNat))=((k8 C0 ((i).toNat) ((j).toNat)).take (((i).toNat - 0)+(C0.length - (j).toNat))).length from (Jk c9)) (pc (show ∀ zi,zi < ((k8 C0 ((i).toNat) ((j).toNat)).take (((i).toNat - 0)+(C0.length - (j).toNat))).length→(fun zi=>cI (((k8 C0 ((i).toNat) ((j).toNat)).take (((i).toNat - 0)+(C0.length - (j).toNat))).getD zi 0)) zi=(fun zi=>cI ((k8 C0 ((i).toNat) ((j).toNat)).getD zi 0)) zi from (fun zq eY=>QL cI 0 (k8 C0 ((i).toNat) ((j).toNat)) (((i).toNat - 0)+(C0.length - (j).toNat)) zq eY)) pn))))))) ?_
  refine ag hE 1 [] [] (kp [6]) (kq [0]) 465 pn ?_
  obtain rfl:=cX h
  exact db hE 0 Tryz.f78 [] (kp [6]) (kq [0]) 465 pn [] pn
noncomputable abbrev aaA:=cl Tryz.f79
theorem xi (N i j C0 r) (h:lR N i j C0=some r):Sd 79 [(.os 0 0 C0.length),(aI i),(aI j)] [(0,aO 4 aj aa.d C0)] 1 (.os 0 0 r.2.length) [(0,aO 4 aj aa.d r.2)]:=by
 unfold lR at h
 refine im (fu:=Tryz.f79) (c:=aaA 1) (nt:=33) (fun hm=>absurd hm (by decide)) ?_
 intro E hE
 refine ag hE 1 [] [] (kp [0,1,2]) (kq [0]) 17 pn ?_
 obtain ⟨c,h⟩:=af h
 refine ag hE 1 [(5,oF (.mH))] [] (kp [0,1,2]) (kq [0]) 113 (pc c pn) ?_
 refine ag hE 2 [] [] (kp [0,1,2,16]) (kq [0]) 161 pn ?_
 refine du 0 16 h (fun ee h=>?_) (fun ee h=>?_)
 ·refine ag hE 1 [] [] (kp [6]) (kq [0]) 193 pn ?_
  obtain rfl:=cX h
  exact db hE 0 Tryz.f79 [] (kp [6]) (kq [0]) 193 pn [] pn
 ·refine ag hE 2 [] [] (kp [0,1,2,7]) (kq [0]) 209 pn ?_
  obtain ⟨c2,h⟩:=af h
  obtain ⟨c3,h⟩:=af h
  obtain ⟨c4,h⟩:=af h
  obtain ⟨c5,h⟩:=af h
  obtain ⟨c6,h⟩:=af h
  obtain ⟨c7,h⟩:=af h
  refine ag hE 1 [(6,oF (.mH))] [] (kp [0,7]) [(0,.arr 0 ((k8 C0 ((i).toNat) ((j).toNat)).length) (fun zi=>aj ((k8 C0 ((i).toNat) ((j).toNat)).getD zi aa.d)))] 337 (pc c2 (pc c3 (pc c4 (pc c5 (pc (show 0 < C0.length∧((i).toNat - 0)+(C0.length - (j).toNat)≤C0.length by have h1:=c6;have h2:=c7;omega) (pc (show (j).toNat+(C0.length - (j).toNat)≤C0.length by have h1:=c6;omega) (pc (show ∀ zi,zi < C0.length→AV.fJ (aj (C0.getD zi aa.d))=true from (fun _ _=>rfl)) (pc (show C0.length=(k8 C0 ((i).toNat) ((j).toNat)).length from (EW c6)) (pc (show ∀ zi,zi < (k8 C0 ((i).toNat) ((j).toNat)).length→(fun zi=>aj ((k8 C0 ((i).toNat) ((j).toNat)).getD zi aa.d)) zi=((fun zm=>if zm < ((i).toNat - 0) then aj (C0.getD zm aa.d) else if zm < ((i).toNat - 0)+(C0.length - (j).toNat) then aj (C0.getD (bC (j).toNat (zm - ((i).toNat - 0))) aa.d) else aj (C0.getD zm aa.d))) zi from (fun zq eY=>Nz aj aa.d C0 ((i).toNat) ((j).toNat) c6 zq eY)) pn))))))))) ?_
  obtain ⟨c8,h⟩:=af h
  obtain ⟨c9,h⟩:=af h
  refine ag hE 1 [(4,oF (.mH)),(5,oF (.mH))] [] [(0,.jq (((k8 C0 ((i).toNat) ((j).toNat)).take (((i).toNat - 0)+(C0.length - (j).toNat))).length))] [(0,.arr 0 (((k8 C0 ((i).toNat) ((j).toNat)).take (((i).toNat - 0)+(C0.length - (j).toNat))).length) (fun zi=>aj (((k8 C0 ((i).toNat) ((j).toNat)).take (((i).toNat - 0)+(C0.length - (j).toNat))).getD zi aa.d)))] 433 (pc c8 (pc (show 0≤(((((i).toNat - 0)+(C0.length - (j).toNat)):Nat):Int) from (Int.natCast_nonneg _)) (pc (show 0≤((C0.length:Nat):Int) from (Int.natCast_nonneg _)) (pc c9 (pc (show (((i).toNat - 0)+(C0.length - (j).toNat))=((k8 C0 ((i).toNat) ((j).toNat)).take (((i).toNat - 0)+(C0.length - (j).toNat))).length from (Jk c9)) (pc (show (((i).toNat - 0)+(C0.length - (j).toNat))=((k8 C0 ((i).toNat) ((j).toNat)).take (((i).toNat - 0)+(C0.length - (j).toNat))).length from (Jk c9)) (pc (show ∀ zi,zi < ((k8 C0 ((i).toNat) ((j).toNat)).take (((i).toNat - 0)+(C0.length - (j).toNat))).length→(fun zi=>aj (((k8 C0 ((i).toNat) ((j).toNat)).take (((i).toNat - 0)+(C0.length - (j).toNat))).getD zi aa.d)) zi=(fun zi=>aj ((k8 C0 ((i).toNat) ((j).toNat)).getD zi aa.d)) zi from (fun zq eY=>QL aj aa.d (k8 C0 ((i).toNat) ((j).toNat)) (((i).toNat - 0)+(C0.length - (j).toNat)) zq eY)) pn))))))) ?_
  refine ag hE 1 [] [] (kp [6]) (kq [0]) 465 pn ?_
  obtain rfl:=cX h
  exact db hE 0 Tryz.f79 [] (kp [6]) (kq [0]) 465 pn [] pn
noncomputable abbrev xX:=cl Tryz.f34
def pO (N:Nat) (C0:Int) (bE:Int) (cr:Bool) (dn:List Int) (dw:Bool) (dx:List Int) (dk:Int) (C1:List Int) (C2:List Int) (C3:List (List aa)) (C4:List aa) (C5:List aa) (K:Int→Int→Option (Bool×l7×(List Int)×(List Int)×(List (List aa))×(List aa))):Prop:=∀ (low:Int) (x:Int) (r:Bool×l7×(List Int)×(List Int)×(List (List aa))×(List aa)),K low x=some r→∀ E,bk E 6→aG Tryz.prog E 34 177 (bc E [(0,vN 12 [(aI r.2.1.xQ),(aI r.2.1.xR),(.os 1 0 r.2.2.1.length),(.os 2 0 r.2.2.2.1.length),(.os 3 0 r.2.2.2.2.1.length),(.os 4 0 r.2.2.2.2.2.length),(.os 6 0 r.2.1.fa.length),(aB r.2.1.ak.fN.fG),(eU r.2.1.ak.fN.fL),(aB r.2.1.ak.fD.fG),(eU r.2.1.ak.fD.fL),(aI r.2.1.cy)]),(1,aO 1 cI 0 r.2.2.1),(2,aO 1 cI 0 r.2.2.2.1),(3,aM 4 aj aa.d r.2.2.2.2.1),(4,aO 4 aj aa.d r.2.2.2.2.2),(6,aO 4 aj aa.d r.2.1.fa)] (aB r.1)) [.code (xX 116),.inLoop (xX 116),.inBlock 0,.code (xX 15)] ⟨[(0,(.op 0 0 0)),(3,(aI low)),(15,(aI ((C4.length:Nat):Int))),(16,(aI x))],[(0,vN 12 [(aI C0),(aI bE),(.os 1 0 C1.length),(.os 2 0 C2.length),(.os 3 0 C3.length),(.os 4 0 C4.length),(.os 6 0 C5.length),(aB cr),(eU dn),(aB dw),(eU dx),(aI dk)]),(1,aO 1 cI 0 C1),(2,aO 1 cI 0 C2),(3,aM 4 aj aa.d C3),(4,aO 4 aj aa.d C4),(6,aO 4 aj aa.d C5)],7⟩
def v8 (N:Nat) (C0:Int) (bE:Int) (cr:Bool) (dn:List Int) (dw:Bool) (dx:List Int) (dk:Int) (C1:List Int) (C2:List Int) (C3:List (List aa)) (C4:List aa) (C5:List aa) (x:Int) (K:Int→Option (Bool×l7×(List Int)×(List Int)×(List (List aa))×(List aa))):Prop:=∀ (QR:Int) (r:Bool×l7×(List Int)×(List Int)×(List (List aa))×(List aa)),K QR=some r→∀ E,bk E 6→aG Tryz.prog E 34 177 (bc E [(0,vN 12 [(aI r.2.1.xQ),(aI r.2.1.xR),(.os 1 0 r.2.2.1.length),(.os 2 0 r.2.2.2.1.length),(.os 3 0 r.2.2.2.2.1.length),(.os 4 0 r.2.2.2.2.2.length),(.os 6 0 r.2.1.fa.length),(aB r.2.1.ak.fN.fG),(eU r.2.1.ak.fN.fL),(aB r.2.1.ak.fD.fG),(eU r.2.1.ak.fD.fL),(aI r.2.1.cy)]),(1,aO 1 cI 0 r.2.2.1),(2,aO 1 cI 0 r.2.2.2.1),(3,aM 4 aj aa.d r.2.2.2.2.1),(4,aO 4 aj aa.d r.2.2.2.2.2),(6,aO 4 aj aa.d r.2.1.fa)] (aB r.1)) [.code (xX 935),.inLoop (xX 116),.inBlock 0,.code (xX 15)] ⟨[(0,(.op 0 0 0)),(3,(aI QR)),(15,(aI ((C4.length:Nat):Int))),(16,(aI x))],[(0,vN 12 [(aI C0),(aI bE),(.os 1 0 C1.length),(.os 2 0 C2.length),(.os 3 0 C3.length),(.os 4 0 C4.length),(.os 6 0 C5.length),(aB cr),(eU dn),(aB dw),(eU dx),(aI dk)]),(1,aO 1 cI 0 C1),(2,aO 1 cI 0 C2),(3,aM 4 aj aa.d C3),(4,aO 4 aj aa.d C4),(6,aO 4 aj aa.d C5)],7⟩
theorem oJ (N:Nat) (C0:Int) (bE:Int) (cr:Bool) (dn:List Int) (dw:Bool) (dx:List Int) (dk:Int) (C1:List Int) (C2:List Int) (C3:List (List aa)) (C4:List aa) (C5:List aa) (x:Int) (jD:Int→Int→Option (Bool×l7×(List Int)×(List Int)×(List (List aa))×(List aa))) (vd:pO N C0 bE cr dn dw dx dk C1 C2 C3 C4 C5 jD):v8 N C0 bE cr dn dw dx dk C1 C2 C3 C4 C5 x (iR N C0 bE cr dn dw dx dk C1 C2 C3 C4 C5 x jD):=by
 intro QR r h E hE
 unfold iR at h
 refine ag hE 0 [] [] (kp [0,3,15,16]) (kq [0,1,2,3,4,6]) 39 pn ?_
 exact cP hE 1 [] (kp [0,3,15,16]) (kq [0,1,2,3,4,6]) 7 pn (vd _ _ _ h E hE)
def v9 (N:Nat) (K:Int→Int→(List Int)→(List Int)→(List (List aa))→(List aa)→(List aa)→Bool→(List Int)→Bool→(List Int)→Int→Option (Bool×l7×(List Int)×(List Int)×(List (List aa))×(List aa))):Prop:=∀ (cm:Int) (oD:Int) (lP:List Int) (qd:List Int) (gG:List (List aa)) (qw:List aa) (qx:List aa) (uf:Bool) (ug:List Int) (z5:Bool) (z6:List Int) (yF:Int) (r:Bool×l7×(List Int)×(List Int)×(List (List aa))×(List aa)),K cm oD lP qd gG qw qx uf ug z5 z6 yF=some r→∀ E,bk E 6→aG Tryz.prog E 34 177 (bc E [(0,vN 12 [(aI r.2.1.xQ),(aI r.2.1.xR),(.os 1 0 r.2.2.1.length),(.os 2 0 r.2.2.2.1.length),(.os 3 0 r.2.2.2.2.1.length),(.os 4 0 r.2.2.2.2.2.length),(.os 6 0 r.2.1.fa.length),(aB r.2.1.ak.fN.fG),(eU r.2.1.ak.fN.fL),(aB r.2.1.ak.fD.fG),(eU r.2.1.ak.fD.fL),(aI r.2.1.cy)]),(1,aO 1 cI 0 r.2.2.1),(2,aO 1 cI 0 r.2.2.2.1),(3,aM 4 aj aa.d r.2.2.2.2.1),(4,aO 4 aj aa.d r.2.2.2.2.2),(6,aO 4 aj aa.d r.2.1.fa)] (aB r.1)) [.code (xX 252),.code (xX 253),.code (xX 127)] ⟨[(0,(.op 0 0 0))],[(0,vN 12 [(aI cm),(aI oD),(.os 1 0 lP.length),(.os 2 0 qd.length),(.os 3 0 gG.length),(.os 4 0 qw.length),(.os 6 0 qx.length),(aB uf),(eU ug),(aB z5),(eU z6),(aI yF)]),(1,aO 1 cI 0 lP),(2,aO 1 cI 0 qd),(3,aM 4 aj aa.d gG),(4,aO 4 aj aa.d qw),(6,aO 4 aj aa.d qx)],7⟩
def wa (N:Nat) (K:Int→Int→(List Int)→(List Int)→(List (List aa))→(List aa)→(List aa)→Bool→(List Int)→Bool→(List Int)→Int→Option (Bool×l7×(List Int)×(List Int)×(List (List aa))×(List aa))):Prop:=∀ (uU:Int) (uV:Int) (rR:List Int) (KN:List Int) (AK:List (List aa)) (rS:List aa) (BL:List aa) (vP:Bool) (vQ:List Int) (vR:Bool) (vS:List Int) (uh:Int) (r:Bool×l7×(List Int)×(List Int)×(List (List aa))×(List aa)),K uU uV rR KN AK rS BL vP vQ vR vS uh=some r→∀ E,bk E 6→aG Tryz.prog E 34 177 (bc E [(0,vN 12 [(aI r.2.1.xQ),(aI r.2.1.xR),(.os 1 0 r.2.2.1.length),(.os 2 0 r.2.2.2.1.length),(.os 3 0 r.2.2.2.2.1.length),(.os 4 0 r.2.2.2.2.2.length),(.os 6 0 r.2.1.fa.length),(aB r.2.1.ak.fN.fG),(eU r.2.1.ak.fN.fL),(aB r.2.1.ak.fD.fG),(eU r.2.1.ak.fD.fL),(aI r.2.1.cy)]),(1,aO 1 cI 0 r.2.2.1),(2,aO 1 cI 0 r.2.2.2.1),(3,aM 4 aj aa.d r.2.2.2.2.1),(4,aO 4 aj aa.d r.2.2.2.2.2),(6,aO 4 aj aa.d r.2.1.fa)] (aB r.1)) [.code (xX 254),.code (xX 255)] ⟨[(0,(.op 0 0 0))],[(0,vN 12 [(aI uU),(aI uV),(.os 1 0 rR.length),(.os 2 0 KN.length),(.os 3 0 AK.length),(.os 4 0 rS.length),(.os 6 0 BL.length),(aB vP),(eU vQ),(aB vR),(eU vS),(aI uh)]),(1,aO 1 cI 0 rR),(2,aO 1 cI 0 KN),(3,aM 4 aj aa.d AK),(4,aO 4 aj aa.d rS),(6,aO 4 aj aa.d BL)],7⟩
def wb (N:Nat) (uU:Int) (uV:Int) (rR:List Int) (AK:List (List aa)) (rS:List aa) (BL:List aa) (vP:Bool) (vQ:List Int) (vR:Bool) (vS:List Int) (uh:Int) (nj:Int) (cz:(List Int)×(List Int)) (K:(List (List aa))→Int→Option (Bool×l7×(List Int)×(List Int)×(List (List aa))×(List aa))):Prop:=∀ (lr:List (List aa)) (x2:Int) (r:Bool×l7×(List Int)×(List Int)×(List (List aa))×(List aa)),K lr x2=some r→∀ E,bk E 6→aG Tryz.prog E 34 177 (bc E [(0,vN 12 [(aI r.2.1.xQ),(aI r.2.1.xR),(.os 1 0 r.2.2.1.length),(.os 2 0 r.2.2.2.1.length),(.os 3 0 r.2.2.2.2.1.length),(.os 4 0 r.2.2.2.2.2.length),(.os 6 0 r.2.1.fa.length),(aB r.2.1.ak.fN.fG),(eU r.2.1.ak.fN.fL),(aB r.2.1.ak.fD.fG),(eU r.2.1.ak.fD.fL),(aI r.2.1.cy)]),(1,aO 1 cI 0 r.2.2.1),(2,aO 1 cI 0 r.2.2.2.1),(3,aM 4 aj aa.d r.2.2.2.2.1),(4,aO 4 aj aa.d r.2.2.2.2.2),(6,aO 4 aj aa.d r.2.1.fa)] (aB r.1)) [.code (xX 8180),.inLoop (xX 8180),.inBlock 2,.code (xX 1023)] ⟨[(0,(.op 0 0 0)),(8,(aI nj)),(126,(aI ((AK.length:Nat):Int))),(127,(aI x2))],[(0,vN 12 [(aI uU),(aI uV),(.os 1 0 rR.length),(.os 2 0 cz.2.length),(.os 3 0 lr.length),(.os 4 0 rS.length),(.os 6 0 BL.length),(aB vP),(eU vQ),(aB vR),(eU vS),(aI uh)]),(1,aO 1 cI 0 rR),(2,aO 1 cI 0 cz.2),(3,aM 4 aj aa.d lr),(4,aO 4 aj aa.d rS),(6,aO 4 aj aa.d BL)],7⟩
def wc (N:Nat) (uU:Int) (uV:Int) (rR:List Int) (rS:List aa) (vP:Bool) (vQ:List Int) (vR:Bool) (vS:List Int) (uh:Int) (cz:(List Int)×(List Int)) (lr:List (List aa)) (K:(List aa)→Int→Option (Bool×l7×(List Int)×(List Int)×(List (List aa))×(List aa))):Prop:=∀ (BK:List aa) (x3:Int) (r:Bool×l7×(List Int)×(List Int)×(List (List aa))×(List aa)),K BK x3=some r→∀ E,bk E 6→aG Tryz.prog E 34 177 (bc E [(0,vN 12 [(aI r.2.1.xQ),(aI r.2.1.xR),(.os 1 0 r.2.2.1.length),(.os 2 0 r.2.2.2.1.length),(.os 3 0 r.2.2.2.2.1.length),(.os 4 0 r.2.2.2.2.2.length),(.os 6 0 r.2.1.fa.length),(aB r.2.1.ak.fN.fG),(eU r.2.1.ak.fN.fL),(aB r.2.1.ak.fD.fG),(eU r.2.1.ak.fD.fL),(aI r.2.1.cy)]),(1,aO 1 cI 0 r.2.2.1),(2,aO 1 cI 0 r.2.2.2.1),(3,aM 4 aj aa.d r.2.2.2.2.1),(4,aO 4 aj aa.d r.2.2.2.2.2),(6,aO 4 aj aa.d r.2.1.fa)] (aB r.1)) [.code (xX 32756),.inLoop (xX 32756),.inBlock 4,.code (xX 4095)] ⟨[(0,(.op 0 0 0)),(161,(aI (((List.replicate cz.2.length aa.d:List aa).length:Nat):Int))),(162,(aI x3))],[(0,vN 12 [(aI uU),(aI uV),(.os 1 0 rR.length),(.os 2 0 cz.2.length),(.os 3 0 lr.length),(.os 4 0 rS.length),(.os 6 0 BK.length),(aB vP),(eU vQ),(aB vR),(eU vS),(aI uh)]),(1,aO 1 cI 0 rR),(2,aO 1 cI 0 cz.2),(3,aM 4 aj aa.d lr),(4,aO 4 aj aa.d rS),(6,aO 4 aj aa.d BK)],7⟩
theorem ve (N uU uV rR rS vP vQ vR vS uh cz lr fuel):wc N uU uV rR rS vP vQ vR vS uh cz lr (dV N uU uV rR rS vP vQ vR vS uh cz lr fuel):=by
 induction fuel with
 | zero=>intro _ _ r h;rw [dV.eq_1] at h;cases h
 | succ fuel ih =>
  intro BK x3 r h E hE
  rw [dV.eq_2] at h
  refine ag hE 1 [] [] (kp [0,161,162,163]) (kq [0,1,2,3,4,6]) 23 pn ?_
  refine du 1 163 h (fun hq8 h=>?_) (fun hq8 h=>?_)
  ·refine ag hE 4 [] [] (kp [0,10,161,162]) (kq [0,1,2,3,4,6]) 55 pn ?_
   obtain ⟨lX,Dc,h⟩:=aQ h
   obtain ⟨VT,h⟩:=af h
   refine ag hE 0 [(5,oT (.agg (aj lX)))] [] (kp [0,161,162]) ([(0,.var 0 [.ah,.ah,.ah,.ah,.ah,.ah,.jq ((BK.set ((x3).toNat) lX).length),.ah,.ah,.ah,.ah,.ah])] ++ kq [1,2,3,4] ++ [(6,.arr 6 ((BK.set ((x3).toNat) lX).length) (fun zi=>aj ((BK.set ((x3).toNat) lX).getD zi aa.d)))]) 183 (pc o1 (pc (g8 _ _ _ Dc) (pc VT (pc (dP VT) (pc (ay BK ((x3).toNat) lX) (pc (ay BK ((x3).toNat) lX) (pc (cA aj aa.d BK ((x3).toNat) lX) pn))))))) ?_
   refine ag hE 1 [] [] (kp [0,161,162]) (kq [0,1,2,3,4,6]) 215 pn ?_
   exact cP hE 1 [] (kp [0,161,162]) (kq [0,1,2,3,4,6]) 7 pn (ih _ _ _ h E hE)
  ·obtain ⟨bX,Jz,h⟩:=aQ h
   refine ag hE 2 [(1,oT (.agg (aj bX)))] [] [] (kq [0,1,2,3,4,6]) 103 (pc (g8 _ _ _ Jz) (pc o1 pn)) ?_
   refine ag hE 1 [] [] (kp [2]) (kq [0,1,2,3,4,6]) 119 pn ?_
   obtain rfl:=cX h
   exact db hE 0 Tryz.f34 [] (kp [2]) (kq [0,1,2,3,4,6]) 119 pn [] pn
theorem vf (N uU uV rR AK rS BL vP vQ vR vS uh nj cz fuel):wb N uU uV rR AK rS BL vP vQ vR vS uh nj cz (dW N uU uV rR AK rS BL vP vQ vR vS uh nj cz fuel):=by
 induction fuel with
 | zero=>intro _ _ r h;rw [dW.eq_1] at h;cases h
 | succ fuel ih =>
  intro lr x2 r h E hE
  rw [dW.eq_2] at h
  refine ag hE 1 [] [] (kp [0,8,126,127,128]) (kq [0,1,2,3,4,6]) 23 pn ?_
  refine du 1 128 h (fun VX h=>?_) (fun VX h=>?_)
  ·refine ag hE 4 [] [] (kp [0,8,9,126,127]) (kq [0,1,2,3,4,6]) 55 pn ?_
   obtain ⟨WK,h⟩:=af h
   refine Td 3 ((x2).toNat) 4 ((lr.getD ((x2).toNat) []).length) (fun zi=>aj ((lr.getD ((x2).toNat) []).getD zi aa.d)) (pc WK (pc (show ba [] (mG lr) ((x2).toNat)=mR 4 aj aa.d (lr.getD ((x2).toNat) []) from rfl) pn)) ?_
   obtain ⟨WL,h⟩:=af h
   obtain ⟨qf,Db,h⟩:=aQ h
   refine ag hE 0 [(11,oF (.os 55 0 ((lr.getD ((x2).toNat) []).length))),(15,⟨[55],false,(.os 0 0 qf.2.length),[(0,aO 4 aj aa.d qf.2)],0,false,none⟩)] [] (kp [0,8,126,127]) (kq [0,1,2] ++ [(3,.qu 3 (lr.length) [((x2).toNat,55,qf.2.length)] (mG lr))] ++ kq [4,6,55]) 359 (pc o1 (pc o1 (pc WL (pc (dP WL) (pc (show (ba [((x2).toNat,55,(lr.getD ((x2).toNat) []).length)] (mG lr) ((x2).toNat))[0]?=some (.os 55 0 ((lr.getD ((x2).toNat) []).length)) from (gO rfl)) (pc (xi _ _ _ _ _ Db) (pc WL (pc (dP WL) (pc (Eq.refl lr.length) (pc (show ∀ zm,zm < lr.length→ba [((x2).toNat,55,qf.2.length)] (mG lr) zm=if zm=(x2).toNat then [.os 55 0 qf.2.length] else ba [((x2).toNat,55,(lr.getD ((x2).toNat) []).length)] (mG lr) zm from (Tf _ _ _ _ _ rfl)) (pc (iM lr) pn))))))))))) ?_
   refine QJ 3 55 ((x2).toNat) (pc WK (pc (show ba [((x2).toNat,55,qf.2.length)] (mG lr) ((x2).toNat)=[.os 55 0 qf.2.length] from if_pos rfl) (pc (show ∀ zj,zj < qf.2.length→og (aj (qf.2.getD zj aa.d))=true from fun _ _=>rfl) pn))) ?_
   refine QI hE [] (kp [0,8,126,127]) ([(0,.var 0 [.ah,.ah,.ah,.ah,.jq ((lr.set ((x2).toNat) qf.2).length),.ah,.ah,.ah,.ah,.ah,.ah,.ah])] ++ kq [1,2] ++ [(3,.qu 3 ((lr.set ((x2).toNat) qf.2).length) [] (mG (lr.set ((x2).toNat) qf.2)))] ++ kq [4,6]) 359 (pc (ay lr ((x2).toNat) qf.2) (pc (ay lr ((x2).toNat) qf.2) (pc (BF (sz:=4) (c:=aj) (d:=aa.d) lr ((x2).toNat) 55 qf.2.length qf.2 [] WK FV) (pc (iM (lr.set ((x2).toNat) qf.2)) pn)))) ?_
   refine ag hE 1 [] [] (kp [0,8,126,127]) (kq [0,1,2,3,4,6]) 391 pn ?_
   exact cP hE 1 [] (kp [0,8,126,127]) (kq [0,1,2,3,4,6]) 7 pn (ih _ _ _ h E hE)
  ·obtain ⟨WM,h⟩:=af h
   refine ag hE 2 [] [] (kp [0]) ([(0,.var 0 [.ah,.ah,.ah,.ah,.ah,.ah,.jq ((List.replicate cz.2.length aa.d:List aa).length),.ah,.ah,.ah,.ah,.ah])] ++ kq [1,2,3,4] ++ [(119,.OQ 119 ((List.replicate cz.2.length aa.d:List aa).length) (fun zi=>aj ((List.replicate cz.2.length aa.d:List aa).getD zi aa.d)))]) 183 (pc o1 (pc (show 0≤((cz.2.length:Nat):Int) from WM.1) (pc (show ((cz.2.length:Nat):Int)≤((cz.2.length:Nat):Int) from (Int.le_refl _)) (pc (show (64:Int) * ((cz.2.length:Nat):Int)≤281474976710656 from WM.2.1) (pc (show ((cz.2.length:Nat):Int)≤9223372036854775807 from WM.2.2) (pc o1 (pc (show cz.2.length=(List.replicate cz.2.length aa.d:List aa).length from (cN).symm) (pc (show (List.replicate cz.2.length aa.d:List aa).length≤cz.2.length from (Nat.le_of_eq (Eq.symm ((cN).symm)))) (pc (show ∀ zi,zi < (List.replicate cz.2.length aa.d:List aa).length→Ij ((fun _=>[(aB false),.nil,(aB false),.nil]) zi) ((fun zi=>aj ((List.replicate cz.2.length aa.d:List aa).getD zi aa.d)) zi) from (fun zq eY=>mc aj aa.d aa.d cz.2.length zq ⟨.inl rfl,.inr ⟨rfl,_,rfl⟩,.inl rfl,.inr ⟨rfl,_,rfl⟩,trivial⟩ eY)) pn))))))))) ?_
   refine ag hE 2 [] [] (kp [0,161,162]) (kq [0,1,2,3,4,119]) 279 (pc o1 pn) ?_
   exact cP hE 2 [] (kp [0,161,162]) (kq [0,1,2,3,4] ++ [(6,.ah 119)]) 7 pn (ve N _ _ _ _ _ _ _ _ _ _ _ N _ _ _ h E hE)
theorem oK (N):wa N (iS N):=by
 intro uU uV rR KN AK rS BL vP vQ vR vS uh r h E hE
 unfold iS at h
 obtain ⟨nj,xc,h⟩:=aQ h
 refine ag hE 0 [(8,oT (aI nj))] [] (kp [0,8]) (kq [0,1,2,3,4,6]) 167 (pc o1 (pc o1 (pc (iP _ _ _ _ xc) (pc (z1 KN.length) pn)))) ?_
 obtain ⟨cz,yQ,h⟩:=aQ h
 refine ag hE 1 [(8,⟨[2],false,(.os 0 0 cz.2.length),[(0,aO 1 cI 0 cz.2)],0,false,none⟩)] [] (kp [0,8]) (kq [0,1,2,3,4,6]) 359 (pc o1 (pc (tQ _ _ _ _ _ yQ) (pc o1 pn))) ?_
 refine ag hE 2 [] [] (kp [0,8,126,127]) (kq [0,1,2,3,4,6]) 455 (pc o1 pn) ?_
 exact cP hE 2 [] (kp [0,8,126,127]) (kq [0,1,2,3,4,6]) 7 pn (vf N _ _ _ _ _ _ _ _ _ _ _ _ _ N _ _ _ h E hE)
theorem oL (N):v9 N (fW N):=by
 intro cm oD lP qd gG qw qx uf ug z5 z6 yF r h E hE
 unfold fW at h
 obtain ⟨de,yL,h⟩:=aQ h
 refine ag hE 0 [(8,oT (aI de))] [] (kp [0,6]) (kq [0,1,2,3,4,6]) 167 (pc o1 (pc o1 (pc (iP _ _ _ _ yL) (pc (z1 lP.length) pn)))) ?_
 refine ag hE 1 [] [] (kp [0,6,89]) (kq [0,1,2,3,4,6]) 199 pn ?_
 refine du 0 89 h (fun Jv h=>?_) (fun Jv h=>?_)
 ·obtain ⟨Tp,h⟩:=af h
  refine Td 3 ((de).toNat) 4 ((gG.getD ((de).toNat) []).length) (fun zi=>aj ((gG.getD ((de).toNat) []).getD zi aa.d)) (pc Tp (pc (show ba [] (mG gG) ((de).toNat)=mR 4 aj aa.d (gG.getD ((de).toNat) []) from rfl) pn)) ?_
  obtain ⟨OS,h⟩:=af h
  obtain ⟨VL,Eb,h⟩:=aQ h
  refine ag hE 1 [(6,oF (.os 199 0 ((gG.getD ((de).toNat) []).length))),(7,oT (aI VL))] [] (kp [0,6,7]) (kq [0,1,2] ++ [(3,.qu 3 (gG.length) [((de).toNat,199,(gG.getD ((de).toNat) []).length)] (mG gG))] ++ kq [4,6,199]) 359 (pc o1 (pc OS (pc (dP OS) (pc (show (ba [((de).toNat,199,(gG.getD ((de).toNat) []).length)] (mG gG) ((de).toNat))[0]?=some (.os 199 0 ((gG.getD ((de).toNat) []).length)) from (gO rfl)) (pc (um _ _ _ Eb) (pc (z1 ((gG.getD ((de).toNat) []).length)) (pc (Eq.refl gG.length) (pc (mC gG [((de).toNat,199,(gG.getD ((de).toNat) []).length)]) (pc (iM gG) pn))))))))) ?_
  refine QJ 3 199 ((de).toNat) (pc Tp (pc (show ba [((de).toNat,199,(gG.getD ((de).toNat) []).length)] (mG gG) ((de).toNat)=[.os 199 0 (gG.getD ((de).toNat) []).length] from if_pos rfl) (pc (show ∀ zj,zj < (gG.getD ((de).toNat) []).length→og (aj ((gG.getD ((de).toNat) []).getD zj aa.d))=true from fun _ _=>rfl) pn))) ?_
  refine QI hE [] (kp [0,6,7]) (kq [0,1,2] ++ [(3,.qu 3 (gG.length) [] (mG gG))] ++ kq [4,6]) 359 (pc (Eq.refl (gG.length)) (pc (vI (sz:=4) (c:=aj) (d:=aa.d) gG ((de).toNat) 199 ((gG.getD ((de).toNat) []).length) [] FV) (pc (iM gG) pn))) ?_
  obtain ⟨dK,Ea,h⟩:=aQ h
  obtain ⟨VV,h⟩:=af h
  obtain ⟨XE,h⟩:=af h
  obtain ⟨VW,h⟩:=af h
  obtain ⟨XF,h⟩:=af h
  obtain ⟨YX,h⟩:=af h
  refine ag hE 0 [(3,⟨[0,1,2,3,4,6],false,(.tup []),[(0,vN 12 [(aI dK.1.xQ),(aI dK.1.xR),(.os 1 0 dK.2.1.length),(.os 2 0 dK.2.2.1.length),(.os 3 0 dK.2.2.2.1.length),(.os 4 0 dK.2.2.2.2.1.length),(.os 5 0 dK.2.2.2.2.2.length),(aB dK.1.ak.fN.fG),(eU dK.1.ak.fN.fL),(aB dK.1.ak.fD.fG),(eU dK.1.ak.fD.fL),(aI dK.1.cy)]),(1,aO 1 cI 0 dK.2.1),(2,aO 1 cI 0 dK.2.2.1),(3,aM 4 aj aa.d dK.2.2.2.1),(4,aO 4 aj aa.d dK.2.2.2.2.1),(5,aO 4 aj aa.d dK.2.2.2.2.2)],0,false,none⟩)] [] (kp [0]) (kq [0,1,2,3,4,6]) 423 (pc (nR _ _ _ _ _ _ _ _ _ _ _ _ _ _ _ _ Ea) pn) ?_
  exact cP hE 1 [] (kp [0]) (kq [0,1,2,3,4,6]) 7 pn (oK N _ _ _ _ _ _ _ _ _ _ _ _ _ h E hE)
 ·exact cP hE 2 [] (kp [0]) (kq [0,1,2,3,4,6]) 7 pn (oK N _ _ _ _ _ _ _ _ _ _ _ _ _ h E hE)
theorem vg (N C0 bE cr dn dw dx dk C1 C2 C3 C4 C5 fuel):pO N C0 bE cr dn dw dx dk C1 C2 C3 C4 C5 (bF N C0 bE cr dn dw dx dk C1 C2 C3 C4 C5 fuel):=by
 induction fuel with
 | zero=>intro _ _ r h;rw [bF.eq_1] at h;cases h
 | succ fuel ih =>
  intro low x r h E hE
  rw [bF.eq_2] at h
  refine ag hE 1 [] [] (kp [0,3,15,16,17]) (kq [0,1,2,3,4,6]) 23 pn ?_
  refine du 1 17 h (fun ee h=>?_) (fun ee h=>?_)
  ·refine ag hE 4 [] [] (kp [0,3,4,15,16]) (kq [0,1,2,3,4,6]) 55 pn ?_
   obtain ⟨c,h⟩:=af h
   obtain ⟨aL,hr,h⟩:=aQ h
   obtain ⟨c2,h⟩:=af h
   obtain ⟨c3,h⟩:=af h
   obtain ⟨fS,eX,h⟩:=aQ h
   refine ag hE 1 [(7,oT (aI aL)),(27,oT (aI fS))] [] (kp [0,3,4,15,16,49]) (kq [0,1,2,3,4,6]) 551 (pc o1 (pc c (pc (dP c) (pc (qZ _ _ _ hr) (pc (fun hg:(decide (aL < 0))=true=>(pc hg pn)) (pc (fun hg:((decide (aL < 0)) && ((decide (aL < 0)) && (!(decide (low < 0)))))=true=>(pc hg pn)) (pc (fun hg:((decide (aL < 0)) && ((decide (aL < 0)) && (!(decide (low < 0)))))=true=>(pc hg pn)) (pc (fun hg:((decide (aL < 0)) && ((decide (aL < 0)) && (!(decide (low < 0)))))=true=>(pc hg (pc o1 pn))) (pc (fun hg:((decide (aL < 0)) && ((decide (aL < 0)) && (!(decide (low < 0)))))=true=>(pc hg (pc hg (pc (c2 hg) pn)))) (pc (fun hg:((decide (aL < 0)) && ((decide (aL < 0)) && (!(decide (low < 0)))))=true=>(pc hg (pc (dP (c2 hg)) pn))) (pc (fun hg:((decide (aL < 0)) && ((decide (aL < 0)) && (!(decide (low < 0)))))=true=>(pc hg pn)) (pc (fun hg:((decide (aL < 0)) && ((decide (aL < 0)) && (!(decide (low < 0)))))=true=>(pc hg pn)) (pc (fun hg:((decide (aL < 0)) && ((decide (aL < 0)) && (!(decide (low < 0)))))=true=>(pc hg (pc o1 pn))) (pc (fun hg:((decide (aL < 0)) && ((decide (aL < 0)) && (!(decide (low < 0)))))=true=>(pc hg (pc hg (pc (c3 hg) pn)))) (pc (fun hg:((decide (aL < 0)) && ((decide (aL < 0)) && (!(decide (low < 0)))))=true=>(pc hg (pc (dP (c3 hg)) pn))) (pc (fun hg:((decide (aL < 0)) && ((decide (aL < 0)) && (!(decide (low < 0)))))=true=>(pc (jm _ _ _ _ (aR eX hg)) (pc hg (pc hg pn)))) (pc (fun hg:((decide (aL < 0)) && ((decide (aL < 0)) && (!(decide (low < 0)))))=true=>(pc hg pn)) (pc (fun hg:(decide (aL < 0))=true=>(pc hg (pc hg (pc (fun hq:(!(decide (low < 0)))=true=>(pc (show ((decide (aL < 0)) && ((decide (aL < 0)) && (!(decide (low < 0)))))=true from (jz hg (jz hg hq))) pn)) pn)))) (pc (fun hq:(decide (aL < 0))=true=>(pc hq pn)) pn))))))))))))))))))) ?_
   refine du 0 49 h (fun jx h=>?_) (fun jx h=>?_)
   ·refine ag hE 0 [] [] (kp [0,3,15,16]) (kq [0,1,2,3,4,6]) 583 pn ?_
    exact cP hE 1 [] (kp [0,3,15,16]) (kq [0,1,2,3,4,6]) 7 pn (oJ N _ _ _ _ _ _ _ _ _ _ _ _ _ _ ih _ _ h E hE)
   ·exact cP hE 2 [] (kp [0,3,15,16]) (kq [0,1,2,3,4,6]) 7 pn (oJ N _ _ _ _ _ _ _ _ _ _ _ _ _ _ ih _ _ h E hE)
  ·refine ag hE 2 [] [] (kp [0,3,5]) (kq [0,1,2,3,4,6]) 135 (pc o1 pn) ?_
   refine ag hE 2 [] [] (kp [0,3,5,59]) (kq [0,1,2,3,4,6]) 167 pn ?_
   refine du 0 59 h (fun rV h=>?_) (fun rV h=>?_)
   ·obtain ⟨ax,kE,h⟩:=aQ h
    obtain ⟨c4,h⟩:=af h
    refine ag hE 1 [(5,oT (.agg (aj ax)))] [] (kp [0,3,5]) ([(0,.var 0 [.ah,.ah,.ah,.ah,.ah,.ah,.jq ((C5.set ((ai (((C2.length:Nat):Int) - 1)).toNat) ax).length),.ah,.ah,.ah,.ah,.ah])] ++ kq [1,2,3,4] ++ [(6,.arr 6 ((C5.set ((ai (((C2.length:Nat):Int) - 1)).toNat) ax).length) (fun zi=>aj ((C5.set ((ai (((C2.length:Nat):Int) - 1)).toNat) ax).getD zi aa.d)))]) 295 (pc o1 (pc (g8 _ _ _ kE) (pc c4 (pc (dP c4) (pc (ay C5 ((ai (((C2.length:Nat):Int) - 1)).toNat) ax) (pc (ay C5 ((ai (((C2.length:Nat):Int) - 1)).toNat) ax) (pc (cA aj aa.d C5 ((ai (((C2.length:Nat):Int) - 1)).toNat) ax) pn))))))) ?_
    obtain ⟨bD,nu,h⟩:=aQ h
    obtain ⟨c5,h⟩:=af h
    obtain ⟨c6,h⟩:=af h
    obtain ⟨c7,h⟩:=af h
    obtain ⟨c8,h⟩:=af h
    obtain ⟨c9,h⟩:=af h
    refine ag hE 1 [(3,⟨[0,1,2,3,4,6],false,(.tup []),[(0,vN 12 [(aI bD.1.xQ),(aI bD.1.xR),(.os 1 0 bD.2.1.length),(.os 2 0 bD.2.2.1.length),(.os 3 0 bD.2.2.2.1.length),(.os 4 0 bD.2.2.2.2.1.length),(.os 5 0 bD.2.2.2.2.2.length),(aB bD.1.ak.fN.fG),(eU bD.1.ak.fN.fL),(aB bD.1.ak.fD.fG),(eU bD.1.ak.fD.fL),(aI bD.1.cy)]),(1,aO 1 cI 0 bD.2.1),(2,aO 1 cI 0 bD.2.2.1),(3,aM 4 aj aa.d bD.2.2.2.1),(4,aO 4 aj aa.d bD.2.2.2.2.1),(5,aO 4 aj aa.d bD.2.2.2.2.2)],0,false,none⟩)] [] (kp [0]) (kq [0,1,2,3,4,6]) 359 (pc (nR _ _ _ _ _ _ _ _ _ _ _ _ _ _ _ _ nu) pn) ?_
    obtain ⟨cR,rX,h⟩:=aQ h
    obtain ⟨MF,h⟩:=af h
    obtain ⟨Iv,h⟩:=af h
    obtain ⟨Iw,h⟩:=af h
    obtain ⟨Hd,h⟩:=af h
    obtain ⟨LX,h⟩:=af h
    refine ag hE 1 [(1,⟨[0,1,2,3,4,6],false,(aI cR.1),[(0,vN 12 [(aI cR.2.1.xQ),(aI cR.2.1.xR),(.os 1 0 cR.2.2.1.length),(.os 2 0 cR.2.2.2.1.length),(.os 3 0 cR.2.2.2.2.1.length),(.os 4 0 cR.2.2.2.2.2.1.length),(.os 5 0 cR.2.2.2.2.2.2.length),(aB cR.2.1.ak.fN.fG),(eU cR.2.1.ak.fN.fL),(aB cR.2.1.ak.fD.fG),(eU cR.2.1.ak.fD.fL),(aI cR.2.1.cy)]),(1,aO 1 cI 0 cR.2.2.1),(2,aO 1 cI 0 cR.2.2.2.1),(3,aM 4 aj aa.d cR.2.2.2.2.1),(4,aO 4 aj aa.d cR.2.2.2.2.2.1),(5,aO 4 aj aa.d cR.2.2.2.2.2.2)],0,false,none⟩)] [] (kp [0]) (kq [0,1,2,3,4,6]) 391 (pc (yS _ _ _ _ _ _ _ _ _ _ _ _ _ _ rX) pn) ?_
    obtain ⟨gn,xU,h⟩:=aQ h
    refine ag hE 1 [(4,oT (aB gn))] [] (kp [0,78]) (kq [0,1,2,3,4,6]) 487 (pc o1 (pc (jl _ _ _ xU) pn)) ?_
    refine du 0 78 h (fun BS h=>?_) (fun BS h=>?_)
    ·refine ag hE 1 [] [] (kp [2]) (kq [0,1,2,3,4,6]) 503 pn ?_
     obtain rfl:=cX h
     exact db hE 0 Tryz.f34 [] (kp [2]) (kq [0,1,2,3,4,6]) 503 pn [] pn
    ·exact cP hE 3 [] (kp [0]) (kq [0,1,2,3,4,6]) 7 pn (oL N _ _ _ _ _ _ _ _ _ _ _ _ _ h E hE)
   ·exact cP hE 3 [] (kp [0]) (kq [0,1,2,3,4,6]) 7 pn (oL N _ _ _ _ _ _ _ _ _ _ _ _ _ h E hE)
theorem xY (N C0 bE cr dn dw dx dk C1 C2 C3 C4 C5 r) (h:mf N C0 bE cr dn dw dx dk C1 C2 C3 C4 C5=some r):Sd 34 [(.op 0 0 0)] [(0,vN 12 [(aI C0),(aI bE),(.os 1 0 C1.length),(.os 2 0 C2.length),(.os 3 0 C3.length),(.os 4 0 C4.length),(.os 5 0 C5.length),(aB cr),(eU dn),(aB dw),(eU dx),(aI dk)]),(1,aO 1 cI 0 C1),(2,aO 1 cI 0 C2),(3,aM 4 aj aa.d C3),(4,aO 4 aj aa.d C4),(5,aO 4 aj aa.d C5)] 6 (aB r.1) [(0,vN 12 [(aI r.2.1.xQ),(aI r.2.1.xR),(.os 1 0 r.2.2.1.length),(.os 2 0 r.2.2.2.1.length),(.os 3 0 r.2.2.2.2.1.length),(.os 4 0 r.2.2.2.2.2.length),(.os 6 0 r.2.1.fa.length),(aB r.2.1.ak.fN.fG),(eU r.2.1.ak.fN.fL),(aB r.2.1.ak.fD.fG),(eU r.2.1.ak.fD.fL),(aI r.2.1.cy)]),(1,aO 1 cI 0 r.2.2.1),(2,aO 1 cI 0 r.2.2.2.1),(3,aM 4 aj aa.d r.2.2.2.2.1),(4,aO 4 aj aa.d r.2.2.2.2.2),(6,aO 4 aj aa.d r.2.1.fa)]:=by
 unfold mf at h
 refine im (fu:=Tryz.f34) (c:=xX 1) (nt:=177) (fun hm=>absurd hm (by decide)) ?_
 intro E hE
 refine ag hE 1 [] [] (kp [0]) (kq [0,1,2,3,4,5]) 22 pn ?_
 refine ag hE 1 [] [] (kp [0,3]) (kq [0,1,2,3,4,5]) 38 pn ?_
 refine ag hE 2 [] [] (kp [0,3,15,16]) (kq [0,1,2,3,4,5]) 134 (pc o1 pn) ?_
 exact cP hE 2 [] (kp [0,3,15,16]) (kq [0,1,2,3,4] ++ [(6,.ah 5)]) 7 pn (vg N _ _ _ _ _ _ _ _ _ _ _ _ N _ _ _ h E hE)
noncomputable abbrev MJ:=cl Tryz.f35
def mQ (N:Nat) (C0:Int) (bE:Int) (cr:Bool) (dn:List Int) (dw:Bool) (dx:List Int) (dk:Int) (C1:List Int) (C2:List Int) (C3:List (List aa)) (C4:List aa) (C5:List aa) (K:(List aa)→Int→Option ((List aa))):Prop:=∀ (out:List aa) (x:Int) (r:(List aa)),K out x=some r→∀ E,bk E 6→aG Tryz.prog E 35 47 (bc E [(0,vN 12 [(aI C0),(aI bE),(.os 1 0 C1.length),(.os 2 0 C2.length),(.os 3 0 C3.length),(.os 4 0 C4.length),(.os 5 0 C5.length),(aB cr),(eU dn),(aB dw),(eU dx),(aI dk)]),(1,aO 1 cI 0 C1),(2,aO 1 cI 0 C2),(3,aM 4 aj aa.d C3),(4,aO 4 aj aa.d C4),(5,aO 4 aj aa.d C5),(6,aO 4 aj aa.d r)] (.os 6 0 r.length)) [.code (MJ 116),.inLoop (MJ 116),.inBlock 0,.code (MJ 15)] ⟨[(0,(.op 0 0 0)),(3,(.os 6 0 out.length)),(12,(aI (((List.replicate ((bE).toNat) aa.d:List aa).length:Nat):Int))),(13,(aI x))],[(0,vN 12 [(aI C0),(aI bE),(.os 1 0 C1.length),(.os 2 0 C2.length),(.os 3 0 C3.length),(.os 4 0 C4.length),(.os 5 0 C5.length),(aB cr),(eU dn),(aB dw),(eU dx),(aI dk)]),(1,aO 1 cI 0 C1),(2,aO 1 cI 0 C2),(3,aM 4 aj aa.d C3),(4,aO 4 aj aa.d C4),(5,aO 4 aj aa.d C5),(6,aO 4 aj aa.d out)],7⟩
def r8 (N:Nat) (C0:Int) (bE:Int) (cr:Bool) (dn:List Int) (dw:Bool) (dx:List Int) (dk:Int) (C1:List Int) (C2:List Int) (C3:List (List aa)) (C4:List aa) (C5:List aa) (x:Int) (K:(List aa)→Option ((List aa))):Prop:=∀ (gy:List aa) (r:(List aa)),K gy=some r→∀ E,bk E 6→aG Tryz.prog E 35 47 (bc E [(0,vN 12 [(aI C0),(aI bE),(.os 1 0 C1.length),(.os 2 0 C2.length),(.os 3 0 C3.length),(.os 4 0 C4.length),(.os 5 0 C5.length),(aB cr),(eU dn),(aB dw),(eU dx),(aI dk)]),(1,aO 1 cI 0 C1),(2,aO 1 cI 0 C2),(3,aM 4 aj aa.d C3),(4,aO 4 aj aa.d C4),(5,aO 4 aj aa.d C5),(6,aO 4 aj aa.d r)] (.os 6 0 r.length)) [.code (MJ 935),.inLoop (MJ 116),.inBlock 0,.code (MJ 15)] ⟨[(0,(.op 0 0 0)),(3,(.os 6 0 gy.length)),(12,(aI (((List.replicate ((bE).toNat) aa.d:List aa).length:Nat):Int))),(13,(aI x))],[(0,vN 12 [(aI C0),(aI bE),(.os 1 0 C1.length),(.os 2 0 C2.length),(.os 3 0 C3.length),(.os 4 0 C4.length),(.os 5 0 C5.length),(aB cr),(eU dn),(aB dw),(eU dx),(aI dk)]),(1,aO 1 cI 0 C1),(2,aO 1 cI 0 C2),(3,aM 4 aj aa.d C3),(4,aO 4 aj aa.d C4),(5,aO 4 aj aa.d C5),(6,aO 4 aj aa.d gy)],7⟩
theorem mb (N:Nat) (C0:Int) (bE:Int) (cr:Bool) (dn:List Int) (dw:Bool) (dx:List Int) (dk:Int) (C1:List Int) (C2:List Int) (C3:List (List aa)) (C4:List aa) (C5:List aa) (x:Int) (gp:(List aa)→Int→Option ((List aa))) (rz:mQ N C0 bE cr dn dw dx dk C1 C2 C3 C4 C5 gp):r8 N C0 bE cr dn dw dx dk C1 C2 C3 C4 C5 x (fg N C0 bE cr dn dw dx dk C1 C2 C3 C4 C5 x gp):=by
 intro gy r h E hE
 unfold fg at h
 refine ag hE 0 [] [] (kp [0,3,12,13]) (kq [0,1,2,3,4,5,6]) 39 pn ?_
 exact cP hE 1 [] (kp [0,3,12,13]) (kq [0,1,2,3,4,5,6]) 7 pn (rz _ _ _ h E hE)
theorem rA (N C0 bE cr dn dw dx dk C1 C2 C3 C4 C5 fuel):mQ N C0 bE cr dn dw dx dk C1 C2 C3 C4 C5 (bR N C0 bE cr dn dw dx dk C1 C2 C3 C4 C5 fuel):=by
 induction fuel with
 | zero=>intro _ _ r h;rw [bR.eq_1] at h;cases h
 | succ fuel ih =>
  intro out x r h E hE
  rw [bR.eq_2] at h
  refine ag hE 1 [] [] (kp [0,3,12,13,14]) (kq [0,1,2,3,4,5,6]) 23 pn ?_
  refine du 1 14 h (fun ee h=>?_) (fun ee h=>?_)
  ·refine ag hE 4 [] [] (kp [0,3,4,12,13]) (kq [0,1,2,3,4,5,6]) 55 pn ?_
   obtain ⟨ax,hr,h⟩:=aQ h
   obtain ⟨c2,h⟩:=af h
   refine ag hE 1 [(2,oT (.agg (aj ax)))] [] (kp [0] ++ [(3,.jq ((out.set ((x).toNat) ax).length))] ++ kp [4,12,13]) (kq [0,1,2,3,4,5] ++ [(6,.arr 6 ((out.set ((x).toNat) ax).length) (fun zi=>aj ((out.set ((x).toNat) ax).getD zi aa.d)))]) 135 (pc (g8 _ _ _ hr) (pc c2 (pc (dP c2) (pc (ay out ((x).toNat) ax) (pc (ay out ((x).toNat) ax) (pc (cA aj aa.d out ((x).toNat) ax) pn)))))) ?_
   obtain ⟨de,eX,h⟩:=aQ h
   refine ag hE 1 [(11,oT (aI de))] [] (kp [0,3,4,5,12,13]) (kq [0,1,2,3,4,5,6]) 343 (pc o1 (pc o1 (pc (iP _ _ _ _ eX) (pc (z1 C2.length) pn)))) ?_
   refine ag hE 1 [] [] (kp [0,3,4,5,12,13,33]) (kq [0,1,2,3,4,5,6]) 375 pn ?_
   refine du 0 33 h (fun jx h=>?_) (fun jx h=>?_)
   ·obtain ⟨c3,h⟩:=af h
    obtain ⟨bg,kE,h⟩:=aQ h
    obtain ⟨c4,h⟩:=af h
    refine ag hE 0 [(9,oT (.agg (aj bg)))] [] (kp [0] ++ [(3,.jq (((out.set ((x).toNat) ax).set ((x).toNat) bg).length))] ++ kp [12,13]) (kq [0,1,2,3,4,5] ++ [(6,.arr 6 (((out.set ((x).toNat) ax).set ((x).toNat) bg).length) (fun zi=>aj (((out.set ((x).toNat) ax).set ((x).toNat) bg).getD zi aa.d)))]) 567 (pc o1 (pc c3 (pc (dP c3) (pc (kV _ _ _ kE) (pc c4 (pc (dP c4) (pc (ay (out.set ((x).toNat) ax) ((x).toNat) bg) (pc (ay (out.set ((x).toNat) ax) ((x).toNat) bg) (pc (cA aj aa.d (out.set ((x).toNat) ax) ((x).toNat) bg) pn))))))))) ?_
    exact cP hE 1 [] (kp [0,3,12,13]) (kq [0,1,2,3,4,5,6]) 7 pn (mb N _ _ _ _ _ _ _ _ _ _ _ _ _ _ ih _ _ h E hE)
   ·exact cP hE 2 [] (kp [0,3,12,13]) (kq [0,1,2,3,4,5,6]) 7 pn (mb N _ _ _ _ _ _ _ _ _ _ _ _ _ _ ih _ _ h E hE)
  ·refine ag hE 2 [] [] (kp [2]) (kq [0,1,2,3,4,5,6]) 55 pn ?_
   obtain rfl:=cX h
   exact db hE 0 Tryz.f35 [] (kp [2]) (kq [0,1,2,3,4,5,6]) 55 pn [] pn
theorem tR (N C0 bE cr dn dw dx dk C1 C2 C3 C4 C5 r) (h:jE N C0 bE cr dn dw dx dk C1 C2 C3 C4 C5=some r):Sd 35 [(.op 0 0 0)] [(0,vN 12 [(aI C0),(aI bE),(.os 1 0 C1.length),(.os 2 0 C2.length),(.os 3 0 C3.length),(.os 4 0 C4.length),(.os 5 0 C5.length),(aB cr),(eU dn),(aB dw),(eU dx),(aI dk)]),(1,aO 1 cI 0 C1),(2,aO 1 cI 0 C2),(3,aM 4 aj aa.d C3),(4,aO 4 aj aa.d C4),(5,aO 4 aj aa.d C5)] 6 (.os 6 0 r.length) [(0,vN 12 [(aI C0),(aI bE),(.os 1 0 C1.length),(.os 2 0 C2.length),(.os 3 0 C3.length),(.os 4 0 C4.length),(.os 5 0 C5.length),(aB cr),(eU dn),(aB dw),(eU dx),(aI dk)]),(1,aO 1 cI 0 C1),(2,aO 1 cI 0 C2),(3,aM 4 aj aa.d C3),(4,aO 4 aj aa.d C4),(5,aO 4 aj aa.d C5),(6,aO 4 aj aa.d r)]:=by
 unfold jE at h
 refine im (fu:=Tryz.f35) (c:=MJ 1) (nt:=47) (fun hm=>absurd hm (by decide)) ?_
 intro E hE
 refine ag hE 1 [] [] (kp [0]) (kq [0,1,2,3,4,5]) 22 pn ?_
 obtain ⟨c,h⟩:=af h
 refine ag hE 1 [] [] (kp [0] ++ [(3,.jq ((List.replicate ((bE).toNat) aa.d:List aa).length))]) (kq [0,1,2,3,4,5] ++ [(86,.OQ 86 ((List.replicate ((bE).toNat) aa.d:List aa).length) (fun zi=>aj ((List.replicate ((bE).toNat) aa.d:List aa).getD zi aa.d)))]) 118 (pc o1 (pc (show 0≤bE from c.1) (pc (show bE≤bE from (Int.le_refl _)) (pc (show (64:Int) * bE≤281474976710656 from c.2.1) (pc (show bE≤9223372036854775807 from c.2.2) (pc (show (bE).toNat=(List.replicate ((bE).toNat) aa.d:List aa).length from (cN).symm) (pc (show (List.replicate ((bE).toNat) aa.d:List aa).length≤(bE).toNat from (Nat.le_of_eq (Eq.symm ((cN).symm)))) (pc (show ∀ zi,zi < (List.replicate ((bE).toNat) aa.d:List aa).length→Ij ((fun _=>[(aB false),.nil,(aB false),.nil]) zi) ((fun zi=>aj ((List.replicate ((bE).toNat) aa.d:List aa).getD zi aa.d)) zi) from (fun zq eY=>mc aj aa.d aa.d ((bE).toNat) zq ⟨.inl rfl,.inr ⟨rfl,_,rfl⟩,.inl rfl,.inr ⟨rfl,_,rfl⟩,trivial⟩ eY)) pn)))))))) ?_
 refine ag hE 2 [] [] (kp [0,3,12,13]) (kq [0,1,2,3,4,5,86]) 166 pn ?_
 exact cP hE 2 [] (kp [0,3,12,13]) (kq [0,1,2,3,4,5] ++ [(6,.ah 86)]) 7 pn (rA N _ _ _ _ _ _ _ _ _ _ _ _ N _ _ _ h E hE)
noncomputable abbrev aaC:=cl Tryz.f37
theorem uB (N zE C0 bE cr dn dw dx dk C1 C2 C3 C4 C5 r) (h:nM N zE C0 bE cr dn dw dx dk C1 C2 C3 C4 C5=some r):Sd 37 [(.op 0 0 0),(aI zE)] [(0,vN 12 [(aI C0),(aI bE),(.os 1 0 C1.length),(.os 2 0 C2.length),(.os 3 0 C3.length),(.os 4 0 C4.length),(.os 5 0 C5.length),(aB cr),(eU dn),(aB dw),(eU dx),(aI dk)]),(1,aO 1 cI 0 C1),(2,aO 1 cI 0 C2),(3,aM 4 aj aa.d C3),(4,aO 4 aj aa.d C4),(5,aO 4 aj aa.d C5)] 6 (.agg (aj r)) [(0,vN 12 [(aI C0),(aI bE),(.os 1 0 C1.length),(.os 2 0 C2.length),(.os 3 0 C3.length),(.os 4 0 C4.length),(.os 5 0 C5.length),(aB cr),(eU dn),(aB dw),(eU dx),(aI dk)]),(1,aO 1 cI 0 C1),(2,aO 1 cI 0 C2),(3,aM 4 aj aa.d C3),(4,aO 4 aj aa.d C4),(5,aO 4 aj aa.d C5)]:=by
 unfold nM at h
 refine im (fu:=Tryz.f37) (c:=aaC 1) (nt:=22) (fun hm=>absurd hm (by decide)) ?_
 intro E hE
 refine ag hE 1 [] [] (kp [0,1,4]) (kq [0,1,2,3,4,5,6]) 22 pn ?_
 obtain ⟨de,hr,h⟩:=aQ h
 refine ag hE 2 [(5,oT (aI de))] [] (kp [0,4,5]) (kq [0,1,2,3,4,5,6]) 134 (pc o1 (pc (iP _ _ _ _ hr) (pc (z1 C1.length) pn))) ?_
 refine ag hE 1 [] [] (kp [0,4,5,13]) (kq [0,1,2,3,4,5,6]) 166 pn ?_
 refine du 0 13 h (fun ee h=>?_) (fun ee h=>?_)
 ·obtain ⟨c,h⟩:=af h
  refine ag hE 1 [] [] (kp [4]) (kq [0,1,2,3,4,5,6]) 294 (pc o1 (pc c (pc (dP c) (pc o1 pn)))) ?_
  obtain rfl:=cX h
  exact db hE 0 Tryz.f37 [] (kp [4]) (kq [0,1,2,3,4,5] ++ [(22,.ah 6)]) 294 pn [22] (pc o1 pn)
 ·obtain ⟨ax,eX,h⟩:=aQ h
  refine ag hE 2 [(0,oT (.agg (aj ax)))] [] (kp [4]) (kq [0,1,2,3,4,5,6]) 198 (pc (g8 _ _ _ eX) (pc o1 pn)) ?_
  obtain rfl:=cX h
  exact db hE 0 Tryz.f37 [] (kp [4]) (kq [0,1,2,3,4,5] ++ [(22,.ah 6)]) 198 pn [22] (pc o1 pn)
noncomputable abbrev Tt:=cl Tryz.f36
def xj (N:Nat) (C0:Int) (bE:Int) (cr:Bool) (dn:List Int) (dw:Bool) (dx:List Int) (dk:Int) (C1:List Int) (C2:List Int) (C3:List (List aa)) (C4:List aa) (C5:List aa) (K:(List aa)→Int→Option ((List aa))):Prop:=∀ (out:List aa) (x:Int) (r:(List aa)),K out x=some r→∀ E,bk E 6→aG Tryz.prog E 36 34 (bc E [(0,vN 12 [(aI C0),(aI bE),(.os 1 0 C1.length),(.os 2 0 C2.length),(.os 3 0 C3.length),(.os 4 0 C4.length),(.os 5 0 C5.length),(aB cr),(eU dn),(aB dw),(eU dx),(aI dk)]),(1,aO 1 cI 0 C1),(2,aO 1 cI 0 C2),(3,aM 4 aj aa.d C3),(4,aO 4 aj aa.d C4),(5,aO 4 aj aa.d C5),(6,aO 4 aj aa.d r)] (.os 6 0 r.length)) [.code (Tt 116),.inLoop (Tt 116),.inBlock 0,.code (Tt 15)] ⟨[(0,(.op 0 0 0)),(1,(.fn (.func 37) [(.op 0 0 0)] [])),(5,(.os 6 0 out.length)),(13,(aI (((List.replicate ((C0).toNat) aa.d:List aa).length:Nat):Int))),(14,(aI x))],[(0,vN 12 [(aI C0),(aI bE),(.os 1 0 C1.length),(.os 2 0 C2.length),(.os 3 0 C3.length),(.os 4 0 C4.length),(.os 5 0 C5.length),(aB cr),(eU dn),(aB dw),(eU dx),(aI dk)]),(1,aO 1 cI 0 C1),(2,aO 1 cI 0 C2),(3,aM 4 aj aa.d C3),(4,aO 4 aj aa.d C4),(5,aO 4 aj aa.d C5),(6,aO 4 aj aa.d out)],7⟩
theorem we (N C0 bE cr dn dw dx dk C1 C2 C3 C4 C5 fuel):xj N C0 bE cr dn dw dx dk C1 C2 C3 C4 C5 (eA N C0 bE cr dn dw dx dk C1 C2 C3 C4 C5 fuel):=by
 induction fuel with
 | zero=>intro _ _ r h;rw [eA.eq_1] at h;cases h
 | succ fuel ih =>
  intro out x r h E hE
  rw [eA.eq_2] at h
  refine ag hE 1 [] [] (kp [0,1,5,13,14,15]) (kq [0,1,2,3,4,5,6]) 23 pn ?_
  refine du 1 15 h (fun ee h=>?_) (fun ee h=>?_)
  ·refine ag hE 4 [] [] (kp [0,1,5,6,13,14]) (kq [0,1,2,3,4,5,6]) 55 pn ?_
   obtain ⟨rat,hr,h⟩:=aQ h
   obtain ⟨VM,eX,h⟩:=aQ h
   obtain ⟨av,kE,h⟩:=aQ h
   obtain ⟨c2,h⟩:=af h
   refine ag hE 0 [(4,⟨[0,1,2,3,4,5],true,(.agg (aj rat)),[],0,false,none⟩),(12,⟨[0,1,2,3,4,5],true,(.agg (aj VM)),[],0,false,none⟩),(13,oT (.agg (aj av)))] [] (kp [0,1] ++ [(5,.jq ((out.set ((x).toNat) av).length))] ++ kp [13,14]) (kq [0,1,2,3,4,5] ++ [(6,.arr 6 ((out.set ((x).toNat) av).length) (fun zi=>aj ((out.set ((x).toNat) av).getD zi aa.d)))]) 311 (pc (uB _ _ _ _ _ _ _ _ _ _ _ _ _ _ _ hr) (pc (iM C3) (pc o1 (pc (uB _ _ _ _ _ _ _ _ _ _ _ _ _ _ _ eX) (pc (iM C3) (pc (ft _ _ _ _ kE) (pc c2 (pc (dP c2) (pc (ay out ((x).toNat) av) (pc (ay out ((x).toNat) av) (pc (cA aj aa.d out ((x).toNat) av) pn))))))))))) ?_
   refine ag hE 1 [] [] (kp [0,1,5,13,14]) (kq [0,1,2,3,4,5,6]) 343 pn ?_
   exact cP hE 1 [] (kp [0,1,5,13,14]) (kq [0,1,2,3,4,5,6]) 7 pn (ih _ _ _ h E hE)
  ·refine ag hE 2 [] [] (kp [4]) (kq [0,1,2,3,4,5,6]) 55 pn ?_
   obtain rfl:=cX h
   exact db hE 0 Tryz.f36 [] (kp [4]) (kq [0,1,2,3,4,5,6]) 55 pn [] pn
theorem yT (N C0 bE cr dn dw dx dk C1 C2 C3 C4 C5 r) (h:nm N C0 bE cr dn dw dx dk C1 C2 C3 C4 C5=some r):Sd 36 [(.op 0 0 0),(.fn (.func 37) [(.op 0 0 0)] [])] [(0,vN 12 [(aI C0),(aI bE),(.os 1 0 C1.length),(.os 2 0 C2.length),(.os 3 0 C3.length),(.os 4 0 C4.length),(.os 5 0 C5.length),(aB cr),(eU dn),(aB dw),(eU dx),(aI dk)]),(1,aO 1 cI 0 C1),(2,aO 1 cI 0 C2),(3,aM 4 aj aa.d C3),(4,aO 4 aj aa.d C4),(5,aO 4 aj aa.d C5)] 6 (.os 6 0 r.length) [(0,vN 12 [(aI C0),(aI bE),(.os 1 0 C1.length),(.os 2 0 C2.length),(.os 3 0 C3.length),(.os 4 0 C4.length),(.os 5 0 C5.length),(aB cr),(eU dn),(aB dw),(eU dx),(aI dk)]),(1,aO 1 cI 0 C1),(2,aO 1 cI 0 C2),(3,aM 4 aj aa.d C3),(4,aO 4 aj aa.d C4),(5,aO 4 aj aa.d C5),(6,aO 4 aj aa.d r)]:=by
 unfold nm at h
 refine im (fu:=Tryz.f36) (c:=Tt 1) (nt:=34) (fun hm=>absurd hm (by decide)) ?_
 intro E hE
 refine ag hE 1 [] [] (kp [0,1]) (kq [0,1,2,3,4,5]) 22 pn ?_
 obtain ⟨c,h⟩:=af h
 refine ag hE 1 [] [] (kp [0,1] ++ [(5,.jq ((List.replicate ((C0).toNat) aa.d:List aa).length))]) (kq [0,1,2,3,4,5] ++ [(86,.OQ 86 ((List.replicate ((C0).toNat) aa.d:List aa).length) (fun zi=>aj ((List.replicate ((C0).toNat) aa.d:List aa).getD zi aa.d)))]) 118 (pc o1 (pc (show 0≤C0 from c.1) (pc (show C0≤C0 from (Int.le_refl _)) (pc (show (64:Int) * C0≤281474976710656 from c.2.1) (pc (show C0≤9223372036854775807 from c.2.2) (pc (show (C0).toNat=(List.replicate ((C0).toNat) aa.d:List aa).length from (cN).symm) (pc (show (List.replicate ((C0).toNat) aa.d:List aa).length≤(C0).toNat from (Nat.le_of_eq (Eq.symm ((cN).symm)))) (pc (show ∀ zi,zi < (List.replicate ((C0).toNat) aa.d:List aa).length→Ij ((fun _=>[(aB false),.nil,(aB false),.nil]) zi) ((fun zi=>aj ((List.replicate ((C0).toNat) aa.d:List aa).getD zi aa.d)) zi) from (fun zq eY=>mc aj aa.d aa.d ((C0).toNat) zq ⟨.inl rfl,.inr ⟨rfl,_,rfl⟩,.inl rfl,.inr ⟨rfl,_,rfl⟩,trivial⟩ eY)) pn)))))))) ?_
 refine ag hE 2 [] [] (kp [0,1,5,13,14]) (kq [0,1,2,3,4,5,86]) 166 pn ?_
 exact cP hE 2 [] (kp [0,1,5,13,14]) (kq [0,1,2,3,4,5] ++ [(6,.ah 86)]) 7 pn (we N _ _ _ _ _ _ _ _ _ _ _ _ N _ _ _ h E hE)
noncomputable abbrev C_0:=cl Tryz.f17
theorem xH (N n l r) (h:n9 N n l=some r):Sd 17 [(aI n),(aH om ab.d l)] [] 0 (.tup [(aH aj aa.d r.1),(aH aj aa.d r.2.1),(aI r.2.2)]) []:=by
 unfold n9 at h
 refine im (fu:=Tryz.f17) (c:=C_0 1) (nt:=27) (fun hm=>rfl) ?_
 intro E hE
 refine ag hE 1 [] [] (kp [0,1]) [] 48 pn ?_
 obtain ⟨w6,hr,h⟩:=aQ h
 refine ag hE 2 [(2,oT (aI w6))] [] (kp [0,1,7]) [] 112 (pc (CW _ _ _ _ hr) pn) ?_
 refine ag hE 1 [] [] (kp [0,1,7,13]) [] 144 pn ?_
 refine du 0 13 h (fun ee h=>?_) (fun ee h=>?_)
 ·refine ag hE 1 [] [] (kp [4,5,6]) [] 208 pn ?_
  obtain rfl:=cX h
  exact db hE 0 Tryz.f17 [] ([(4,.sl (([]:List aa).length) (fun zi=>aj (([]:List aa).getD zi aa.d))),(5,.sl (([]:List aa).length) (fun zi=>aj (([]:List aa).getD zi aa.d)))] ++ kp [6]) [] 208 (pc (Eq.refl 0) (pc (Eq.refl 0) pn)) [] pn
 ·obtain ⟨fQ,eX,h⟩:=aQ h
  refine ag hE 2 [(2,⟨[],true,(.op 0 0 0),[(0,vN 12 [(aI fQ.xQ),(aI fQ.xR),(.os 1 0 fQ.kK.length),(.os 2 0 fQ.nB.length),(.os 3 0 fQ.J6.length),(.os 4 0 fQ.J7.length),(.os 5 0 fQ.fa.length),(aB fQ.ak.fN.fG),(eU fQ.ak.fN.fL),(aB fQ.ak.fD.fG),(eU fQ.ak.fD.fL),(aI fQ.cy)]),(1,aO 1 cI 0 fQ.kK),(2,aO 1 cI 0 fQ.nB),(3,aM 4 aj aa.d fQ.J6),(4,aO 4 aj aa.d fQ.J7),(5,aO 4 aj aa.d fQ.fa)],0,false,none⟩)] [] (kp [8]) (kq [176,177,178,179,180,181]) 208 (pc (Jx _ _ _ _ eX) pn) ?_
  obtain ⟨b8,kE,h⟩:=aQ h
  obtain ⟨c,h⟩:=af h
  obtain ⟨c2,h⟩:=af h
  obtain ⟨c3,h⟩:=af h
  refine ag hE 2 [(1,⟨[176,177,178,179,180,181],false,(aB b8.1),[(0,vN 12 [(aI b8.2.1.xQ),(aI b8.2.1.xR),(.os 1 0 b8.2.2.1.length),(.os 2 0 b8.2.2.2.1.length),(.os 3 0 b8.2.2.2.2.1.length),(.os 4 0 b8.2.2.2.2.2.length),(.os 6 0 b8.2.1.fa.length),(aB b8.2.1.ak.fN.fG),(eU b8.2.1.ak.fN.fL),(aB b8.2.1.ak.fD.fG),(eU b8.2.1.ak.fD.fL),(aI b8.2.1.cy)]),(1,aO 1 cI 0 b8.2.2.1),(2,aO 1 cI 0 b8.2.2.2.1),(3,aM 4 aj aa.d b8.2.2.2.2.1),(4,aO 4 aj aa.d b8.2.2.2.2.2),(6,aO 4 aj aa.d b8.2.1.fa)],0,false,none⟩)] [] (kp [8,20]) (kq [176,177,178,179,180,224]) 256 (pc (xY _ _ _ _ _ _ _ _ _ _ _ _ _ _ kE) pn) ?_
  refine du 0 20 h (fun jx h=>?_) (fun jx h=>?_)
  ·obtain ⟨jh,nu,h⟩:=aQ h
   refine ag hE 1 [(1,⟨[176,177,178,179,180,224],true,(.os 6 0 jh.length),[(6,aO 4 aj aa.d jh)],0,false,none⟩)] [] (kp [4,5,6]) (kq [272]) 336 (pc (tR _ _ _ _ _ _ _ _ _ _ _ _ _ _ nu) (pc (iM b8.2.2.2.2.1) pn)) ?_
   obtain rfl:=cX h
   exact db hE 0 Tryz.f17 [272] ([(4,.sl (([]:List aa).length) (fun zi=>aj (([]:List aa).getD zi aa.d))),(5,.sl (jh.length) (fun zi=>aj (jh.getD zi aa.d)))] ++ kp [6]) [] 336 (pc (Eq.refl 0) (pc (Eq.refl jh.length) (pc (z1 jh.length) (pc (aZ jh.length (fun zi=>aj (jh.getD zi aa.d))) pn)))) [] pn
  ·obtain ⟨uW,rX,h⟩:=aQ h
   refine ag hE 2 [(3,⟨[176,177,178,179,180,224],true,(.os 6 0 uW.length),[(6,aO 4 aj aa.d uW)],0,false,none⟩)] [] (kp [4,5,6]) (kq [304]) 368 (pc (yT _ _ _ _ _ _ _ _ _ _ _ _ _ _ rX) (pc (iM b8.2.2.2.2.1) pn)) ?_
   obtain rfl:=cX h
   exact db hE 0 Tryz.f17 [304] ([(4,.sl (uW.length) (fun zi=>aj (uW.getD zi aa.d))),(5,.sl (([]:List aa).length) (fun zi=>aj (([]:List aa).getD zi aa.d)))] ++ kp [6]) [] 368 (pc (Eq.refl uW.length) (pc (z1 uW.length) (pc (aZ uW.length (fun zi=>aj (uW.getD zi aa.d))) (pc (Eq.refl 0) pn)))) [] pn
noncomputable abbrev aaD:=cl Tryz.f43
theorem l5 (N x r) (h:fh N x=some r):Sd 43 [(.agg (ae.cells x))] [] 0 (aS r) []:=by
 unfold fh at h
 refine im (fu:=Tryz.f43) (c:=aaD 1) (nt:=5) (fun hm=>rfl) ?_
 intro E hE
 refine ag hE 1 [] [] (kp [1]) (kq [0]) 32 pn ?_
 refine ag hE 1 [] [] (kp [2]) [] 80 (pc o1 pn) ?_
 obtain rfl:=cX h
 exact db hE 0 Tryz.f43 [] (kp [2]) [] 80 pn [] pn
noncomputable abbrev Tu:=cl Tryz.f86
def AW (N:Nat) (s:ByteArray) (K:Int→Option (Bool)):Prop:=∀ (x:Int) (r:Bool),K x=some r→∀ E,bk E 0→aG Tryz.prog E 86 57 (bc E [] (aB r)) [.code (Tu 116),.inLoop (Tu 116),.inBlock 0,.code (Tu 15)] ⟨[(0,(aS s)),(15,(aI ((s.size:Nat):Int))),(16,(aI x))],[],0⟩
theorem z7 (N s fuel):AW N s (gI N s fuel):=by
 induction fuel with
 | zero=>intro _ r h;rw [gI.eq_1] at h;cases h
 | succ fuel ih =>
  intro x r h E hE
  rw [gI.eq_2] at h
  refine ag hE 1 [] [] (kp [0,15,16,17]) [] 16 pn ?_
  refine du 1 17 h (fun jx h=>?_) (fun jx h=>?_)
  ·refine ag hE 4 [] [] (kp [0,3,15,16]) [] 48 pn ?_
   obtain ⟨c,h⟩:=af h
   refine ag hE 1 [] [] (kp [0,3,4,15,16]) [] 112 (pc c pn) ?_
   refine ag hE 1 [] [] (kp [0,3,4,5,15,16]) [] 352 (pc (fun hg:(decide ((zA s x)≥97))=true=>(pc hg pn)) (pc (fun hq:(decide ((zA s x)≥97))=true=>(pc hq pn)) (pc (fun hg:(!(cond (decide ((zA s x)≥97)) (decide ((zA s x)≤122)) false))=true=>(pc hg pn)) (pc (fun hg:((!(cond (decide ((zA s x)≥97)) (decide ((zA s x)≤122)) false)) && ((!(cond (decide ((zA s x)≥97)) (decide ((zA s x)≤122)) false)) && (decide ((zA s x)≥65))))=true=>(pc hg pn)) (pc (fun hg:(!(cond (decide ((zA s x)≥97)) (decide ((zA s x)≤122)) false))=true=>(pc hg (pc hg (pc (fun hq:(decide ((zA s x)≥65))=true=>(pc (show ((!(cond (decide ((zA s x)≥97)) (decide ((zA s x)≤122)) false)) && ((!(cond (decide ((zA s x)≥97)) (decide ((zA s x)≤122)) false)) && (decide ((zA s x)≥65))))=true from (jz hg (jz hg hq))) pn)) pn)))) (pc (fun hq:(!(cond (decide ((zA s x)≥97)) (decide ((zA s x)≤122)) false))=true=>(pc hq pn)) pn)))))) ?_
   refine ag hE 1 [] [] (kp [0,3,5,6,15,16]) [] 528 (pc (fun hg:(decide ((zA s x)≥48))=true=>(pc hg pn)) (pc (fun hq:(decide ((zA s x)≥48))=true=>(pc hq pn)) (pc (fun hg:(!(cond (decide ((zA s x)≥48)) (decide ((zA s x)≤57)) false))=true=>(pc hg pn)) (pc (fun hq:(!(cond (decide ((zA s x)≥48)) (decide ((zA s x)≤57)) false))=true=>(pc hq pn)) pn)))) ?_
   refine ag hE 1 [] [] (kp [0,15,16,55]) [] 688 (pc (fun hg:(!(cond (cond (decide ((zA s x)≥97)) (decide ((zA s x)≤122)) false) true (cond (decide ((zA s x)≥65)) (decide ((zA s x)≤90)) false)))=true=>(pc hg pn)) (pc (fun hg:((!(cond (cond (decide ((zA s x)≥97)) (decide ((zA s x)≤122)) false) true (cond (decide ((zA s x)≥65)) (decide ((zA s x)≤90)) false))) && ((!(cond (cond (decide ((zA s x)≥97)) (decide ((zA s x)≤122)) false) true (cond (decide ((zA s x)≥65)) (decide ((zA s x)≤90)) false))) && (!(x == 0))))=true=>(pc hg pn)) (pc (fun hg:(!(cond (cond (decide ((zA s x)≥97)) (decide ((zA s x)≤122)) false) true (cond (decide ((zA s x)≥65)) (decide ((zA s x)≤90)) false)))=true=>(pc hg (pc hg (pc (fun hq:(!(x == 0))=true=>(pc (show ((!(cond (cond (decide ((zA s x)≥97)) (decide ((zA s x)≤122)) false) true (cond (decide ((zA s x)≥65)) (decide ((zA s x)≤90)) false))) && ((!(cond (cond (decide ((zA s x)≥97)) (decide ((zA s x)≤122)) false) true (cond (decide ((zA s x)≥65)) (decide ((zA s x)≤90)) false))) && (!(x == 0))))=true from (jz hg (jz hg hq))) pn)) pn)))) (pc (fun hq:(!(cond (cond (decide ((zA s x)≥97)) (decide ((zA s x)≤122)) false) true (cond (decide ((zA s x)≥65)) (decide ((zA s x)≤90)) false)))=true=>(pc hq pn)) pn)))) ?_
   refine du 0 55 h (fun rV h=>?_) (fun rV h=>?_)
   ·refine ag hE 1 [] [] (kp [2]) [] 704 pn ?_
    obtain rfl:=cX h
    exact db hE 0 Tryz.f86 [] (kp [2]) [] 704 pn [] pn
   ·refine ag hE 2 [] [] (kp [0,15,16]) [] 720 pn ?_
    exact cP hE 1 [] (kp [0,15,16]) [] 0 pn (ih _ _ h E hE)
  ·refine ag hE 2 [] [] (kp [2]) [] 32 pn ?_
   obtain rfl:=cX h
   exact db hE 0 Tryz.f86 [] (kp [2]) [] 48 pn [] pn
theorem Dd (N s r) (h:oE N s=some r):Sd 86 [(aS s)] [] 0 (aB r) []:=by
 unfold oE at h
 refine im (fu:=Tryz.f86) (c:=Tu 1) (nt:=57) (fun hm=>rfl) ?_
 intro E hE
 refine ag hE 1 [] [] (kp [0]) [] 16 pn ?_
 refine ag hE 2 [] [] (kp [0,13]) [] 128 (pc (fun hg:(!(lU s ByteArray.empty))=true=>(pc hg pn)) (pc (fun hg:(!(lU s ByteArray.empty))=true=>(pc hg pn)) (pc (fun hq:(!(lU s ByteArray.empty))=true=>(pc hq pn)) pn))) ?_
 refine du 0 13 h (fun ee h=>?_) (fun ee h=>?_)
 ·refine ag hE 1 [] [] (kp [2]) [] 144 pn ?_
  obtain rfl:=cX h
  exact db hE 0 Tryz.f86 [] (kp [2]) [] 144 pn [] pn
 ·refine ag hE 3 [] [] (kp [0,15,16]) [] 176 pn ?_
  exact cP hE 2 [] (kp [0,15,16]) [] 0 pn (z7 N _ N _ _ h E hE)
noncomputable abbrev aaE:=cl Tryz.f88
theorem wg (N y C1 r) (h:lu N y C1=some r):Sd 88 [(.agg (ae.cells y)),(.op 0 0 0),(.op 1 0 0)] [(0,vO 1 [(.fn (.func 43) [] [])]),(1,vO 6 (ae.cells C1))] 2 (aB r) [(0,vO 1 [(.fn (.func 43) [] [])]),(1,vO 6 (ae.cells C1))]:=by
 unfold lu at h
 refine im (fu:=Tryz.f88) (c:=aaE 1) (nt:=12) (fun hm=>absurd hm (by decide)) ?_
 intro E hE
 refine ag hE 1 [] [] (kp [1,2,3]) (kq [0,1,2]) 34 pn ?_
 obtain ⟨mg,hr,h⟩:=aQ h
 obtain ⟨uX,eX,h⟩:=aQ h
 refine ag hE 1 [(2,oT (aS mg)),(5,oT (aS uX))] [] (kp [4]) (kq [0,1]) 162 (pc o1 (pc o1 (pc (l5 _ _ _ hr) (pc o1 (pc o1 (pc (l5 _ _ _ eX) pn)))))) ?_
 obtain rfl:=cX h
 exact db hE 0 Tryz.f88 [] (kp [4]) (kq [0,1]) 162 pn [] pn
noncomputable abbrev Tv:=cl Tryz.f113
def mS (N:Nat) (s:List ae) (C1:ae) (K:Int→Option (Int)):Prop:=∀ (x:Int) (r:Int),K x=some r→∀ E,bk E 2→aG Tryz.prog E 113 19 (bc E [(0,vO 1 [(.fn (.func 43) [] [])]),(1,vO 6 (ae.cells C1))] (aI r)) [.code (Tv 52),.inLoop (Tv 52),.inBlock 0,.code (Tv 7)] ⟨[(0,(aH ae.cells ae.d s)),(1,(.fn (.func 88) [] [(.op 0 0 0),(.op 1 0 0)])),(7,(aI ((s.length:Nat):Int))),(8,(aI x))],[(0,vO 1 [(.fn (.func 43) [] [])]),(1,vO 6 (ae.cells C1))],2⟩
theorem mw (N s C1 fuel):mS N s C1 (bm N s C1 fuel):=by
 induction fuel with
 | zero=>intro _ r h;rw [bm.eq_1] at h;cases h
 | succ fuel ih =>
  intro x r h E hE
  rw [bm.eq_2] at h
  refine ag hE 1 [] [] (kp [0,1,7,8,9]) (kq [0,1]) 18 pn ?_
  refine du 1 9 h (fun ee h=>?_) (fun ee h=>?_)
  ·refine ag hE 4 [] [] (kp [0,1,5,7,8]) (kq [0,1]) 50 pn ?_
   obtain ⟨c,h⟩:=af h
   obtain ⟨MA,hr,h⟩:=aQ h
   refine ag hE 1 [(5,⟨[0,1],true,(aB MA),[],0,false,none⟩)] [] (kp [0,1,5,7,8,16]) (kq [0,1]) 146 (pc c (pc (wg _ _ _ _ hr) pn)) ?_
   refine du 0 16 h (fun jx h=>?_) (fun jx h=>?_)
   ·refine ag hE 1 [] [] (kp [4]) (kq [0,1]) 178 pn ?_
    obtain rfl:=cX h
    exact db hE 0 Tryz.f113 [] (kp [4]) (kq [0,1]) 178 pn [] pn
   ·refine ag hE 2 [] [] (kp [0,1,7,8]) (kq [0,1]) 178 pn ?_
    exact cP hE 1 [] (kp [0,1,7,8]) (kq [0,1]) 2 pn (ih _ _ h E hE)
  ·refine ag hE 2 [] [] (kp [4]) (kq [0,1]) 34 pn ?_
   obtain rfl:=cX h
   exact db hE 0 Tryz.f113 [] (kp [4]) (kq [0,1]) 50 pn [] pn
theorem nv (N s C1 r) (h:cT N s C1=some r):Sd 113 [(aH ae.cells ae.d s),(.fn (.func 88) [] [(.op 0 0 0),(.op 1 0 0)])] [(0,vO 1 [(.fn (.func 43) [] [])]),(1,vO 6 (ae.cells C1))] 2 (aI r) [(0,vO 1 [(.fn (.func 43) [] [])]),(1,vO 6 (ae.cells C1))]:=by
 unfold cT at h
 refine im (fu:=Tryz.f113) (c:=Tv 1) (nt:=19) (fun hm=>absurd hm (by decide)) ?_
 intro E hE
 refine ag hE 1 [] [] (kp [0,1]) (kq [0,1]) 18 pn ?_
 refine ag hE 2 [] [] (kp [0,1,7,8]) (kq [0,1]) 66 pn ?_
 exact cP hE 2 [] (kp [0,1,7,8]) (kq [0,1]) 2 pn (mw N _ _ N _ _ h E hE)
noncomputable abbrev aaF:=cl Tryz.f87
theorem mz (N s C1 r) (h:cC N s C1=some r):Sd 87 [(aH ae.cells ae.d s),(.fn (.func 88) [] [(.op 0 0 0),(.op 1 0 0)])] [(0,vO 1 [(.fn (.func 43) [] [])]),(1,vO 6 (ae.cells C1))] 2 (aB r) [(0,vO 1 [(.fn (.func 43) [] [])]),(1,vO 6 (ae.cells C1))]:=by
 unfold cC at h
 refine im (fu:=Tryz.f87) (c:=aaF 1) (nt:=9) (fun hm=>absurd hm (by decide)) ?_
 intro E hE
 refine ag hE 1 [] [] (kp [0,1]) (kq [0,1]) 18 pn ?_
 obtain ⟨xA,hr,h⟩:=aQ h
 refine ag hE 1 [(2,⟨[0,1],true,(aI xA),[],0,false,none⟩)] [] (kp [4]) (kq [0,1]) 98 (pc (nv _ _ _ _ hr) pn) ?_
 obtain rfl:=cX h
 exact db hE 0 Tryz.f87 [] (kp [4]) (kq [0,1]) 98 pn [] pn
noncomputable abbrev aaG:=cl Tryz.f46
theorem fk (N n lo hi r) (h:ef N n lo hi=some r):Sd 46 [(aI n),(aI lo),(aI hi)] [] 0 (aB r) []:=by
 unfold ef at h
 refine im (fu:=Tryz.f46) (c:=aaG 1) (nt:=15) (fun hm=>rfl) ?_
 intro E hE
 refine ag hE 1 [] [] (kp [0,1,2]) [] 16 pn ?_
 refine ag hE 1 [] [] (kp [6]) [] 160 (pc (fun hg:(!(decide (n < lo)))=true=>(pc hg (pc hg pn))) (pc (fun hq:(!(decide (n < lo)))=true=>(pc hq pn)) pn)) ?_
 obtain rfl:=cX h
 exact db hE 0 Tryz.f46 [] (kp [6]) [] 160 pn [] pn
noncomputable abbrev aaH:=cl Tryz.f44
theorem yU (N x r) (h:lv N x=some r):Sd 44 [(.agg (ae.cells x))] [] 0 (aI r) []:=by
 unfold lv at h
 refine im (fu:=Tryz.f44) (c:=aaH 1) (nt:=38) (fun hm=>rfl) ?_
 intro E hE
 refine ag hE 1 [] [] (kp [1]) (kq [0]) 32 pn ?_
 obtain ⟨dm,hr,h⟩:=aQ h
 obtain ⟨ej,eX,h⟩:=aQ h
 obtain ⟨ja,kE,h⟩:=aQ h
 obtain ⟨qJ,nu,h⟩:=aQ h
 obtain ⟨CR,rX,h⟩:=aQ h
 refine ag hE 2 [(2,oT (aB dm)),(6,oT (aB ej)),(11,oT (aB ja)),(16,oT (aB qJ)),(21,oT (aB CR))] [] (kp [1,25]) (kq [0]) 400 (pc o1 (pc (fk _ _ _ _ _ hr) (pc (fun hg:(!dm)=true=>(pc hg (pc o1 pn))) (pc (fun hg:(!dm)=true=>(pc (fk _ _ _ _ _ (aR eX hg)) (pc hg pn))) (pc (fun hq:(!dm)=true=>(pc hq pn)) (pc (fun hg:(!(cond dm true ej))=true=>(pc hg (pc o1 pn))) (pc (fun hg:(!(cond dm true ej))=true=>(pc (fk _ _ _ _ _ (aR kE hg)) (pc hg pn))) (pc (fun hq:(!(cond dm true ej))=true=>(pc hq pn)) (pc (fun hg:(!(cond (cond dm true ej) true ja))=true=>(pc hg (pc o1 pn))) (pc (fun hg:(!(cond (cond dm true ej) true ja))=true=>(pc (fk _ _ _ _ _ (aR nu hg)) (pc hg pn))) (pc (fun hq:(!(cond (cond dm true ej) true ja))=true=>(pc hq pn)) (pc (fun hg:(!(cond (cond (cond dm true ej) true ja) true qJ))=true=>(pc hg (pc o1 pn))) (pc (fun hg:(!(cond (cond (cond dm true ej) true ja) true qJ))=true=>(pc (fk _ _ _ _ _ (aR rX hg)) (pc hg pn))) (pc (fun hq:(!(cond (cond (cond dm true ej) true ja) true qJ))=true=>(pc hq pn)) pn)))))))))))))) ?_
 refine du 0 25 h (fun ee h=>?_) (fun ee h=>?_)
 ·refine ag hE 1 [] [] (kp [2]) [] 416 pn ?_
  obtain rfl:=cX h
  exact db hE 0 Tryz.f44 [] (kp [2]) [] 416 pn [] pn
 ·refine ag hE 3 [] [] (kp [37]) [] 592 (pc o1 (pc o1 (pc (fun hg:(x.iz == x.bV)=true=>(pc hg (pc o1 pn))) (pc (fun hg:(x.iz == x.bV)=true=>(pc hg (pc o1 pn))) (pc (fun hg:(x.iz == x.bV)=true=>(pc hg (pc hg pn))) (pc (fun hq:(x.iz == x.bV)=true=>(pc hq pn)) pn)))))) ?_
  refine du 0 37 h (fun jx h=>?_) (fun jx h=>?_)
  ·refine ag hE 1 [] [] (kp [2]) [] 608 pn ?_
   obtain rfl:=cX h
   exact db hE 0 Tryz.f44 [] (kp [2]) [] 608 pn [] pn
  ·refine ag hE 2 [] [] (kp [2]) [] 608 pn ?_
   obtain rfl:=cX h
   exact db hE 0 Tryz.f44 [] (kp [2]) [] 608 pn [] pn
noncomputable abbrev Tw:=cl Tryz.f42
def wh (N:Nat) (l:List ae) (K:Int→Option (Int)):Prop:=∀ (x:Int) (r:Int),K x=some r→∀ E,bk E 0→aG Tryz.prog E 42 40 (bc E [] (aI r)) [.code (Tw 116),.inLoop (Tw 116),.inBlock 0,.code (Tw 15)] ⟨[(0,(aH ae.cells ae.d l)),(3,(.fn (.func 44) [] [])),(6,(.op 0 0 0)),(16,(aH ae.cells ae.d l)),(17,(aI ((l.length:Nat):Int))),(18,(aI x))],[(0,vO 1 [(.fn (.func 43) [] [])])],1⟩
theorem vj (N l fuel):wh N l (dq N l fuel):=by
 induction fuel with
 | zero=>intro _ r h;rw [dq.eq_1] at h;cases h
 | succ fuel ih =>
  intro x r h E hE
  rw [dq.eq_2] at h
  refine ag hE 1 [] [] (kp [0,3,6,16,17,18,19]) (kq [0]) 17 pn ?_
  refine du 1 19 h (fun jx h=>?_) (fun jx h=>?_)
  ·obtain ⟨c,h⟩:=af h
   refine ag hE 4 [] [] (kp [0,3,6,9,10,16,17,18]) (kq [0,65]) 113 (pc c (pc o1 pn)) ?_
   obtain ⟨mg,hr,h⟩:=aQ h
   obtain ⟨MB,eX,h⟩:=aQ h
   refine ag hE 2 [(2,oT (aS mg)),(3,oT (aB MB))] [] (kp [0,3,6,9,10,16,17,18,27]) (kq [0,65]) 193 (pc o1 (pc o1 (pc (l5 _ _ _ hr) (pc (Dd _ _ _ eX) pn)))) ?_
   refine du 0 27 h (fun rV h=>?_) (fun rV h=>?_)
   ·refine ag hE 1 [] [] (kp [8]) [] 209 pn ?_
    obtain rfl:=cX h
    exact db hE 0 Tryz.f42 [] (kp [8]) [] 209 pn [] pn
   ·obtain ⟨c2,h⟩:=af h
    obtain ⟨c3,h⟩:=af h
    obtain ⟨xA,kE,h⟩:=aQ h
    refine ag hE 3 [(4,⟨[0,65],true,(aB xA),[],0,false,none⟩)] [] (kp [0,3,6,10,16,17,18,32]) (kq [0,65]) 273 (pc c2 (pc c3 (pc (show Sd 87 [(.sl ((x).toNat - 0) (fun zi=>ae.cells (l.getD (bC 0 zi) ae.d))),(.fn (.func 88) [] [(.op 0 0 0),(.op 1 0 0)])] [(0,vO 1 [(.fn (.func 43) [] [])]),(1,vO 6 (ae.cells (l.getD ((x).toNat) ae.d)))] 2 (aB xA) [(0,vO 1 [(.fn (.func 43) [] [])]),(1,vO 6 (ae.cells (l.getD ((x).toNat) ae.d)))] from (Sound.conv (mz _ _ _ _ kE) (.cons (Alike.sl (yA l 0 ((x).toNat) c2) (fun zq eY=>EV ae.cells ae.d l 0 ((x).toNat) zq eY)) (.cons (Alike.refl _) .nil)))) pn))) ?_
    refine du 0 32 h (fun BS h=>?_) (fun BS h=>?_)
    ·refine ag hE 1 [] [] (kp [8]) [] 289 pn ?_
     obtain rfl:=cX h
     exact db hE 0 Tryz.f42 [] (kp [8]) [] 289 pn [] pn
    ·obtain ⟨mh,nu,h⟩:=aQ h
     refine ag hE 2 [(2,oT (aI mh))] [] (kp [0,3,6,11,16,17,18]) (kq [0]) 337 (pc o1 (pc (yU _ _ _ nu) pn)) ?_
     refine ag hE 1 [] [] (kp [0,3,6,11,16,17,18,37]) (kq [0]) 369 pn ?_
     refine du 0 37 h (fun Jv h=>?_) (fun Jv h=>?_)
     ·refine ag hE 1 [] [] (kp [8]) [] 401 pn ?_
      obtain rfl:=cX h
      exact db hE 0 Tryz.f42 [] (kp [8]) [] 401 pn [] pn
     ·refine ag hE 2 [] [] (kp [0,3,6,16,17,18]) (kq [0]) 401 pn ?_
      exact cP hE 1 [] (kp [0,3,6,16,17,18]) (kq [0]) 1 pn (ih _ _ h E hE)
  ·refine ag hE 2 [] [] (kp [8]) [] 33 pn ?_
   obtain rfl:=cX h
   exact db hE 0 Tryz.f42 [] (kp [8]) [] 48 pn [] pn
theorem xZ (N l dr r) (h:mi N l dr=some r):Sd 42 [(aH ae.cells ae.d l),(aI dr),(.fn (.func 43) [] []),(.fn (.func 44) [] [])] [] 0 (aI r) []:=by
 unfold mi at h
 refine im (fu:=Tryz.f42) (c:=Tw 1) (nt:=40) (fun hm=>rfl) ?_
 intro E hE
 refine ag hE 1 [] [] (kp [0,1,3,6]) (kq [0]) 32 pn ?_
 refine ag hE 2 [] [] (kp [0,3,6,15]) (kq [0]) 96 pn ?_
 refine du 0 15 h (fun ee h=>?_) (fun ee h=>?_)
 ·refine ag hE 1 [] [] (kp [8]) [] 112 pn ?_
  obtain rfl:=cX h
  exact db hE 0 Tryz.f42 [] (kp [8]) [] 112 pn [] pn
 ·refine ag hE 3 [] [] (kp [0,3,6,16,17,18]) (kq [0]) 144 pn ?_
  exact cP hE 2 [] (kp [0,3,6,16,17,18]) (kq [0]) 1 pn (vj N _ N _ _ h E hE)
noncomputable abbrev aaI:=cl Tryz.f20
theorem qz (N l r) (h:gB N l=some r):Sd 20 [(aH ae.cells ae.d l)] [] 0 (aI r) []:=by
 unfold gB at h
 refine im (fu:=Tryz.f20) (c:=aaI 1) (nt:=5) (fun hm=>rfl) ?_
 intro E hE
 refine ag hE 1 [] [] (kp [0]) [] 16 pn ?_
 obtain ⟨xA,hr,h⟩:=aQ h
 refine ag hE 1 [(1,oT (aI xA))] [] (kp [2]) [] 64 (pc (xZ _ _ _ _ hr) pn) ?_
 obtain rfl:=cX h
 exact db hE 0 Tryz.f20 [] (kp [2]) [] 64 pn [] pn
noncomputable abbrev MK:=cl Tryz.f41
def uC (N:Nat) (l:ae) (K:Int→Int→Option (Int)):Prop:=∀ (root:Int) (x:Int) (r:Int),K root x=some r→∀ E,bk E 0→aG Tryz.prog E 41 43 (bc E [] (aI r)) [.code (MK 500),.inLoop (MK 500),.inBlock 0,.code (MK 63)] ⟨[(5,(aI (ai ((ai ((ai (l.bV - l.iz)) * (ai (l.bV - l.iz))))+(ai ((ai (l.ct - l.jo)) * (ai (l.ct - l.jo)))))))),(6,(aI root)),(26,(aI x))],[],0⟩
def BX (N:Nat) (l:ae) (x:Int) (K:Int→Option (Int)):Prop:=∀ (KO:Int) (r:Int),K KO=some r→∀ E,bk E 0→aG Tryz.prog E 41 43 (bc E [] (aI r)) [.code (MK 4007),.inLoop (MK 500),.inBlock 0,.code (MK 63)] ⟨[(5,(aI (ai ((ai ((ai (l.bV - l.iz)) * (ai (l.bV - l.iz))))+(ai ((ai (l.ct - l.jo)) * (ai (l.ct - l.jo)))))))),(6,(aI KO)),(26,(aI x))],[],0⟩
theorem tS (N:Nat) (l:ae) (x:Int) (np:Int→Int→Option (Int)) (AX:uC N l np):BX N l x (mO N l x np):=by
 intro KO r h E hE
 unfold mO at h
 refine ag hE 0 [] [] (kp [5,6,26]) [] 32 pn ?_
 exact cP hE 1 [] (kp [5,6,26]) [] 0 pn (AX _ _ _ h E hE)
theorem AY (N l fuel):uC N l (gq N l fuel):=by
 induction fuel with
 | zero=>intro _ _ r h;rw [gq.eq_1] at h;cases h
 | succ fuel ih =>
  intro root x r h E hE
  rw [gq.eq_2] at h
  refine ag hE 1 [] [] (kp [5,6,26,27]) [] 16 pn ?_
  refine du 1 27 h (fun ee h=>?_) (fun ee h=>?_)
  ·refine ag hE 4 [] [] (kp [5,6,7,26]) [] 48 pn ?_
   obtain ⟨c,h⟩:=af h
   refine ag hE 1 [] [] (kp [5,6,8,26]) [] 144 (pc c pn) ?_
   refine ag hE 1 [] [] (kp [5,6,8,26,38]) [] 224 pn ?_
   refine du 0 38 h (fun jx h=>?_) (fun jx h=>?_)
   ·refine ag hE 0 [] [] (kp [5,6,26]) [] 256 pn ?_
    exact cP hE 1 [] (kp [5,6,26]) [] 0 pn (tS N _ _ _ ih _ _ h E hE)
   ·exact cP hE 2 [] (kp [5,6,26]) [] 0 pn (tS N _ _ _ ih _ _ h E hE)
  ·refine ag hE 2 [] [] (kp [2]) [] 64 pn ?_
   obtain rfl:=cX h
   exact db hE 0 Tryz.f41 [] (kp [2]) [] 64 pn [] pn
theorem Eo (N l r) (h:qg N l=some r):Sd 41 [(.agg (ae.cells l))] [] 0 (aI r) []:=by
 unfold qg at h
 refine im (fu:=Tryz.f41) (c:=MK 1) (nt:=43) (fun hm=>rfl) ?_
 intro E hE
 refine ag hE 1 [] [] (kp [1]) (kq [0]) 32 pn ?_
 refine ag hE 1 [] [] (kp [3,4]) [] 224 (pc o1 (pc o1 (pc o1 (pc o1 pn)))) ?_
 refine ag hE 1 [] [] (kp [5]) [] 352 pn ?_
 refine ag hE 1 [] [] (kp [5,6]) [] 368 pn ?_
 refine ag hE 2 [] [] (kp [5,6,26]) [] 384 pn ?_
 exact cP hE 2 [] (kp [5,6,26]) [] 0 pn (AY N _ N _ _ _ h E hE)
noncomputable abbrev aaJ:=cl Tryz.f45
theorem BZ (N NC r) (h:qh N NC=some r):Sd 45 [(aB NC)] [] 0 (aI r) []:=by
 unfold qh at h
 refine im (fu:=Tryz.f45) (c:=aaJ 1) (nt:=4) (fun hm=>rfl) ?_
 intro E hE
 refine ag hE 1 [] [] (kp [0]) [] 16 pn ?_
 refine ag hE 2 [] [] (kp [3]) [] 32 pn ?_
 refine du 0 3 h (fun ee h=>?_) (fun ee h=>?_)
 ·refine ag hE 1 [] [] (kp [2]) [] 48 pn ?_
  obtain rfl:=cX h
  exact db hE 0 Tryz.f45 [] (kp [2]) [] 48 pn [] pn
 ·refine ag hE 2 [] [] (kp [2]) [] 48 pn ?_
  obtain rfl:=cX h
  exact db hE 0 Tryz.f45 [] (kp [2]) [] 48 pn [] pn
noncomputable abbrev aaK:=cl Tryz.f21
theorem rB (N w r) (h:ik N w=some r):Sd 21 [(.agg (dE.cells w))] [] 0 (aI r) []:=by
 unfold ik at h
 refine im (fu:=Tryz.f21) (c:=aaK 1) (nt:=17) (fun hm=>rfl) ?_
 intro E hE
 refine ag hE 1 [] [] (kp [1]) (kq [0]) 32 pn ?_
 obtain ⟨dm,hr,h⟩:=aQ h
 obtain ⟨ej,eX,h⟩:=aQ h
 obtain ⟨ja,kE,h⟩:=aQ h
 obtain ⟨Jn,nu,h⟩:=aQ h
 refine ag hE 1 [(2,oT (aB dm)),(6,oT (aB ej)),(11,oT (aB ja)),(13,oT (aI Jn))] [] (kp [2]) [] 272 (pc o1 (pc (fk _ _ _ _ _ hr) (pc (fun hg:(!dm)=true=>(pc hg (pc o1 pn))) (pc (fun hg:(!dm)=true=>(pc (fk _ _ _ _ _ (aR eX hg)) (pc hg pn))) (pc (fun hq:(!dm)=true=>(pc hq pn)) (pc (fun hg:(!(cond dm true ej))=true=>(pc hg (pc o1 pn))) (pc (fun hg:(!(cond dm true ej))=true=>(pc (fk _ _ _ _ _ (aR kE hg)) (pc hg pn))) (pc (fun hq:(!(cond dm true ej))=true=>(pc hq pn)) (pc (BZ _ _ _ nu) pn))))))))) ?_
 obtain rfl:=cX h
 exact db hE 0 Tryz.f21 [] (kp [2]) [] 272 pn [] pn
noncomputable abbrev aaL:=cl Tryz.f48
theorem dC (N n r) (h:dR N n=some r):Sd 48 [(aI n)] [] 0 (.agg (aj r)) []:=by
 unfold dR at h
 refine im (fu:=Tryz.f48) (c:=aaL 1) (nt:=6) (fun hm=>rfl) ?_
 intro E hE
 refine ag hE 1 [] [] (kp [0,2]) (kq [0]) 16 pn ?_
 obtain ⟨Hc,hr,h⟩:=aQ h
 obtain ⟨AJ,eX,h⟩:=aQ h
 refine ag hE 1 [(1,oT (.agg (lN Hc))),(2,oT (.agg (aj AJ)))] [] (kp [2]) (kq [0]) 80 (pc (zJ _ _ _ hr) (pc (BU _ _ _ eX) (pc o1 pn))) ?_
 obtain rfl:=cX h
 exact db hE 0 Tryz.f48 [] (kp [2]) [(16,.ah 0)] 80 pn [16] (pc o1 pn)
noncomputable abbrev aaM:=cl Tryz.f47
theorem qN (N w r) (h:mZ N w=some r):Sd 47 [(.agg (dE.cells w))] [] 0 (.agg (aw.cells r)) []:=by
 unfold mZ at h
 refine im (fu:=Tryz.f47) (c:=aaM 1) (nt:=13) (fun hm=>rfl) ?_
 intro E hE
 refine ag hE 1 [] [] (kp [1,2]) (kq [0,16]) 32 pn ?_
 obtain ⟨eW,hr,h⟩:=aQ h
 obtain ⟨dL,eX,h⟩:=aQ h
 obtain ⟨dM,kE,h⟩:=aQ h
 refine ag hE 1 [(2,oT (.agg (aj eW))),(5,oT (.agg (aj dL))),(8,oT (.agg (aj dM)))] [] (kp [2]) (kq [16]) 208 (pc o1 (pc (dC _ _ _ hr) (pc o1 (pc (dC _ _ _ eX) (pc o1 (pc (dC _ _ _ kE) (pc o1 pn))))))) ?_
 obtain rfl:=cX h
 exact db hE 0 Tryz.f47 [] (kp [2]) (kq [16]) 208 pn [16] (pc o1 pn)
noncomputable abbrev aaN:=cl Tryz.f91
theorem JA (N a b r) (h:zF N a b=some r):Sd 91 [(aI a),(aI b)] [] 0 (.tup [(.agg (aj r.1)),(aI r.2)]) []:=by
 unfold zF at h
 refine im (fu:=Tryz.f91) (c:=aaN 1) (nt:=14) (fun hm=>rfl) ?_
 intro E hE
 refine ag hE 1 [] [] (kp [0,1,4]) (kq [0]) 32 pn ?_
 refine ag hE 2 [] [] (kp [0,1,4,7]) (kq [0]) 64 pn ?_
 refine du 0 7 h (fun ee h=>?_) (fun ee h=>?_)
 ·refine ag hE 1 [] [] (kp [4,5]) (kq [0]) 112 (pc o1 pn) ?_
  obtain rfl:=cX h
  exact db hE 0 Tryz.f91 [] (kp [4,5]) [(16,.var 0 [.ah,.sl (([]:List Int).length) (fun zi=>(cU .u16) (([]:List Int).getD zi 0)),.ah,.sl (([]:List Int).length) (fun zi=>(cU .u16) (([]:List Int).getD zi 0))])] 112 (pc (Eq.refl 0) (pc (Eq.refl 0) pn)) [16] (pc o1 pn)
 ·obtain ⟨Hc,hr,h⟩:=aQ h
  obtain ⟨MC,eX,h⟩:=aQ h
  obtain ⟨Cr,kE,h⟩:=aQ h
  refine ag hE 2 [(1,oT (.agg (lN Hc))),(3,oT (.agg (lN MC))),(4,oT (.agg (aj Cr)))] [] (kp [4,5]) (kq [0]) 176 (pc (zJ _ _ _ hr) (pc (zJ _ _ _ eX) (pc (jM _ _ _ _ kE) (pc o1 pn)))) ?_
  obtain rfl:=cX h
  exact db hE 0 Tryz.f91 [] (kp [4,5]) [(16,.ah 0)] 176 pn [16] (pc o1 pn)
noncomputable abbrev aaO:=cl Tryz.f50
theorem mT (N l r) (h:lx N l=some r):Sd 50 [(.agg (ae.cells l))] [] 0 (.agg (aw.cells r)) []:=by
 unfold lx at h
 refine im (fu:=Tryz.f50) (c:=aaO 1) (nt:=47) (fun hm=>rfl) ?_
 intro E hE
 refine ag hE 1 [] [] (kp [1,2]) (kq [0,16]) 32 pn ?_
 obtain ⟨QS,hr,h⟩:=aQ h
 obtain ⟨F6,eX,h⟩:=aQ h
 refine ag hE 1 [(3,oT (aI QS)),(4,oT (.tup [(.agg (aj F6.1)),(aI F6.2)]))] [] (kp [1,2,3]) (kq [0,16,160]) 208 (pc o1 (pc o1 (pc (Eo _ _ _ hr) (pc (JA _ _ _ _ eX) (pc o1 pn))))) ?_
 obtain ⟨eW,kE,h⟩:=aQ h
 obtain ⟨cE,nu,h⟩:=aQ h
 obtain ⟨dL,rX,h⟩:=aQ h
 obtain ⟨dG,xU,h⟩:=aQ h
 refine ag hE 1 [(6,oT (.agg (aj eW))),(7,oT (.agg (aj cE))),(14,oT (.agg (aj dL))),(15,oT (.agg (aj dG)))] [] (kp [1,2,5,6]) (kq [0,16,464,480]) 528 (pc o1 (pc o1 (pc o1 (pc (dC _ _ _ kE) (pc (dd _ _ _ _ nu) (pc o1 (pc o1 (pc o1 (pc (dC _ _ _ rX) (pc (dd _ _ _ _ xU) (pc o1 (pc o1 pn)))))))))))) ?_
 obtain ⟨dM,yL,h⟩:=aQ h
 obtain ⟨ij,Eb,h⟩:=aQ h
 obtain ⟨Jo,Ea,h⟩:=aQ h
 obtain ⟨tE,xc,h⟩:=aQ h
 obtain ⟨av,yQ,h⟩:=aQ h
 refine ag hE 1 [(2,oT (.agg (aj dM))),(4,oT (.agg (aj ij))),(7,oT (.agg (aj Jo))),(9,oT (.agg (aj tE))),(10,oT (.agg (aj av)))] [] (kp [2,5,6,7]) (kq [16,464,480,704]) 736 (pc o1 (pc (dC _ _ _ yL) (pc o1 (pc (dd _ _ _ _ Eb) (pc o1 (pc (dC _ _ _ Ea) (pc o1 (pc (dd _ _ _ _ xc) (pc (ft _ _ _ _ yQ) (pc o1 pn)))))))))) ?_
 refine ag hE 1 [] [] (kp [2]) (kq [16]) 816 (pc o1 (pc o1 (pc o1 (pc o1 pn)))) ?_
 obtain rfl:=cX h
 exact db hE 0 Tryz.f50 [] (kp [2]) (kq [16]) 816 pn [16] (pc o1 pn)
noncomputable abbrev fw:=cl Tryz.f22
def B0 (N:Nat) (l:List ae) (aq:aw) (K:(List ab)→Int→Option (bQ)):Prop:=∀ (rows:List ab) (x:Int) (r:bQ),K rows x=some r→∀ E,bk E 0→aG Tryz.prog E 22 137 (bc E [] (.agg (bQ.cells r))) [.code (fw 500),.inLoop (fw 500),.inBlock 0,.code (fw 63)] ⟨[(0,(aH ae.cells ae.d l)),(4,(.op 0 0 0)),(5,(aI ((l.length:Nat):Int))),(6,(.op 1 0 0)),(7,(.os 2 0 rows.length)),(26,(aI ((l.length:Nat):Int))),(27,(aI x))],[(0,vO 3 [(aB false),.nil,.nil]),(1,vO 12 (aw.cells aq)),(2,aO 5 om ab.d rows)],3⟩
def B1 (N:Nat) (l:List ae) (aq:aw) (rows:List ab) (av:aa) (K:(List aa)→(List aa)→Int→Option (bQ)):Prop:=∀ (dr:List aa) (least:List aa) (x2:Int) (r:bQ),K dr least x2=some r→∀ E,bk E 0→aG Tryz.prog E 22 137 (bc E [] (.agg (bQ.cells r))) [.code (fw 1037108),.inLoop (fw 1037108),.inBlock 4,.code (fw 129639),.inBlock 3,.code (fw 8103),.inLoop (fw 1012),.inBlock 2,.code (fw 127)] ⟨[(0,(aH ae.cells ae.d l)),(4,(.op 0 0 0)),(5,(aI ((l.length:Nat):Int))),(6,(.op 1 0 0)),(7,(.os 2 0 rows.length)),(11,(aI 0)),(12,(.op 3 0 0)),(13,(.op 5 0 0)),(53,(aI 0)),(66,(aH ae.cells ae.d l)),(67,(aI ((l.length:Nat):Int))),(68,(aI x2))],[(0,vO 3 [(aB false),.nil,.nil]),(1,vO 12 (aw.cells aq)),(2,aO 5 om ab.d rows),(3,vN 5 [(.os 4 0 dr.length),(aB av.fN.fG),(eU av.fN.fL),(aB av.fD.fG),(eU av.fD.fL)]),(4,aO 4 aj aa.d dr),(5,vN 5 [(.os 6 0 least.length),(aB aq.e0.fN.fG),(eU aq.e0.fN.fL),(aB aq.e0.fD.fG),(eU aq.e0.fD.fL)]),(6,aO 4 aj aa.d least)],7⟩
def B2 (N:Nat) (l:List ae) (aq:aw) (rows:List ab) (av:aa) (dr:List aa) (least:List aa) (bd:aa) (K:(List aa)→(List aa)→Int→Option (bQ)):Prop:=∀ (dc:List aa) (bH:List aa) (x3:Int) (r:bQ),K dc bH x3=some r→∀ E,bk E 0→aG Tryz.prog E 22 137 (bc E [] (.agg (bQ.cells r))) [.code (fw 1037108),.inLoop (fw 1037108),.inBlock 4,.code (fw 129639),.inBlock 3,.code (fw 8103),.inLoop (fw 1012),.inBlock 2,.code (fw 127)] ⟨[(0,(aH ae.cells ae.d l)),(4,(.op 0 0 0)),(5,(aI ((l.length:Nat):Int))),(6,(.op 1 0 0)),(7,(.os 2 0 ((rows ++ ([(⟨dr,av⟩:ab),(⟨least,aq.e0⟩:ab)]:List ab)).length))),(11,(aI 1)),(12,(.op 3 0 0)),(13,(.op 5 0 0)),(53,(aI 1)),(66,(aH ae.cells ae.d l)),(67,(aI ((l.length:Nat):Int))),(68,(aI x3))],[(0,vO 3 [(aB false),.nil,.nil]),(1,vO 12 (aw.cells aq)),(2,aO 5 om ab.d (rows ++ ([(⟨dr,av⟩:ab),(⟨least,aq.e0⟩:ab)]:List ab))),(3,vN 5 [(.os 4 0 dc.length),(aB bd.fN.fG),(eU bd.fN.fL),(aB bd.fD.fG),(eU bd.fD.fL)]),(4,aO 4 aj aa.d dc),(5,vN 5 [(.os 6 0 bH.length),(aB aq.e1.fN.fG),(eU aq.e1.fN.fL),(aB aq.e1.fD.fG),(eU aq.e1.fD.fL)]),(6,aO 4 aj aa.d bH)],7⟩
def B3 (N:Nat) (l:List ae) (aq:aw) (rows:List ab) (av:aa) (dr:List aa) (least:List aa) (bd:aa) (dc:List aa) (bH:List aa) (cV:aa) (K:(List aa)→(List aa)→Int→Option (bQ)):Prop:=∀ (gJ:List aa) (ek:List aa) (x4:Int) (r:bQ),K gJ ek x4=some r→∀ E,bk E 0→aG Tryz.prog E 22 137 (bc E [] (.agg (bQ.cells r))) [.code (fw 1037108),.inLoop (fw 1037108),.inBlock 4,.code (fw 129639),.inBlock 3,.code (fw 8103),.inLoop (fw 1012),.inBlock 2,.code (fw 127)] ⟨[(0,(aH ae.cells ae.d l)),(4,(.op 0 0 0)),(5,(aI ((l.length:Nat):Int))),(6,(.op 1 0 0)),(7,(.os 2 0 (((rows ++ ([(⟨dr,av⟩:ab),(⟨least,aq.e0⟩:ab)]:List ab)) ++ ([(⟨dc,bd⟩:ab),(⟨bH,aq.e1⟩:ab)]:List ab)).length))),(11,(aI 2)),(12,(.op 3 0 0)),(13,(.op 5 0 0)),(53,(aI 2)),(66,(aH ae.cells ae.d l)),(67,(aI ((l.length:Nat):Int))),(68,(aI x4))],[(0,vO 3 [(aB false),.nil,.nil]),(1,vO 12 (aw.cells aq)),(2,aO 5 om ab.d ((rows ++ ([(⟨dr,av⟩:ab),(⟨least,aq.e0⟩:ab)]:List ab)) ++ ([(⟨dc,bd⟩:ab),(⟨bH,aq.e1⟩:ab)]:List ab))),(3,vN 5 [(.os 4 0 gJ.length),(aB cV.fN.fG),(eU cV.fN.fL),(aB cV.fD.fG),(eU cV.fD.fL)]),(4,aO 4 aj aa.d gJ),(5,vN 5 [(.os 6 0 ek.length),(aB aq.e2.fN.fG),(eU aq.e2.fN.fL),(aB aq.e2.fD.fG),(eU aq.e2.fD.fL)]),(6,aO 4 aj aa.d ek)],7⟩
theorem AZ (N l aq rows av dr least bd dc bH cV fuel):B3 N l aq rows av dr least bd dc bH cV (dB N l aq rows av dr least bd dc bH cV fuel):=by
 induction fuel with
 | zero=>intro _ _ _ r h;rw [dB.eq_1] at h;cases h
 | succ fuel ih =>
  intro gJ ek x4 r h E hE
  rw [dB.eq_2] at h
  refine ag hE 1 [] [] (kp [0,4,5,6,7,11,12,13,53,66,67,68,69]) (kq [0,1,2,3,4,5,6]) 23 pn ?_
  refine du 1 69 h (fun BS h=>?_) (fun BS h=>?_)
  ·obtain ⟨Iw,h⟩:=af h
   refine ag hE 4 [] [] (kp [0,4,5,6,7,11,12,13,15,53,66,67,68]) (kq [0,1,2,3,4,5,6,55]) 87 (pc Iw (pc o1 pn)) ?_
   obtain ⟨kQ,Db,h⟩:=aQ h
   refine ag hE 1 [(1,oT (.agg (aw.cells kQ)))] [] (kp [0,4,5,6,7,11,12,13,16,53,66,67,68]) (kq [0,1,2,3,4,5,6,151]) 183 (pc o1 (pc (mT _ _ _ Db) (pc (show 0≤(2:Int)∧(2:Int) < ((3:Nat):Int) by decide) (pc o1 pn)))) ?_
   obtain ⟨Hd,h⟩:=af h
   obtain ⟨fZ,Dc,h⟩:=aQ h
   obtain ⟨LX,h⟩:=af h
   refine ag hE 0 [(9,oT (.agg (aj fZ)))] [] (kp [0,4,5,6,7,11,12,13,53,66,67,68]) (kq [0,1,2] ++ [(3,.var 3 [.jq ((gJ ++ ([kQ.e2]:List aa)).length),.ah,.ah,.ah,.ah]),(5,.var 5 [.jq ((ek ++ ([fZ]:List aa)).length),.ah,.ah,.ah,.ah]),(247,.arr 247 ((gJ ++ ([kQ.e2]:List aa)).length) (fun zi=>aj ((gJ ++ ([kQ.e2]:List aa)).getD zi aa.d))),(359,.arr 359 ((ek ++ ([fZ]:List aa)).length) (fun zi=>aj ((ek ++ ([fZ]:List aa)).getD zi aa.d)))]) 439 (pc o1 (pc o1 (pc (Eq.refl gJ.length) (pc Hd (pc (z1 1) (pc (show ∀ zi,zi < 1→AV.fJ ((fun zi=>([[(aB kQ.e2.fN.fG),(eU kQ.e2.fN.fL),(aB kQ.e2.fD.fG),(eU kQ.e2.fD.fL)]]:List (List AV)).getD zi []) (bC 0 zi))=true from (mI rfl)) (pc o1 (pc o1 (pc (show Sd 49 [(.agg [(aB false),.nil,(aB false),.nil]),(.agg (aj kQ.e2))] [] 0 (.agg (aj fZ)) [] from (Sound.conv (ft _ _ _ _ Dc) (.cons (Alike.agg (.cons (Alike.refl _) (.cons Alike.nil (.cons (Alike.refl _) (.cons Alike.nil .nil))))) (.cons (Alike.refl _) .nil)))) (pc (Eq.refl ek.length) (pc LX (pc (z1 1) (pc (show ∀ zi,zi < 1→AV.fJ ((fun zi=>([[(aB fZ.fN.fG),(eU fZ.fN.fL),(aB fZ.fD.fG),(eU fZ.fD.fL)]]:List (List AV)).getD zi []) (bC 0 zi))=true from (mI rfl)) (pc o1 (pc o1 (pc (show (gJ.length+1)=(gJ ++ ([kQ.e2]:List aa)).length from (an rfl rfl)) (pc (show (ek.length+1)=(ek ++ ([fZ]:List aa)).length from (an rfl rfl)) (pc (show gJ.length+1=(gJ ++ ([kQ.e2]:List aa)).length from (an rfl rfl)) (pc (show ∀ zi,zi < (gJ ++ ([kQ.e2]:List aa)).length→(fun zi=>aj ((gJ ++ ([kQ.e2]:List aa)).getD zi aa.d)) zi=((fun zm=>if zm < gJ.length then (fun zi=>aj (gJ.getD zi aa.d)) zm else (fun zi=>([[(aB kQ.e2.fN.fG),(eU kQ.e2.fN.fL),(aB kQ.e2.fD.fG),(eU kQ.e2.fD.fL)]]:List (List AV)).getD zi []) (zm - gJ.length))) zi from (aX aj aa.d gJ ([kQ.e2]:List aa) rfl (fun _ _=>rfl) (fun zq eY=>bB aj aa.d ([kQ.e2]:List aa) zq eY))) (pc (show ek.length+1=(ek ++ ([fZ]:List aa)).length from (an rfl rfl)) (pc (show ∀ zi,zi < (ek ++ ([fZ]:List aa)).length→(fun zi=>aj ((ek ++ ([fZ]:List aa)).getD zi aa.d)) zi=((fun zm=>if zm < ek.length then (fun zi=>aj (ek.getD zi aa.d)) zm else (fun zi=>([[(aB fZ.fN.fG),(eU fZ.fN.fL),(aB fZ.fD.fG),(eU fZ.fD.fL)]]:List (List AV)).getD zi []) (zm - ek.length))) zi from (aX aj aa.d ek ([fZ]:List aa) rfl (fun _ _=>rfl) (fun zq eY=>bB aj aa.d ([fZ]:List aa) zq eY))) pn))))))))))))))))))))) ?_
   refine ag hE 1 [] [] (kp [0,4,5,6,7,11,12,13,53,66,67,68]) (kq [0,1,2,3,5,247,359]) 471 pn ?_
   exact cP hE 1 [] (kp [0,4,5,6,7,11,12,13,53,66,67,68]) (kq [0,1,2,3] ++ [(4,.ah 247)] ++ kq [5] ++ [(6,.ah 359)]) 7 pn (ih _ _ _ _ h E hE)
  ·obtain ⟨UO,h⟩:=af h
   refine ag hE 1 [(3,⟨[],true,.mH,[(4,aO 4 aj aa.d gJ),(6,aO 4 aj aa.d ek)],0,true,none⟩)] [] (kp [0,4,5,6] ++ [(7,.jq ((((rows ++ ([(⟨dr,av⟩:ab),(⟨least,aq.e0⟩:ab)]:List ab)) ++ ([(⟨dc,bd⟩:ab),(⟨bH,aq.e1⟩:ab)]:List ab)) ++ ([(⟨gJ,cV⟩:ab),(⟨ek,aq.e2⟩:ab)]:List ab)).length))] ++ kp [53]) (kq [0,1] ++ [(87,.arr 87 ((((rows ++ ([(⟨dr,av⟩:ab),(⟨least,aq.e0⟩:ab)]:List ab)) ++ ([(⟨dc,bd⟩:ab),(⟨bH,aq.e1⟩:ab)]:List ab)) ++ ([(⟨gJ,cV⟩:ab),(⟨ek,aq.e2⟩:ab)]:List ab)).length) (fun zi=>om ((((rows ++ ([(⟨dr,av⟩:ab),(⟨least,aq.e0⟩:ab)]:List ab)) ++ ([(⟨dc,bd⟩:ab),(⟨bH,aq.e1⟩:ab)]:List ab)) ++ ([(⟨gJ,cV⟩:ab),(⟨ek,aq.e2⟩:ab)]:List ab)).getD zi ab.d)))]) 119 (pc o1 (pc o1 (pc (show gJ.length≤gJ.length from (az _)) (pc (show ∀ zi,zi < gJ.length→(fun zi=>aj (gJ.getD zi aa.d)) zi=(fun zi=>aj (gJ.getD zi aa.d)) zi from (fun _ _=>rfl)) (pc (show ek.length≤ek.length from (az _)) (pc (show ∀ zi,zi < ek.length→(fun zi=>aj (ek.getD zi aa.d)) zi=(fun zi=>aj (ek.getD zi aa.d)) zi from (fun _ _=>rfl)) (pc (Eq.refl gJ.length) (pc (Eq.refl ek.length) (pc (Eq.refl (((rows ++ ([(⟨dr,av⟩:ab),(⟨least,aq.e0⟩:ab)]:List ab)) ++ ([(⟨dc,bd⟩:ab),(⟨bH,aq.e1⟩:ab)]:List ab)).length)) (pc UO (pc (z1 2) (pc (show ∀ zi,zi < 2→AV.fJ ((fun zi=>([[(aH aj aa.d gJ),(aB cV.fN.fG),(eU cV.fN.fL),(aB cV.fD.fG),(eU cV.fD.fL)],[(aH aj aa.d ek),(aB aq.e2.fN.fG),(eU aq.e2.fN.fL),(aB aq.e2.fD.fG),(eU aq.e2.fD.fL)]]:List (List AV)).getD zi []) (bC 0 zi))=true from (mI rfl)) (pc (show (((rows ++ ([(⟨dr,av⟩:ab),(⟨least,aq.e0⟩:ab)]:List ab)) ++ ([(⟨dc,bd⟩:ab),(⟨bH,aq.e1⟩:ab)]:List ab)).length+2)=(((rows ++ ([(⟨dr,av⟩:ab),(⟨least,aq.e0⟩:ab)]:List ab)) ++ ([(⟨dc,bd⟩:ab),(⟨bH,aq.e1⟩:ab)]:List ab)) ++ ([(⟨gJ,cV⟩:ab),(⟨ek,aq.e2⟩:ab)]:List ab)).length from (an rfl rfl)) (pc (show ((rows ++ ([(⟨dr,av⟩:ab),(⟨least,aq.e0⟩:ab)]:List ab)) ++ ([(⟨dc,bd⟩:ab),(⟨bH,aq.e1⟩:ab)]:List ab)).length+2=(((rows ++ ([(⟨dr,av⟩:ab),(⟨least,aq.e0⟩:ab)]:List ab)) ++ ([(⟨dc,bd⟩:ab),(⟨bH,aq.e1⟩:ab)]:List ab)) ++ ([(⟨gJ,cV⟩:ab),(⟨ek,aq.e2⟩:ab)]:List ab)).length from (an rfl rfl)) (pc (show ∀ zi,zi < (((rows ++ ([(⟨dr,av⟩:ab),(⟨least,aq.e0⟩:ab)]:List ab)) ++ ([(⟨dc,bd⟩:ab),(⟨bH,aq.e1⟩:ab)]:List ab)) ++ ([(⟨gJ,cV⟩:ab),(⟨ek,aq.e2⟩:ab)]:List ab)).length→(fun zi=>om ((((rows ++ ([(⟨dr,av⟩:ab),(⟨least,aq.e0⟩:ab)]:List ab)) ++ ([(⟨dc,bd⟩:ab),(⟨bH,aq.e1⟩:ab)]:List ab)) ++ ([(⟨gJ,cV⟩:ab),(⟨ek,aq.e2⟩:ab)]:List ab)).getD zi ab.d)) zi=((fun zm=>if zm < ((rows ++ ([(⟨dr,av⟩:ab),(⟨least,aq.e0⟩:ab)]:List ab)) ++ ([(⟨dc,bd⟩:ab),(⟨bH,aq.e1⟩:ab)]:List ab)).length then (fun zi=>om (((rows ++ ([(⟨dr,av⟩:ab),(⟨least,aq.e0⟩:ab)]:List ab)) ++ ([(⟨dc,bd⟩:ab),(⟨bH,aq.e1⟩:ab)]:List ab)).getD zi ab.d)) zm else (fun zi=>([[(aH aj aa.d gJ),(aB cV.fN.fG),(eU cV.fN.fL),(aB cV.fD.fG),(eU cV.fD.fL)],[(aH aj aa.d ek),(aB aq.e2.fN.fG),(eU aq.e2.fN.fL),(aB aq.e2.fD.fG),(eU aq.e2.fD.fL)]]:List (List AV)).getD zi []) (zm - ((rows ++ ([(⟨dr,av⟩:ab),(⟨least,aq.e0⟩:ab)]:List ab)) ++ ([(⟨dc,bd⟩:ab),(⟨bH,aq.e1⟩:ab)]:List ab)).length))) zi from (aX om ab.d ((rows ++ ([(⟨dr,av⟩:ab),(⟨least,aq.e0⟩:ab)]:List ab)) ++ ([(⟨dc,bd⟩:ab),(⟨bH,aq.e1⟩:ab)]:List ab)) ([(⟨gJ,cV⟩:ab),(⟨ek,aq.e2⟩:ab)]:List ab) rfl (fun _ _=>rfl) (fun zq eY=>bB om ab.d ([(⟨gJ,cV⟩:ab),(⟨ek,aq.e2⟩:ab)]:List ab) zq eY))) pn))))))))))))))) ?_
   refine ag hE 1 [] [] (kp [0,4,5,6,7,53]) (kq [0,1,87]) 151 pn ?_
   refine ag hE 2 [] [] (kp [0,4,5,6,7,53,54]) (kq [0,1,87]) 167 pn ?_
   refine sA 1 [.code (fw 4050),.code (fw 4051),.inLoop (fw 1012),.inBlock 2,.code (fw 127)] ?_
   refine sC 54 (fw 8100) (fw 8101) false (fun hq=>absurd hq (by decide)) (fun _=>?_) 
   obtain ⟨aJ,Jz,h⟩:=aQ h
   refine ag hE 2 [(2,⟨[],true,(.tup [(aH aj aa.d aJ.1),(aH aj aa.d aJ.2.1),(aI aJ.2.2)]),[],0,true,none⟩)] [] (kp [4,5,17,18,19]) (kq [0]) 327 (pc (xH _ _ _ _ Jz) (pc (z1 ((((rows ++ ([(⟨dr,av⟩:ab),(⟨least,aq.e0⟩:ab)]:List ab)) ++ ([(⟨dc,bd⟩:ab),(⟨bH,aq.e1⟩:ab)]:List ab)) ++ ([(⟨gJ,cV⟩:ab),(⟨ek,aq.e2⟩:ab)]:List ab)).length)) pn)) ?_
   refine ag hE 2 [] [] (kp [4,5,17,18,105]) (kq [0]) 359 pn ?_
   refine du 0 105 h (fun Jv h=>?_) (fun Jv h=>?_)
   ·refine ag hE 1 [] [] (kp [4]) (kq [0]) 407 (pc o1 pn) ?_
    obtain rfl:=cX h
    exact db hE 0 Tryz.f22 [] (kp [4]) [(16,.var 0 [.ah,.ah,.sl (([]:List aa).length) (fun zi=>aj (([]:List aa).getD zi aa.d))])] 407 (pc (Eq.refl 0) pn) [16] (pc o1 pn)
   ·refine ag hE 2 [] [] (kp [4,5,18,20]) (kq [0,375]) 407 (pc o1 pn) ?_
    refine ag hE 2 [] [] (kp [4,5,18,20,109]) (kq [0,375]) 423 pn ?_
    refine ag hE 3 [] [] (kp [4,5,18,20,109,110]) (kq [0,375]) 439 pn ?_
    refine sA 1 [.code (fw 65490),.code (fw 65491),.inLoop (fw 16372),.inBlock 6,.code (fw 2047)] ?_
    refine sC 110 (fw 130980) (fw 130981) true (fun _=>?_) (fun hq=>absurd hq (by decide)) 
    refine ag hE 4 [] [] (kp [4,5,18,20,21,109]) (kq [0,375]) 471 pn ?_
    obtain ⟨Tp,h⟩:=af h
    obtain ⟨OS,h⟩:=af h
    obtain ⟨bt,Q2,h⟩:=aQ h
    refine ag hE 0 [(19,oT (.agg (aj bt)))] [] (kp [4,5,18,20,109]) (kq [0] ++ [(375,.var 375 [.ah,.ah,.jq (([bt]:List aa).length)]),(807,.arr 807 (([bt]:List aa).length) (fun zi=>aj (([bt]:List aa).getD zi aa.d)))]) 855 (pc o1 (pc Tp (pc OS (pc (ft _ _ _ _ Q2) (pc (show 1 * 64≤140737488355328 by decide) (pc (z1 1) (pc (show ∀ zi,zi < 1→AV.fJ ((fun zi=>([[(aB bt.fN.fG),(eU bt.fN.fL),(aB bt.fD.fG),(eU bt.fD.fL)]]:List (List AV)).getD zi []) (bC 0 zi))=true from (mI rfl)) (pc o1 (pc (Eq.refl 1) (pc (Eq.refl 1) (pc (show ∀ zi,zi < ([bt]:List aa).length→(fun zi=>aj (([bt]:List aa).getD zi aa.d)) zi=(fun zi=>([[(aB bt.fN.fG),(eU bt.fN.fL),(aB bt.fD.fG),(eU bt.fD.fL)]]:List (List AV)).getD zi []) zi from (fun zq eY=>bB aj aa.d ([bt]:List aa) zq eY)) pn))))))))))) ?_
    refine ag hE 1 [] [] (kp [4,5,18,20,109]) (kq [0,375,807]) 887 pn ?_
    refine ag hE 2 [] [] (kp [4,5,18,20,109,110]) (kq [0,375,807]) 903 pn ?_
    refine sA 1 [.code (fw 65490),.code (fw 65491),.inLoop (fw 16372),.inBlock 6,.code (fw 2047)] ?_
    refine sC 110 (fw 130980) (fw 130981) true (fun _=>?_) (fun hq=>absurd hq (by decide)) 
    refine ag hE 4 [] [] (kp [4,5,18,20,21,109]) (kq [0,375,807]) 935 pn ?_
    obtain ⟨VV,h⟩:=af h
    obtain ⟨XE,h⟩:=af h
    obtain ⟨b7,Q3,h⟩:=aQ h
    obtain ⟨VW,h⟩:=af h
    refine ag hE 0 [(19,oT (.agg (aj b7)))] [] (kp [4,5,18,20,109]) (kq [0] ++ [(375,.var 375 [.ah,.ah,.jq ((([bt]:List aa) ++ ([b7]:List aa)).length)]),(1271,.arr 1271 ((([bt]:List aa) ++ ([b7]:List aa)).length) (fun zi=>aj ((([bt]:List aa) ++ ([b7]:List aa)).getD zi aa.d)))]) 1319 (pc o1 (pc VV (pc XE (pc (ft _ _ _ _ Q3) (pc (Eq.refl (([bt]:List aa).length)) (pc VW (pc (z1 1) (pc (show ∀ zi,zi < 1→AV.fJ ((fun zi=>([[(aB b7.fN.fG),(eU b7.fN.fL),(aB b7.fD.fG),(eU b7.fD.fL)]]:List (List AV)).getD zi []) (bC 0 zi))=true from (mI rfl)) (pc o1 (pc (show (([bt]:List aa).length+1)=(([bt]:List aa) ++ ([b7]:List aa)).length from (an rfl rfl)) (pc (show ([bt]:List aa).length+1=(([bt]:List aa) ++ ([b7]:List aa)).length from (an rfl rfl)) (pc (show ∀ zi,zi < (([bt]:List aa) ++ ([b7]:List aa)).length→(fun zi=>aj ((([bt]:List aa) ++ ([b7]:List aa)).getD zi aa.d)) zi=((fun zm=>if zm < ([bt]:List aa).length then (fun zi=>aj (([bt]:List aa).getD zi aa.d)) zm else (fun zi=>([[(aB b7.fN.fG),(eU b7.fN.fL),(aB b7.fD.fG),(eU b7.fD.fL)]]:List (List AV)).getD zi []) (zm - ([bt]:List aa).length))) zi from (aX aj aa.d ([bt]:List aa) ([b7]:List aa) rfl (fun _ _=>rfl) (fun zq eY=>bB aj aa.d ([b7]:List aa) zq eY))) pn)))))))))))) ?_
    refine ag hE 1 [] [] (kp [4,5,18,20,109]) (kq [0,375,1271]) 1351 pn ?_
    refine ag hE 2 [] [] (kp [4,5,18,20,109,110]) (kq [0,375,1271]) 1367 pn ?_
    refine sA 1 [.code (fw 65490),.code (fw 65491),.inLoop (fw 16372),.inBlock 6,.code (fw 2047)] ?_
    refine sC 110 (fw 130980) (fw 130981) true (fun _=>?_) (fun hq=>absurd hq (by decide)) 
    refine ag hE 4 [] [] (kp [4,5,18,20,21,109]) (kq [0,375,1271]) 1399 pn ?_
    obtain ⟨XF,h⟩:=af h
    obtain ⟨YX,h⟩:=af h
    obtain ⟨eB,VY,h⟩:=aQ h
    obtain ⟨YZ,h⟩:=af h
    refine ag hE 0 [(19,oT (.agg (aj eB)))] [] (kp [4,5,18,20,109]) (kq [0] ++ [(375,.var 375 [.ah,.ah,.jq (((([bt]:List aa) ++ ([b7]:List aa)) ++ ([eB]:List aa)).length)]),(1735,.arr 1735 (((([bt]:List aa) ++ ([b7]:List aa)) ++ ([eB]:List aa)).length) (fun zi=>aj (((([bt]:List aa) ++ ([b7]:List aa)) ++ ([eB]:List aa)).getD zi aa.d)))]) 1783 (pc o1 (pc XF (pc YX (pc (ft _ _ _ _ VY) (pc (Eq.refl ((([bt]:List aa) ++ ([b7]:List aa)).length)) (pc YZ (pc (z1 1) (pc (show ∀ zi,zi < 1→AV.fJ ((fun zi=>([[(aB eB.fN.fG),(eU eB.fN.fL),(aB eB.fD.fG),(eU eB.fD.fL)]]:List (List AV)).getD zi []) (bC 0 zi))=true from (mI rfl)) (pc o1 (pc (show ((([bt]:List aa) ++ ([b7]:List aa)).length+1)=((([bt]:List aa) ++ ([b7]:List aa)) ++ ([eB]:List aa)).length from (an rfl rfl)) (pc (show (([bt]:List aa) ++ ([b7]:List aa)).length+1=((([bt]:List aa) ++ ([b7]:List aa)) ++ ([eB]:List aa)).length from (an rfl rfl)) (pc (show ∀ zi,zi < ((([bt]:List aa) ++ ([b7]:List aa)) ++ ([eB]:List aa)).length→(fun zi=>aj (((([bt]:List aa) ++ ([b7]:List aa)) ++ ([eB]:List aa)).getD zi aa.d)) zi=((fun zm=>if zm < (([bt]:List aa) ++ ([b7]:List aa)).length then (fun zi=>aj ((([bt]:List aa) ++ ([b7]:List aa)).getD zi aa.d)) zm else (fun zi=>([[(aB eB.fN.fG),(eU eB.fN.fL),(aB eB.fD.fG),(eU eB.fD.fL)]]:List (List AV)).getD zi []) (zm - (([bt]:List aa) ++ ([b7]:List aa)).length))) zi from (aX aj aa.d (([bt]:List aa) ++ ([b7]:List aa)) ([eB]:List aa) rfl (fun _ _=>rfl) (fun zq eY=>bB aj aa.d ([eB]:List aa) zq eY))) pn)))))))))))) ?_
    refine ag hE 1 [] [] (kp [4,5,18,20,109]) (kq [0,375,1735]) 1815 pn ?_
    refine ag hE 2 [] [] (kp [4,5,18,20,109,110]) (kq [0,375,1735]) 1831 pn ?_
    refine sA 1 [.code (fw 65490),.code (fw 65491),.inLoop (fw 16372),.inBlock 6,.code (fw 2047)] ?_
    refine sC 110 (fw 130980) (fw 130981) false (fun hq=>absurd hq (by decide)) (fun _=>?_) 
    refine ag hE 2 [] [] (kp [4]) (kq [0,1735]) 1863 (pc o1 (pc o1 pn)) ?_
    obtain rfl:=cX h
    exact db hE 0 Tryz.f22 [1735] (kp [4]) [(16,.var 0 [.ah,.sl (([]:List aa).length) (fun zi=>aj (([]:List aa).getD zi aa.d)),.sl (((([bt]:List aa) ++ ([b7]:List aa)) ++ ([eB]:List aa)).length) (fun zi=>aj (((([bt]:List aa) ++ ([b7]:List aa)) ++ ([eB]:List aa)).getD zi aa.d))])] 1863 (pc (Eq.refl 0) (pc (Eq.refl (((([bt]:List aa) ++ ([b7]:List aa)) ++ ([eB]:List aa)).length)) (pc (z1 (((([bt]:List aa) ++ ([b7]:List aa)) ++ ([eB]:List aa)).length)) (pc (aZ (((([bt]:List aa) ++ ([b7]:List aa)) ++ ([eB]:List aa)).length) (fun zi=>aj (((([bt]:List aa) ++ ([b7]:List aa)) ++ ([eB]:List aa)).getD zi aa.d))) pn)))) [16] (pc o1 pn)
theorem A1 (N l aq rows av dr least bd fuel):B2 N l aq rows av dr least bd (fo N l aq rows av dr least bd fuel):=by
 induction fuel with
 | zero=>intro _ _ _ r h;rw [fo.eq_1] at h;cases h
 | succ fuel ih =>
  intro dc bH x3 r h E hE
  rw [fo.eq_2] at h
  refine ag hE 1 [] [] (kp [0,4,5,6,7,11,12,13,53,66,67,68,69]) (kq [0,1,2,3,4,5,6]) 23 pn ?_
  refine du 1 69 h (fun rV h=>?_) (fun rV h=>?_)
  ·obtain ⟨c8,h⟩:=af h
   refine ag hE 4 [] [] (kp [0,4,5,6,7,11,12,13,15,53,66,67,68]) (kq [0,1,2,3,4,5,6,55]) 87 (pc c8 (pc o1 pn)) ?_
   obtain ⟨kR,Ea,h⟩:=aQ h
   refine ag hE 1 [(1,oT (.agg (aw.cells kR)))] [] (kp [0,4,5,6,7,11,12,13,16,53,66,67,68]) (kq [0,1,2,3,4,5,6,151]) 183 (pc o1 (pc (mT _ _ _ Ea) (pc (show 0≤(1:Int)∧(1:Int) < ((3:Nat):Int) by decide) (pc o1 pn)))) ?_
   obtain ⟨c9,h⟩:=af h
   obtain ⟨gf,xc,h⟩:=aQ h
   obtain ⟨MF,h⟩:=af h
   refine ag hE 0 [(9,oT (.agg (aj gf)))] [] (kp [0,4,5,6,7,11,12,13,53,66,67,68]) (kq [0,1,2] ++ [(3,.var 3 [.jq ((dc ++ ([kR.e1]:List aa)).length),.ah,.ah,.ah,.ah]),(5,.var 5 [.jq ((bH ++ ([gf]:List aa)).length),.ah,.ah,.ah,.ah]),(247,.arr 247 ((dc ++ ([kR.e1]:List aa)).length) (fun zi=>aj ((dc ++ ([kR.e1]:List aa)).getD zi aa.d))),(359,.arr 359 ((bH ++ ([gf]:List aa)).length) (fun zi=>aj ((bH ++ ([gf]:List aa)).getD zi aa.d)))]) 439 (pc o1 (pc o1 (pc (Eq.refl dc.length) (pc c9 (pc (z1 1) (pc (show ∀ zi,zi < 1→AV.fJ ((fun zi=>([[(aB kR.e1.fN.fG),(eU kR.e1.fN.fL),(aB kR.e1.fD.fG),(eU kR.e1.fD.fL)]]:List (List AV)).getD zi []) (bC 0 zi))=true from (mI rfl)) (pc o1 (pc o1 (pc (show Sd 49 [(.agg [(aB false),.nil,(aB false),.nil]),(.agg (aj kR.e1))] [] 0 (.agg (aj gf)) [] from (Sound.conv (ft _ _ _ _ xc) (.cons (Alike.agg (.cons (Alike.refl _) (.cons Alike.nil (.cons (Alike.refl _) (.cons Alike.nil .nil))))) (.cons (Alike.refl _) .nil)))) (pc (Eq.refl bH.length) (pc MF (pc (z1 1) (pc (show ∀ zi,zi < 1→AV.fJ ((fun zi=>([[(aB gf.fN.fG),(eU gf.fN.fL),(aB gf.fD.fG),(eU gf.fD.fL)]]:List (List AV)).getD zi []) (bC 0 zi))=true from (mI rfl)) (pc o1 (pc o1 (pc (show (dc.length+1)=(dc ++ ([kR.e1]:List aa)).length from (an rfl rfl)) (pc (show (bH.length+1)=(bH ++ ([gf]:List aa)).length from (an rfl rfl)) (pc (show dc.length+1=(dc ++ ([kR.e1]:List aa)).length from (an rfl rfl)) (pc (show ∀ zi,zi < (dc ++ ([kR.e1]:List aa)).length→(fun zi=>aj ((dc ++ ([kR.e1]:List aa)).getD zi aa.d)) zi=((fun zm=>if zm < dc.length then (fun zi=>aj (dc.getD zi aa.d)) zm else (fun zi=>([[(aB kR.e1.fN.fG),(eU kR.e1.fN.fL),(aB kR.e1.fD.fG),(eU kR.e1.fD.fL)]]:List (List AV)).getD zi []) (zm - dc.length))) zi from (aX aj aa.d dc ([kR.e1]:List aa) rfl (fun _ _=>rfl) (fun zq eY=>bB aj aa.d ([kR.e1]:List aa) zq eY))) (pc (show bH.length+1=(bH ++ ([gf]:List aa)).length from (an rfl rfl)) (pc (show ∀ zi,zi < (bH ++ ([gf]:List aa)).length→(fun zi=>aj ((bH ++ ([gf]:List aa)).getD zi aa.d)) zi=((fun zm=>if zm < bH.length then (fun zi=>aj (bH.getD zi aa.d)) zm else (fun zi=>([[(aB gf.fN.fG),(eU gf.fN.fL),(aB gf.fD.fG),(eU gf.fD.fL)]]:List (List AV)).getD zi []) (zm - bH.length))) zi from (aX aj aa.d bH ([gf]:List aa) rfl (fun _ _=>rfl) (fun zq eY=>bB aj aa.d ([gf]:List aa) zq eY))) pn))))))))))))))))))))) ?_
   refine ag hE 1 [] [] (kp [0,4,5,6,7,11,12,13,53,66,67,68]) (kq [0,1,2,3,5,247,359]) 471 pn ?_
   exact cP hE 1 [] (kp [0,4,5,6,7,11,12,13,53,66,67,68]) (kq [0,1,2,3] ++ [(4,.ah 247)] ++ kq [5] ++ [(6,.ah 359)]) 7 pn (ih _ _ _ _ h E hE)
  ·obtain ⟨Iv,h⟩:=af h
   refine ag hE 1 [(3,⟨[],true,.mH,[(4,aO 4 aj aa.d dc),(6,aO 4 aj aa.d bH)],0,true,none⟩)] [] (kp [0,4,5,6] ++ [(7,.jq (((rows ++ ([(⟨dr,av⟩:ab),(⟨least,aq.e0⟩:ab)]:List ab)) ++ ([(⟨dc,bd⟩:ab),(⟨bH,aq.e1⟩:ab)]:List ab)).length))] ++ kp [53]) (kq [0,1] ++ [(87,.arr 87 (((rows ++ ([(⟨dr,av⟩:ab),(⟨least,aq.e0⟩:ab)]:List ab)) ++ ([(⟨dc,bd⟩:ab),(⟨bH,aq.e1⟩:ab)]:List ab)).length) (fun zi=>om (((rows ++ ([(⟨dr,av⟩:ab),(⟨least,aq.e0⟩:ab)]:List ab)) ++ ([(⟨dc,bd⟩:ab),(⟨bH,aq.e1⟩:ab)]:List ab)).getD zi ab.d)))]) 119 (pc o1 (pc o1 (pc (show dc.length≤dc.length from (az _)) (pc (show ∀ zi,zi < dc.length→(fun zi=>aj (dc.getD zi aa.d)) zi=(fun zi=>aj (dc.getD zi aa.d)) zi from (fun _ _=>rfl)) (pc (show bH.length≤bH.length from (az _)) (pc (show ∀ zi,zi < bH.length→(fun zi=>aj (bH.getD zi aa.d)) zi=(fun zi=>aj (bH.getD zi aa.d)) zi from (fun _ _=>rfl)) (pc (Eq.refl dc.length) (pc (Eq.refl bH.length) (pc (Eq.refl ((rows ++ ([(⟨dr,av⟩:ab),(⟨least,aq.e0⟩:ab)]:List ab)).length)) (pc Iv (pc (z1 2) (pc (show ∀ zi,zi < 2→AV.fJ ((fun zi=>([[(aH aj aa.d dc),(aB bd.fN.fG),(eU bd.fN.fL),(aB bd.fD.fG),(eU bd.fD.fL)],[(aH aj aa.d bH),(aB aq.e1.fN.fG),(eU aq.e1.fN.fL),(aB aq.e1.fD.fG),(eU aq.e1.fD.fL)]]:List (List AV)).getD zi []) (bC 0 zi))=true from (mI rfl)) (pc (show ((rows ++ ([(⟨dr,av⟩:ab),(⟨least,aq.e0⟩:ab)]:List ab)).length+2)=((rows ++ ([(⟨dr,av⟩:ab),(⟨least,aq.e0⟩:ab)]:List ab)) ++ ([(⟨dc,bd⟩:ab),(⟨bH,aq.e1⟩:ab)]:List ab)).length from (an rfl rfl)) (pc (show (rows ++ ([(⟨dr,av⟩:ab),(⟨least,aq.e0⟩:ab)]:List ab)).length+2=((rows ++ ([(⟨dr,av⟩:ab),(⟨least,aq.e0⟩:ab)]:List ab)) ++ ([(⟨dc,bd⟩:ab),(⟨bH,aq.e1⟩:ab)]:List ab)).length from (an rfl rfl)) (pc (show ∀ zi,zi < ((rows ++ ([(⟨dr,av⟩:ab),(⟨least,aq.e0⟩:ab)]:List ab)) ++ ([(⟨dc,bd⟩:ab),(⟨bH,aq.e1⟩:ab)]:List ab)).length→(fun zi=>om (((rows ++ ([(⟨dr,av⟩:ab),(⟨least,aq.e0⟩:ab)]:List ab)) ++ ([(⟨dc,bd⟩:ab),(⟨bH,aq.e1⟩:ab)]:List ab)).getD zi ab.d)) zi=((fun zm=>if zm < (rows ++ ([(⟨dr,av⟩:ab),(⟨least,aq.e0⟩:ab)]:List ab)).length then (fun zi=>om ((rows ++ ([(⟨dr,av⟩:ab),(⟨least,aq.e0⟩:ab)]:List ab)).getD zi ab.d)) zm else (fun zi=>([[(aH aj aa.d dc),(aB bd.fN.fG),(eU bd.fN.fL),(aB bd.fD.fG),(eU bd.fD.fL)],[(aH aj aa.d bH),(aB aq.e1.fN.fG),(eU aq.e1.fN.fL),(aB aq.e1.fD.fG),(eU aq.e1.fD.fL)]]:List (List AV)).getD zi []) (zm - (rows ++ ([(⟨dr,av⟩:ab),(⟨least,aq.e0⟩:ab)]:List ab)).length))) zi from (aX om ab.d (rows ++ ([(⟨dr,av⟩:ab),(⟨least,aq.e0⟩:ab)]:List ab)) ([(⟨dc,bd⟩:ab),(⟨bH,aq.e1⟩:ab)]:List ab) rfl (fun _ _=>rfl) (fun zq eY=>bB om ab.d ([(⟨dc,bd⟩:ab),(⟨bH,aq.e1⟩:ab)]:List ab) zq eY))) pn))))))))))))))) ?_
   refine ag hE 1 [] [] (kp [0,4,5,6,7,53]) (kq [0,1,87]) 151 pn ?_
   refine ag hE 2 [] [] (kp [0,4,5,6,7,53,54]) (kq [0,1,87]) 167 pn ?_
   refine sA 1 [.code (fw 4050),.code (fw 4051),.inLoop (fw 1012),.inBlock 2,.code (fw 127)] ?_
   refine sC 54 (fw 8100) (fw 8101) true (fun _=>?_) (fun hq=>absurd hq (by decide)) 
   refine ag hE 4 [] [] (kp [0,4,5,6,7,11,53]) (kq [0,1,87]) 199 pn ?_
   obtain ⟨cV,yQ,h⟩:=aQ h
   refine ag hE 1 [(4,oT (.agg (aj cV)))] [] (kp [0,4,5,6,7,11,12,13,53]) (kq [0,1,87,359,375]) 423 (pc (show 0≤(2:Int)∧(2:Int) < 3 by decide) (pc o1 (pc (show Sd 49 [(.agg [(aB false),.nil,(aB false),.nil]),(.agg (aj aq.e2))] [] 0 (.agg (aj cV)) [] from (Sound.conv (ft _ _ _ _ yQ) (.cons (Alike.agg (.cons (Alike.refl _) (.cons Alike.nil (.cons (Alike.refl _) (.cons Alike.nil .nil))))) (.cons (Alike.refl _) .nil)))) (pc (show 0≤(2:Int)∧(2:Int) < 3 by decide) (pc o1 (pc o1 (pc o1 pn))))))) ?_
   refine ag hE 2 [] [] (kp [0,4,5,6,7,11,12,13,53,66,67,68]) (kq [0,1,87,359,375]) 471 pn ?_
   exact cP hE 2 [] (kp [0,4,5,6,7,11,12,13,53,66,67,68]) (kq [0,1] ++ [(2,.ah 87),(3,.var 359 [.lW 4,.ah,.ah,.ah,.ah]),(4,.nil 4 (fun zi=>aj (([]:List aa).getD zi aa.d))),(5,.var 375 [.lW 6,.ah,.ah,.ah,.ah]),(6,.nil 4 (fun zi=>aj (([]:List aa).getD zi aa.d)))]) 7 pn (AZ N _ _ _ _ _ _ _ _ _ _ N _ _ _ _ h E hE)
theorem A2 (N l aq rows av fuel):B1 N l aq rows av (fq N l aq rows av fuel):=by
 induction fuel with
 | zero=>intro _ _ _ r h;rw [fq.eq_1] at h;cases h
 | succ fuel ih =>
  intro dr least x2 r h E hE
  rw [fq.eq_2] at h
  refine ag hE 1 [] [] (kp [0,4,5,6,7,11,12,13,53,66,67,68,69]) (kq [0,1,2,3,4,5,6]) 23 pn ?_
  refine du 1 69 h (fun jx h=>?_) (fun jx h=>?_)
  ·obtain ⟨c4,h⟩:=af h
   refine ag hE 4 [] [] (kp [0,4,5,6,7,11,12,13,15,53,66,67,68]) (kq [0,1,2,3,4,5,6,55]) 87 (pc c4 (pc o1 pn)) ?_
   obtain ⟨j9,xU,h⟩:=aQ h
   refine ag hE 1 [(1,oT (.agg (aw.cells j9)))] [] (kp [0,4,5,6,7,11,12,13,16,53,66,67,68]) (kq [0,1,2,3,4,5,6,151]) 183 (pc o1 (pc (mT _ _ _ xU) (pc (show 0≤(0:Int)∧(0:Int) < ((3:Nat):Int) by decide) (pc o1 pn)))) ?_
   obtain ⟨c5,h⟩:=af h
   obtain ⟨gh,yL,h⟩:=aQ h
   obtain ⟨c6,h⟩:=af h
   refine ag hE 0 [(9,oT (.agg (aj gh)))] [] (kp [0,4,5,6,7,11,12,13,53,66,67,68]) (kq [0,1,2] ++ [(3,.var 3 [.jq ((dr ++ ([j9.e0]:List aa)).length),.ah,.ah,.ah,.ah]),(5,.var 5 [.jq ((least ++ ([gh]:List aa)).length),.ah,.ah,.ah,.ah]),(247,.arr 247 ((dr ++ ([j9.e0]:List aa)).length) (fun zi=>aj ((dr ++ ([j9.e0]:List aa)).getD zi aa.d))),(359,.arr 359 ((least ++ ([gh]:List aa)).length) (fun zi=>aj ((least ++ ([gh]:List aa)).getD zi aa.d)))]) 439 (pc o1 (pc o1 (pc (Eq.refl dr.length) (pc c5 (pc (z1 1) (pc (show ∀ zi,zi < 1→AV.fJ ((fun zi=>([[(aB j9.e0.fN.fG),(eU j9.e0.fN.fL),(aB j9.e0.fD.fG),(eU j9.e0.fD.fL)]]:List (List AV)).getD zi []) (bC 0 zi))=true from (mI rfl)) (pc o1 (pc o1 (pc (show Sd 49 [(.agg [(aB false),.nil,(aB false),.nil]),(.agg (aj j9.e0))] [] 0 (.agg (aj gh)) [] from (Sound.conv (ft _ _ _ _ yL) (.cons (Alike.agg (.cons (Alike.refl _) (.cons Alike.nil (.cons (Alike.refl _) (.cons Alike.nil .nil))))) (.cons (Alike.refl _) .nil)))) (pc (Eq.refl least.length) (pc c6 (pc (z1 1) (pc (show ∀ zi,zi < 1→AV.fJ ((fun zi=>([[(aB gh.fN.fG),(eU gh.fN.fL),(aB gh.fD.fG),(eU gh.fD.fL)]]:List (List AV)).getD zi []) (bC 0 zi))=true from (mI rfl)) (pc o1 (pc o1 (pc (show (dr.length+1)=(dr ++ ([j9.e0]:List aa)).length from (an rfl rfl)) (pc (show (least.length+1)=(least ++ ([gh]:List aa)).length from (an rfl rfl)) (pc (show dr.length+1=(dr ++ ([j9.e0]:List aa)).length from (an rfl rfl)) (pc (show ∀ zi,zi < (dr ++ ([j9.e0]:List aa)).length→(fun zi=>aj ((dr ++ ([j9.e0]:List aa)).getD zi aa.d)) zi=((fun zm=>if zm < dr.length then (fun zi=>aj (dr.getD zi aa.d)) zm else (fun zi=>([[(aB j9.e0.fN.fG),(eU j9.e0.fN.fL),(aB j9.e0.fD.fG),(eU j9.e0.fD.fL)]]:List (List AV)).getD zi []) (zm - dr.length))) zi from (aX aj aa.d dr ([j9.e0]:List aa) rfl (fun _ _=>rfl) (fun zq eY=>bB aj aa.d ([j9.e0]:List aa) zq eY))) (pc (show least.length+1=(least ++ ([gh]:List aa)).length from (an rfl rfl)) (pc (show ∀ zi,zi < (least ++ ([gh]:List aa)).length→(fun zi=>aj ((least ++ ([gh]:List aa)).getD zi aa.d)) zi=((fun zm=>if zm < least.length then (fun zi=>aj (least.getD zi aa.d)) zm else (fun zi=>([[(aB gh.fN.fG),(eU gh.fN.fL),(aB gh.fD.fG),(eU gh.fD.fL)]]:List (List AV)).getD zi []) (zm - least.length))) zi from (aX aj aa.d least ([gh]:List aa) rfl (fun _ _=>rfl) (fun zq eY=>bB aj aa.d ([gh]:List aa) zq eY))) pn))))))))))))))))))))) ?_
   refine ag hE 1 [] [] (kp [0,4,5,6,7,11,12,13,53,66,67,68]) (kq [0,1,2,3,5,247,359]) 471 pn ?_
   exact cP hE 1 [] (kp [0,4,5,6,7,11,12,13,53,66,67,68]) (kq [0,1,2,3] ++ [(4,.ah 247)] ++ kq [5] ++ [(6,.ah 359)]) 7 pn (ih _ _ _ _ h E hE)
  ·obtain ⟨c7,h⟩:=af h
   refine ag hE 1 [(3,⟨[],true,.mH,[(4,aO 4 aj aa.d dr),(6,aO 4 aj aa.d least)],0,true,none⟩)] [] (kp [0,4,5,6] ++ [(7,.jq ((rows ++ ([(⟨dr,av⟩:ab),(⟨least,aq.e0⟩:ab)]:List ab)).length))] ++ kp [53]) (kq [0,1] ++ [(87,.arr 87 ((rows ++ ([(⟨dr,av⟩:ab),(⟨least,aq.e0⟩:ab)]:List ab)).length) (fun zi=>om ((rows ++ ([(⟨dr,av⟩:ab),(⟨least,aq.e0⟩:ab)]:List ab)).getD zi ab.d)))]) 119 (pc o1 (pc o1 (pc (show dr.length≤dr.length from (az _)) (pc (show ∀ zi,zi < dr.length→(fun zi=>aj (dr.getD zi aa.d)) zi=(fun zi=>aj (dr.getD zi aa.d)) zi from (fun _ _=>rfl)) (pc (show least.length≤least.length from (az _)) (pc (show ∀ zi,zi < least.length→(fun zi=>aj (least.getD zi aa.d)) zi=(fun zi=>aj (least.getD zi aa.d)) zi from (fun _ _=>rfl)) (pc (Eq.refl dr.length) (pc (Eq.refl least.length) (pc (Eq.refl rows.length) (pc c7 (pc (z1 2) (pc (show ∀ zi,zi < 2→AV.fJ ((fun zi=>([[(aH aj aa.d dr),(aB av.fN.fG),(eU av.fN.fL),(aB av.fD.fG),(eU av.fD.fL)],[(aH aj aa.d least),(aB aq.e0.fN.fG),(eU aq.e0.fN.fL),(aB aq.e0.fD.fG),(eU aq.e0.fD.fL)]]:List (List AV)).getD zi []) (bC 0 zi))=true from (mI rfl)) (pc (show (rows.length+2)=(rows ++ ([(⟨dr,av⟩:ab),(⟨least,aq.e0⟩:ab)]:List ab)).length from (an rfl rfl)) (pc (show rows.length+2=(rows ++ ([(⟨dr,av⟩:ab),(⟨least,aq.e0⟩:ab)]:List ab)).length from (an rfl rfl)) (pc (show ∀ zi,zi < (rows ++ ([(⟨dr,av⟩:ab),(⟨least,aq.e0⟩:ab)]:List ab)).length→(fun zi=>om ((rows ++ ([(⟨dr,av⟩:ab),(⟨least,aq.e0⟩:ab)]:List ab)).getD zi ab.d)) zi=((fun zm=>if zm < rows.length then (fun zi=>om (rows.getD zi ab.d)) zm else (fun zi=>([[(aH aj aa.d dr),(aB av.fN.fG),(eU av.fN.fL),(aB av.fD.fG),(eU av.fD.fL)],[(aH aj aa.d least),(aB aq.e0.fN.fG),(eU aq.e0.fN.fL),(aB aq.e0.fD.fG),(eU aq.e0.fD.fL)]]:List (List AV)).getD zi []) (zm - rows.length))) zi from (aX om ab.d rows ([(⟨dr,av⟩:ab),(⟨least,aq.e0⟩:ab)]:List ab) rfl (fun _ _=>rfl) (fun zq eY=>bB om ab.d ([(⟨dr,av⟩:ab),(⟨least,aq.e0⟩:ab)]:List ab) zq eY))) pn))))))))))))))) ?_
   refine ag hE 1 [] [] (kp [0,4,5,6,7,53]) (kq [0,1,87]) 151 pn ?_
   refine ag hE 2 [] [] (kp [0,4,5,6,7,53,54]) (kq [0,1,87]) 167 pn ?_
   refine sA 1 [.code (fw 4050),.code (fw 4051),.inLoop (fw 1012),.inBlock 2,.code (fw 127)] ?_
   refine sC 54 (fw 8100) (fw 8101) true (fun _=>?_) (fun hq=>absurd hq (by decide)) 
   refine ag hE 4 [] [] (kp [0,4,5,6,7,11,53]) (kq [0,1,87]) 199 pn ?_
   obtain ⟨bd,Eb,h⟩:=aQ h
   refine ag hE 1 [(4,oT (.agg (aj bd)))] [] (kp [0,4,5,6,7,11,12,13,53]) (kq [0,1,87,359,375]) 423 (pc (show 0≤(1:Int)∧(1:Int) < 3 by decide) (pc o1 (pc (show Sd 49 [(.agg [(aB false),.nil,(aB false),.nil]),(.agg (aj aq.e1))] [] 0 (.agg (aj bd)) [] from (Sound.conv (ft _ _ _ _ Eb) (.cons (Alike.agg (.cons (Alike.refl _) (.cons Alike.nil (.cons (Alike.refl _) (.cons Alike.nil .nil))))) (.cons (Alike.refl _) .nil)))) (pc (show 0≤(1:Int)∧(1:Int) < 3 by decide) (pc o1 (pc o1 (pc o1 pn))))))) ?_
   refine ag hE 2 [] [] (kp [0,4,5,6,7,11,12,13,53,66,67,68]) (kq [0,1,87,359,375]) 471 pn ?_
   exact cP hE 2 [] (kp [0,4,5,6,7,11,12,13,53,66,67,68]) (kq [0,1] ++ [(2,.ah 87),(3,.var 359 [.lW 4,.ah,.ah,.ah,.ah]),(4,.nil 4 (fun zi=>aj (([]:List aa).getD zi aa.d))),(5,.var 375 [.lW 6,.ah,.ah,.ah,.ah]),(6,.nil 4 (fun zi=>aj (([]:List aa).getD zi aa.d)))]) 7 pn (A1 N _ _ _ _ _ _ _ N _ _ _ _ h E hE)
theorem A3 (N l aq fuel):B0 N l aq (iB N l aq fuel):=by
 induction fuel with
 | zero=>intro _ _ r h;rw [iB.eq_1] at h;cases h
 | succ fuel ih =>
  intro rows x r h E hE
  rw [iB.eq_2] at h
  refine ag hE 1 [] [] (kp [0,4,5,6,7,26,27,28]) (kq [0,1,2]) 19 pn ?_
  refine du 1 28 h (fun ee h=>?_) (fun ee h=>?_)
  ·refine ag hE 4 [] [] (kp [0,4,5,6,7,8,26,27]) (kq [0,1,2]) 51 pn ?_
   obtain ⟨c,h⟩:=af h
   obtain ⟨eW,eX,h⟩:=aQ h
   refine ag hE 1 [(2,oT (.agg (aj eW)))] [] (kp [0,4,5,6,7,8,9,10,26,27]) (kq [0,1,2] ++ [(67,.OQ 67 ((List.replicate l.length aa.d:List aa).length) (fun zi=>aj ((List.replicate l.length aa.d:List aa).getD zi aa.d))),(131,.OQ 131 ((List.replicate l.length aa.d:List aa).length) (fun zi=>aj ((List.replicate l.length aa.d:List aa).getD zi aa.d))),(163,.var 163 [.jq ((List.replicate l.length aa.d:List aa).length),.ah,.ah,.ah,.ah]),(179,.var 179 [.jq ((List.replicate l.length aa.d:List aa).length),.ah,.sl (([]:List Int).length) (fun zi=>(cU .u16) (([]:List Int).getD zi 0)),.ah,.sl (([]:List Int).length) (fun zi=>(cU .u16) (([]:List Int).getD zi 0))])]) 227 (pc (show 0≤((l.length:Nat):Int) from c.1) (pc (show ((l.length:Nat):Int)≤((l.length:Nat):Int) from (Int.le_refl _)) (pc (show (64:Int) * ((l.length:Nat):Int)≤281474976710656 from c.2.1) (pc (show ((l.length:Nat):Int)≤9223372036854775807 from c.2.2) (pc (dC _ _ _ eX) (pc (show 0≤((l.length:Nat):Int) from c.1) (pc (show ((l.length:Nat):Int)≤((l.length:Nat):Int) from (Int.le_refl _)) (pc (show (64:Int) * ((l.length:Nat):Int)≤281474976710656 from c.2.1) (pc (show ((l.length:Nat):Int)≤9223372036854775807 from c.2.2) (pc o1 (pc o1 (pc (show (List.replicate l.length aa.d:List aa).length≤l.length from (Nat.le_of_eq (Eq.symm ((cN).symm)))) (pc (show ∀ zi,zi < (List.replicate l.length aa.d:List aa).length→Ij ((fun _=>[(aB false),.nil,(aB false),.nil]) zi) ((fun zi=>aj ((List.replicate l.length aa.d:List aa).getD zi aa.d)) zi) from (fun zq eY=>mc aj aa.d aa.d l.length zq ⟨.inl rfl,.inr ⟨rfl,_,rfl⟩,.inl rfl,.inr ⟨rfl,_,rfl⟩,trivial⟩ eY)) (pc (show (List.replicate l.length aa.d:List aa).length≤l.length from (Nat.le_of_eq (Eq.symm ((cN).symm)))) (pc (show ∀ zi,zi < (List.replicate l.length aa.d:List aa).length→Ij ((fun _=>[(aB false),.nil,(aB false),.nil]) zi) ((fun zi=>aj ((List.replicate l.length aa.d:List aa).getD zi aa.d)) zi) from (fun zq eY=>mc aj aa.d aa.d l.length zq ⟨.inl rfl,.inr ⟨rfl,_,rfl⟩,.inl rfl,.inr ⟨rfl,_,rfl⟩,trivial⟩ eY)) (pc (show l.length=(List.replicate l.length aa.d:List aa).length from (cN).symm) (pc (show l.length=(List.replicate l.length aa.d:List aa).length from (cN).symm) (pc (Eq.refl 0) (pc (Eq.refl 0) pn))))))))))))))))))) ?_
   obtain ⟨dL,kE,h⟩:=aQ h
   obtain ⟨dM,nu,h⟩:=aQ h
   obtain ⟨c2,h⟩:=af h
   refine ag hE 1 [(6,oT (.agg (aj dL))),(7,oT (.agg (aj dM)))] [] (kp [0,4,5,6,7,9,10,26,27]) (kq [0,1,2] ++ [(67,.arr 67 (((List.replicate l.length aa.d:List aa).set ((x).toNat) dL).length) (fun zi=>aj (((List.replicate l.length aa.d:List aa).set ((x).toNat) dL).getD zi aa.d))),(131,.arr 131 (((List.replicate l.length aa.d:List aa).set ((x).toNat) dM).length) (fun zi=>aj (((List.replicate l.length aa.d:List aa).set ((x).toNat) dM).getD zi aa.d))),(163,.var 163 [.jq (((List.replicate l.length aa.d:List aa).set ((x).toNat) dL).length),.ah,.ah,.ah,.ah]),(179,.var 179 [.jq (((List.replicate l.length aa.d:List aa).set ((x).toNat) dM).length),.ah,.ah,.ah,.ah])]) 419 (pc o1 (pc o1 (pc (dC _ _ _ kE) (pc (dC _ _ _ nu) (pc c2 (pc (dP c2) (pc c2 (pc (dP c2) (pc (ay (List.replicate l.length aa.d:List aa) ((x).toNat) dL) (pc (cA aj aa.d (List.replicate l.length aa.d:List aa) ((x).toNat) dL) (pc (ay (List.replicate l.length aa.d:List aa) ((x).toNat) dM) (pc (cA aj aa.d (List.replicate l.length aa.d:List aa) ((x).toNat) dM) (pc (ay (List.replicate l.length aa.d:List aa) ((x).toNat) dL) (pc (ay (List.replicate l.length aa.d:List aa) ((x).toNat) dM) pn)))))))))))))) ?_
   obtain ⟨c3,h⟩:=af h
   refine ag hE 0 [(3,⟨[],true,.mH,[(67,aO 4 aj aa.d ((List.replicate l.length aa.d:List aa).set ((x).toNat) dL)),(131,aO 4 aj aa.d ((List.replicate l.length aa.d:List aa).set ((x).toNat) dM))],0,true,none⟩)] [] (kp [0,4,5,6] ++ [(7,.jq ((rows ++ ([(⟨((List.replicate l.length aa.d:List aa).set ((x).toNat) dL),eW⟩:ab),(⟨((List.replicate l.length aa.d:List aa).set ((x).toNat) dM),(⟨(⟨false,([]:List Int)⟩:bP),(⟨false,([]:List Int)⟩:bP)⟩:aa)⟩:ab)]:List ab)).length))] ++ kp [26,27]) (kq [0,1] ++ [(483,.arr 483 ((rows ++ ([(⟨((List.replicate l.length aa.d:List aa).set ((x).toNat) dL),eW⟩:ab),(⟨((List.replicate l.length aa.d:List aa).set ((x).toNat) dM),(⟨(⟨false,([]:List Int)⟩:bP),(⟨false,([]:List Int)⟩:bP)⟩:aa)⟩:ab)]:List ab)).length) (fun zi=>om ((rows ++ ([(⟨((List.replicate l.length aa.d:List aa).set ((x).toNat) dL),eW⟩:ab),(⟨((List.replicate l.length aa.d:List aa).set ((x).toNat) dM),(⟨(⟨false,([]:List Int)⟩:bP),(⟨false,([]:List Int)⟩:bP)⟩:aa)⟩:ab)]:List ab)).getD zi ab.d)))]) 515 (pc o1 (pc o1 (pc (show ((List.replicate l.length aa.d:List aa).set ((x).toNat) dL).length≤((List.replicate l.length aa.d:List aa).set ((x).toNat) dL).length from (az _)) (pc (show ∀ zi,zi < ((List.replicate l.length aa.d:List aa).set ((x).toNat) dL).length→(fun zi=>aj (((List.replicate l.length aa.d:List aa).set ((x).toNat) dL).getD zi aa.d)) zi=(fun zi=>aj (((List.replicate l.length aa.d:List aa).set ((x).toNat) dL).getD zi aa.d)) zi from (fun _ _=>rfl)) (pc (show ((List.replicate l.length aa.d:List aa).set ((x).toNat) dM).length≤((List.replicate l.length aa.d:List aa).set ((x).toNat) dM).length from (az _)) (pc (show ∀ zi,zi < ((List.replicate l.length aa.d:List aa).set ((x).toNat) dM).length→(fun zi=>aj (((List.replicate l.length aa.d:List aa).set ((x).toNat) dM).getD zi aa.d)) zi=(fun zi=>aj (((List.replicate l.length aa.d:List aa).set ((x).toNat) dM).getD zi aa.d)) zi from (fun _ _=>rfl)) (pc (Eq.refl (((List.replicate l.length aa.d:List aa).set ((x).toNat) dL).length)) (pc (Eq.refl (((List.replicate l.length aa.d:List aa).set ((x).toNat) dM).length)) (pc (Eq.refl rows.length) (pc c3 (pc (z1 2) (pc (show ∀ zi,zi < 2→AV.fJ ((fun zi=>([[(aH aj aa.d ((List.replicate l.length aa.d:List aa).set ((x).toNat) dL)),(aB eW.fN.fG),(eU eW.fN.fL),(aB eW.fD.fG),(eU eW.fD.fL)],[(aH aj aa.d ((List.replicate l.length aa.d:List aa).set ((x).toNat) dM)),(aB false),(eU ([]:List Int)),(aB false),(eU ([]:List Int))]]:List (List AV)).getD zi []) (bC 0 zi))=true from (mI rfl)) (pc (show (rows.length+2)=(rows ++ ([(⟨((List.replicate l.length aa.d:List aa).set ((x).toNat) dL),eW⟩:ab),(⟨((List.replicate l.length aa.d:List aa).set ((x).toNat) dM),(⟨(⟨false,([]:List Int)⟩:bP),(⟨false,([]:List Int)⟩:bP)⟩:aa)⟩:ab)]:List ab)).length from (an rfl rfl)) (pc (show rows.length+2=(rows ++ ([(⟨((List.replicate l.length aa.d:List aa).set ((x).toNat) dL),eW⟩:ab),(⟨((List.replicate l.length aa.d:List aa).set ((x).toNat) dM),(⟨(⟨false,([]:List Int)⟩:bP),(⟨false,([]:List Int)⟩:bP)⟩:aa)⟩:ab)]:List ab)).length from (an rfl rfl)) (pc (show ∀ zi,zi < (rows ++ ([(⟨((List.replicate l.length aa.d:List aa).set ((x).toNat) dL),eW⟩:ab),(⟨((List.replicate l.length aa.d:List aa).set ((x).toNat) dM),(⟨(⟨false,([]:List Int)⟩:bP),(⟨false,([]:List Int)⟩:bP)⟩:aa)⟩:ab)]:List ab)).length→(fun zi=>om ((rows ++ ([(⟨((List.replicate l.length aa.d:List aa).set ((x).toNat) dL),eW⟩:ab),(⟨((List.replicate l.length aa.d:List aa).set ((x).toNat) dM),(⟨(⟨false,([]:List Int)⟩:bP),(⟨false,([]:List Int)⟩:bP)⟩:aa)⟩:ab)]:List ab)).getD zi ab.d)) zi=((fun zm=>if zm < rows.length then (fun zi=>om (rows.getD zi ab.d)) zm else (fun zi=>([[(aH aj aa.d ((List.replicate l.length aa.d:List aa).set ((x).toNat) dL)),(aB eW.fN.fG),(eU eW.fN.fL),(aB eW.fD.fG),(eU eW.fD.fL)],[(aH aj aa.d ((List.replicate l.length aa.d:List aa).set ((x).toNat) dM)),(aB false),(eU ([]:List Int)),(aB false),(eU ([]:List Int))]]:List (List AV)).getD zi []) (zm - rows.length))) zi from (aX om ab.d rows ([(⟨((List.replicate l.length aa.d:List aa).set ((x).toNat) dL),eW⟩:ab),(⟨((List.replicate l.length aa.d:List aa).set ((x).toNat) dM),(⟨(⟨false,([]:List Int)⟩:bP),(⟨false,([]:List Int)⟩:bP)⟩:aa)⟩:ab)]:List ab) rfl (fun _ _=>rfl) (fun zq eY=>bB om ab.d ([(⟨((List.replicate l.length aa.d:List aa).set ((x).toNat) dL),eW⟩:ab),(⟨((List.replicate l.length aa.d:List aa).set ((x).toNat) dM),(⟨(⟨false,([]:List Int)⟩:bP),(⟨false,([]:List Int)⟩:bP)⟩:aa)⟩:ab)]:List ab) zq eY))) pn))))))))))))))) ?_
   refine ag hE 1 [] [] (kp [0,4,5,6,7,26,27]) (kq [0,1,483]) 547 pn ?_
   exact cP hE 1 [] (kp [0,4,5,6,7,26,27]) (kq [0,1] ++ [(2,.ah 483)]) 3 pn (ih _ _ _ h E hE)
  ·refine ag hE 3 [] [] (kp [0,4,5,6,7,53]) (kq [0,1,2]) 35 pn ?_
   refine ag hE 3 [] [] (kp [0,4,5,6,7,53,54]) (kq [0,1,2]) 51 pn ?_
   refine sA 1 [.code (fw 4050),.code (fw 4051),.inLoop (fw 1012),.inBlock 2,.code (fw 127)] ?_
   refine sC 54 (fw 8100) (fw 8101) true (fun _=>?_) (fun hq=>absurd hq (by decide)) 
   refine ag hE 4 [] [] (kp [0,4,5,6,7,11,53]) (kq [0,1,2]) 83 pn ?_
   obtain ⟨av,rX,h⟩:=aQ h
   refine ag hE 1 [(4,oT (.agg (aj av)))] [] (kp [0,4,5,6,7,11,12,13,53]) (kq [0,1,2,243,259]) 307 (pc (show 0≤(0:Int)∧(0:Int) < 3 by decide) (pc o1 (pc (show Sd 49 [(.agg [(aB false),.nil,(aB false),.nil]),(.agg (aj aq.e0))] [] 0 (.agg (aj av)) [] from (Sound.conv (ft _ _ _ _ rX) (.cons (Alike.agg (.cons (Alike.refl _) (.cons Alike.nil (.cons (Alike.refl _) (.cons Alike.nil .nil))))) (.cons (Alike.refl _) .nil)))) (pc (show 0≤(0:Int)∧(0:Int) < 3 by decide) (pc o1 (pc o1 (pc o1 pn))))))) ?_
   refine ag hE 2 [] [] (kp [0,4,5,6,7,11,12,13,53,66,67,68]) (kq [0,1,2,243,259]) 355 pn ?_
   exact cP hE 2 [] (kp [0,4,5,6,7,11,12,13,53,66,67,68]) (kq [0,1,2] ++ [(3,.var 243 [.lW 4,.ah,.ah,.ah,.ah]),(4,.nil 4 (fun zi=>aj (([]:List aa).getD zi aa.d))),(5,.var 259 [.lW 6,.ah,.ah,.ah,.ah]),(6,.nil 4 (fun zi=>aj (([]:List aa).getD zi aa.d)))]) 7 pn (A2 N _ _ _ _ N _ _ _ _ h E hE)
theorem Ep (N l w r) (h:sO N l w=some r):Sd 22 [(aH ae.cells ae.d l),(.agg (dE.cells w))] [] 0 (.agg (bQ.cells r)) []:=by
 unfold sO at h
 refine im (fu:=Tryz.f22) (c:=fw 1) (nt:=137) (fun hm=>rfl) ?_
 intro E hE
 refine ag hE 1 [] [] (kp [0,3,4]) (kq [0,16]) 32 pn ?_
 refine ag hE 1 [] [] (kp [0,3,4,5]) (kq [0,16]) 80 pn ?_
 obtain ⟨aq,hr,h⟩:=aQ h
 refine ag hE 1 [(1,oT (.agg (aw.cells aq)))] [] (kp [0,4,5,6]) (kq [16,112]) 144 (pc o1 (pc (qN _ _ _ hr) (pc o1 pn))) ?_
 refine ag hE 1 [] [] (kp [0,4,5,6,7]) (kq [16,112]) 160 pn ?_
 refine ag hE 2 [] [] (kp [0,4,5,6,7,26,27]) (kq [16,112]) 192 pn ?_
 exact cP hE 2 [] (kp [0,4,5,6] ++ [(7,.lW 2)] ++ kp [26,27]) [(0,.ah 16),(1,.ah 112),(2,.nil 5 (fun zi=>om (([]:List ab).getD zi ab.d)))] 3 pn (A3 N _ _ N _ _ _ h E hE)
noncomputable abbrev Tx:=cl Tryz.f23
def Er (N:Nat) (s:ByteArray) (K:Int→Option (Bool)):Prop:=∀ (i:Int) (r:Bool),K i=some r→∀ E,bk E 0→aG Tryz.prog E 23 55 (bc E [] (aB r)) [.code (Tx 116),.inLoop (Tx 116),.inBlock 0,.code (Tx 15)] ⟨[(0,(aS s)),(3,(aI i))],[],0⟩
theorem De (N s fuel):Er N s (kb N s fuel):=by
 induction fuel with
 | zero=>intro _ r h;rw [kb.eq_1] at h;cases h
 | succ fuel ih =>
  intro i r h E hE
  rw [kb.eq_2] at h
  refine ag hE 2 [] [] (kp [0,3,17]) [] 64 pn ?_
  refine du 0 17 h (fun jx h=>?_) (fun jx h=>?_)
  ·obtain ⟨c,h⟩:=af h
   refine ag hE 4 [] [] (kp [0,3,4]) [] 128 (pc c pn) ?_
   refine ag hE 1 [] [] (kp [0,3,4,5]) [] 368 (pc (fun hg:(decide ((zA s i)≥97))=true=>(pc hg pn)) (pc (fun hq:(decide ((zA s i)≥97))=true=>(pc hq pn)) (pc (fun hg:(!(cond (decide ((zA s i)≥97)) (decide ((zA s i)≤122)) false))=true=>(pc hg pn)) (pc (fun hg:((!(cond (decide ((zA s i)≥97)) (decide ((zA s i)≤122)) false)) && ((!(cond (decide ((zA s i)≥97)) (decide ((zA s i)≤122)) false)) && (decide ((zA s i)≥65))))=true=>(pc hg pn)) (pc (fun hg:(!(cond (decide ((zA s i)≥97)) (decide ((zA s i)≤122)) false))=true=>(pc hg (pc hg (pc (fun hq:(decide ((zA s i)≥65))=true=>(pc (show ((!(cond (decide ((zA s i)≥97)) (decide ((zA s i)≤122)) false)) && ((!(cond (decide ((zA s i)≥97)) (decide ((zA s i)≤122)) false)) && (decide ((zA s i)≥65))))=true from (jz hg (jz hg hq))) pn)) pn)))) (pc (fun hq:(!(cond (decide ((zA s i)≥97)) (decide ((zA s i)≤122)) false))=true=>(pc hq pn)) pn)))))) ?_
   refine ag hE 1 [] [] (kp [0,3,54]) [] 656 (pc (fun hg:(!(cond (cond (decide ((zA s i)≥97)) (decide ((zA s i)≤122)) false) true (cond (decide ((zA s i)≥65)) (decide ((zA s i)≤90)) false)))=true=>(pc hg pn)) (pc (fun hg:((!(cond (cond (decide ((zA s i)≥97)) (decide ((zA s i)≤122)) false) true (cond (decide ((zA s i)≥65)) (decide ((zA s i)≤90)) false))) && ((!(cond (cond (decide ((zA s i)≥97)) (decide ((zA s i)≤122)) false) true (cond (decide ((zA s i)≥65)) (decide ((zA s i)≤90)) false))) && (!(i == 0))))=true=>(pc hg pn)) (pc (fun hg:(((!(cond (cond (decide ((zA s i)≥97)) (decide ((zA s i)≤122)) false) true (cond (decide ((zA s i)≥65)) (decide ((zA s i)≤90)) false))) && ((!(cond (cond (decide ((zA s i)≥97)) (decide ((zA s i)≤122)) false) true (cond (decide ((zA s i)≥65)) (decide ((zA s i)≤90)) false))) && (!(i == 0)))) && (((!(cond (cond (decide ((zA s i)≥97)) (decide ((zA s i)≤122)) false) true (cond (decide ((zA s i)≥65)) (decide ((zA s i)≤90)) false))) && ((!(cond (cond (decide ((zA s i)≥97)) (decide ((zA s i)≤122)) false) true (cond (decide ((zA s i)≥65)) (decide ((zA s i)≤90)) false))) && (!(i == 0)))) && ((zA s i) != 45)))=true=>(pc hg pn)) (pc (fun hg:((((!(cond (cond (decide ((zA s i)≥97)) (decide ((zA s i)≤122)) false) true (cond (decide ((zA s i)≥65)) (decide ((zA s i)≤90)) false))) && ((!(cond (cond (decide ((zA s i)≥97)) (decide ((zA s i)≤122)) false) true (cond (decide ((zA s i)≥65)) (decide ((zA s i)≤90)) false))) && (!(i == 0)))) && (((!(cond (cond (decide ((zA s i)≥97)) (decide ((zA s i)≤122)) false) true (cond (decide ((zA s i)≥65)) (decide ((zA s i)≤90)) false))) && ((!(cond (cond (decide ((zA s i)≥97)) (decide ((zA s i)≤122)) false) true (cond (decide ((zA s i)≥65)) (decide ((zA s i)≤90)) false))) && (!(i == 0)))) && ((zA s i) != 45))) && ((((!(cond (cond (decide ((zA s i)≥97)) (decide ((zA s i)≤122)) false) true (cond (decide ((zA s i)≥65)) (decide ((zA s i)≤90)) false))) && ((!(cond (cond (decide ((zA s i)≥97)) (decide ((zA s i)≤122)) false) true (cond (decide ((zA s i)≥65)) (decide ((zA s i)≤90)) false))) && (!(i == 0)))) && (((!(cond (cond (decide ((zA s i)≥97)) (decide ((zA s i)≤122)) false) true (cond (decide ((zA s i)≥65)) (decide ((zA s i)≤90)) false))) && ((!(cond (cond (decide ((zA s i)≥97)) (decide ((zA s i)≤122)) false) true (cond (decide ((zA s i)≥65)) (decide ((zA s i)≤90)) false))) && (!(i == 0)))) && ((zA s i) != 45))) && (!(decide ((zA s i) < 48)))))=true=>(pc hg pn)) (pc (fun hg:(((!(cond (cond (decide ((zA s i)≥97)) (decide ((zA s i)≤122)) false) true (cond (decide ((zA s i)≥65)) (decide ((zA s i)≤90)) false))) && ((!(cond (cond (decide ((zA s i)≥97)) (decide ((zA s i)≤122)) false) true (cond (decide ((zA s i)≥65)) (decide ((zA s i)≤90)) false))) && (!(i == 0)))) && (((!(cond (cond (decide ((zA s i)≥97)) (decide ((zA s i)≤122)) false) true (cond (decide ((zA s i)≥65)) (decide ((zA s i)≤90)) false))) && ((!(cond (cond (decide ((zA s i)≥97)) (decide ((zA s i)≤122)) false) true (cond (decide ((zA s i)≥65)) (decide ((zA s i)≤90)) false))) && (!(i == 0)))) && ((zA s i) != 45)))=true=>(pc hg (pc hg (pc (fun hq:(!(decide ((zA s i) < 48)))=true=>(pc (show ((((!(cond (cond (decide ((zA s i)≥97)) (decide ((zA s i)≤122)) false) true (cond (decide ((zA s i)≥65)) (decide ((zA s i)≤90)) false))) && ((!(cond (cond (decide ((zA s i)≥97)) (decide ((zA s i)≤122)) false) true (cond (decide ((zA s i)≥65)) (decide ((zA s i)≤90)) false))) && (!(i == 0)))) && (((!(cond (cond (decide ((zA s i)≥97)) (decide ((zA s i)≤122)) false) true (cond (decide ((zA s i)≥65)) (decide ((zA s i)≤90)) false))) && ((!(cond (cond (decide ((zA s i)≥97)) (decide ((zA s i)≤122)) false) true (cond (decide ((zA s i)≥65)) (decide ((zA s i)≤90)) false))) && (!(i == 0)))) && ((zA s i) != 45))) && ((((!(cond (cond (decide ((zA s i)≥97)) (decide ((zA s i)≤122)) false) true (cond (decide ((zA s i)≥65)) (decide ((zA s i)≤90)) false))) && ((!(cond (cond (decide ((zA s i)≥97)) (decide ((zA s i)≤122)) false) true (cond (decide ((zA s i)≥65)) (decide ((zA s i)≤90)) false))) && (!(i == 0)))) && (((!(cond (cond (decide ((zA s i)≥97)) (decide ((zA s i)≤122)) false) true (cond (decide ((zA s i)≥65)) (decide ((zA s i)≤90)) false))) && ((!(cond (cond (decide ((zA s i)≥97)) (decide ((zA s i)≤122)) false) true (cond (decide ((zA s i)≥65)) (decide ((zA s i)≤90)) false))) && (!(i == 0)))) && ((zA s i) != 45))) && (!(decide ((zA s i) < 48)))))=true from (jz hg (jz hg hq))) pn)) pn)))) (pc (fun hg:((!(cond (cond (decide ((zA s i)≥97)) (decide ((zA s i)≤122)) false) true (cond (decide ((zA s i)≥65)) (decide ((zA s i)≤90)) false))) && ((!(cond (cond (decide ((zA s i)≥97)) (decide ((zA s i)≤122)) false) true (cond (decide ((zA s i)≥65)) (decide ((zA s i)≤90)) false))) && (!(i == 0))))=true=>(pc hg (pc hg (pc (fun hq:((zA s i) != 45)=true=>(pc (show (((!(cond (cond (decide ((zA s i)≥97)) (decide ((zA s i)≤122)) false) true (cond (decide ((zA s i)≥65)) (decide ((zA s i)≤90)) false))) && ((!(cond (cond (decide ((zA s i)≥97)) (decide ((zA s i)≤122)) false) true (cond (decide ((zA s i)≥65)) (decide ((zA s i)≤90)) false))) && (!(i == 0)))) && (((!(cond (cond (decide ((zA s i)≥97)) (decide ((zA s i)≤122)) false) true (cond (decide ((zA s i)≥65)) (decide ((zA s i)≤90)) false))) && ((!(cond (cond (decide ((zA s i)≥97)) (decide ((zA s i)≤122)) false) true (cond (decide ((zA s i)≥65)) (decide ((zA s i)≤90)) false))) && (!(i == 0)))) && ((zA s i) != 45)))=true from (jz hg (jz hg hq))) pn)) pn)))) (pc (fun hg:(!(cond (cond (decide ((zA s i)≥97)) (decide ((zA s i)≤122)) false) true (cond (decide ((zA s i)≥65)) (decide ((zA s i)≤90)) false)))=true=>(pc hg (pc hg (pc (fun hq:(!(i == 0))=true=>(pc (show ((!(cond (cond (decide ((zA s i)≥97)) (decide ((zA s i)≤122)) false) true (cond (decide ((zA s i)≥65)) (decide ((zA s i)≤90)) false))) && ((!(cond (cond (decide ((zA s i)≥97)) (decide ((zA s i)≤122)) false) true (cond (decide ((zA s i)≥65)) (decide ((zA s i)≤90)) false))) && (!(i == 0))))=true from (jz hg (jz hg hq))) pn)) pn)))) (pc (fun hq:(!(cond (cond (decide ((zA s i)≥97)) (decide ((zA s i)≤122)) false) true (cond (decide ((zA s i)≥65)) (decide ((zA s i)≤90)) false)))=true=>(pc hq pn)) pn)))))))) ?_
   refine du 0 54 h (fun rV h=>?_) (fun rV h=>?_)
   ·refine ag hE 1 [] [] (kp [2]) [] 672 pn ?_
    obtain rfl:=cX h
    exact db hE 0 Tryz.f23 [] (kp [2]) [] 672 pn [] pn
   ·refine ag hE 2 [] [] (kp [0,3]) [] 704 pn ?_
    exact cP hE 1 [] (kp [0,3]) [] 0 pn (ih _ _ h E hE)
  ·refine ag hE 2 [] [] (kp [2]) [] 80 pn ?_
   obtain rfl:=cX h
   exact db hE 0 Tryz.f23 [] (kp [2]) [] 80 pn [] pn
theorem Hu (N s r) (h:tF N s=some r):Sd 23 [(aS s)] [] 0 (aB r) []:=by
 unfold tF at h
 refine im (fu:=Tryz.f23) (c:=Tx 1) (nt:=55) (fun hm=>rfl) ?_
 intro E hE
 refine ag hE 1 [] [] (kp [0]) [] 16 pn ?_
 refine ag hE 2 [] [] (kp [0,13]) [] 144 (pc (fun hg:(!(decide (((s.size:Nat):Int) < 1)))=true=>(pc hg pn)) (pc (fun hg:(!(decide (((s.size:Nat):Int) < 1)))=true=>(pc hg pn)) (pc (fun hq:(!(decide (((s.size:Nat):Int) < 1)))=true=>(pc hq pn)) pn))) ?_
 refine du 0 13 h (fun ee h=>?_) (fun ee h=>?_)
 ·refine ag hE 1 [] [] (kp [2]) [] 160 pn ?_
  obtain rfl:=cX h
  exact db hE 0 Tryz.f23 [] (kp [2]) [] 160 pn [] pn
 ·refine ag hE 3 [] [] (kp [0,3]) [] 160 pn ?_
  exact cP hE 2 [] (kp [0,3]) [] 0 pn (De N _ N _ _ h E hE)
noncomputable abbrev aaP:=cl Tryz.f25
theorem iC (N n low high r) (h:gr N n low high=some r):Sd 25 [(aI n),(aI low),(aI high)] [] 0 (aB r) []:=by
 unfold gr at h
 refine im (fu:=Tryz.f25) (c:=aaP 1) (nt:=15) (fun hm=>rfl) ?_
 intro E hE
 refine ag hE 1 [] [] (kp [0,1,2]) [] 16 pn ?_
 refine ag hE 1 [] [] (kp [6]) [] 160 (pc (fun hg:(decide (n≥low))=true=>(pc hg (pc hg pn))) (pc (fun hq:(decide (n≥low))=true=>(pc hq pn)) pn)) ?_
 obtain rfl:=cX h
 exact db hE 0 Tryz.f25 [] (kp [6]) [] 160 pn [] pn
noncomputable abbrev aaQ:=cl Tryz.f24
theorem A4 (N l r) (h:mP N l=some r):Sd 24 [(.agg (ae.cells l))] [] 0 (aI r) []:=by
 unfold mP at h
 refine im (fu:=Tryz.f24) (c:=aaQ 1) (nt:=43) (fun hm=>rfl) ?_
 intro E hE
 refine ag hE 1 [] [] (kp [1]) (kq [0]) 32 pn ?_
 obtain ⟨xS,hr,h⟩:=aQ h
 obtain ⟨qK,eX,h⟩:=aQ h
 obtain ⟨yG,kE,h⟩:=aQ h
 obtain ⟨KP,nu,h⟩:=aQ h
 obtain ⟨VN,rX,h⟩:=aQ h
 refine ag hE 2 [(2,oT (aB xS)),(7,oT (aB qK)),(13,oT (aB yG)),(19,oT (aB KP)),(25,oT (aB VN))] [] (kp [1,30]) (kq [0]) 480 (pc o1 (pc (iC _ _ _ _ _ hr) (pc (fun hg:(!(!xS))=true=>(pc hg (pc o1 pn))) (pc (fun hg:(!(!xS))=true=>(pc (iC _ _ _ _ _ (aR eX hg)) (pc hg pn))) (pc (fun hg:(!(!xS))=true=>(pc hg pn)) (pc (fun hq:(!(!xS))=true=>(pc hq pn)) (pc (fun hg:(!(cond (!xS) true (!qK)))=true=>(pc hg (pc o1 pn))) (pc (fun hg:(!(cond (!xS) true (!qK)))=true=>(pc (iC _ _ _ _ _ (aR kE hg)) (pc hg pn))) (pc (fun hg:(!(cond (!xS) true (!qK)))=true=>(pc hg pn)) (pc (fun hq:(!(cond (!xS) true (!qK)))=true=>(pc hq pn)) (pc (fun hg:(!(cond (cond (!xS) true (!qK)) true (!yG)))=true=>(pc hg (pc o1 pn))) (pc (fun hg:(!(cond (cond (!xS) true (!qK)) true (!yG)))=true=>(pc (iC _ _ _ _ _ (aR nu hg)) (pc hg pn))) (pc (fun hg:(!(cond (cond (!xS) true (!qK)) true (!yG)))=true=>(pc hg pn)) (pc (fun hq:(!(cond (cond (!xS) true (!qK)) true (!yG)))=true=>(pc hq pn)) (pc (fun hg:(!(cond (cond (cond (!xS) true (!qK)) true (!yG)) true (!KP)))=true=>(pc hg (pc o1 pn))) (pc (fun hg:(!(cond (cond (cond (!xS) true (!qK)) true (!yG)) true (!KP)))=true=>(pc (iC _ _ _ _ _ (aR rX hg)) (pc hg pn))) (pc (fun hg:(!(cond (cond (cond (!xS) true (!qK)) true (!yG)) true (!KP)))=true=>(pc hg pn)) (pc (fun hq:(!(cond (cond (cond (!xS) true (!qK)) true (!yG)) true (!KP)))=true=>(pc hq pn)) pn)))))))))))))))))) ?_
 refine du 0 30 h (fun ee h=>?_) (fun ee h=>?_)
 ·refine ag hE 1 [] [] (kp [2]) [] 496 pn ?_
  obtain rfl:=cX h
  exact db hE 0 Tryz.f24 [] (kp [2]) [] 496 pn [] pn
 ·refine ag hE 3 [] [] (kp [42]) [] 672 (pc o1 (pc o1 (pc (fun hg:(l.iz == l.bV)=true=>(pc hg (pc o1 pn))) (pc (fun hg:(l.iz == l.bV)=true=>(pc hg (pc o1 pn))) (pc (fun hg:(l.iz == l.bV)=true=>(pc hg (pc hg pn))) (pc (fun hq:(l.iz == l.bV)=true=>(pc hq pn)) pn)))))) ?_
  refine du 0 42 h (fun jx h=>?_) (fun jx h=>?_)
  ·refine ag hE 1 [] [] (kp [2]) [] 688 pn ?_
   obtain rfl:=cX h
   exact db hE 0 Tryz.f24 [] (kp [2]) [] 688 pn [] pn
  ·refine ag hE 2 [] [] (kp [2]) [] 688 pn ?_
   obtain rfl:=cX h
   exact db hE 0 Tryz.f24 [] (kp [2]) [] 688 pn [] pn
noncomputable abbrev Hv:=cl Tryz.f9
def qA (N:Nat) (l:List ae) (K:Int→Option (Int)):Prop:=∀ (i:Int) (r:Int),K i=some r→∀ E,bk E 0→aG Tryz.prog E 9 46 (bc E [] (aI r)) [.code (Hv 116),.inLoop (Hv 116),.inBlock 0,.code (Hv 15)] ⟨[(0,(aH ae.cells ae.d l)),(3,(aI i))],[],0⟩
def x5 (N:Nat) (l:List ae) (i:Int) (K:Int→Option (Int)):Prop:=∀ (k:Int) (r:Int),K k=some r→∀ E,bk E 0→aG Tryz.prog E 9 46 (bc E [] (aI r)) [.code (Hv 29844),.inLoop (Hv 29844),.inBlock 2,.code (Hv 3731),.inBlock 1,.code (Hv 467),.inLoop (Hv 116),.inBlock 0,.code (Hv 15)] ⟨[(0,(aH ae.cells ae.d l)),(3,(aI i)),(4,(aI k))],[],0⟩
theorem xk (N:Nat) (l:List ae) (i:Int) (iT:Int→Option (Int)) (xl:qA N l iT) (fuel:Nat):x5 N l i (dZ N l i iT fuel):=by
 induction fuel with
 | zero=>intro _ r h;rw [dZ.eq_1] at h;cases h
 | succ fuel ih =>
  intro k r h E hE
  rw [dZ.eq_2] at h
  refine ag hE 2 [] [] (kp [0,3,4,24]) [] 48 pn ?_
  refine du 0 24 h (fun BS h=>?_) (fun BS h=>?_)
  ·obtain ⟨c2,h⟩:=af h
   obtain ⟨c3,h⟩:=af h
   refine ag hE 4 [] [] (kp [0,3,4,37]) [] 224 (pc c2 (pc c3 pn)) ?_
   refine du 0 37 h (fun Jv h=>?_) (fun Jv h=>?_)
   ·refine ag hE 1 [] [] (kp [2]) [] 240 pn ?_
    obtain rfl:=cX h
    exact db hE 0 Tryz.f9 [] (kp [2]) [] 240 pn [] pn
   ·refine ag hE 2 [] [] (kp [0,3,4]) [] 272 pn ?_
    exact cP hE 1 [] (kp [0,3,4]) [] 0 pn (ih _ _ h E hE)
  ·obtain ⟨c4,h⟩:=af h
   obtain ⟨mh,eX,h⟩:=aQ h
   refine ag hE 2 [(4,oT (aI mh))] [] (kp [0,3,5]) [] 144 (pc c4 (pc (A4 _ _ _ eX) pn)) ?_
   refine ag hE 1 [] [] (kp [0,3,5,44]) [] 176 pn ?_
   refine du 0 44 h (fun VX h=>?_) (fun VX h=>?_)
   ·refine ag hE 1 [] [] (kp [2]) [] 208 pn ?_
    obtain rfl:=cX h
    exact db hE 0 Tryz.f9 [] (kp [2]) [] 208 pn [] pn
   ·refine ag hE 2 [] [] (kp [0,3]) [] 224 pn ?_
    exact cP hE 1 [] (kp [0,3]) [] 0 pn (xl _ _ h E hE)
theorem xm (N l fuel):qA N l (eP N l fuel):=by
 induction fuel with
 | zero=>intro _ r h;rw [eP.eq_1] at h;cases h
 | succ fuel ih =>
  intro i r h E hE
  rw [eP.eq_2] at h
  refine ag hE 2 [] [] (kp [0,3,12]) [] 64 pn ?_
  refine du 0 12 h (fun jx h=>?_) (fun jx h=>?_)
  ·obtain ⟨c,h⟩:=af h
   obtain ⟨Jp,hr,h⟩:=aQ h
   refine ag hE 5 [(5,oT (aB Jp))] [] (kp [0,3,21]) [] 176 (pc c (pc (Hu _ _ _ hr) pn)) ?_
   refine du 0 21 h (fun rV h=>?_) (fun rV h=>?_)
   ·refine ag hE 1 [] [] (kp [2]) [] 192 pn ?_
    obtain rfl:=cX h
    exact db hE 0 Tryz.f9 [] (kp [2]) [] 192 pn [] pn
   ·refine ag hE 3 [] [] (kp [0,3,4]) [] 192 pn ?_
    exact cP hE 2 [] (kp [0,3,4]) [] 0 pn (xk N _ _ _ ih N _ _ h E hE)
  ·refine ag hE 2 [] [] (kp [2]) [] 80 pn ?_
   obtain rfl:=cX h
   exact db hE 0 Tryz.f9 [] (kp [2]) [] 80 pn [] pn
theorem sB (N l r) (h:jb N l=some r):Sd 9 [(aH ae.cells ae.d l)] [] 0 (aI r) []:=by
 unfold jb at h
 refine im (fu:=Tryz.f9) (c:=Hv 1) (nt:=46) (fun hm=>rfl) ?_
 intro E hE
 refine ag hE 1 [] [] (kp [0]) [] 16 pn ?_
 refine ag hE 2 [] [] (kp [0,8]) [] 64 pn ?_
 refine du 0 8 h (fun ee h=>?_) (fun ee h=>?_)
 ·refine ag hE 1 [] [] (kp [2]) [] 80 pn ?_
  obtain rfl:=cX h
  exact db hE 0 Tryz.f9 [] (kp [2]) [] 80 pn [] pn
 ·refine ag hE 3 [] [] (kp [0,3]) [] 80 pn ?_
  exact cP hE 2 [] (kp [0,3]) [] 0 pn (xm N _ N _ _ h E hE)
noncomputable abbrev aaR:=cl Tryz.f10
theorem A5 (N w r) (h:kU N w=some r):Sd 10 [(.agg (dE.cells w))] [] 0 (aI r) []:=by
 unfold kU at h
 refine im (fu:=Tryz.f10) (c:=aaR 1) (nt:=19) (fun hm=>rfl) ?_
 intro E hE
 refine ag hE 1 [] [] (kp [1]) (kq [0]) 32 pn ?_
 obtain ⟨xS,hr,h⟩:=aQ h
 obtain ⟨qK,eX,h⟩:=aQ h
 obtain ⟨yG,kE,h⟩:=aQ h
 refine ag hE 2 [(2,oT (aB xS)),(7,oT (aB qK)),(13,oT (aB yG))] [] (kp [18]) [] 288 (pc o1 (pc (iC _ _ _ _ _ hr) (pc (fun hg:(!(!xS))=true=>(pc hg (pc o1 pn))) (pc (fun hg:(!(!xS))=true=>(pc (iC _ _ _ _ _ (aR eX hg)) (pc hg pn))) (pc (fun hg:(!(!xS))=true=>(pc hg pn)) (pc (fun hq:(!(!xS))=true=>(pc hq pn)) (pc (fun hg:(!(cond (!xS) true (!qK)))=true=>(pc hg (pc o1 pn))) (pc (fun hg:(!(cond (!xS) true (!qK)))=true=>(pc (iC _ _ _ _ _ (aR kE hg)) (pc hg pn))) (pc (fun hg:(!(cond (!xS) true (!qK)))=true=>(pc hg pn)) (pc (fun hq:(!(cond (!xS) true (!qK)))=true=>(pc hq pn)) pn)))))))))) ?_
 refine du 0 18 h (fun ee h=>?_) (fun ee h=>?_)
 ·refine ag hE 1 [] [] (kp [2]) [] 304 pn ?_
  obtain rfl:=cX h
  exact db hE 0 Tryz.f10 [] (kp [2]) [] 304 pn [] pn
 ·refine ag hE 2 [] [] (kp [2]) [] 304 pn ?_
  obtain rfl:=cX h
  exact db hE 0 Tryz.f10 [] (kp [2]) [] 304 pn [] pn
noncomputable abbrev aaS:=cl Tryz.f11
theorem r9 (N l w r) (h:ly N l w=some r):Sd 11 [(aH ae.cells ae.d l),(.agg (dE.cells w))] [] 0 (.tup [(.agg (bQ.cells r.1)),(aI r.2)]) []:=by
 unfold ly at h
 refine im (fu:=Tryz.f11) (c:=aaS 1) (nt:=23) (fun hm=>rfl) ?_
 intro E hE
 refine ag hE 1 [] [] (kp [0,3,4]) (kq [0,16]) 48 pn ?_
 obtain ⟨dX,hr,h⟩:=aQ h
 refine ag hE 2 [(1,oT (aI dX))] [] (kp [0,3,4,6]) (kq [0,16]) 96 (pc (qz _ _ _ hr) pn) ?_
 refine ag hE 1 [] [] (kp [0,3,4,6,11]) (kq [0,16]) 128 pn ?_
 refine du 0 11 h (fun ee h=>?_) (fun ee h=>?_)
 ·refine ag hE 1 [] [] (kp [4,5]) (kq [16]) 192 (pc o1 pn) ?_
  obtain rfl:=cX h
  exact db hE 0 Tryz.f11 [] (kp [4,5]) [(16,.var 16 [.ah,.sl (([]:List aa).length) (fun zi=>aj (([]:List aa).getD zi aa.d)),.sl (([]:List aa).length) (fun zi=>aj (([]:List aa).getD zi aa.d))])] 192 (pc (Eq.refl 0) (pc (Eq.refl 0) pn)) [16] (pc o1 pn)
 ·obtain ⟨mj,eX,h⟩:=aQ h
  refine ag hE 3 [(1,oT (aI mj))] [] (kp [0,3,4,7]) (kq [0,16]) 176 (pc o1 (pc (rB _ _ _ eX) pn)) ?_
  refine ag hE 1 [] [] (kp [0,3,4,7,17]) (kq [0,16]) 208 pn ?_
  refine du 0 17 h (fun jx h=>?_) (fun jx h=>?_)
  ·refine ag hE 1 [] [] (kp [4,5]) (kq [16]) 272 (pc o1 pn) ?_
   obtain rfl:=cX h
   exact db hE 0 Tryz.f11 [] (kp [4,5]) [(16,.var 16 [.ah,.sl (([]:List aa).length) (fun zi=>aj (([]:List aa).getD zi aa.d)),.sl (([]:List aa).length) (fun zi=>aj (([]:List aa).getD zi aa.d))])] 272 (pc (Eq.refl 0) (pc (Eq.refl 0) pn)) [16] (pc o1 pn)
  ·obtain ⟨QT,kE,h⟩:=aQ h
   refine ag hE 2 [(2,oT (.agg (bQ.cells QT)))] [] (kp [4,5]) (kq [16]) 288 (pc o1 (pc (Ep _ _ _ _ kE) (pc o1 pn))) ?_
   obtain rfl:=cX h
   exact db hE 0 Tryz.f11 [] (kp [4,5]) (kq [16]) 288 pn [16] (pc o1 pn)
noncomputable abbrev Ty:=cl Tryz.f111
def Es (N:Nat) (neg:Bool) (a:List Int) (K:(List Int)→Int→Option (bP)):Prop:=∀ (x:List Int) (i:Int) (r:bP),K x i=some r→∀ E,bk E 0→aG Tryz.prog E 111 31 (bc E [] (.agg (lN r))) [.code (Ty 116),.inLoop (Ty 116),.inBlock 0,.code (Ty 15)] ⟨[(1,(aH cI 0 a)),(4,(.op 0 0 0)),(5,(.op 1 0 0)),(6,(aI i))],[(0,vO 2 [(aB false),.nil]),(1,vN 2 [(aB (cond neg (decide (((a.length:Nat):Int) > 0)) false)),(.os 2 0 x.length)]),(2,aU x)],3⟩
theorem Df (N neg a fuel):Es N neg a (kc N neg a fuel):=by
 induction fuel with
 | zero=>intro _ _ r h;rw [kc.eq_1] at h;cases h
 | succ fuel ih =>
  intro x i r h E hE
  rw [kc.eq_2] at h
  refine ag hE 2 [] [] (kp [1,4,5,6,17]) (kq [0,1,2]) 67 pn ?_
  refine du 0 17 h (fun ee h=>?_) (fun ee h=>?_)
  ·obtain ⟨c,h⟩:=af h
   obtain ⟨c2,h⟩:=af h
   refine ag hE 3 [] [] (kp [1,4,5,6]) (kq [0] ++ [(1,.var 1 [.ah,.jq ((x ++ ([(IntKind.u16.wrap ((a.getD ((i).toNat) 0)))]:List Int)).length)]),(195,.arr 195 ((x ++ ([(IntKind.u16.wrap ((a.getD ((i).toNat) 0)))]:List Int)).length) (fun zi=>(cU .u16) ((x ++ ([(IntKind.u16.wrap ((a.getD ((i).toNat) 0)))]:List Int)).getD zi 0)))]) 243 (pc o1 (pc c (pc (Eq.refl x.length) (pc c2 (pc (z1 1) (pc (show ∀ zi,zi < 1→AV.fJ ((fun zi=>([[(w9 (IntKind.u16.wrap ((a.getD ((i).toNat) 0))))]]:List (List AV)).getD zi []) (bC 0 zi))=true from (mI rfl)) (pc o1 (pc (show (x.length+1)=(x ++ ([(IntKind.u16.wrap ((a.getD ((i).toNat) 0)))]:List Int)).length from (an rfl rfl)) (pc (show x.length+1=(x ++ ([(IntKind.u16.wrap ((a.getD ((i).toNat) 0)))]:List Int)).length from (an rfl rfl)) (pc (show ∀ zi,zi < (x ++ ([(IntKind.u16.wrap ((a.getD ((i).toNat) 0)))]:List Int)).length→(fun zi=>(cU .u16) ((x ++ ([(IntKind.u16.wrap ((a.getD ((i).toNat) 0)))]:List Int)).getD zi 0)) zi=((fun zm=>if zm < x.length then (fun zi=>(cU .u16) (x.getD zi 0)) zm else (fun zi=>([[(w9 (IntKind.u16.wrap ((a.getD ((i).toNat) 0))))]]:List (List AV)).getD zi []) (zm - x.length))) zi from (aX (cU .u16) 0 x ([(IntKind.u16.wrap ((a.getD ((i).toNat) 0)))]:List Int) rfl (fun _ _=>rfl) (fun zq eY=>bB (cU .u16) 0 ([(IntKind.u16.wrap ((a.getD ((i).toNat) 0)))]:List Int) zq eY))) pn)))))))))) ?_
   refine ag hE 1 [] [] (kp [1,4,5,6]) (kq [0,1,195]) 291 pn ?_
   exact cP hE 1 [] (kp [1,4,5,6]) (kq [0,1] ++ [(2,.ah 195)]) 3 pn (ih _ _ _ h E hE)
  ·refine ag hE 2 [] [] (kp [4]) (kq [0,2]) 99 (pc o1 (pc o1 pn)) ?_
   obtain rfl:=cX h
   exact db hE 0 Tryz.f111 [2] (kp [4]) [(16,.var 0 [.ah,.sl (x.length) (fun zi=>(cU .u16) (x.getD zi 0))])] 99 (pc (Eq.refl x.length) (pc (z1 x.length) (pc (aZ x.length (fun zi=>(cU .u16) (x.getD zi 0))) pn))) [16] (pc o1 pn)
theorem jn (N neg a r) (h:fR N neg a=some r):Sd 111 [(aB neg),(aH cI 0 a)] [] 0 (.agg (lN r)) []:=by
 unfold fR at h
 refine im (fu:=Tryz.f111) (c:=Ty 1) (nt:=31) (fun hm=>rfl) ?_
 intro E hE
 refine ag hE 1 [] [] (kp [0,1,4]) (kq [0]) 16 pn ?_
 refine ag hE 1 [] [] (kp [1,4,5]) (kq [0,128]) 160 (pc (fun hg:neg=true=>(pc hg pn)) (pc (fun hg:neg=true=>(pc hg pn)) (pc (fun hq:neg=true=>(pc hq pn)) (pc o1 pn)))) ?_
 refine ag hE 2 [] [] (kp [1,4,5,6]) (kq [0,128]) 176 pn ?_
 exact cP hE 2 [] (kp [1,4,5,6]) (kq [0] ++ [(1,.var 128 [.ah,.lW 2]),(2,.nil 1 (fun zi=>(cU .u16) (([]:List Int).getD zi 0)))]) 3 pn (Df N _ _ N _ _ _ h E hE)
noncomputable abbrev Tz:=cl Tryz.f93
def Hw (N:Nat) (n:Int) (K:(List Int)→Int→Option (bP)):Prop:=∀ (a:List Int) (u:Int) (r:bP),K a u=some r→∀ E,bk E 0→aG Tryz.prog E 93 25 (bc E [] (.agg (lN r))) [.code (Tz 248),.inLoop (Tz 248),.inBlock 0,.code (Tz 63)] ⟨[(0,(aI n)),(2,(.op 0 0 0)),(3,(.os 1 0 a.length)),(4,(Iu u))],[(0,vO 2 [(aB false),.nil]),(1,aO 1 cI 0 a)],2⟩
theorem yV (N n fuel):Hw N n (lz N n fuel):=by
 induction fuel with
 | zero=>intro _ _ r h;rw [lz.eq_1] at h;cases h
 | succ fuel ih =>
  intro a u r h E hE
  rw [lz.eq_2] at h
  refine ag hE 2 [] [] (kp [0,2,3,4,12]) (kq [0,1]) 34 pn ?_
  refine du 0 12 h (fun jx h=>?_) (fun jx h=>?_)
  ·obtain ⟨c,h⟩:=af h
   refine ag hE 3 [] [] (kp [0,2] ++ [(3,.jq ((a ++ ([(ai ((u.tmod 65536)))]:List Int)).length))] ++ kp [4]) (kq [0] ++ [(114,.arr 114 ((a ++ ([(ai ((u.tmod 65536)))]:List Int)).length) (fun zi=>cI ((a ++ ([(ai ((u.tmod 65536)))]:List Int)).getD zi 0)))]) 146 (pc (show (65536:Int)≠0 by decide) (pc (Eq.refl a.length) (pc c (pc (z1 1) (pc (show ∀ zi,zi < 1→AV.fJ ((fun zi=>([[(aI (ai ((u.tmod 65536))))]]:List (List AV)).getD zi []) (bC 0 zi))=true from (mI rfl)) (pc (show (a.length+1)=(a ++ ([(ai ((u.tmod 65536)))]:List Int)).length from (an rfl rfl)) (pc (show a.length+1=(a ++ ([(ai ((u.tmod 65536)))]:List Int)).length from (an rfl rfl)) (pc (show ∀ zi,zi < (a ++ ([(ai ((u.tmod 65536)))]:List Int)).length→(fun zi=>cI ((a ++ ([(ai ((u.tmod 65536)))]:List Int)).getD zi 0)) zi=((fun zm=>if zm < a.length then (fun zi=>cI (a.getD zi 0)) zm else (fun zi=>([[(aI (ai ((u.tmod 65536))))]]:List (List AV)).getD zi []) (zm - a.length))) zi from (aX cI 0 a ([(ai ((u.tmod 65536)))]:List Int) rfl (fun _ _=>rfl) (fun zq eY=>bB cI 0 ([(ai ((u.tmod 65536)))]:List Int) zq eY))) pn)))))))) ?_
   refine ag hE 1 [] [] (kp [0,2,3,4]) (kq [0,114]) 194 (pc (show (65536:Int)≠0 by decide) pn) ?_
   exact cP hE 1 [] (kp [0,2,3,4]) (kq [0] ++ [(1,.ah 114)]) 2 pn (ih _ _ _ h E hE)
  ·obtain ⟨qi,hr,h⟩:=aQ h
   refine ag hE 2 [(3,⟨[],true,(.agg (lN qi)),[],0,true,none⟩)] [] (kp [2]) (kq [0]) 114 (pc (jn _ _ _ _ hr) (pc (z1 a.length) (pc o1 pn))) ?_
   obtain rfl:=cX h
   exact db hE 0 Tryz.f93 [] (kp [2]) [(16,.ah 0)] 114 pn [16] (pc o1 pn)
theorem yW (N n r) (h:rm N n=some r):Sd 93 [(aI n)] [] 0 (.agg (lN r)) []:=by
 unfold rm at h
 refine im (fu:=Tryz.f93) (c:=Tz 1) (nt:=25) (fun hm=>rfl) ?_
 intro E hE
 refine ag hE 1 [] [] (kp [0,2]) (kq [0]) 16 pn ?_
 refine ag hE 1 [] [] (kp [0,2,3]) (kq [0]) 32 pn ?_
 refine ag hE 1 [] [] (kp [0,2,3,4]) (kq [0]) 80 pn ?_
 refine ag hE 2 [] [] (kp [0,2,3,4,8]) (kq [0]) 112 pn ?_
 refine du 0 8 h (fun ee h=>?_) (fun ee h=>?_)
 ·refine ag hE 0 [] [] (kp [0,2,3,4]) (kq [0]) 160 pn ?_
  exact cP hE 3 [] (kp [0,2] ++ [(3,.lW 1)] ++ kp [4]) (kq [0] ++ [(1,.nil 1 (fun zi=>cI (([]:List Int).getD zi 0)))]) 2 pn (yV N _ N _ _ _ h E hE)
 ·exact cP hE 4 [] (kp [0,2] ++ [(3,.lW 1)] ++ kp [4]) (kq [0] ++ [(1,.nil 1 (fun zi=>cI (([]:List Int).getD zi 0)))]) 2 pn (yV N _ N _ _ _ h E hE)
noncomputable abbrev aaT:=cl Tryz.f54
theorem qO (N n r) (h:sP N n=some r):Sd 54 [(aI n)] [] 0 (.agg (aj r)) []:=by
 unfold sP at h
 refine im (fu:=Tryz.f54) (c:=aaT 1) (nt:=7) (fun hm=>rfl) ?_
 intro E hE
 refine ag hE 1 [] [] (kp [0,2]) (kq [0]) 16 pn ?_
 obtain ⟨Hc,hr,h⟩:=aQ h
 obtain ⟨MC,eX,h⟩:=aQ h
 refine ag hE 1 [(1,oT (.agg (lN Hc))),(2,oT (.agg (lN MC)))] [] (kp [2]) (kq [0]) 96 (pc (yW _ _ _ hr) (pc (yW _ _ _ eX) (pc o1 pn))) ?_
 obtain rfl:=cX h
 exact db hE 0 Tryz.f54 [] (kp [2]) [(16,.ah 0)] 96 pn [16] (pc o1 pn)
noncomputable abbrev TA:=cl Tryz.f129
def Et (N:Nat) (a:List Int) (K:Int→Option ((List Int))):Prop:=∀ (n:Int) (r:(List Int)),K n=some r→∀ E,bk E 0→aG Tryz.prog E 129 23 (bc E [] (aH cI 0 r)) [.code (TA 56),.inLoop (TA 56),.inBlock 0,.code (TA 15)] ⟨[(0,(aH cI 0 a)),(3,(aI n))],[],0⟩
theorem Dg (N a fuel):Et N a (ke N a fuel):=by
 induction fuel with
 | zero=>intro _ r h;rw [ke.eq_1] at h;cases h
 | succ fuel ih =>
  intro n r h E hE
  rw [ke.eq_2] at h
  obtain ⟨c,h⟩:=af h
  refine ag hE 2 [] [] (kp [0,3,15]) [] 160 (pc (fun hg:(decide (n > 0))=true=>(pc hg pn)) (pc (fun hg:(decide (n > 0))=true=>(pc hg (pc hg (pc (c hg) pn)))) (pc (fun hg:(decide (n > 0))=true=>(pc hg pn)) (pc (fun hg:(decide (n > 0))=true=>(pc hg pn)) (pc (fun hq:(decide (n > 0))=true=>(pc hq pn)) pn))))) ?_
  refine du 0 15 h (fun ee h=>?_) (fun ee h=>?_)
  ·refine ag hE 2 [] [] (kp [0,3]) [] 208 pn ?_
   exact cP hE 2 [] (kp [0,3]) [] 0 pn (ih _ _ h E hE)
  ·obtain ⟨c2,h⟩:=af h
   obtain ⟨c3,h⟩:=af h
   obtain ⟨c4,h⟩:=af h
   refine ag hE 2 [] [] [(2,.jq ((([]:List Int) ++ ((a.take ((n).toNat)).drop 0)).length))] [(224,.arr 224 ((([]:List Int) ++ ((a.take ((n).toNat)).drop 0)).length) (fun zi=>cI ((([]:List Int) ++ ((a.take ((n).toNat)).drop 0)).getD zi 0)))] 256 (pc c2 (pc c3 (pc (Eq.refl 0) (pc c4 (pc (show ∀ zi,zi < ((n).toNat - 0)→AV.fJ ((fun zi=>cI (a.getD (bC 0 zi) 0)) zi)=true from (fun _ _=>rfl)) (pc (show (0+((n).toNat - 0))=(([]:List Int) ++ ((a.take ((n).toNat)).drop 0)).length from (an rfl (yA a 0 ((n).toNat) c2))) (pc (show 0+((n).toNat - 0)=(([]:List Int) ++ ((a.take ((n).toNat)).drop 0)).length from (an rfl (yA a 0 ((n).toNat) c2))) (pc (show ∀ zi,zi < (([]:List Int) ++ ((a.take ((n).toNat)).drop 0)).length→(fun zi=>cI ((([]:List Int) ++ ((a.take ((n).toNat)).drop 0)).getD zi 0)) zi=((fun zm=>if zm < 0 then (fun _=>[]) zm else (fun zi=>cI (a.getD (bC 0 zi) 0)) (zm - 0))) zi from (aX cI 0 ([]:List Int) ((a.take ((n).toNat)).drop 0) rfl (fun zq eY=>absurd eY (dT _)) (fun zq eY=>EV cI 0 a 0 ((n).toNat) zq eY))) pn)))))))) ?_
   obtain rfl:=cX h
   exact db hE 0 Tryz.f129 [224] [(2,.sl ((([]:List Int) ++ ((a.take ((n).toNat)).drop 0)).length) (fun zi=>cI ((([]:List Int) ++ ((a.take ((n).toNat)).drop 0)).getD zi 0)))] [] 256 (pc (Eq.refl ((([]:List Int) ++ ((a.take ((n).toNat)).drop 0)).length)) (pc (z1 ((([]:List Int) ++ ((a.take ((n).toNat)).drop 0)).length)) (pc (aZ ((([]:List Int) ++ ((a.take ((n).toNat)).drop 0)).length) (fun zi=>cI ((([]:List Int) ++ ((a.take ((n).toNat)).drop 0)).getD zi 0))) pn))) [] pn
theorem m9 (N a r) (h:ml N a=some r):Sd 129 [(aH cI 0 a)] [] 0 (aH cI 0 r) []:=by
 unfold ml at h
 refine im (fu:=Tryz.f129) (c:=TA 1) (nt:=23) (fun hm=>rfl) ?_
 intro E hE
 refine ag hE 1 [] [] (kp [0]) [] 16 pn ?_
 refine ag hE 1 [] [] (kp [0,3]) [] 64 pn ?_
 exact cP hE 3 [] (kp [0,3]) [] 0 pn (Dg N _ N _ _ h E hE)
noncomputable abbrev TC:=cl Tryz.f112
def Eu (N:Nat) (l:List Int) (K:(List Int)→Int→Option ((List Int))):Prop:=∀ (a:List Int) (i:Int) (r:(List Int)),K a i=some r→∀ E,bk E 0→aG Tryz.prog E 112 21 (bc E [] (aH cI 0 r)) [.code (TC 116),.inLoop (TC 116),.inBlock 0,.code (TC 15)] ⟨[(0,(eU l)),(3,(.os 0 0 a.length)),(4,(aI i))],[(0,aO 1 cI 0 a)],1⟩
theorem Dh (N l fuel):Eu N l (kf N l fuel):=by
 induction fuel with
 | zero=>intro _ _ r h;rw [kf.eq_1] at h;cases h
 | succ fuel ih =>
  intro a i r h E hE
  rw [kf.eq_2] at h
  refine ag hE 2 [] [] (kp [0,3,4,8]) (kq [0]) 65 pn ?_
  refine du 0 8 h (fun ee h=>?_) (fun ee h=>?_)
  ·obtain ⟨c,h⟩:=af h
   obtain ⟨c2,h⟩:=af h
   refine ag hE 3 [] [] (kp [0] ++ [(3,.jq ((a ++ ([(ai ((l.getD ((i).toNat) 0)))]:List Int)).length))] ++ kp [4]) [(177,.arr 177 ((a ++ ([(ai ((l.getD ((i).toNat) 0)))]:List Int)).length) (fun zi=>cI ((a ++ ([(ai ((l.getD ((i).toNat) 0)))]:List Int)).getD zi 0)))] 209 (pc c (pc (Eq.refl a.length) (pc c2 (pc (z1 1) (pc (show ∀ zi,zi < 1→AV.fJ ((fun zi=>([[(aI (ai ((l.getD ((i).toNat) 0))))]]:List (List AV)).getD zi []) (bC 0 zi))=true from (mI rfl)) (pc (show (a.length+1)=(a ++ ([(ai ((l.getD ((i).toNat) 0)))]:List Int)).length from (an rfl rfl)) (pc (show a.length+1=(a ++ ([(ai ((l.getD ((i).toNat) 0)))]:List Int)).length from (an rfl rfl)) (pc (show ∀ zi,zi < (a ++ ([(ai ((l.getD ((i).toNat) 0)))]:List Int)).length→(fun zi=>cI ((a ++ ([(ai ((l.getD ((i).toNat) 0)))]:List Int)).getD zi 0)) zi=((fun zm=>if zm < a.length then (fun zi=>cI (a.getD zi 0)) zm else (fun zi=>([[(aI (ai ((l.getD ((i).toNat) 0))))]]:List (List AV)).getD zi []) (zm - a.length))) zi from (aX cI 0 a ([(ai ((l.getD ((i).toNat) 0)))]:List Int) rfl (fun _ _=>rfl) (fun zq eY=>bB cI 0 ([(ai ((l.getD ((i).toNat) 0)))]:List Int) zq eY))) pn)))))))) ?_
   refine ag hE 1 [] [] (kp [0,3,4]) (kq [177]) 257 pn ?_
   exact cP hE 1 [] (kp [0,3,4]) [(0,.ah 177)] 1 pn (ih _ _ _ h E hE)
  ·obtain ⟨cb,hr,h⟩:=aQ h
   refine ag hE 2 [(1,⟨[],true,(aH cI 0 cb),[],0,true,none⟩)] [] (kp [2]) [] 113 (pc (m9 _ _ _ hr) (pc (z1 a.length) pn)) ?_
   obtain rfl:=cX h
   exact db hE 0 Tryz.f112 [] (kp [2]) [] 113 pn [] pn
theorem lJ (N l r) (h:jL N l=some r):Sd 112 [(eU l)] [] 0 (aH cI 0 r) []:=by
 unfold jL at h
 refine im (fu:=Tryz.f112) (c:=TC 1) (nt:=21) (fun hm=>rfl) ?_
 intro E hE
 refine ag hE 1 [] [] (kp [0]) [] 16 pn ?_
 refine ag hE 1 [] [] (kp [0,3]) [] 32 pn ?_
 refine ag hE 2 [] [] (kp [0,3,4]) [] 48 pn ?_
 exact cP hE 2 [] (kp [0] ++ [(3,.lW 0)] ++ kp [4]) [(0,.nil 1 (fun zi=>cI (([]:List Int).getD zi 0)))] 1 pn (Dh N _ N _ _ _ h E hE)
noncomputable abbrev aaU:=cl Tryz.f131
theorem qm (N a i r) (h:ma N a i=some r):Sd 131 [(aH cI 0 a),(aI i)] [] 0 (aI r) []:=by
 unfold ma at h
 refine im (fu:=Tryz.f131) (c:=aaU 1) (nt:=13) (fun hm=>rfl) ?_
 intro E hE
 refine ag hE 1 [] [] (kp [0,1]) [] 16 pn ?_
 refine ag hE 2 [] [] (kp [0,1,8]) [] 80 pn ?_
 refine du 0 8 h (fun ee h=>?_) (fun ee h=>?_)
 ·obtain ⟨c,h⟩:=af h
  refine ag hE 1 [] [] (kp [4]) [] 160 (pc c pn) ?_
  obtain rfl:=cX h
  exact db hE 0 Tryz.f131 [] (kp [4]) [] 160 pn [] pn
 ·refine ag hE 2 [] [] (kp [4]) [] 96 pn ?_
  obtain rfl:=cX h
  exact db hE 0 Tryz.f131 [] (kp [4]) [] 96 pn [] pn
noncomputable abbrev JB:=cl Tryz.f121
def wi (N:Nat) (a:List Int) (b:List Int) (K:(List Int)→Int→Option ((List Int))):Prop:=∀ (out:List Int) (i:Int) (r:(List Int)),K out i=some r→∀ E,bk E 0→aG Tryz.prog E 121 61 (bc E [] (aH cI 0 r)) [.code (JB 116),.inLoop (JB 116),.inBlock 0,.code (JB 15)] ⟨[(0,(aH cI 0 a)),(1,(aH cI 0 b)),(5,(.os 0 0 out.length)),(6,(aI i))],[(0,aO 1 cI 0 out)],1⟩
def Di (N:Nat) (a:List Int) (b:List Int) (i:Int) (K:(List Int)→Int→Int→Option ((List Int))):Prop:=∀ (gy:List Int) (carry:Int) (k:Int) (r:(List Int)),K gy carry k=some r→∀ E,bk E 0→aG Tryz.prog E 121 61 (bc E [] (aH cI 0 r)) [.code (JB 14924),.inLoop (JB 14924),.inBlock 2,.inBlock 1,.code (JB 467),.inLoop (JB 116),.inBlock 0,.code (JB 15)] ⟨[(0,(aH cI 0 a)),(1,(aH cI 0 b)),(5,(.os 0 0 gy.length)),(6,(aI i)),(7,(aI carry)),(8,(aI k))],[(0,aO 1 cI 0 gy)],1⟩
theorem B4 (N:Nat) (a:List Int) (b:List Int) (i:Int) (lY:(List Int)→Int→Option ((List Int))) (B5:wi N a b lY) (fuel:Nat):Di N a b i (jv N a b i lY fuel):=by
 induction fuel with
 | zero=>intro _ _ _ r h;rw [jv.eq_1] at h;cases h
 | succ fuel ih =>
  intro gy carry k r h E hE
  rw [jv.eq_2] at h
  refine ag hE 2 [] [] (kp [0,1,5,6,7,8,30]) (kq [0]) 129 (pc (fun hg:(!(decide (k < ((b.length:Nat):Int))))=true=>(pc hg pn)) (pc (fun hq:(!(decide (k < ((b.length:Nat):Int))))=true=>(pc hq pn)) pn)) ?_
  refine du 0 30 h (fun jx h=>?_) (fun jx h=>?_)
  ·obtain ⟨c2,h⟩:=af h
   obtain ⟨c3,h⟩:=af h
   obtain ⟨cO,hr,h⟩:=aQ h
   refine ag hE 4 [(12,oT (aI cO))] [] (kp [0,1,5,6,8,9]) (kq [0]) 417 (pc c2 (pc (dP c2) (pc c3 (pc (qm _ _ _ _ hr) pn)))) ?_
   refine ag hE 1 [] [] (kp [0,1] ++ [(5,.jq ((gy.set ((ai (i+k)).toNat) ((ai ((ai ((gy.getD ((ai (i+k)).toNat) 0)+(ai ((a.getD ((i).toNat) 0) * cO))))+carry)).tmod 65536)).length))] ++ kp [6,8,9]) [(0,.arr 0 ((gy.set ((ai (i+k)).toNat) ((ai ((ai ((gy.getD ((ai (i+k)).toNat) 0)+(ai ((a.getD ((i).toNat) 0) * cO))))+carry)).tmod 65536)).length) (fun zi=>cI ((gy.set ((ai (i+k)).toNat) ((ai ((ai ((gy.getD ((ai (i+k)).toNat) 0)+(ai ((a.getD ((i).toNat) 0) * cO))))+carry)).tmod 65536)).getD zi 0)))] 545 (pc (show (65536:Int)≠0 by decide) (pc c2 (pc (dP c2) (pc (ay gy ((ai (i+k)).toNat) ((ai ((ai ((gy.getD ((ai (i+k)).toNat) 0)+(ai ((a.getD ((i).toNat) 0) * cO))))+carry)).tmod 65536)) (pc (ay gy ((ai (i+k)).toNat) ((ai ((ai ((gy.getD ((ai (i+k)).toNat) 0)+(ai ((a.getD ((i).toNat) 0) * cO))))+carry)).tmod 65536)) (pc (cA cI 0 gy ((ai (i+k)).toNat) ((ai ((ai ((gy.getD ((ai (i+k)).toNat) 0)+(ai ((a.getD ((i).toNat) 0) * cO))))+carry)).tmod 65536)) pn)))))) ?_
   refine ag hE 0 [] [] (kp [0,1,5,6,7,8]) (kq [0]) 593 (pc (show (65536:Int)≠0 by decide) pn) ?_
   refine ag hE 1 [] [] (kp [0,1,5,6,7,8]) (kq [0]) 641 pn ?_
   exact cP hE 1 [] (kp [0,1,5,6,7,8]) (kq [0]) 1 pn (ih _ _ _ _ h E hE)
  ·refine ag hE 2 [] [] (kp [0,1,5,6]) (kq [0]) 177 pn ?_
   exact cP hE 1 [] (kp [0,1,5,6]) (kq [0]) 1 pn (B5 _ _ _ h E hE)
theorem B6 (N a b fuel):wi N a b (jw N a b fuel):=by
 induction fuel with
 | zero=>intro _ _ r h;rw [jw.eq_1] at h;cases h
 | succ fuel ih =>
  intro out i r h E hE
  rw [jw.eq_2] at h
  refine ag hE 2 [] [] (kp [0,1,5,6,20]) (kq [0]) 65 pn ?_
  refine du 0 20 h (fun ee h=>?_) (fun ee h=>?_)
  ·refine ag hE 4 [] [] (kp [0,1,5,6,7]) (kq [0]) 81 pn ?_
   refine ag hE 1 [] [] (kp [0,1,5,6,7,8]) (kq [0]) 97 pn ?_
   exact cP hE 2 [] (kp [0,1,5,6,7,8]) (kq [0]) 1 pn (B4 N _ _ _ _ ih N _ _ _ _ h E hE)
  ·obtain ⟨cb,eX,h⟩:=aQ h
   refine ag hE 2 [(1,⟨[],true,(aH cI 0 cb),[],0,true,none⟩)] [] (kp [4]) [] 113 (pc (m9 _ _ _ eX) (pc (z1 out.length) pn)) ?_
   obtain rfl:=cX h
   exact db hE 0 Tryz.f121 [] (kp [4]) [] 113 pn [] pn
theorem tT (N a b r) (h:lA N a b=some r):Sd 121 [(aH cI 0 a),(aH cI 0 b)] [] 0 (aH cI 0 r) []:=by
 unfold lA at h
 refine im (fu:=Tryz.f121) (c:=JB 1) (nt:=61) (fun hm=>rfl) ?_
 intro E hE
 refine ag hE 1 [] [] (kp [0,1]) [] 16 pn ?_
 obtain ⟨c,h⟩:=af h
 refine ag hE 1 [] [] (kp [0,1] ++ [(5,.jq ((List.replicate ((ai ((ai (((a.length:Nat):Int)+((b.length:Nat):Int)))+1)).toNat) 0:List Int).length))]) [(112,.arr 112 ((List.replicate ((ai ((ai (((a.length:Nat):Int)+((b.length:Nat):Int)))+1)).toNat) 0:List Int).length) (fun zi=>cI ((List.replicate ((ai ((ai (((a.length:Nat):Int)+((b.length:Nat):Int)))+1)).toNat) 0:List Int).getD zi 0)))] 144 (pc (show 0≤(ai ((ai (((a.length:Nat):Int)+((b.length:Nat):Int)))+1)) from c.1) (pc (show (ai ((ai (((a.length:Nat):Int)+((b.length:Nat):Int)))+1))≤(ai ((ai (((a.length:Nat):Int)+((b.length:Nat):Int)))+1)) from (Int.le_refl _)) (pc (show (8:Int) * (ai ((ai (((a.length:Nat):Int)+((b.length:Nat):Int)))+1))≤281474976710656 from c.2.1) (pc (show (ai ((ai (((a.length:Nat):Int)+((b.length:Nat):Int)))+1))≤9223372036854775807 from c.2.2) (pc (show (ai ((ai (((a.length:Nat):Int)+((b.length:Nat):Int)))+1)).toNat=(List.replicate ((ai ((ai (((a.length:Nat):Int)+((b.length:Nat):Int)))+1)).toNat) 0:List Int).length from (cN).symm) (pc (show (ai ((ai (((a.length:Nat):Int)+((b.length:Nat):Int)))+1)).toNat=(List.replicate ((ai ((ai (((a.length:Nat):Int)+((b.length:Nat):Int)))+1)).toNat) 0:List Int).length from (cN).symm) (pc (show ∀ zi,zi < (List.replicate ((ai ((ai (((a.length:Nat):Int)+((b.length:Nat):Int)))+1)).toNat) 0:List Int).length→(fun zi=>cI ((List.replicate ((ai ((ai (((a.length:Nat):Int)+((b.length:Nat):Int)))+1)).toNat) 0:List Int).getD zi 0)) zi=(fun _=>[(aI 0)]) zi from (fun zq eY=>sL cI 0 0 ((ai ((ai (((a.length:Nat):Int)+((b.length:Nat):Int)))+1)).toNat) zq eY)) pn))))))) ?_
 refine ag hE 2 [] [] (kp [0,1,5,6]) (kq [112]) 160 pn ?_
 exact cP hE 2 [] (kp [0,1,5,6]) [(0,.ah 112)] 1 pn (B6 N _ _ N _ _ _ h E hE)
noncomputable abbrev TD:=cl Tryz.f119
def A6 (N:Nat) (a:List Int) (b:List Int) (K:Int→Option (Int)):Prop:=∀ (i:Int) (r:Int),K i=some r→∀ E,bk E 0→aG Tryz.prog E 119 41 (bc E [] (aI r)) [.code (TD 116),.inLoop (TD 116),.inBlock 0,.code (TD 15)] ⟨[(0,(aH cI 0 a)),(1,(aH cI 0 b)),(5,(aI i))],[],0⟩
theorem z8 (N a b fuel):A6 N a b (gK N a b fuel):=by
 induction fuel with
 | zero=>intro _ r h;rw [gK.eq_1] at h;cases h
 | succ fuel ih =>
  intro i r h E hE
  rw [gK.eq_2] at h
  refine ag hE 2 [] [] (kp [0,1,5,20]) [] 32 pn ?_
  refine du 0 20 h (fun jx h=>?_) (fun jx h=>?_)
  ·obtain ⟨c,h⟩:=af h
   obtain ⟨c2,h⟩:=af h
   refine ag hE 4 [] [] (kp [0,1,5,31]) [] 176 (pc c (pc c2 pn)) ?_
   refine du 0 31 h (fun rV h=>?_) (fun rV h=>?_)
   ·refine ag hE 1 [] [] (kp [4]) [] 336 (pc c (pc c2 pn)) ?_
    obtain rfl:=cX h
    exact db hE 0 Tryz.f119 [] (kp [4]) [] 336 pn [] pn
   ·refine ag hE 2 [] [] (kp [0,1,5]) [] 224 pn ?_
    exact cP hE 1 [] (kp [0,1,5]) [] 0 pn (ih _ _ h E hE)
  ·refine ag hE 2 [] [] (kp [4]) [] 48 pn ?_
   obtain rfl:=cX h
   exact db hE 0 Tryz.f119 [] (kp [4]) [] 48 pn [] pn
theorem wj (N a b r) (h:m5 N a b=some r):Sd 119 [(aH cI 0 a),(aH cI 0 b)] [] 0 (aI r) []:=by
 unfold m5 at h
 refine im (fu:=Tryz.f119) (c:=TD 1) (nt:=41) (fun hm=>rfl) ?_
 intro E hE
 refine ag hE 1 [] [] (kp [0,1]) [] 16 pn ?_
 refine ag hE 2 [] [] (kp [0,1,10]) [] 96 pn ?_
 refine du 0 10 h (fun ee h=>?_) (fun ee h=>?_)
 ·refine ag hE 1 [] [] (kp [4]) [] 192 pn ?_
  obtain rfl:=cX h
  exact db hE 0 Tryz.f119 [] (kp [4]) [] 192 pn [] pn
 ·refine ag hE 3 [] [] (kp [0,1,5]) [] 160 pn ?_
  exact cP hE 2 [] (kp [0,1,5]) [] 0 pn (z8 N _ _ N _ _ h E hE)
noncomputable abbrev KV:=cl Tryz.f120
def wm (N:Nat) (a:List Int) (b:List Int) (K:(List Int)→Int→Int→Option ((List Int))):Prop:=∀ (out:List Int) (borrow:Int) (i:Int) (r:(List Int)),K out borrow i=some r→∀ E,bk E 0→aG Tryz.prog E 120 35 (bc E [] (aH cI 0 r)) [.code (KV 244),.inLoop (KV 244),.inBlock 0,.code (KV 31)] ⟨[(0,(aH cI 0 a)),(1,(aH cI 0 b)),(5,(.os 0 0 out.length)),(6,(aI borrow)),(7,(aI i))],[(0,aO 1 cI 0 out)],1⟩
def Dj (N:Nat) (a:List Int) (b:List Int) (out:List Int) (i:Int) (K:Int→Int→Option ((List Int))):Prop:=∀ (kL:Int) (s:Int) (r:(List Int)),K kL s=some r→∀ E,bk E 0→aG Tryz.prog E 120 35 (bc E [] (aH cI 0 r)) [.code (KV 15655),.inBlock 1,.code (KV 979),.inLoop (KV 244),.inBlock 0,.code (KV 31)] ⟨[(0,(aH cI 0 a)),(1,(aH cI 0 b)),(5,(.os 0 0 out.length)),(6,(aI kL)),(7,(aI i)),(8,(aI s))],[(0,aO 1 cI 0 out)],1⟩
theorem uD (N:Nat) (a:List Int) (b:List Int) (out:List Int) (i:Int) (oa:(List Int)→Int→Int→Option ((List Int))) (B7:wm N a b oa):Dj N a b out i (lZ N a b out i oa):=by
 intro kL s r h E hE
 unfold lZ at h
 obtain ⟨c2,h⟩:=af h
 refine ag hE 0 [] [] (kp [0,1] ++ [(5,.jq ((out ++ ([s]:List Int)).length))] ++ kp [6,7]) [(49,.arr 49 ((out ++ ([s]:List Int)).length) (fun zi=>cI ((out ++ ([s]:List Int)).getD zi 0)))] 81 (pc (Eq.refl out.length) (pc c2 (pc (z1 1) (pc (show ∀ zi,zi < 1→AV.fJ ((fun zi=>([[(aI s)]]:List (List AV)).getD zi []) (bC 0 zi))=true from (mI rfl)) (pc (show (out.length+1)=(out ++ ([s]:List Int)).length from (an rfl rfl)) (pc (show out.length+1=(out ++ ([s]:List Int)).length from (an rfl rfl)) (pc (show ∀ zi,zi < (out ++ ([s]:List Int)).length→(fun zi=>cI ((out ++ ([s]:List Int)).getD zi 0)) zi=((fun zm=>if zm < out.length then (fun zi=>cI (out.getD zi 0)) zm else (fun zi=>([[(aI s)]]:List (List AV)).getD zi []) (zm - out.length))) zi from (aX cI 0 out ([s]:List Int) rfl (fun _ _=>rfl) (fun zq eY=>bB cI 0 ([s]:List Int) zq eY))) pn))))))) ?_
 refine ag hE 1 [] [] (kp [0,1,5,6,7]) (kq [49]) 129 pn ?_
 exact cP hE 1 [] (kp [0,1,5,6,7]) [(0,.ah 49)] 1 pn (B7 _ _ _ _ h E hE)
theorem B8 (N a b fuel):wm N a b (gi N a b fuel):=by
 induction fuel with
 | zero=>intro _ _ _ r h;rw [gi.eq_1] at h;cases h
 | succ fuel ih =>
  intro out borrow i r h E hE
  rw [gi.eq_2] at h
  refine ag hE 2 [] [] (kp [0,1,5,6,7,12]) (kq [0]) 65 pn ?_
  refine du 0 12 h (fun ee h=>?_) (fun ee h=>?_)
  ·obtain ⟨c,h⟩:=af h
   obtain ⟨cO,hr,h⟩:=aQ h
   refine ag hE 4 [(6,oT (aI cO))] [] (kp [0,1,5,7,8]) (kq [0]) 241 (pc c (pc (qm _ _ _ _ hr) pn)) ?_
   refine ag hE 1 [] [] (kp [0,1,5,6,7,8]) (kq [0]) 257 pn ?_
   refine ag hE 2 [] [] (kp [0,1,5,6,7,8,26]) (kq [0]) 289 pn ?_
   refine du 0 26 h (fun jx h=>?_) (fun jx h=>?_)
   ·refine ag hE 1 [] [] (kp [0,1,5,7,8]) (kq [0]) 337 pn ?_
    refine ag hE 0 [] [] (kp [0,1,5,6,7,8]) (kq [0]) 353 pn ?_
    exact cP hE 0 [] (kp [0,1,5,6,7,8]) (kq [0]) 1 pn (uD N _ _ _ _ _ ih _ _ _ h E hE)
   ·exact cP hE 1 [] (kp [0,1,5,6,7,8]) (kq [0]) 1 pn (uD N _ _ _ _ _ ih _ _ _ h E hE)
  ·obtain ⟨cb,eX,h⟩:=aQ h
   refine ag hE 2 [(1,⟨[],true,(aH cI 0 cb),[],0,true,none⟩)] [] (kp [4]) [] 113 (pc (m9 _ _ _ eX) (pc (z1 out.length) pn)) ?_
   obtain rfl:=cX h
   exact db hE 0 Tryz.f120 [] (kp [4]) [] 113 pn [] pn
theorem tU (N a b r) (h:pH N a b=some r):Sd 120 [(aH cI 0 a),(aH cI 0 b)] [] 0 (aH cI 0 r) []:=by
 unfold pH at h
 refine im (fu:=Tryz.f120) (c:=KV 1) (nt:=35) (fun hm=>rfl) ?_
 intro E hE
 refine ag hE 1 [] [] (kp [0,1]) [] 16 pn ?_
 refine ag hE 1 [] [] (kp [0,1,5]) [] 32 pn ?_
 refine ag hE 1 [] [] (kp [0,1,5,6]) [] 48 pn ?_
 refine ag hE 2 [] [] (kp [0,1,5,6,7]) [] 64 pn ?_
 exact cP hE 2 [] (kp [0,1] ++ [(5,.lW 0)] ++ kp [6,7]) [(0,.nil 1 (fun zi=>cI (([]:List Int).getD zi 0)))] 1 pn (B8 N _ _ N _ _ _ _ h E hE)
noncomputable abbrev Dk:=cl Tryz.f117
def sa (N:Nat) (a:List Int) (b:List Int) (K:(List Int)→(List Int)→Int→Option ((List Int)×(List Int))):Prop:=∀ (rest:List Int) (q:List Int) (i:Int) (r:(List Int)×(List Int)),K rest q i=some r→∀ E,bk E 0→aG Tryz.prog E 117 63 (bc E [] (.tup [(aH cI 0 r.1),(aH cI 0 r.2)])) [.code (Dk 244),.inLoop (Dk 244),.inBlock 0,.code (Dk 31)] ⟨[(0,(aH cI 0 a)),(1,(aH cI 0 b)),(6,(aH cI 0 rest)),(7,(.os 0 0 q.length)),(8,(aI i))],[(0,aO 1 cI 0 q)],1⟩
def Ew (N:Nat) (a:List Int) (b:List Int) (q:List Int) (i:Int) (cb:(List Int)) (K:Int→Int→Option ((List Int)×(List Int))):Prop:=∀ (lo:Int) (hi:Int) (r:(List Int)×(List Int)),K lo hi=some r→∀ E,bk E 0→aG Tryz.prog E 117 63 (bc E [] (.tup [(aH cI 0 r.1),(aH cI 0 r.2)])) [.code (Dk 62616),.inLoop (Dk 62616),.inBlock 2,.code (Dk 15655),.inBlock 1,.code (Dk 979),.inLoop (Dk 244),.inBlock 0,.code (Dk 31)] ⟨[(0,(aH cI 0 a)),(1,(aH cI 0 b)),(6,(aH cI 0 cb)),(7,(.os 0 0 q.length)),(8,(aI i)),(9,(aI lo)),(10,(aI hi))],[(0,aO 1 cI 0 q)],1⟩
def Ex (N:Nat) (a:List Int) (b:List Int) (q:List Int) (i:Int) (lo:Int) (K:(List Int)→Option ((List Int)×(List Int))):Prop:=∀ (KQ:List Int) (r:(List Int)×(List Int)),K KQ=some r→∀ E,bk E 0→aG Tryz.prog E 117 63 (bc E [] (.tup [(aH cI 0 r.1),(aH cI 0 r.2)])) [.code (Dk 979),.inLoop (Dk 244),.inBlock 0,.code (Dk 31)] ⟨[(0,(aH cI 0 a)),(1,(aH cI 0 b)),(6,(aH cI 0 KQ)),(7,(.os 0 0 ((q.set ((i).toNat) lo).length))),(8,(aI i))],[(0,aO 1 cI 0 (q.set ((i).toNat) lo))],1⟩
theorem wo (N:Nat) (a:List Int) (b:List Int) (q:List Int) (i:Int) (lo:Int) (eh:(List Int)→(List Int)→Int→Option ((List Int)×(List Int))) (oc:sa N a b eh):Ex N a b q i lo (m6 N a b q i lo eh):=by
 intro KQ r h E hE
 unfold m6 at h
 refine ag hE 0 [] [] (kp [0,1,6,7,8]) (kq [0]) 49 pn ?_
 exact cP hE 1 [] (kp [0,1,6,7,8]) (kq [0]) 1 pn (oc _ _ _ _ h E hE)
theorem Dl (N:Nat) (a:List Int) (b:List Int) (q:List Int) (i:Int) (cb:(List Int)) (eh:(List Int)→(List Int)→Int→Option ((List Int)×(List Int))) (oc:sa N a b eh) (fuel:Nat):Ew N a b q i cb (ji N a b q i cb eh fuel):=by
 induction fuel with
 | zero=>intro _ _ r h;rw [ji.eq_1] at h;cases h
 | succ fuel ih =>
  intro lo hi r h E hE
  rw [ji.eq_2] at h
  refine ag hE 2 [] [] (kp [0,1,6,7,8,9,10,32]) (kq [0]) 49 pn ?_
  refine du 0 32 h (fun jx h=>?_) (fun jx h=>?_)
  ·refine ag hE 3 [] [] (kp [0,1,6,7,8,9,10,11]) (kq [0]) 145 (pc (show (2:Int)≠0 by decide) pn) ?_
   obtain ⟨rO,eX,h⟩:=aQ h
   obtain ⟨kB,kE,h⟩:=aQ h
   refine ag hE 1 [(3,⟨[],true,(aH cI 0 rO),[],0,true,none⟩),(5,oT (aI kB))] [] (kp [0,1,6,7,8,9,10,11,44]) (kq [0]) 257 (pc (show Sd 121 [(aH cI 0 b),(.sl 1 (fun zi=>(fun zi=>([[(aI (ai ((ai ((ai (lo+hi))+1)).tdiv 2)))]]:List (List AV)).getD zi []) (bC 0 zi)))] [] 0 (aH cI 0 rO) [] from (Sound.conv (tT _ _ _ _ eX) (.cons (Alike.refl _) (.cons (Alike.sl rfl (fun zq eY=>bB cI 0 ([(ai ((ai ((ai (lo+hi))+1)).tdiv 2))]:List Int) zq eY)) .nil)))) (pc (z1 1) (pc (wj _ _ _ _ kE) pn))) ?_
   refine du 0 44 h (fun rV h=>?_) (fun rV h=>?_)
   ·refine ag hE 0 [] [] (kp [0,1,6,7,8,9,10]) (kq [0]) 289 pn ?_
    exact cP hE 2 [] (kp [0,1,6,7,8,9,10]) (kq [0]) 1 pn (ih _ _ _ h E hE)
   ·refine ag hE 0 [] [] (kp [0,1,6,7,8,9,10]) (kq [0]) 305 pn ?_
    exact cP hE 2 [] (kp [0,1,6,7,8,9,10]) (kq [0]) 1 pn (ih _ _ _ h E hE)
  ·obtain ⟨c4,h⟩:=af h
   refine ag hE 2 [] [] (kp [0,1,6] ++ [(7,.jq ((q.set ((i).toNat) lo).length))] ++ kp [8,9]) [(0,.arr 0 ((q.set ((i).toNat) lo).length) (fun zi=>cI ((q.set ((i).toNat) lo).getD zi 0)))] 129 (pc c4 (pc (dP c4) (pc (ay q ((i).toNat) lo) (pc (ay q ((i).toNat) lo) (pc (cA cI 0 q ((i).toNat) lo) pn))))) ?_
   refine ag hE 1 [] [] (kp [0,1,6,7,8,9,53]) (kq [0]) 161 pn ?_
   refine du 0 53 h (fun BS h=>?_) (fun BS h=>?_)
   ·obtain ⟨EY,nu,h⟩:=aQ h
    obtain ⟨tA,rX,h⟩:=aQ h
    refine ag hE 0 [(4,⟨[],true,(aH cI 0 EY),[],0,true,none⟩),(5,oT (aH cI 0 tA))] [] (kp [0,1,6,7,8]) (kq [0]) 273 (pc (show Sd 121 [(aH cI 0 b),(.sl 1 (fun zi=>(fun zi=>([[(aI lo)]]:List (List AV)).getD zi []) (bC 0 zi)))] [] 0 (aH cI 0 EY) [] from (Sound.conv (tT _ _ _ _ nu) (.cons (Alike.refl _) (.cons (Alike.sl rfl (fun zq eY=>bB cI 0 ([lo]:List Int) zq eY)) .nil)))) (pc (z1 1) (pc (tU _ _ _ _ rX) pn))) ?_
    exact cP hE 1 [] (kp [0,1,6,7,8]) (kq [0]) 1 pn (wo N _ _ _ _ _ _ oc _ _ h E hE)
   ·exact cP hE 2 [] (kp [0,1,6,7,8]) (kq [0]) 1 pn (wo N _ _ _ _ _ _ oc _ _ h E hE)
theorem Dm (N a b fuel):sa N a b (jj N a b fuel):=by
 induction fuel with
 | zero=>intro _ _ _ r h;rw [jj.eq_1] at h;cases h
 | succ fuel ih =>
  intro rest q i r h E hE
  rw [jj.eq_2] at h
  refine ag hE 2 [] [] (kp [0,1,6,7,8,19]) (kq [0]) 33 pn ?_
  refine du 0 19 h (fun ee h=>?_) (fun ee h=>?_)
  ·obtain ⟨c2,h⟩:=af h
   obtain ⟨c3,h⟩:=af h
   obtain ⟨cb,hr,h⟩:=aQ h
   refine ag hE 4 [(7,⟨[],true,(aH cI 0 cb),[],0,true,none⟩)] [] (kp [0,1,6,7,8]) (kq [0]) 177 (pc c2 (pc (Eq.refl 1) (pc c3 (pc (show ∀ zi,zi < rest.length→AV.fJ ((fun zi=>cI (rest.getD zi 0)) zi)=true from (fun _ _=>rfl)) (pc (show Sd 129 [(.sl (1+rest.length) (fun zi=>((fun zm=>if zm < 1 then (fun zi=>([[(aI (a.getD ((i).toNat) 0))]]:List (List AV)).getD zi []) zm else (fun zi=>cI (rest.getD zi 0)) (zm - 1))) (bC 0 zi)))] [] 0 (aH cI 0 cb) [] from (Sound.conv (m9 _ _ _ hr) (.cons (Alike.sl (an rfl rfl) (aX cI 0 ([(a.getD ((i).toNat) 0)]:List Int) rest rfl (fun zq eY=>bB cI 0 ([(a.getD ((i).toNat) 0)]:List Int) zq eY) (fun _ _=>rfl))) .nil))) (pc (z1 (1+rest.length)) pn)))))) ?_
   refine ag hE 1 [] [] (kp [0,1,6,7,8,9,10]) (kq [0]) 209 pn ?_
   exact cP hE 3 [] (kp [0,1,6,7,8,9,10]) (kq [0]) 1 pn (Dl N _ _ _ _ _ _ ih N _ _ _ h E hE)
  ·obtain ⟨jU,xU,h⟩:=aQ h
   refine ag hE 2 [(1,⟨[],true,(aH cI 0 jU),[],0,true,none⟩)] [] (kp [4,5]) [] 113 (pc (m9 _ _ _ xU) (pc (z1 q.length) pn)) ?_
   obtain rfl:=cX h
   exact db hE 0 Tryz.f117 [] (kp [4,5]) [] 113 pn [] pn
theorem vk (N a b r) (h:nN N a b=some r):Sd 117 [(aH cI 0 a),(aH cI 0 b)] [] 0 (.tup [(aH cI 0 r.1),(aH cI 0 r.2)]) []:=by
 unfold nN at h
 refine im (fu:=Tryz.f117) (c:=Dk 1) (nt:=63) (fun hm=>rfl) ?_
 intro E hE
 refine ag hE 1 [] [] (kp [0,1]) [] 32 pn ?_
 refine ag hE 1 [] [] (kp [0,1,6]) [] 48 pn ?_
 obtain ⟨c,h⟩:=af h
 refine ag hE 1 [] [] (kp [0,1,6] ++ [(7,.jq ((List.replicate a.length 0:List Int).length))]) [(80,.arr 80 ((List.replicate a.length 0:List Int).length) (fun zi=>cI ((List.replicate a.length 0:List Int).getD zi 0)))] 112 (pc (show 0≤((a.length:Nat):Int) from c.1) (pc (show ((a.length:Nat):Int)≤((a.length:Nat):Int) from (Int.le_refl _)) (pc (show (8:Int) * ((a.length:Nat):Int)≤281474976710656 from c.2.1) (pc (show ((a.length:Nat):Int)≤9223372036854775807 from c.2.2) (pc (show a.length=(List.replicate a.length 0:List Int).length from (cN).symm) (pc (show a.length=(List.replicate a.length 0:List Int).length from (cN).symm) (pc (show ∀ zi,zi < (List.replicate a.length 0:List Int).length→(fun zi=>cI ((List.replicate a.length 0:List Int).getD zi 0)) zi=(fun _=>[(aI 0)]) zi from (fun zq eY=>sL cI 0 0 a.length zq eY)) pn))))))) ?_
 refine ag hE 2 [] [] (kp [0,1,6,7,8]) (kq [80]) 176 pn ?_
 exact cP hE 2 [] (kp [0,1] ++ [(6,.sl (([]:List Int).length) (fun zi=>cI (([]:List Int).getD zi 0)))] ++ kp [7,8]) [(0,.ah 80)] 1 (pc (Eq.refl 0) pn) (Dm N _ _ N _ _ _ _ h E hE)
noncomputable abbrev TE:=cl Tryz.f116
def Gr (N:Nat) (K:(List Int)→(List Int)→Option ((List Int))):Prop:=∀ (a2:List Int) (b2:List Int) (r:(List Int)),K a2 b2=some r→∀ E,bk E 0→aG Tryz.prog E 116 19 (bc E [] (aH cI 0 r)) [.code (TE 24),.inLoop (TE 24),.inBlock 0,.code (TE 7)] ⟨[(0,(aH cI 0 a2)),(1,(aH cI 0 b2))],[],0⟩
theorem Ey (N fuel):Gr N (mm N fuel):=by
 induction fuel with
 | zero=>intro _ _ r h;rw [mm.eq_1] at h;cases h
 | succ fuel ih =>
  intro a2 b2 r h E hE
  rw [mm.eq_2] at h
  refine ag hE 2 [] [] (kp [0,1,9]) [] 48 pn ?_
  refine du 0 9 h (fun ee h=>?_) (fun ee h=>?_)
  ·obtain ⟨kD,hr,h⟩:=aQ h
   refine ag hE 3 [(2,oT (.tup [(aH cI 0 kD.1),(aH cI 0 kD.2)]))] [] (kp [1,6]) [] 176 (pc (vk _ _ _ _ hr) pn) ?_
   refine ag hE 0 [] [] (kp [0,1]) [] 240 pn ?_
   exact cP hE 2 [] (kp [0,1]) [] 0 pn (ih _ _ _ h E hE)
  ·refine ag hE 2 [] [] (kp [4]) [] 80 pn ?_
   obtain rfl:=cX h
   exact db hE 0 Tryz.f116 [] (kp [4]) [] 80 pn [] pn
theorem JC (N a b r) (h:zG N a b=some r):Sd 116 [(aH cI 0 a),(aH cI 0 b)] [] 0 (aH cI 0 r) []:=by
 unfold zG at h
 refine im (fu:=Tryz.f116) (c:=TE 1) (nt:=19) (fun hm=>rfl) ?_
 intro E hE
 refine ag hE 1 [] [] (kp [0,1]) [] 16 pn ?_
 exact cP hE 3 [] (kp [0,1]) [] 0 pn (Ey N N _ _ _ h E hE)
noncomputable abbrev aaV:=cl Tryz.f94
theorem q7 (N a b r) (h:nO N a b=some r):Sd 94 [(.agg (lN a)),(.agg (lN b))] [] 0 (.agg (aj r)) []:=by
 unfold nO at h
 refine im (fu:=Tryz.f94) (c:=aaV 1) (nt:=52) (fun hm=>rfl) ?_
 intro E hE
 refine ag hE 1 [] [] (kp [2,3,4]) (kq [0,16,32]) 48 pn ?_
 obtain ⟨pJ,hr,h⟩:=aQ h
 obtain ⟨ot,eX,h⟩:=aQ h
 refine ag hE 1 [(2,oT (aH cI 0 pJ)),(5,oT (aH cI 0 ot))] [] (kp [2,3,4,5,6]) (kq [0,16,32]) 176 (pc o1 (pc (lJ _ _ _ hr) (pc o1 (pc (lJ _ _ _ eX) pn)))) ?_
 refine ag hE 2 [] [] (kp [2,3,4,5,6,20]) (kq [0,16,32]) 224 pn ?_
 refine du 0 20 h (fun ee h=>?_) (fun ee h=>?_)
 ·obtain ⟨qi,kE,h⟩:=aQ h
  obtain ⟨Hc,nu,h⟩:=aQ h
  refine ag hE 1 [(3,oT (.agg (lN qi))),(4,oT (.agg (lN Hc)))] [] (kp [4]) (kq [32]) 336 (pc o1 (pc (jn _ _ _ _ kE) (pc (yW _ _ _ nu) (pc o1 pn)))) ?_
  obtain rfl:=cX h
  exact db hE 0 Tryz.f94 [] (kp [4]) [(16,.ah 32)] 336 pn [16] (pc o1 pn)
 ·obtain ⟨Ti,rX,h⟩:=aQ h
  refine ag hE 2 [(2,oT (aH cI 0 Ti))] [] (kp [2,3,4,5,6,7]) (kq [0,16,32]) 288 (pc (JC _ _ _ _ rX) pn) ?_
  obtain ⟨kD,xU,h⟩:=aQ h
  refine ag hE 1 [(2,oT (.tup [(aH cI 0 kD.1),(aH cI 0 kD.2)]))] [] (kp [2,3,4,6,7,8]) (kq [0,16,32]) 416 (pc (vk _ _ _ _ xU) pn) ?_
  obtain ⟨kP,yL,h⟩:=aQ h
  refine ag hE 1 [(2,oT (.tup [(aH cI 0 kP.1),(aH cI 0 kP.2)]))] [] (kp [2,3,4,8,10]) (kq [0,16,32]) 544 (pc (vk _ _ _ _ yL) pn) ?_
  obtain ⟨AL,Eb,h⟩:=aQ h
  obtain ⟨AM,Ea,h⟩:=aQ h
  refine ag hE 1 [(6,oT (.agg (lN AL))),(8,oT (.agg (lN AM)))] [] (kp [4]) (kq [32]) 720 (pc o1 (pc o1 (pc (jn _ _ _ _ Eb) (pc (jn _ _ _ _ Ea) (pc o1 pn))))) ?_
  obtain rfl:=cX h
  exact db hE 0 Tryz.f94 [] (kp [4]) [(16,.ah 32)] 720 pn [16] (pc o1 pn)
noncomputable abbrev aaW:=cl Tryz.f84
theorem jd (N x r) (h:g7 N x=some r):Sd 84 [(.agg (aj x))] [] 0 (.agg (aj r)) []:=by
 unfold g7 at h
 refine im (fu:=Tryz.f84) (c:=aaW 1) (nt:=8) (fun hm=>rfl) ?_
 intro E hE
 refine ag hE 1 [] [] (kp [1,2]) (kq [0,16]) 32 pn ?_
 obtain ⟨tG,hr,h⟩:=aQ h
 refine ag hE 1 [(4,oT (.agg (aj tG)))] [] (kp [2]) (kq [16]) 128 (pc o1 (pc o1 (pc (q7 _ _ _ _ hr) (pc o1 pn)))) ?_
 obtain rfl:=cX h
 exact db hE 0 Tryz.f84 [] (kp [2]) (kq [16]) 128 pn [16] (pc o1 pn)
noncomputable abbrev XG:=cl Tryz.f85
theorem JD (N a r) (h:zH N a=some r):Sd 85 [(.agg (lN a))] [] 0 (.agg (lN r)) []:=by
 unfold zH at h
 refine im (fu:=Tryz.f85) (c:=XG 1) (nt:=10) (fun hm=>rfl) ?_
 intro E hE
 refine ag hE 1 [] [] (kp [1,2]) (kq [0,16]) 32 pn ?_
 obtain ⟨pJ,hr,h⟩:=aQ h
 obtain ⟨qi,eX,h⟩:=aQ h
 refine ag hE 1 [(5,oT (aH cI 0 pJ)),(6,oT (.agg (lN qi)))] [] (kp [2]) (kq [16]) 160 (pc o1 (pc o1 (pc (lJ _ _ _ hr) (pc (jn _ _ _ _ eX) (pc o1 pn))))) ?_
 obtain rfl:=cX h
 exact db hE 0 Tryz.f85 [] (kp [2]) (kq [16]) 160 pn [16] (pc o1 pn)
noncomputable abbrev XH:=cl Tryz.f40
theorem jN (N x r) (h:il N x=some r):Sd 40 [(.agg (aj x))] [] 0 (.agg (aj r)) []:=by
 unfold il at h
 refine im (fu:=Tryz.f40) (c:=XH 1) (nt:=12) (fun hm=>rfl) ?_
 intro E hE
 refine ag hE 1 [] [] (kp [1,2]) (kq [0,16]) 32 pn ?_
 obtain ⟨gL,hr,h⟩:=aQ h
 refine ag hE 1 [(1,oT (.agg (aj gL)))] [] (kp [2,3]) (kq [16,64]) 96 (pc o1 (pc (jd _ _ _ hr) (pc o1 pn))) ?_
 obtain ⟨VO,eX,h⟩:=aQ h
 refine ag hE 1 [(2,oT (.agg (lN VO)))] [] (kp [2]) (kq [16]) 208 (pc o1 (pc (JD _ _ _ eX) (pc o1 (pc o1 pn)))) ?_
 obtain rfl:=cX h
 exact db hE 0 Tryz.f40 [] (kp [2]) (kq [16]) 208 pn [16] (pc o1 pn)
noncomputable abbrev XI:=cl Tryz.f96
theorem mA (N a b r) (h:m7 N a b=some r):Sd 96 [(.agg (lN a)),(.agg (lN b))] [] 0 (.agg (lN r)) []:=by
 unfold m7 at h
 refine im (fu:=Tryz.f96) (c:=XI 1) (nt:=18) (fun hm=>rfl) ?_
 intro E hE
 refine ag hE 1 [] [] (kp [2,3,4]) (kq [0,16,32]) 48 pn ?_
 obtain ⟨pJ,hr,h⟩:=aQ h
 obtain ⟨ot,eX,h⟩:=aQ h
 obtain ⟨rO,kE,h⟩:=aQ h
 obtain ⟨qi,nu,h⟩:=aQ h
 refine ag hE 1 [(7,oT (aH cI 0 pJ)),(10,oT (aH cI 0 ot)),(11,oT (aH cI 0 rO)),(12,oT (.agg (lN qi)))] [] (kp [4]) (kq [32]) 272 (pc o1 (pc o1 (pc o1 (pc (lJ _ _ _ hr) (pc o1 (pc (lJ _ _ _ eX) (pc (tT _ _ _ _ kE) (pc (jn _ _ _ _ nu) (pc o1 pn))))))))) ?_
 obtain rfl:=cX h
 exact db hE 0 Tryz.f96 [] (kp [4]) [(16,.ah 32)] 272 pn [16] (pc o1 pn)
noncomputable abbrev ND:=cl Tryz.f118
def Ez (N:Nat) (a:List Int) (b:List Int) (K:(List Int)→Int→Int→Option ((List Int))):Prop:=∀ (out:List Int) (carry:Int) (i:Int) (r:(List Int)),K out carry i=some r→∀ E,bk E 0→aG Tryz.prog E 118 43 (bc E [] (aH cI 0 r)) [.code (ND 244),.inLoop (ND 244),.inBlock 0,.code (ND 31)] ⟨[(0,(aH cI 0 a)),(1,(aH cI 0 b)),(5,(.os 0 0 out.length)),(6,(aI carry)),(7,(aI i))],[(0,aO 1 cI 0 out)],1⟩
theorem Dn (N a b fuel):Ez N a b (kg N a b fuel):=by
 induction fuel with
 | zero=>intro _ _ _ r h;rw [kg.eq_1] at h;cases h
 | succ fuel ih =>
  intro out carry i r h E hE
  rw [kg.eq_2] at h
  refine ag hE 2 [] [] (kp [0,1,5,6,7,22]) (kq [0]) 225 (pc (fun hg:(!(decide (i < ((a.length:Nat):Int))))=true=>(pc hg pn)) (pc (fun hg:(!(decide (i < ((a.length:Nat):Int))))=true=>(pc hg (pc hg pn))) (pc (fun hq:(!(decide (i < ((a.length:Nat):Int))))=true=>(pc hq pn)) (pc (fun hg:(!(cond (decide (i < ((a.length:Nat):Int))) true (decide (i < ((b.length:Nat):Int)))))=true=>(pc hg pn)) (pc (fun hq:(!(cond (decide (i < ((a.length:Nat):Int))) true (decide (i < ((b.length:Nat):Int)))))=true=>(pc hq pn)) pn))))) ?_
  refine du 0 22 h (fun ee h=>?_) (fun ee h=>?_)
  ·obtain ⟨cO,hr,h⟩:=aQ h
   obtain ⟨mn,eX,h⟩:=aQ h
   refine ag hE 4 [(2,oT (aI cO)),(5,oT (aI mn))] [] (kp [0,1,5,7,8]) (kq [0]) 385 (pc (qm _ _ _ _ hr) (pc (qm _ _ _ _ eX) pn)) ?_
   obtain ⟨c,h⟩:=af h
   refine ag hE 1 [] [] (kp [0,1] ++ [(5,.jq ((out ++ ([((ai ((ai (cO+mn))+carry)).tmod 65536)]:List Int)).length))] ++ kp [7,8]) [(449,.arr 449 ((out ++ ([((ai ((ai (cO+mn))+carry)).tmod 65536)]:List Int)).length) (fun zi=>cI ((out ++ ([((ai ((ai (cO+mn))+carry)).tmod 65536)]:List Int)).getD zi 0)))] 481 (pc (show (65536:Int)≠0 by decide) (pc (Eq.refl out.length) (pc c (pc (z1 1) (pc (show ∀ zi,zi < 1→AV.fJ ((fun zi=>([[(aI ((ai ((ai (cO+mn))+carry)).tmod 65536))]]:List (List AV)).getD zi []) (bC 0 zi))=true from (mI rfl)) (pc (show (out.length+1)=(out ++ ([((ai ((ai (cO+mn))+carry)).tmod 65536)]:List Int)).length from (an rfl rfl)) (pc (show out.length+1=(out ++ ([((ai ((ai (cO+mn))+carry)).tmod 65536)]:List Int)).length from (an rfl rfl)) (pc (show ∀ zi,zi < (out ++ ([((ai ((ai (cO+mn))+carry)).tmod 65536)]:List Int)).length→(fun zi=>cI ((out ++ ([((ai ((ai (cO+mn))+carry)).tmod 65536)]:List Int)).getD zi 0)) zi=((fun zm=>if zm < out.length then (fun zi=>cI (out.getD zi 0)) zm else (fun zi=>([[(aI ((ai ((ai (cO+mn))+carry)).tmod 65536))]]:List (List AV)).getD zi []) (zm - out.length))) zi from (aX cI 0 out ([((ai ((ai (cO+mn))+carry)).tmod 65536)]:List Int) rfl (fun _ _=>rfl) (fun zq eY=>bB cI 0 ([((ai ((ai (cO+mn))+carry)).tmod 65536)]:List Int) zq eY))) pn)))))))) ?_
   refine ag hE 0 [] [] (kp [0,1,5,6,7]) (kq [449]) 529 (pc (show (65536:Int)≠0 by decide) pn) ?_
   refine ag hE 1 [] [] (kp [0,1,5,6,7]) (kq [449]) 577 pn ?_
   exact cP hE 1 [] (kp [0,1,5,6,7]) [(0,.ah 449)] 1 pn (ih _ _ _ _ h E hE)
  ·obtain ⟨cb,kE,h⟩:=aQ h
   refine ag hE 2 [(1,⟨[],true,(aH cI 0 cb),[],0,true,none⟩)] [] (kp [4]) [] 273 (pc (m9 _ _ _ kE) (pc (z1 out.length) pn)) ?_
   obtain rfl:=cX h
   exact db hE 0 Tryz.f118 [] (kp [4]) [] 273 pn [] pn
theorem Hx (N a b r) (h:w7 N a b=some r):Sd 118 [(aH cI 0 a),(aH cI 0 b)] [] 0 (aH cI 0 r) []:=by
 unfold w7 at h
 refine im (fu:=Tryz.f118) (c:=ND 1) (nt:=43) (fun hm=>rfl) ?_
 intro E hE
 refine ag hE 1 [] [] (kp [0,1]) [] 16 pn ?_
 refine ag hE 1 [] [] (kp [0,1,5]) [] 32 pn ?_
 refine ag hE 1 [] [] (kp [0,1,5,6]) [] 48 pn ?_
 refine ag hE 2 [] [] (kp [0,1,5,6,7]) [] 64 pn ?_
 exact cP hE 2 [] (kp [0,1] ++ [(5,.lW 0)] ++ kp [6,7]) [(0,.nil 1 (fun zi=>cI (([]:List Int).getD zi 0)))] 1 pn (Dn N _ _ N _ _ _ _ h E hE)
noncomputable abbrev XJ:=cl Tryz.f95
theorem JE (N a b r) (h:zI N a b=some r):Sd 95 [(.agg (lN a)),(.agg (lN b))] [] 0 (.agg (lN r)) []:=by
 unfold zI at h
 refine im (fu:=Tryz.f95) (c:=XJ 1) (nt:=40) (fun hm=>rfl) ?_
 intro E hE
 refine ag hE 1 [] [] (kp [2,3,4]) (kq [0,16,32]) 48 pn ?_
 obtain ⟨pJ,hr,h⟩:=aQ h
 obtain ⟨ot,eX,h⟩:=aQ h
 refine ag hE 1 [(2,oT (aH cI 0 pJ)),(5,oT (aH cI 0 ot))] [] (kp [2,3,4,5,6]) (kq [0,16,32]) 176 (pc o1 (pc (lJ _ _ _ hr) (pc o1 (pc (lJ _ _ _ eX) pn)))) ?_
 refine ag hE 2 [] [] (kp [2,3,4,5,6,17]) (kq [0,16,32]) 256 (pc o1 (pc o1 pn)) ?_
 refine du 0 17 h (fun ee h=>?_) (fun ee h=>?_)
 ·obtain ⟨F0,kE,h⟩:=aQ h
  obtain ⟨qi,nu,h⟩:=aQ h
  refine ag hE 1 [(4,oT (aH cI 0 F0)),(5,oT (.agg (lN qi)))] [] (kp [4]) (kq [32]) 368 (pc o1 (pc (Hx _ _ _ _ kE) (pc (jn _ _ _ _ nu) (pc o1 pn)))) ?_
  obtain rfl:=cX h
  exact db hE 0 Tryz.f95 [] (kp [4]) [(16,.ah 32)] 368 pn [16] (pc o1 pn)
 ·obtain ⟨kB,rX,h⟩:=aQ h
  refine ag hE 3 [(2,oT (aI kB))] [] (kp [2,3,4,5,6,27]) (kq [0,16,32]) 320 (pc (wj _ _ _ _ rX) pn) ?_
  refine du 0 27 h (fun jx h=>?_) (fun jx h=>?_)
  ·obtain ⟨tA,xU,h⟩:=aQ h
   obtain ⟨AL,yL,h⟩:=aQ h
   refine ag hE 1 [(4,oT (aH cI 0 tA)),(5,oT (.agg (lN AL)))] [] (kp [4]) (kq [32]) 432 (pc o1 (pc (tU _ _ _ _ xU) (pc (jn _ _ _ _ yL) (pc o1 pn)))) ?_
   obtain rfl:=cX h
   exact db hE 0 Tryz.f95 [] (kp [4]) [(16,.ah 32)] 432 pn [16] (pc o1 pn)
  ·obtain ⟨w5,Eb,h⟩:=aQ h
   obtain ⟨AM,Ea,h⟩:=aQ h
   refine ag hE 2 [(4,oT (aH cI 0 w5)),(5,oT (.agg (lN AM)))] [] (kp [4]) (kq [32]) 432 (pc o1 (pc (tU _ _ _ _ Eb) (pc (jn _ _ _ _ Ea) (pc o1 pn)))) ?_
   obtain rfl:=cX h
   exact db hE 0 Tryz.f95 [] (kp [4]) [(16,.ah 32)] 432 pn [16] (pc o1 pn)
noncomputable abbrev XK:=cl Tryz.f55
theorem EA (N x y r) (h:sQ N x y=some r):Sd 55 [(.agg (aj x)),(.agg (aj y))] [] 0 (.agg (aj r)) []:=by
 unfold sQ at h
 refine im (fu:=Tryz.f55) (c:=XK 1) (nt:=28) (fun hm=>rfl) ?_
 intro E hE
 refine ag hE 1 [] [] (kp [2,3,4]) (kq [0,16,32]) 48 pn ?_
 obtain ⟨gL,hr,h⟩:=aQ h
 obtain ⟨jc,eX,h⟩:=aQ h
 refine ag hE 1 [(1,oT (.agg (aj gL))),(3,oT (.agg (aj jc)))] [] (kp [4,5,6]) (kq [32,112,128]) 176 (pc o1 (pc (jd _ _ _ hr) (pc o1 (pc (jd _ _ _ eX) (pc o1 (pc o1 pn)))))) ?_
 obtain ⟨tC,kE,h⟩:=aQ h
 obtain ⟨nI,nu,h⟩:=aQ h
 obtain ⟨My,rX,h⟩:=aQ h
 obtain ⟨F1,xU,h⟩:=aQ h
 obtain ⟨tG,yL,h⟩:=aQ h
 refine ag hE 1 [(4,oT (.agg (lN tC))),(9,oT (.agg (lN nI))),(10,oT (.agg (lN My))),(15,oT (.agg (lN F1))),(16,oT (.agg (aj tG)))] [] (kp [4]) (kq [32]) 464 (pc o1 (pc o1 (pc (mA _ _ _ _ kE) (pc o1 (pc o1 (pc (mA _ _ _ _ nu) (pc (JE _ _ _ _ rX) (pc o1 (pc o1 (pc (mA _ _ _ _ xU) (pc (q7 _ _ _ _ yL) (pc o1 pn)))))))))))) ?_
 obtain rfl:=cX h
 exact db hE 0 Tryz.f55 [] (kp [4]) [(16,.ah 32)] 464 pn [16] (pc o1 pn)
noncomputable abbrev XL:=cl Tryz.f83
theorem EB (N x y r) (h:sR N x y=some r):Sd 83 [(.agg (aj x)),(.agg (aj y))] [] 0 (.agg (aj r)) []:=by
 unfold sR at h
 refine im (fu:=Tryz.f83) (c:=XL 1) (nt:=9) (fun hm=>rfl) ?_
 intro E hE
 refine ag hE 1 [] [] (kp [2,3,4]) (kq [0,16,32]) 48 pn ?_
 obtain ⟨gV,hr,h⟩:=aQ h
 obtain ⟨bO,eX,h⟩:=aQ h
 refine ag hE 1 [(2,oT (.agg (aj gV))),(3,oT (.agg (aj bO)))] [] (kp [4]) (kq [32]) 128 (pc o1 (pc o1 (pc (jN _ _ _ hr) (pc (EA _ _ _ _ eX) (pc o1 pn))))) ?_
 obtain rfl:=cX h
 exact db hE 0 Tryz.f83 [] (kp [4]) [(16,.ah 32)] 128 pn [16] (pc o1 pn)
noncomputable abbrev Gs:=cl Tryz.f82
def xI (N:Nat) (l:ae) (K:Int→Int→Option (Int)):Prop:=∀ (s:Int) (step:Int) (r:Int),K s step=some r→∀ E,bk E 0→aG Tryz.prog E 82 47 (bc E [] (aI r)) [.code (Gs 244),.inLoop (Gs 244),.inBlock 0,.code (Gs 31)] ⟨[(3,(aI (ai ((ai ((ai (l.bV - l.iz)) * (ai (l.bV - l.iz))))+(ai ((ai (l.ct - l.jo)) * (ai (l.ct - l.jo)))))))),(4,(aI s)),(5,(aI step))],[],0⟩
def EC (N:Nat) (l:ae) (step:Int) (K:Int→Option (Int)):Prop:=∀ (s2:Int) (r:Int),K s2=some r→∀ E,bk E 0→aG Tryz.prog E 82 47 (bc E [] (aI r)) [.code (Gs 979),.inLoop (Gs 244),.inBlock 0,.code (Gs 31)] ⟨[(3,(aI (ai ((ai ((ai (l.bV - l.iz)) * (ai (l.bV - l.iz))))+(ai ((ai (l.ct - l.jo)) * (ai (l.ct - l.jo)))))))),(4,(aI s2)),(5,(aI step))],[],0⟩
theorem wq (N:Nat) (l:ae) (step:Int) (oZ:Int→Int→Option (Int)) (Dp:xI N l oZ):EC N l step (oG N l step oZ):=by
 intro s2 r h E hE
 unfold oG at h
 refine ag hE 0 [] [] (kp [3,4,5]) [] 48 (pc (show (2:Int)≠0 by decide) pn) ?_
 exact cP hE 1 [] (kp [3,4,5]) [] 0 pn (Dp _ _ _ h E hE)
theorem Dq (N l fuel):xI N l (jk N l fuel):=by
 induction fuel with
 | zero=>intro _ _ r h;rw [jk.eq_1] at h;cases h
 | succ fuel ih =>
  intro s step r h E hE
  rw [jk.eq_2] at h
  refine ag hE 2 [] [] (kp [3,4,5,30]) [] 32 pn ?_
  refine du 0 30 h (fun ee h=>?_) (fun ee h=>?_)
  ·refine ag hE 4 [] [] (kp [3,4,5,41]) [] 176 pn ?_
   refine du 0 41 h (fun jx h=>?_) (fun jx h=>?_)
   ·refine ag hE 0 [] [] (kp [3,4,5]) [] 240 pn ?_
    exact cP hE 1 [] (kp [3,4,5]) [] 0 pn (wq N _ _ _ ih _ _ h E hE)
   ·exact cP hE 2 [] (kp [3,4,5]) [] 0 pn (wq N _ _ _ ih _ _ h E hE)
  ·refine ag hE 2 [] [] (kp [2]) [] 80 pn ?_
   obtain rfl:=cX h
   exact db hE 0 Tryz.f82 [] (kp [2]) [] 80 pn [] pn
theorem Hy (N l r) (h:tH N l=some r):Sd 82 [(.agg (ae.cells l))] [] 0 (aI r) []:=by
 unfold tH at h
 refine im (fu:=Tryz.f82) (c:=Gs 1) (nt:=47) (fun hm=>rfl) ?_
 intro E hE
 refine ag hE 1 [] [] (kp [1]) (kq [0]) 32 pn ?_
 refine ag hE 1 [] [] (kp [3]) [] 416 (pc o1 (pc o1 (pc o1 (pc o1 (pc o1 (pc o1 (pc o1 (pc o1 pn)))))))) ?_
 refine ag hE 1 [] [] (kp [3,4]) [] 432 pn ?_
 refine ag hE 2 [] [] (kp [3,4,5]) [] 448 pn ?_
 exact cP hE 2 [] (kp [3,4,5]) [] 0 pn (Dq N _ N _ _ _ h E hE)
noncomputable abbrev XM:=cl Tryz.f81
theorem ED (N x y r) (h:sS N x y=some r):Sd 81 [(.agg (aj x)),(.agg (aj y))] [] 0 (.agg (aj r)) []:=by
 unfold sS at h
 refine im (fu:=Tryz.f81) (c:=XM 1) (nt:=22) (fun hm=>rfl) ?_
 intro E hE
 refine ag hE 1 [] [] (kp [2,3,4]) (kq [0,16,32]) 48 pn ?_
 obtain ⟨gL,hr,h⟩:=aQ h
 obtain ⟨jc,eX,h⟩:=aQ h
 refine ag hE 1 [(1,oT (.agg (aj gL))),(3,oT (.agg (aj jc)))] [] (kp [4,5,6]) (kq [32,112,128]) 176 (pc o1 (pc (jd _ _ _ hr) (pc o1 (pc (jd _ _ _ eX) (pc o1 (pc o1 pn)))))) ?_
 obtain ⟨tC,kE,h⟩:=aQ h
 obtain ⟨nI,nu,h⟩:=aQ h
 obtain ⟨tG,rX,h⟩:=aQ h
 refine ag hE 1 [(4,oT (.agg (lN tC))),(9,oT (.agg (lN nI))),(10,oT (.agg (aj tG)))] [] (kp [4]) (kq [32]) 368 (pc o1 (pc o1 (pc (mA _ _ _ _ kE) (pc o1 (pc o1 (pc (mA _ _ _ _ nu) (pc (q7 _ _ _ _ rX) (pc o1 pn)))))))) ?_
 obtain rfl:=cX h
 exact db hE 0 Tryz.f81 [] (kp [4]) [(16,.ah 32)] 368 pn [16] (pc o1 pn)
noncomputable abbrev XN:=cl Tryz.f56
theorem o8 (N x y r) (h:mo N x y=some r):Sd 56 [(.agg (aj x)),(.agg (aj y))] [] 0 (.agg (aj r)) []:=by
 unfold mo at h
 refine im (fu:=Tryz.f56) (c:=XN 1) (nt:=22) (fun hm=>rfl) ?_
 intro E hE
 refine ag hE 1 [] [] (kp [2,3,4]) (kq [0,16,32]) 48 pn ?_
 obtain ⟨gL,hr,h⟩:=aQ h
 obtain ⟨jc,eX,h⟩:=aQ h
 refine ag hE 1 [(1,oT (.agg (aj gL))),(3,oT (.agg (aj jc)))] [] (kp [4,5,6]) (kq [32,112,128]) 176 (pc o1 (pc (jd _ _ _ hr) (pc o1 (pc (jd _ _ _ eX) (pc o1 (pc o1 pn)))))) ?_
 obtain ⟨tC,kE,h⟩:=aQ h
 obtain ⟨nI,nu,h⟩:=aQ h
 obtain ⟨tG,rX,h⟩:=aQ h
 refine ag hE 1 [(4,oT (.agg (lN tC))),(9,oT (.agg (lN nI))),(10,oT (.agg (aj tG)))] [] (kp [4]) (kq [32]) 368 (pc o1 (pc o1 (pc (mA _ _ _ _ kE) (pc o1 (pc o1 (pc (mA _ _ _ _ nu) (pc (q7 _ _ _ _ rX) (pc o1 pn)))))))) ?_
 obtain rfl:=cX h
 exact db hE 0 Tryz.f56 [] (kp [4]) [(16,.ah 32)] 368 pn [16] (pc o1 pn)
end Go.Den
