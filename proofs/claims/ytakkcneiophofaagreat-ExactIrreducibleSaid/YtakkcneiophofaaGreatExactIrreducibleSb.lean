/- Each function of the program does what its Lean function computes (part 2). No conditions. -/
import Derived.Test.YtakkcneiophofaaGreatExactIrreducibleSa
import Derived.Test.YtakkcneiophofaaGreatProg
set_option linter.unusedVariables false
set_option maxRecDepth 100000
namespace Go.Den
open Go.Ab Go.Proofs Go.Ab.Runs
noncomputable def C_58 (n:Nat):Code:=cat (bodyOf Tryz.f75) (pth n)
def g_e_tableau_pivot_L1_H (N:Nat) (i:Int) (j:Int) (C0:Int) (C02:Int) (C03:Bool) (C04:List Int) (C05:Bool) (C06:List Int) (C07:Int) (C1:List Int) (C2:List Int) (C3:List (List TRat)) (C4:List TRat) (C5:List TRat) (K:(List TRat)→Int→Option (Ttb×(List Int)×(List Int)×(List (List TRat))×(List TRat)×(List TRat))):Prop:=∀ (C0r:List TRat) (x:Int) (r:Ttb×(List Int)×(List Int)×(List (List TRat))×(List TRat)×(List TRat)),K C0r x=some r→∀ E,EnvOk E 6→Runs Tryz.prog E 75 194 (SPost E [(0,vN 12 [(aI r.1.f_n),(aI r.1.f_m),(.os 1 0 r.2.1.length),(.os 2 0 r.2.2.1.length),(.os 3 0 r.2.2.2.1.length),(.os 4 0 r.2.2.2.2.1.length),(.os 5 0 r.2.2.2.2.2.length),(aB r.1.f_value.fN.fG),(eU r.1.f_value.fN.fL),(aB r.1.f_value.fD.fG),(eU r.1.f_value.fD.fL),(aI r.1.f_helper)]),(1,aO 1 cI 0 r.2.1),(2,aO 1 cI 0 r.2.2.1),(3,aM 4 TRc TRat.d r.2.2.2.1),(4,aO 4 TRc TRat.d r.2.2.2.2.1),(5,aO 4 TRc TRat.d r.2.2.2.2.2)] (.tup [])) [.code (C_58 116),.inLoop (C_58 116),.inBlock 0,.code (C_58 15)] ⟨[(0,(.op 0 0 0)),(1,(aI i)),(2,(aI j)),(6,(.op 7 0 0)),(7,(.os 6 0 C0r.length)),(30,(aI (((C3.getD ((i).toNat) []).length:Nat):Int))),(31,(aI x))],[(0,vN 12 [(aI C0),(aI C02),(.os 1 0 C1.length),(.os 2 0 C2.length),(.os 3 0 C3.length),(.os 4 0 C4.length),(.os 5 0 C5.length),(aB C03),(eU C04),(aB C05),(eU C06),(aI C07)]),(1,aO 1 cI 0 C1),(2,aO 1 cI 0 C2),(3,⟨false,1,C3.length,false,matGet [((i).toNat,6,C0r.length)] (fun zm=>mR 4 TRc TRat.d (C3.getD zm []))⟩),(4,aO 4 TRc TRat.d C4),(5,aO 4 TRc TRat.d C5),(6,aO 4 TRc TRat.d C0r),(7,vO 4 [(aB ((((C3.getD ((i).toNat) []).getD ((j).toNat) TRat.d).fN).fG)),(eU ((((C3.getD ((i).toNat) []).getD ((j).toNat) TRat.d).fN).fL)),(aB ((((C3.getD ((i).toNat) []).getD ((j).toNat) TRat.d).fD).fG)),(eU ((((C3.getD ((i).toNat) []).getD ((j).toNat) TRat.d).fD).fL))])],8⟩
def g_e_tableau_pivot_J2_H (N:Nat) (i:Int) (j:Int) (C0:Int) (C02:Int) (C03:Bool) (C04:List Int) (C05:Bool) (C06:List Int) (C07:Int) (C1:List Int) (C2:List Int) (C3:List (List TRat)) (C4:List TRat) (C5:List TRat) (x:Int) (K:(List TRat)→Option (Ttb×(List Int)×(List Int)×(List (List TRat))×(List TRat)×(List TRat))):Prop:=∀ (C0r2:List TRat) (r:Ttb×(List Int)×(List Int)×(List (List TRat))×(List TRat)×(List TRat)),K C0r2=some r→∀ E,EnvOk E 6→Runs Tryz.prog E 75 194 (SPost E [(0,vN 12 [(aI r.1.f_n),(aI r.1.f_m),(.os 1 0 r.2.1.length),(.os 2 0 r.2.2.1.length),(.os 3 0 r.2.2.2.1.length),(.os 4 0 r.2.2.2.2.1.length),(.os 5 0 r.2.2.2.2.2.length),(aB r.1.f_value.fN.fG),(eU r.1.f_value.fN.fL),(aB r.1.f_value.fD.fG),(eU r.1.f_value.fD.fL),(aI r.1.f_helper)]),(1,aO 1 cI 0 r.2.1),(2,aO 1 cI 0 r.2.2.1),(3,aM 4 TRc TRat.d r.2.2.2.1),(4,aO 4 TRc TRat.d r.2.2.2.2.1),(5,aO 4 TRc TRat.d r.2.2.2.2.2)] (.tup [])) [.code (C_58 935),.inLoop (C_58 116),.inBlock 0,.code (C_58 15)] ⟨[(0,(.op 0 0 0)),(1,(aI i)),(2,(aI j)),(6,(.op 7 0 0)),(7,(.os 6 0 C0r2.length)),(30,(aI (((C3.getD ((i).toNat) []).length:Nat):Int))),(31,(aI x))],[(0,vN 12 [(aI C0),(aI C02),(.os 1 0 C1.length),(.os 2 0 C2.length),(.os 3 0 C3.length),(.os 4 0 C4.length),(.os 5 0 C5.length),(aB C03),(eU C04),(aB C05),(eU C06),(aI C07)]),(1,aO 1 cI 0 C1),(2,aO 1 cI 0 C2),(3,⟨false,1,C3.length,false,matGet [((i).toNat,6,C0r2.length)] (fun zm=>mR 4 TRc TRat.d (C3.getD zm []))⟩),(4,aO 4 TRc TRat.d C4),(5,aO 4 TRc TRat.d C5),(6,aO 4 TRc TRat.d C0r2),(7,vO 4 [(aB ((((C3.getD ((i).toNat) []).getD ((j).toNat) TRat.d).fN).fG)),(eU ((((C3.getD ((i).toNat) []).getD ((j).toNat) TRat.d).fN).fL)),(aB ((((C3.getD ((i).toNat) []).getD ((j).toNat) TRat.d).fD).fG)),(eU ((((C3.getD ((i).toNat) []).getD ((j).toNat) TRat.d).fD).fL))])],8⟩
theorem g_e_tableau_pivot_J2_ok (N:Nat) (i:Int) (j:Int) (C0:Int) (C02:Int) (C03:Bool) (C04:List Int) (C05:Bool) (C06:List Int) (C07:Int) (C1:List Int) (C2:List Int) (C3:List (List TRat)) (C4:List TRat) (C5:List TRat) (x:Int) (K_g_e_tableau_pivot_L1:(List TRat)→Int→Option (Ttb×(List Int)×(List Int)×(List (List TRat))×(List TRat)×(List TRat))) (hK_g_e_tableau_pivot_L1:g_e_tableau_pivot_L1_H N i j C0 C02 C03 C04 C05 C06 C07 C1 C2 C3 C4 C5 K_g_e_tableau_pivot_L1):g_e_tableau_pivot_J2_H N i j C0 C02 C03 C04 C05 C06 C07 C1 C2 C3 C4 C5 x (g_e_tableau_pivot_J2 N i j C0 C02 C03 C04 C05 C06 C07 C1 C2 C3 C4 C5 x K_g_e_tableau_pivot_L1):=by
 intro C0r2 r h E hE
 unfold g_e_tableau_pivot_J2 at h
 refine rnR hE 0 [] [] (kp [0,1,2,6,7,30,31]) (kq [0,1,2] ++ [(3,.mat 3 (C3.length) [((i).toNat,6,C0r2.length)] (fun zm=>mR 4 TRc TRat.d (C3.getD zm [])))] ++ kq [4,5,6,7]) 40 (pc (Eq.refl C3.length) (pc (show ∀ zm,zm < C3.length→matGet [((i).toNat,6,C0r2.length)] (fun zm=>mR 4 TRc TRat.d (C3.getD zm [])) zm=matGet [((i).toNat,6,C0r2.length)] (fun zm=>mR 4 TRc TRat.d (C3.getD zm [])) zm from (fun _ _=>rfl)) (pc (show ∀ zm,zm < C3.length→isMrL ((fun zm=>mR 4 TRc TRat.d (C3.getD zm [])) zm)=true from (fun _ _=>rfl)) pn))) ?_
 exact rnW hE 1 [] (kp [0,1,2,6,7,30,31]) (kq [0,1,2] ++ [(3,.mat 3 (C3.length) [((i).toNat,6,C0r2.length)] (fun zm=>mR 4 TRc TRat.d (C3.getD zm [])))] ++ kq [4,5,6,7]) 8 (pc (Eq.refl C3.length) (pc (show ∀ zm,zm < C3.length→matGet [((i).toNat,6,C0r2.length)] (fun zm=>mR 4 TRc TRat.d (C3.getD zm [])) zm=matGet [((i).toNat,6,C0r2.length)] (fun zm=>mR 4 TRc TRat.d (C3.getD zm [])) zm from (fun _ _=>rfl)) (pc (show ∀ zm,zm < C3.length→isMrL ((fun zm=>mR 4 TRc TRat.d (C3.getD zm [])) zm)=true from (fun _ _=>rfl)) pn))) (hK_g_e_tableau_pivot_L1 _ _ _ h E hE)
def g_e_tableau_pivot_L3_H (N:Nat) (i:Int) (j:Int) (C0:Int) (C02:Int) (C03:Bool) (C04:List Int) (C05:Bool) (C06:List Int) (C07:Int) (C1:List Int) (C2:List Int) (C3:List (List TRat)) (C5:List TRat) (K:(List (List TRat))→(List TRat)→(List TRat)→Int→Option (Ttb×(List Int)×(List Int)×(List (List TRat))×(List TRat)×(List TRat))):Prop:=∀ (C08:List (List TRat)) (C0r3:List TRat) (C09:List TRat) (x2:Int) (r:Ttb×(List Int)×(List Int)×(List (List TRat))×(List TRat)×(List TRat)),K C08 C0r3 C09 x2=some r→∀ E,EnvOk E 6→Runs Tryz.prog E 75 194 (SPost E [(0,vN 12 [(aI r.1.f_n),(aI r.1.f_m),(.os 1 0 r.2.1.length),(.os 2 0 r.2.2.1.length),(.os 3 0 r.2.2.2.1.length),(.os 4 0 r.2.2.2.2.1.length),(.os 5 0 r.2.2.2.2.2.length),(aB r.1.f_value.fN.fG),(eU r.1.f_value.fN.fL),(aB r.1.f_value.fD.fG),(eU r.1.f_value.fD.fL),(aI r.1.f_helper)]),(1,aO 1 cI 0 r.2.1),(2,aO 1 cI 0 r.2.2.1),(3,aM 4 TRc TRat.d r.2.2.2.1),(4,aO 4 TRc TRat.d r.2.2.2.2.1),(5,aO 4 TRc TRat.d r.2.2.2.2.2)] (.tup [])) [.code (C_58 1012),.inLoop (C_58 1012),.inBlock 2,.code (C_58 127)] ⟨[(0,(.op 0 0 0)),(1,(aI i)),(2,(aI j)),(7,(.os 6 0 C0r3.length)),(74,(aI ((C3.length:Nat):Int))),(75,(aI x2))],[(0,vN 12 [(aI C0),(aI C02),(.os 1 0 C1.length),(.os 2 0 C2.length),(.os 3 0 C08.length),(.os 4 0 C09.length),(.os 5 0 C5.length),(aB C03),(eU C04),(aB C05),(eU C06),(aI C07)]),(1,aO 1 cI 0 C1),(2,aO 1 cI 0 C2),(3,⟨false,1,C08.length,false,matGet [((i).toNat,6,C0r3.length)] (fun zm=>mR 4 TRc TRat.d (C08.getD zm []))⟩),(4,aO 4 TRc TRat.d C09),(5,aO 4 TRc TRat.d C5),(6,aO 4 TRc TRat.d C0r3)],7⟩
def g_e_tableau_pivot_J4_H (N:Nat) (i:Int) (j:Int) (C0:Int) (C02:Int) (C03:Bool) (C04:List Int) (C05:Bool) (C06:List Int) (C07:Int) (C1:List Int) (C2:List Int) (C3:List (List TRat)) (C5:List TRat) (x2:Int) (K:(List (List TRat))→(List TRat)→(List TRat)→Option (Ttb×(List Int)×(List Int)×(List (List TRat))×(List TRat)×(List TRat))):Prop:=∀ (C010:List (List TRat)) (C0r4:List TRat) (C011:List TRat) (r:Ttb×(List Int)×(List Int)×(List (List TRat))×(List TRat)×(List TRat)),K C010 C0r4 C011=some r→∀ E,EnvOk E 6→Runs Tryz.prog E 75 194 (SPost E [(0,vN 12 [(aI r.1.f_n),(aI r.1.f_m),(.os 1 0 r.2.1.length),(.os 2 0 r.2.2.1.length),(.os 3 0 r.2.2.2.1.length),(.os 4 0 r.2.2.2.2.1.length),(.os 5 0 r.2.2.2.2.2.length),(aB r.1.f_value.fN.fG),(eU r.1.f_value.fN.fL),(aB r.1.f_value.fD.fG),(eU r.1.f_value.fD.fL),(aI r.1.f_helper)]),(1,aO 1 cI 0 r.2.1),(2,aO 1 cI 0 r.2.2.1),(3,aM 4 TRc TRat.d r.2.2.2.1),(4,aO 4 TRc TRat.d r.2.2.2.2.1),(5,aO 4 TRc TRat.d r.2.2.2.2.2)] (.tup [])) [.code (C_58 8103),.inLoop (C_58 1012),.inBlock 2,.code (C_58 127)] ⟨[(0,(.op 0 0 0)),(1,(aI i)),(2,(aI j)),(7,(.os 6 0 C0r4.length)),(74,(aI ((C3.length:Nat):Int))),(75,(aI x2))],[(0,vN 12 [(aI C0),(aI C02),(.os 1 0 C1.length),(.os 2 0 C2.length),(.os 3 0 C010.length),(.os 4 0 C011.length),(.os 5 0 C5.length),(aB C03),(eU C04),(aB C05),(eU C06),(aI C07)]),(1,aO 1 cI 0 C1),(2,aO 1 cI 0 C2),(3,⟨false,1,C010.length,false,matGet [((i).toNat,6,C0r4.length)] (fun zm=>mR 4 TRc TRat.d (C010.getD zm []))⟩),(4,aO 4 TRc TRat.d C011),(5,aO 4 TRc TRat.d C5),(6,aO 4 TRc TRat.d C0r4)],7⟩
theorem g_e_tableau_pivot_J4_ok (N:Nat) (i:Int) (j:Int) (C0:Int) (C02:Int) (C03:Bool) (C04:List Int) (C05:Bool) (C06:List Int) (C07:Int) (C1:List Int) (C2:List Int) (C3:List (List TRat)) (C5:List TRat) (x2:Int) (K_g_e_tableau_pivot_L3:(List (List TRat))→(List TRat)→(List TRat)→Int→Option (Ttb×(List Int)×(List Int)×(List (List TRat))×(List TRat)×(List TRat))) (hK_g_e_tableau_pivot_L3:g_e_tableau_pivot_L3_H N i j C0 C02 C03 C04 C05 C06 C07 C1 C2 C3 C5 K_g_e_tableau_pivot_L3):g_e_tableau_pivot_J4_H N i j C0 C02 C03 C04 C05 C06 C07 C1 C2 C3 C5 x2 (g_e_tableau_pivot_J4 N i j C0 C02 C03 C04 C05 C06 C07 C1 C2 C3 C5 x2 K_g_e_tableau_pivot_L3):=by
 intro C010 C0r4 C011 r h E hE
 unfold g_e_tableau_pivot_J4 at h
 refine rnR hE 0 [] [] (kp [0,1,2,7,74,75]) (kq [0,1,2] ++ [(3,.mat 3 (C010.length) [((i).toNat,6,C0r4.length)] (fun zm=>mR 4 TRc TRat.d (C010.getD zm [])))] ++ kq [4,5,6]) 39 (pc (Eq.refl C010.length) (pc (show ∀ zm,zm < C010.length→matGet [((i).toNat,6,C0r4.length)] (fun zm=>mR 4 TRc TRat.d (C010.getD zm [])) zm=matGet [((i).toNat,6,C0r4.length)] (fun zm=>mR 4 TRc TRat.d (C010.getD zm [])) zm from (fun _ _=>rfl)) (pc (show ∀ zm,zm < C010.length→isMrL ((fun zm=>mR 4 TRc TRat.d (C010.getD zm [])) zm)=true from (fun _ _=>rfl)) pn))) ?_
 exact rnW hE 1 [] (kp [0,1,2,7,74,75]) (kq [0,1,2] ++ [(3,.mat 3 (C010.length) [((i).toNat,6,C0r4.length)] (fun zm=>mR 4 TRc TRat.d (C010.getD zm [])))] ++ kq [4,5,6]) 7 (pc (Eq.refl C010.length) (pc (show ∀ zm,zm < C010.length→matGet [((i).toNat,6,C0r4.length)] (fun zm=>mR 4 TRc TRat.d (C010.getD zm [])) zm=matGet [((i).toNat,6,C0r4.length)] (fun zm=>mR 4 TRc TRat.d (C010.getD zm [])) zm from (fun _ _=>rfl)) (pc (show ∀ zm,zm < C010.length→isMrL ((fun zm=>mR 4 TRc TRat.d (C010.getD zm [])) zm)=true from (fun _ _=>rfl)) pn))) (hK_g_e_tableau_pivot_L3 _ _ _ _ _ h E hE)
def g_e_tableau_pivot_J5_H (N:Nat) (i:Int) (j:Int) (C0:Int) (C02:Int) (C07:Int) (C1:List Int) (C2:List Int) (C08:List (List TRat)) (C0r3:List TRat) (C09:List TRat) (K:(List TRat)→Bool→(List Int)→Bool→(List Int)→Option (Ttb×(List Int)×(List Int)×(List (List TRat))×(List TRat)×(List TRat))):Prop:=∀ (C012:List TRat) (C013:Bool) (C014:List Int) (C015:Bool) (C016:List Int) (r:Ttb×(List Int)×(List Int)×(List (List TRat))×(List TRat)×(List TRat)),K C012 C013 C014 C015 C016=some r→∀ E,EnvOk E 6→Runs Tryz.prog E 75 194 (SPost E [(0,vN 12 [(aI r.1.f_n),(aI r.1.f_m),(.os 1 0 r.2.1.length),(.os 2 0 r.2.2.1.length),(.os 3 0 r.2.2.2.1.length),(.os 4 0 r.2.2.2.2.1.length),(.os 5 0 r.2.2.2.2.2.length),(aB r.1.f_value.fN.fG),(eU r.1.f_value.fN.fL),(aB r.1.f_value.fD.fG),(eU r.1.f_value.fD.fL),(aI r.1.f_helper)]),(1,aO 1 cI 0 r.2.1),(2,aO 1 cI 0 r.2.2.1),(3,aM 4 TRc TRat.d r.2.2.2.1),(4,aO 4 TRc TRat.d r.2.2.2.2.1),(5,aO 4 TRc TRat.d r.2.2.2.2.2)] (.tup [])) [.code (C_58 255)] ⟨[(0,(.op 0 0 0)),(1,(aI i)),(2,(aI j))],[(0,vN 12 [(aI C0),(aI C02),(.os 1 0 C1.length),(.os 2 0 C2.length),(.os 3 0 ((C08.set ((i).toNat) C0r3).length)),(.os 4 0 C09.length),(.os 5 0 C012.length),(aB C013),(eU C014),(aB C015),(eU C016),(aI C07)]),(1,aO 1 cI 0 C1),(2,aO 1 cI 0 C2),(3,aM 4 TRc TRat.d (C08.set ((i).toNat) C0r3)),(4,aO 4 TRc TRat.d C09),(5,aO 4 TRc TRat.d C012)],6⟩
theorem g_e_tableau_pivot_J5_ok (N:Nat) (i:Int) (j:Int) (C0:Int) (C02:Int) (C07:Int) (C1:List Int) (C2:List Int) (C08:List (List TRat)) (C0r3:List TRat) (C09:List TRat):g_e_tableau_pivot_J5_H N i j C0 C02 C07 C1 C2 C08 C0r3 C09 (g_e_tableau_pivot_J5 N i j C0 C02 C07 C1 C2 C08 C0r3 C09):=by
 intro C012 C013 C014 C015 C016 r h E hE
 unfold g_e_tableau_pivot_J5 at h
 obtain ⟨c27,h⟩:=ifSome h
 obtain ⟨c28,h⟩:=ifSome h
 refine rnR hE 0 [] [] [] ([(0,.var 0 [.keep,.keep,.osl ((C1.set ((i).toNat) (C2.getD ((j).toNat) 0)).length),.osl ((C2.set ((j).toNat) (C1.getD ((i).toNat) 0)).length),.keep,.keep,.keep,.keep,.keep,.keep,.keep,.keep]),(1,.arr 1 ((C1.set ((i).toNat) (C2.getD ((j).toNat) 0)).length) (fun zi=>cI ((C1.set ((i).toNat) (C2.getD ((j).toNat) 0)).getD zi 0))),(2,.arr 2 ((C2.set ((j).toNat) (C1.getD ((i).toNat) 0)).length) (fun zi=>cI ((C2.set ((j).toNat) (C1.getD ((i).toNat) 0)).getD zi 0)))] ++ kq [3,4,5]) 454 (pc o1 (pc o1 (pc o1 (pc c27 (pc (ltOf c27) (pc o1 (pc c28 (pc (ltOf c28) (pc c28 (pc (ltOf c28) (pc c27 (pc (ltOf c27) (pc (len_set0 C1 ((i).toNat) (C2.getD ((j).toNat) 0)) (pc (len_set0 C2 ((j).toNat) (C1.getD ((i).toNat) 0)) (pc (len_set0 C1 ((i).toNat) (C2.getD ((j).toNat) 0)) (pc (get_set0 cI 0 C1 ((i).toNat) (C2.getD ((j).toNat) 0)) (pc (len_set0 C2 ((j).toNat) (C1.getD ((i).toNat) 0)) (pc (get_set0 cI 0 C2 ((j).toNat) (C1.getD ((i).toNat) 0)) pn)))))))))))))))))) ?_
 obtain rfl:=osI h
 exact rnF hE 0 Tryz.f75 [] [] (kq [0,1,2,3,4,5]) 454 pn [] pn
theorem g_e_tableau_pivot_L3_ok (N:Nat) (i:Int) (j:Int) (C0:Int) (C02:Int) (C03:Bool) (C04:List Int) (C05:Bool) (C06:List Int) (C07:Int) (C1:List Int) (C2:List Int) (C3:List (List TRat)) (C5:List TRat) (fuel:Nat):g_e_tableau_pivot_L3_H N i j C0 C02 C03 C04 C05 C06 C07 C1 C2 C3 C5 (g_e_tableau_pivot_L3 N i j C0 C02 C03 C04 C05 C06 C07 C1 C2 C3 C5 fuel):=by
 induction fuel with
 | zero=>intro _ _ _ _ r h;rw [g_e_tableau_pivot_L3.eq_1] at h;cases h
 | succ fuel ih =>
  intro C08 C0r3 C09 x2 r h E hE
  rw [g_e_tableau_pivot_L3.eq_2] at h
  refine rnR hE 1 [] [] (kp [0,1,2,7,74,75,76]) (kq [0,1,2] ++ [(3,.mat 3 (C08.length) [((i).toNat,6,C0r3.length)] (fun zm=>mR 4 TRc TRat.d (C08.getD zm [])))] ++ kq [4,5,6]) 23 (pc (Eq.refl C08.length) (pc (show ∀ zm,zm < C08.length→matGet [((i).toNat,6,C0r3.length)] (fun zm=>mR 4 TRc TRat.d (C08.getD zm [])) zm=matGet [((i).toNat,6,C0r3.length)] (fun zm=>mR 4 TRc TRat.d (C08.getD zm [])) zm from (fun _ _=>rfl)) (pc (show ∀ zm,zm < C08.length→isMrL ((fun zm=>mR 4 TRc TRat.d (C08.getD zm [])) zm)=true from (fun _ _=>rfl)) pn))) ?_
  refine rnC 1 76 h (fun hq4 h=>?_) (fun hq4 h=>?_)
  ·refine rnR hE 4 [] [] (kp [0,1,2,7,9,74,75]) (kq [0,1,2] ++ [(3,.mat 3 (C08.length) [((i).toNat,6,C0r3.length)] (fun zm=>mR 4 TRc TRat.d (C08.getD zm [])))] ++ kq [4,5,6]) 55 (pc (Eq.refl C08.length) (pc (show ∀ zm,zm < C08.length→matGet [((i).toNat,6,C0r3.length)] (fun zm=>mR 4 TRc TRat.d (C08.getD zm [])) zm=matGet [((i).toNat,6,C0r3.length)] (fun zm=>mR 4 TRc TRat.d (C08.getD zm [])) zm from (fun _ _=>rfl)) (pc (show ∀ zm,zm < C08.length→isMrL ((fun zm=>mR 4 TRc TRat.d (C08.getD zm [])) zm)=true from (fun _ _=>rfl)) pn))) ?_
   rcases condSplit h with ⟨hA,h⟩ | ⟨hA,h⟩
   ·obtain ⟨c9,h⟩:=ifSome h
    obtain ⟨c10,h⟩:=ifSome h
    refine rnR hE 1 [(6,⟨[],false,(.os 6 0 C0r3.length),[],0,false,none⟩)] [] (kp [0,1,2,7,9,10,74,75]) (kq [0,1,2] ++ [(3,.mat 3 (C08.length) [((i).toNat,6,C0r3.length)] (fun zm=>mR 4 TRc TRat.d (C08.getD zm [])))] ++ kq [4,5,6,215]) 247 (pc o1 (pc c9 (pc (ltOf c9) (pc (show (matGet [((i).toNat,6,C0r3.length)] (fun zm=>mR 4 TRc TRat.d (C08.getD zm [])) ((x2).toNat))[0]?=some (.os 6 0 C0r3.length) from (gO (of_decide_eq_true hA))) (pc c10 (pc (ltOf c10) (pc o1 (pc (Eq.refl C08.length) (pc (show ∀ zm,zm < C08.length→matGet [((i).toNat,6,C0r3.length)] (fun zm=>mR 4 TRc TRat.d (C08.getD zm [])) zm=matGet [((i).toNat,6,C0r3.length)] (fun zm=>mR 4 TRc TRat.d (C08.getD zm [])) zm from (fun _ _=>rfl)) (pc (show ∀ zm,zm < C08.length→isMrL ((fun zm=>mR 4 TRc TRat.d (C08.getD zm [])) zm)=true from (fun _ _=>rfl)) pn)))))))))) ?_
    obtain ⟨risZero,hr7,h⟩:=bsm h
    refine rnR hE 1 [(5,⟨[],true,(aB risZero),[],0,false,none⟩)] [] (kp [0,1,2,7,9,10,74,75,95]) (kq [0,1,2] ++ [(3,.mat 3 (C08.length) [((i).toNat,6,C0r3.length)] (fun zm=>mR 4 TRc TRat.d (C08.getD zm [])))] ++ kq [4,5,6,215]) 375 (pc (fun hg:(x2 != i)=true=>(pc o1 pn)) (pc (fun hg:(x2 != i)=true=>(pc (g_e_isZero_ok N (⟨((C0r3.getD ((j).toNat) TRat.d).fN),((C0r3.getD ((j).toNat) TRat.d).fD)⟩:TRat) risZero (condT hr7 hg)) (pc hg pn))) (pc (fun hg:(x2 != i)=true=>(pc hg pn)) (pc (fun hq:(x2 != i)=true=>(pc hq pn)) (pc (Eq.refl C08.length) (pc (show ∀ zm,zm < C08.length→matGet [((i).toNat,6,C0r3.length)] (fun zm=>mR 4 TRc TRat.d (C08.getD zm [])) zm=matGet [((i).toNat,6,C0r3.length)] (fun zm=>mR 4 TRc TRat.d (C08.getD zm [])) zm from (fun _ _=>rfl)) (pc (show ∀ zm,zm < C08.length→isMrL ((fun zm=>mR 4 TRc TRat.d (C08.getD zm [])) zm)=true from (fun _ _=>rfl)) pn))))))) ?_
    refine rnC 0 95 h (fun hq5 h=>?_) (fun hq5 h=>?_)
    ·obtain ⟨c11,h⟩:=ifSome h
     obtain ⟨c12,h⟩:=ifSome h
     obtain ⟨rMulRat,hr8,h⟩:=bsm h
     obtain ⟨rAddRat,hr9,h⟩:=bsm h
     refine rnR hE 1 [(20,⟨[],true,(.agg (TRc rMulRat)),[],0,false,none⟩),(21,⟨[],true,(.agg (TRc rAddRat)),[],0,false,none⟩)] [] (kp [0,1,2,7,9,10,74,75]) ([(0,.var 0 [.keep,.keep,.keep,.keep,.keep,.osl ((C09.set ((x2).toNat) rAddRat).length),.keep,.keep,.keep,.keep,.keep,.keep])] ++ kq [1,2] ++ [(3,.mat 3 (C08.length) [((i).toNat,6,C0r3.length)] (fun zm=>mR 4 TRc TRat.d (C08.getD zm []))),(4,.arr 4 ((C09.set ((x2).toNat) rAddRat).length) (fun zi=>TRc ((C09.set ((x2).toNat) rAddRat).getD zi TRat.d)))] ++ kq [5,6,215]) 759 (pc o1 (pc o1 (pc c11 (pc (ltOf c11) (pc o1 (pc o1 (pc c12 (pc (ltOf c12) (pc (g_e_MulRat_ok N (⟨((C0r3.getD ((j).toNat) TRat.d).fN),((C0r3.getD ((j).toNat) TRat.d).fD)⟩:TRat) (⟨((C09.getD ((i).toNat) TRat.d).fN),((C09.getD ((i).toNat) TRat.d).fD)⟩:TRat) rMulRat hr8) (pc (g_e_AddRat_ok N (⟨((C09.getD ((x2).toNat) TRat.d).fN),((C09.getD ((x2).toNat) TRat.d).fD)⟩:TRat) rMulRat rAddRat hr9) (pc c11 (pc (ltOf c11) (pc (len_set0 C09 ((x2).toNat) rAddRat) (pc (Eq.refl C08.length) (pc (show ∀ zm,zm < C08.length→matGet [((i).toNat,6,C0r3.length)] (fun zm=>mR 4 TRc TRat.d (C08.getD zm [])) zm=matGet [((i).toNat,6,C0r3.length)] (fun zm=>mR 4 TRc TRat.d (C08.getD zm [])) zm from (fun _ _=>rfl)) (pc (show ∀ zm,zm < C08.length→isMrL ((fun zm=>mR 4 TRc TRat.d (C08.getD zm [])) zm)=true from (fun _ _=>rfl)) (pc (len_set0 C09 ((x2).toNat) rAddRat) (pc (get_set0 TRc TRat.d C09 ((x2).toNat) rAddRat) pn)))))))))))))))))) ?_
     rcases condSplit h with ⟨hA2,h⟩ | ⟨hA2,h⟩
     ·obtain ⟨rput,hr10,h⟩:=bsm h
      obtain ⟨c13,h⟩:=ifSome h
      refine rnR hE 0 [(7,⟨[],false,(.os 6 0 C0r3.length),[],0,false,none⟩),(11,⟨[6],false,(.tup []),[(0,aO 4 TRc TRat.d rput)],0,false,none⟩)] [] (kp [0,1,2] ++ [(7,.osl (rput.length))] ++ kp [74,75]) (kq [0,1,2] ++ [(3,.mat 3 (C08.length) [((i).toNat,6,rput.length)] (fun zm=>mR 4 TRc TRat.d (C08.getD zm [])))] ++ kq [4,5,6]) 951 (pc o1 (pc c9 (pc (ltOf c9) (pc (show (matGet [((i).toNat,6,C0r3.length)] (fun zm=>mR 4 TRc TRat.d (C08.getD zm [])) ((x2).toNat))[0]?=some (.os 6 0 C0r3.length) from (gO (of_decide_eq_true hA2))) (pc o1 (pc (g_e_tableau_put_ok N j (⟨((C0r3.getD ((j).toNat) TRat.d).fN),((C0r3.getD ((j).toNat) TRat.d).fD)⟩:TRat) C0r3 rput hr10) (pc (show C0r3.length=rput.length from (Eq.symm c13)) (pc (Eq.refl C08.length) (pc (show ∀ zm,zm < C08.length→matGet [((i).toNat,6,rput.length)] (fun zm=>mR 4 TRc TRat.d (C08.getD zm [])) zm=matGet [((i).toNat,6,C0r3.length)] (fun zm=>mR 4 TRc TRat.d (C08.getD zm [])) zm from (fun zm _=>(congrArg (fun zn=>matGet [((i).toNat,6,zn)] (fun zm=>mR 4 TRc TRat.d (C08.getD zm [])) zm) (Eq.symm (Eq.symm c13))))) (pc (show ∀ zm,zm < C08.length→isMrL ((fun zm=>mR 4 TRc TRat.d (C08.getD zm [])) zm)=true from (fun _ _=>rfl)) pn)))))))))) ?_
      exact rnW hE 1 [] (kp [0,1,2,7,74,75]) (kq [0,1,2] ++ [(3,.mat 3 (C08.length) [((i).toNat,6,rput.length)] (fun zm=>mR 4 TRc TRat.d (C08.getD zm [])))] ++ kq [4,5,6]) 7 (pc (Eq.refl C08.length) (pc (show ∀ zm,zm < C08.length→matGet [((i).toNat,6,rput.length)] (fun zm=>mR 4 TRc TRat.d (C08.getD zm [])) zm=matGet [((i).toNat,6,rput.length)] (fun zm=>mR 4 TRc TRat.d (C08.getD zm [])) zm from (fun _ _=>rfl)) (pc (show ∀ zm,zm < C08.length→isMrL ((fun zm=>mR 4 TRc TRat.d (C08.getD zm [])) zm)=true from (fun _ _=>rfl)) pn))) (g_e_tableau_pivot_J4_ok N _ _ _ _ _ _ _ _ _ _ _ _ _ _ _ ih _ _ _ _ h E hE)
     ·obtain ⟨c14,h⟩:=ifSome h
      refine rnO 3 ((x2).toNat) 4 ((C08.getD ((x2).toNat) []).length) (fun zi=>TRc ((C08.getD ((x2).toNat) []).getD zi TRat.d)) (pc c14 (pc (show matGet [((i).toNat,6,C0r3.length)] (fun zm=>mR 4 TRc TRat.d (C08.getD zm [])) ((x2).toNat)=mR 4 TRc TRat.d (C08.getD ((x2).toNat) []) from (if_neg (of_decide_eq_false hA2))) pn)) ?_
      obtain ⟨rput2,hr11,h⟩:=bsm h
      obtain ⟨c15,h⟩:=ifSome h
      refine rnR hE 0 [(7,⟨[],false,(.os 759 0 ((C08.getD ((x2).toNat) []).length)),[],0,false,none⟩),(11,⟨[759,6],false,(.tup []),[(0,aO 4 TRc TRat.d rput2),(1,aO 4 TRc TRat.d C0r3)],0,false,none⟩)] [] (kp [0,1,2,7,74,75]) (kq [0,1,2] ++ [(3,.mat 3 (C08.length) [((x2).toNat,759,rput2.length),((i).toNat,6,C0r3.length)] (fun zm=>mR 4 TRc TRat.d (C08.getD zm [])))] ++ kq [4,5,6,759]) 967 (pc o1 (pc c9 (pc (ltOf c9) (pc (show (matGet [((x2).toNat,759,(C08.getD ((x2).toNat) []).length),((i).toNat,6,C0r3.length)] (fun zm=>mR 4 TRc TRat.d (C08.getD zm [])) ((x2).toNat))[0]?=some (.os 759 0 ((C08.getD ((x2).toNat) []).length)) from (gO rfl)) (pc o1 (pc (g_e_tableau_put_v2_ok N j (⟨((C0r3.getD ((j).toNat) TRat.d).fN),((C0r3.getD ((j).toNat) TRat.d).fD)⟩:TRat) (C08.getD ((x2).toNat) []) C0r3 rput2 hr11) (pc (Eq.refl C08.length) (pc (show ∀ zm,zm < C08.length→matGet [((x2).toNat,759,rput2.length),((i).toNat,6,C0r3.length)] (fun zm=>mR 4 TRc TRat.d (C08.getD zm [])) zm=matGet [((x2).toNat,759,(C08.getD ((x2).toNat) []).length),((i).toNat,6,C0r3.length)] (fun zm=>mR 4 TRc TRat.d (C08.getD zm [])) zm from (fun zm _=>(congrArg (fun zn=>matGet [((x2).toNat,759,zn),((i).toNat,6,C0r3.length)] (fun zm=>mR 4 TRc TRat.d (C08.getD zm [])) zm) (Eq.symm (Eq.symm c15))))) (pc (show ∀ zm,zm < C08.length→isMrL ((fun zm=>mR 4 TRc TRat.d (C08.getD zm [])) zm)=true from (fun _ _=>rfl)) pn))))))))) ?_
      refine rnL 3 759 ((x2).toNat) (pc c14 (pc (show matGet [((x2).toNat,759,rput2.length),((i).toNat,6,C0r3.length)] (fun zm=>mR 4 TRc TRat.d (C08.getD zm [])) ((x2).toNat)=[.os 759 0 rput2.length] from if_pos rfl) (pc (show ∀ zj,zj < rput2.length→noMrL (TRc (rput2.getD zj TRat.d))=true from fun _ _=>rfl) pn))) ?_
      refine rnX hE [] (kp [0,1,2,7,74,75]) ([(0,.var 0 [.keep,.keep,.keep,.keep,.osl ((C08.set ((x2).toNat) rput2).length),.keep,.keep,.keep,.keep,.keep,.keep,.keep])] ++ kq [1,2] ++ [(3,.mat 3 ((C08.set ((x2).toNat) rput2).length) [((i).toNat,6,C0r3.length)] (fun zm=>mR 4 TRc TRat.d ((C08.set ((x2).toNat) rput2).getD zm [])))] ++ kq [4,5,6]) 967 (pc (len_set0 C08 ((x2).toNat) rput2) (pc (len_set0 C08 ((x2).toNat) rput2) (pc (mat_cls (sz:=4) (c:=TRc) (d:=TRat.d) C08 ((x2).toNat) 759 rput2.length rput2 [((i).toNat,6,C0r3.length)] c14 (neC (Ne.symm (of_decide_eq_false hA2)) nemL)) (pc (show ∀ zm,zm < (C08.set ((x2).toNat) rput2).length→isMrL ((fun zm=>mR 4 TRc TRat.d ((C08.set ((x2).toNat) rput2).getD zm [])) zm)=true from fun _ _=>rfl) pn)))) ?_
      exact rnW hE 1 [] (kp [0,1,2,7,74,75]) (kq [0,1,2] ++ [(3,.mat 3 ((C08.set ((x2).toNat) rput2).length) [((i).toNat,6,C0r3.length)] (fun zm=>mR 4 TRc TRat.d ((C08.set ((x2).toNat) rput2).getD zm [])))] ++ kq [4,5,6]) 7 (pc (Eq.refl ((C08.set ((x2).toNat) rput2).length)) (pc (show ∀ zm,zm < (C08.set ((x2).toNat) rput2).length→matGet [((i).toNat,6,C0r3.length)] (fun zm=>mR 4 TRc TRat.d ((C08.set ((x2).toNat) rput2).getD zm [])) zm=matGet [((i).toNat,6,C0r3.length)] (fun zm=>mR 4 TRc TRat.d ((C08.set ((x2).toNat) rput2).getD zm [])) zm from (fun _ _=>rfl)) (pc (show ∀ zm,zm < (C08.set ((x2).toNat) rput2).length→isMrL ((fun zm=>mR 4 TRc TRat.d ((C08.set ((x2).toNat) rput2).getD zm [])) zm)=true from (fun _ _=>rfl)) pn))) (g_e_tableau_pivot_J4_ok N _ _ _ _ _ _ _ _ _ _ _ _ _ _ _ ih _ _ _ _ h E hE)
    ·exact rnW hE 2 [] (kp [0,1,2,7,74,75]) (kq [0,1,2] ++ [(3,.mat 3 (C08.length) [((i).toNat,6,C0r3.length)] (fun zm=>mR 4 TRc TRat.d (C08.getD zm [])))] ++ kq [4,5,6]) 7 (pc (Eq.refl C08.length) (pc (show ∀ zm,zm < C08.length→matGet [((i).toNat,6,C0r3.length)] (fun zm=>mR 4 TRc TRat.d (C08.getD zm [])) zm=matGet [((i).toNat,6,C0r3.length)] (fun zm=>mR 4 TRc TRat.d (C08.getD zm [])) zm from (fun _ _=>rfl)) (pc (show ∀ zm,zm < C08.length→isMrL ((fun zm=>mR 4 TRc TRat.d (C08.getD zm [])) zm)=true from (fun _ _=>rfl)) pn))) (g_e_tableau_pivot_J4_ok N _ _ _ _ _ _ _ _ _ _ _ _ _ _ _ ih _ _ _ _ h E hE)
   ·obtain ⟨c17,h⟩:=ifSome h
    refine rnO 3 ((x2).toNat) 4 ((C08.getD ((x2).toNat) []).length) (fun zi=>TRc ((C08.getD ((x2).toNat) []).getD zi TRat.d)) (pc c17 (pc (show matGet [((i).toNat,6,C0r3.length)] (fun zm=>mR 4 TRc TRat.d (C08.getD zm [])) ((x2).toNat)=mR 4 TRc TRat.d (C08.getD ((x2).toNat) []) from (if_neg (of_decide_eq_false hA))) pn)) ?_
    obtain ⟨c18,h⟩:=ifSome h
    obtain ⟨c19,h⟩:=ifSome h
    refine rnR hE 1 [(6,⟨[],false,(.os 55 0 ((C08.getD ((x2).toNat) []).length)),[],0,false,none⟩)] [] (kp [0,1,2,7,9,10,74,75]) (kq [0,1,2] ++ [(3,.mat 3 (C08.length) [((x2).toNat,55,(C08.getD ((x2).toNat) []).length),((i).toNat,6,C0r3.length)] (fun zm=>mR 4 TRc TRat.d (C08.getD zm [])))] ++ kq [4,5,6,55,231]) 263 (pc o1 (pc c18 (pc (ltOf c18) (pc (show (matGet [((x2).toNat,55,(C08.getD ((x2).toNat) []).length),((i).toNat,6,C0r3.length)] (fun zm=>mR 4 TRc TRat.d (C08.getD zm [])) ((x2).toNat))[0]?=some (.os 55 0 ((C08.getD ((x2).toNat) []).length)) from (gO rfl)) (pc c19 (pc (ltOf c19) (pc o1 (pc (Eq.refl C08.length) (pc (show ∀ zm,zm < C08.length→matGet [((x2).toNat,55,(C08.getD ((x2).toNat) []).length),((i).toNat,6,C0r3.length)] (fun zm=>mR 4 TRc TRat.d (C08.getD zm [])) zm=matGet [((x2).toNat,55,(C08.getD ((x2).toNat) []).length),((i).toNat,6,C0r3.length)] (fun zm=>mR 4 TRc TRat.d (C08.getD zm [])) zm from (fun _ _=>rfl)) (pc (show ∀ zm,zm < C08.length→isMrL ((fun zm=>mR 4 TRc TRat.d (C08.getD zm [])) zm)=true from (fun _ _=>rfl)) pn)))))))))) ?_
    refine rnL 3 55 ((x2).toNat) (pc c17 (pc (show matGet [((x2).toNat,55,(C08.getD ((x2).toNat) []).length),((i).toNat,6,C0r3.length)] (fun zm=>mR 4 TRc TRat.d (C08.getD zm [])) ((x2).toNat)=[.os 55 0 (C08.getD ((x2).toNat) []).length] from if_pos rfl) (pc (show ∀ zj,zj < (C08.getD ((x2).toNat) []).length→noMrL (TRc ((C08.getD ((x2).toNat) []).getD zj TRat.d))=true from fun _ _=>rfl) pn))) ?_
    refine rnX hE [] (kp [0,1,2,7,9,10,74,75]) (kq [0,1,2] ++ [(3,.mat 3 (C08.length) [((i).toNat,6,C0r3.length)] (fun zm=>mR 4 TRc TRat.d (C08.getD zm [])))] ++ kq [4,5,6,231]) 263 (pc (Eq.refl (C08.length)) (pc (mat_cls0 (sz:=4) (c:=TRc) (d:=TRat.d) C08 ((x2).toNat) 55 ((C08.getD ((x2).toNat) []).length) [((i).toNat,6,C0r3.length)] (neC (Ne.symm (of_decide_eq_false hA)) nemL)) (pc (show ∀ zm,zm < C08.length→isMrL ((fun zm=>mR 4 TRc TRat.d (C08.getD zm [])) zm)=true from fun _ _=>rfl) pn))) ?_
    obtain ⟨risZero2,hr12,h⟩:=bsm h
    refine rnR hE 1 [(5,⟨[],true,(aB risZero2),[],0,false,none⟩)] [] (kp [0,1,2,7,9,10,74,75,95]) (kq [0,1,2] ++ [(3,.mat 3 (C08.length) [((i).toNat,6,C0r3.length)] (fun zm=>mR 4 TRc TRat.d (C08.getD zm [])))] ++ kq [4,5,6,231]) 391 (pc (fun hg:(x2 != i)=true=>(pc o1 pn)) (pc (fun hg:(x2 != i)=true=>(pc (g_e_isZero_ok N (⟨(((C08.getD ((x2).toNat) []).getD ((j).toNat) TRat.d).fN),(((C08.getD ((x2).toNat) []).getD ((j).toNat) TRat.d).fD)⟩:TRat) risZero2 (condT hr12 hg)) (pc hg pn))) (pc (fun hg:(x2 != i)=true=>(pc hg pn)) (pc (fun hq:(x2 != i)=true=>(pc hq pn)) (pc (Eq.refl C08.length) (pc (show ∀ zm,zm < C08.length→matGet [((i).toNat,6,C0r3.length)] (fun zm=>mR 4 TRc TRat.d (C08.getD zm [])) zm=matGet [((i).toNat,6,C0r3.length)] (fun zm=>mR 4 TRc TRat.d (C08.getD zm [])) zm from (fun _ _=>rfl)) (pc (show ∀ zm,zm < C08.length→isMrL ((fun zm=>mR 4 TRc TRat.d (C08.getD zm [])) zm)=true from (fun _ _=>rfl)) pn))))))) ?_
    refine rnC 0 95 h (fun hq6 h=>?_) (fun hq6 h=>?_)
    ·obtain ⟨c20,h⟩:=ifSome h
     obtain ⟨c21,h⟩:=ifSome h
     obtain ⟨rMulRat2,hr13,h⟩:=bsm h
     obtain ⟨rAddRat2,hr14,h⟩:=bsm h
     refine rnR hE 1 [(20,⟨[],true,(.agg (TRc rMulRat2)),[],0,false,none⟩),(21,⟨[],true,(.agg (TRc rAddRat2)),[],0,false,none⟩)] [] (kp [0,1,2,7,9,10,74,75]) ([(0,.var 0 [.keep,.keep,.keep,.keep,.keep,.osl ((C09.set ((x2).toNat) rAddRat2).length),.keep,.keep,.keep,.keep,.keep,.keep])] ++ kq [1,2] ++ [(3,.mat 3 (C08.length) [((i).toNat,6,C0r3.length)] (fun zm=>mR 4 TRc TRat.d (C08.getD zm []))),(4,.arr 4 ((C09.set ((x2).toNat) rAddRat2).length) (fun zi=>TRc ((C09.set ((x2).toNat) rAddRat2).getD zi TRat.d)))] ++ kq [5,6,231]) 775 (pc o1 (pc o1 (pc c20 (pc (ltOf c20) (pc o1 (pc o1 (pc c21 (pc (ltOf c21) (pc (g_e_MulRat_ok N (⟨(((C08.getD ((x2).toNat) []).getD ((j).toNat) TRat.d).fN),(((C08.getD ((x2).toNat) []).getD ((j).toNat) TRat.d).fD)⟩:TRat) (⟨((C09.getD ((i).toNat) TRat.d).fN),((C09.getD ((i).toNat) TRat.d).fD)⟩:TRat) rMulRat2 hr13) (pc (g_e_AddRat_ok N (⟨((C09.getD ((x2).toNat) TRat.d).fN),((C09.getD ((x2).toNat) TRat.d).fD)⟩:TRat) rMulRat2 rAddRat2 hr14) (pc c20 (pc (ltOf c20) (pc (len_set0 C09 ((x2).toNat) rAddRat2) (pc (Eq.refl C08.length) (pc (show ∀ zm,zm < C08.length→matGet [((i).toNat,6,C0r3.length)] (fun zm=>mR 4 TRc TRat.d (C08.getD zm [])) zm=matGet [((i).toNat,6,C0r3.length)] (fun zm=>mR 4 TRc TRat.d (C08.getD zm [])) zm from (fun _ _=>rfl)) (pc (show ∀ zm,zm < C08.length→isMrL ((fun zm=>mR 4 TRc TRat.d (C08.getD zm [])) zm)=true from (fun _ _=>rfl)) (pc (len_set0 C09 ((x2).toNat) rAddRat2) (pc (get_set0 TRc TRat.d C09 ((x2).toNat) rAddRat2) pn)))))))))))))))))) ?_
     refine rnO 3 ((x2).toNat) 4 ((C08.getD ((x2).toNat) []).length) (fun zi=>TRc ((C08.getD ((x2).toNat) []).getD zi TRat.d)) (pc c17 (pc (show matGet [((i).toNat,6,C0r3.length)] (fun zm=>mR 4 TRc TRat.d (C08.getD zm [])) ((x2).toNat)=mR 4 TRc TRat.d (C08.getD ((x2).toNat) []) from (if_neg (of_decide_eq_false hA))) pn)) ?_
     obtain ⟨rput3,hr15,h⟩:=bsm h
     obtain ⟨c22,h⟩:=ifSome h
     refine rnR hE 0 [(7,⟨[],false,(.os 775 0 ((C08.getD ((x2).toNat) []).length)),[],0,false,none⟩),(11,⟨[775,6],false,(.tup []),[(0,aO 4 TRc TRat.d rput3),(1,aO 4 TRc TRat.d C0r3)],0,false,none⟩)] [] (kp [0,1,2,7,74,75]) (kq [0,1,2] ++ [(3,.mat 3 (C08.length) [((x2).toNat,775,rput3.length),((i).toNat,6,C0r3.length)] (fun zm=>mR 4 TRc TRat.d (C08.getD zm [])))] ++ kq [4,5,6,775]) 983 (pc o1 (pc c18 (pc (ltOf c18) (pc (show (matGet [((x2).toNat,775,(C08.getD ((x2).toNat) []).length),((i).toNat,6,C0r3.length)] (fun zm=>mR 4 TRc TRat.d (C08.getD zm [])) ((x2).toNat))[0]?=some (.os 775 0 ((C08.getD ((x2).toNat) []).length)) from (gO rfl)) (pc o1 (pc (g_e_tableau_put_v2_ok N j (⟨(((C08.getD ((x2).toNat) []).getD ((j).toNat) TRat.d).fN),(((C08.getD ((x2).toNat) []).getD ((j).toNat) TRat.d).fD)⟩:TRat) (C08.getD ((x2).toNat) []) C0r3 rput3 hr15) (pc (Eq.refl C08.length) (pc (show ∀ zm,zm < C08.length→matGet [((x2).toNat,775,rput3.length),((i).toNat,6,C0r3.length)] (fun zm=>mR 4 TRc TRat.d (C08.getD zm [])) zm=matGet [((x2).toNat,775,(C08.getD ((x2).toNat) []).length),((i).toNat,6,C0r3.length)] (fun zm=>mR 4 TRc TRat.d (C08.getD zm [])) zm from (fun zm _=>(congrArg (fun zn=>matGet [((x2).toNat,775,zn),((i).toNat,6,C0r3.length)] (fun zm=>mR 4 TRc TRat.d (C08.getD zm [])) zm) (Eq.symm (Eq.symm c22))))) (pc (show ∀ zm,zm < C08.length→isMrL ((fun zm=>mR 4 TRc TRat.d (C08.getD zm [])) zm)=true from (fun _ _=>rfl)) pn))))))))) ?_
     refine rnL 3 775 ((x2).toNat) (pc c17 (pc (show matGet [((x2).toNat,775,rput3.length),((i).toNat,6,C0r3.length)] (fun zm=>mR 4 TRc TRat.d (C08.getD zm [])) ((x2).toNat)=[.os 775 0 rput3.length] from if_pos rfl) (pc (show ∀ zj,zj < rput3.length→noMrL (TRc (rput3.getD zj TRat.d))=true from fun _ _=>rfl) pn))) ?_
     refine rnX hE [] (kp [0,1,2,7,74,75]) ([(0,.var 0 [.keep,.keep,.keep,.keep,.osl ((C08.set ((x2).toNat) rput3).length),.keep,.keep,.keep,.keep,.keep,.keep,.keep])] ++ kq [1,2] ++ [(3,.mat 3 ((C08.set ((x2).toNat) rput3).length) [((i).toNat,6,C0r3.length)] (fun zm=>mR 4 TRc TRat.d ((C08.set ((x2).toNat) rput3).getD zm [])))] ++ kq [4,5,6]) 983 (pc (len_set0 C08 ((x2).toNat) rput3) (pc (len_set0 C08 ((x2).toNat) rput3) (pc (mat_cls (sz:=4) (c:=TRc) (d:=TRat.d) C08 ((x2).toNat) 775 rput3.length rput3 [((i).toNat,6,C0r3.length)] c17 (neC (Ne.symm (of_decide_eq_false hA)) nemL)) (pc (show ∀ zm,zm < (C08.set ((x2).toNat) rput3).length→isMrL ((fun zm=>mR 4 TRc TRat.d ((C08.set ((x2).toNat) rput3).getD zm [])) zm)=true from fun _ _=>rfl) pn)))) ?_
     exact rnW hE 1 [] (kp [0,1,2,7,74,75]) (kq [0,1,2] ++ [(3,.mat 3 ((C08.set ((x2).toNat) rput3).length) [((i).toNat,6,C0r3.length)] (fun zm=>mR 4 TRc TRat.d ((C08.set ((x2).toNat) rput3).getD zm [])))] ++ kq [4,5,6]) 7 (pc (Eq.refl ((C08.set ((x2).toNat) rput3).length)) (pc (show ∀ zm,zm < (C08.set ((x2).toNat) rput3).length→matGet [((i).toNat,6,C0r3.length)] (fun zm=>mR 4 TRc TRat.d ((C08.set ((x2).toNat) rput3).getD zm [])) zm=matGet [((i).toNat,6,C0r3.length)] (fun zm=>mR 4 TRc TRat.d ((C08.set ((x2).toNat) rput3).getD zm [])) zm from (fun _ _=>rfl)) (pc (show ∀ zm,zm < (C08.set ((x2).toNat) rput3).length→isMrL ((fun zm=>mR 4 TRc TRat.d ((C08.set ((x2).toNat) rput3).getD zm [])) zm)=true from (fun _ _=>rfl)) pn))) (g_e_tableau_pivot_J4_ok N _ _ _ _ _ _ _ _ _ _ _ _ _ _ _ ih _ _ _ _ h E hE)
    ·exact rnW hE 2 [] (kp [0,1,2,7,74,75]) (kq [0,1,2] ++ [(3,.mat 3 (C08.length) [((i).toNat,6,C0r3.length)] (fun zm=>mR 4 TRc TRat.d (C08.getD zm [])))] ++ kq [4,5,6]) 7 (pc (Eq.refl C08.length) (pc (show ∀ zm,zm < C08.length→matGet [((i).toNat,6,C0r3.length)] (fun zm=>mR 4 TRc TRat.d (C08.getD zm [])) zm=matGet [((i).toNat,6,C0r3.length)] (fun zm=>mR 4 TRc TRat.d (C08.getD zm [])) zm from (fun _ _=>rfl)) (pc (show ∀ zm,zm < C08.length→isMrL ((fun zm=>mR 4 TRc TRat.d (C08.getD zm [])) zm)=true from (fun _ _=>rfl)) pn))) (g_e_tableau_pivot_J4_ok N _ _ _ _ _ _ _ _ _ _ _ _ _ _ _ ih _ _ _ _ h E hE)
  ·obtain ⟨c23,h⟩:=ifSome h
   refine rnR hE 3 [] [] (kp [0,1,2,7,11]) (kq [0,1,2] ++ [(3,.mat 3 (C08.length) [((i).toNat,6,C0r3.length)] (fun zm=>mR 4 TRc TRat.d (C08.getD zm [])))] ++ kq [4,5,6,135]) 167 (pc o1 (pc c23 (pc (ltOf c23) (pc o1 (pc (Eq.refl C08.length) (pc (show ∀ zm,zm < C08.length→matGet [((i).toNat,6,C0r3.length)] (fun zm=>mR 4 TRc TRat.d (C08.getD zm [])) zm=matGet [((i).toNat,6,C0r3.length)] (fun zm=>mR 4 TRc TRat.d (C08.getD zm [])) zm from (fun _ _=>rfl)) (pc (show ∀ zm,zm < C08.length→isMrL ((fun zm=>mR 4 TRc TRat.d (C08.getD zm [])) zm)=true from (fun _ _=>rfl)) pn))))))) ?_
   obtain ⟨risZero3,hr16,h⟩:=bsm h
   refine rnR hE 1 [(1,⟨[],true,(aB risZero3),[],0,false,none⟩)] [] (kp [0,1,2,7,11,141]) (kq [0,1,2] ++ [(3,.mat 3 (C08.length) [((i).toNat,6,C0r3.length)] (fun zm=>mR 4 TRc TRat.d (C08.getD zm [])))] ++ kq [4,5,6,135]) 215 (pc o1 (pc (g_e_isZero_ok N (⟨((C5.getD ((j).toNat) TRat.d).fN),((C5.getD ((j).toNat) TRat.d).fD)⟩:TRat) risZero3 hr16) (pc (Eq.refl C08.length) (pc (show ∀ zm,zm < C08.length→matGet [((i).toNat,6,C0r3.length)] (fun zm=>mR 4 TRc TRat.d (C08.getD zm [])) zm=matGet [((i).toNat,6,C0r3.length)] (fun zm=>mR 4 TRc TRat.d (C08.getD zm [])) zm from (fun _ _=>rfl)) (pc (show ∀ zm,zm < C08.length→isMrL ((fun zm=>mR 4 TRc TRat.d (C08.getD zm [])) zm)=true from (fun _ _=>rfl)) pn))))) ?_
   refine rnC 0 141 h (fun hq7 h=>?_) (fun hq7 h=>?_)
   ·obtain ⟨c24,h⟩:=ifSome h
    obtain ⟨rMulRat3,hr17,h⟩:=bsm h
    obtain ⟨rAddRat3,hr18,h⟩:=bsm h
    refine rnR hE 1 [(13,⟨[],true,(.agg (TRc rMulRat3)),[],0,false,none⟩),(14,⟨[],true,(.agg (TRc rAddRat3)),[],0,false,none⟩)] [] (kp [0,1,2,7,11]) (kq [0,1,2] ++ [(3,.mat 3 (C08.length) [((i).toNat,6,C0r3.length)] (fun zm=>mR 4 TRc TRat.d (C08.getD zm [])))] ++ kq [4,5,6,135]) 503 (pc o1 (pc o1 (pc o1 (pc c24 (pc (ltOf c24) (pc (g_e_MulRat_ok N (⟨((C5.getD ((j).toNat) TRat.d).fN),((C5.getD ((j).toNat) TRat.d).fD)⟩:TRat) (⟨((C09.getD ((i).toNat) TRat.d).fN),((C09.getD ((i).toNat) TRat.d).fD)⟩:TRat) rMulRat3 hr17) (pc (g_e_AddRat_ok N (⟨(⟨C03,C04⟩:TInt),(⟨C05,C06⟩:TInt)⟩:TRat) rMulRat3 rAddRat3 hr18) (pc o1 (pc (Eq.refl C08.length) (pc (show ∀ zm,zm < C08.length→matGet [((i).toNat,6,C0r3.length)] (fun zm=>mR 4 TRc TRat.d (C08.getD zm [])) zm=matGet [((i).toNat,6,C0r3.length)] (fun zm=>mR 4 TRc TRat.d (C08.getD zm [])) zm from (fun _ _=>rfl)) (pc (show ∀ zm,zm < C08.length→isMrL ((fun zm=>mR 4 TRc TRat.d (C08.getD zm [])) zm)=true from (fun _ _=>rfl)) pn))))))))))) ?_
    obtain ⟨rput4,hr19,h⟩:=bsm h
    obtain ⟨c25,h⟩:=ifSome h
    refine rnR hE 0 [(8,⟨[5,6],false,(.tup []),[(0,aO 4 TRc TRat.d rput4),(1,aO 4 TRc TRat.d C0r3)],0,false,none⟩)] [] (kp [0,1,2]) ([(0,.var 0 [.keep,.keep,.keep,.keep,.keep,.keep,.osl (rput4.length),.keep,.keep,.keep,.keep,.keep])] ++ kq [1,2] ++ [(3,.mat 3 (C08.length) [((i).toNat,6,C0r3.length)] (fun zm=>mR 4 TRc TRat.d (C08.getD zm [])))] ++ kq [4,5,6]) 647 (pc o1 (pc o1 (pc (g_e_tableau_put_v2_ok N j (⟨((C5.getD ((j).toNat) TRat.d).fN),((C5.getD ((j).toNat) TRat.d).fD)⟩:TRat) C5 C0r3 rput4 hr19) (pc (show C5.length=rput4.length from (Eq.symm c25)) (pc (Eq.refl C08.length) (pc (show ∀ zm,zm < C08.length→matGet [((i).toNat,6,C0r3.length)] (fun zm=>mR 4 TRc TRat.d (C08.getD zm [])) zm=matGet [((i).toNat,6,C0r3.length)] (fun zm=>mR 4 TRc TRat.d (C08.getD zm [])) zm from (fun _ _=>rfl)) (pc (show ∀ zm,zm < C08.length→isMrL ((fun zm=>mR 4 TRc TRat.d (C08.getD zm [])) zm)=true from (fun _ _=>rfl)) pn))))))) ?_
    obtain ⟨c26,h⟩:=ifSome h
    refine rnL 3 6 ((i).toNat) (pc c26 (pc (show matGet [((i).toNat,6,C0r3.length)] (fun zm=>mR 4 TRc TRat.d (C08.getD zm [])) ((i).toNat)=[.os 6 0 C0r3.length] from if_pos rfl) (pc (show ∀ zj,zj < C0r3.length→noMrL (TRc (C0r3.getD zj TRat.d))=true from fun _ _=>rfl) pn))) ?_
    refine rnX hE [] (kp [0,1,2]) ([(0,.var 0 [.keep,.keep,.keep,.keep,.osl ((C08.set ((i).toNat) C0r3).length),.keep,.keep,.keep,.keep,.keep,.keep,.keep])] ++ kq [1,2] ++ [(3,.mat 3 ((C08.set ((i).toNat) C0r3).length) [] (fun zm=>mR 4 TRc TRat.d ((C08.set ((i).toNat) C0r3).getD zm [])))] ++ kq [4,5]) 647 (pc (len_set0 C08 ((i).toNat) C0r3) (pc (len_set0 C08 ((i).toNat) C0r3) (pc (mat_cls (sz:=4) (c:=TRc) (d:=TRat.d) C08 ((i).toNat) 6 C0r3.length C0r3 [] c26 nemL) (pc (show ∀ zm,zm < (C08.set ((i).toNat) C0r3).length→isMrL ((fun zm=>mR 4 TRc TRat.d ((C08.set ((i).toNat) C0r3).getD zm [])) zm)=true from fun _ _=>rfl) pn)))) ?_
    exact rnW hE 0 [] (kp [0,1,2]) (kq [0,1,2,3,4,5]) 6 pn (g_e_tableau_pivot_J5_ok N _ _ _ _ _ _ _ _ _ _ _ _ _ _ _ _ h E hE)
   ·obtain ⟨c29,h⟩:=ifSome h
    refine rnL 3 6 ((i).toNat) (pc c29 (pc (show matGet [((i).toNat,6,C0r3.length)] (fun zm=>mR 4 TRc TRat.d (C08.getD zm [])) ((i).toNat)=[.os 6 0 C0r3.length] from if_pos rfl) (pc (show ∀ zj,zj < C0r3.length→noMrL (TRc (C0r3.getD zj TRat.d))=true from fun _ _=>rfl) pn))) ?_
    refine rnX hE [] (kp [0,1,2]) ([(0,.var 0 [.keep,.keep,.keep,.keep,.osl ((C08.set ((i).toNat) C0r3).length),.keep,.keep,.keep,.keep,.keep,.keep,.keep])] ++ kq [1,2] ++ [(3,.mat 3 ((C08.set ((i).toNat) C0r3).length) [] (fun zm=>mR 4 TRc TRat.d ((C08.set ((i).toNat) C0r3).getD zm [])))] ++ kq [4,5,135]) 215 (pc (len_set0 C08 ((i).toNat) C0r3) (pc (len_set0 C08 ((i).toNat) C0r3) (pc (mat_cls (sz:=4) (c:=TRc) (d:=TRat.d) C08 ((i).toNat) 6 C0r3.length C0r3 [] c29 nemL) (pc (show ∀ zm,zm < (C08.set ((i).toNat) C0r3).length→isMrL ((fun zm=>mR 4 TRc TRat.d ((C08.set ((i).toNat) C0r3).getD zm [])) zm)=true from fun _ _=>rfl) pn)))) ?_
    exact rnW hE 1 [] (kp [0,1,2]) (kq [0,1,2,3,4,5]) 6 pn (g_e_tableau_pivot_J5_ok N _ _ _ _ _ _ _ _ _ _ _ _ _ _ _ _ h E hE)
theorem g_e_tableau_pivot_L1_ok (N:Nat) (i:Int) (j:Int) (C0:Int) (C02:Int) (C03:Bool) (C04:List Int) (C05:Bool) (C06:List Int) (C07:Int) (C1:List Int) (C2:List Int) (C3:List (List TRat)) (C4:List TRat) (C5:List TRat) (fuel:Nat):g_e_tableau_pivot_L1_H N i j C0 C02 C03 C04 C05 C06 C07 C1 C2 C3 C4 C5 (g_e_tableau_pivot_L1 N i j C0 C02 C03 C04 C05 C06 C07 C1 C2 C3 C4 C5 fuel):=by
 induction fuel with
 | zero=>intro _ _ r h;rw [g_e_tableau_pivot_L1.eq_1] at h;cases h
 | succ fuel ih =>
  intro C0r x r h E hE
  rw [g_e_tableau_pivot_L1.eq_2] at h
  refine rnR hE 1 [] [] (kp [0,1,2,6,7,30,31,32]) (kq [0,1,2] ++ [(3,.mat 3 (C3.length) [((i).toNat,6,C0r.length)] (fun zm=>mR 4 TRc TRat.d (C3.getD zm [])))] ++ kq [4,5,6,7]) 24 (pc (Eq.refl C3.length) (pc (show ∀ zm,zm < C3.length→matGet [((i).toNat,6,C0r.length)] (fun zm=>mR 4 TRc TRat.d (C3.getD zm [])) zm=matGet [((i).toNat,6,C0r.length)] (fun zm=>mR 4 TRc TRat.d (C3.getD zm [])) zm from (fun _ _=>rfl)) (pc (show ∀ zm,zm < C3.length→isMrL ((fun zm=>mR 4 TRc TRat.d (C3.getD zm [])) zm)=true from (fun _ _=>rfl)) pn))) ?_
  refine rnC 1 32 h (fun hq2 h=>?_) (fun hq2 h=>?_)
  ·refine rnR hE 4 [] [] (kp [0,1,2,6,7,8,30,31]) (kq [0,1,2] ++ [(3,.mat 3 (C3.length) [((i).toNat,6,C0r.length)] (fun zm=>mR 4 TRc TRat.d (C3.getD zm [])))] ++ kq [4,5,6,7]) 56 (pc (Eq.refl C3.length) (pc (show ∀ zm,zm < C3.length→matGet [((i).toNat,6,C0r.length)] (fun zm=>mR 4 TRc TRat.d (C3.getD zm [])) zm=matGet [((i).toNat,6,C0r.length)] (fun zm=>mR 4 TRc TRat.d (C3.getD zm [])) zm from (fun _ _=>rfl)) (pc (show ∀ zm,zm < C3.length→isMrL ((fun zm=>mR 4 TRc TRat.d (C3.getD zm [])) zm)=true from (fun _ _=>rfl)) pn))) ?_
   refine rnR hE 1 [] [] (kp [0,1,2,6,7,8,30,31,36]) (kq [0,1,2] ++ [(3,.mat 3 (C3.length) [((i).toNat,6,C0r.length)] (fun zm=>mR 4 TRc TRat.d (C3.getD zm [])))] ++ kq [4,5,6,7]) 104 (pc (Eq.refl C3.length) (pc (show ∀ zm,zm < C3.length→matGet [((i).toNat,6,C0r.length)] (fun zm=>mR 4 TRc TRat.d (C3.getD zm [])) zm=matGet [((i).toNat,6,C0r.length)] (fun zm=>mR 4 TRc TRat.d (C3.getD zm [])) zm from (fun _ _=>rfl)) (pc (show ∀ zm,zm < C3.length→isMrL ((fun zm=>mR 4 TRc TRat.d (C3.getD zm [])) zm)=true from (fun _ _=>rfl)) pn))) ?_
   refine rnC 0 36 h (fun hq3 h=>?_) (fun hq3 h=>?_)
   ·obtain ⟨c5,h⟩:=ifSome h
    obtain ⟨rover,hr,h⟩:=bsm h
    obtain ⟨rnegative,hr2,h⟩:=bsm h
    refine rnR hE 0 [(7,⟨[],true,(.agg (TRc rover)),[],0,false,none⟩),(8,⟨[],true,(.agg (TRc rnegative)),[],0,false,none⟩)] [] (kp [0,1,2,6] ++ [(7,.osl ((C0r.set ((x).toNat) rnegative).length))] ++ kp [30,31]) (kq [0,1,2] ++ [(3,.mat 3 (C3.length) [((i).toNat,6,(C0r.set ((x).toNat) rnegative).length)] (fun zm=>mR 4 TRc TRat.d (C3.getD zm [])))] ++ kq [4,5] ++ [(6,.arr 6 ((C0r.set ((x).toNat) rnegative).length) (fun zi=>TRc ((C0r.set ((x).toNat) rnegative).getD zi TRat.d)))] ++ kq [7]) 280 (pc c5 (pc (ltOf c5) (pc o1 (pc (g_e_over_ok N (⟨((C0r.getD ((x).toNat) TRat.d).fN),((C0r.getD ((x).toNat) TRat.d).fD)⟩:TRat) (⟨(((C3.getD ((i).toNat) []).getD ((j).toNat) TRat.d).fN),(((C3.getD ((i).toNat) []).getD ((j).toNat) TRat.d).fD)⟩:TRat) rover hr) (pc (g_e_negative_ok N rover rnegative hr2) (pc c5 (pc (ltOf c5) (pc (len_set0 C0r ((x).toNat) rnegative) (pc (Eq.refl C3.length) (pc (show ∀ zm,zm < C3.length→matGet [((i).toNat,6,(C0r.set ((x).toNat) rnegative).length)] (fun zm=>mR 4 TRc TRat.d (C3.getD zm [])) zm=matGet [((i).toNat,6,C0r.length)] (fun zm=>mR 4 TRc TRat.d (C3.getD zm [])) zm from (fun zm _=>(congrArg (fun zn=>matGet [((i).toNat,6,zn)] (fun zm=>mR 4 TRc TRat.d (C3.getD zm [])) zm) (Eq.symm (len_set_raw rfl))))) (pc (show ∀ zm,zm < C3.length→isMrL ((fun zm=>mR 4 TRc TRat.d (C3.getD zm [])) zm)=true from (fun _ _=>rfl)) (pc (len_set0 C0r ((x).toNat) rnegative) (pc (get_set0 TRc TRat.d C0r ((x).toNat) rnegative) pn))))))))))))) ?_
    exact rnW hE 1 [] (kp [0,1,2,6,7,30,31]) (kq [0,1,2] ++ [(3,.mat 3 (C3.length) [((i).toNat,6,(C0r.set ((x).toNat) rnegative).length)] (fun zm=>mR 4 TRc TRat.d (C3.getD zm [])))] ++ kq [4,5,6,7]) 8 (pc (Eq.refl C3.length) (pc (show ∀ zm,zm < C3.length→matGet [((i).toNat,6,(C0r.set ((x).toNat) rnegative).length)] (fun zm=>mR 4 TRc TRat.d (C3.getD zm [])) zm=matGet [((i).toNat,6,(C0r.set ((x).toNat) rnegative).length)] (fun zm=>mR 4 TRc TRat.d (C3.getD zm [])) zm from (fun _ _=>rfl)) (pc (show ∀ zm,zm < C3.length→isMrL ((fun zm=>mR 4 TRc TRat.d (C3.getD zm [])) zm)=true from (fun _ _=>rfl)) pn))) (g_e_tableau_pivot_J2_ok N _ _ _ _ _ _ _ _ _ _ _ _ _ _ _ _ ih _ _ h E hE)
   ·exact rnW hE 2 [] (kp [0,1,2,6,7,30,31]) (kq [0,1,2] ++ [(3,.mat 3 (C3.length) [((i).toNat,6,C0r.length)] (fun zm=>mR 4 TRc TRat.d (C3.getD zm [])))] ++ kq [4,5,6,7]) 8 (pc (Eq.refl C3.length) (pc (show ∀ zm,zm < C3.length→matGet [((i).toNat,6,C0r.length)] (fun zm=>mR 4 TRc TRat.d (C3.getD zm [])) zm=matGet [((i).toNat,6,C0r.length)] (fun zm=>mR 4 TRc TRat.d (C3.getD zm [])) zm from (fun _ _=>rfl)) (pc (show ∀ zm,zm < C3.length→isMrL ((fun zm=>mR 4 TRc TRat.d (C3.getD zm [])) zm)=true from (fun _ _=>rfl)) pn))) (g_e_tableau_pivot_J2_ok N _ _ _ _ _ _ _ _ _ _ _ _ _ _ _ _ ih _ _ h E hE)
  ·obtain ⟨rnumber,hr3,h⟩:=bsm h
   obtain ⟨rover2,hr4,h⟩:=bsm h
   obtain ⟨c6,h⟩:=ifSome h
   refine rnR hE 2 [(2,⟨[],true,(.agg (TRc rnumber)),[],0,false,none⟩),(4,⟨[],true,(.agg (TRc rover2)),[],0,false,none⟩)] [] (kp [0,1,2,6] ++ [(7,.osl ((C0r.set ((j).toNat) rover2).length))]) (kq [0,1,2] ++ [(3,.mat 3 (C3.length) [((i).toNat,6,(C0r.set ((j).toNat) rover2).length)] (fun zm=>mR 4 TRc TRat.d (C3.getD zm [])))] ++ kq [4,5] ++ [(6,.arr 6 ((C0r.set ((j).toNat) rover2).length) (fun zi=>TRc ((C0r.set ((j).toNat) rover2).getD zi TRat.d)))] ++ kq [7]) 136 (pc (g_e_number_ok N 1 rnumber hr3) (pc o1 (pc (g_e_over_ok N rnumber (⟨(((C3.getD ((i).toNat) []).getD ((j).toNat) TRat.d).fN),(((C3.getD ((i).toNat) []).getD ((j).toNat) TRat.d).fD)⟩:TRat) rover2 hr4) (pc c6 (pc (ltOf c6) (pc (len_set0 C0r ((j).toNat) rover2) (pc (Eq.refl C3.length) (pc (show ∀ zm,zm < C3.length→matGet [((i).toNat,6,(C0r.set ((j).toNat) rover2).length)] (fun zm=>mR 4 TRc TRat.d (C3.getD zm [])) zm=matGet [((i).toNat,6,C0r.length)] (fun zm=>mR 4 TRc TRat.d (C3.getD zm [])) zm from (fun zm _=>(congrArg (fun zn=>matGet [((i).toNat,6,zn)] (fun zm=>mR 4 TRc TRat.d (C3.getD zm [])) zm) (Eq.symm (len_set_raw rfl))))) (pc (show ∀ zm,zm < C3.length→isMrL ((fun zm=>mR 4 TRc TRat.d (C3.getD zm [])) zm)=true from (fun _ _=>rfl)) (pc (len_set0 C0r ((j).toNat) rover2) (pc (get_set0 TRc TRat.d C0r ((j).toNat) rover2) pn))))))))))) ?_
   obtain ⟨c7,h⟩:=ifSome h
   obtain ⟨rover3,hr5,h⟩:=bsm h
   obtain ⟨rnegative2,hr6,h⟩:=bsm h
   refine rnR hE 1 [(13,⟨[],true,(.agg (TRc rover3)),[],0,false,none⟩),(14,⟨[],true,(.agg (TRc rnegative2)),[],0,false,none⟩)] [] (kp [0,1,2,7]) ([(0,.var 0 [.keep,.keep,.keep,.keep,.keep,.osl ((C4.set ((i).toNat) rnegative2).length),.keep,.keep,.keep,.keep,.keep,.keep])] ++ kq [1,2] ++ [(3,.mat 3 (C3.length) [((i).toNat,6,(C0r.set ((j).toNat) rover2).length)] (fun zm=>mR 4 TRc TRat.d (C3.getD zm []))),(4,.arr 4 ((C4.set ((i).toNat) rnegative2).length) (fun zi=>TRc ((C4.set ((i).toNat) rnegative2).getD zi TRat.d)))] ++ kq [5,6]) 408 (pc o1 (pc o1 (pc c7 (pc (ltOf c7) (pc o1 (pc (g_e_over_ok N (⟨((C4.getD ((i).toNat) TRat.d).fN),((C4.getD ((i).toNat) TRat.d).fD)⟩:TRat) (⟨(((C3.getD ((i).toNat) []).getD ((j).toNat) TRat.d).fN),(((C3.getD ((i).toNat) []).getD ((j).toNat) TRat.d).fD)⟩:TRat) rover3 hr5) (pc (g_e_negative_ok N rover3 rnegative2 hr6) (pc c7 (pc (ltOf c7) (pc (len_set0 C4 ((i).toNat) rnegative2) (pc (Eq.refl C3.length) (pc (show ∀ zm,zm < C3.length→matGet [((i).toNat,6,(C0r.set ((j).toNat) rover2).length)] (fun zm=>mR 4 TRc TRat.d (C3.getD zm [])) zm=matGet [((i).toNat,6,(C0r.set ((j).toNat) rover2).length)] (fun zm=>mR 4 TRc TRat.d (C3.getD zm [])) zm from (fun _ _=>rfl)) (pc (show ∀ zm,zm < C3.length→isMrL ((fun zm=>mR 4 TRc TRat.d (C3.getD zm [])) zm)=true from (fun _ _=>rfl)) (pc (len_set0 C4 ((i).toNat) rnegative2) (pc (get_set0 TRc TRat.d C4 ((i).toNat) rnegative2) pn))))))))))))))) ?_
   refine rnR hE 2 [] [] (kp [0,1,2,7,74,75]) (kq [0,1,2] ++ [(3,.mat 3 (C3.length) [((i).toNat,6,(C0r.set ((j).toNat) rover2).length)] (fun zm=>mR 4 TRc TRat.d (C3.getD zm [])))] ++ kq [4,5,6]) 504 (pc o1 (pc (Eq.refl C3.length) (pc (show ∀ zm,zm < C3.length→matGet [((i).toNat,6,(C0r.set ((j).toNat) rover2).length)] (fun zm=>mR 4 TRc TRat.d (C3.getD zm [])) zm=matGet [((i).toNat,6,(C0r.set ((j).toNat) rover2).length)] (fun zm=>mR 4 TRc TRat.d (C3.getD zm [])) zm from (fun _ _=>rfl)) (pc (show ∀ zm,zm < C3.length→isMrL ((fun zm=>mR 4 TRc TRat.d (C3.getD zm [])) zm)=true from (fun _ _=>rfl)) pn)))) ?_
   exact rnW hE 2 [] (kp [0,1,2,7,74,75]) (kq [0,1,2] ++ [(3,.mat 3 (C3.length) [((i).toNat,6,(C0r.set ((j).toNat) rover2).length)] (fun zm=>mR 4 TRc TRat.d (C3.getD zm [])))] ++ kq [4,5,6]) 7 (pc (Eq.refl C3.length) (pc (show ∀ zm,zm < C3.length→matGet [((i).toNat,6,(C0r.set ((j).toNat) rover2).length)] (fun zm=>mR 4 TRc TRat.d (C3.getD zm [])) zm=matGet [((i).toNat,6,(C0r.set ((j).toNat) rover2).length)] (fun zm=>mR 4 TRc TRat.d (C3.getD zm [])) zm from (fun _ _=>rfl)) (pc (show ∀ zm,zm < C3.length→isMrL ((fun zm=>mR 4 TRc TRat.d (C3.getD zm [])) zm)=true from (fun _ _=>rfl)) pn))) (g_e_tableau_pivot_L3_ok N _ _ _ _ _ _ _ _ _ _ _ _ _ N _ _ _ _ _ h E hE)
theorem g_e_tableau_pivot_ok (N:Nat) (i:Int) (j:Int) (C0:Int) (C02:Int) (C03:Bool) (C04:List Int) (C05:Bool) (C06:List Int) (C07:Int) (C1:List Int) (C2:List Int) (C3:List (List TRat)) (C4:List TRat) (C5:List TRat) (r:Ttb×(List Int)×(List Int)×(List (List TRat))×(List TRat)×(List TRat)) (h:g_e_tableau_pivot N i j C0 C02 C03 C04 C05 C06 C07 C1 C2 C3 C4 C5=some r):Sd 75 [(.op 0 0 0),(aI i),(aI j)] [(0,vN 12 [(aI C0),(aI C02),(.os 1 0 C1.length),(.os 2 0 C2.length),(.os 3 0 C3.length),(.os 4 0 C4.length),(.os 5 0 C5.length),(aB C03),(eU C04),(aB C05),(eU C06),(aI C07)]),(1,aO 1 cI 0 C1),(2,aO 1 cI 0 C2),(3,aM 4 TRc TRat.d C3),(4,aO 4 TRc TRat.d C4),(5,aO 4 TRc TRat.d C5)] 6 (.tup []) [(0,vN 12 [(aI r.1.f_n),(aI r.1.f_m),(.os 1 0 r.2.1.length),(.os 2 0 r.2.2.1.length),(.os 3 0 r.2.2.2.1.length),(.os 4 0 r.2.2.2.2.1.length),(.os 5 0 r.2.2.2.2.2.length),(aB r.1.f_value.fN.fG),(eU r.1.f_value.fN.fL),(aB r.1.f_value.fD.fG),(eU r.1.f_value.fD.fL),(aI r.1.f_helper)]),(1,aO 1 cI 0 r.2.1),(2,aO 1 cI 0 r.2.2.1),(3,aM 4 TRc TRat.d r.2.2.2.1),(4,aO 4 TRc TRat.d r.2.2.2.2.1),(5,aO 4 TRc TRat.d r.2.2.2.2.2)]:=by
 unfold g_e_tableau_pivot at h
 refine sor (fu:=Tryz.f75) (c:=C_58 1) (nt:=194) (by kernel_rfl) (by kernel_rfl) (by kernel_rfl) (by kernel_rfl) (fun hm=>absurd hm (by decide)) ?_
 intro E hE
 obtain ⟨c2,h⟩:=ifSome h
 refine rnO 3 ((i).toNat) 4 ((C3.getD ((i).toNat) []).length) (fun zi=>TRc ((C3.getD ((i).toNat) []).getD zi TRat.d)) (pc c2 (pc (show matGet [] (fun zm=>mR 4 TRc TRat.d (C3.getD zm [])) ((i).toNat)=mR 4 TRc TRat.d (C3.getD ((i).toNat) []) from rfl) pn)) ?_
 obtain ⟨c3,h⟩:=ifSome h
 obtain ⟨c4,h⟩:=ifSome h
 refine rnR hE 1 [(6,⟨[],false,(.os 6 0 ((C3.getD ((i).toNat) []).length)),[],0,false,none⟩)] [] (kp [0,1,2,6]) (kq [0,1,2] ++ [(3,.mat 3 (C3.length) [((i).toNat,6,(C3.getD ((i).toNat) []).length)] (fun zm=>mR 4 TRc TRat.d (C3.getD zm [])))] ++ kq [4,5,6,182]) 214 (pc o1 (pc c3 (pc (ltOf c3) (pc (show (matGet [((i).toNat,6,(C3.getD ((i).toNat) []).length)] (fun zm=>mR 4 TRc TRat.d (C3.getD zm [])) ((i).toNat))[0]?=some (.os 6 0 ((C3.getD ((i).toNat) []).length)) from (gO rfl)) (pc c4 (pc (ltOf c4) (pc o1 (pc (Eq.refl C3.length) (pc (show ∀ zm,zm < C3.length→matGet [((i).toNat,6,(C3.getD ((i).toNat) []).length)] (fun zm=>mR 4 TRc TRat.d (C3.getD zm [])) zm=matGet [((i).toNat,6,(C3.getD ((i).toNat) []).length)] (fun zm=>mR 4 TRc TRat.d (C3.getD zm [])) zm from (fun _ _=>rfl)) (pc (show ∀ zm,zm < C3.length→isMrL ((fun zm=>mR 4 TRc TRat.d (C3.getD zm [])) zm)=true from (fun _ _=>rfl)) pn)))))))))) ?_
 refine rnL 3 6 ((i).toNat) (pc c2 (pc (show matGet [((i).toNat,6,(C3.getD ((i).toNat) []).length)] (fun zm=>mR 4 TRc TRat.d (C3.getD zm [])) ((i).toNat)=[.os 6 0 (C3.getD ((i).toNat) []).length] from if_pos rfl) (pc (show ∀ zj,zj < (C3.getD ((i).toNat) []).length→noMrL (TRc ((C3.getD ((i).toNat) []).getD zj TRat.d))=true from fun _ _=>rfl) pn))) ?_
 refine rnX hE [] (kp [0,1,2,6]) (kq [0,1,2] ++ [(3,.mat 3 (C3.length) [] (fun zm=>mR 4 TRc TRat.d (C3.getD zm [])))] ++ kq [4,5,182]) 214 (pc (Eq.refl (C3.length)) (pc (mat_cls0 (sz:=4) (c:=TRc) (d:=TRat.d) C3 ((i).toNat) 6 ((C3.getD ((i).toNat) []).length) [] nemL) (pc (show ∀ zm,zm < C3.length→isMrL ((fun zm=>mR 4 TRc TRat.d (C3.getD zm [])) zm)=true from fun _ _=>rfl) pn))) ?_
 refine rnO 3 ((i).toNat) 4 ((C3.getD ((i).toNat) []).length) (fun zi=>TRc ((C3.getD ((i).toNat) []).getD zi TRat.d)) (pc c2 (pc (show matGet [] (fun zm=>mR 4 TRc TRat.d (C3.getD zm [])) ((i).toNat)=mR 4 TRc TRat.d (C3.getD ((i).toNat) []) from rfl) pn)) ?_
 refine rnR hE 1 [(6,⟨[],false,(.os 214 0 ((C3.getD ((i).toNat) []).length)),[],0,false,none⟩)] [] (kp [0,1,2,6,7]) (kq [0,1,2] ++ [(3,.mat 3 (C3.length) [((i).toNat,214,(C3.getD ((i).toNat) []).length)] (fun zm=>mR 4 TRc TRat.d (C3.getD zm [])))] ++ kq [4,5,182,214]) 358 (pc o1 (pc c3 (pc (ltOf c3) (pc (show (matGet [((i).toNat,214,(C3.getD ((i).toNat) []).length)] (fun zm=>mR 4 TRc TRat.d (C3.getD zm [])) ((i).toNat))[0]?=some (.os 214 0 ((C3.getD ((i).toNat) []).length)) from (gO rfl)) (pc (Eq.refl C3.length) (pc (show ∀ zm,zm < C3.length→matGet [((i).toNat,214,(C3.getD ((i).toNat) []).length)] (fun zm=>mR 4 TRc TRat.d (C3.getD zm [])) zm=matGet [((i).toNat,214,(C3.getD ((i).toNat) []).length)] (fun zm=>mR 4 TRc TRat.d (C3.getD zm [])) zm from (fun _ _=>rfl)) (pc (show ∀ zm,zm < C3.length→isMrL ((fun zm=>mR 4 TRc TRat.d (C3.getD zm [])) zm)=true from (fun _ _=>rfl)) pn))))))) ?_
 refine rnR hE 2 [] [] (kp [0,1,2,6,7,30,31]) (kq [0,1,2] ++ [(3,.mat 3 (C3.length) [((i).toNat,214,(C3.getD ((i).toNat) []).length)] (fun zm=>mR 4 TRc TRat.d (C3.getD zm [])))] ++ kq [4,5,182,214]) 406 (pc (Eq.refl C3.length) (pc (show ∀ zm,zm < C3.length→matGet [((i).toNat,214,(C3.getD ((i).toNat) []).length)] (fun zm=>mR 4 TRc TRat.d (C3.getD zm [])) zm=matGet [((i).toNat,214,(C3.getD ((i).toNat) []).length)] (fun zm=>mR 4 TRc TRat.d (C3.getD zm [])) zm from (fun _ _=>rfl)) (pc (show ∀ zm,zm < C3.length→isMrL ((fun zm=>mR 4 TRc TRat.d (C3.getD zm [])) zm)=true from (fun _ _=>rfl)) pn))) ?_
 exact rnW hE 2 [] (kp [0,1,2,6,7,30,31]) (kq [0,1,2] ++ [(3,.mat 3 (C3.length) [((i).toNat,214,(C3.getD ((i).toNat) []).length)] (fun zm=>mR 4 TRc TRat.d (C3.getD zm [])))] ++ kq [4,5] ++ [(6,.keep 214),(7,.keep 182)]) 8 (pc (Eq.refl C3.length) (pc (show ∀ zm,zm < C3.length→matGet [((i).toNat,214,(C3.getD ((i).toNat) []).length)] (fun zm=>mR 4 TRc TRat.d (C3.getD zm [])) zm=matGet [((i).toNat,214,(C3.getD ((i).toNat) []).length)] (fun zm=>mR 4 TRc TRat.d (C3.getD zm [])) zm from (fun _ _=>rfl)) (pc (show ∀ zm,zm < C3.length→isMrL ((fun zm=>mR 4 TRc TRat.d (C3.getD zm [])) zm)=true from (fun _ _=>rfl)) pn))) (g_e_tableau_pivot_L1_ok N _ _ _ _ _ _ _ _ _ _ _ _ _ _ N _ _ _ h E hE)
noncomputable def C_63 (n:Nat):Code:=cat (bodyOf Tryz.f95) (pth n)
def g_e_tableau_entering_L1_H (N:Nat) (C0:Int) (C02:Int) (C03:Bool) (C04:List Int) (C05:Bool) (C06:List Int) (C07:Int) (C1:List Int) (C2:List Int) (C3:List (List TRat)) (C4:List TRat) (C5:List TRat) (K:Int→Int→Option (Int)):Prop:=∀ (best:Int) (x:Int) (r:Int),K best x=some r→∀ E,EnvOk E 6→Runs Tryz.prog E 95 46 (SPost E [(0,vN 12 [(aI C0),(aI C02),(.os 1 0 C1.length),(.os 2 0 C2.length),(.os 3 0 C3.length),(.os 4 0 C4.length),(.os 5 0 C5.length),(aB C03),(eU C04),(aB C05),(eU C06),(aI C07)]),(1,aO 1 cI 0 C1),(2,aO 1 cI 0 C2),(3,aM 4 TRc TRat.d C3),(4,aO 4 TRc TRat.d C4),(5,aO 4 TRc TRat.d C5)] (aI r)) [.code (C_63 116),.inLoop (C_63 116),.inBlock 0,.code (C_63 15)] ⟨[(0,(.op 0 0 0)),(3,(aI best)),(9,(aI ((C2.length:Nat):Int))),(10,(aI x))],[(0,vN 12 [(aI C0),(aI C02),(.os 1 0 C1.length),(.os 2 0 C2.length),(.os 3 0 C3.length),(.os 4 0 C4.length),(.os 5 0 C5.length),(aB C03),(eU C04),(aB C05),(eU C06),(aI C07)]),(1,aO 1 cI 0 C1),(2,aO 1 cI 0 C2),(3,aM 4 TRc TRat.d C3),(4,aO 4 TRc TRat.d C4),(5,aO 4 TRc TRat.d C5)],6⟩
def g_e_tableau_entering_J2_H (N:Nat) (C0:Int) (C02:Int) (C03:Bool) (C04:List Int) (C05:Bool) (C06:List Int) (C07:Int) (C1:List Int) (C2:List Int) (C3:List (List TRat)) (C4:List TRat) (C5:List TRat) (x:Int) (K:Int→Option (Int)):Prop:=∀ (best2:Int) (r:Int),K best2=some r→∀ E,EnvOk E 6→Runs Tryz.prog E 95 46 (SPost E [(0,vN 12 [(aI C0),(aI C02),(.os 1 0 C1.length),(.os 2 0 C2.length),(.os 3 0 C3.length),(.os 4 0 C4.length),(.os 5 0 C5.length),(aB C03),(eU C04),(aB C05),(eU C06),(aI C07)]),(1,aO 1 cI 0 C1),(2,aO 1 cI 0 C2),(3,aM 4 TRc TRat.d C3),(4,aO 4 TRc TRat.d C4),(5,aO 4 TRc TRat.d C5)] (aI r)) [.code (C_63 935),.inLoop (C_63 116),.inBlock 0,.code (C_63 15)] ⟨[(0,(.op 0 0 0)),(3,(aI best2)),(9,(aI ((C2.length:Nat):Int))),(10,(aI x))],[(0,vN 12 [(aI C0),(aI C02),(.os 1 0 C1.length),(.os 2 0 C2.length),(.os 3 0 C3.length),(.os 4 0 C4.length),(.os 5 0 C5.length),(aB C03),(eU C04),(aB C05),(eU C06),(aI C07)]),(1,aO 1 cI 0 C1),(2,aO 1 cI 0 C2),(3,aM 4 TRc TRat.d C3),(4,aO 4 TRc TRat.d C4),(5,aO 4 TRc TRat.d C5)],6⟩
theorem g_e_tableau_entering_J2_ok (N:Nat) (C0:Int) (C02:Int) (C03:Bool) (C04:List Int) (C05:Bool) (C06:List Int) (C07:Int) (C1:List Int) (C2:List Int) (C3:List (List TRat)) (C4:List TRat) (C5:List TRat) (x:Int) (K_g_e_tableau_entering_L1:Int→Int→Option (Int)) (hK_g_e_tableau_entering_L1:g_e_tableau_entering_L1_H N C0 C02 C03 C04 C05 C06 C07 C1 C2 C3 C4 C5 K_g_e_tableau_entering_L1):g_e_tableau_entering_J2_H N C0 C02 C03 C04 C05 C06 C07 C1 C2 C3 C4 C5 x (g_e_tableau_entering_J2 N C0 C02 C03 C04 C05 C06 C07 C1 C2 C3 C4 C5 x K_g_e_tableau_entering_L1):=by
 intro best2 r h E hE
 unfold g_e_tableau_entering_J2 at h
 refine rnR hE 0 [] [] (kp [0,3,9,10]) (kq [0,1,2,3,4,5]) 38 pn ?_
 exact rnW hE 1 [] (kp [0,3,9,10]) (kq [0,1,2,3,4,5]) 6 pn (hK_g_e_tableau_entering_L1 _ _ _ h E hE)
theorem g_e_tableau_entering_L1_ok (N:Nat) (C0:Int) (C02:Int) (C03:Bool) (C04:List Int) (C05:Bool) (C06:List Int) (C07:Int) (C1:List Int) (C2:List Int) (C3:List (List TRat)) (C4:List TRat) (C5:List TRat) (fuel:Nat):g_e_tableau_entering_L1_H N C0 C02 C03 C04 C05 C06 C07 C1 C2 C3 C4 C5 (g_e_tableau_entering_L1 N C0 C02 C03 C04 C05 C06 C07 C1 C2 C3 C4 C5 fuel):=by
 induction fuel with
 | zero=>intro _ _ r h;rw [g_e_tableau_entering_L1.eq_1] at h;cases h
 | succ fuel ih =>
  intro best x r h E hE
  rw [g_e_tableau_entering_L1.eq_2] at h
  refine rnR hE 1 [] [] (kp [0,3,9,10,11]) (kq [0,1,2,3,4,5]) 22 pn ?_
  refine rnC 1 11 h (fun hq2 h=>?_) (fun hq2 h=>?_)
  ·refine rnR hE 4 [] [] (kp [0,3,4,9,10]) (kq [0,1,2,3,4,5]) 54 pn ?_
   obtain ⟨c,h⟩:=ifSome h
   obtain ⟨rsignOf,hr,h⟩:=bsm h
   obtain ⟨c2,h⟩:=ifSome h
   obtain ⟨c3,h⟩:=ifSome h
   refine rnR hE 1 [(7,⟨[],true,(aI rsignOf),[],0,false,none⟩)] [] (kp [0,3,4,9,10,42]) (kq [0,1,2,3,4,5]) 534 (pc o1 (pc c (pc (ltOf c) (pc (g_e_signOf_ok N (⟨((C5.getD ((x).toNat) TRat.d).fN),((C5.getD ((x).toNat) TRat.d).fD)⟩:TRat) rsignOf hr) (pc (fun hg:(decide (rsignOf > 0))=true=>(pc hg pn)) (pc (fun hg:((decide (rsignOf > 0)) && ((decide (rsignOf > 0)) && (!(decide (best < 0)))))=true=>(pc hg pn)) (pc (fun hg:((decide (rsignOf > 0)) && ((decide (rsignOf > 0)) && (!(decide (best < 0)))))=true=>(pc hg pn)) (pc (fun hg:((decide (rsignOf > 0)) && ((decide (rsignOf > 0)) && (!(decide (best < 0)))))=true=>(pc hg (pc o1 pn))) (pc (fun hg:((decide (rsignOf > 0)) && ((decide (rsignOf > 0)) && (!(decide (best < 0)))))=true=>(pc hg (pc hg (pc (c2 hg) pn)))) (pc (fun hg:((decide (rsignOf > 0)) && ((decide (rsignOf > 0)) && (!(decide (best < 0)))))=true=>(pc hg (pc (ltOf (c2 hg)) pn))) (pc (fun hg:((decide (rsignOf > 0)) && ((decide (rsignOf > 0)) && (!(decide (best < 0)))))=true=>(pc hg pn)) (pc (fun hg:((decide (rsignOf > 0)) && ((decide (rsignOf > 0)) && (!(decide (best < 0)))))=true=>(pc hg pn)) (pc (fun hg:((decide (rsignOf > 0)) && ((decide (rsignOf > 0)) && (!(decide (best < 0)))))=true=>(pc hg (pc o1 pn))) (pc (fun hg:((decide (rsignOf > 0)) && ((decide (rsignOf > 0)) && (!(decide (best < 0)))))=true=>(pc hg (pc hg (pc (c3 hg) pn)))) (pc (fun hg:((decide (rsignOf > 0)) && ((decide (rsignOf > 0)) && (!(decide (best < 0)))))=true=>(pc hg (pc (ltOf (c3 hg)) pn))) (pc (fun hg:((decide (rsignOf > 0)) && ((decide (rsignOf > 0)) && (!(decide (best < 0)))))=true=>(pc hg (pc hg pn))) (pc (fun hg:(decide (rsignOf > 0))=true=>(pc hg (pc hg (pc (fun hq:(!(decide (best < 0)))=true=>(pc (show ((decide (rsignOf > 0)) && ((decide (rsignOf > 0)) && (!(decide (best < 0)))))=true from (andI' hg (andI' hg hq))) pn)) pn)))) (pc (fun hq:(decide (rsignOf > 0))=true=>(pc hq pn)) pn)))))))))))))))))) ?_
   refine rnC 0 42 h (fun hq3 h=>?_) (fun hq3 h=>?_)
   ·refine rnR hE 0 [] [] (kp [0,3,9,10]) (kq [0,1,2,3,4,5]) 566 pn ?_
    exact rnW hE 1 [] (kp [0,3,9,10]) (kq [0,1,2,3,4,5]) 6 pn (g_e_tableau_entering_J2_ok N _ _ _ _ _ _ _ _ _ _ _ _ _ _ ih _ _ h E hE)
   ·exact rnW hE 2 [] (kp [0,3,9,10]) (kq [0,1,2,3,4,5]) 6 pn (g_e_tableau_entering_J2_ok N _ _ _ _ _ _ _ _ _ _ _ _ _ _ ih _ _ h E hE)
  ·refine rnR hE 2 [] [] (kp [2]) (kq [0,1,2,3,4,5]) 54 pn ?_
   obtain rfl:=osI h
   exact rnT hE 0 Tryz.f95 [] (kp [2]) (kq [0,1,2,3,4,5]) 54 pn [] pn
theorem g_e_tableau_entering_ok (N:Nat) (C0:Int) (C02:Int) (C03:Bool) (C04:List Int) (C05:Bool) (C06:List Int) (C07:Int) (C1:List Int) (C2:List Int) (C3:List (List TRat)) (C4:List TRat) (C5:List TRat) (r:Int) (h:g_e_tableau_entering N C0 C02 C03 C04 C05 C06 C07 C1 C2 C3 C4 C5=some r):Sd 95 [(.op 0 0 0)] [(0,vN 12 [(aI C0),(aI C02),(.os 1 0 C1.length),(.os 2 0 C2.length),(.os 3 0 C3.length),(.os 4 0 C4.length),(.os 5 0 C5.length),(aB C03),(eU C04),(aB C05),(eU C06),(aI C07)]),(1,aO 1 cI 0 C1),(2,aO 1 cI 0 C2),(3,aM 4 TRc TRat.d C3),(4,aO 4 TRc TRat.d C4),(5,aO 4 TRc TRat.d C5)] 6 (aI r) [(0,vN 12 [(aI C0),(aI C02),(.os 1 0 C1.length),(.os 2 0 C2.length),(.os 3 0 C3.length),(.os 4 0 C4.length),(.os 5 0 C5.length),(aB C03),(eU C04),(aB C05),(eU C06),(aI C07)]),(1,aO 1 cI 0 C1),(2,aO 1 cI 0 C2),(3,aM 4 TRc TRat.d C3),(4,aO 4 TRc TRat.d C4),(5,aO 4 TRc TRat.d C5)]:=by
 unfold g_e_tableau_entering at h
 refine sor (fu:=Tryz.f95) (c:=C_63 1) (nt:=46) (by kernel_rfl) (by kernel_rfl) (by kernel_rfl) (by kernel_rfl) (fun hm=>absurd hm (by decide)) ?_
 intro E hE
 refine rnR hE 1 [] [] (kp [0]) (kq [0,1,2,3,4,5]) 22 pn ?_
 refine rnR hE 1 [] [] (kp [0,3]) (kq [0,1,2,3,4,5]) 38 pn ?_
 refine rnR hE 2 [] [] (kp [0,3,9,10]) (kq [0,1,2,3,4,5]) 134 (pc o1 pn) ?_
 exact rnW hE 2 [] (kp [0,3,9,10]) (kq [0,1,2,3,4,5]) 6 pn (g_e_tableau_entering_L1_ok N _ _ _ _ _ _ _ _ _ _ _ _ N _ _ _ h E hE)
noncomputable def C_64 (n:Nat):Code:=cat (bodyOf Tryz.f96) (pth n)
def g_e_tableau_leaving_L1_H (N:Nat) (j:Int) (C0:Int) (C02:Int) (C03:Bool) (C04:List Int) (C05:Bool) (C06:List Int) (C07:Int) (C1:List Int) (C2:List Int) (C3:List (List TRat)) (C4:List TRat) (C5:List TRat) (K:Int→TRat→Int→Option (Int)):Prop:=∀ (best:Int) (least:TRat) (x:Int) (r:Int),K best least x=some r→∀ E,EnvOk E 6→Runs Tryz.prog E 96 81 (SPost E [(0,vN 12 [(aI C0),(aI C02),(.os 1 0 C1.length),(.os 2 0 C2.length),(.os 3 0 C3.length),(.os 4 0 C4.length),(.os 5 0 C5.length),(aB C03),(eU C04),(aB C05),(eU C06),(aI C07)]),(1,aO 1 cI 0 C1),(2,aO 1 cI 0 C2),(3,aM 4 TRc TRat.d C3),(4,aO 4 TRc TRat.d C4),(5,aO 4 TRc TRat.d C5)] (aI r)) [.code (C_64 244),.inLoop (C_64 244),.inBlock 0,.code (C_64 31)] ⟨[(0,(.op 0 0 0)),(1,(aI j)),(5,(aI best)),(6,(.op 6 0 0)),(14,(aI ((C1.length:Nat):Int))),(15,(aI x))],[(0,vN 12 [(aI C0),(aI C02),(.os 1 0 C1.length),(.os 2 0 C2.length),(.os 3 0 C3.length),(.os 4 0 C4.length),(.os 5 0 C5.length),(aB C03),(eU C04),(aB C05),(eU C06),(aI C07)]),(1,aO 1 cI 0 C1),(2,aO 1 cI 0 C2),(3,aM 4 TRc TRat.d C3),(4,aO 4 TRc TRat.d C4),(5,aO 4 TRc TRat.d C5),(6,vO 4 (TRc least))],7⟩
def g_e_tableau_leaving_J2_H (N:Nat) (j:Int) (C0:Int) (C02:Int) (C03:Bool) (C04:List Int) (C05:Bool) (C06:List Int) (C07:Int) (C1:List Int) (C2:List Int) (C3:List (List TRat)) (C4:List TRat) (C5:List TRat) (x:Int) (K:Int→TRat→Option (Int)):Prop:=∀ (best2:Int) (least2:TRat) (r:Int),K best2 least2=some r→∀ E,EnvOk E 6→Runs Tryz.prog E 96 81 (SPost E [(0,vN 12 [(aI C0),(aI C02),(.os 1 0 C1.length),(.os 2 0 C2.length),(.os 3 0 C3.length),(.os 4 0 C4.length),(.os 5 0 C5.length),(aB C03),(eU C04),(aB C05),(eU C06),(aI C07)]),(1,aO 1 cI 0 C1),(2,aO 1 cI 0 C2),(3,aM 4 TRc TRat.d C3),(4,aO 4 TRc TRat.d C4),(5,aO 4 TRc TRat.d C5)] (aI r)) [.code (C_64 1959),.inLoop (C_64 244),.inBlock 0,.code (C_64 31)] ⟨[(0,(.op 0 0 0)),(1,(aI j)),(5,(aI best2)),(6,(.op 6 0 0)),(14,(aI ((C1.length:Nat):Int))),(15,(aI x))],[(0,vN 12 [(aI C0),(aI C02),(.os 1 0 C1.length),(.os 2 0 C2.length),(.os 3 0 C3.length),(.os 4 0 C4.length),(.os 5 0 C5.length),(aB C03),(eU C04),(aB C05),(eU C06),(aI C07)]),(1,aO 1 cI 0 C1),(2,aO 1 cI 0 C2),(3,aM 4 TRc TRat.d C3),(4,aO 4 TRc TRat.d C4),(5,aO 4 TRc TRat.d C5),(6,vO 4 (TRc least2))],7⟩
theorem g_e_tableau_leaving_J2_ok (N:Nat) (j:Int) (C0:Int) (C02:Int) (C03:Bool) (C04:List Int) (C05:Bool) (C06:List Int) (C07:Int) (C1:List Int) (C2:List Int) (C3:List (List TRat)) (C4:List TRat) (C5:List TRat) (x:Int) (K_g_e_tableau_leaving_L1:Int→TRat→Int→Option (Int)) (hK_g_e_tableau_leaving_L1:g_e_tableau_leaving_L1_H N j C0 C02 C03 C04 C05 C06 C07 C1 C2 C3 C4 C5 K_g_e_tableau_leaving_L1):g_e_tableau_leaving_J2_H N j C0 C02 C03 C04 C05 C06 C07 C1 C2 C3 C4 C5 x (g_e_tableau_leaving_J2 N j C0 C02 C03 C04 C05 C06 C07 C1 C2 C3 C4 C5 x K_g_e_tableau_leaving_L1):=by
 intro best2 least2 r h E hE
 unfold g_e_tableau_leaving_J2 at h
 refine rnR hE 0 [] [] (kp [0,1,5,6,14,15]) (kq [0,1,2,3,4,5,6]) 39 pn ?_
 exact rnW hE 1 [] (kp [0,1,5,6,14,15]) (kq [0,1,2,3,4,5,6]) 7 pn (hK_g_e_tableau_leaving_L1 _ _ _ _ h E hE)
def g_e_tableau_leaving_J3_H (N:Nat) (j:Int) (C0:Int) (C02:Int) (C03:Bool) (C04:List Int) (C05:Bool) (C06:List Int) (C07:Int) (C1:List Int) (C2:List Int) (C3:List (List TRat)) (C4:List TRat) (C5:List TRat) (best:Int) (least:TRat) (x:Int) (rover:TRat) (K:Int→Option (Int)):Prop:=∀ (c7:Int) (r:Int),K c7=some r→∀ E,EnvOk E 6→Runs Tryz.prog E 96 81 (SPost E [(0,vN 12 [(aI C0),(aI C02),(.os 1 0 C1.length),(.os 2 0 C2.length),(.os 3 0 C3.length),(.os 4 0 C4.length),(.os 5 0 C5.length),(aB C03),(eU C04),(aB C05),(eU C06),(aI C07)]),(1,aO 1 cI 0 C1),(2,aO 1 cI 0 C2),(3,aM 4 TRc TRat.d C3),(4,aO 4 TRc TRat.d C4),(5,aO 4 TRc TRat.d C5)] (aI r)) [.code (C_64 250686),.code (C_64 250687),.inBlock 1,.code (C_64 1959),.inLoop (C_64 244),.inBlock 0,.code (C_64 31)] ⟨[(0,(.op 0 0 0)),(1,(aI j)),(5,(aI best)),(6,(.op 6 0 0)),(7,(aI x)),(8,(.op 7 0 0)),(9,(aI c7)),(14,(aI ((C1.length:Nat):Int))),(15,(aI x))],[(0,vN 12 [(aI C0),(aI C02),(.os 1 0 C1.length),(.os 2 0 C2.length),(.os 3 0 C3.length),(.os 4 0 C4.length),(.os 5 0 C5.length),(aB C03),(eU C04),(aB C05),(eU C06),(aI C07)]),(1,aO 1 cI 0 C1),(2,aO 1 cI 0 C2),(3,aM 4 TRc TRat.d C3),(4,aO 4 TRc TRat.d C4),(5,aO 4 TRc TRat.d C5),(6,vO 4 (TRc least)),(7,vO 4 (TRc rover))],8⟩
theorem g_e_tableau_leaving_J3_ok (N:Nat) (j:Int) (C0:Int) (C02:Int) (C03:Bool) (C04:List Int) (C05:Bool) (C06:List Int) (C07:Int) (C1:List Int) (C2:List Int) (C3:List (List TRat)) (C4:List TRat) (C5:List TRat) (best:Int) (least:TRat) (x:Int) (rover:TRat) (K_g_e_tableau_leaving_L1:Int→TRat→Int→Option (Int)) (hK_g_e_tableau_leaving_L1:g_e_tableau_leaving_L1_H N j C0 C02 C03 C04 C05 C06 C07 C1 C2 C3 C4 C5 K_g_e_tableau_leaving_L1):g_e_tableau_leaving_J3_H N j C0 C02 C03 C04 C05 C06 C07 C1 C2 C3 C4 C5 best least x rover (g_e_tableau_leaving_J3 N j C0 C02 C03 C04 C05 C06 C07 C1 C2 C3 C4 C5 best least x rover K_g_e_tableau_leaving_L1):=by
 intro c7 r h E hE
 unfold g_e_tableau_leaving_J3 at h
 obtain ⟨c8,h⟩:=ifSome h
 obtain ⟨c9,h⟩:=ifSome h
 refine rnR hE 0 [] [] (kp [0,1,5,6,7,8,14,15,76]) (kq [0,1,2,3,4,5,6,7]) 376 (pc (fun hg:(!(decide (c7 < 0)))=true=>(pc hg pn)) (pc (fun hg:((!(decide (c7 < 0))) && ((!(decide (c7 < 0))) && (c7 == 0)))=true=>(pc hg pn)) (pc (fun hg:((!(decide (c7 < 0))) && ((!(decide (c7 < 0))) && (c7 == 0)))=true=>(pc hg pn)) (pc (fun hg:((!(decide (c7 < 0))) && ((!(decide (c7 < 0))) && (c7 == 0)))=true=>(pc hg (pc o1 pn))) (pc (fun hg:((!(decide (c7 < 0))) && ((!(decide (c7 < 0))) && (c7 == 0)))=true=>(pc hg (pc hg (pc (c8 hg) pn)))) (pc (fun hg:((!(decide (c7 < 0))) && ((!(decide (c7 < 0))) && (c7 == 0)))=true=>(pc hg (pc (ltOf (c8 hg)) pn))) (pc (fun hg:((!(decide (c7 < 0))) && ((!(decide (c7 < 0))) && (c7 == 0)))=true=>(pc hg pn)) (pc (fun hg:((!(decide (c7 < 0))) && ((!(decide (c7 < 0))) && (c7 == 0)))=true=>(pc hg pn)) (pc (fun hg:((!(decide (c7 < 0))) && ((!(decide (c7 < 0))) && (c7 == 0)))=true=>(pc hg (pc o1 pn))) (pc (fun hg:((!(decide (c7 < 0))) && ((!(decide (c7 < 0))) && (c7 == 0)))=true=>(pc hg (pc hg (pc (c9 hg) pn)))) (pc (fun hg:((!(decide (c7 < 0))) && ((!(decide (c7 < 0))) && (c7 == 0)))=true=>(pc hg (pc (ltOf (c9 hg)) pn))) (pc (fun hg:((!(decide (c7 < 0))) && ((!(decide (c7 < 0))) && (c7 == 0)))=true=>(pc hg (pc hg pn))) (pc (fun hg:(!(decide (c7 < 0)))=true=>(pc hg (pc hg (pc (fun hq:(c7 == 0)=true=>(pc (show ((!(decide (c7 < 0))) && ((!(decide (c7 < 0))) && (c7 == 0)))=true from (andI' hg (andI' hg hq))) pn)) pn)))) (pc (fun hq:(!(decide (c7 < 0)))=true=>(pc hq pn)) pn)))))))))))))) ?_
 refine rnC 0 76 h (fun hq5 h=>?_) (fun hq5 h=>?_)
 ·refine rnR hE 0 [] [] (kp [0,1,5,6,14,15]) (kq [0,1,2,3,4,5,6]) 440 (pc o1 (pc o1 pn)) ?_
  exact rnW hE 1 [] (kp [0,1,5,6,14,15]) (kq [0,1,2,3,4,5,6]) 7 pn (g_e_tableau_leaving_J2_ok N _ _ _ _ _ _ _ _ _ _ _ _ _ _ _ hK_g_e_tableau_leaving_L1 _ _ _ h E hE)
 ·exact rnW hE 2 [] (kp [0,1,5,6,14,15]) (kq [0,1,2,3,4,5,6]) 7 pn (g_e_tableau_leaving_J2_ok N _ _ _ _ _ _ _ _ _ _ _ _ _ _ _ hK_g_e_tableau_leaving_L1 _ _ _ h E hE)
theorem g_e_tableau_leaving_L1_ok (N:Nat) (j:Int) (C0:Int) (C02:Int) (C03:Bool) (C04:List Int) (C05:Bool) (C06:List Int) (C07:Int) (C1:List Int) (C2:List Int) (C3:List (List TRat)) (C4:List TRat) (C5:List TRat) (fuel:Nat):g_e_tableau_leaving_L1_H N j C0 C02 C03 C04 C05 C06 C07 C1 C2 C3 C4 C5 (g_e_tableau_leaving_L1 N j C0 C02 C03 C04 C05 C06 C07 C1 C2 C3 C4 C5 fuel):=by
 induction fuel with
 | zero=>intro _ _ _ r h;rw [g_e_tableau_leaving_L1.eq_1] at h;cases h
 | succ fuel ih =>
  intro best least x r h E hE
  rw [g_e_tableau_leaving_L1.eq_2] at h
  refine rnR hE 1 [] [] (kp [0,1,5,6,14,15,16]) (kq [0,1,2,3,4,5,6]) 23 pn ?_
  refine rnC 1 16 h (fun hq2 h=>?_) (fun hq2 h=>?_)
  ·refine rnR hE 4 [] [] (kp [0,1,5,6,7,14,15]) (kq [0,1,2,3,4,5,6]) 55 pn ?_
   obtain ⟨c2,h⟩:=ifSome h
   refine rnO 3 ((x).toNat) 4 ((C3.getD ((x).toNat) []).length) (fun zi=>TRc ((C3.getD ((x).toNat) []).getD zi TRat.d)) (pc c2 (pc (show matGet [] (fun zm=>mR 4 TRc TRat.d (C3.getD zm [])) ((x).toNat)=mR 4 TRc TRat.d (C3.getD ((x).toNat) []) from rfl) pn)) ?_
   obtain ⟨c3,h⟩:=ifSome h
   obtain ⟨c4,h⟩:=ifSome h
   obtain ⟨rsignOf,hr,h⟩:=bsm h
   refine rnR hE 2 [(6,⟨[],false,(.os 55 0 ((C3.getD ((x).toNat) []).length)),[],0,false,none⟩),(10,⟨[],true,(aI rsignOf),[],0,false,none⟩)] [] (kp [0,1,5,6,7,14,15,29]) (kq [0,1,2] ++ [(3,.mat 3 (C3.length) [((x).toNat,55,(C3.getD ((x).toNat) []).length)] (fun zm=>mR 4 TRc TRat.d (C3.getD zm [])))] ++ kq [4,5,6,55]) 263 (pc o1 (pc c3 (pc (ltOf c3) (pc (show (matGet [((x).toNat,55,(C3.getD ((x).toNat) []).length)] (fun zm=>mR 4 TRc TRat.d (C3.getD zm [])) ((x).toNat))[0]?=some (.os 55 0 ((C3.getD ((x).toNat) []).length)) from (gO rfl)) (pc c4 (pc (ltOf c4) (pc (g_e_signOf_ok N (⟨(((C3.getD ((x).toNat) []).getD ((j).toNat) TRat.d).fN),(((C3.getD ((x).toNat) []).getD ((j).toNat) TRat.d).fD)⟩:TRat) rsignOf hr) (pc (Eq.refl C3.length) (pc (show ∀ zm,zm < C3.length→matGet [((x).toNat,55,(C3.getD ((x).toNat) []).length)] (fun zm=>mR 4 TRc TRat.d (C3.getD zm [])) zm=matGet [((x).toNat,55,(C3.getD ((x).toNat) []).length)] (fun zm=>mR 4 TRc TRat.d (C3.getD zm [])) zm from (fun _ _=>rfl)) (pc (show ∀ zm,zm < C3.length→isMrL ((fun zm=>mR 4 TRc TRat.d (C3.getD zm [])) zm)=true from (fun _ _=>rfl)) pn)))))))))) ?_
   refine rnL 3 55 ((x).toNat) (pc c2 (pc (show matGet [((x).toNat,55,(C3.getD ((x).toNat) []).length)] (fun zm=>mR 4 TRc TRat.d (C3.getD zm [])) ((x).toNat)=[.os 55 0 (C3.getD ((x).toNat) []).length] from if_pos rfl) (pc (show ∀ zj,zj < (C3.getD ((x).toNat) []).length→noMrL (TRc ((C3.getD ((x).toNat) []).getD zj TRat.d))=true from fun _ _=>rfl) pn))) ?_
   refine rnX hE [] (kp [0,1,5,6,7,14,15,29]) (kq [0,1,2] ++ [(3,.mat 3 (C3.length) [] (fun zm=>mR 4 TRc TRat.d (C3.getD zm [])))] ++ kq [4,5,6]) 263 (pc (Eq.refl (C3.length)) (pc (mat_cls0 (sz:=4) (c:=TRc) (d:=TRat.d) C3 ((x).toNat) 55 ((C3.getD ((x).toNat) []).length) [] nemL) (pc (show ∀ zm,zm < C3.length→isMrL ((fun zm=>mR 4 TRc TRat.d (C3.getD zm [])) zm)=true from fun _ _=>rfl) pn))) ?_
   refine rnC 0 29 h (fun hq3 h=>?_) (fun hq3 h=>?_)
   ·exact rnW hE 1 [] (kp [0,1,5,6,14,15]) (kq [0,1,2,3,4,5,6]) 7 pn (g_e_tableau_leaving_J2_ok N _ _ _ _ _ _ _ _ _ _ _ _ _ _ _ ih _ _ _ h E hE)
   ·refine rnO 3 ((x).toNat) 4 ((C3.getD ((x).toNat) []).length) (fun zi=>TRc ((C3.getD ((x).toNat) []).getD zi TRat.d)) (pc c2 (pc (show matGet [] (fun zm=>mR 4 TRc TRat.d (C3.getD zm [])) ((x).toNat)=mR 4 TRc TRat.d (C3.getD ((x).toNat) []) from rfl) pn)) ?_
    obtain ⟨c6,h⟩:=ifSome h
    obtain ⟨rnegative,hr2,h⟩:=bsm h
    obtain ⟨rover,hr3,h⟩:=bsm h
    refine rnR hE 2 [(13,⟨[],false,(.os 263 0 ((C3.getD ((x).toNat) []).length)),[],0,false,none⟩),(17,⟨[],true,(.agg (TRc rnegative)),[],0,false,none⟩),(18,⟨[],true,(.agg (TRc rover)),[],0,false,none⟩)] [] (kp [0,1,5,6,7,8,14,15]) (kq [0,1,2] ++ [(3,.mat 3 (C3.length) [((x).toNat,263,(C3.getD ((x).toNat) []).length)] (fun zm=>mR 4 TRc TRat.d (C3.getD zm [])))] ++ kq [4,5,6,263,583]) 615 (pc o1 (pc c6 (pc (ltOf c6) (pc o1 (pc c3 (pc (ltOf c3) (pc (show (matGet [((x).toNat,263,(C3.getD ((x).toNat) []).length)] (fun zm=>mR 4 TRc TRat.d (C3.getD zm [])) ((x).toNat))[0]?=some (.os 263 0 ((C3.getD ((x).toNat) []).length)) from (gO rfl)) (pc c4 (pc (ltOf c4) (pc (g_e_negative_ok N (⟨(((C3.getD ((x).toNat) []).getD ((j).toNat) TRat.d).fN),(((C3.getD ((x).toNat) []).getD ((j).toNat) TRat.d).fD)⟩:TRat) rnegative hr2) (pc (g_e_over_ok N (⟨((C4.getD ((x).toNat) TRat.d).fN),((C4.getD ((x).toNat) TRat.d).fD)⟩:TRat) rnegative rover hr3) (pc o1 (pc (Eq.refl C3.length) (pc (show ∀ zm,zm < C3.length→matGet [((x).toNat,263,(C3.getD ((x).toNat) []).length)] (fun zm=>mR 4 TRc TRat.d (C3.getD zm [])) zm=matGet [((x).toNat,263,(C3.getD ((x).toNat) []).length)] (fun zm=>mR 4 TRc TRat.d (C3.getD zm [])) zm from (fun _ _=>rfl)) (pc (show ∀ zm,zm < C3.length→isMrL ((fun zm=>mR 4 TRc TRat.d (C3.getD zm [])) zm)=true from (fun _ _=>rfl)) pn))))))))))))))) ?_
    refine rnL 3 263 ((x).toNat) (pc c2 (pc (show matGet [((x).toNat,263,(C3.getD ((x).toNat) []).length)] (fun zm=>mR 4 TRc TRat.d (C3.getD zm [])) ((x).toNat)=[.os 263 0 (C3.getD ((x).toNat) []).length] from if_pos rfl) (pc (show ∀ zj,zj < (C3.getD ((x).toNat) []).length→noMrL (TRc ((C3.getD ((x).toNat) []).getD zj TRat.d))=true from fun _ _=>rfl) pn))) ?_
    refine rnX hE [] (kp [0,1,5,6,7,8,14,15]) (kq [0,1,2] ++ [(3,.mat 3 (C3.length) [] (fun zm=>mR 4 TRc TRat.d (C3.getD zm [])))] ++ kq [4,5,6,583]) 615 (pc (Eq.refl (C3.length)) (pc (mat_cls0 (sz:=4) (c:=TRc) (d:=TRat.d) C3 ((x).toNat) 263 ((C3.getD ((x).toNat) []).length) [] nemL) (pc (show ∀ zm,zm < C3.length→isMrL ((fun zm=>mR 4 TRc TRat.d (C3.getD zm [])) zm)=true from fun _ _=>rfl) pn))) ?_
    refine rnR hE 1 [] [] (kp [0,1,5,6,7,8,9,14,15]) (kq [0,1,2,3,4,5,6,583]) 631 pn ?_
    refine rnR hE 2 [] [] (kp [0,1,5,6,7,8,9,14,15,50]) (kq [0,1,2,3,4,5,6,583]) 663 pn ?_
    refine rnC 0 50 h (fun hq4 h=>?_) (fun hq4 h=>?_)
    ·obtain ⟨rCmpRat,hr4,h⟩:=bsm h
     refine rnR hE 0 [(2,⟨[],true,(aI rCmpRat),[],0,false,none⟩)] [] (kp [0,1,5,6,7,8,9,14,15]) (kq [0,1,2,3,4,5,6,583]) 727 (pc o1 (pc o1 (pc (g_e_CmpRat_ok N rover least rCmpRat hr4) pn))) ?_
     exact rnW hE 1 [] (kp [0,1,5,6,7,8,9,14,15]) (kq [0,1,2,3,4,5,6] ++ [(7,.keep 583)]) 8 pn (g_e_tableau_leaving_J3_ok N _ _ _ _ _ _ _ _ _ _ _ _ _ _ _ _ _ _ ih _ _ h E hE)
    ·exact rnW hE 2 [] (kp [0,1,5,6,7,8,9,14,15]) (kq [0,1,2,3,4,5,6] ++ [(7,.keep 583)]) 8 pn (g_e_tableau_leaving_J3_ok N _ _ _ _ _ _ _ _ _ _ _ _ _ _ _ _ _ _ ih _ _ h E hE)
  ·refine rnR hE 2 [] [] (kp [4]) (kq [0,1,2,3,4,5]) 55 pn ?_
   obtain rfl:=osI h
   exact rnT hE 0 Tryz.f96 [] (kp [4]) (kq [0,1,2,3,4,5]) 55 pn [] pn
theorem g_e_tableau_leaving_ok (N:Nat) (j:Int) (C0:Int) (C02:Int) (C03:Bool) (C04:List Int) (C05:Bool) (C06:List Int) (C07:Int) (C1:List Int) (C2:List Int) (C3:List (List TRat)) (C4:List TRat) (C5:List TRat) (r:Int) (h:g_e_tableau_leaving N j C0 C02 C03 C04 C05 C06 C07 C1 C2 C3 C4 C5=some r):Sd 96 [(.op 0 0 0),(aI j)] [(0,vN 12 [(aI C0),(aI C02),(.os 1 0 C1.length),(.os 2 0 C2.length),(.os 3 0 C3.length),(.os 4 0 C4.length),(.os 5 0 C5.length),(aB C03),(eU C04),(aB C05),(eU C06),(aI C07)]),(1,aO 1 cI 0 C1),(2,aO 1 cI 0 C2),(3,aM 4 TRc TRat.d C3),(4,aO 4 TRc TRat.d C4),(5,aO 4 TRc TRat.d C5)] 6 (aI r) [(0,vN 12 [(aI C0),(aI C02),(.os 1 0 C1.length),(.os 2 0 C2.length),(.os 3 0 C3.length),(.os 4 0 C4.length),(.os 5 0 C5.length),(aB C03),(eU C04),(aB C05),(eU C06),(aI C07)]),(1,aO 1 cI 0 C1),(2,aO 1 cI 0 C2),(3,aM 4 TRc TRat.d C3),(4,aO 4 TRc TRat.d C4),(5,aO 4 TRc TRat.d C5)]:=by
 unfold g_e_tableau_leaving at h
 refine sor (fu:=Tryz.f96) (c:=C_64 1) (nt:=81) (by kernel_rfl) (by kernel_rfl) (by kernel_rfl) (by kernel_rfl) (fun hm=>absurd hm (by decide)) ?_
 intro E hE
 refine rnR hE 1 [] [] (kp [0,1]) (kq [0,1,2,3,4,5]) 22 pn ?_
 refine rnR hE 1 [] [] (kp [0,1,5]) (kq [0,1,2,3,4,5]) 38 pn ?_
 refine rnR hE 1 [] [] (kp [0,1,5,6]) (kq [0,1,2,3,4,5,38]) 54 pn ?_
 refine rnR hE 2 [] [] (kp [0,1,5,6,14,15]) (kq [0,1,2,3,4,5,38]) 150 (pc o1 pn) ?_
 exact rnW hE 2 [] (kp [0,1,5,6,14,15]) (kq [0,1,2,3,4,5] ++ [(6,.var 38 [.keep,.sl (([]:List Int).length) (fun zi=>(cU .u16) (([]:List Int).getD zi 0)),.keep,.sl (([]:List Int).length) (fun zi=>(cU .u16) (([]:List Int).getD zi 0))])]) 7 (pc (Eq.refl 0) (pc (Eq.refl 0) pn)) (g_e_tableau_leaving_L1_ok N _ _ _ _ _ _ _ _ _ _ _ _ _ N _ _ _ _ h E hE)
noncomputable def C_62 (n:Nat):Code:=cat (bodyOf Tryz.f76) (pth n)
def g_e_tableau_climb_L1_H (N:Nat) (K:Int→Int→(List Int)→(List Int)→(List (List TRat))→(List TRat)→(List TRat)→Bool→(List Int)→Bool→(List Int)→Int→Option (Int×Ttb×(List Int)×(List Int)×(List (List TRat))×(List TRat)×(List TRat))):Prop:=∀ (C08:Int) (C09:Int) (C010:List Int) (C011:List Int) (C012:List (List TRat)) (C013:List TRat) (C014:List TRat) (C015:Bool) (C016:List Int) (C017:Bool) (C018:List Int) (C019:Int) (r:Int×Ttb×(List Int)×(List Int)×(List (List TRat))×(List TRat)×(List TRat)),K C08 C09 C010 C011 C012 C013 C014 C015 C016 C017 C018 C019=some r→∀ E,EnvOk E 6→Runs Tryz.prog E 76 19 (SPost E [(0,vN 12 [(aI r.2.1.f_n),(aI r.2.1.f_m),(.os 1 0 r.2.2.1.length),(.os 2 0 r.2.2.2.1.length),(.os 3 0 r.2.2.2.2.1.length),(.os 4 0 r.2.2.2.2.2.1.length),(.os 5 0 r.2.2.2.2.2.2.length),(aB r.2.1.f_value.fN.fG),(eU r.2.1.f_value.fN.fL),(aB r.2.1.f_value.fD.fG),(eU r.2.1.f_value.fD.fL),(aI r.2.1.f_helper)]),(1,aO 1 cI 0 r.2.2.1),(2,aO 1 cI 0 r.2.2.2.1),(3,aM 4 TRc TRat.d r.2.2.2.2.1),(4,aO 4 TRc TRat.d r.2.2.2.2.2.1),(5,aO 4 TRc TRat.d r.2.2.2.2.2.2)] (aI r.1)) [.code (C_62 12),.inLoop (C_62 12),.inBlock 0] ⟨[(0,(.op 0 0 0))],[(0,vN 12 [(aI C08),(aI C09),(.os 1 0 C010.length),(.os 2 0 C011.length),(.os 3 0 C012.length),(.os 4 0 C013.length),(.os 5 0 C014.length),(aB C015),(eU C016),(aB C017),(eU C018),(aI C019)]),(1,aO 1 cI 0 C010),(2,aO 1 cI 0 C011),(3,aM 4 TRc TRat.d C012),(4,aO 4 TRc TRat.d C013),(5,aO 4 TRc TRat.d C014)],6⟩
theorem g_e_tableau_climb_L1_ok (N:Nat) (fuel:Nat):g_e_tableau_climb_L1_H N (g_e_tableau_climb_L1 N fuel):=by
 induction fuel with
 | zero=>intro _ _ _ _ _ _ _ _ _ _ _ _ r h;rw [g_e_tableau_climb_L1.eq_1] at h;cases h
 | succ fuel ih =>
  intro C08 C09 C010 C011 C012 C013 C014 C015 C016 C017 C018 C019 r h E hE
  rw [g_e_tableau_climb_L1.eq_2] at h
  obtain ⟨rentering,hr,h⟩:=bsm h
  refine rnR hE 2 [(1,⟨[0,1,2,3,4,5],true,(aI rentering),[],0,false,none⟩)] [] (kp [0,3]) (kq [0,1,2,3,4,5]) 54 (pc (g_e_tableau_entering_ok N C08 C09 C015 C016 C017 C018 C019 C010 C011 C012 C013 C014 rentering hr) (pc (show ∀ zm,zm < C012.length→isMrL ((fun zm=>mR 4 TRc TRat.d (C012.getD zm [])) zm)=true from (fun _ _=>rfl)) pn)) ?_
  refine rnR hE 2 [] [] (kp [0,3,8]) (kq [0,1,2,3,4,5]) 86 pn ?_
  refine rnC 0 8 h (fun hq2 h=>?_) (fun hq2 h=>?_)
  ·refine rnR hE 1 [] [] (kp [2]) (kq [0,1,2,3,4,5]) 102 pn ?_
   obtain rfl:=osI h
   exact rnT hE 0 Tryz.f76 [] (kp [2]) (kq [0,1,2,3,4,5]) 102 pn [] pn
  ·obtain ⟨rleaving,hr2,h⟩:=bsm h
   refine rnR hE 2 [(2,⟨[0,1,2,3,4,5],true,(aI rleaving),[],0,false,none⟩)] [] (kp [0,3,4]) (kq [0,1,2,3,4,5]) 150 (pc (g_e_tableau_leaving_ok N rentering C08 C09 C015 C016 C017 C018 C019 C010 C011 C012 C013 C014 rleaving hr2) (pc (show ∀ zm,zm < C012.length→isMrL ((fun zm=>mR 4 TRc TRat.d (C012.getD zm [])) zm)=true from (fun _ _=>rfl)) pn)) ?_
   refine rnR hE 2 [] [] (kp [0,3,4,13]) (kq [0,1,2,3,4,5]) 182 pn ?_
   refine rnC 0 13 h (fun hq3 h=>?_) (fun hq3 h=>?_)
   ·refine rnR hE 1 [] [] (kp [2]) (kq [0,1,2,3,4,5]) 214 pn ?_
    obtain rfl:=osI h
    exact rnT hE 0 Tryz.f76 [] (kp [2]) (kq [0,1,2,3,4,5]) 214 pn [] pn
   ·obtain ⟨rpivot,hr3,h⟩:=bsm h
    obtain ⟨c,h⟩:=ifSome h
    obtain ⟨c2,h⟩:=ifSome h
    obtain ⟨c3,h⟩:=ifSome h
    obtain ⟨c4,h⟩:=ifSome h
    obtain ⟨c5,h⟩:=ifSome h
    refine rnR hE 1 [(3,⟨[0,1,2,3,4,5],false,(.tup []),[(0,vN 12 [(aI rpivot.1.f_n),(aI rpivot.1.f_m),(.os 1 0 rpivot.2.1.length),(.os 2 0 rpivot.2.2.1.length),(.os 3 0 rpivot.2.2.2.1.length),(.os 4 0 rpivot.2.2.2.2.1.length),(.os 5 0 rpivot.2.2.2.2.2.length),(aB rpivot.1.f_value.fN.fG),(eU rpivot.1.f_value.fN.fL),(aB rpivot.1.f_value.fD.fG),(eU rpivot.1.f_value.fD.fL),(aI rpivot.1.f_helper)]),(1,aO 1 cI 0 rpivot.2.1),(2,aO 1 cI 0 rpivot.2.2.1),(3,aM 4 TRc TRat.d rpivot.2.2.2.1),(4,aO 4 TRc TRat.d rpivot.2.2.2.2.1),(5,aO 4 TRc TRat.d rpivot.2.2.2.2.2)],0,false,none⟩)] [] (kp [0]) (kq [0,1,2,3,4,5]) 246 (pc (g_e_tableau_pivot_ok N rleaving rentering C08 C09 C015 C016 C017 C018 C019 C010 C011 C012 C013 C014 rpivot hr3) pn) ?_
    exact rnW hE 2 [] (kp [0]) (kq [0,1,2,3,4,5]) 6 pn (ih _ _ _ _ _ _ _ _ _ _ _ _ _ h E hE)
theorem g_e_tableau_climb_ok (N:Nat) (C0:Int) (C02:Int) (C03:Bool) (C04:List Int) (C05:Bool) (C06:List Int) (C07:Int) (C1:List Int) (C2:List Int) (C3:List (List TRat)) (C4:List TRat) (C5:List TRat) (r:Int×Ttb×(List Int)×(List Int)×(List (List TRat))×(List TRat)×(List TRat)) (h:g_e_tableau_climb N C0 C02 C03 C04 C05 C06 C07 C1 C2 C3 C4 C5=some r):Sd 76 [(.op 0 0 0)] [(0,vN 12 [(aI C0),(aI C02),(.os 1 0 C1.length),(.os 2 0 C2.length),(.os 3 0 C3.length),(.os 4 0 C4.length),(.os 5 0 C5.length),(aB C03),(eU C04),(aB C05),(eU C06),(aI C07)]),(1,aO 1 cI 0 C1),(2,aO 1 cI 0 C2),(3,aM 4 TRc TRat.d C3),(4,aO 4 TRc TRat.d C4),(5,aO 4 TRc TRat.d C5)] 6 (aI r.1) [(0,vN 12 [(aI r.2.1.f_n),(aI r.2.1.f_m),(.os 1 0 r.2.2.1.length),(.os 2 0 r.2.2.2.1.length),(.os 3 0 r.2.2.2.2.1.length),(.os 4 0 r.2.2.2.2.2.1.length),(.os 5 0 r.2.2.2.2.2.2.length),(aB r.2.1.f_value.fN.fG),(eU r.2.1.f_value.fN.fL),(aB r.2.1.f_value.fD.fG),(eU r.2.1.f_value.fD.fL),(aI r.2.1.f_helper)]),(1,aO 1 cI 0 r.2.2.1),(2,aO 1 cI 0 r.2.2.2.1),(3,aM 4 TRc TRat.d r.2.2.2.2.1),(4,aO 4 TRc TRat.d r.2.2.2.2.2.1),(5,aO 4 TRc TRat.d r.2.2.2.2.2.2)]:=by
 unfold g_e_tableau_climb at h
 refine sor (fu:=Tryz.f76) (c:=C_62 1) (nt:=19) (by kernel_rfl) (by kernel_rfl) (by kernel_rfl) (by kernel_rfl) (fun hm=>absurd hm (by decide)) ?_
 intro E hE
 refine rnR hE 1 [] [] (kp [0]) (kq [0,1,2,3,4,5]) 22 pn ?_
 exact rnW hE 2 [] (kp [0]) (kq [0,1,2,3,4,5]) 6 pn (g_e_tableau_climb_L1_ok N N _ _ _ _ _ _ _ _ _ _ _ _ _ h E hE)
noncomputable def C_65 (n:Nat):Code:=cat (bodyOf Tryz.f77) (pth n)
def g_slices_Index_int_int_L1_H (N:Nat) (s:List Int) (v:Int) (K:Int→Option (Int)):Prop:=∀ (x:Int) (r:Int),K x=some r→∀ E,EnvOk E 0→Runs Tryz.prog E 77 19 (SPost E [] (aI r)) [.code (C_65 52),.inLoop (C_65 52),.inBlock 0,.code (C_65 7)] ⟨[(0,(encL cI 0 s)),(1,(aI v)),(7,(aI ((s.length:Nat):Int))),(8,(aI x))],[],0⟩
theorem g_slices_Index_int_int_L1_ok (N:Nat) (s:List Int) (v:Int) (fuel:Nat):g_slices_Index_int_int_L1_H N s v (g_slices_Index_int_int_L1 N s v fuel):=by
 induction fuel with
 | zero=>intro _ r h;rw [g_slices_Index_int_int_L1.eq_1] at h;cases h
 | succ fuel ih =>
  intro x r h E hE
  rw [g_slices_Index_int_int_L1.eq_2] at h
  refine rnR hE 1 [] [] (kp [0,1,7,8,9]) [] 16 pn ?_
  refine rnC 1 9 h (fun hq2 h=>?_) (fun hq2 h=>?_)
  ·refine rnR hE 4 [] [] (kp [0,1,5,7,8]) [] 48 pn ?_
   obtain ⟨c,h⟩:=ifSome h
   refine rnR hE 1 [] [] (kp [0,1,5,7,8,16]) [] 144 (pc c pn) ?_
   refine rnC 0 16 h (fun hq3 h=>?_) (fun hq3 h=>?_)
   ·refine rnR hE 1 [] [] (kp [4]) [] 176 pn ?_
    obtain rfl:=osI h
    exact rnT hE 0 Tryz.f77 [] (kp [4]) [] 176 pn [] pn
   ·refine rnR hE 2 [] [] (kp [0,1,7,8]) [] 176 pn ?_
    exact rnW hE 1 [] (kp [0,1,7,8]) [] 0 pn (ih _ _ h E hE)
  ·refine rnR hE 2 [] [] (kp [4]) [] 32 pn ?_
   obtain rfl:=osI h
   exact rnT hE 0 Tryz.f77 [] (kp [4]) [] 48 pn [] pn
theorem g_slices_Index_int_int_ok (N:Nat) (s:List Int) (v:Int) (r:Int) (h:g_slices_Index_int_int N s v=some r):Sd 77 [(encL cI 0 s),(aI v)] [] 0 (aI r) []:=by
 unfold g_slices_Index_int_int at h
 refine sor (fu:=Tryz.f77) (c:=C_65 1) (nt:=19) (by kernel_rfl) (by kernel_rfl) (by kernel_rfl) (by kernel_rfl) (fun hm=>rfl) ?_
 intro E hE
 refine rnR hE 1 [] [] (kp [0,1]) [] 16 pn ?_
 refine rnR hE 2 [] [] (kp [0,1,7,8]) [] 64 pn ?_
 exact rnW hE 2 [] (kp [0,1,7,8]) [] 0 pn (g_slices_Index_int_int_L1_ok N _ _ N _ _ h E hE)
noncomputable def C_67 (n:Nat):Code:=cat (bodyOf Tryz.f79) (pth n)
theorem g_e_tableau_settle_1_ok (N:Nat) (x:TRat) (r:Bool) (h:g_e_tableau_settle_1 N x=some r):Sd 79 [(.agg (TRc x))] [] 0 (aB r) []:=by
 unfold g_e_tableau_settle_1 at h
 refine sor (fu:=Tryz.f79) (c:=C_67 1) (nt:=6) (by kernel_rfl) (by kernel_rfl) (by kernel_rfl) (by kernel_rfl) (fun hm=>rfl) ?_
 intro E hE
 refine rnR hE 1 [] [] (kp [1]) (kq [0]) 32 pn ?_
 obtain ⟨risZero,hr,h⟩:=bsm h
 refine rnR hE 1 [(1,⟨[],true,(aB risZero),[],0,false,none⟩)] [] (kp [2]) [] 96 (pc o1 (pc (g_e_isZero_ok N x risZero hr) pn)) ?_
 obtain rfl:=osI h
 exact rnT hE 0 Tryz.f79 [] (kp [2]) [] 96 pn [] pn
noncomputable def C_66 (n:Nat):Code:=cat (bodyOf Tryz.f78) (pth n)
def g_slices_IndexFunc_Rat_L1_H (N:Nat) (s:List TRat) (K:Int→Option (Int)):Prop:=∀ (x:Int) (r:Int),K x=some r→∀ E,EnvOk E 0→Runs Tryz.prog E 78 19 (SPost E [] (aI r)) [.code (C_66 52),.inLoop (C_66 52),.inBlock 0,.code (C_66 7)] ⟨[(0,(encL TRc TRat.d s)),(1,(.fn (.func 79) [] [])),(7,(aI ((s.length:Nat):Int))),(8,(aI x))],[],0⟩
theorem g_slices_IndexFunc_Rat_L1_ok (N:Nat) (s:List TRat) (fuel:Nat):g_slices_IndexFunc_Rat_L1_H N s (g_slices_IndexFunc_Rat_L1 N s fuel):=by
 induction fuel with
 | zero=>intro _ r h;rw [g_slices_IndexFunc_Rat_L1.eq_1] at h;cases h
 | succ fuel ih =>
  intro x r h E hE
  rw [g_slices_IndexFunc_Rat_L1.eq_2] at h
  refine rnR hE 1 [] [] (kp [0,1,7,8,9]) [] 16 pn ?_
  refine rnC 1 9 h (fun hq2 h=>?_) (fun hq2 h=>?_)
  ·refine rnR hE 4 [] [] (kp [0,1,5,7,8]) [] 48 pn ?_
   obtain ⟨c,h⟩:=ifSome h
   obtain ⟨rsettle1,hr,h⟩:=bsm h
   refine rnR hE 1 [(5,⟨[],true,(aB rsettle1),[],0,false,none⟩)] [] (kp [0,1,5,7,8,16]) [] 144 (pc c (pc (g_e_tableau_settle_1_ok N (⟨((s.getD ((x).toNat) TRat.d).fN),((s.getD ((x).toNat) TRat.d).fD)⟩:TRat) rsettle1 hr) pn)) ?_
   refine rnC 0 16 h (fun hq3 h=>?_) (fun hq3 h=>?_)
   ·refine rnR hE 1 [] [] (kp [4]) [] 176 pn ?_
    obtain rfl:=osI h
    exact rnT hE 0 Tryz.f78 [] (kp [4]) [] 176 pn [] pn
   ·refine rnR hE 2 [] [] (kp [0,1,7,8]) [] 176 pn ?_
    exact rnW hE 1 [] (kp [0,1,7,8]) [] 0 pn (ih _ _ h E hE)
  ·refine rnR hE 2 [] [] (kp [4]) [] 32 pn ?_
   obtain rfl:=osI h
   exact rnT hE 0 Tryz.f78 [] (kp [4]) [] 48 pn [] pn
theorem g_slices_IndexFunc_Rat_ok (N:Nat) (s:List TRat) (r:Int) (h:g_slices_IndexFunc_Rat N s=some r):Sd 78 [(encL TRc TRat.d s),(.fn (.func 79) [] [])] [] 0 (aI r) []:=by
 unfold g_slices_IndexFunc_Rat at h
 refine sor (fu:=Tryz.f78) (c:=C_66 1) (nt:=19) (by kernel_rfl) (by kernel_rfl) (by kernel_rfl) (by kernel_rfl) (fun hm=>rfl) ?_
 intro E hE
 refine rnR hE 1 [] [] (kp [0,1]) [] 16 pn ?_
 refine rnR hE 2 [] [] (kp [0,1,7,8]) [] 64 pn ?_
 exact rnW hE 2 [] (kp [0,1,7,8]) [] 0 pn (g_slices_IndexFunc_Rat_L1_ok N _ N _ _ h E hE)
noncomputable def C_68 (n:Nat):Code:=cat (bodyOf Tryz.f80) (pth n)
theorem g_slices_Delete_int_int_ok (N:Nat) (i:Int) (j:Int) (C0:List Int) (r:(List Int)×(List Int)) (h:g_slices_Delete_int_int N i j C0=some r):Sd 80 [(.os 0 0 C0.length),(aI i),(aI j)] [(0,aO 1 cI 0 C0)] 1 (.os 0 0 r.2.length) [(0,aO 1 cI 0 r.2)]:=by
 unfold g_slices_Delete_int_int at h
 refine sor (fu:=Tryz.f80) (c:=C_68 1) (nt:=33) (by kernel_rfl) (by kernel_rfl) (by kernel_rfl) (by kernel_rfl) (fun hm=>absurd hm (by decide)) ?_
 intro E hE
 refine rnR hE 1 [] [] (kp [0,1,2]) (kq [0]) 17 pn ?_
 obtain ⟨c,h⟩:=ifSome h
 refine rnR hE 1 [(5,⟨[],false,.unk,[],0,false,none⟩)] [] (kp [0,1,2]) (kq [0]) 113 (pc c pn) ?_
 refine rnR hE 2 [] [] (kp [0,1,2,16]) (kq [0]) 161 pn ?_
 refine rnC 0 16 h (fun hq2 h=>?_) (fun hq2 h=>?_)
 ·refine rnR hE 1 [] [] (kp [6]) (kq [0]) 193 pn ?_
  obtain rfl:=osI h
  exact rnT hE 0 Tryz.f80 [] (kp [6]) (kq [0]) 193 pn [] pn
 ·refine rnR hE 2 [] [] (kp [0,1,2,7]) (kq [0]) 209 pn ?_
  obtain ⟨c2,h⟩:=ifSome h
  obtain ⟨c3,h⟩:=ifSome h
  obtain ⟨c4,h⟩:=ifSome h
  obtain ⟨c5,h⟩:=ifSome h
  obtain ⟨c6,h⟩:=ifSome h
  obtain ⟨c7,h⟩:=ifSome h
  refine rnR hE 1 [(6,⟨[],false,.unk,[],0,false,none⟩)] [] (kp [0,7]) [(0,.arr 0 ((delL C0 ((i).toNat) ((j).toNat)).length) (fun zi=>cI ((delL C0 ((i).toNat) ((j).toNat)).getD zi 0)))] 337 (pc c2 (pc c3 (pc c4 (pc c5 (pc (show 0 < C0.length∧((i).toNat - 0)+(C0.length - (j).toNat)≤C0.length by have h1:=c6;have h2:=c7;omega) (pc (show (j).toNat+(C0.length - (j).toNat)≤C0.length by have h1:=c6;omega) (pc (show ∀ zi,zi < C0.length→AV.oneL (cI (C0.getD zi 0))=true from (fun _ _=>rfl)) (pc (show C0.length=(delL C0 ((i).toNat) ((j).toNat)).length from (len_del c6)) (pc (show ∀ zi,zi < (delL C0 ((i).toNat) ((j).toNat)).length→(fun zi=>cI ((delL C0 ((i).toNat) ((j).toNat)).getD zi 0)) zi=((fun zm=>if zm < ((i).toNat - 0) then cI (C0.getD zm 0) else if zm < ((i).toNat - 0)+(C0.length - (j).toNat) then cI (C0.getD (addz (j).toNat (zm - ((i).toNat - 0))) 0) else cI (C0.getD zm 0))) zi from (fun zq hzq=>get_del cI 0 C0 ((i).toNat) ((j).toNat) c6 zq hzq)) pn))))))))) ?_
  obtain ⟨c8,h⟩:=ifSome h
  obtain ⟨c9,h⟩:=ifSome h
  refine rnR hE 1 [(4,⟨[],false,.unk,[],0,false,none⟩),(5,⟨[],false,.unk,[],0,false,none⟩)] [] [(0,.osl (((delL C0 ((i).toNat) ((j).toNat)).take (((i).toNat - 0)+(C0.length - (j).toNat))).length))] [(0,.arr 0 (((delL C0 ((i).toNat) ((j).toNat)).take (((i).toNat - 0)+(C0.length - (j).toNat))).length) (fun zi=>cI (((delL C0 ((i).toNat) ((j).toNat)).take (((i).toNat - 0)+(C0.length - (j).toNat))).getD zi 0)))] 433 (pc c8 (pc (show 0≤(((((i).toNat - 0)+(C0.length - (j).toNat)):Nat):Int) from (Int.natCast_nonneg _)) (pc (show 0≤((C0.length:Nat):Int) from (Int.natCast_nonneg _)) (pc c9 (pc (show (((i).toNat - 0)+(C0.length - (j).toNat))=((delL C0 ((i).toNat) ((j).toNat)).take (((i).toNat - 0)+(C0.length - (j).toNat))).length from (len_tk c9)) (pc (show (((i).toNat - 0)+(C0.length - (j).toNat))=((delL C0 ((i).toNat) ((j).toNat)).take (((i).toNat - 0)+(C0.length - (j).toNat))).length from (len_tk c9)) (pc (show ∀ zi,zi < ((delL C0 ((i).toNat) ((j).toNat)).take (((i).toNat - 0)+(C0.length - (j).toNat))).length→(fun zi=>cI (((delL C0 ((i).toNat) ((j).toNat)).take (((i).toNat - 0)+(C0.length - (j).toNat))).getD zi 0)) zi=(fun zi=>cI ((delL C0 ((i).toNat) ((j).toNat)).getD zi 0)) zi from (fun zq hzq=>get_tk cI 0 (delL C0 ((i).toNat) ((j).toNat)) (((i).toNat - 0)+(C0.length - (j).toNat)) zq hzq)) pn))))))) ?_
  refine rnR hE 1 [] [] (kp [6]) (kq [0]) 465 pn ?_
  obtain rfl:=osI h
  exact rnT hE 0 Tryz.f80 [] (kp [6]) (kq [0]) 465 pn [] pn
noncomputable def C_69 (n:Nat):Code:=cat (bodyOf Tryz.f81) (pth n)
theorem g_slices_Delete_Rat_ok (N:Nat) (i:Int) (j:Int) (C0:List TRat) (r:(List TRat)×(List TRat)) (h:g_slices_Delete_Rat N i j C0=some r):Sd 81 [(.os 0 0 C0.length),(aI i),(aI j)] [(0,aO 4 TRc TRat.d C0)] 1 (.os 0 0 r.2.length) [(0,aO 4 TRc TRat.d r.2)]:=by
 unfold g_slices_Delete_Rat at h
 refine sor (fu:=Tryz.f81) (c:=C_69 1) (nt:=33) (by kernel_rfl) (by kernel_rfl) (by kernel_rfl) (by kernel_rfl) (fun hm=>absurd hm (by decide)) ?_
 intro E hE
 refine rnR hE 1 [] [] (kp [0,1,2]) (kq [0]) 17 pn ?_
 obtain ⟨c,h⟩:=ifSome h
 refine rnR hE 1 [(5,⟨[],false,.unk,[],0,false,none⟩)] [] (kp [0,1,2]) (kq [0]) 113 (pc c pn) ?_
 refine rnR hE 2 [] [] (kp [0,1,2,16]) (kq [0]) 161 pn ?_
 refine rnC 0 16 h (fun hq2 h=>?_) (fun hq2 h=>?_)
 ·refine rnR hE 1 [] [] (kp [6]) (kq [0]) 193 pn ?_
  obtain rfl:=osI h
  exact rnT hE 0 Tryz.f81 [] (kp [6]) (kq [0]) 193 pn [] pn
 ·refine rnR hE 2 [] [] (kp [0,1,2,7]) (kq [0]) 209 pn ?_
  obtain ⟨c2,h⟩:=ifSome h
  obtain ⟨c3,h⟩:=ifSome h
  obtain ⟨c4,h⟩:=ifSome h
  obtain ⟨c5,h⟩:=ifSome h
  obtain ⟨c6,h⟩:=ifSome h
  obtain ⟨c7,h⟩:=ifSome h
  refine rnR hE 1 [(6,⟨[],false,.unk,[],0,false,none⟩)] [] (kp [0,7]) [(0,.arr 0 ((delL C0 ((i).toNat) ((j).toNat)).length) (fun zi=>TRc ((delL C0 ((i).toNat) ((j).toNat)).getD zi TRat.d)))] 337 (pc c2 (pc c3 (pc c4 (pc c5 (pc (show 0 < C0.length∧((i).toNat - 0)+(C0.length - (j).toNat)≤C0.length by have h1:=c6;have h2:=c7;omega) (pc (show (j).toNat+(C0.length - (j).toNat)≤C0.length by have h1:=c6;omega) (pc (show ∀ zi,zi < C0.length→AV.oneL (TRc (C0.getD zi TRat.d))=true from (fun _ _=>rfl)) (pc (show C0.length=(delL C0 ((i).toNat) ((j).toNat)).length from (len_del c6)) (pc (show ∀ zi,zi < (delL C0 ((i).toNat) ((j).toNat)).length→(fun zi=>TRc ((delL C0 ((i).toNat) ((j).toNat)).getD zi TRat.d)) zi=((fun zm=>if zm < ((i).toNat - 0) then TRc (C0.getD zm TRat.d) else if zm < ((i).toNat - 0)+(C0.length - (j).toNat) then TRc (C0.getD (addz (j).toNat (zm - ((i).toNat - 0))) TRat.d) else TRc (C0.getD zm TRat.d))) zi from (fun zq hzq=>get_del TRc TRat.d C0 ((i).toNat) ((j).toNat) c6 zq hzq)) pn))))))))) ?_
  obtain ⟨c8,h⟩:=ifSome h
  obtain ⟨c9,h⟩:=ifSome h
  refine rnR hE 1 [(4,⟨[],false,.unk,[],0,false,none⟩),(5,⟨[],false,.unk,[],0,false,none⟩)] [] [(0,.osl (((delL C0 ((i).toNat) ((j).toNat)).take (((i).toNat - 0)+(C0.length - (j).toNat))).length))] [(0,.arr 0 (((delL C0 ((i).toNat) ((j).toNat)).take (((i).toNat - 0)+(C0.length - (j).toNat))).length) (fun zi=>TRc (((delL C0 ((i).toNat) ((j).toNat)).take (((i).toNat - 0)+(C0.length - (j).toNat))).getD zi TRat.d)))] 433 (pc c8 (pc (show 0≤(((((i).toNat - 0)+(C0.length - (j).toNat)):Nat):Int) from (Int.natCast_nonneg _)) (pc (show 0≤((C0.length:Nat):Int) from (Int.natCast_nonneg _)) (pc c9 (pc (show (((i).toNat - 0)+(C0.length - (j).toNat))=((delL C0 ((i).toNat) ((j).toNat)).take (((i).toNat - 0)+(C0.length - (j).toNat))).length from (len_tk c9)) (pc (show (((i).toNat - 0)+(C0.length - (j).toNat))=((delL C0 ((i).toNat) ((j).toNat)).take (((i).toNat - 0)+(C0.length - (j).toNat))).length from (len_tk c9)) (pc (show ∀ zi,zi < ((delL C0 ((i).toNat) ((j).toNat)).take (((i).toNat - 0)+(C0.length - (j).toNat))).length→(fun zi=>TRc (((delL C0 ((i).toNat) ((j).toNat)).take (((i).toNat - 0)+(C0.length - (j).toNat))).getD zi TRat.d)) zi=(fun zi=>TRc ((delL C0 ((i).toNat) ((j).toNat)).getD zi TRat.d)) zi from (fun zq hzq=>get_tk TRc TRat.d (delL C0 ((i).toNat) ((j).toNat)) (((i).toNat - 0)+(C0.length - (j).toNat)) zq hzq)) pn))))))) ?_
  refine rnR hE 1 [] [] (kp [6]) (kq [0]) 465 pn ?_
  obtain rfl:=osI h
  exact rnT hE 0 Tryz.f81 [] (kp [6]) (kq [0]) 465 pn [] pn
noncomputable def C_56 (n:Nat):Code:=cat (bodyOf Tryz.f45) (pth n)
def g_e_tableau_settle_L1_H (N:Nat) (C0:Int) (C02:Int) (C03:Bool) (C04:List Int) (C05:Bool) (C06:List Int) (C07:Int) (C1:List Int) (C2:List Int) (C3:List (List TRat)) (C4:List TRat) (C5:List TRat) (K:Int→Int→Option (Bool×Ttb×(List Int)×(List Int)×(List (List TRat))×(List TRat))):Prop:=∀ (low:Int) (x:Int) (r:Bool×Ttb×(List Int)×(List Int)×(List (List TRat))×(List TRat)),K low x=some r→∀ E,EnvOk E 6→Runs Tryz.prog E 45 177 (SPost E [(0,vN 12 [(aI r.2.1.f_n),(aI r.2.1.f_m),(.os 1 0 r.2.2.1.length),(.os 2 0 r.2.2.2.1.length),(.os 3 0 r.2.2.2.2.1.length),(.os 4 0 r.2.2.2.2.2.length),(.os 6 0 r.2.1.f_goal.length),(aB r.2.1.f_value.fN.fG),(eU r.2.1.f_value.fN.fL),(aB r.2.1.f_value.fD.fG),(eU r.2.1.f_value.fD.fL),(aI r.2.1.f_helper)]),(1,aO 1 cI 0 r.2.2.1),(2,aO 1 cI 0 r.2.2.2.1),(3,aM 4 TRc TRat.d r.2.2.2.2.1),(4,aO 4 TRc TRat.d r.2.2.2.2.2),(6,aO 4 TRc TRat.d r.2.1.f_goal)] (aB r.1)) [.code (C_56 116),.inLoop (C_56 116),.inBlock 0,.code (C_56 15)] ⟨[(0,(.op 0 0 0)),(3,(aI low)),(15,(aI ((C4.length:Nat):Int))),(16,(aI x))],[(0,vN 12 [(aI C0),(aI C02),(.os 1 0 C1.length),(.os 2 0 C2.length),(.os 3 0 C3.length),(.os 4 0 C4.length),(.os 5 0 C5.length),(aB C03),(eU C04),(aB C05),(eU C06),(aI C07)]),(1,aO 1 cI 0 C1),(2,aO 1 cI 0 C2),(3,aM 4 TRc TRat.d C3),(4,aO 4 TRc TRat.d C4),(5,aO 4 TRc TRat.d C5)],6⟩
def g_e_tableau_settle_J2_H (N:Nat) (C0:Int) (C02:Int) (C03:Bool) (C04:List Int) (C05:Bool) (C06:List Int) (C07:Int) (C1:List Int) (C2:List Int) (C3:List (List TRat)) (C4:List TRat) (C5:List TRat) (x:Int) (K:Int→Option (Bool×Ttb×(List Int)×(List Int)×(List (List TRat))×(List TRat))):Prop:=∀ (low2:Int) (r:Bool×Ttb×(List Int)×(List Int)×(List (List TRat))×(List TRat)),K low2=some r→∀ E,EnvOk E 6→Runs Tryz.prog E 45 177 (SPost E [(0,vN 12 [(aI r.2.1.f_n),(aI r.2.1.f_m),(.os 1 0 r.2.2.1.length),(.os 2 0 r.2.2.2.1.length),(.os 3 0 r.2.2.2.2.1.length),(.os 4 0 r.2.2.2.2.2.length),(.os 6 0 r.2.1.f_goal.length),(aB r.2.1.f_value.fN.fG),(eU r.2.1.f_value.fN.fL),(aB r.2.1.f_value.fD.fG),(eU r.2.1.f_value.fD.fL),(aI r.2.1.f_helper)]),(1,aO 1 cI 0 r.2.2.1),(2,aO 1 cI 0 r.2.2.2.1),(3,aM 4 TRc TRat.d r.2.2.2.2.1),(4,aO 4 TRc TRat.d r.2.2.2.2.2),(6,aO 4 TRc TRat.d r.2.1.f_goal)] (aB r.1)) [.code (C_56 935),.inLoop (C_56 116),.inBlock 0,.code (C_56 15)] ⟨[(0,(.op 0 0 0)),(3,(aI low2)),(15,(aI ((C4.length:Nat):Int))),(16,(aI x))],[(0,vN 12 [(aI C0),(aI C02),(.os 1 0 C1.length),(.os 2 0 C2.length),(.os 3 0 C3.length),(.os 4 0 C4.length),(.os 5 0 C5.length),(aB C03),(eU C04),(aB C05),(eU C06),(aI C07)]),(1,aO 1 cI 0 C1),(2,aO 1 cI 0 C2),(3,aM 4 TRc TRat.d C3),(4,aO 4 TRc TRat.d C4),(5,aO 4 TRc TRat.d C5)],6⟩
theorem g_e_tableau_settle_J2_ok (N:Nat) (C0:Int) (C02:Int) (C03:Bool) (C04:List Int) (C05:Bool) (C06:List Int) (C07:Int) (C1:List Int) (C2:List Int) (C3:List (List TRat)) (C4:List TRat) (C5:List TRat) (x:Int) (K_g_e_tableau_settle_L1:Int→Int→Option (Bool×Ttb×(List Int)×(List Int)×(List (List TRat))×(List TRat))) (hK_g_e_tableau_settle_L1:g_e_tableau_settle_L1_H N C0 C02 C03 C04 C05 C06 C07 C1 C2 C3 C4 C5 K_g_e_tableau_settle_L1):g_e_tableau_settle_J2_H N C0 C02 C03 C04 C05 C06 C07 C1 C2 C3 C4 C5 x (g_e_tableau_settle_J2 N C0 C02 C03 C04 C05 C06 C07 C1 C2 C3 C4 C5 x K_g_e_tableau_settle_L1):=by
 intro low2 r h E hE
 unfold g_e_tableau_settle_J2 at h
 refine rnR hE 0 [] [] (kp [0,3,15,16]) (kq [0,1,2,3,4,5]) 38 pn ?_
 exact rnW hE 1 [] (kp [0,3,15,16]) (kq [0,1,2,3,4,5]) 6 pn (hK_g_e_tableau_settle_L1 _ _ _ h E hE)
def g_e_tableau_settle_J3_H (N:Nat) (K:Int→Int→(List Int)→(List Int)→(List (List TRat))→(List TRat)→(List TRat)→Bool→(List Int)→Bool→(List Int)→Int→Option (Bool×Ttb×(List Int)×(List Int)×(List (List TRat))×(List TRat))):Prop:=∀ (C08:Int) (C09:Int) (C010:List Int) (C011:List Int) (C012:List (List TRat)) (C013:List TRat) (C014:List TRat) (C015:Bool) (C016:List Int) (C017:Bool) (C018:List Int) (C019:Int) (r:Bool×Ttb×(List Int)×(List Int)×(List (List TRat))×(List TRat)),K C08 C09 C010 C011 C012 C013 C014 C015 C016 C017 C018 C019=some r→∀ E,EnvOk E 6→Runs Tryz.prog E 45 177 (SPost E [(0,vN 12 [(aI r.2.1.f_n),(aI r.2.1.f_m),(.os 1 0 r.2.2.1.length),(.os 2 0 r.2.2.2.1.length),(.os 3 0 r.2.2.2.2.1.length),(.os 4 0 r.2.2.2.2.2.length),(.os 6 0 r.2.1.f_goal.length),(aB r.2.1.f_value.fN.fG),(eU r.2.1.f_value.fN.fL),(aB r.2.1.f_value.fD.fG),(eU r.2.1.f_value.fD.fL),(aI r.2.1.f_helper)]),(1,aO 1 cI 0 r.2.2.1),(2,aO 1 cI 0 r.2.2.2.1),(3,aM 4 TRc TRat.d r.2.2.2.2.1),(4,aO 4 TRc TRat.d r.2.2.2.2.2),(6,aO 4 TRc TRat.d r.2.1.f_goal)] (aB r.1)) [.code (C_56 252),.code (C_56 253),.code (C_56 127)] ⟨[(0,(.op 0 0 0))],[(0,vN 12 [(aI C08),(aI C09),(.os 1 0 C010.length),(.os 2 0 C011.length),(.os 3 0 C012.length),(.os 4 0 C013.length),(.os 5 0 C014.length),(aB C015),(eU C016),(aB C017),(eU C018),(aI C019)]),(1,aO 1 cI 0 C010),(2,aO 1 cI 0 C011),(3,aM 4 TRc TRat.d C012),(4,aO 4 TRc TRat.d C013),(5,aO 4 TRc TRat.d C014)],6⟩
def g_e_tableau_settle_J4_H (N:Nat) (K:Int→Int→(List Int)→(List Int)→(List (List TRat))→(List TRat)→(List TRat)→Bool→(List Int)→Bool→(List Int)→Int→Option (Bool×Ttb×(List Int)×(List Int)×(List (List TRat))×(List TRat))):Prop:=∀ (C020:Int) (C021:Int) (C022:List Int) (C023:List Int) (C024:List (List TRat)) (C025:List TRat) (C026:List TRat) (C027:Bool) (C028:List Int) (C029:Bool) (C030:List Int) (C031:Int) (r:Bool×Ttb×(List Int)×(List Int)×(List (List TRat))×(List TRat)),K C020 C021 C022 C023 C024 C025 C026 C027 C028 C029 C030 C031=some r→∀ E,EnvOk E 6→Runs Tryz.prog E 45 177 (SPost E [(0,vN 12 [(aI r.2.1.f_n),(aI r.2.1.f_m),(.os 1 0 r.2.2.1.length),(.os 2 0 r.2.2.2.1.length),(.os 3 0 r.2.2.2.2.1.length),(.os 4 0 r.2.2.2.2.2.length),(.os 6 0 r.2.1.f_goal.length),(aB r.2.1.f_value.fN.fG),(eU r.2.1.f_value.fN.fL),(aB r.2.1.f_value.fD.fG),(eU r.2.1.f_value.fD.fL),(aI r.2.1.f_helper)]),(1,aO 1 cI 0 r.2.2.1),(2,aO 1 cI 0 r.2.2.2.1),(3,aM 4 TRc TRat.d r.2.2.2.2.1),(4,aO 4 TRc TRat.d r.2.2.2.2.2),(6,aO 4 TRc TRat.d r.2.1.f_goal)] (aB r.1)) [.code (C_56 254),.code (C_56 255)] ⟨[(0,(.op 0 0 0))],[(0,vN 12 [(aI C020),(aI C021),(.os 1 0 C022.length),(.os 2 0 C023.length),(.os 3 0 C024.length),(.os 4 0 C025.length),(.os 5 0 C026.length),(aB C027),(eU C028),(aB C029),(eU C030),(aI C031)]),(1,aO 1 cI 0 C022),(2,aO 1 cI 0 C023),(3,aM 4 TRc TRat.d C024),(4,aO 4 TRc TRat.d C025),(5,aO 4 TRc TRat.d C026)],6⟩
def g_e_tableau_settle_L5_H (N:Nat) (C020:Int) (C021:Int) (C022:List Int) (C024:List (List TRat)) (C025:List TRat) (C026:List TRat) (C027:Bool) (C028:List Int) (C029:Bool) (C030:List Int) (C031:Int) (rIndex2:Int) (rDelete:(List Int)×(List Int)) (K:(List (List TRat))→Int→Option (Bool×Ttb×(List Int)×(List Int)×(List (List TRat))×(List TRat))):Prop:=∀ (C032:List (List TRat)) (x2:Int) (r:Bool×Ttb×(List Int)×(List Int)×(List (List TRat))×(List TRat)),K C032 x2=some r→∀ E,EnvOk E 6→Runs Tryz.prog E 45 177 (SPost E [(0,vN 12 [(aI r.2.1.f_n),(aI r.2.1.f_m),(.os 1 0 r.2.2.1.length),(.os 2 0 r.2.2.2.1.length),(.os 3 0 r.2.2.2.2.1.length),(.os 4 0 r.2.2.2.2.2.length),(.os 6 0 r.2.1.f_goal.length),(aB r.2.1.f_value.fN.fG),(eU r.2.1.f_value.fN.fL),(aB r.2.1.f_value.fD.fG),(eU r.2.1.f_value.fD.fL),(aI r.2.1.f_helper)]),(1,aO 1 cI 0 r.2.2.1),(2,aO 1 cI 0 r.2.2.2.1),(3,aM 4 TRc TRat.d r.2.2.2.2.1),(4,aO 4 TRc TRat.d r.2.2.2.2.2),(6,aO 4 TRc TRat.d r.2.1.f_goal)] (aB r.1)) [.code (C_56 8180),.inLoop (C_56 8180),.inBlock 2,.code (C_56 1023)] ⟨[(0,(.op 0 0 0)),(8,(aI rIndex2)),(126,(aI ((C024.length:Nat):Int))),(127,(aI x2))],[(0,vN 12 [(aI C020),(aI C021),(.os 1 0 C022.length),(.os 2 0 rDelete.2.length),(.os 3 0 C032.length),(.os 4 0 C025.length),(.os 5 0 C026.length),(aB C027),(eU C028),(aB C029),(eU C030),(aI C031)]),(1,aO 1 cI 0 C022),(2,aO 1 cI 0 rDelete.2),(3,aM 4 TRc TRat.d C032),(4,aO 4 TRc TRat.d C025),(5,aO 4 TRc TRat.d C026)],6⟩
def g_e_tableau_settle_L6_H (N:Nat) (C020:Int) (C021:Int) (C022:List Int) (C025:List TRat) (C026:List TRat) (C027:Bool) (C028:List Int) (C029:Bool) (C030:List Int) (C031:Int) (rDelete:(List Int)×(List Int)) (C032:List (List TRat)) (K:(List TRat)→Int→Option (Bool×Ttb×(List Int)×(List Int)×(List (List TRat))×(List TRat))):Prop:=∀ (C033:List TRat) (x3:Int) (r:Bool×Ttb×(List Int)×(List Int)×(List (List TRat))×(List TRat)),K C033 x3=some r→∀ E,EnvOk E 6→Runs Tryz.prog E 45 177 (SPost E [(0,vN 12 [(aI r.2.1.f_n),(aI r.2.1.f_m),(.os 1 0 r.2.2.1.length),(.os 2 0 r.2.2.2.1.length),(.os 3 0 r.2.2.2.2.1.length),(.os 4 0 r.2.2.2.2.2.length),(.os 6 0 r.2.1.f_goal.length),(aB r.2.1.f_value.fN.fG),(eU r.2.1.f_value.fN.fL),(aB r.2.1.f_value.fD.fG),(eU r.2.1.f_value.fD.fL),(aI r.2.1.f_helper)]),(1,aO 1 cI 0 r.2.2.1),(2,aO 1 cI 0 r.2.2.2.1),(3,aM 4 TRc TRat.d r.2.2.2.2.1),(4,aO 4 TRc TRat.d r.2.2.2.2.2),(6,aO 4 TRc TRat.d r.2.1.f_goal)] (aB r.1)) [.code (C_56 32756),.inLoop (C_56 32756),.inBlock 4,.code (C_56 4095)] ⟨[(0,(.op 0 0 0)),(161,(aI (((List.replicate rDelete.2.length TRat.d:List TRat).length:Nat):Int))),(162,(aI x3))],[(0,vN 12 [(aI C020),(aI C021),(.os 1 0 C022.length),(.os 2 0 rDelete.2.length),(.os 3 0 C032.length),(.os 4 0 C025.length),(.os 6 0 C033.length),(aB C027),(eU C028),(aB C029),(eU C030),(aI C031)]),(1,aO 1 cI 0 C022),(2,aO 1 cI 0 rDelete.2),(3,aM 4 TRc TRat.d C032),(4,aO 4 TRc TRat.d C025),(5,aO 4 TRc TRat.d C026),(6,aO 4 TRc TRat.d C033)],7⟩
theorem g_e_tableau_settle_L6_ok (N:Nat) (C020:Int) (C021:Int) (C022:List Int) (C025:List TRat) (C026:List TRat) (C027:Bool) (C028:List Int) (C029:Bool) (C030:List Int) (C031:Int) (rDelete:(List Int)×(List Int)) (C032:List (List TRat)) (fuel:Nat):g_e_tableau_settle_L6_H N C020 C021 C022 C025 C026 C027 C028 C029 C030 C031 rDelete C032 (g_e_tableau_settle_L6 N C020 C021 C022 C025 C026 C027 C028 C029 C030 C031 rDelete C032 fuel):=by
 induction fuel with
 | zero=>intro _ _ r h;rw [g_e_tableau_settle_L6.eq_1] at h;cases h
 | succ fuel ih =>
  intro C033 x3 r h E hE
  rw [g_e_tableau_settle_L6.eq_2] at h
  refine rnR hE 1 [] [] (kp [0,161,162,163]) (kq [0,1,2,3,4,5,6]) 23 pn ?_
  refine rnC 1 163 h (fun hq8 h=>?_) (fun hq8 h=>?_)
  ·refine rnR hE 4 [] [] (kp [0,10,161,162]) (kq [0,1,2,3,4,5,6]) 55 pn ?_
   obtain ⟨rnumber2,hr13,h⟩:=bsm h
   obtain ⟨c27,h⟩:=ifSome h
   refine rnR hE 0 [(5,⟨[],true,(.agg (TRc rnumber2)),[],0,false,none⟩)] [] (kp [0,161,162]) ([(0,.var 0 [.keep,.keep,.keep,.keep,.keep,.keep,.osl ((C033.set ((x3).toNat) rnumber2).length),.keep,.keep,.keep,.keep,.keep])] ++ kq [1,2,3,4,5] ++ [(6,.arr 6 ((C033.set ((x3).toNat) rnumber2).length) (fun zi=>TRc ((C033.set ((x3).toNat) rnumber2).getD zi TRat.d)))]) 183 (pc o1 (pc (g_e_number_ok N 0 rnumber2 hr13) (pc c27 (pc (ltOf c27) (pc (len_set0 C033 ((x3).toNat) rnumber2) (pc (len_set0 C033 ((x3).toNat) rnumber2) (pc (get_set0 TRc TRat.d C033 ((x3).toNat) rnumber2) pn))))))) ?_
   refine rnR hE 1 [] [] (kp [0,161,162]) (kq [0,1,2,3,4,5,6]) 215 pn ?_
   exact rnW hE 1 [] (kp [0,161,162]) (kq [0,1,2,3,4,5,6]) 7 pn (ih _ _ _ h E hE)
  ·obtain ⟨rnumber3,hr14,h⟩:=bsm h
   refine rnR hE 2 [(1,⟨[],true,(.agg (TRc rnumber3)),[],0,false,none⟩)] [] [] (kq [0,1,2,3,4,5,6]) 103 (pc (g_e_number_ok N 0 rnumber3 hr14) (pc o1 pn)) ?_
   refine rnR hE 1 [] [] (kp [2]) (kq [0,1,2,3,4,5,6]) 119 pn ?_
   obtain rfl:=osI h
   exact rnT hE 0 Tryz.f45 [] (kp [2]) (kq [0,1,2,3,4,6]) 119 pn [] pn
theorem g_e_tableau_settle_L5_ok (N:Nat) (C020:Int) (C021:Int) (C022:List Int) (C024:List (List TRat)) (C025:List TRat) (C026:List TRat) (C027:Bool) (C028:List Int) (C029:Bool) (C030:List Int) (C031:Int) (rIndex2:Int) (rDelete:(List Int)×(List Int)) (fuel:Nat):g_e_tableau_settle_L5_H N C020 C021 C022 C024 C025 C026 C027 C028 C029 C030 C031 rIndex2 rDelete (g_e_tableau_settle_L5 N C020 C021 C022 C024 C025 C026 C027 C028 C029 C030 C031 rIndex2 rDelete fuel):=by
 induction fuel with
 | zero=>intro _ _ r h;rw [g_e_tableau_settle_L5.eq_1] at h;cases h
 | succ fuel ih =>
  intro C032 x2 r h E hE
  rw [g_e_tableau_settle_L5.eq_2] at h
  refine rnR hE 1 [] [] (kp [0,8,126,127,128]) (kq [0,1,2,3,4,5]) 22 pn ?_
  refine rnC 1 128 h (fun hq7 h=>?_) (fun hq7 h=>?_)
  ·refine rnR hE 4 [] [] (kp [0,8,9,126,127]) (kq [0,1,2,3,4,5]) 54 pn ?_
   obtain ⟨c24,h⟩:=ifSome h
   refine rnO 3 ((x2).toNat) 4 ((C032.getD ((x2).toNat) []).length) (fun zi=>TRc ((C032.getD ((x2).toNat) []).getD zi TRat.d)) (pc c24 (pc (show matGet [] (fun zm=>mR 4 TRc TRat.d (C032.getD zm [])) ((x2).toNat)=mR 4 TRc TRat.d (C032.getD ((x2).toNat) []) from rfl) pn)) ?_
   obtain ⟨c25,h⟩:=ifSome h
   obtain ⟨rRat2,hr12,h⟩:=bsm h
   refine rnR hE 0 [(11,⟨[],false,(.os 54 0 ((C032.getD ((x2).toNat) []).length)),[],0,false,none⟩),(15,⟨[54],false,(.os 0 0 rRat2.2.length),[(0,aO 4 TRc TRat.d rRat2.2)],0,false,none⟩)] [] (kp [0,8,126,127]) (kq [0,1,2] ++ [(3,.mat 3 (C032.length) [((x2).toNat,54,rRat2.2.length)] (fun zm=>mR 4 TRc TRat.d (C032.getD zm [])))] ++ kq [4,5,54]) 358 (pc o1 (pc o1 (pc c25 (pc (ltOf c25) (pc (show (matGet [((x2).toNat,54,(C032.getD ((x2).toNat) []).length)] (fun zm=>mR 4 TRc TRat.d (C032.getD zm [])) ((x2).toNat))[0]?=some (.os 54 0 ((C032.getD ((x2).toNat) []).length)) from (gO rfl)) (pc (g_slices_Delete_Rat_ok N rIndex2 (w64 (rIndex2+1)) (C032.getD ((x2).toNat) []) rRat2 hr12) (pc c25 (pc (ltOf c25) (pc (Eq.refl C032.length) (pc (show ∀ zm,zm < C032.length→matGet [((x2).toNat,54,rRat2.2.length)] (fun zm=>mR 4 TRc TRat.d (C032.getD zm [])) zm=if zm=(x2).toNat then [.os 54 0 rRat2.2.length] else matGet [((x2).toNat,54,(C032.getD ((x2).toNat) []).length)] (fun zm=>mR 4 TRc TRat.d (C032.getD zm [])) zm from (mat_put _ _ _ _ _ rfl)) (pc (show ∀ zm,zm < C032.length→isMrL ((fun zm=>mR 4 TRc TRat.d (C032.getD zm [])) zm)=true from (fun _ _=>rfl)) pn))))))))))) ?_
   refine rnL 3 54 ((x2).toNat) (pc c24 (pc (show matGet [((x2).toNat,54,rRat2.2.length)] (fun zm=>mR 4 TRc TRat.d (C032.getD zm [])) ((x2).toNat)=[.os 54 0 rRat2.2.length] from if_pos rfl) (pc (show ∀ zj,zj < rRat2.2.length→noMrL (TRc (rRat2.2.getD zj TRat.d))=true from fun _ _=>rfl) pn))) ?_
   refine rnX hE [] (kp [0,8,126,127]) ([(0,.var 0 [.keep,.keep,.keep,.keep,.osl ((C032.set ((x2).toNat) rRat2.2).length),.keep,.keep,.keep,.keep,.keep,.keep,.keep])] ++ kq [1,2] ++ [(3,.mat 3 ((C032.set ((x2).toNat) rRat2.2).length) [] (fun zm=>mR 4 TRc TRat.d ((C032.set ((x2).toNat) rRat2.2).getD zm [])))] ++ kq [4,5]) 358 (pc (len_set0 C032 ((x2).toNat) rRat2.2) (pc (len_set0 C032 ((x2).toNat) rRat2.2) (pc (mat_cls (sz:=4) (c:=TRc) (d:=TRat.d) C032 ((x2).toNat) 54 rRat2.2.length rRat2.2 [] c24 nemL) (pc (show ∀ zm,zm < (C032.set ((x2).toNat) rRat2.2).length→isMrL ((fun zm=>mR 4 TRc TRat.d ((C032.set ((x2).toNat) rRat2.2).getD zm [])) zm)=true from fun _ _=>rfl) pn)))) ?_
   refine rnR hE 1 [] [] (kp [0,8,126,127]) (kq [0,1,2,3,4,5]) 390 pn ?_
   exact rnW hE 1 [] (kp [0,8,126,127]) (kq [0,1,2,3,4,5]) 6 pn (ih _ _ _ h E hE)
  ·obtain ⟨c26,h⟩:=ifSome h
   refine rnR hE 2 [] [] (kp [0]) ([(0,.var 0 [.keep,.keep,.keep,.keep,.keep,.keep,.osl ((List.replicate rDelete.2.length TRat.d:List TRat).length),.keep,.keep,.keep,.keep,.keep])] ++ kq [1,2,3,4,5] ++ [(118,.arz 118 ((List.replicate rDelete.2.length TRat.d:List TRat).length) (fun zi=>TRc ((List.replicate rDelete.2.length TRat.d:List TRat).getD zi TRat.d)))]) 182 (pc o1 (pc (show 0≤((rDelete.2.length:Nat):Int) from c26.1) (pc (show ((rDelete.2.length:Nat):Int)≤((rDelete.2.length:Nat):Int) from (Int.le_refl _)) (pc (show (64:Int) * ((rDelete.2.length:Nat):Int)≤281474976710656 from c26.2.1) (pc (show ((rDelete.2.length:Nat):Int)≤9223372036854775807 from c26.2.2) (pc o1 (pc (show rDelete.2.length=(List.replicate rDelete.2.length TRat.d:List TRat).length from (List.length_replicate).symm) (pc (show rDelete.2.length=(List.replicate rDelete.2.length TRat.d:List TRat).length from (List.length_replicate).symm) (pc (show ∀ zi,zi < (List.replicate rDelete.2.length TRat.d:List TRat).length→UpL ((fun _=>[(aB false),.nil,(aB false),.nil]) zi) ((fun zi=>TRc ((List.replicate rDelete.2.length TRat.d:List TRat).getD zi TRat.d)) zi) from (fun zq hzq=>get_rep_up TRc TRat.d TRat.d rDelete.2.length zq ⟨.inl rfl,.inr ⟨rfl,_,rfl⟩,.inl rfl,.inr ⟨rfl,_,rfl⟩,trivial⟩ hzq)) pn))))))))) ?_
   refine rnR hE 2 [] [] (kp [0,161,162]) (kq [0,1,2,3,4,5,118]) 278 (pc o1 pn) ?_
   exact rnW hE 2 [] (kp [0,161,162]) (kq [0,1,2,3,4,5] ++ [(6,.keep 118)]) 7 pn (g_e_tableau_settle_L6_ok N _ _ _ _ _ _ _ _ _ _ _ _ N _ _ _ h E hE)
theorem g_e_tableau_settle_J4_ok (N:Nat):g_e_tableau_settle_J4_H N (g_e_tableau_settle_J4 N):=by
 intro C020 C021 C022 C023 C024 C025 C026 C027 C028 C029 C030 C031 r h E hE
 unfold g_e_tableau_settle_J4 at h
 obtain ⟨rIndex2,hr10,h⟩:=bsm h
 refine rnR hE 0 [(8,⟨[],true,(aI rIndex2),[],0,false,none⟩)] [] (kp [0,8]) (kq [0,1,2,3,4,5]) 166 (pc o1 (pc o1 (pc (g_slices_Index_int_int_ok N C023 C031 rIndex2 hr10) (pc (z1 C023.length) pn)))) ?_
 obtain ⟨rDelete,hr11,h⟩:=bsm h
 refine rnR hE 1 [(8,⟨[2],false,(.os 0 0 rDelete.2.length),[(0,aO 1 cI 0 rDelete.2)],0,false,none⟩)] [] (kp [0,8]) (kq [0,1,2,3,4,5]) 358 (pc o1 (pc (g_slices_Delete_int_int_ok N rIndex2 (w64 (rIndex2+1)) C023 rDelete hr11) (pc o1 pn))) ?_
 refine rnR hE 2 [] [] (kp [0,8,126,127]) (kq [0,1,2,3,4,5]) 454 (pc o1 pn) ?_
 exact rnW hE 2 [] (kp [0,8,126,127]) (kq [0,1,2,3,4,5]) 6 pn (g_e_tableau_settle_L5_ok N _ _ _ _ _ _ _ _ _ _ _ _ _ N _ _ _ h E hE)
theorem g_e_tableau_settle_J3_ok (N:Nat):g_e_tableau_settle_J3_H N (g_e_tableau_settle_J3 N):=by
 intro C08 C09 C010 C011 C012 C013 C014 C015 C016 C017 C018 C019 r h E hE
 unfold g_e_tableau_settle_J3 at h
 obtain ⟨rIndex,hr7,h⟩:=bsm h
 refine rnR hE 0 [(8,⟨[],true,(aI rIndex),[],0,false,none⟩)] [] (kp [0,6]) (kq [0,1,2,3,4,5]) 166 (pc o1 (pc o1 (pc (g_slices_Index_int_int_ok N C010 C019 rIndex hr7) (pc (z1 C010.length) pn)))) ?_
 refine rnR hE 1 [] [] (kp [0,6,89]) (kq [0,1,2,3,4,5]) 198 pn ?_
 refine rnC 0 89 h (fun hq6 h=>?_) (fun hq6 h=>?_)
 ·obtain ⟨c16,h⟩:=ifSome h
  refine rnO 3 ((rIndex).toNat) 4 ((C012.getD ((rIndex).toNat) []).length) (fun zi=>TRc ((C012.getD ((rIndex).toNat) []).getD zi TRat.d)) (pc c16 (pc (show matGet [] (fun zm=>mR 4 TRc TRat.d (C012.getD zm [])) ((rIndex).toNat)=mR 4 TRc TRat.d (C012.getD ((rIndex).toNat) []) from rfl) pn)) ?_
  obtain ⟨c17,h⟩:=ifSome h
  obtain ⟨rRat,hr8,h⟩:=bsm h
  refine rnR hE 1 [(6,⟨[],false,(.os 198 0 ((C012.getD ((rIndex).toNat) []).length)),[],0,false,none⟩),(7,⟨[],true,(aI rRat),[],0,false,none⟩)] [] (kp [0,6,7]) (kq [0,1,2] ++ [(3,.mat 3 (C012.length) [((rIndex).toNat,198,(C012.getD ((rIndex).toNat) []).length)] (fun zm=>mR 4 TRc TRat.d (C012.getD zm [])))] ++ kq [4,5,198]) 358 (pc o1 (pc c17 (pc (ltOf c17) (pc (show (matGet [((rIndex).toNat,198,(C012.getD ((rIndex).toNat) []).length)] (fun zm=>mR 4 TRc TRat.d (C012.getD zm [])) ((rIndex).toNat))[0]?=some (.os 198 0 ((C012.getD ((rIndex).toNat) []).length)) from (gO rfl)) (pc (g_slices_IndexFunc_Rat_ok N (C012.getD ((rIndex).toNat) []) rRat hr8) (pc (z1 ((C012.getD ((rIndex).toNat) []).length)) (pc (Eq.refl C012.length) (pc (show ∀ zm,zm < C012.length→matGet [((rIndex).toNat,198,(C012.getD ((rIndex).toNat) []).length)] (fun zm=>mR 4 TRc TRat.d (C012.getD zm [])) zm=matGet [((rIndex).toNat,198,(C012.getD ((rIndex).toNat) []).length)] (fun zm=>mR 4 TRc TRat.d (C012.getD zm [])) zm from (fun _ _=>rfl)) (pc (show ∀ zm,zm < C012.length→isMrL ((fun zm=>mR 4 TRc TRat.d (C012.getD zm [])) zm)=true from (fun _ _=>rfl)) pn))))))))) ?_
  refine rnL 3 198 ((rIndex).toNat) (pc c16 (pc (show matGet [((rIndex).toNat,198,(C012.getD ((rIndex).toNat) []).length)] (fun zm=>mR 4 TRc TRat.d (C012.getD zm [])) ((rIndex).toNat)=[.os 198 0 (C012.getD ((rIndex).toNat) []).length] from if_pos rfl) (pc (show ∀ zj,zj < (C012.getD ((rIndex).toNat) []).length→noMrL (TRc ((C012.getD ((rIndex).toNat) []).getD zj TRat.d))=true from fun _ _=>rfl) pn))) ?_
  refine rnX hE [] (kp [0,6,7]) (kq [0,1,2] ++ [(3,.mat 3 (C012.length) [] (fun zm=>mR 4 TRc TRat.d (C012.getD zm [])))] ++ kq [4,5]) 358 (pc (Eq.refl (C012.length)) (pc (mat_cls0 (sz:=4) (c:=TRc) (d:=TRat.d) C012 ((rIndex).toNat) 198 ((C012.getD ((rIndex).toNat) []).length) [] nemL) (pc (show ∀ zm,zm < C012.length→isMrL ((fun zm=>mR 4 TRc TRat.d (C012.getD zm [])) zm)=true from fun _ _=>rfl) pn))) ?_
  obtain ⟨rpivot2,hr9,h⟩:=bsm h
  obtain ⟨c18,h⟩:=ifSome h
  obtain ⟨c19,h⟩:=ifSome h
  obtain ⟨c20,h⟩:=ifSome h
  obtain ⟨c21,h⟩:=ifSome h
  obtain ⟨c22,h⟩:=ifSome h
  refine rnR hE 0 [(3,⟨[0,1,2,3,4,5],false,(.tup []),[(0,vN 12 [(aI rpivot2.1.f_n),(aI rpivot2.1.f_m),(.os 1 0 rpivot2.2.1.length),(.os 2 0 rpivot2.2.2.1.length),(.os 3 0 rpivot2.2.2.2.1.length),(.os 4 0 rpivot2.2.2.2.2.1.length),(.os 5 0 rpivot2.2.2.2.2.2.length),(aB rpivot2.1.f_value.fN.fG),(eU rpivot2.1.f_value.fN.fL),(aB rpivot2.1.f_value.fD.fG),(eU rpivot2.1.f_value.fD.fL),(aI rpivot2.1.f_helper)]),(1,aO 1 cI 0 rpivot2.2.1),(2,aO 1 cI 0 rpivot2.2.2.1),(3,aM 4 TRc TRat.d rpivot2.2.2.2.1),(4,aO 4 TRc TRat.d rpivot2.2.2.2.2.1),(5,aO 4 TRc TRat.d rpivot2.2.2.2.2.2)],0,false,none⟩)] [] (kp [0]) (kq [0,1,2,3,4,5]) 422 (pc (g_e_tableau_pivot_ok N rIndex rRat C08 C09 C015 C016 C017 C018 C019 C010 C011 C012 C013 C014 rpivot2 hr9) pn) ?_
  exact rnW hE 1 [] (kp [0]) (kq [0,1,2,3,4,5]) 6 pn (g_e_tableau_settle_J4_ok N _ _ _ _ _ _ _ _ _ _ _ _ _ h E hE)
 ·exact rnW hE 2 [] (kp [0]) (kq [0,1,2,3,4,5]) 6 pn (g_e_tableau_settle_J4_ok N _ _ _ _ _ _ _ _ _ _ _ _ _ h E hE)
theorem g_e_tableau_settle_L1_ok (N:Nat) (C0:Int) (C02:Int) (C03:Bool) (C04:List Int) (C05:Bool) (C06:List Int) (C07:Int) (C1:List Int) (C2:List Int) (C3:List (List TRat)) (C4:List TRat) (C5:List TRat) (fuel:Nat):g_e_tableau_settle_L1_H N C0 C02 C03 C04 C05 C06 C07 C1 C2 C3 C4 C5 (g_e_tableau_settle_L1 N C0 C02 C03 C04 C05 C06 C07 C1 C2 C3 C4 C5 fuel):=by
 induction fuel with
 | zero=>intro _ _ r h;rw [g_e_tableau_settle_L1.eq_1] at h;cases h
 | succ fuel ih =>
  intro low x r h E hE
  rw [g_e_tableau_settle_L1.eq_2] at h
  refine rnR hE 1 [] [] (kp [0,3,15,16,17]) (kq [0,1,2,3,4,5]) 22 pn ?_
  refine rnC 1 17 h (fun hq2 h=>?_) (fun hq2 h=>?_)
  ·refine rnR hE 4 [] [] (kp [0,3,4,15,16]) (kq [0,1,2,3,4,5]) 54 pn ?_
   obtain ⟨c,h⟩:=ifSome h
   obtain ⟨rsignOf,hr,h⟩:=bsm h
   obtain ⟨c2,h⟩:=ifSome h
   obtain ⟨c3,h⟩:=ifSome h
   obtain ⟨rCmpRat,hr2,h⟩:=bsm h
   refine rnR hE 1 [(7,⟨[],true,(aI rsignOf),[],0,false,none⟩),(27,⟨[],true,(aI rCmpRat),[],0,false,none⟩)] [] (kp [0,3,4,15,16,49]) (kq [0,1,2,3,4,5]) 550 (pc o1 (pc c (pc (ltOf c) (pc (g_e_signOf_ok N (⟨((C4.getD ((x).toNat) TRat.d).fN),((C4.getD ((x).toNat) TRat.d).fD)⟩:TRat) rsignOf hr) (pc (fun hg:(decide (rsignOf < 0))=true=>(pc hg pn)) (pc (fun hg:((decide (rsignOf < 0)) && ((decide (rsignOf < 0)) && (!(decide (low < 0)))))=true=>(pc hg pn)) (pc (fun hg:((decide (rsignOf < 0)) && ((decide (rsignOf < 0)) && (!(decide (low < 0)))))=true=>(pc hg pn)) (pc (fun hg:((decide (rsignOf < 0)) && ((decide (rsignOf < 0)) && (!(decide (low < 0)))))=true=>(pc hg (pc o1 pn))) (pc (fun hg:((decide (rsignOf < 0)) && ((decide (rsignOf < 0)) && (!(decide (low < 0)))))=true=>(pc hg (pc hg (pc (c2 hg) pn)))) (pc (fun hg:((decide (rsignOf < 0)) && ((decide (rsignOf < 0)) && (!(decide (low < 0)))))=true=>(pc hg (pc (ltOf (c2 hg)) pn))) (pc (fun hg:((decide (rsignOf < 0)) && ((decide (rsignOf < 0)) && (!(decide (low < 0)))))=true=>(pc hg pn)) (pc (fun hg:((decide (rsignOf < 0)) && ((decide (rsignOf < 0)) && (!(decide (low < 0)))))=true=>(pc hg pn)) (pc (fun hg:((decide (rsignOf < 0)) && ((decide (rsignOf < 0)) && (!(decide (low < 0)))))=true=>(pc hg (pc o1 pn))) (pc (fun hg:((decide (rsignOf < 0)) && ((decide (rsignOf < 0)) && (!(decide (low < 0)))))=true=>(pc hg (pc hg (pc (c3 hg) pn)))) (pc (fun hg:((decide (rsignOf < 0)) && ((decide (rsignOf < 0)) && (!(decide (low < 0)))))=true=>(pc hg (pc (ltOf (c3 hg)) pn))) (pc (fun hg:((decide (rsignOf < 0)) && ((decide (rsignOf < 0)) && (!(decide (low < 0)))))=true=>(pc (g_e_CmpRat_ok N (⟨((C4.getD ((x).toNat) TRat.d).fN),((C4.getD ((x).toNat) TRat.d).fD)⟩:TRat) (⟨((C4.getD ((low).toNat) TRat.d).fN),((C4.getD ((low).toNat) TRat.d).fD)⟩:TRat) rCmpRat (condT hr2 hg)) (pc hg (pc hg pn)))) (pc (fun hg:((decide (rsignOf < 0)) && ((decide (rsignOf < 0)) && (!(decide (low < 0)))))=true=>(pc hg pn)) (pc (fun hg:(decide (rsignOf < 0))=true=>(pc hg (pc hg (pc (fun hq:(!(decide (low < 0)))=true=>(pc (show ((decide (rsignOf < 0)) && ((decide (rsignOf < 0)) && (!(decide (low < 0)))))=true from (andI' hg (andI' hg hq))) pn)) pn)))) (pc (fun hq:(decide (rsignOf < 0))=true=>(pc hq pn)) pn))))))))))))))))))) ?_
   refine rnC 0 49 h (fun hq3 h=>?_) (fun hq3 h=>?_)
   ·refine rnR hE 0 [] [] (kp [0,3,15,16]) (kq [0,1,2,3,4,5]) 582 pn ?_
    exact rnW hE 1 [] (kp [0,3,15,16]) (kq [0,1,2,3,4,5]) 6 pn (g_e_tableau_settle_J2_ok N _ _ _ _ _ _ _ _ _ _ _ _ _ _ ih _ _ h E hE)
   ·exact rnW hE 2 [] (kp [0,3,15,16]) (kq [0,1,2,3,4,5]) 6 pn (g_e_tableau_settle_J2_ok N _ _ _ _ _ _ _ _ _ _ _ _ _ _ ih _ _ h E hE)
  ·refine rnR hE 2 [] [] (kp [0,3,5]) (kq [0,1,2,3,4,5]) 134 (pc o1 pn) ?_
   refine rnR hE 2 [] [] (kp [0,3,5,59]) (kq [0,1,2,3,4,5]) 166 pn ?_
   refine rnC 0 59 h (fun hq4 h=>?_) (fun hq4 h=>?_)
   ·obtain ⟨rnumber,hr3,h⟩:=bsm h
    obtain ⟨c4,h⟩:=ifSome h
    refine rnR hE 1 [(5,⟨[],true,(.agg (TRc rnumber)),[],0,false,none⟩)] [] (kp [0,3,5]) ([(0,.var 0 [.keep,.keep,.keep,.keep,.keep,.keep,.osl ((C5.set ((w64 (((C2.length:Nat):Int) - 1)).toNat) rnumber).length),.keep,.keep,.keep,.keep,.keep])] ++ kq [1,2,3,4] ++ [(5,.arr 5 ((C5.set ((w64 (((C2.length:Nat):Int) - 1)).toNat) rnumber).length) (fun zi=>TRc ((C5.set ((w64 (((C2.length:Nat):Int) - 1)).toNat) rnumber).getD zi TRat.d)))]) 294 (pc o1 (pc (g_e_number_ok N (-1) rnumber hr3) (pc c4 (pc (ltOf c4) (pc (len_set0 C5 ((w64 (((C2.length:Nat):Int) - 1)).toNat) rnumber) (pc (len_set0 C5 ((w64 (((C2.length:Nat):Int) - 1)).toNat) rnumber) (pc (get_set0 TRc TRat.d C5 ((w64 (((C2.length:Nat):Int) - 1)).toNat) rnumber) pn))))))) ?_
    obtain ⟨rpivot,hr4,h⟩:=bsm h
    obtain ⟨c5,h⟩:=ifSome h
    obtain ⟨c6,h⟩:=ifSome h
    obtain ⟨c7,h⟩:=ifSome h
    obtain ⟨c8,h⟩:=ifSome h
    obtain ⟨c9,h⟩:=ifSome h
    refine rnR hE 1 [(3,⟨[0,1,2,3,4,5],false,(.tup []),[(0,vN 12 [(aI rpivot.1.f_n),(aI rpivot.1.f_m),(.os 1 0 rpivot.2.1.length),(.os 2 0 rpivot.2.2.1.length),(.os 3 0 rpivot.2.2.2.1.length),(.os 4 0 rpivot.2.2.2.2.1.length),(.os 5 0 rpivot.2.2.2.2.2.length),(aB rpivot.1.f_value.fN.fG),(eU rpivot.1.f_value.fN.fL),(aB rpivot.1.f_value.fD.fG),(eU rpivot.1.f_value.fD.fL),(aI rpivot.1.f_helper)]),(1,aO 1 cI 0 rpivot.2.1),(2,aO 1 cI 0 rpivot.2.2.1),(3,aM 4 TRc TRat.d rpivot.2.2.2.1),(4,aO 4 TRc TRat.d rpivot.2.2.2.2.1),(5,aO 4 TRc TRat.d rpivot.2.2.2.2.2)],0,false,none⟩)] [] (kp [0]) (kq [0,1,2,3,4,5]) 358 (pc (g_e_tableau_pivot_ok N low (w64 (((C2.length:Nat):Int) - 1)) C0 C02 C03 C04 C05 C06 C07 C1 C2 C3 C4 (C5.set ((w64 (((C2.length:Nat):Int) - 1)).toNat) rnumber) rpivot hr4) pn) ?_
    obtain ⟨rclimb,hr5,h⟩:=bsm h
    obtain ⟨c10,h⟩:=ifSome h
    obtain ⟨c11,h⟩:=ifSome h
    obtain ⟨c12,h⟩:=ifSome h
    obtain ⟨c13,h⟩:=ifSome h
    obtain ⟨c14,h⟩:=ifSome h
    refine rnR hE 1 [(1,⟨[0,1,2,3,4,5],false,(aI rclimb.1),[(0,vN 12 [(aI rclimb.2.1.f_n),(aI rclimb.2.1.f_m),(.os 1 0 rclimb.2.2.1.length),(.os 2 0 rclimb.2.2.2.1.length),(.os 3 0 rclimb.2.2.2.2.1.length),(.os 4 0 rclimb.2.2.2.2.2.1.length),(.os 5 0 rclimb.2.2.2.2.2.2.length),(aB rclimb.2.1.f_value.fN.fG),(eU rclimb.2.1.f_value.fN.fL),(aB rclimb.2.1.f_value.fD.fG),(eU rclimb.2.1.f_value.fD.fL),(aI rclimb.2.1.f_helper)]),(1,aO 1 cI 0 rclimb.2.2.1),(2,aO 1 cI 0 rclimb.2.2.2.1),(3,aM 4 TRc TRat.d rclimb.2.2.2.2.1),(4,aO 4 TRc TRat.d rclimb.2.2.2.2.2.1),(5,aO 4 TRc TRat.d rclimb.2.2.2.2.2.2)],0,false,none⟩)] [] (kp [0]) (kq [0,1,2,3,4,5]) 390 (pc (g_e_tableau_climb_ok N rpivot.1.f_n rpivot.1.f_m rpivot.1.f_value.fN.fG rpivot.1.f_value.fN.fL rpivot.1.f_value.fD.fG rpivot.1.f_value.fD.fL rpivot.1.f_helper rpivot.2.1 rpivot.2.2.1 rpivot.2.2.2.1 rpivot.2.2.2.2.1 rpivot.2.2.2.2.2 rclimb hr5) pn) ?_
    obtain ⟨risZero,hr6,h⟩:=bsm h
    refine rnR hE 1 [(4,⟨[],true,(aB risZero),[],0,false,none⟩)] [] (kp [0,78]) (kq [0,1,2,3,4,5]) 486 (pc o1 (pc (g_e_isZero_ok N rclimb.2.1.f_value risZero hr6) pn)) ?_
    refine rnC 0 78 h (fun hq5 h=>?_) (fun hq5 h=>?_)
    ·refine rnR hE 1 [] [] (kp [2]) (kq [0,1,2,3,4,5]) 502 pn ?_
     obtain rfl:=osI h
     exact rnT hE 0 Tryz.f45 [] (kp [2]) (kq [0,1,2,3,4] ++ [(6,.keep 5)]) 502 pn [] pn
    ·exact rnW hE 3 [] (kp [0]) (kq [0,1,2,3,4,5]) 6 pn (g_e_tableau_settle_J3_ok N _ _ _ _ _ _ _ _ _ _ _ _ _ h E hE)
   ·exact rnW hE 3 [] (kp [0]) (kq [0,1,2,3,4,5]) 6 pn (g_e_tableau_settle_J3_ok N _ _ _ _ _ _ _ _ _ _ _ _ _ h E hE)
theorem g_e_tableau_settle_ok (N:Nat) (C0:Int) (C02:Int) (C03:Bool) (C04:List Int) (C05:Bool) (C06:List Int) (C07:Int) (C1:List Int) (C2:List Int) (C3:List (List TRat)) (C4:List TRat) (C5:List TRat) (r:Bool×Ttb×(List Int)×(List Int)×(List (List TRat))×(List TRat)) (h:g_e_tableau_settle N C0 C02 C03 C04 C05 C06 C07 C1 C2 C3 C4 C5=some r):Sd 45 [(.op 0 0 0)] [(0,vN 12 [(aI C0),(aI C02),(.os 1 0 C1.length),(.os 2 0 C2.length),(.os 3 0 C3.length),(.os 4 0 C4.length),(.os 5 0 C5.length),(aB C03),(eU C04),(aB C05),(eU C06),(aI C07)]),(1,aO 1 cI 0 C1),(2,aO 1 cI 0 C2),(3,aM 4 TRc TRat.d C3),(4,aO 4 TRc TRat.d C4),(5,aO 4 TRc TRat.d C5)] 6 (aB r.1) [(0,vN 12 [(aI r.2.1.f_n),(aI r.2.1.f_m),(.os 1 0 r.2.2.1.length),(.os 2 0 r.2.2.2.1.length),(.os 3 0 r.2.2.2.2.1.length),(.os 4 0 r.2.2.2.2.2.length),(.os 6 0 r.2.1.f_goal.length),(aB r.2.1.f_value.fN.fG),(eU r.2.1.f_value.fN.fL),(aB r.2.1.f_value.fD.fG),(eU r.2.1.f_value.fD.fL),(aI r.2.1.f_helper)]),(1,aO 1 cI 0 r.2.2.1),(2,aO 1 cI 0 r.2.2.2.1),(3,aM 4 TRc TRat.d r.2.2.2.2.1),(4,aO 4 TRc TRat.d r.2.2.2.2.2),(6,aO 4 TRc TRat.d r.2.1.f_goal)]:=by
 unfold g_e_tableau_settle at h
 refine sor (fu:=Tryz.f45) (c:=C_56 1) (nt:=177) (by kernel_rfl) (by kernel_rfl) (by kernel_rfl) (by kernel_rfl) (fun hm=>absurd hm (by decide)) ?_
 intro E hE
 refine rnR hE 1 [] [] (kp [0]) (kq [0,1,2,3,4,5]) 22 pn ?_
 refine rnR hE 1 [] [] (kp [0,3]) (kq [0,1,2,3,4,5]) 38 pn ?_
 refine rnR hE 2 [] [] (kp [0,3,15,16]) (kq [0,1,2,3,4,5]) 134 (pc o1 pn) ?_
 exact rnW hE 2 [] (kp [0,3,15,16]) (kq [0,1,2,3,4,5]) 6 pn (g_e_tableau_settle_L1_ok N _ _ _ _ _ _ _ _ _ _ _ _ N _ _ _ h E hE)
noncomputable def C_54 (n:Nat):Code:=cat (bodyOf Tryz.f22) (pth n)
theorem g_e_contradictory_ok (N:Nat) (n:Int) (l:List TRow) (r:Bool) (h:g_e_contradictory N n l=some r):Sd 22 [(aI n),(encL TWc TRow.d l)] [] 0 (aB r) []:=by
 unfold g_e_contradictory at h
 refine sor (fu:=Tryz.f22) (c:=C_54 1) (nt:=10) (by kernel_rfl) (by kernel_rfl) (by kernel_rfl) (by kernel_rfl) (fun hm=>rfl) ?_
 intro E hE
 refine rnR hE 1 [] [] (kp [0,1]) [] 16 pn ?_
 obtain ⟨rbegin,hr,h⟩:=bsm h
 obtain ⟨rsettle,hr2,h⟩:=bsm h
 obtain ⟨c,h⟩:=ifSome h
 obtain ⟨c2,h⟩:=ifSome h
 obtain ⟨c3,h⟩:=ifSome h
 refine rnR hE 1 [(2,⟨[],false,(.op 0 0 0),[(0,vN 12 [(aI rbegin.f_n),(aI rbegin.f_m),(.os 1 0 rbegin.f_basic.length),(.os 2 0 rbegin.f_free.length),(.os 3 0 rbegin.f_a.length),(.os 4 0 rbegin.f_b.length),(.os 5 0 rbegin.f_goal.length),(aB rbegin.f_value.fN.fG),(eU rbegin.f_value.fN.fL),(aB rbegin.f_value.fD.fG),(eU rbegin.f_value.fD.fL),(aI rbegin.f_helper)]),(1,aO 1 cI 0 rbegin.f_basic),(2,aO 1 cI 0 rbegin.f_free),(3,aM 4 TRc TRat.d rbegin.f_a),(4,aO 4 TRc TRat.d rbegin.f_b),(5,aO 4 TRc TRat.d rbegin.f_goal)],0,false,none⟩),(3,⟨[48,49,50,51,52,53],false,(aB rsettle.1),[(0,vN 12 [(aI rsettle.2.1.f_n),(aI rsettle.2.1.f_m),(.os 1 0 rsettle.2.2.1.length),(.os 2 0 rsettle.2.2.2.1.length),(.os 3 0 rsettle.2.2.2.2.1.length),(.os 4 0 rsettle.2.2.2.2.2.length),(.os 6 0 rsettle.2.1.f_goal.length),(aB rsettle.2.1.f_value.fN.fG),(eU rsettle.2.1.f_value.fN.fL),(aB rsettle.2.1.f_value.fD.fG),(eU rsettle.2.1.f_value.fD.fL),(aI rsettle.2.1.f_helper)]),(1,aO 1 cI 0 rsettle.2.2.1),(2,aO 1 cI 0 rsettle.2.2.2.1),(3,aM 4 TRc TRat.d rsettle.2.2.2.2.1),(4,aO 4 TRc TRat.d rsettle.2.2.2.2.2),(6,aO 4 TRc TRat.d rsettle.2.1.f_goal)],0,false,none⟩)] [] (kp [4]) [] 112 (pc (g_e_begin_ok N n l rbegin hr) (pc (g_e_tableau_settle_ok N rbegin.f_n rbegin.f_m rbegin.f_value.fN.fG rbegin.f_value.fN.fL rbegin.f_value.fD.fG rbegin.f_value.fD.fL rbegin.f_helper rbegin.f_basic rbegin.f_free rbegin.f_a rbegin.f_b rbegin.f_goal rsettle hr2) pn)) ?_
 obtain rfl:=osI h
 exact rnT hE 0 Tryz.f22 [] (kp [4]) [] 112 pn [] pn
noncomputable def C_70 (n:Nat):Code:=cat (bodyOf Tryz.f24) (pth n)
theorem g_slices_Clone_int_int_ok (N:Nat) (s:List Int) (r:(List Int)) (h:g_slices_Clone_int_int N s=some r):Sd 24 [(encL cI 0 s)] [] 0 (.os 0 0 r.length) [(0,aO 1 cI 0 r)]:=by
 unfold g_slices_Clone_int_int at h
 refine sor (fu:=Tryz.f24) (c:=C_70 1) (nt:=8) (by kernel_rfl) (by kernel_rfl) (by kernel_rfl) (by kernel_rfl) (fun hm=>rfl) ?_
 intro E hE
 refine rnR hE 1 [] [] (kp [0]) [] 16 pn ?_
 refine rnR hE 2 [] [] (kp [0,4]) [] 48 pn ?_
 refine sA 0 [.code (C_70 13),.code (C_70 7)] ?_
 refine Runs.condBn (o:=.tmp 4) (x:=C_70 26) (y:=C_70 27) (n:=s.length) (by kernel_rfl) (by kernel_rfl) (fun hq2=>?_) ?_
 ·replace hq2:=List.length_eq_zero_iff.1 hq2
  replace h:(some ([]:List Int))=some r:=by rw [hq2] at h;simpa using h
  refine rnR hE 1 [] [] (kp [2]) [] 64 pn ?_
  obtain rfl:=osI h
  exact rnT hE 0 Tryz.f24 [] [(2,.nilos 0)] [(0,.nil 1 (fun zi=>cI (([]:List Int).getD zi 0)))] 64 pn [] pn
 ·obtain ⟨c,h⟩:=ifSome h
  refine rnR hE 2 [] [] [(2,.osl ((([]:List Int) ++ s).length))] [(80,.arr 80 ((([]:List Int) ++ s).length) (fun zi=>cI ((([]:List Int) ++ s).getD zi 0)))] 112 (pc (Eq.refl 0) (pc c (pc (show ∀ zi,zi < s.length→AV.oneL ((fun zi=>cI (s.getD zi 0)) zi)=true from (fun _ _=>rfl)) (pc (show (0+s.length)=(([]:List Int) ++ s).length from (len_app_raw rfl rfl)) (pc (show 0+s.length=(([]:List Int) ++ s).length from (len_app_raw rfl rfl)) (pc (show ∀ zi,zi < (([]:List Int) ++ s).length→(fun zi=>cI ((([]:List Int) ++ s).getD zi 0)) zi=((fun zm=>if zm < 0 then (fun _=>[]) zm else (fun zi=>cI (s.getD zi 0)) (zm - 0))) zi from (get_app_raw cI 0 ([]:List Int) s rfl (fun zq hzq=>absurd hzq (Nat.not_lt_zero _)) (fun _ _=>rfl))) pn)))))) ?_
  obtain rfl:=osI h
  exact rnT hE 0 Tryz.f24 [] (kp [2]) [(0,.keep 80)] 112 pn [] pn
noncomputable def C_73 (n:Nat):Code:=cat (bodyOf Tryz.f25) (pth n)
theorem g_e_Core_1_ok (N:Nat) (k:Int) (C0:Int) (r:Bool) (h:g_e_Core_1 N k C0=some r):Sd 25 [(aI k),(.op 0 0 0)] [(0,vO 1 [(aI C0)])] 1 (aB r) [(0,vO 1 [(aI C0)])]:=by
 unfold g_e_Core_1 at h
 refine sor (fu:=Tryz.f25) (c:=C_73 1) (nt:=7) (by kernel_rfl) (by kernel_rfl) (by kernel_rfl) (by kernel_rfl) (fun hm=>absurd hm (by decide)) ?_
 intro E hE
 refine rnR hE 1 [] [] (kp [0,1]) (kq [0]) 17 pn ?_
 refine rnR hE 1 [] [] (kp [3]) (kq [0]) 81 (pc o1 pn) ?_
 obtain rfl:=osI h
 exact rnT hE 0 Tryz.f25 [] (kp [3]) (kq [0]) 81 pn [] pn
noncomputable def C_72 (n:Nat):Code:=cat (bodyOf Tryz.f46) (pth n)
def g_slices_IndexFunc_int_int_L1_H (N:Nat) (s:List Int) (C0:Int) (K:Int→Option (Int)):Prop:=∀ (x:Int) (r:Int),K x=some r→∀ E,EnvOk E 1→Runs Tryz.prog E 46 19 (SPost E [(0,vO 1 [(aI C0)])] (aI r)) [.code (C_72 52),.inLoop (C_72 52),.inBlock 0,.code (C_72 7)] ⟨[(0,(encL cI 0 s)),(1,(.fn (.func 25) [] [(.op 0 0 0)])),(7,(aI ((s.length:Nat):Int))),(8,(aI x))],[(0,vO 1 [(aI C0)])],1⟩
theorem g_slices_IndexFunc_int_int_L1_ok (N:Nat) (s:List Int) (C0:Int) (fuel:Nat):g_slices_IndexFunc_int_int_L1_H N s C0 (g_slices_IndexFunc_int_int_L1 N s C0 fuel):=by
 induction fuel with
 | zero=>intro _ r h;rw [g_slices_IndexFunc_int_int_L1.eq_1] at h;cases h
 | succ fuel ih =>
  intro x r h E hE
  rw [g_slices_IndexFunc_int_int_L1.eq_2] at h
  refine rnR hE 1 [] [] (kp [0,1,7,8,9]) (kq [0]) 17 pn ?_
  refine rnC 1 9 h (fun hq2 h=>?_) (fun hq2 h=>?_)
  ·refine rnR hE 4 [] [] (kp [0,1,5,7,8]) (kq [0]) 49 pn ?_
   obtain ⟨c,h⟩:=ifSome h
   obtain ⟨rCore1,hr,h⟩:=bsm h
   refine rnR hE 1 [(5,⟨[0],true,(aB rCore1),[],0,false,none⟩)] [] (kp [0,1,5,7,8,16]) (kq [0]) 145 (pc c (pc (g_e_Core_1_ok N (s.getD ((x).toNat) 0) C0 rCore1 hr) pn)) ?_
   refine rnC 0 16 h (fun hq3 h=>?_) (fun hq3 h=>?_)
   ·refine rnR hE 1 [] [] (kp [4]) (kq [0]) 177 pn ?_
    obtain rfl:=osI h
    exact rnT hE 0 Tryz.f46 [] (kp [4]) (kq [0]) 177 pn [] pn
   ·refine rnR hE 2 [] [] (kp [0,1,7,8]) (kq [0]) 177 pn ?_
    exact rnW hE 1 [] (kp [0,1,7,8]) (kq [0]) 1 pn (ih _ _ h E hE)
  ·refine rnR hE 2 [] [] (kp [4]) (kq [0]) 33 pn ?_
   obtain rfl:=osI h
   exact rnT hE 0 Tryz.f46 [] (kp [4]) (kq [0]) 49 pn [] pn
theorem g_slices_IndexFunc_int_int_ok (N:Nat) (s:List Int) (C0:Int) (r:Int) (h:g_slices_IndexFunc_int_int N s C0=some r):Sd 46 [(encL cI 0 s),(.fn (.func 25) [] [(.op 0 0 0)])] [(0,vO 1 [(aI C0)])] 1 (aI r) [(0,vO 1 [(aI C0)])]:=by
 unfold g_slices_IndexFunc_int_int at h
 refine sor (fu:=Tryz.f46) (c:=C_72 1) (nt:=19) (by kernel_rfl) (by kernel_rfl) (by kernel_rfl) (by kernel_rfl) (fun hm=>absurd hm (by decide)) ?_
 intro E hE
 refine rnR hE 1 [] [] (kp [0,1]) (kq [0]) 17 pn ?_
 refine rnR hE 2 [] [] (kp [0,1,7,8]) (kq [0]) 65 pn ?_
 exact rnW hE 2 [] (kp [0,1,7,8]) (kq [0]) 1 pn (g_slices_IndexFunc_int_int_L1_ok N _ _ N _ _ h E hE)
noncomputable def C_71 (n:Nat):Code:=cat (bodyOf Tryz.f23) (pth n)
def g_slices_DeleteFunc_int_int_L1_H (N:Nat) (C1:Int) (K:(List Int)→Int→Int→Option ((List Int)×(List Int))):Prop:=∀ (C02:List Int) (i:Int) (j:Int) (r:(List Int)×(List Int)),K C02 i j=some r→∀ E,EnvOk E 2→Runs Tryz.prog E 23 42 (SPost E [(0,aO 1 cI 0 r.2),(1,vO 1 [(aI C1)])] (.os 0 0 r.2.length)) [.code (C_71 244),.inLoop (C_71 244),.inBlock 0,.code (C_71 31)] ⟨[(0,(.os 0 0 C02.length)),(1,(.fn (.func 25) [] [(.op 1 0 0)])),(5,(aI i)),(6,(aI j))],[(0,aO 1 cI 0 C02),(1,vO 1 [(aI C1)])],2⟩
def g_slices_DeleteFunc_int_int_J2_H (N:Nat) (C1:Int) (j:Int) (K:(List Int)→Int→Option ((List Int)×(List Int))):Prop:=∀ (C03:List Int) (i2:Int) (r:(List Int)×(List Int)),K C03 i2=some r→∀ E,EnvOk E 2→Runs Tryz.prog E 23 42 (SPost E [(0,aO 1 cI 0 r.2),(1,vO 1 [(aI C1)])] (.os 0 0 r.2.length)) [.code (C_71 979),.inLoop (C_71 244),.inBlock 0,.code (C_71 31)] ⟨[(0,(.os 0 0 C03.length)),(1,(.fn (.func 25) [] [(.op 1 0 0)])),(5,(aI i2)),(6,(aI j))],[(0,aO 1 cI 0 C03),(1,vO 1 [(aI C1)])],2⟩
theorem g_slices_DeleteFunc_int_int_J2_ok (N:Nat) (C1:Int) (j:Int) (K_g_slices_DeleteFunc_int_int_L1:(List Int)→Int→Int→Option ((List Int)×(List Int))) (hK_g_slices_DeleteFunc_int_int_L1:g_slices_DeleteFunc_int_int_L1_H N C1 K_g_slices_DeleteFunc_int_int_L1):g_slices_DeleteFunc_int_int_J2_H N C1 j (g_slices_DeleteFunc_int_int_J2 N C1 j K_g_slices_DeleteFunc_int_int_L1):=by
 intro C03 i2 r h E hE
 unfold g_slices_DeleteFunc_int_int_J2 at h
 refine rnR hE 0 [] [] (kp [0,1,5,6]) (kq [0,1]) 50 pn ?_
 exact rnW hE 1 [] (kp [0,1,5,6]) (kq [0,1]) 2 pn (hK_g_slices_DeleteFunc_int_int_L1 _ _ _ _ h E hE)
theorem g_slices_DeleteFunc_int_int_L1_ok (N:Nat) (C1:Int) (fuel:Nat):g_slices_DeleteFunc_int_int_L1_H N C1 (g_slices_DeleteFunc_int_int_L1 N C1 fuel):=by
 induction fuel with
 | zero=>intro _ _ _ r h;rw [g_slices_DeleteFunc_int_int_L1.eq_1] at h;cases h
 | succ fuel ih =>
  intro C02 i j r h E hE
  rw [g_slices_DeleteFunc_int_int_L1.eq_2] at h
  refine rnR hE 2 [] [] (kp [0,1,5,6,19]) (kq [0,1]) 66 pn ?_
  refine rnC 0 19 h (fun hq3 h=>?_) (fun hq3 h=>?_)
  ·obtain ⟨c,h⟩:=ifSome h
   refine rnR hE 4 [] [] (kp [0,1,5,6,7]) (kq [0,1]) 146 (pc c (pc (ltOf c) pn)) ?_
   obtain ⟨rCore1,hr2,h⟩:=bsm h
   refine rnR hE 1 [(2,⟨[1],true,(aB rCore1),[],0,false,none⟩)] [] (kp [0,1,5,6,7,29]) (kq [0,1]) 210 (pc (g_e_Core_1_ok N (C02.getD ((j).toNat) 0) C1 rCore1 hr2) pn) ?_
   refine rnC 0 29 h (fun hq4 h=>?_) (fun hq4 h=>?_)
   ·obtain ⟨c2,h⟩:=ifSome h
    refine rnR hE 1 [] [] ([(0,.osl ((C02.set ((i).toNat) (C02.getD ((j).toNat) 0)).length))] ++ kp [1,5,6]) ([(0,.arr 0 ((C02.set ((i).toNat) (C02.getD ((j).toNat) 0)).length) (fun zi=>cI ((C02.set ((i).toNat) (C02.getD ((j).toNat) 0)).getD zi 0)))] ++ kq [1]) 290 (pc c2 (pc (ltOf c2) (pc (len_set0 C02 ((i).toNat) (C02.getD ((j).toNat) 0)) (pc (len_set0 C02 ((i).toNat) (C02.getD ((j).toNat) 0)) (pc (get_set0 cI 0 C02 ((i).toNat) (C02.getD ((j).toNat) 0)) pn))))) ?_
    refine rnR hE 0 [] [] (kp [0,1,5,6]) (kq [0,1]) 338 pn ?_
    exact rnW hE 1 [] (kp [0,1,5,6]) (kq [0,1]) 2 pn (g_slices_DeleteFunc_int_int_J2_ok N _ _ _ ih _ _ _ h E hE)
   ·exact rnW hE 2 [] (kp [0,1,5,6]) (kq [0,1]) 2 pn (g_slices_DeleteFunc_int_int_J2_ok N _ _ _ ih _ _ _ h E hE)
  ·obtain ⟨c3,h⟩:=ifSome h
   obtain ⟨c4,h⟩:=ifSome h
   obtain ⟨c5,h⟩:=ifSome h
   refine rnR hE 2 [(3,⟨[],false,.unk,[],0,false,none⟩)] [] (kp [0,5]) ([(0,.arr 0 ((C02.take ((i).toNat)).length) (fun zi=>cI ((C02.take ((i).toNat)).getD zi 0)))] ++ kq [1]) 130 (pc c3 (pc c4 (pc c5 (pc (show (i).toNat=(C02.take ((i).toNat)).length from (len_tk c5)) (pc (show ∀ zi,zi < (C02.take ((i).toNat)).length→(fun zi=>cI ((C02.take ((i).toNat)).getD zi 0)) zi=(fun zi=>cI (C02.getD zi 0)) zi from (fun zq hzq=>get_tk cI 0 C02 ((i).toNat) zq hzq)) pn))))) ?_
   obtain ⟨c6,h⟩:=ifSome h
   refine rnR hE 1 [] [] [(4,.osl ((C02.take ((i).toNat)).length))] (kq [0,1]) 194 (pc c6 (pc c4 (pc (show ((i).toNat - 0)=(C02.take ((i).toNat)).length from (len_tk c5)) pn))) ?_
   obtain rfl:=osI h
   exact rnT hE 0 Tryz.f23 [] (kp [4]) (kq [0,1]) 194 pn [] pn
theorem g_slices_DeleteFunc_int_int_ok (N:Nat) (C0:List Int) (C1:Int) (r:(List Int)×(List Int)) (h:g_slices_DeleteFunc_int_int N C0 C1=some r):Sd 23 [(.os 0 0 C0.length),(.fn (.func 25) [] [(.op 1 0 0)])] [(0,aO 1 cI 0 C0),(1,vO 1 [(aI C1)])] 2 (.os 0 0 r.2.length) [(0,aO 1 cI 0 r.2),(1,vO 1 [(aI C1)])]:=by
 unfold g_slices_DeleteFunc_int_int at h
 refine sor (fu:=Tryz.f23) (c:=C_71 1) (nt:=42) (by kernel_rfl) (by kernel_rfl) (by kernel_rfl) (by kernel_rfl) (fun hm=>absurd hm (by decide)) ?_
 intro E hE
 refine rnR hE 1 [] [] (kp [0,1]) (kq [0,1]) 18 pn ?_
 obtain ⟨rIndexFunc,hr,h⟩:=bsm h
 refine rnR hE 1 [(2,⟨[1],true,(aI rIndexFunc),[],0,false,none⟩)] [] (kp [0,1,5]) (kq [0,1]) 82 (pc (g_slices_IndexFunc_int_int_ok N C0 C1 rIndexFunc hr) (pc (z1 C0.length) pn)) ?_
 refine rnR hE 2 [] [] (kp [0,1,5,12]) (kq [0,1]) 114 pn ?_
 refine rnC 0 12 h (fun hq2 h=>?_) (fun hq2 h=>?_)
 ·refine rnR hE 1 [] [] (kp [4]) (kq [0,1]) 146 pn ?_
  obtain rfl:=osI h
  exact rnT hE 0 Tryz.f23 [] (kp [4]) (kq [0,1]) 146 pn [] pn
 ·refine rnR hE 3 [] [] (kp [0,1,5,6]) (kq [0,1]) 162 pn ?_
  exact rnW hE 2 [] (kp [0,1,5,6]) (kq [0,1]) 2 pn (g_slices_DeleteFunc_int_int_L1_ok N _ N _ _ _ _ h E hE)
noncomputable def C_49 (n:Nat):Code:=cat (bodyOf Tryz.f7) (pth n)
def g_e_Core_L1_H (N:Nat) (n:Int) (l:List TRow) (K:(List Int)→Int→Option ((List Int)×Int)):Prop:=∀ (kept:List Int) (x:Int) (r:(List Int)×Int),K kept x=some r→∀ E,EnvOk E 0→Runs Tryz.prog E 7 63 (SPost E [] (.tup [(encL cI 0 r.1),(aI r.2)])) [.code (C_49 500),.inLoop (C_49 500),.inBlock 0,.code (C_49 63)] ⟨[(0,(aI n)),(1,(encL TWc TRow.d l)),(7,(.os 0 0 kept.length)),(25,(aI ((l.length:Nat):Int))),(26,(aI x))],[(0,aO 1 cI 0 kept)],1⟩
def g_e_Core_L2_H (N:Nat) (n:Int) (l:List TRow) (K:(List Int)→Int→Option ((List Int)×Int)):Prop:=∀ (kept2:List Int) (x2:Int) (r:(List Int)×Int),K kept2 x2=some r→∀ E,EnvOk E 0→Runs Tryz.prog E 7 63 (SPost E [] (.tup [(encL cI 0 r.1),(aI r.2)])) [.code (C_49 1012),.inLoop (C_49 1012),.inBlock 2,.code (C_49 127)] ⟨[(0,(aI n)),(1,(encL TWc TRow.d l)),(7,(.os 0 0 kept2.length)),(35,(aI ((l.length:Nat):Int))),(36,(aI x2))],[(0,aO 1 cI 0 kept2)],1⟩
def g_e_Core_L3_H (N:Nat) (n:Int) (l:List TRow) (kept2:List Int) (x2:Int) (rDeleteFunc:(List Int)×(List Int)) (K:(List TRow)→Int→Option ((List Int)×Int)):Prop:=∀ (vsome:List TRow) (x3:Int) (r:(List Int)×Int),K vsome x3=some r→∀ E,EnvOk E 0→Runs Tryz.prog E 7 63 (SPost E [] (.tup [(encL cI 0 r.1),(aI r.2)])) [.code (C_49 2074228),.inLoop (C_49 2074228),.inBlock 4,.code (C_49 259279),.inBlock 3,.code (C_49 8103),.inLoop (C_49 1012),.inBlock 2,.code (C_49 127)] ⟨[(0,(aI n)),(1,(encL TWc TRow.d l)),(7,(.os 0 0 kept2.length)),(10,(.os 1 0 rDeleteFunc.2.length)),(11,(.os 2 0 vsome.length)),(35,(aI ((l.length:Nat):Int))),(36,(aI x2)),(43,(.os 1 0 rDeleteFunc.2.length)),(44,(aI ((rDeleteFunc.2.length:Nat):Int))),(45,(aI x3))],[(0,aO 1 cI 0 kept2),(1,aO 1 cI 0 rDeleteFunc.2),(2,aO 5 TWc TRow.d vsome)],3⟩
def g_e_Core_J4_H (N:Nat) (n:Int) (l:List TRow) (x2:Int) (K:(List Int)→Option ((List Int)×Int)):Prop:=∀ (kept3:List Int) (r:(List Int)×Int),K kept3=some r→∀ E,EnvOk E 0→Runs Tryz.prog E 7 63 (SPost E [] (.tup [(encL cI 0 r.1),(aI r.2)])) [.code (C_49 8103),.inLoop (C_49 1012),.inBlock 2,.code (C_49 127)] ⟨[(0,(aI n)),(1,(encL TWc TRow.d l)),(7,(.os 0 0 kept3.length)),(35,(aI ((l.length:Nat):Int))),(36,(aI x2))],[(0,aO 1 cI 0 kept3)],1⟩
theorem g_e_Core_J4_ok (N:Nat) (n:Int) (l:List TRow) (x2:Int) (K_g_e_Core_L2:(List Int)→Int→Option ((List Int)×Int)) (hK_g_e_Core_L2:g_e_Core_L2_H N n l K_g_e_Core_L2):g_e_Core_J4_H N n l x2 (g_e_Core_J4 N n l x2 K_g_e_Core_L2):=by
 intro kept3 r h E hE
 unfold g_e_Core_J4 at h
 refine rnR hE 0 [] [] (kp [0,1,7,35,36]) (kq [0]) 33 pn ?_
 exact rnW hE 1 [] (kp [0,1,7,35,36]) (kq [0]) 1 pn (hK_g_e_Core_L2 _ _ _ h E hE)
theorem g_e_Core_L3_ok (N:Nat) (n:Int) (l:List TRow) (kept2:List Int) (x2:Int) (rDeleteFunc:(List Int)×(List Int)) (K_g_e_Core_L2:(List Int)→Int→Option ((List Int)×Int)) (hK_g_e_Core_L2:g_e_Core_L2_H N n l K_g_e_Core_L2) (fuel:Nat):g_e_Core_L3_H N n l kept2 x2 rDeleteFunc (g_e_Core_L3 N n l kept2 x2 rDeleteFunc K_g_e_Core_L2 fuel):=by
 induction fuel with
 | zero=>intro _ _ r h;rw [g_e_Core_L3.eq_1] at h;cases h
 | succ fuel ih =>
  intro vsome x3 r h E hE
  rw [g_e_Core_L3.eq_2] at h
  refine rnR hE 1 [] [] (kp [0,1,7,10,11,35,36,43,44,45,46]) (kq [0,1,2]) 19 pn ?_
  refine rnC 1 46 h (fun hq6 h=>?_) (fun hq6 h=>?_)
  ·obtain ⟨c2,h⟩:=ifSome h
   refine rnR hE 4 [] [] (kp [0,1,7,10,11,13,35,36,43,44,45]) (kq [0,1,2]) 67 (pc c2 (pc (ltOf c2) pn)) ?_
   obtain ⟨c3,h⟩:=ifSome h
   obtain ⟨c4,h⟩:=ifSome h
   refine rnR hE 0 [] [] (kp [0,1,7,10] ++ [(11,.osl ((vsome ++ ([(l.getD ((rDeleteFunc.2.getD ((x3).toNat) 0).toNat) TRow.d)]:List TRow)).length))] ++ kp [35,36,43,44,45]) (kq [0,1] ++ [(163,.arr 163 ((vsome ++ ([(l.getD ((rDeleteFunc.2.getD ((x3).toNat) 0).toNat) TRow.d)]:List TRow)).length) (fun zi=>TWc ((vsome ++ ([(l.getD ((rDeleteFunc.2.getD ((x3).toNat) 0).toNat) TRow.d)]:List TRow)).getD zi TRow.d)))]) 195 (pc c3 (pc (Eq.refl vsome.length) (pc c4 (pc (z1 1) (pc (show ∀ zi,zi < 1→AV.oneL ((fun zi=>([[(encL TRc TRat.d ((l.getD ((rDeleteFunc.2.getD ((x3).toNat) 0).toNat) TRow.d).f_Coefs)),(aB ((((l.getD ((rDeleteFunc.2.getD ((x3).toNat) 0).toNat) TRow.d).f_Bound).fN).fG)),(eU ((((l.getD ((rDeleteFunc.2.getD ((x3).toNat) 0).toNat) TRow.d).f_Bound).fN).fL)),(aB ((((l.getD ((rDeleteFunc.2.getD ((x3).toNat) 0).toNat) TRow.d).f_Bound).fD).fG)),(eU ((((l.getD ((rDeleteFunc.2.getD ((x3).toNat) 0).toNat) TRow.d).f_Bound).fD).fL))]]:List (List AV)).getD zi []) (addz 0 zi))=true from (oneN rfl)) (pc (show (vsome.length+1)=(vsome ++ ([(l.getD ((rDeleteFunc.2.getD ((x3).toNat) 0).toNat) TRow.d)]:List TRow)).length from (len_app_raw rfl rfl)) (pc (show vsome.length+1=(vsome ++ ([(l.getD ((rDeleteFunc.2.getD ((x3).toNat) 0).toNat) TRow.d)]:List TRow)).length from (len_app_raw rfl rfl)) (pc (show ∀ zi,zi < (vsome ++ ([(l.getD ((rDeleteFunc.2.getD ((x3).toNat) 0).toNat) TRow.d)]:List TRow)).length→(fun zi=>TWc ((vsome ++ ([(l.getD ((rDeleteFunc.2.getD ((x3).toNat) 0).toNat) TRow.d)]:List TRow)).getD zi TRow.d)) zi=((fun zm=>if zm < vsome.length then (fun zi=>TWc (vsome.getD zi TRow.d)) zm else (fun zi=>([[(encL TRc TRat.d ((l.getD ((rDeleteFunc.2.getD ((x3).toNat) 0).toNat) TRow.d).f_Coefs)),(aB ((((l.getD ((rDeleteFunc.2.getD ((x3).toNat) 0).toNat) TRow.d).f_Bound).fN).fG)),(eU ((((l.getD ((rDeleteFunc.2.getD ((x3).toNat) 0).toNat) TRow.d).f_Bound).fN).fL)),(aB ((((l.getD ((rDeleteFunc.2.getD ((x3).toNat) 0).toNat) TRow.d).f_Bound).fD).fG)),(eU ((((l.getD ((rDeleteFunc.2.getD ((x3).toNat) 0).toNat) TRow.d).f_Bound).fD).fL))]]:List (List AV)).getD zi []) (zm - vsome.length))) zi from (get_app_raw TWc TRow.d vsome ([(l.getD ((rDeleteFunc.2.getD ((x3).toNat) 0).toNat) TRow.d)]:List TRow) rfl (fun _ _=>rfl) (fun zq hzq=>get_chunk TWc TRow.d ([(l.getD ((rDeleteFunc.2.getD ((x3).toNat) 0).toNat) TRow.d)]:List TRow) zq hzq))) pn)))))))) ?_
   refine rnR hE 1 [] [] (kp [0,1,7,10,11,35,36,43,44,45]) (kq [0,1,163]) 227 pn ?_
   exact rnW hE 1 [] (kp [0,1,7,10,11,35,36,43,44,45]) (kq [0,1] ++ [(2,.keep 163)]) 3 pn (ih _ _ _ h E hE)
  ·obtain ⟨rcontradictor2,hr5,h⟩:=bsm h
   refine rnR hE 2 [(2,⟨[],true,(aB rcontradictor2),[],0,false,none⟩)] [] (kp [0,1,7,10,35,36,59]) (kq [0,1]) 67 (pc (g_e_contradictory_ok N n vsome rcontradictor2 hr5) (pc (z1 vsome.length) pn)) ?_
   refine rnC 0 59 h (fun hq7 h=>?_) (fun hq7 h=>?_)
   ·refine rnR hE 0 [] [] (kp [0,1,7,35,36]) (kq [1]) 99 pn ?_
    exact rnW hE 1 [] (kp [0,1,7,35,36]) [(0,.keep 1)] 1 pn (g_e_Core_J4_ok N _ _ _ _ hK_g_e_Core_L2 _ _ h E hE)
   ·exact rnW hE 2 [] (kp [0,1,7,35,36]) (kq [0]) 1 pn (g_e_Core_J4_ok N _ _ _ _ hK_g_e_Core_L2 _ _ h E hE)
theorem g_e_Core_L2_ok (N:Nat) (n:Int) (l:List TRow) (fuel:Nat):g_e_Core_L2_H N n l (g_e_Core_L2 N n l fuel):=by
 induction fuel with
 | zero=>intro _ _ r h;rw [g_e_Core_L2.eq_1] at h;cases h
 | succ fuel ih =>
  intro kept2 x2 r h E hE
  rw [g_e_Core_L2.eq_2] at h
  refine rnR hE 1 [] [] (kp [0,1,7,35,36,37]) (kq [0]) 17 pn ?_
  refine rnC 1 37 h (fun hq5 h=>?_) (fun hq5 h=>?_)
  ·refine rnR hE 4 [] [] (kp [0,1,7,9,35,36]) (kq [0,33]) 65 (pc o1 pn) ?_
   obtain ⟨rClone,hr3,h⟩:=bsm h
   obtain ⟨rDeleteFunc,hr4,h⟩:=bsm h
   refine rnR hE 1 [(1,⟨[],false,(.os 0 0 rClone.length),[(0,aO 1 cI 0 rClone)],0,false,none⟩),(3,⟨[81,33],false,(.os 0 0 rDeleteFunc.2.length),[(0,aO 1 cI 0 rDeleteFunc.2),(1,vO 1 [(aI x2)])],0,false,none⟩)] [] (kp [0,1,7,10,35,36]) (kq [0,81]) 145 (pc (g_slices_Clone_int_int_ok N kept2 rClone hr3) (pc (show ∀ zi,zi < rClone.length→AV.flatL (cI (rClone.getD zi 0))=true from (fun _ _=>rfl)) (pc (z1 kept2.length) (pc (g_slices_DeleteFunc_int_int_ok N rClone x2 rDeleteFunc hr4) pn)))) ?_
   refine rnR hE 1 [] [] (kp [0,1,7,10,11,35,36]) (kq [0,81]) 161 pn ?_
   refine rnR hE 2 [] [] (kp [0,1,7,10,11,35,36,43,44,45]) (kq [0,81]) 209 pn ?_
   exact rnW hE 2 [] (kp [0,1,7,10] ++ [(11,.nilos 2)] ++ kp [35,36,43,44,45]) (kq [0] ++ [(1,.keep 81),(2,.nil 5 (fun zi=>TWc (([]:List TRow).getD zi TRow.d)))]) 3 pn (g_e_Core_L3_ok N _ _ _ _ _ _ ih N _ _ _ h E hE)
  ·refine rnR hE 2 [] [] (kp [4,5]) (kq [0]) 65 pn ?_
   obtain rfl:=osI h
   exact rnT hE 0 Tryz.f7 [0] ([(4,.sl (kept2.length) (fun zi=>cI (kept2.getD zi 0)))] ++ kp [5]) [] 65 (pc (Eq.refl kept2.length) (pc (z1 kept2.length) (pc (show ∀ zi,zi < kept2.length→(fun zi=>cI (kept2.getD zi 0)) zi=(fun zi=>cI (kept2.getD zi 0)) (addz 0 zi) from (fun _ _=>rfl)) pn))) [] pn
theorem g_e_Core_L1_ok (N:Nat) (n:Int) (l:List TRow) (fuel:Nat):g_e_Core_L1_H N n l (g_e_Core_L1 N n l fuel):=by
 induction fuel with
 | zero=>intro _ _ r h;rw [g_e_Core_L1.eq_1] at h;cases h
 | succ fuel ih =>
  intro kept x r h E hE
  rw [g_e_Core_L1.eq_2] at h
  refine rnR hE 1 [] [] (kp [0,1,7,25,26,27]) (kq [0]) 17 pn ?_
  refine rnC 1 27 h (fun hq4 h=>?_) (fun hq4 h=>?_)
  ·refine rnR hE 4 [] [] (kp [0,1,7,8,25,26]) (kq [0]) 49 pn ?_
   obtain ⟨c,h⟩:=ifSome h
   refine rnR hE 0 [] [] (kp [0,1] ++ [(7,.osl ((kept ++ ([x]:List Int)).length))] ++ kp [25,26]) [(97,.arr 97 ((kept ++ ([x]:List Int)).length) (fun zi=>cI ((kept ++ ([x]:List Int)).getD zi 0)))] 129 (pc (Eq.refl kept.length) (pc c (pc (z1 1) (pc (show ∀ zi,zi < 1→AV.oneL ((fun zi=>([[(aI x)]]:List (List AV)).getD zi []) (addz 0 zi))=true from (oneN rfl)) (pc (show (kept.length+1)=(kept ++ ([x]:List Int)).length from (len_app_raw rfl rfl)) (pc (show kept.length+1=(kept ++ ([x]:List Int)).length from (len_app_raw rfl rfl)) (pc (show ∀ zi,zi < (kept ++ ([x]:List Int)).length→(fun zi=>cI ((kept ++ ([x]:List Int)).getD zi 0)) zi=((fun zm=>if zm < kept.length then (fun zi=>cI (kept.getD zi 0)) zm else (fun zi=>([[(aI x)]]:List (List AV)).getD zi []) (zm - kept.length))) zi from (get_app_raw cI 0 kept ([x]:List Int) rfl (fun _ _=>rfl) (fun zq hzq=>get_chunk cI 0 ([x]:List Int) zq hzq))) pn))))))) ?_
   refine rnR hE 1 [] [] (kp [0,1,7,25,26]) (kq [97]) 161 pn ?_
   exact rnW hE 1 [] (kp [0,1,7,25,26]) [(0,.keep 97)] 1 pn (ih _ _ _ h E hE)
  ·refine rnR hE 3 [] [] (kp [0,1,7,35,36]) (kq [0]) 65 pn ?_
   exact rnW hE 2 [] (kp [0,1,7,35,36]) (kq [0]) 1 pn (g_e_Core_L2_ok N _ _ N _ _ _ h E hE)
theorem g_e_Core_ok (N:Nat) (n:Int) (l:List TRow) (r:(List Int)×Int) (h:g_e_Core N n l=some r):Sd 7 [(aI n),(encL TWc TRow.d l)] [] 0 (.tup [(encL cI 0 r.1),(aI r.2)]) []:=by
 unfold g_e_Core at h
 refine sor (fu:=Tryz.f7) (c:=C_49 1) (nt:=63) (by kernel_rfl) (by kernel_rfl) (by kernel_rfl) (by kernel_rfl) (fun hm=>rfl) ?_
 intro E hE
 refine rnR hE 1 [] [] (kp [0,1]) [] 32 pn ?_
 obtain ⟨rCheckRows,hr,h⟩:=bsm h
 refine rnR hE 2 [(2,⟨[],true,(aI rCheckRows),[],0,false,none⟩)] [] (kp [0,1,6]) [] 96 (pc (g_e_CheckRows_ok N n l rCheckRows hr) pn) ?_
 refine rnR hE 1 [] [] (kp [0,1,6,18]) [] 128 pn ?_
 refine rnC 0 18 h (fun hq2 h=>?_) (fun hq2 h=>?_)
 ·refine rnR hE 1 [] [] (kp [4,5]) [] 176 pn ?_
  obtain rfl:=osI h
  exact rnT hE 0 Tryz.f7 [] ([(4,.sl (([]:List Int).length) (fun zi=>cI (([]:List Int).getD zi 0)))] ++ kp [5]) [] 176 (pc (Eq.refl 0) pn) [] pn
 ·obtain ⟨rcontradictor,hr2,h⟩:=bsm h
  refine rnR hE 3 [(2,⟨[],true,(aB rcontradictor),[],0,false,none⟩)] [] (kp [0,1,23]) [] 192 (pc (g_e_contradictory_ok N n l rcontradictor hr2) pn) ?_
  refine rnC 0 23 h (fun hq3 h=>?_) (fun hq3 h=>?_)
  ·refine rnR hE 1 [] [] (kp [4,5]) [] 224 pn ?_
   obtain rfl:=osI h
   exact rnT hE 0 Tryz.f7 [] ([(4,.sl (([]:List Int).length) (fun zi=>cI (([]:List Int).getD zi 0)))] ++ kp [5]) [] 224 (pc (Eq.refl 0) pn) [] pn
  ·refine rnR hE 2 [] [] (kp [0,1,7]) [] 208 pn ?_
   refine rnR hE 2 [] [] (kp [0,1,7,25,26]) [] 256 pn ?_
   exact rnW hE 2 [] (kp [0,1] ++ [(7,.nilos 0)] ++ kp [25,26]) [(0,.nil 1 (fun zi=>cI (([]:List Int).getD zi 0)))] 1 pn (g_e_Core_L1_ok N _ _ N _ _ _ h E hE)
noncomputable def C_76 (n:Nat):Code:=cat (bodyOf Tryz.f47) (pth n)
def g_e_tableau_multipliers_L1_H (N:Nat) (C0:Int) (C02:Int) (C03:Bool) (C04:List Int) (C05:Bool) (C06:List Int) (C07:Int) (C1:List Int) (C2:List Int) (C3:List (List TRat)) (C4:List TRat) (C5:List TRat) (K:(List TRat)→Int→Option ((List TRat))):Prop:=∀ (out:List TRat) (x:Int) (r:(List TRat)),K out x=some r→∀ E,EnvOk E 6→Runs Tryz.prog E 47 47 (SPost E [(0,vN 12 [(aI C0),(aI C02),(.os 1 0 C1.length),(.os 2 0 C2.length),(.os 3 0 C3.length),(.os 4 0 C4.length),(.os 5 0 C5.length),(aB C03),(eU C04),(aB C05),(eU C06),(aI C07)]),(1,aO 1 cI 0 C1),(2,aO 1 cI 0 C2),(3,aM 4 TRc TRat.d C3),(4,aO 4 TRc TRat.d C4),(5,aO 4 TRc TRat.d C5),(6,aO 4 TRc TRat.d r)] (.os 6 0 r.length)) [.code (C_76 116),.inLoop (C_76 116),.inBlock 0,.code (C_76 15)] ⟨[(0,(.op 0 0 0)),(3,(.os 6 0 out.length)),(12,(aI (((List.replicate ((C02).toNat) TRat.d:List TRat).length:Nat):Int))),(13,(aI x))],[(0,vN 12 [(aI C0),(aI C02),(.os 1 0 C1.length),(.os 2 0 C2.length),(.os 3 0 C3.length),(.os 4 0 C4.length),(.os 5 0 C5.length),(aB C03),(eU C04),(aB C05),(eU C06),(aI C07)]),(1,aO 1 cI 0 C1),(2,aO 1 cI 0 C2),(3,aM 4 TRc TRat.d C3),(4,aO 4 TRc TRat.d C4),(5,aO 4 TRc TRat.d C5),(6,aO 4 TRc TRat.d out)],7⟩
def g_e_tableau_multipliers_J2_H (N:Nat) (C0:Int) (C02:Int) (C03:Bool) (C04:List Int) (C05:Bool) (C06:List Int) (C07:Int) (C1:List Int) (C2:List Int) (C3:List (List TRat)) (C4:List TRat) (C5:List TRat) (x:Int) (K:(List TRat)→Option ((List TRat))):Prop:=∀ (out2:List TRat) (r:(List TRat)),K out2=some r→∀ E,EnvOk E 6→Runs Tryz.prog E 47 47 (SPost E [(0,vN 12 [(aI C0),(aI C02),(.os 1 0 C1.length),(.os 2 0 C2.length),(.os 3 0 C3.length),(.os 4 0 C4.length),(.os 5 0 C5.length),(aB C03),(eU C04),(aB C05),(eU C06),(aI C07)]),(1,aO 1 cI 0 C1),(2,aO 1 cI 0 C2),(3,aM 4 TRc TRat.d C3),(4,aO 4 TRc TRat.d C4),(5,aO 4 TRc TRat.d C5),(6,aO 4 TRc TRat.d r)] (.os 6 0 r.length)) [.code (C_76 935),.inLoop (C_76 116),.inBlock 0,.code (C_76 15)] ⟨[(0,(.op 0 0 0)),(3,(.os 6 0 out2.length)),(12,(aI (((List.replicate ((C02).toNat) TRat.d:List TRat).length:Nat):Int))),(13,(aI x))],[(0,vN 12 [(aI C0),(aI C02),(.os 1 0 C1.length),(.os 2 0 C2.length),(.os 3 0 C3.length),(.os 4 0 C4.length),(.os 5 0 C5.length),(aB C03),(eU C04),(aB C05),(eU C06),(aI C07)]),(1,aO 1 cI 0 C1),(2,aO 1 cI 0 C2),(3,aM 4 TRc TRat.d C3),(4,aO 4 TRc TRat.d C4),(5,aO 4 TRc TRat.d C5),(6,aO 4 TRc TRat.d out2)],7⟩
theorem g_e_tableau_multipliers_J2_ok (N:Nat) (C0:Int) (C02:Int) (C03:Bool) (C04:List Int) (C05:Bool) (C06:List Int) (C07:Int) (C1:List Int) (C2:List Int) (C3:List (List TRat)) (C4:List TRat) (C5:List TRat) (x:Int) (K_g_e_tableau_multipliers_L1:(List TRat)→Int→Option ((List TRat))) (hK_g_e_tableau_multipliers_L1:g_e_tableau_multipliers_L1_H N C0 C02 C03 C04 C05 C06 C07 C1 C2 C3 C4 C5 K_g_e_tableau_multipliers_L1):g_e_tableau_multipliers_J2_H N C0 C02 C03 C04 C05 C06 C07 C1 C2 C3 C4 C5 x (g_e_tableau_multipliers_J2 N C0 C02 C03 C04 C05 C06 C07 C1 C2 C3 C4 C5 x K_g_e_tableau_multipliers_L1):=by
 intro out2 r h E hE
 unfold g_e_tableau_multipliers_J2 at h
 refine rnR hE 0 [] [] (kp [0,3,12,13]) (kq [0,1,2,3,4,5,6]) 39 pn ?_
 exact rnW hE 1 [] (kp [0,3,12,13]) (kq [0,1,2,3,4,5,6]) 7 pn (hK_g_e_tableau_multipliers_L1 _ _ _ h E hE)
theorem g_e_tableau_multipliers_L1_ok (N:Nat) (C0:Int) (C02:Int) (C03:Bool) (C04:List Int) (C05:Bool) (C06:List Int) (C07:Int) (C1:List Int) (C2:List Int) (C3:List (List TRat)) (C4:List TRat) (C5:List TRat) (fuel:Nat):g_e_tableau_multipliers_L1_H N C0 C02 C03 C04 C05 C06 C07 C1 C2 C3 C4 C5 (g_e_tableau_multipliers_L1 N C0 C02 C03 C04 C05 C06 C07 C1 C2 C3 C4 C5 fuel):=by
 induction fuel with
 | zero=>intro _ _ r h;rw [g_e_tableau_multipliers_L1.eq_1] at h;cases h
 | succ fuel ih =>
  intro out x r h E hE
  rw [g_e_tableau_multipliers_L1.eq_2] at h
  refine rnR hE 1 [] [] (kp [0,3,12,13,14]) (kq [0,1,2,3,4,5,6]) 23 pn ?_
  refine rnC 1 14 h (fun hq2 h=>?_) (fun hq2 h=>?_)
  ·refine rnR hE 4 [] [] (kp [0,3,4,12,13]) (kq [0,1,2,3,4,5,6]) 55 pn ?_
   obtain ⟨rnumber,hr,h⟩:=bsm h
   obtain ⟨c2,h⟩:=ifSome h
   refine rnR hE 1 [(2,⟨[],true,(.agg (TRc rnumber)),[],0,false,none⟩)] [] (kp [0] ++ [(3,.osl ((out.set ((x).toNat) rnumber).length))] ++ kp [4,12,13]) (kq [0,1,2,3,4,5] ++ [(6,.arr 6 ((out.set ((x).toNat) rnumber).length) (fun zi=>TRc ((out.set ((x).toNat) rnumber).getD zi TRat.d)))]) 135 (pc (g_e_number_ok N 0 rnumber hr) (pc c2 (pc (ltOf c2) (pc (len_set0 out ((x).toNat) rnumber) (pc (len_set0 out ((x).toNat) rnumber) (pc (get_set0 TRc TRat.d out ((x).toNat) rnumber) pn)))))) ?_
   obtain ⟨rIndex,hr2,h⟩:=bsm h
   refine rnR hE 1 [(11,⟨[],true,(aI rIndex),[],0,false,none⟩)] [] (kp [0,3,4,5,12,13]) (kq [0,1,2,3,4,5,6]) 343 (pc o1 (pc o1 (pc (g_slices_Index_int_int_ok N C2 (w64 ((w64 (2 * C0))+x)) rIndex hr2) (pc (z1 C2.length) pn)))) ?_
   refine rnR hE 1 [] [] (kp [0,3,4,5,12,13,33]) (kq [0,1,2,3,4,5,6]) 375 pn ?_
   refine rnC 0 33 h (fun hq3 h=>?_) (fun hq3 h=>?_)
   ·obtain ⟨c3,h⟩:=ifSome h
    obtain ⟨rnegative,hr3,h⟩:=bsm h
    obtain ⟨c4,h⟩:=ifSome h
    refine rnR hE 0 [(9,⟨[],true,(.agg (TRc rnegative)),[],0,false,none⟩)] [] (kp [0] ++ [(3,.osl (((out.set ((x).toNat) rnumber).set ((x).toNat) rnegative).length))] ++ kp [12,13]) (kq [0,1,2,3,4,5] ++ [(6,.arr 6 (((out.set ((x).toNat) rnumber).set ((x).toNat) rnegative).length) (fun zi=>TRc (((out.set ((x).toNat) rnumber).set ((x).toNat) rnegative).getD zi TRat.d)))]) 567 (pc o1 (pc c3 (pc (ltOf c3) (pc (g_e_negative_ok N (⟨((C5.getD ((rIndex).toNat) TRat.d).fN),((C5.getD ((rIndex).toNat) TRat.d).fD)⟩:TRat) rnegative hr3) (pc c4 (pc (ltOf c4) (pc (len_set0 (out.set ((x).toNat) rnumber) ((x).toNat) rnegative) (pc (len_set0 (out.set ((x).toNat) rnumber) ((x).toNat) rnegative) (pc (get_set0 TRc TRat.d (out.set ((x).toNat) rnumber) ((x).toNat) rnegative) pn))))))))) ?_
    exact rnW hE 1 [] (kp [0,3,12,13]) (kq [0,1,2,3,4,5,6]) 7 pn (g_e_tableau_multipliers_J2_ok N _ _ _ _ _ _ _ _ _ _ _ _ _ _ ih _ _ h E hE)
   ·exact rnW hE 2 [] (kp [0,3,12,13]) (kq [0,1,2,3,4,5,6]) 7 pn (g_e_tableau_multipliers_J2_ok N _ _ _ _ _ _ _ _ _ _ _ _ _ _ ih _ _ h E hE)
  ·refine rnR hE 2 [] [] (kp [2]) (kq [0,1,2,3,4,5,6]) 55 pn ?_
   obtain rfl:=osI h
   exact rnT hE 0 Tryz.f47 [] (kp [2]) (kq [0,1,2,3,4,5,6]) 55 pn [] pn
theorem g_e_tableau_multipliers_ok (N:Nat) (C0:Int) (C02:Int) (C03:Bool) (C04:List Int) (C05:Bool) (C06:List Int) (C07:Int) (C1:List Int) (C2:List Int) (C3:List (List TRat)) (C4:List TRat) (C5:List TRat) (r:(List TRat)) (h:g_e_tableau_multipliers N C0 C02 C03 C04 C05 C06 C07 C1 C2 C3 C4 C5=some r):Sd 47 [(.op 0 0 0)] [(0,vN 12 [(aI C0),(aI C02),(.os 1 0 C1.length),(.os 2 0 C2.length),(.os 3 0 C3.length),(.os 4 0 C4.length),(.os 5 0 C5.length),(aB C03),(eU C04),(aB C05),(eU C06),(aI C07)]),(1,aO 1 cI 0 C1),(2,aO 1 cI 0 C2),(3,aM 4 TRc TRat.d C3),(4,aO 4 TRc TRat.d C4),(5,aO 4 TRc TRat.d C5)] 6 (.os 6 0 r.length) [(0,vN 12 [(aI C0),(aI C02),(.os 1 0 C1.length),(.os 2 0 C2.length),(.os 3 0 C3.length),(.os 4 0 C4.length),(.os 5 0 C5.length),(aB C03),(eU C04),(aB C05),(eU C06),(aI C07)]),(1,aO 1 cI 0 C1),(2,aO 1 cI 0 C2),(3,aM 4 TRc TRat.d C3),(4,aO 4 TRc TRat.d C4),(5,aO 4 TRc TRat.d C5),(6,aO 4 TRc TRat.d r)]:=by
 unfold g_e_tableau_multipliers at h
 refine sor (fu:=Tryz.f47) (c:=C_76 1) (nt:=47) (by kernel_rfl) (by kernel_rfl) (by kernel_rfl) (by kernel_rfl) (fun hm=>absurd hm (by decide)) ?_
 intro E hE
 refine rnR hE 1 [] [] (kp [0]) (kq [0,1,2,3,4,5]) 22 pn ?_
 obtain ⟨c,h⟩:=ifSome h
 refine rnR hE 1 [] [] (kp [0] ++ [(3,.osl ((List.replicate ((C02).toNat) TRat.d:List TRat).length))]) (kq [0,1,2,3,4,5] ++ [(86,.arz 86 ((List.replicate ((C02).toNat) TRat.d:List TRat).length) (fun zi=>TRc ((List.replicate ((C02).toNat) TRat.d:List TRat).getD zi TRat.d)))]) 118 (pc o1 (pc (show 0≤C02 from c.1) (pc (show C02≤C02 from (Int.le_refl _)) (pc (show (64:Int) * C02≤281474976710656 from c.2.1) (pc (show C02≤9223372036854775807 from c.2.2) (pc (show (C02).toNat=(List.replicate ((C02).toNat) TRat.d:List TRat).length from (List.length_replicate).symm) (pc (show (C02).toNat=(List.replicate ((C02).toNat) TRat.d:List TRat).length from (List.length_replicate).symm) (pc (show ∀ zi,zi < (List.replicate ((C02).toNat) TRat.d:List TRat).length→UpL ((fun _=>[(aB false),.nil,(aB false),.nil]) zi) ((fun zi=>TRc ((List.replicate ((C02).toNat) TRat.d:List TRat).getD zi TRat.d)) zi) from (fun zq hzq=>get_rep_up TRc TRat.d TRat.d ((C02).toNat) zq ⟨.inl rfl,.inr ⟨rfl,_,rfl⟩,.inl rfl,.inr ⟨rfl,_,rfl⟩,trivial⟩ hzq)) pn)))))))) ?_
 refine rnR hE 2 [] [] (kp [0,3,12,13]) (kq [0,1,2,3,4,5,86]) 166 pn ?_
 exact rnW hE 2 [] (kp [0,3,12,13]) (kq [0,1,2,3,4,5] ++ [(6,.keep 86)]) 7 pn (g_e_tableau_multipliers_L1_ok N _ _ _ _ _ _ _ _ _ _ _ _ N _ _ _ h E hE)
noncomputable def C_78 (n:Nat):Code:=cat (bodyOf Tryz.f49) (pth n)
theorem g_e_tableau_at_ok (N:Nat) (vvariable:Int) (C0:Int) (C02:Int) (C03:Bool) (C04:List Int) (C05:Bool) (C06:List Int) (C07:Int) (C1:List Int) (C2:List Int) (C3:List (List TRat)) (C4:List TRat) (C5:List TRat) (r:TRat) (h:g_e_tableau_at N vvariable C0 C02 C03 C04 C05 C06 C07 C1 C2 C3 C4 C5=some r):Sd 49 [(.op 0 0 0),(aI vvariable)] [(0,vN 12 [(aI C0),(aI C02),(.os 1 0 C1.length),(.os 2 0 C2.length),(.os 3 0 C3.length),(.os 4 0 C4.length),(.os 5 0 C5.length),(aB C03),(eU C04),(aB C05),(eU C06),(aI C07)]),(1,aO 1 cI 0 C1),(2,aO 1 cI 0 C2),(3,aM 4 TRc TRat.d C3),(4,aO 4 TRc TRat.d C4),(5,aO 4 TRc TRat.d C5)] 6 (.agg (TRc r)) [(0,vN 12 [(aI C0),(aI C02),(.os 1 0 C1.length),(.os 2 0 C2.length),(.os 3 0 C3.length),(.os 4 0 C4.length),(.os 5 0 C5.length),(aB C03),(eU C04),(aB C05),(eU C06),(aI C07)]),(1,aO 1 cI 0 C1),(2,aO 1 cI 0 C2),(3,aM 4 TRc TRat.d C3),(4,aO 4 TRc TRat.d C4),(5,aO 4 TRc TRat.d C5)]:=by
 unfold g_e_tableau_at at h
 refine sor (fu:=Tryz.f49) (c:=C_78 1) (nt:=22) (by kernel_rfl) (by kernel_rfl) (by kernel_rfl) (by kernel_rfl) (fun hm=>absurd hm (by decide)) ?_
 intro E hE
 refine rnR hE 1 [] [] (kp [0,1,4]) (kq [0,1,2,3,4,5,6]) 22 pn ?_
 obtain ⟨rIndex,hr,h⟩:=bsm h
 refine rnR hE 2 [(5,⟨[],true,(aI rIndex),[],0,false,none⟩)] [] (kp [0,4,5]) (kq [0,1,2,3,4,5,6]) 134 (pc o1 (pc (g_slices_Index_int_int_ok N C1 vvariable rIndex hr) (pc (z1 C1.length) pn))) ?_
 refine rnR hE 1 [] [] (kp [0,4,5,13]) (kq [0,1,2,3,4,5,6]) 166 pn ?_
 refine rnC 0 13 h (fun hq2 h=>?_) (fun hq2 h=>?_)
 ·obtain ⟨c,h⟩:=ifSome h
  refine rnR hE 1 [] [] (kp [4]) (kq [0,1,2,3,4,5,6]) 294 (pc o1 (pc c (pc (ltOf c) (pc o1 pn)))) ?_
  obtain rfl:=osI h
  exact rnT hE 0 Tryz.f49 [] (kp [4]) (kq [0,1,2,3,4,5] ++ [(22,.keep 6)]) 294 pn [22] (pc o1 pn)
 ·obtain ⟨rnumber,hr2,h⟩:=bsm h
  refine rnR hE 2 [(0,⟨[],true,(.agg (TRc rnumber)),[],0,false,none⟩)] [] (kp [4]) (kq [0,1,2,3,4,5,6]) 198 (pc (g_e_number_ok N 0 rnumber hr2) (pc o1 pn)) ?_
  obtain rfl:=osI h
  exact rnT hE 0 Tryz.f49 [] (kp [4]) (kq [0,1,2,3,4,5] ++ [(22,.keep 6)]) 198 pn [22] (pc o1 pn)
noncomputable def C_77 (n:Nat):Code:=cat (bodyOf Tryz.f48) (pth n)
def g_e_tableau_point_L1_H (N:Nat) (C0:Int) (C02:Int) (C03:Bool) (C04:List Int) (C05:Bool) (C06:List Int) (C07:Int) (C1:List Int) (C2:List Int) (C3:List (List TRat)) (C4:List TRat) (C5:List TRat) (K:(List TRat)→Int→Option ((List TRat))):Prop:=∀ (out:List TRat) (x:Int) (r:(List TRat)),K out x=some r→∀ E,EnvOk E 6→Runs Tryz.prog E 48 34 (SPost E [(0,vN 12 [(aI C0),(aI C02),(.os 1 0 C1.length),(.os 2 0 C2.length),(.os 3 0 C3.length),(.os 4 0 C4.length),(.os 5 0 C5.length),(aB C03),(eU C04),(aB C05),(eU C06),(aI C07)]),(1,aO 1 cI 0 C1),(2,aO 1 cI 0 C2),(3,aM 4 TRc TRat.d C3),(4,aO 4 TRc TRat.d C4),(5,aO 4 TRc TRat.d C5),(6,aO 4 TRc TRat.d r)] (.os 6 0 r.length)) [.code (C_77 116),.inLoop (C_77 116),.inBlock 0,.code (C_77 15)] ⟨[(0,(.op 0 0 0)),(1,(.fn (.func 49) [(.op 0 0 0)] [])),(5,(.os 6 0 out.length)),(13,(aI (((List.replicate ((C0).toNat) TRat.d:List TRat).length:Nat):Int))),(14,(aI x))],[(0,vN 12 [(aI C0),(aI C02),(.os 1 0 C1.length),(.os 2 0 C2.length),(.os 3 0 C3.length),(.os 4 0 C4.length),(.os 5 0 C5.length),(aB C03),(eU C04),(aB C05),(eU C06),(aI C07)]),(1,aO 1 cI 0 C1),(2,aO 1 cI 0 C2),(3,aM 4 TRc TRat.d C3),(4,aO 4 TRc TRat.d C4),(5,aO 4 TRc TRat.d C5),(6,aO 4 TRc TRat.d out)],7⟩
theorem g_e_tableau_point_L1_ok (N:Nat) (C0:Int) (C02:Int) (C03:Bool) (C04:List Int) (C05:Bool) (C06:List Int) (C07:Int) (C1:List Int) (C2:List Int) (C3:List (List TRat)) (C4:List TRat) (C5:List TRat) (fuel:Nat):g_e_tableau_point_L1_H N C0 C02 C03 C04 C05 C06 C07 C1 C2 C3 C4 C5 (g_e_tableau_point_L1 N C0 C02 C03 C04 C05 C06 C07 C1 C2 C3 C4 C5 fuel):=by
 induction fuel with
 | zero=>intro _ _ r h;rw [g_e_tableau_point_L1.eq_1] at h;cases h
 | succ fuel ih =>
  intro out x r h E hE
  rw [g_e_tableau_point_L1.eq_2] at h
  refine rnR hE 1 [] [] (kp [0,1,5,13,14,15]) (kq [0,1,2,3,4,5,6]) 23 pn ?_
  refine rnC 1 15 h (fun hq2 h=>?_) (fun hq2 h=>?_)
  ·refine rnR hE 4 [] [] (kp [0,1,5,6,13,14]) (kq [0,1,2,3,4,5,6]) 55 pn ?_
   obtain ⟨rat,hr,h⟩:=bsm h
   obtain ⟨rat2,hr2,h⟩:=bsm h
   obtain ⟨rSubRat,hr3,h⟩:=bsm h
   obtain ⟨c2,h⟩:=ifSome h
   refine rnR hE 0 [(4,⟨[0,1,2,3,4,5],true,(.agg (TRc rat)),[],0,false,none⟩),(12,⟨[0,1,2,3,4,5],true,(.agg (TRc rat2)),[],0,false,none⟩),(13,⟨[],true,(.agg (TRc rSubRat)),[],0,false,none⟩)] [] (kp [0,1] ++ [(5,.osl ((out.set ((x).toNat) rSubRat).length))] ++ kp [13,14]) (kq [0,1,2,3,4,5] ++ [(6,.arr 6 ((out.set ((x).toNat) rSubRat).length) (fun zi=>TRc ((out.set ((x).toNat) rSubRat).getD zi TRat.d)))]) 311 (pc (g_e_tableau_at_ok N x C0 C02 C03 C04 C05 C06 C07 C1 C2 C3 C4 C5 rat hr) (pc (show ∀ zm,zm < C3.length→isMrL ((fun zm=>mR 4 TRc TRat.d (C3.getD zm [])) zm)=true from (fun _ _=>rfl)) (pc o1 (pc (g_e_tableau_at_ok N (w64 (C0+x)) C0 C02 C03 C04 C05 C06 C07 C1 C2 C3 C4 C5 rat2 hr2) (pc (show ∀ zm,zm < C3.length→isMrL ((fun zm=>mR 4 TRc TRat.d (C3.getD zm [])) zm)=true from (fun _ _=>rfl)) (pc (g_e_SubRat_ok N rat rat2 rSubRat hr3) (pc c2 (pc (ltOf c2) (pc (len_set0 out ((x).toNat) rSubRat) (pc (len_set0 out ((x).toNat) rSubRat) (pc (get_set0 TRc TRat.d out ((x).toNat) rSubRat) pn))))))))))) ?_
   refine rnR hE 1 [] [] (kp [0,1,5,13,14]) (kq [0,1,2,3,4,5,6]) 343 pn ?_
   exact rnW hE 1 [] (kp [0,1,5,13,14]) (kq [0,1,2,3,4,5,6]) 7 pn (ih _ _ _ h E hE)
  ·refine rnR hE 2 [] [] (kp [4]) (kq [0,1,2,3,4,5,6]) 55 pn ?_
   obtain rfl:=osI h
   exact rnT hE 0 Tryz.f48 [] (kp [4]) (kq [0,1,2,3,4,5,6]) 55 pn [] pn
theorem g_e_tableau_point_ok (N:Nat) (C0:Int) (C02:Int) (C03:Bool) (C04:List Int) (C05:Bool) (C06:List Int) (C07:Int) (C1:List Int) (C2:List Int) (C3:List (List TRat)) (C4:List TRat) (C5:List TRat) (r:(List TRat)) (h:g_e_tableau_point N C0 C02 C03 C04 C05 C06 C07 C1 C2 C3 C4 C5=some r):Sd 48 [(.op 0 0 0),(.fn (.func 49) [(.op 0 0 0)] [])] [(0,vN 12 [(aI C0),(aI C02),(.os 1 0 C1.length),(.os 2 0 C2.length),(.os 3 0 C3.length),(.os 4 0 C4.length),(.os 5 0 C5.length),(aB C03),(eU C04),(aB C05),(eU C06),(aI C07)]),(1,aO 1 cI 0 C1),(2,aO 1 cI 0 C2),(3,aM 4 TRc TRat.d C3),(4,aO 4 TRc TRat.d C4),(5,aO 4 TRc TRat.d C5)] 6 (.os 6 0 r.length) [(0,vN 12 [(aI C0),(aI C02),(.os 1 0 C1.length),(.os 2 0 C2.length),(.os 3 0 C3.length),(.os 4 0 C4.length),(.os 5 0 C5.length),(aB C03),(eU C04),(aB C05),(eU C06),(aI C07)]),(1,aO 1 cI 0 C1),(2,aO 1 cI 0 C2),(3,aM 4 TRc TRat.d C3),(4,aO 4 TRc TRat.d C4),(5,aO 4 TRc TRat.d C5),(6,aO 4 TRc TRat.d r)]:=by
 unfold g_e_tableau_point at h
 refine sor (fu:=Tryz.f48) (c:=C_77 1) (nt:=34) (by kernel_rfl) (by kernel_rfl) (by kernel_rfl) (by kernel_rfl) (fun hm=>absurd hm (by decide)) ?_
 intro E hE
 refine rnR hE 1 [] [] (kp [0,1]) (kq [0,1,2,3,4,5]) 22 pn ?_
 obtain ⟨c,h⟩:=ifSome h
 refine rnR hE 1 [] [] (kp [0,1] ++ [(5,.osl ((List.replicate ((C0).toNat) TRat.d:List TRat).length))]) (kq [0,1,2,3,4,5] ++ [(86,.arz 86 ((List.replicate ((C0).toNat) TRat.d:List TRat).length) (fun zi=>TRc ((List.replicate ((C0).toNat) TRat.d:List TRat).getD zi TRat.d)))]) 118 (pc o1 (pc (show 0≤C0 from c.1) (pc (show C0≤C0 from (Int.le_refl _)) (pc (show (64:Int) * C0≤281474976710656 from c.2.1) (pc (show C0≤9223372036854775807 from c.2.2) (pc (show (C0).toNat=(List.replicate ((C0).toNat) TRat.d:List TRat).length from (List.length_replicate).symm) (pc (show (C0).toNat=(List.replicate ((C0).toNat) TRat.d:List TRat).length from (List.length_replicate).symm) (pc (show ∀ zi,zi < (List.replicate ((C0).toNat) TRat.d:List TRat).length→UpL ((fun _=>[(aB false),.nil,(aB false),.nil]) zi) ((fun zi=>TRc ((List.replicate ((C0).toNat) TRat.d:List TRat).getD zi TRat.d)) zi) from (fun zq hzq=>get_rep_up TRc TRat.d TRat.d ((C0).toNat) zq ⟨.inl rfl,.inr ⟨rfl,_,rfl⟩,.inl rfl,.inr ⟨rfl,_,rfl⟩,trivial⟩ hzq)) pn)))))))) ?_
 refine rnR hE 2 [] [] (kp [0,1,5,13,14]) (kq [0,1,2,3,4,5,86]) 166 pn ?_
 exact rnW hE 2 [] (kp [0,1,5,13,14]) (kq [0,1,2,3,4,5] ++ [(6,.keep 86)]) 7 pn (g_e_tableau_point_L1_ok N _ _ _ _ _ _ _ _ _ _ _ _ N _ _ _ h E hE)
noncomputable def C_75 (n:Nat):Code:=cat (bodyOf Tryz.f26) (pth n)
theorem g_e_Feasible_ok (N:Nat) (n:Int) (l:List TRow) (r:(List TRat)×(List TRat)×Int) (h:g_e_Feasible N n l=some r):Sd 26 [(aI n),(encL TWc TRow.d l)] [] 0 (.tup [(encL TRc TRat.d r.1),(encL TRc TRat.d r.2.1),(aI r.2.2)]) []:=by
 unfold g_e_Feasible at h
 refine sor (fu:=Tryz.f26) (c:=C_75 1) (nt:=27) (by kernel_rfl) (by kernel_rfl) (by kernel_rfl) (by kernel_rfl) (fun hm=>rfl) ?_
 intro E hE
 refine rnR hE 1 [] [] (kp [0,1]) [] 48 pn ?_
 obtain ⟨rCheckRows,hr,h⟩:=bsm h
 refine rnR hE 2 [(2,⟨[],true,(aI rCheckRows),[],0,false,none⟩)] [] (kp [0,1,7]) [] 112 (pc (g_e_CheckRows_ok N n l rCheckRows hr) pn) ?_
 refine rnR hE 1 [] [] (kp [0,1,7,13]) [] 144 pn ?_
 refine rnC 0 13 h (fun hq2 h=>?_) (fun hq2 h=>?_)
 ·refine rnR hE 1 [] [] (kp [4,5,6]) [] 208 pn ?_
  obtain rfl:=osI h
  exact rnT hE 0 Tryz.f26 [] ([(4,.sl (([]:List TRat).length) (fun zi=>TRc (([]:List TRat).getD zi TRat.d))),(5,.sl (([]:List TRat).length) (fun zi=>TRc (([]:List TRat).getD zi TRat.d)))] ++ kp [6]) [] 208 (pc (Eq.refl 0) (pc (Eq.refl 0) pn)) [] pn
 ·obtain ⟨rbegin,hr2,h⟩:=bsm h
  refine rnR hE 2 [(2,⟨[],false,(.op 0 0 0),[(0,vN 12 [(aI rbegin.f_n),(aI rbegin.f_m),(.os 1 0 rbegin.f_basic.length),(.os 2 0 rbegin.f_free.length),(.os 3 0 rbegin.f_a.length),(.os 4 0 rbegin.f_b.length),(.os 5 0 rbegin.f_goal.length),(aB rbegin.f_value.fN.fG),(eU rbegin.f_value.fN.fL),(aB rbegin.f_value.fD.fG),(eU rbegin.f_value.fD.fL),(aI rbegin.f_helper)]),(1,aO 1 cI 0 rbegin.f_basic),(2,aO 1 cI 0 rbegin.f_free),(3,aM 4 TRc TRat.d rbegin.f_a),(4,aO 4 TRc TRat.d rbegin.f_b),(5,aO 4 TRc TRat.d rbegin.f_goal)],0,false,none⟩)] [] (kp [8]) (kq [176,177,178,179,180,181]) 208 (pc (g_e_begin_ok N n l rbegin hr2) pn) ?_
  obtain ⟨rsettle,hr3,h⟩:=bsm h
  obtain ⟨c,h⟩:=ifSome h
  obtain ⟨c2,h⟩:=ifSome h
  obtain ⟨c3,h⟩:=ifSome h
  refine rnR hE 2 [(1,⟨[176,177,178,179,180,181],false,(aB rsettle.1),[(0,vN 12 [(aI rsettle.2.1.f_n),(aI rsettle.2.1.f_m),(.os 1 0 rsettle.2.2.1.length),(.os 2 0 rsettle.2.2.2.1.length),(.os 3 0 rsettle.2.2.2.2.1.length),(.os 4 0 rsettle.2.2.2.2.2.length),(.os 6 0 rsettle.2.1.f_goal.length),(aB rsettle.2.1.f_value.fN.fG),(eU rsettle.2.1.f_value.fN.fL),(aB rsettle.2.1.f_value.fD.fG),(eU rsettle.2.1.f_value.fD.fL),(aI rsettle.2.1.f_helper)]),(1,aO 1 cI 0 rsettle.2.2.1),(2,aO 1 cI 0 rsettle.2.2.2.1),(3,aM 4 TRc TRat.d rsettle.2.2.2.2.1),(4,aO 4 TRc TRat.d rsettle.2.2.2.2.2),(6,aO 4 TRc TRat.d rsettle.2.1.f_goal)],0,false,none⟩)] [] (kp [8,20]) (kq [176,177,178,179,180,224]) 256 (pc (g_e_tableau_settle_ok N rbegin.f_n rbegin.f_m rbegin.f_value.fN.fG rbegin.f_value.fN.fL rbegin.f_value.fD.fG rbegin.f_value.fD.fL rbegin.f_helper rbegin.f_basic rbegin.f_free rbegin.f_a rbegin.f_b rbegin.f_goal rsettle hr3) pn) ?_
  refine rnC 0 20 h (fun hq3 h=>?_) (fun hq3 h=>?_)
  ·obtain ⟨rmultipliers,hr4,h⟩:=bsm h
   refine rnR hE 1 [(1,⟨[176,177,178,179,180,224],false,(.os 6 0 rmultipliers.length),[(0,vN 12 [(aI rsettle.2.1.f_n),(aI rsettle.2.1.f_m),(.os 1 0 rsettle.2.2.1.length),(.os 2 0 rsettle.2.2.2.1.length),(.os 3 0 rsettle.2.2.2.2.1.length),(.os 4 0 rsettle.2.2.2.2.2.length),(.os 5 0 rsettle.2.1.f_goal.length),(aB rsettle.2.1.f_value.fN.fG),(eU rsettle.2.1.f_value.fN.fL),(aB rsettle.2.1.f_value.fD.fG),(eU rsettle.2.1.f_value.fD.fL),(aI rsettle.2.1.f_helper)]),(1,aO 1 cI 0 rsettle.2.2.1),(2,aO 1 cI 0 rsettle.2.2.2.1),(3,aM 4 TRc TRat.d rsettle.2.2.2.2.1),(4,aO 4 TRc TRat.d rsettle.2.2.2.2.2),(5,aO 4 TRc TRat.d rsettle.2.1.f_goal),(6,aO 4 TRc TRat.d rmultipliers)],0,false,none⟩)] [] (kp [4,5,6]) (kq [272]) 336 (pc (g_e_tableau_multipliers_ok N rsettle.2.1.f_n rsettle.2.1.f_m rsettle.2.1.f_value.fN.fG rsettle.2.1.f_value.fN.fL rsettle.2.1.f_value.fD.fG rsettle.2.1.f_value.fD.fL rsettle.2.1.f_helper rsettle.2.2.1 rsettle.2.2.2.1 rsettle.2.2.2.2.1 rsettle.2.2.2.2.2 rsettle.2.1.f_goal rmultipliers hr4) pn) ?_
   obtain rfl:=osI h
   exact rnT hE 0 Tryz.f26 [272] ([(4,.sl (([]:List TRat).length) (fun zi=>TRc (([]:List TRat).getD zi TRat.d))),(5,.sl (rmultipliers.length) (fun zi=>TRc (rmultipliers.getD zi TRat.d)))] ++ kp [6]) [] 336 (pc (Eq.refl 0) (pc (Eq.refl rmultipliers.length) (pc (z1 rmultipliers.length) (pc (show ∀ zi,zi < rmultipliers.length→(fun zi=>TRc (rmultipliers.getD zi TRat.d)) zi=(fun zi=>TRc (rmultipliers.getD zi TRat.d)) (addz 0 zi) from (fun _ _=>rfl)) pn)))) [] pn
  ·obtain ⟨rpoint,hr5,h⟩:=bsm h
   refine rnR hE 2 [(3,⟨[176,177,178,179,180,224],false,(.os 6 0 rpoint.length),[(0,vN 12 [(aI rsettle.2.1.f_n),(aI rsettle.2.1.f_m),(.os 1 0 rsettle.2.2.1.length),(.os 2 0 rsettle.2.2.2.1.length),(.os 3 0 rsettle.2.2.2.2.1.length),(.os 4 0 rsettle.2.2.2.2.2.length),(.os 5 0 rsettle.2.1.f_goal.length),(aB rsettle.2.1.f_value.fN.fG),(eU rsettle.2.1.f_value.fN.fL),(aB rsettle.2.1.f_value.fD.fG),(eU rsettle.2.1.f_value.fD.fL),(aI rsettle.2.1.f_helper)]),(1,aO 1 cI 0 rsettle.2.2.1),(2,aO 1 cI 0 rsettle.2.2.2.1),(3,aM 4 TRc TRat.d rsettle.2.2.2.2.1),(4,aO 4 TRc TRat.d rsettle.2.2.2.2.2),(5,aO 4 TRc TRat.d rsettle.2.1.f_goal),(6,aO 4 TRc TRat.d rpoint)],0,false,none⟩)] [] (kp [4,5,6]) (kq [304]) 368 (pc (g_e_tableau_point_ok N rsettle.2.1.f_n rsettle.2.1.f_m rsettle.2.1.f_value.fN.fG rsettle.2.1.f_value.fN.fL rsettle.2.1.f_value.fD.fG rsettle.2.1.f_value.fD.fL rsettle.2.1.f_helper rsettle.2.2.1 rsettle.2.2.2.1 rsettle.2.2.2.2.1 rsettle.2.2.2.2.2 rsettle.2.1.f_goal rpoint hr5) pn) ?_
   obtain rfl:=osI h
   exact rnT hE 0 Tryz.f26 [304] ([(4,.sl (rpoint.length) (fun zi=>TRc (rpoint.getD zi TRat.d))),(5,.sl (([]:List TRat).length) (fun zi=>TRc (([]:List TRat).getD zi TRat.d)))] ++ kp [6]) [] 368 (pc (Eq.refl rpoint.length) (pc (z1 rpoint.length) (pc (show ∀ zi,zi < rpoint.length→(fun zi=>TRc (rpoint.getD zi TRat.d)) zi=(fun zi=>TRc (rpoint.getD zi TRat.d)) (addz 0 zi) from (fun _ _=>rfl)) (pc (Eq.refl 0) pn)))) [] pn
noncomputable def C_83 (n:Nat):Code:=cat (bodyOf Tryz.f103) (pth n)
def g_r01_made_L1_H (N:Nat) (neg:Bool) (a:List Int) (K:(List Int)→Int→Option (TInt)):Prop:=∀ (x:List Int) (i:Int) (r:TInt),K x i=some r→∀ E,EnvOk E 0→Runs Tryz.prog E 103 31 (SPost E [] (.agg (TIc r))) [.code (C_83 116),.inLoop (C_83 116),.inBlock 0,.code (C_83 15)] ⟨[(1,(encL cI 0 a)),(4,(.op 0 0 0)),(5,(.op 1 0 0)),(6,(aI i))],[(0,vO 2 [(aB false),.nil]),(1,vN 2 [(aB (cond neg (decide (((a.length:Nat):Int) > 0)) false)),(.os 2 0 x.length)]),(2,aU x)],3⟩
theorem g_r01_made_L1_ok (N:Nat) (neg:Bool) (a:List Int) (fuel:Nat):g_r01_made_L1_H N neg a (g_r01_made_L1 N neg a fuel):=by
 induction fuel with
 | zero=>intro _ _ r h;rw [g_r01_made_L1.eq_1] at h;cases h
 | succ fuel ih =>
  intro x i r h E hE
  rw [g_r01_made_L1.eq_2] at h
  refine rnR hE 2 [] [] (kp [1,4,5,6,17]) (kq [0,1,2]) 67 pn ?_
  refine rnC 0 17 h (fun hq2 h=>?_) (fun hq2 h=>?_)
  ·obtain ⟨c,h⟩:=ifSome h
   obtain ⟨c2,h⟩:=ifSome h
   refine rnR hE 3 [] [] (kp [1,4,5,6]) (kq [0] ++ [(1,.var 1 [.keep,.osl ((x ++ ([(IntKind.u16.wrap ((a.getD ((i).toNat) 0)))]:List Int)).length)]),(195,.arr 195 ((x ++ ([(IntKind.u16.wrap ((a.getD ((i).toNat) 0)))]:List Int)).length) (fun zi=>(cU .u16) ((x ++ ([(IntKind.u16.wrap ((a.getD ((i).toNat) 0)))]:List Int)).getD zi 0)))]) 243 (pc o1 (pc c (pc (Eq.refl x.length) (pc c2 (pc (z1 1) (pc (show ∀ zi,zi < 1→AV.oneL ((fun zi=>([[(a16 (IntKind.u16.wrap ((a.getD ((i).toNat) 0))))]]:List (List AV)).getD zi []) (addz 0 zi))=true from (oneN rfl)) (pc o1 (pc (show (x.length+1)=(x ++ ([(IntKind.u16.wrap ((a.getD ((i).toNat) 0)))]:List Int)).length from (len_app_raw rfl rfl)) (pc (show x.length+1=(x ++ ([(IntKind.u16.wrap ((a.getD ((i).toNat) 0)))]:List Int)).length from (len_app_raw rfl rfl)) (pc (show ∀ zi,zi < (x ++ ([(IntKind.u16.wrap ((a.getD ((i).toNat) 0)))]:List Int)).length→(fun zi=>(cU .u16) ((x ++ ([(IntKind.u16.wrap ((a.getD ((i).toNat) 0)))]:List Int)).getD zi 0)) zi=((fun zm=>if zm < x.length then (fun zi=>(cU .u16) (x.getD zi 0)) zm else (fun zi=>([[(a16 (IntKind.u16.wrap ((a.getD ((i).toNat) 0))))]]:List (List AV)).getD zi []) (zm - x.length))) zi from (get_app_raw (cU .u16) 0 x ([(IntKind.u16.wrap ((a.getD ((i).toNat) 0)))]:List Int) rfl (fun _ _=>rfl) (fun zq hzq=>get_chunk (cU .u16) 0 ([(IntKind.u16.wrap ((a.getD ((i).toNat) 0)))]:List Int) zq hzq))) pn)))))))))) ?_
   refine rnR hE 1 [] [] (kp [1,4,5,6]) (kq [0,1,195]) 291 pn ?_
   exact rnW hE 1 [] (kp [1,4,5,6]) (kq [0,1] ++ [(2,.keep 195)]) 3 pn (ih _ _ _ h E hE)
  ·refine rnR hE 2 [] [] (kp [4]) (kq [0,2]) 99 (pc o1 (pc o1 pn)) ?_
   obtain rfl:=osI h
   exact rnT hE 0 Tryz.f103 [2] (kp [4]) [(16,.var 0 [.keep,.sl (x.length) (fun zi=>(cU .u16) (x.getD zi 0))])] 99 (pc (Eq.refl x.length) (pc (z1 x.length) (pc (show ∀ zi,zi < x.length→(fun zi=>(cU .u16) (x.getD zi 0)) zi=(fun zi=>(cU .u16) (x.getD zi 0)) (addz 0 zi) from (fun _ _=>rfl)) pn))) [16] (pc o1 pn)
theorem g_r01_made_ok (N:Nat) (neg:Bool) (a:List Int) (r:TInt) (h:g_r01_made N neg a=some r):Sd 103 [(aB neg),(encL cI 0 a)] [] 0 (.agg (TIc r)) []:=by
 unfold g_r01_made at h
 refine sor (fu:=Tryz.f103) (c:=C_83 1) (nt:=31) (by kernel_rfl) (by kernel_rfl) (by kernel_rfl) (by kernel_rfl) (fun hm=>rfl) ?_
 intro E hE
 refine rnR hE 1 [] [] (kp [0,1,4]) (kq [0]) 16 pn ?_
 refine rnR hE 1 [] [] (kp [1,4,5]) (kq [0,128]) 160 (pc (fun hg:neg=true=>(pc hg pn)) (pc (fun hg:neg=true=>(pc hg pn)) (pc (fun hq:neg=true=>(pc hq pn)) (pc o1 pn)))) ?_
 refine rnR hE 2 [] [] (kp [1,4,5,6]) (kq [0,128]) 176 pn ?_
 exact rnW hE 2 [] (kp [1,4,5,6]) (kq [0] ++ [(1,.var 128 [.keep,.nilos 2]),(2,.nil 1 (fun zi=>(cU .u16) (([]:List Int).getD zi 0)))]) 3 pn (g_r01_made_L1_ok N _ _ N _ _ _ h E hE)
noncomputable def C_82 (n:Nat):Code:=cat (bodyOf Tryz.f97) (pth n)
def g_r01_Of_L1_H (N:Nat) (n:Int) (K:(List Int)→Int→Option (TInt)):Prop:=∀ (a:List Int) (u:Int) (r:TInt),K a u=some r→∀ E,EnvOk E 0→Runs Tryz.prog E 97 25 (SPost E [] (.agg (TIc r))) [.code (C_82 248),.inLoop (C_82 248),.inBlock 0,.code (C_82 63)] ⟨[(0,(aI n)),(2,(.op 0 0 0)),(3,(.os 1 0 a.length)),(4,(a64 u))],[(0,vO 2 [(aB false),.nil]),(1,aO 1 cI 0 a)],2⟩
theorem g_r01_Of_L1_ok (N:Nat) (n:Int) (fuel:Nat):g_r01_Of_L1_H N n (g_r01_Of_L1 N n fuel):=by
 induction fuel with
 | zero=>intro _ _ r h;rw [g_r01_Of_L1.eq_1] at h;cases h
 | succ fuel ih =>
  intro a u r h E hE
  rw [g_r01_Of_L1.eq_2] at h
  refine rnR hE 2 [] [] (kp [0,2,3,4,12]) (kq [0,1]) 34 pn ?_
  refine rnC 0 12 h (fun hq3 h=>?_) (fun hq3 h=>?_)
  ·obtain ⟨c,h⟩:=ifSome h
   refine rnR hE 3 [] [] (kp [0,2] ++ [(3,.osl ((a ++ ([(w64 ((u.tmod 65536)))]:List Int)).length))] ++ kp [4]) (kq [0] ++ [(114,.arr 114 ((a ++ ([(w64 ((u.tmod 65536)))]:List Int)).length) (fun zi=>cI ((a ++ ([(w64 ((u.tmod 65536)))]:List Int)).getD zi 0)))]) 146 (pc (show (65536:Int)≠0 by decide) (pc (Eq.refl a.length) (pc c (pc (z1 1) (pc (show ∀ zi,zi < 1→AV.oneL ((fun zi=>([[(aI (w64 ((u.tmod 65536))))]]:List (List AV)).getD zi []) (addz 0 zi))=true from (oneN rfl)) (pc (show (a.length+1)=(a ++ ([(w64 ((u.tmod 65536)))]:List Int)).length from (len_app_raw rfl rfl)) (pc (show a.length+1=(a ++ ([(w64 ((u.tmod 65536)))]:List Int)).length from (len_app_raw rfl rfl)) (pc (show ∀ zi,zi < (a ++ ([(w64 ((u.tmod 65536)))]:List Int)).length→(fun zi=>cI ((a ++ ([(w64 ((u.tmod 65536)))]:List Int)).getD zi 0)) zi=((fun zm=>if zm < a.length then (fun zi=>cI (a.getD zi 0)) zm else (fun zi=>([[(aI (w64 ((u.tmod 65536))))]]:List (List AV)).getD zi []) (zm - a.length))) zi from (get_app_raw cI 0 a ([(w64 ((u.tmod 65536)))]:List Int) rfl (fun _ _=>rfl) (fun zq hzq=>get_chunk cI 0 ([(w64 ((u.tmod 65536)))]:List Int) zq hzq))) pn)))))))) ?_
   refine rnR hE 1 [] [] (kp [0,2,3,4]) (kq [0,114]) 194 (pc (show (65536:Int)≠0 by decide) pn) ?_
   exact rnW hE 1 [] (kp [0,2,3,4]) (kq [0] ++ [(1,.keep 114)]) 2 pn (ih _ _ _ h E hE)
  ·obtain ⟨rmade,hr,h⟩:=bsm h
   refine rnR hE 2 [(3,⟨[],true,(.agg (TIc rmade)),[],0,true,none⟩)] [] (kp [2]) (kq [0]) 114 (pc (g_r01_made_ok N (decide (n < 0)) a rmade hr) (pc (z1 a.length) (pc o1 pn))) ?_
   obtain rfl:=osI h
   exact rnT hE 0 Tryz.f97 [] (kp [2]) [(16,.keep 0)] 114 pn [16] (pc o1 pn)
theorem g_r01_Of_ok (N:Nat) (n:Int) (r:TInt) (h:g_r01_Of N n=some r):Sd 97 [(aI n)] [] 0 (.agg (TIc r)) []:=by
 unfold g_r01_Of at h
 refine sor (fu:=Tryz.f97) (c:=C_82 1) (nt:=25) (by kernel_rfl) (by kernel_rfl) (by kernel_rfl) (by kernel_rfl) (fun hm=>rfl) ?_
 intro E hE
 refine rnR hE 1 [] [] (kp [0,2]) (kq [0]) 16 pn ?_
 refine rnR hE 1 [] [] (kp [0,2,3]) (kq [0]) 32 pn ?_
 refine rnR hE 1 [] [] (kp [0,2,3,4]) (kq [0]) 80 pn ?_
 refine rnR hE 2 [] [] (kp [0,2,3,4,8]) (kq [0]) 112 pn ?_
 refine rnC 0 8 h (fun hq2 h=>?_) (fun hq2 h=>?_)
 ·refine rnR hE 0 [] [] (kp [0,2,3,4]) (kq [0]) 160 pn ?_
  exact rnW hE 3 [] (kp [0,2] ++ [(3,.nilos 1)] ++ kp [4]) (kq [0] ++ [(1,.nil 1 (fun zi=>cI (([]:List Int).getD zi 0)))]) 2 pn (g_r01_Of_L1_ok N _ N _ _ _ h E hE)
 ·exact rnW hE 4 [] (kp [0,2] ++ [(3,.nilos 1)] ++ kp [4]) (kq [0] ++ [(1,.nil 1 (fun zi=>cI (([]:List Int).getD zi 0)))]) 2 pn (g_r01_Of_L1_ok N _ N _ _ _ h E hE)
noncomputable def C_81 (n:Nat):Code:=cat (bodyOf Tryz.f82) (pth n)
theorem g_r01_Q_ok (N:Nat) (n:Int) (r:TRat) (h:g_r01_Q N n=some r):Sd 82 [(aI n)] [] 0 (.agg (TRc r)) []:=by
 unfold g_r01_Q at h
 refine sor (fu:=Tryz.f82) (c:=C_81 1) (nt:=7) (by kernel_rfl) (by kernel_rfl) (by kernel_rfl) (by kernel_rfl) (fun hm=>rfl) ?_
 intro E hE
 refine rnR hE 1 [] [] (kp [0,2]) (kq [0]) 16 pn ?_
 obtain ⟨rOf,hr,h⟩:=bsm h
 obtain ⟨rOf2,hr2,h⟩:=bsm h
 refine rnR hE 1 [(1,⟨[],true,(.agg (TIc rOf)),[],0,false,none⟩),(2,⟨[],true,(.agg (TIc rOf2)),[],0,false,none⟩)] [] (kp [2]) (kq [0]) 96 (pc (g_r01_Of_ok N n rOf hr) (pc (g_r01_Of_ok N 1 rOf2 hr2) (pc o1 pn))) ?_
 obtain rfl:=osI h
 exact rnT hE 0 Tryz.f82 [] (kp [2]) [(16,.keep 0)] 96 pn [16] (pc o1 pn)
noncomputable def C_88 (n:Nat):Code:=cat (bodyOf Tryz.f110) (pth n)
def g_r01_trim_L1_H (N:Nat) (a:List Int) (K:Int→Option ((List Int))):Prop:=∀ (n:Int) (r:(List Int)),K n=some r→∀ E,EnvOk E 0→Runs Tryz.prog E 110 23 (SPost E [] (encL cI 0 r)) [.code (C_88 56),.inLoop (C_88 56),.inBlock 0,.code (C_88 15)] ⟨[(0,(encL cI 0 a)),(3,(aI n))],[],0⟩
theorem g_r01_trim_L1_ok (N:Nat) (a:List Int) (fuel:Nat):g_r01_trim_L1_H N a (g_r01_trim_L1 N a fuel):=by
 induction fuel with
 | zero=>intro _ r h;rw [g_r01_trim_L1.eq_1] at h;cases h
 | succ fuel ih =>
  intro n r h E hE
  rw [g_r01_trim_L1.eq_2] at h
  obtain ⟨c,h⟩:=ifSome h
  refine rnR hE 2 [] [] (kp [0,3,15]) [] 160 (pc (fun hg:(decide (n > 0))=true=>(pc hg pn)) (pc (fun hg:(decide (n > 0))=true=>(pc hg (pc hg (pc (c hg) pn)))) (pc (fun hg:(decide (n > 0))=true=>(pc hg pn)) (pc (fun hg:(decide (n > 0))=true=>(pc hg pn)) (pc (fun hq:(decide (n > 0))=true=>(pc hq pn)) pn))))) ?_
  refine rnC 0 15 h (fun hq2 h=>?_) (fun hq2 h=>?_)
  ·refine rnR hE 2 [] [] (kp [0,3]) [] 208 pn ?_
   exact rnW hE 2 [] (kp [0,3]) [] 0 pn (ih _ _ h E hE)
  ·obtain ⟨c2,h⟩:=ifSome h
   obtain ⟨c3,h⟩:=ifSome h
   obtain ⟨c4,h⟩:=ifSome h
   refine rnR hE 2 [] [] [(2,.osl ((([]:List Int) ++ ((a.take ((n).toNat)).drop 0)).length))] [(224,.arr 224 ((([]:List Int) ++ ((a.take ((n).toNat)).drop 0)).length) (fun zi=>cI ((([]:List Int) ++ ((a.take ((n).toNat)).drop 0)).getD zi 0)))] 256 (pc c2 (pc c3 (pc (Eq.refl 0) (pc c4 (pc (show ∀ zi,zi < ((n).toNat - 0)→AV.oneL ((fun zi=>cI (a.getD (addz 0 zi) 0)) zi)=true from (fun _ _=>rfl)) (pc (show (0+((n).toNat - 0))=(([]:List Int) ++ ((a.take ((n).toNat)).drop 0)).length from (len_app_raw rfl (len_ext' a 0 ((n).toNat) c2))) (pc (show 0+((n).toNat - 0)=(([]:List Int) ++ ((a.take ((n).toNat)).drop 0)).length from (len_app_raw rfl (len_ext' a 0 ((n).toNat) c2))) (pc (show ∀ zi,zi < (([]:List Int) ++ ((a.take ((n).toNat)).drop 0)).length→(fun zi=>cI ((([]:List Int) ++ ((a.take ((n).toNat)).drop 0)).getD zi 0)) zi=((fun zm=>if zm < 0 then (fun _=>[]) zm else (fun zi=>cI (a.getD (addz 0 zi) 0)) (zm - 0))) zi from (get_app_raw cI 0 ([]:List Int) ((a.take ((n).toNat)).drop 0) rfl (fun zq hzq=>absurd hzq (Nat.not_lt_zero _)) (fun zq hzq=>get_ext cI 0 a 0 ((n).toNat) zq hzq))) pn)))))))) ?_
   obtain rfl:=osI h
   exact rnT hE 0 Tryz.f110 [224] [(2,.sl ((([]:List Int) ++ ((a.take ((n).toNat)).drop 0)).length) (fun zi=>cI ((([]:List Int) ++ ((a.take ((n).toNat)).drop 0)).getD zi 0)))] [] 256 (pc (Eq.refl ((([]:List Int) ++ ((a.take ((n).toNat)).drop 0)).length)) (pc (z1 ((([]:List Int) ++ ((a.take ((n).toNat)).drop 0)).length)) (pc (show ∀ zi,zi < (([]:List Int) ++ ((a.take ((n).toNat)).drop 0)).length→(fun zi=>cI ((([]:List Int) ++ ((a.take ((n).toNat)).drop 0)).getD zi 0)) zi=(fun zi=>cI ((([]:List Int) ++ ((a.take ((n).toNat)).drop 0)).getD zi 0)) (addz 0 zi) from (fun _ _=>rfl)) pn))) [] pn
theorem g_r01_trim_ok (N:Nat) (a:List Int) (r:(List Int)) (h:g_r01_trim N a=some r):Sd 110 [(encL cI 0 a)] [] 0 (encL cI 0 r) []:=by
 unfold g_r01_trim at h
 refine sor (fu:=Tryz.f110) (c:=C_88 1) (nt:=23) (by kernel_rfl) (by kernel_rfl) (by kernel_rfl) (by kernel_rfl) (fun hm=>rfl) ?_
 intro E hE
 refine rnR hE 1 [] [] (kp [0]) [] 16 pn ?_
 refine rnR hE 1 [] [] (kp [0,3]) [] 64 pn ?_
 exact rnW hE 3 [] (kp [0,3]) [] 0 pn (g_r01_trim_L1_ok N _ N _ _ h E hE)
noncomputable def C_87 (n:Nat):Code:=cat (bodyOf Tryz.f101) (pth n)
def g_r01_read_L1_H (N:Nat) (l:List Int) (K:(List Int)→Int→Option ((List Int))):Prop:=∀ (a:List Int) (i:Int) (r:(List Int)),K a i=some r→∀ E,EnvOk E 0→Runs Tryz.prog E 101 21 (SPost E [] (encL cI 0 r)) [.code (C_87 116),.inLoop (C_87 116),.inBlock 0,.code (C_87 15)] ⟨[(0,(eU l)),(3,(.os 0 0 a.length)),(4,(aI i))],[(0,aO 1 cI 0 a)],1⟩
theorem g_r01_read_L1_ok (N:Nat) (l:List Int) (fuel:Nat):g_r01_read_L1_H N l (g_r01_read_L1 N l fuel):=by
 induction fuel with
 | zero=>intro _ _ r h;rw [g_r01_read_L1.eq_1] at h;cases h
 | succ fuel ih =>
  intro a i r h E hE
  rw [g_r01_read_L1.eq_2] at h
  refine rnR hE 2 [] [] (kp [0,3,4,8]) (kq [0]) 65 pn ?_
  refine rnC 0 8 h (fun hq2 h=>?_) (fun hq2 h=>?_)
  ·obtain ⟨c,h⟩:=ifSome h
   obtain ⟨c2,h⟩:=ifSome h
   refine rnR hE 3 [] [] (kp [0] ++ [(3,.osl ((a ++ ([(w64 ((l.getD ((i).toNat) 0)))]:List Int)).length))] ++ kp [4]) [(177,.arr 177 ((a ++ ([(w64 ((l.getD ((i).toNat) 0)))]:List Int)).length) (fun zi=>cI ((a ++ ([(w64 ((l.getD ((i).toNat) 0)))]:List Int)).getD zi 0)))] 209 (pc c (pc (Eq.refl a.length) (pc c2 (pc (z1 1) (pc (show ∀ zi,zi < 1→AV.oneL ((fun zi=>([[(aI (w64 ((l.getD ((i).toNat) 0))))]]:List (List AV)).getD zi []) (addz 0 zi))=true from (oneN rfl)) (pc (show (a.length+1)=(a ++ ([(w64 ((l.getD ((i).toNat) 0)))]:List Int)).length from (len_app_raw rfl rfl)) (pc (show a.length+1=(a ++ ([(w64 ((l.getD ((i).toNat) 0)))]:List Int)).length from (len_app_raw rfl rfl)) (pc (show ∀ zi,zi < (a ++ ([(w64 ((l.getD ((i).toNat) 0)))]:List Int)).length→(fun zi=>cI ((a ++ ([(w64 ((l.getD ((i).toNat) 0)))]:List Int)).getD zi 0)) zi=((fun zm=>if zm < a.length then (fun zi=>cI (a.getD zi 0)) zm else (fun zi=>([[(aI (w64 ((l.getD ((i).toNat) 0))))]]:List (List AV)).getD zi []) (zm - a.length))) zi from (get_app_raw cI 0 a ([(w64 ((l.getD ((i).toNat) 0)))]:List Int) rfl (fun _ _=>rfl) (fun zq hzq=>get_chunk cI 0 ([(w64 ((l.getD ((i).toNat) 0)))]:List Int) zq hzq))) pn)))))))) ?_
   refine rnR hE 1 [] [] (kp [0,3,4]) (kq [177]) 257 pn ?_
   exact rnW hE 1 [] (kp [0,3,4]) [(0,.keep 177)] 1 pn (ih _ _ _ h E hE)
  ·obtain ⟨rtrim,hr,h⟩:=bsm h
   refine rnR hE 2 [(1,⟨[],true,(encL cI 0 rtrim),[],0,true,none⟩)] [] (kp [2]) [] 113 (pc (g_r01_trim_ok N a rtrim hr) (pc (z1 a.length) pn)) ?_
   obtain rfl:=osI h
   exact rnT hE 0 Tryz.f101 [] (kp [2]) [] 113 pn [] pn
theorem g_r01_read_ok (N:Nat) (l:List Int) (r:(List Int)) (h:g_r01_read N l=some r):Sd 101 [(eU l)] [] 0 (encL cI 0 r) []:=by
 unfold g_r01_read at h
 refine sor (fu:=Tryz.f101) (c:=C_87 1) (nt:=21) (by kernel_rfl) (by kernel_rfl) (by kernel_rfl) (by kernel_rfl) (fun hm=>rfl) ?_
 intro E hE
 refine rnR hE 1 [] [] (kp [0]) [] 16 pn ?_
 refine rnR hE 1 [] [] (kp [0,3]) [] 32 pn ?_
 refine rnR hE 2 [] [] (kp [0,3,4]) [] 48 pn ?_
 exact rnW hE 2 [] (kp [0] ++ [(3,.nilos 0)] ++ kp [4]) [(0,.nil 1 (fun zi=>cI (([]:List Int).getD zi 0)))] 1 pn (g_r01_read_L1_ok N _ N _ _ _ h E hE)
noncomputable def C_92 (n:Nat):Code:=cat (bodyOf Tryz.f112) (pth n)
theorem g_r01_digit_ok (N:Nat) (a:List Int) (i:Int) (r:Int) (h:g_r01_digit N a i=some r):Sd 112 [(encL cI 0 a),(aI i)] [] 0 (aI r) []:=by
 unfold g_r01_digit at h
 refine sor (fu:=Tryz.f112) (c:=C_92 1) (nt:=13) (by kernel_rfl) (by kernel_rfl) (by kernel_rfl) (by kernel_rfl) (fun hm=>rfl) ?_
 intro E hE
 refine rnR hE 1 [] [] (kp [0,1]) [] 16 pn ?_
 refine rnR hE 2 [] [] (kp [0,1,8]) [] 80 pn ?_
 refine rnC 0 8 h (fun hq2 h=>?_) (fun hq2 h=>?_)
 ·obtain ⟨c,h⟩:=ifSome h
  refine rnR hE 1 [] [] (kp [4]) [] 160 (pc c pn) ?_
  obtain rfl:=osI h
  exact rnT hE 0 Tryz.f112 [] (kp [4]) [] 160 pn [] pn
 ·refine rnR hE 2 [] [] (kp [4]) [] 96 pn ?_
  obtain rfl:=osI h
  exact rnT hE 0 Tryz.f112 [] (kp [4]) [] 96 pn [] pn
noncomputable def C_91 (n:Nat):Code:=cat (bodyOf Tryz.f109) (pth n)
def g_r01_times_L1_H (N:Nat) (a:List Int) (b:List Int) (K:(List Int)→Int→Option ((List Int))):Prop:=∀ (out:List Int) (i:Int) (r:(List Int)),K out i=some r→∀ E,EnvOk E 0→Runs Tryz.prog E 109 61 (SPost E [] (encL cI 0 r)) [.code (C_91 116),.inLoop (C_91 116),.inBlock 0,.code (C_91 15)] ⟨[(0,(encL cI 0 a)),(1,(encL cI 0 b)),(5,(.os 0 0 out.length)),(6,(aI i))],[(0,aO 1 cI 0 out)],1⟩
def g_r01_times_L2_H (N:Nat) (a:List Int) (b:List Int) (i:Int) (K:(List Int)→Int→Int→Option ((List Int))):Prop:=∀ (out2:List Int) (carry:Int) (k:Int) (r:(List Int)),K out2 carry k=some r→∀ E,EnvOk E 0→Runs Tryz.prog E 109 61 (SPost E [] (encL cI 0 r)) [.code (C_91 14924),.inLoop (C_91 14924),.inBlock 2,.inBlock 1,.code (C_91 467),.inLoop (C_91 116),.inBlock 0,.code (C_91 15)] ⟨[(0,(encL cI 0 a)),(1,(encL cI 0 b)),(5,(.os 0 0 out2.length)),(6,(aI i)),(7,(aI carry)),(8,(aI k))],[(0,aO 1 cI 0 out2)],1⟩
theorem g_r01_times_L2_ok (N:Nat) (a:List Int) (b:List Int) (i:Int) (K_g_r01_times_L1:(List Int)→Int→Option ((List Int))) (hK_g_r01_times_L1:g_r01_times_L1_H N a b K_g_r01_times_L1) (fuel:Nat):g_r01_times_L2_H N a b i (g_r01_times_L2 N a b i K_g_r01_times_L1 fuel):=by
 induction fuel with
 | zero=>intro _ _ _ r h;rw [g_r01_times_L2.eq_1] at h;cases h
 | succ fuel ih =>
  intro out2 carry k r h E hE
  rw [g_r01_times_L2.eq_2] at h
  refine rnR hE 2 [] [] (kp [0,1,5,6,7,8,30]) (kq [0]) 129 (pc (fun hg:(!(decide (k < ((b.length:Nat):Int))))=true=>(pc hg pn)) (pc (fun hq:(!(decide (k < ((b.length:Nat):Int))))=true=>(pc hq pn)) pn)) ?_
  refine rnC 0 30 h (fun hq3 h=>?_) (fun hq3 h=>?_)
  ·obtain ⟨c2,h⟩:=ifSome h
   obtain ⟨c3,h⟩:=ifSome h
   obtain ⟨rdigit,hr,h⟩:=bsm h
   refine rnR hE 4 [(12,⟨[],true,(aI rdigit),[],0,false,none⟩)] [] (kp [0,1,5,6,8,9]) (kq [0]) 417 (pc c2 (pc (ltOf c2) (pc c3 (pc (g_r01_digit_ok N b k rdigit hr) pn)))) ?_
   refine rnR hE 1 [] [] (kp [0,1] ++ [(5,.osl ((out2.set ((w64 (i+k)).toNat) ((w64 ((w64 ((out2.getD ((w64 (i+k)).toNat) 0)+(w64 ((a.getD ((i).toNat) 0) * rdigit))))+carry)).tmod 65536)).length))] ++ kp [6,8,9]) [(0,.arr 0 ((out2.set ((w64 (i+k)).toNat) ((w64 ((w64 ((out2.getD ((w64 (i+k)).toNat) 0)+(w64 ((a.getD ((i).toNat) 0) * rdigit))))+carry)).tmod 65536)).length) (fun zi=>cI ((out2.set ((w64 (i+k)).toNat) ((w64 ((w64 ((out2.getD ((w64 (i+k)).toNat) 0)+(w64 ((a.getD ((i).toNat) 0) * rdigit))))+carry)).tmod 65536)).getD zi 0)))] 545 (pc (show (65536:Int)≠0 by decide) (pc c2 (pc (ltOf c2) (pc (len_set0 out2 ((w64 (i+k)).toNat) ((w64 ((w64 ((out2.getD ((w64 (i+k)).toNat) 0)+(w64 ((a.getD ((i).toNat) 0) * rdigit))))+carry)).tmod 65536)) (pc (len_set0 out2 ((w64 (i+k)).toNat) ((w64 ((w64 ((out2.getD ((w64 (i+k)).toNat) 0)+(w64 ((a.getD ((i).toNat) 0) * rdigit))))+carry)).tmod 65536)) (pc (get_set0 cI 0 out2 ((w64 (i+k)).toNat) ((w64 ((w64 ((out2.getD ((w64 (i+k)).toNat) 0)+(w64 ((a.getD ((i).toNat) 0) * rdigit))))+carry)).tmod 65536)) pn)))))) ?_
   refine rnR hE 0 [] [] (kp [0,1,5,6,7,8]) (kq [0]) 593 (pc (show (65536:Int)≠0 by decide) pn) ?_
   refine rnR hE 1 [] [] (kp [0,1,5,6,7,8]) (kq [0]) 641 pn ?_
   exact rnW hE 1 [] (kp [0,1,5,6,7,8]) (kq [0]) 1 pn (ih _ _ _ _ h E hE)
  ·refine rnR hE 2 [] [] (kp [0,1,5,6]) (kq [0]) 177 pn ?_
   exact rnW hE 1 [] (kp [0,1,5,6]) (kq [0]) 1 pn (hK_g_r01_times_L1 _ _ _ h E hE)
theorem g_r01_times_L1_ok (N:Nat) (a:List Int) (b:List Int) (fuel:Nat):g_r01_times_L1_H N a b (g_r01_times_L1 N a b fuel):=by
 induction fuel with
 | zero=>intro _ _ r h;rw [g_r01_times_L1.eq_1] at h;cases h
 | succ fuel ih =>
  intro out i r h E hE
  rw [g_r01_times_L1.eq_2] at h
  refine rnR hE 2 [] [] (kp [0,1,5,6,20]) (kq [0]) 65 pn ?_
  refine rnC 0 20 h (fun hq2 h=>?_) (fun hq2 h=>?_)
  ·refine rnR hE 4 [] [] (kp [0,1,5,6,7]) (kq [0]) 81 pn ?_
   refine rnR hE 1 [] [] (kp [0,1,5,6,7,8]) (kq [0]) 97 pn ?_
   exact rnW hE 2 [] (kp [0,1,5,6,7,8]) (kq [0]) 1 pn (g_r01_times_L2_ok N _ _ _ _ ih N _ _ _ _ h E hE)
  ·obtain ⟨rtrim,hr2,h⟩:=bsm h
   refine rnR hE 2 [(1,⟨[],true,(encL cI 0 rtrim),[],0,true,none⟩)] [] (kp [4]) [] 113 (pc (g_r01_trim_ok N out rtrim hr2) (pc (z1 out.length) pn)) ?_
   obtain rfl:=osI h
   exact rnT hE 0 Tryz.f109 [] (kp [4]) [] 113 pn [] pn
theorem g_r01_times_ok (N:Nat) (a:List Int) (b:List Int) (r:(List Int)) (h:g_r01_times N a b=some r):Sd 109 [(encL cI 0 a),(encL cI 0 b)] [] 0 (encL cI 0 r) []:=by
 unfold g_r01_times at h
 refine sor (fu:=Tryz.f109) (c:=C_91 1) (nt:=61) (by kernel_rfl) (by kernel_rfl) (by kernel_rfl) (by kernel_rfl) (fun hm=>rfl) ?_
 intro E hE
 refine rnR hE 1 [] [] (kp [0,1]) [] 16 pn ?_
 obtain ⟨c,h⟩:=ifSome h
 refine rnR hE 1 [] [] (kp [0,1] ++ [(5,.osl ((List.replicate ((w64 ((w64 (((a.length:Nat):Int)+((b.length:Nat):Int)))+1)).toNat) 0:List Int).length))]) [(112,.arr 112 ((List.replicate ((w64 ((w64 (((a.length:Nat):Int)+((b.length:Nat):Int)))+1)).toNat) 0:List Int).length) (fun zi=>cI ((List.replicate ((w64 ((w64 (((a.length:Nat):Int)+((b.length:Nat):Int)))+1)).toNat) 0:List Int).getD zi 0)))] 144 (pc (show 0≤(w64 ((w64 (((a.length:Nat):Int)+((b.length:Nat):Int)))+1)) from c.1) (pc (show (w64 ((w64 (((a.length:Nat):Int)+((b.length:Nat):Int)))+1))≤(w64 ((w64 (((a.length:Nat):Int)+((b.length:Nat):Int)))+1)) from (Int.le_refl _)) (pc (show (8:Int) * (w64 ((w64 (((a.length:Nat):Int)+((b.length:Nat):Int)))+1))≤281474976710656 from c.2.1) (pc (show (w64 ((w64 (((a.length:Nat):Int)+((b.length:Nat):Int)))+1))≤9223372036854775807 from c.2.2) (pc (show (w64 ((w64 (((a.length:Nat):Int)+((b.length:Nat):Int)))+1)).toNat=(List.replicate ((w64 ((w64 (((a.length:Nat):Int)+((b.length:Nat):Int)))+1)).toNat) 0:List Int).length from (List.length_replicate).symm) (pc (show (w64 ((w64 (((a.length:Nat):Int)+((b.length:Nat):Int)))+1)).toNat=(List.replicate ((w64 ((w64 (((a.length:Nat):Int)+((b.length:Nat):Int)))+1)).toNat) 0:List Int).length from (List.length_replicate).symm) (pc (show ∀ zi,zi < (List.replicate ((w64 ((w64 (((a.length:Nat):Int)+((b.length:Nat):Int)))+1)).toNat) 0:List Int).length→(fun zi=>cI ((List.replicate ((w64 ((w64 (((a.length:Nat):Int)+((b.length:Nat):Int)))+1)).toNat) 0:List Int).getD zi 0)) zi=(fun _=>[(aI 0)]) zi from (fun zq hzq=>get_rep cI 0 0 ((w64 ((w64 (((a.length:Nat):Int)+((b.length:Nat):Int)))+1)).toNat) zq hzq)) pn))))))) ?_
 refine rnR hE 2 [] [] (kp [0,1,5,6]) (kq [112]) 160 pn ?_
 exact rnW hE 2 [] (kp [0,1,5,6]) [(0,.keep 112)] 1 pn (g_r01_times_L1_ok N _ _ N _ _ _ h E hE)
noncomputable def C_93 (n:Nat):Code:=cat (bodyOf Tryz.f107) (pth n)
def g_r01_compare_L1_H (N:Nat) (a:List Int) (b:List Int) (K:Int→Option (Int)):Prop:=∀ (i:Int) (r:Int),K i=some r→∀ E,EnvOk E 0→Runs Tryz.prog E 107 41 (SPost E [] (aI r)) [.code (C_93 116),.inLoop (C_93 116),.inBlock 0,.code (C_93 15)] ⟨[(0,(encL cI 0 a)),(1,(encL cI 0 b)),(5,(aI i))],[],0⟩
theorem g_r01_compare_L1_ok (N:Nat) (a:List Int) (b:List Int) (fuel:Nat):g_r01_compare_L1_H N a b (g_r01_compare_L1 N a b fuel):=by
 induction fuel with
 | zero=>intro _ r h;rw [g_r01_compare_L1.eq_1] at h;cases h
 | succ fuel ih =>
  intro i r h E hE
  rw [g_r01_compare_L1.eq_2] at h
  refine rnR hE 2 [] [] (kp [0,1,5,20]) [] 32 pn ?_
  refine rnC 0 20 h (fun hq3 h=>?_) (fun hq3 h=>?_)
  ·obtain ⟨c,h⟩:=ifSome h
   obtain ⟨c2,h⟩:=ifSome h
   refine rnR hE 4 [] [] (kp [0,1,5,31]) [] 176 (pc c (pc c2 pn)) ?_
   refine rnC 0 31 h (fun hq4 h=>?_) (fun hq4 h=>?_)
   ·refine rnR hE 1 [] [] (kp [4]) [] 336 (pc c (pc c2 pn)) ?_
    obtain rfl:=osI h
    exact rnT hE 0 Tryz.f107 [] (kp [4]) [] 336 pn [] pn
   ·refine rnR hE 2 [] [] (kp [0,1,5]) [] 224 pn ?_
    exact rnW hE 1 [] (kp [0,1,5]) [] 0 pn (ih _ _ h E hE)
  ·refine rnR hE 2 [] [] (kp [4]) [] 48 pn ?_
   obtain rfl:=osI h
   exact rnT hE 0 Tryz.f107 [] (kp [4]) [] 48 pn [] pn
theorem g_r01_compare_ok (N:Nat) (a:List Int) (b:List Int) (r:Int) (h:g_r01_compare N a b=some r):Sd 107 [(encL cI 0 a),(encL cI 0 b)] [] 0 (aI r) []:=by
 unfold g_r01_compare at h
 refine sor (fu:=Tryz.f107) (c:=C_93 1) (nt:=41) (by kernel_rfl) (by kernel_rfl) (by kernel_rfl) (by kernel_rfl) (fun hm=>rfl) ?_
 intro E hE
 refine rnR hE 1 [] [] (kp [0,1]) [] 16 pn ?_
 refine rnR hE 2 [] [] (kp [0,1,10]) [] 96 pn ?_
 refine rnC 0 10 h (fun hq2 h=>?_) (fun hq2 h=>?_)
 ·refine rnR hE 1 [] [] (kp [4]) [] 192 pn ?_
  obtain rfl:=osI h
  exact rnT hE 0 Tryz.f107 [] (kp [4]) [] 192 pn [] pn
 ·refine rnR hE 3 [] [] (kp [0,1,5]) [] 160 pn ?_
  exact rnW hE 2 [] (kp [0,1,5]) [] 0 pn (g_r01_compare_L1_ok N _ _ N _ _ h E hE)
noncomputable def C_94 (n:Nat):Code:=cat (bodyOf Tryz.f108) (pth n)
def g_r01_minus_L1_H (N:Nat) (a:List Int) (b:List Int) (K:(List Int)→Int→Int→Option ((List Int))):Prop:=∀ (out:List Int) (borrow:Int) (i:Int) (r:(List Int)),K out borrow i=some r→∀ E,EnvOk E 0→Runs Tryz.prog E 108 35 (SPost E [] (encL cI 0 r)) [.code (C_94 244),.inLoop (C_94 244),.inBlock 0,.code (C_94 31)] ⟨[(0,(encL cI 0 a)),(1,(encL cI 0 b)),(5,(.os 0 0 out.length)),(6,(aI borrow)),(7,(aI i))],[(0,aO 1 cI 0 out)],1⟩
def g_r01_minus_J2_H (N:Nat) (a:List Int) (b:List Int) (out:List Int) (i:Int) (K:Int→Int→Option ((List Int))):Prop:=∀ (borrow2:Int) (s:Int) (r:(List Int)),K borrow2 s=some r→∀ E,EnvOk E 0→Runs Tryz.prog E 108 35 (SPost E [] (encL cI 0 r)) [.code (C_94 15655),.inBlock 1,.code (C_94 979),.inLoop (C_94 244),.inBlock 0,.code (C_94 31)] ⟨[(0,(encL cI 0 a)),(1,(encL cI 0 b)),(5,(.os 0 0 out.length)),(6,(aI borrow2)),(7,(aI i)),(8,(aI s))],[(0,aO 1 cI 0 out)],1⟩
theorem g_r01_minus_J2_ok (N:Nat) (a:List Int) (b:List Int) (out:List Int) (i:Int) (K_g_r01_minus_L1:(List Int)→Int→Int→Option ((List Int))) (hK_g_r01_minus_L1:g_r01_minus_L1_H N a b K_g_r01_minus_L1):g_r01_minus_J2_H N a b out i (g_r01_minus_J2 N a b out i K_g_r01_minus_L1):=by
 intro borrow2 s r h E hE
 unfold g_r01_minus_J2 at h
 obtain ⟨c2,h⟩:=ifSome h
 refine rnR hE 0 [] [] (kp [0,1] ++ [(5,.osl ((out ++ ([s]:List Int)).length))] ++ kp [6,7]) [(49,.arr 49 ((out ++ ([s]:List Int)).length) (fun zi=>cI ((out ++ ([s]:List Int)).getD zi 0)))] 81 (pc (Eq.refl out.length) (pc c2 (pc (z1 1) (pc (show ∀ zi,zi < 1→AV.oneL ((fun zi=>([[(aI s)]]:List (List AV)).getD zi []) (addz 0 zi))=true from (oneN rfl)) (pc (show (out.length+1)=(out ++ ([s]:List Int)).length from (len_app_raw rfl rfl)) (pc (show out.length+1=(out ++ ([s]:List Int)).length from (len_app_raw rfl rfl)) (pc (show ∀ zi,zi < (out ++ ([s]:List Int)).length→(fun zi=>cI ((out ++ ([s]:List Int)).getD zi 0)) zi=((fun zm=>if zm < out.length then (fun zi=>cI (out.getD zi 0)) zm else (fun zi=>([[(aI s)]]:List (List AV)).getD zi []) (zm - out.length))) zi from (get_app_raw cI 0 out ([s]:List Int) rfl (fun _ _=>rfl) (fun zq hzq=>get_chunk cI 0 ([s]:List Int) zq hzq))) pn))))))) ?_
 refine rnR hE 1 [] [] (kp [0,1,5,6,7]) (kq [49]) 129 pn ?_
 exact rnW hE 1 [] (kp [0,1,5,6,7]) [(0,.keep 49)] 1 pn (hK_g_r01_minus_L1 _ _ _ _ h E hE)
theorem g_r01_minus_L1_ok (N:Nat) (a:List Int) (b:List Int) (fuel:Nat):g_r01_minus_L1_H N a b (g_r01_minus_L1 N a b fuel):=by
 induction fuel with
 | zero=>intro _ _ _ r h;rw [g_r01_minus_L1.eq_1] at h;cases h
 | succ fuel ih =>
  intro out borrow i r h E hE
  rw [g_r01_minus_L1.eq_2] at h
  refine rnR hE 2 [] [] (kp [0,1,5,6,7,12]) (kq [0]) 65 pn ?_
  refine rnC 0 12 h (fun hq2 h=>?_) (fun hq2 h=>?_)
  ·obtain ⟨c,h⟩:=ifSome h
   obtain ⟨rdigit,hr,h⟩:=bsm h
   refine rnR hE 4 [(6,⟨[],true,(aI rdigit),[],0,false,none⟩)] [] (kp [0,1,5,7,8]) (kq [0]) 241 (pc c (pc (g_r01_digit_ok N b i rdigit hr) pn)) ?_
   refine rnR hE 1 [] [] (kp [0,1,5,6,7,8]) (kq [0]) 257 pn ?_
   refine rnR hE 2 [] [] (kp [0,1,5,6,7,8,26]) (kq [0]) 289 pn ?_
   refine rnC 0 26 h (fun hq3 h=>?_) (fun hq3 h=>?_)
   ·refine rnR hE 1 [] [] (kp [0,1,5,7,8]) (kq [0]) 337 pn ?_
    refine rnR hE 0 [] [] (kp [0,1,5,6,7,8]) (kq [0]) 353 pn ?_
    exact rnW hE 0 [] (kp [0,1,5,6,7,8]) (kq [0]) 1 pn (g_r01_minus_J2_ok N _ _ _ _ _ ih _ _ _ h E hE)
   ·exact rnW hE 1 [] (kp [0,1,5,6,7,8]) (kq [0]) 1 pn (g_r01_minus_J2_ok N _ _ _ _ _ ih _ _ _ h E hE)
  ·obtain ⟨rtrim,hr2,h⟩:=bsm h
   refine rnR hE 2 [(1,⟨[],true,(encL cI 0 rtrim),[],0,true,none⟩)] [] (kp [4]) [] 113 (pc (g_r01_trim_ok N out rtrim hr2) (pc (z1 out.length) pn)) ?_
   obtain rfl:=osI h
   exact rnT hE 0 Tryz.f108 [] (kp [4]) [] 113 pn [] pn
theorem g_r01_minus_ok (N:Nat) (a:List Int) (b:List Int) (r:(List Int)) (h:g_r01_minus N a b=some r):Sd 108 [(encL cI 0 a),(encL cI 0 b)] [] 0 (encL cI 0 r) []:=by
 unfold g_r01_minus at h
 refine sor (fu:=Tryz.f108) (c:=C_94 1) (nt:=35) (by kernel_rfl) (by kernel_rfl) (by kernel_rfl) (by kernel_rfl) (fun hm=>rfl) ?_
 intro E hE
 refine rnR hE 1 [] [] (kp [0,1]) [] 16 pn ?_
 refine rnR hE 1 [] [] (kp [0,1,5]) [] 32 pn ?_
 refine rnR hE 1 [] [] (kp [0,1,5,6]) [] 48 pn ?_
 refine rnR hE 2 [] [] (kp [0,1,5,6,7]) [] 64 pn ?_
 exact rnW hE 2 [] (kp [0,1] ++ [(5,.nilos 0)] ++ kp [6,7]) [(0,.nil 1 (fun zi=>cI (([]:List Int).getD zi 0)))] 1 pn (g_r01_minus_L1_ok N _ _ N _ _ _ _ h E hE)
noncomputable def C_90 (n:Nat):Code:=cat (bodyOf Tryz.f105) (pth n)
def g_r01_over_L1_H (N:Nat) (a:List Int) (b:List Int) (K:(List Int)→(List Int)→Int→Option ((List Int)×(List Int))):Prop:=∀ (rest:List Int) (q:List Int) (i:Int) (r:(List Int)×(List Int)),K rest q i=some r→∀ E,EnvOk E 0→Runs Tryz.prog E 105 63 (SPost E [] (.tup [(encL cI 0 r.1),(encL cI 0 r.2)])) [.code (C_90 244),.inLoop (C_90 244),.inBlock 0,.code (C_90 31)] ⟨[(0,(encL cI 0 a)),(1,(encL cI 0 b)),(6,(encL cI 0 rest)),(7,(.os 0 0 q.length)),(8,(aI i))],[(0,aO 1 cI 0 q)],1⟩
def g_r01_over_L2_H (N:Nat) (a:List Int) (b:List Int) (q:List Int) (i:Int) (rtrim:(List Int)) (K:Int→Int→Option ((List Int)×(List Int))):Prop:=∀ (lo:Int) (hi:Int) (r:(List Int)×(List Int)),K lo hi=some r→∀ E,EnvOk E 0→Runs Tryz.prog E 105 63 (SPost E [] (.tup [(encL cI 0 r.1),(encL cI 0 r.2)])) [.code (C_90 62616),.inLoop (C_90 62616),.inBlock 2,.code (C_90 15655),.inBlock 1,.code (C_90 979),.inLoop (C_90 244),.inBlock 0,.code (C_90 31)] ⟨[(0,(encL cI 0 a)),(1,(encL cI 0 b)),(6,(encL cI 0 rtrim)),(7,(.os 0 0 q.length)),(8,(aI i)),(9,(aI lo)),(10,(aI hi))],[(0,aO 1 cI 0 q)],1⟩
def g_r01_over_J3_H (N:Nat) (a:List Int) (b:List Int) (q:List Int) (i:Int) (lo:Int) (K:(List Int)→Option ((List Int)×(List Int))):Prop:=∀ (rest2:List Int) (r:(List Int)×(List Int)),K rest2=some r→∀ E,EnvOk E 0→Runs Tryz.prog E 105 63 (SPost E [] (.tup [(encL cI 0 r.1),(encL cI 0 r.2)])) [.code (C_90 979),.inLoop (C_90 244),.inBlock 0,.code (C_90 31)] ⟨[(0,(encL cI 0 a)),(1,(encL cI 0 b)),(6,(encL cI 0 rest2)),(7,(.os 0 0 ((q.set ((i).toNat) lo).length))),(8,(aI i))],[(0,aO 1 cI 0 (q.set ((i).toNat) lo))],1⟩
theorem g_r01_over_J3_ok (N:Nat) (a:List Int) (b:List Int) (q:List Int) (i:Int) (lo:Int) (K_g_r01_over_L1:(List Int)→(List Int)→Int→Option ((List Int)×(List Int))) (hK_g_r01_over_L1:g_r01_over_L1_H N a b K_g_r01_over_L1):g_r01_over_J3_H N a b q i lo (g_r01_over_J3 N a b q i lo K_g_r01_over_L1):=by
 intro rest2 r h E hE
 unfold g_r01_over_J3 at h
 refine rnR hE 0 [] [] (kp [0,1,6,7,8]) (kq [0]) 49 pn ?_
 exact rnW hE 1 [] (kp [0,1,6,7,8]) (kq [0]) 1 pn (hK_g_r01_over_L1 _ _ _ _ h E hE)
theorem g_r01_over_L2_ok (N:Nat) (a:List Int) (b:List Int) (q:List Int) (i:Int) (rtrim:(List Int)) (K_g_r01_over_L1:(List Int)→(List Int)→Int→Option ((List Int)×(List Int))) (hK_g_r01_over_L1:g_r01_over_L1_H N a b K_g_r01_over_L1) (fuel:Nat):g_r01_over_L2_H N a b q i rtrim (g_r01_over_L2 N a b q i rtrim K_g_r01_over_L1 fuel):=by
 induction fuel with
 | zero=>intro _ _ r h;rw [g_r01_over_L2.eq_1] at h;cases h
 | succ fuel ih =>
  intro lo hi r h E hE
  rw [g_r01_over_L2.eq_2] at h
  refine rnR hE 2 [] [] (kp [0,1,6,7,8,9,10,32]) (kq [0]) 49 pn ?_
  refine rnC 0 32 h (fun hq3 h=>?_) (fun hq3 h=>?_)
  ·refine rnR hE 3 [] [] (kp [0,1,6,7,8,9,10,11]) (kq [0]) 145 (pc (show (2:Int)≠0 by decide) pn) ?_
   obtain ⟨rtimes,hr2,h⟩:=bsm h
   obtain ⟨rcompare,hr3,h⟩:=bsm h
   refine rnR hE 1 [(3,⟨[],true,(encL cI 0 rtimes),[],0,true,none⟩),(5,⟨[],true,(aI rcompare),[],0,false,none⟩)] [] (kp [0,1,6,7,8,9,10,11,44]) (kq [0]) 257 (pc (show Sd 109 [(encL cI 0 b),(.sl 1 (fun zi=>(fun zi=>([[(aI (w64 ((w64 ((w64 (lo+hi))+1)).tdiv 2)))]]:List (List AV)).getD zi []) (addz 0 zi)))] [] 0 (encL cI 0 rtimes) [] from (Sound.conv (g_r01_times_ok N b ([(w64 ((w64 ((w64 (lo+hi))+1)).tdiv 2))]:List Int) rtimes hr2) (.cons (Alike.refl _) (.cons (Alike.sl rfl (fun zq hzq=>get_chunk cI 0 ([(w64 ((w64 ((w64 (lo+hi))+1)).tdiv 2))]:List Int) zq hzq)) .nil)))) (pc (z1 1) (pc (g_r01_compare_ok N rtimes rtrim rcompare hr3) pn))) ?_
   refine rnC 0 44 h (fun hq4 h=>?_) (fun hq4 h=>?_)
   ·refine rnR hE 0 [] [] (kp [0,1,6,7,8,9,10]) (kq [0]) 289 pn ?_
    exact rnW hE 2 [] (kp [0,1,6,7,8,9,10]) (kq [0]) 1 pn (ih _ _ _ h E hE)
   ·refine rnR hE 0 [] [] (kp [0,1,6,7,8,9,10]) (kq [0]) 305 pn ?_
    exact rnW hE 2 [] (kp [0,1,6,7,8,9,10]) (kq [0]) 1 pn (ih _ _ _ h E hE)
  ·obtain ⟨c4,h⟩:=ifSome h
   refine rnR hE 2 [] [] (kp [0,1,6] ++ [(7,.osl ((q.set ((i).toNat) lo).length))] ++ kp [8,9]) [(0,.arr 0 ((q.set ((i).toNat) lo).length) (fun zi=>cI ((q.set ((i).toNat) lo).getD zi 0)))] 129 (pc c4 (pc (ltOf c4) (pc (len_set0 q ((i).toNat) lo) (pc (len_set0 q ((i).toNat) lo) (pc (get_set0 cI 0 q ((i).toNat) lo) pn))))) ?_
   refine rnR hE 1 [] [] (kp [0,1,6,7,8,9,53]) (kq [0]) 161 pn ?_
   refine rnC 0 53 h (fun hq5 h=>?_) (fun hq5 h=>?_)
   ·obtain ⟨rtimes2,hr4,h⟩:=bsm h
    obtain ⟨rminus,hr5,h⟩:=bsm h
    refine rnR hE 0 [(4,⟨[],true,(encL cI 0 rtimes2),[],0,true,none⟩),(5,⟨[],true,(encL cI 0 rminus),[],0,false,none⟩)] [] (kp [0,1,6,7,8]) (kq [0]) 273 (pc (show Sd 109 [(encL cI 0 b),(.sl 1 (fun zi=>(fun zi=>([[(aI lo)]]:List (List AV)).getD zi []) (addz 0 zi)))] [] 0 (encL cI 0 rtimes2) [] from (Sound.conv (g_r01_times_ok N b ([lo]:List Int) rtimes2 hr4) (.cons (Alike.refl _) (.cons (Alike.sl rfl (fun zq hzq=>get_chunk cI 0 ([lo]:List Int) zq hzq)) .nil)))) (pc (z1 1) (pc (g_r01_minus_ok N rtrim rtimes2 rminus hr5) pn))) ?_
    exact rnW hE 1 [] (kp [0,1,6,7,8]) (kq [0]) 1 pn (g_r01_over_J3_ok N _ _ _ _ _ _ hK_g_r01_over_L1 _ _ h E hE)
   ·exact rnW hE 2 [] (kp [0,1,6,7,8]) (kq [0]) 1 pn (g_r01_over_J3_ok N _ _ _ _ _ _ hK_g_r01_over_L1 _ _ h E hE)
theorem g_r01_over_L1_ok (N:Nat) (a:List Int) (b:List Int) (fuel:Nat):g_r01_over_L1_H N a b (g_r01_over_L1 N a b fuel):=by
 induction fuel with
 | zero=>intro _ _ _ r h;rw [g_r01_over_L1.eq_1] at h;cases h
 | succ fuel ih =>
  intro rest q i r h E hE
  rw [g_r01_over_L1.eq_2] at h
  refine rnR hE 2 [] [] (kp [0,1,6,7,8,19]) (kq [0]) 33 pn ?_
  refine rnC 0 19 h (fun hq2 h=>?_) (fun hq2 h=>?_)
  ·obtain ⟨c2,h⟩:=ifSome h
   obtain ⟨c3,h⟩:=ifSome h
   obtain ⟨rtrim,hr,h⟩:=bsm h
   refine rnR hE 4 [(7,⟨[],true,(encL cI 0 rtrim),[],0,true,none⟩)] [] (kp [0,1,6,7,8]) (kq [0]) 177 (pc c2 (pc (Eq.refl 1) (pc c3 (pc (show ∀ zi,zi < rest.length→AV.oneL ((fun zi=>cI (rest.getD zi 0)) zi)=true from (fun _ _=>rfl)) (pc (show Sd 110 [(.sl (1+rest.length) (fun zi=>((fun zm=>if zm < 1 then (fun zi=>([[(aI (a.getD ((i).toNat) 0))]]:List (List AV)).getD zi []) zm else (fun zi=>cI (rest.getD zi 0)) (zm - 1))) (addz 0 zi)))] [] 0 (encL cI 0 rtrim) [] from (Sound.conv (g_r01_trim_ok N (([(a.getD ((i).toNat) 0)]:List Int) ++ rest) rtrim hr) (.cons (Alike.sl (len_app_raw rfl rfl) (get_app_raw cI 0 ([(a.getD ((i).toNat) 0)]:List Int) rest rfl (fun zq hzq=>get_chunk cI 0 ([(a.getD ((i).toNat) 0)]:List Int) zq hzq) (fun _ _=>rfl))) .nil))) (pc (z1 (1+rest.length)) pn)))))) ?_
   refine rnR hE 1 [] [] (kp [0,1,6,7,8,9,10]) (kq [0]) 209 pn ?_
   exact rnW hE 3 [] (kp [0,1,6,7,8,9,10]) (kq [0]) 1 pn (g_r01_over_L2_ok N _ _ _ _ _ _ ih N _ _ _ h E hE)
  ·obtain ⟨rtrim2,hr6,h⟩:=bsm h
   refine rnR hE 2 [(1,⟨[],true,(encL cI 0 rtrim2),[],0,true,none⟩)] [] (kp [4,5]) [] 113 (pc (g_r01_trim_ok N q rtrim2 hr6) (pc (z1 q.length) pn)) ?_
   obtain rfl:=osI h
   exact rnT hE 0 Tryz.f105 [] (kp [4,5]) [] 113 pn [] pn
theorem g_r01_over_ok (N:Nat) (a:List Int) (b:List Int) (r:(List Int)×(List Int)) (h:g_r01_over N a b=some r):Sd 105 [(encL cI 0 a),(encL cI 0 b)] [] 0 (.tup [(encL cI 0 r.1),(encL cI 0 r.2)]) []:=by
 unfold g_r01_over at h
 refine sor (fu:=Tryz.f105) (c:=C_90 1) (nt:=63) (by kernel_rfl) (by kernel_rfl) (by kernel_rfl) (by kernel_rfl) (fun hm=>rfl) ?_
 intro E hE
 refine rnR hE 1 [] [] (kp [0,1]) [] 32 pn ?_
 refine rnR hE 1 [] [] (kp [0,1,6]) [] 48 pn ?_
 obtain ⟨c,h⟩:=ifSome h
 refine rnR hE 1 [] [] (kp [0,1,6] ++ [(7,.osl ((List.replicate a.length 0:List Int).length))]) [(80,.arr 80 ((List.replicate a.length 0:List Int).length) (fun zi=>cI ((List.replicate a.length 0:List Int).getD zi 0)))] 112 (pc (show 0≤((a.length:Nat):Int) from c.1) (pc (show ((a.length:Nat):Int)≤((a.length:Nat):Int) from (Int.le_refl _)) (pc (show (8:Int) * ((a.length:Nat):Int)≤281474976710656 from c.2.1) (pc (show ((a.length:Nat):Int)≤9223372036854775807 from c.2.2) (pc (show a.length=(List.replicate a.length 0:List Int).length from (List.length_replicate).symm) (pc (show a.length=(List.replicate a.length 0:List Int).length from (List.length_replicate).symm) (pc (show ∀ zi,zi < (List.replicate a.length 0:List Int).length→(fun zi=>cI ((List.replicate a.length 0:List Int).getD zi 0)) zi=(fun _=>[(aI 0)]) zi from (fun zq hzq=>get_rep cI 0 0 a.length zq hzq)) pn))))))) ?_
 refine rnR hE 2 [] [] (kp [0,1,6,7,8]) (kq [80]) 176 pn ?_
 exact rnW hE 2 [] (kp [0,1] ++ [(6,.sl (([]:List Int).length) (fun zi=>cI (([]:List Int).getD zi 0)))] ++ kp [7,8]) [(0,.keep 80)] 1 (pc (Eq.refl 0) pn) (g_r01_over_L1_ok N _ _ N _ _ _ _ h E hE)
noncomputable def C_89 (n:Nat):Code:=cat (bodyOf Tryz.f104) (pth n)
def g_r01_gcd_L1_H (N:Nat) (K:(List Int)→(List Int)→Option ((List Int))):Prop:=∀ (a2:List Int) (b2:List Int) (r:(List Int)),K a2 b2=some r→∀ E,EnvOk E 0→Runs Tryz.prog E 104 19 (SPost E [] (encL cI 0 r)) [.code (C_89 24),.inLoop (C_89 24),.inBlock 0,.code (C_89 7)] ⟨[(0,(encL cI 0 a2)),(1,(encL cI 0 b2))],[],0⟩
theorem g_r01_gcd_L1_ok (N:Nat) (fuel:Nat):g_r01_gcd_L1_H N (g_r01_gcd_L1 N fuel):=by
 induction fuel with
 | zero=>intro _ _ r h;rw [g_r01_gcd_L1.eq_1] at h;cases h
 | succ fuel ih =>
  intro a2 b2 r h E hE
  rw [g_r01_gcd_L1.eq_2] at h
  refine rnR hE 2 [] [] (kp [0,1,9]) [] 48 pn ?_
  refine rnC 0 9 h (fun hq2 h=>?_) (fun hq2 h=>?_)
  ·obtain ⟨rover,hr,h⟩:=bsm h
   refine rnR hE 3 [(2,⟨[],true,(.tup [(encL cI 0 rover.1),(encL cI 0 rover.2)]),[],0,false,none⟩)] [] (kp [1,6]) [] 176 (pc (g_r01_over_ok N a2 b2 rover hr) pn) ?_
   refine rnR hE 0 [] [] (kp [0,1]) [] 240 pn ?_
   exact rnW hE 2 [] (kp [0,1]) [] 0 pn (ih _ _ _ h E hE)
  ·refine rnR hE 2 [] [] (kp [4]) [] 80 pn ?_
   obtain rfl:=osI h
   exact rnT hE 0 Tryz.f104 [] (kp [4]) [] 80 pn [] pn
theorem g_r01_gcd_ok (N:Nat) (a:List Int) (b:List Int) (r:(List Int)) (h:g_r01_gcd N a b=some r):Sd 104 [(encL cI 0 a),(encL cI 0 b)] [] 0 (encL cI 0 r) []:=by
 unfold g_r01_gcd at h
 refine sor (fu:=Tryz.f104) (c:=C_89 1) (nt:=19) (by kernel_rfl) (by kernel_rfl) (by kernel_rfl) (by kernel_rfl) (fun hm=>rfl) ?_
 intro E hE
 refine rnR hE 1 [] [] (kp [0,1]) [] 16 pn ?_
 exact rnW hE 3 [] (kp [0,1]) [] 0 pn (g_r01_gcd_L1_ok N N _ _ _ h E hE)
noncomputable def C_86 (n:Nat):Code:=cat (bodyOf Tryz.f98) (pth n)
theorem g_r01_Over_ok (N:Nat) (a:TInt) (b:TInt) (r:TRat) (h:g_r01_Over N a b=some r):Sd 98 [(.agg (TIc a)),(.agg (TIc b))] [] 0 (.agg (TRc r)) []:=by
 unfold g_r01_Over at h
 refine sor (fu:=Tryz.f98) (c:=C_86 1) (nt:=52) (by kernel_rfl) (by kernel_rfl) (by kernel_rfl) (by kernel_rfl) (fun hm=>rfl) ?_
 intro E hE
 refine rnR hE 1 [] [] (kp [2,3,4]) (kq [0,16,32]) 48 pn ?_
 obtain ⟨rread,hr,h⟩:=bsm h
 obtain ⟨rread2,hr2,h⟩:=bsm h
 refine rnR hE 1 [(2,⟨[],true,(encL cI 0 rread),[],0,false,none⟩),(5,⟨[],true,(encL cI 0 rread2),[],0,false,none⟩)] [] (kp [2,3,4,5,6]) (kq [0,16,32]) 176 (pc o1 (pc (g_r01_read_ok N a.fL rread hr) (pc o1 (pc (g_r01_read_ok N b.fL rread2 hr2) pn)))) ?_
 refine rnR hE 2 [] [] (kp [2,3,4,5,6,20]) (kq [0,16,32]) 224 pn ?_
 refine rnC 0 20 h (fun hq2 h=>?_) (fun hq2 h=>?_)
 ·obtain ⟨rmade,hr3,h⟩:=bsm h
  obtain ⟨rOf,hr4,h⟩:=bsm h
  refine rnR hE 1 [(3,⟨[],true,(.agg (TIc rmade)),[],0,false,none⟩),(4,⟨[],true,(.agg (TIc rOf)),[],0,false,none⟩)] [] (kp [4]) (kq [32]) 336 (pc o1 (pc (g_r01_made_ok N a.fG rread rmade hr3) (pc (g_r01_Of_ok N 1 rOf hr4) (pc o1 pn)))) ?_
  obtain rfl:=osI h
  exact rnT hE 0 Tryz.f98 [] (kp [4]) [(16,.keep 32)] 336 pn [16] (pc o1 pn)
 ·obtain ⟨rgcd,hr5,h⟩:=bsm h
  refine rnR hE 2 [(2,⟨[],true,(encL cI 0 rgcd),[],0,false,none⟩)] [] (kp [2,3,4,5,6,7]) (kq [0,16,32]) 288 (pc (g_r01_gcd_ok N rread rread2 rgcd hr5) pn) ?_
  obtain ⟨rover,hr6,h⟩:=bsm h
  refine rnR hE 1 [(2,⟨[],true,(.tup [(encL cI 0 rover.1),(encL cI 0 rover.2)]),[],0,false,none⟩)] [] (kp [2,3,4,6,7,8]) (kq [0,16,32]) 416 (pc (g_r01_over_ok N rread rgcd rover hr6) pn) ?_
  obtain ⟨rover2,hr7,h⟩:=bsm h
  refine rnR hE 1 [(2,⟨[],true,(.tup [(encL cI 0 rover2.1),(encL cI 0 rover2.2)]),[],0,false,none⟩)] [] (kp [2,3,4,8,10]) (kq [0,16,32]) 544 (pc (g_r01_over_ok N rread2 rgcd rover2 hr7) pn) ?_
  obtain ⟨rmade2,hr8,h⟩:=bsm h
  obtain ⟨rmade3,hr9,h⟩:=bsm h
  refine rnR hE 1 [(6,⟨[],true,(.agg (TIc rmade2)),[],0,false,none⟩),(8,⟨[],true,(.agg (TIc rmade3)),[],0,false,none⟩)] [] (kp [4]) (kq [32]) 720 (pc o1 (pc o1 (pc (g_r01_made_ok N (!(a.fG == b.fG)) rover.1 rmade2 hr8) (pc (g_r01_made_ok N false rover2.1 rmade3 hr9) (pc o1 pn))))) ?_
  obtain rfl:=osI h
  exact rnT hE 0 Tryz.f98 [] (kp [4]) [(16,.keep 32)] 720 pn [16] (pc o1 pn)
noncomputable def C_85 (n:Nat):Code:=cat (bodyOf Tryz.f86) (pth n)
theorem g_r01_NormRat_ok (N:Nat) (x:TRat) (r:TRat) (h:g_r01_NormRat N x=some r):Sd 86 [(.agg (TRc x))] [] 0 (.agg (TRc r)) []:=by
 unfold g_r01_NormRat at h
 refine sor (fu:=Tryz.f86) (c:=C_85 1) (nt:=8) (by kernel_rfl) (by kernel_rfl) (by kernel_rfl) (by kernel_rfl) (fun hm=>rfl) ?_
 intro E hE
 refine rnR hE 1 [] [] (kp [1,2]) (kq [0,16]) 32 pn ?_
 obtain ⟨rOver,hr,h⟩:=bsm h
 refine rnR hE 1 [(4,⟨[],true,(.agg (TRc rOver)),[],0,false,none⟩)] [] (kp [2]) (kq [16]) 128 (pc o1 (pc o1 (pc (g_r01_Over_ok N x.fN x.fD rOver hr) (pc o1 pn)))) ?_
 obtain rfl:=osI h
 exact rnT hE 0 Tryz.f86 [] (kp [2]) (kq [16]) 128 pn [16] (pc o1 pn)
noncomputable def C_95 (n:Nat):Code:=cat (bodyOf Tryz.f100) (pth n)
theorem g_r01_Mul_ok (N:Nat) (a:TInt) (b:TInt) (r:TInt) (h:g_r01_Mul N a b=some r):Sd 100 [(.agg (TIc a)),(.agg (TIc b))] [] 0 (.agg (TIc r)) []:=by
 unfold g_r01_Mul at h
 refine sor (fu:=Tryz.f100) (c:=C_95 1) (nt:=18) (by kernel_rfl) (by kernel_rfl) (by kernel_rfl) (by kernel_rfl) (fun hm=>rfl) ?_
 intro E hE
 refine rnR hE 1 [] [] (kp [2,3,4]) (kq [0,16,32]) 48 pn ?_
 obtain ⟨rread,hr,h⟩:=bsm h
 obtain ⟨rread2,hr2,h⟩:=bsm h
 obtain ⟨rtimes,hr3,h⟩:=bsm h
 obtain ⟨rmade,hr4,h⟩:=bsm h
 refine rnR hE 1 [(7,⟨[],true,(encL cI 0 rread),[],0,false,none⟩),(10,⟨[],true,(encL cI 0 rread2),[],0,false,none⟩),(11,⟨[],true,(encL cI 0 rtimes),[],0,false,none⟩),(12,⟨[],true,(.agg (TIc rmade)),[],0,false,none⟩)] [] (kp [4]) (kq [32]) 272 (pc o1 (pc o1 (pc o1 (pc (g_r01_read_ok N a.fL rread hr) (pc o1 (pc (g_r01_read_ok N b.fL rread2 hr2) (pc (g_r01_times_ok N rread rread2 rtimes hr3) (pc (g_r01_made_ok N (!(a.fG == b.fG)) rtimes rmade hr4) (pc o1 pn))))))))) ?_
 obtain rfl:=osI h
 exact rnT hE 0 Tryz.f100 [] (kp [4]) [(16,.keep 32)] 272 pn [16] (pc o1 pn)
noncomputable def C_84 (n:Nat):Code:=cat (bodyOf Tryz.f84) (pth n)
theorem g_r01_MulRat_ok (N:Nat) (x:TRat) (y:TRat) (r:TRat) (h:g_r01_MulRat N x y=some r):Sd 84 [(.agg (TRc x)),(.agg (TRc y))] [] 0 (.agg (TRc r)) []:=by
 unfold g_r01_MulRat at h
 refine sor (fu:=Tryz.f84) (c:=C_84 1) (nt:=22) (by kernel_rfl) (by kernel_rfl) (by kernel_rfl) (by kernel_rfl) (fun hm=>rfl) ?_
 intro E hE
 refine rnR hE 1 [] [] (kp [2,3,4]) (kq [0,16,32]) 48 pn ?_
 obtain ⟨rNormRat,hr,h⟩:=bsm h
 obtain ⟨rNormRat2,hr2,h⟩:=bsm h
 refine rnR hE 1 [(1,⟨[],true,(.agg (TRc rNormRat)),[],0,false,none⟩),(3,⟨[],true,(.agg (TRc rNormRat2)),[],0,false,none⟩)] [] (kp [4,5,6]) (kq [32,112,128]) 176 (pc o1 (pc (g_r01_NormRat_ok N x rNormRat hr) (pc o1 (pc (g_r01_NormRat_ok N y rNormRat2 hr2) (pc o1 (pc o1 pn)))))) ?_
 obtain ⟨rMul,hr3,h⟩:=bsm h
 obtain ⟨rMul2,hr4,h⟩:=bsm h
 obtain ⟨rOver,hr5,h⟩:=bsm h
 refine rnR hE 1 [(4,⟨[],true,(.agg (TIc rMul)),[],0,false,none⟩),(9,⟨[],true,(.agg (TIc rMul2)),[],0,false,none⟩),(10,⟨[],true,(.agg (TRc rOver)),[],0,false,none⟩)] [] (kp [4]) (kq [32]) 368 (pc o1 (pc o1 (pc (g_r01_Mul_ok N rNormRat.fN rNormRat2.fN rMul hr3) (pc o1 (pc o1 (pc (g_r01_Mul_ok N rNormRat.fD rNormRat2.fD rMul2 hr4) (pc (g_r01_Over_ok N rMul rMul2 rOver hr5) (pc o1 pn)))))))) ?_
 obtain rfl:=osI h
 exact rnT hE 0 Tryz.f84 [] (kp [4]) [(16,.keep 32)] 368 pn [16] (pc o1 pn)
noncomputable def C_98 (n:Nat):Code:=cat (bodyOf Tryz.f106) (pth n)
def g_r01_plus_L1_H (N:Nat) (a:List Int) (b:List Int) (K:(List Int)→Int→Int→Option ((List Int))):Prop:=∀ (out:List Int) (carry:Int) (i:Int) (r:(List Int)),K out carry i=some r→∀ E,EnvOk E 0→Runs Tryz.prog E 106 43 (SPost E [] (encL cI 0 r)) [.code (C_98 244),.inLoop (C_98 244),.inBlock 0,.code (C_98 31)] ⟨[(0,(encL cI 0 a)),(1,(encL cI 0 b)),(5,(.os 0 0 out.length)),(6,(aI carry)),(7,(aI i))],[(0,aO 1 cI 0 out)],1⟩
theorem g_r01_plus_L1_ok (N:Nat) (a:List Int) (b:List Int) (fuel:Nat):g_r01_plus_L1_H N a b (g_r01_plus_L1 N a b fuel):=by
 induction fuel with
 | zero=>intro _ _ _ r h;rw [g_r01_plus_L1.eq_1] at h;cases h
 | succ fuel ih =>
  intro out carry i r h E hE
  rw [g_r01_plus_L1.eq_2] at h
  refine rnR hE 2 [] [] (kp [0,1,5,6,7,22]) (kq [0]) 225 (pc (fun hg:(!(decide (i < ((a.length:Nat):Int))))=true=>(pc hg pn)) (pc (fun hg:(!(decide (i < ((a.length:Nat):Int))))=true=>(pc hg (pc hg pn))) (pc (fun hq:(!(decide (i < ((a.length:Nat):Int))))=true=>(pc hq pn)) (pc (fun hg:(!(cond (decide (i < ((a.length:Nat):Int))) true (decide (i < ((b.length:Nat):Int)))))=true=>(pc hg pn)) (pc (fun hq:(!(cond (decide (i < ((a.length:Nat):Int))) true (decide (i < ((b.length:Nat):Int)))))=true=>(pc hq pn)) pn))))) ?_
  refine rnC 0 22 h (fun hq2 h=>?_) (fun hq2 h=>?_)
  ·obtain ⟨rdigit,hr,h⟩:=bsm h
   obtain ⟨rdigit2,hr2,h⟩:=bsm h
   refine rnR hE 4 [(2,⟨[],true,(aI rdigit),[],0,false,none⟩),(5,⟨[],true,(aI rdigit2),[],0,false,none⟩)] [] (kp [0,1,5,7,8]) (kq [0]) 385 (pc (g_r01_digit_ok N a i rdigit hr) (pc (g_r01_digit_ok N b i rdigit2 hr2) pn)) ?_
   obtain ⟨c,h⟩:=ifSome h
   refine rnR hE 1 [] [] (kp [0,1] ++ [(5,.osl ((out ++ ([((w64 ((w64 (rdigit+rdigit2))+carry)).tmod 65536)]:List Int)).length))] ++ kp [7,8]) [(449,.arr 449 ((out ++ ([((w64 ((w64 (rdigit+rdigit2))+carry)).tmod 65536)]:List Int)).length) (fun zi=>cI ((out ++ ([((w64 ((w64 (rdigit+rdigit2))+carry)).tmod 65536)]:List Int)).getD zi 0)))] 481 (pc (show (65536:Int)≠0 by decide) (pc (Eq.refl out.length) (pc c (pc (z1 1) (pc (show ∀ zi,zi < 1→AV.oneL ((fun zi=>([[(aI ((w64 ((w64 (rdigit+rdigit2))+carry)).tmod 65536))]]:List (List AV)).getD zi []) (addz 0 zi))=true from (oneN rfl)) (pc (show (out.length+1)=(out ++ ([((w64 ((w64 (rdigit+rdigit2))+carry)).tmod 65536)]:List Int)).length from (len_app_raw rfl rfl)) (pc (show out.length+1=(out ++ ([((w64 ((w64 (rdigit+rdigit2))+carry)).tmod 65536)]:List Int)).length from (len_app_raw rfl rfl)) (pc (show ∀ zi,zi < (out ++ ([((w64 ((w64 (rdigit+rdigit2))+carry)).tmod 65536)]:List Int)).length→(fun zi=>cI ((out ++ ([((w64 ((w64 (rdigit+rdigit2))+carry)).tmod 65536)]:List Int)).getD zi 0)) zi=((fun zm=>if zm < out.length then (fun zi=>cI (out.getD zi 0)) zm else (fun zi=>([[(aI ((w64 ((w64 (rdigit+rdigit2))+carry)).tmod 65536))]]:List (List AV)).getD zi []) (zm - out.length))) zi from (get_app_raw cI 0 out ([((w64 ((w64 (rdigit+rdigit2))+carry)).tmod 65536)]:List Int) rfl (fun _ _=>rfl) (fun zq hzq=>get_chunk cI 0 ([((w64 ((w64 (rdigit+rdigit2))+carry)).tmod 65536)]:List Int) zq hzq))) pn)))))))) ?_
   refine rnR hE 0 [] [] (kp [0,1,5,6,7]) (kq [449]) 529 (pc (show (65536:Int)≠0 by decide) pn) ?_
   refine rnR hE 1 [] [] (kp [0,1,5,6,7]) (kq [449]) 577 pn ?_
   exact rnW hE 1 [] (kp [0,1,5,6,7]) [(0,.keep 449)] 1 pn (ih _ _ _ _ h E hE)
  ·obtain ⟨rtrim,hr3,h⟩:=bsm h
   refine rnR hE 2 [(1,⟨[],true,(encL cI 0 rtrim),[],0,true,none⟩)] [] (kp [4]) [] 273 (pc (g_r01_trim_ok N out rtrim hr3) (pc (z1 out.length) pn)) ?_
   obtain rfl:=osI h
   exact rnT hE 0 Tryz.f106 [] (kp [4]) [] 273 pn [] pn
theorem g_r01_plus_ok (N:Nat) (a:List Int) (b:List Int) (r:(List Int)) (h:g_r01_plus N a b=some r):Sd 106 [(encL cI 0 a),(encL cI 0 b)] [] 0 (encL cI 0 r) []:=by
 unfold g_r01_plus at h
 refine sor (fu:=Tryz.f106) (c:=C_98 1) (nt:=43) (by kernel_rfl) (by kernel_rfl) (by kernel_rfl) (by kernel_rfl) (fun hm=>rfl) ?_
 intro E hE
 refine rnR hE 1 [] [] (kp [0,1]) [] 16 pn ?_
 refine rnR hE 1 [] [] (kp [0,1,5]) [] 32 pn ?_
 refine rnR hE 1 [] [] (kp [0,1,5,6]) [] 48 pn ?_
 refine rnR hE 2 [] [] (kp [0,1,5,6,7]) [] 64 pn ?_
 exact rnW hE 2 [] (kp [0,1] ++ [(5,.nilos 0)] ++ kp [6,7]) [(0,.nil 1 (fun zi=>cI (([]:List Int).getD zi 0)))] 1 pn (g_r01_plus_L1_ok N _ _ N _ _ _ _ h E hE)
noncomputable def C_97 (n:Nat):Code:=cat (bodyOf Tryz.f99) (pth n)
theorem g_r01_Add_ok (N:Nat) (a:TInt) (b:TInt) (r:TInt) (h:g_r01_Add N a b=some r):Sd 99 [(.agg (TIc a)),(.agg (TIc b))] [] 0 (.agg (TIc r)) []:=by
 unfold g_r01_Add at h
 refine sor (fu:=Tryz.f99) (c:=C_97 1) (nt:=40) (by kernel_rfl) (by kernel_rfl) (by kernel_rfl) (by kernel_rfl) (fun hm=>rfl) ?_
 intro E hE
 refine rnR hE 1 [] [] (kp [2,3,4]) (kq [0,16,32]) 48 pn ?_
 obtain ⟨rread,hr,h⟩:=bsm h
 obtain ⟨rread2,hr2,h⟩:=bsm h
 refine rnR hE 1 [(2,⟨[],true,(encL cI 0 rread),[],0,false,none⟩),(5,⟨[],true,(encL cI 0 rread2),[],0,false,none⟩)] [] (kp [2,3,4,5,6]) (kq [0,16,32]) 176 (pc o1 (pc (g_r01_read_ok N a.fL rread hr) (pc o1 (pc (g_r01_read_ok N b.fL rread2 hr2) pn)))) ?_
 refine rnR hE 2 [] [] (kp [2,3,4,5,6,17]) (kq [0,16,32]) 256 (pc o1 (pc o1 pn)) ?_
 refine rnC 0 17 h (fun hq2 h=>?_) (fun hq2 h=>?_)
 ·obtain ⟨rplus,hr3,h⟩:=bsm h
  obtain ⟨rmade,hr4,h⟩:=bsm h
  refine rnR hE 1 [(4,⟨[],true,(encL cI 0 rplus),[],0,false,none⟩),(5,⟨[],true,(.agg (TIc rmade)),[],0,false,none⟩)] [] (kp [4]) (kq [32]) 368 (pc o1 (pc (g_r01_plus_ok N rread rread2 rplus hr3) (pc (g_r01_made_ok N a.fG rplus rmade hr4) (pc o1 pn)))) ?_
  obtain rfl:=osI h
  exact rnT hE 0 Tryz.f99 [] (kp [4]) [(16,.keep 32)] 368 pn [16] (pc o1 pn)
 ·obtain ⟨rcompare,hr5,h⟩:=bsm h
  refine rnR hE 3 [(2,⟨[],true,(aI rcompare),[],0,false,none⟩)] [] (kp [2,3,4,5,6,27]) (kq [0,16,32]) 320 (pc (g_r01_compare_ok N rread rread2 rcompare hr5) pn) ?_
  refine rnC 0 27 h (fun hq3 h=>?_) (fun hq3 h=>?_)
  ·obtain ⟨rminus,hr6,h⟩:=bsm h
   obtain ⟨rmade2,hr7,h⟩:=bsm h
   refine rnR hE 1 [(4,⟨[],true,(encL cI 0 rminus),[],0,false,none⟩),(5,⟨[],true,(.agg (TIc rmade2)),[],0,false,none⟩)] [] (kp [4]) (kq [32]) 432 (pc o1 (pc (g_r01_minus_ok N rread rread2 rminus hr6) (pc (g_r01_made_ok N a.fG rminus rmade2 hr7) (pc o1 pn)))) ?_
   obtain rfl:=osI h
   exact rnT hE 0 Tryz.f99 [] (kp [4]) [(16,.keep 32)] 432 pn [16] (pc o1 pn)
  ·obtain ⟨rminus2,hr8,h⟩:=bsm h
   obtain ⟨rmade3,hr9,h⟩:=bsm h
   refine rnR hE 2 [(4,⟨[],true,(encL cI 0 rminus2),[],0,false,none⟩),(5,⟨[],true,(.agg (TIc rmade3)),[],0,false,none⟩)] [] (kp [4]) (kq [32]) 432 (pc o1 (pc (g_r01_minus_ok N rread2 rread rminus2 hr8) (pc (g_r01_made_ok N b.fG rminus2 rmade3 hr9) (pc o1 pn)))) ?_
   obtain rfl:=osI h
   exact rnT hE 0 Tryz.f99 [] (kp [4]) [(16,.keep 32)] 432 pn [16] (pc o1 pn)
noncomputable def C_96 (n:Nat):Code:=cat (bodyOf Tryz.f83) (pth n)
theorem g_r01_AddRat_ok (N:Nat) (x:TRat) (y:TRat) (r:TRat) (h:g_r01_AddRat N x y=some r):Sd 83 [(.agg (TRc x)),(.agg (TRc y))] [] 0 (.agg (TRc r)) []:=by
 unfold g_r01_AddRat at h
 refine sor (fu:=Tryz.f83) (c:=C_96 1) (nt:=28) (by kernel_rfl) (by kernel_rfl) (by kernel_rfl) (by kernel_rfl) (fun hm=>rfl) ?_
 intro E hE
 refine rnR hE 1 [] [] (kp [2,3,4]) (kq [0,16,32]) 48 pn ?_
 obtain ⟨rNormRat,hr,h⟩:=bsm h
 obtain ⟨rNormRat2,hr2,h⟩:=bsm h
 refine rnR hE 1 [(1,⟨[],true,(.agg (TRc rNormRat)),[],0,false,none⟩),(3,⟨[],true,(.agg (TRc rNormRat2)),[],0,false,none⟩)] [] (kp [4,5,6]) (kq [32,112,128]) 176 (pc o1 (pc (g_r01_NormRat_ok N x rNormRat hr) (pc o1 (pc (g_r01_NormRat_ok N y rNormRat2 hr2) (pc o1 (pc o1 pn)))))) ?_
 obtain ⟨rMul,hr3,h⟩:=bsm h
 obtain ⟨rMul2,hr4,h⟩:=bsm h
 obtain ⟨rAdd,hr5,h⟩:=bsm h
 obtain ⟨rMul3,hr6,h⟩:=bsm h
 obtain ⟨rOver,hr7,h⟩:=bsm h
 refine rnR hE 1 [(4,⟨[],true,(.agg (TIc rMul)),[],0,false,none⟩),(9,⟨[],true,(.agg (TIc rMul2)),[],0,false,none⟩),(10,⟨[],true,(.agg (TIc rAdd)),[],0,false,none⟩),(15,⟨[],true,(.agg (TIc rMul3)),[],0,false,none⟩),(16,⟨[],true,(.agg (TRc rOver)),[],0,false,none⟩)] [] (kp [4]) (kq [32]) 464 (pc o1 (pc o1 (pc (g_r01_Mul_ok N rNormRat.fN rNormRat2.fD rMul hr3) (pc o1 (pc o1 (pc (g_r01_Mul_ok N rNormRat2.fN rNormRat.fD rMul2 hr4) (pc (g_r01_Add_ok N rMul rMul2 rAdd hr5) (pc o1 (pc o1 (pc (g_r01_Mul_ok N rNormRat.fD rNormRat2.fD rMul3 hr6) (pc (g_r01_Over_ok N rAdd rMul3 rOver hr7) (pc o1 pn)))))))))))) ?_
 obtain rfl:=osI h
 exact rnT hE 0 Tryz.f83 [] (kp [4]) [(16,.keep 32)] 464 pn [16] (pc o1 pn)
end Go.Den
