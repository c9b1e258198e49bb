/- Each function of the program does what its Lean function computes (part 2). No conditions. -/
import Derived.Test.YtnhkjlebcdakkaaBerthPlacesSa
import Derived.Test.YtnhkjlebcdakkaaProg
set_option linter.unusedVariables false
set_option maxRecDepth 100000
namespace Go.Den
open Go.Ab Go.Proofs
noncomputable def C_62 (n:Nat):Code:=cat (bodyOf Try.f100) (pth n)
def g_r06_sums_L1_H (N:Nat) (l:List Int) (K:(List Int)→Int→Option ((List Int))):Prop:=∀ (out:List Int) (i:Int) (r:(List Int)),K out i=some r→∀ E,EnvOk E 0→Runs Try.prog E 100 96 (SPost E [] (encL cI 0 r)) [.code (C_62 116),.inLoop (C_62 116),.inBlock 0,.code (C_62 15)] ⟨[(1,(encL cI 0 l)),(5,(.os 0 0 out.length)),(6,(aI i))],[(0,aO 1 cI 0 out)],1⟩
def g_r06_sums_L2_H (N:Nat) (l:List Int) (out:List Int) (i:Int) (K:(List Int)→Int→Option ((List Int))):Prop:=∀ (out2:List Int) (k:Int) (r:(List Int)),K out2 k=some r→∀ E,EnvOk E 0→Runs Try.prog E 100 96 (SPost E [] (encL cI 0 r)) [.code (C_62 14924),.inLoop (C_62 14924),.inBlock 2,.inBlock 1,.code (C_62 467),.inLoop (C_62 116),.inBlock 0,.code (C_62 15)] ⟨[(1,(encL cI 0 l)),(5,(.os 0 0 out2.length)),(6,(aI i)),(7,(aI ((out.length:Nat):Int))),(8,(aI k))],[(0,aO 1 cI 0 out2)],1⟩
theorem g_r06_sums_L2_ok (N:Nat) (l:List Int) (out:List Int) (i:Int) (K_g_r06_sums_L1:(List Int)→Int→Option ((List Int))) (hK_g_r06_sums_L1:g_r06_sums_L1_H N l K_g_r06_sums_L1) (fuel:Nat):g_r06_sums_L2_H N l out i (g_r06_sums_L2 N l out i K_g_r06_sums_L1 fuel):=by
 induction fuel with
 | zero=>intro _ _ r h;rw [g_r06_sums_L2.eq_1] at h;cases h
 | succ fuel ih =>
  intro out2 k r h E hE
  rw [g_r06_sums_L2.eq_2] at h
  refine Runs.nR hE 2 [] [] (kp [1,5,6,7,8,24]) (kq [0]) 49 pn ?_
  refine Runs.nC 0 24 h (fun hq3 h=>?_) (fun hq3 h=>?_)
  ·obtain ⟨c,h⟩:=ifSome h
   obtain ⟨c2,h⟩:=ifSome h
   obtain ⟨c3,h⟩:=ifSome h
   refine Runs.nR hE 3 [] [] (kp [1] ++ [(5,.osl ((out2 ++ ([(w64 ((out2.getD ((k).toNat) 0)+(l.getD ((i).toNat) 0)))]:List Int)).length))] ++ kp [6,7,8]) [(225,.arr 225 ((out2 ++ ([(w64 ((out2.getD ((k).toNat) 0)+(l.getD ((i).toNat) 0)))]:List Int)).length) (fun zi=>cI ((out2 ++ ([(w64 ((out2.getD ((k).toNat) 0)+(l.getD ((i).toNat) 0)))]:List Int)).getD zi 0)))] 257 (pc c (pc (ltOf c) (pc c2 (pc (Eq.refl out2.length) (pc c3 (pc (z1 1) (pc (show ∀ zi,zi < 1→AV.oneL ((fun zi=>([[(aI (w64 ((out2.getD ((k).toNat) 0)+(l.getD ((i).toNat) 0))))]]:List (List AV)).getD zi []) (addz 0 zi))=true from (oneN rfl)) (pc (show (out2.length+1)=(out2 ++ ([(w64 ((out2.getD ((k).toNat) 0)+(l.getD ((i).toNat) 0)))]:List Int)).length from (len_app_raw rfl rfl)) (pc (show out2.length+1=(out2 ++ ([(w64 ((out2.getD ((k).toNat) 0)+(l.getD ((i).toNat) 0)))]:List Int)).length from (len_app_raw rfl rfl)) (pc (show ∀ zi,zi < (out2 ++ ([(w64 ((out2.getD ((k).toNat) 0)+(l.getD ((i).toNat) 0)))]:List Int)).length→(fun zi=>cI ((out2 ++ ([(w64 ((out2.getD ((k).toNat) 0)+(l.getD ((i).toNat) 0)))]:List Int)).getD zi 0)) zi=((fun zm=>if zm < out2.length then (fun zi=>cI (out2.getD zi 0)) zm else (fun zi=>([[(aI (w64 ((out2.getD ((k).toNat) 0)+(l.getD ((i).toNat) 0))))]]:List (List AV)).getD zi []) (zm - out2.length))) zi from (get_app_raw cI 0 out2 ([(w64 ((out2.getD ((k).toNat) 0)+(l.getD ((i).toNat) 0)))]:List Int) rfl (fun _ _=>rfl) (fun zq hzq=>get_chunk cI 0 ([(w64 ((out2.getD ((k).toNat) 0)+(l.getD ((i).toNat) 0)))]:List Int) zq hzq))) pn)))))))))) ?_
   refine Runs.nR hE 1 [] [] (kp [1,5,6,7,8]) (kq [225]) 305 pn ?_
   exact Runs.nW hE 1 [] (kp [1,5,6,7,8]) [(0,.keep 225)] 1 pn (ih _ _ _ h E hE)
  ·refine Runs.nR hE 2 [] [] (kp [1,5,6]) (kq [0]) 97 pn ?_
   exact Runs.nW hE 1 [] (kp [1,5,6]) (kq [0]) 1 pn (hK_g_r06_sums_L1 _ _ _ h E hE)
def g_r06_sums_L3_H (N:Nat) (out:List Int) (K:(List Int)→Int→Option ((List Int))):Prop:=∀ (sorted:List Int) (i2:Int) (r:(List Int)),K sorted i2=some r→∀ E,EnvOk E 0→Runs Try.prog E 100 96 (SPost E [] (encL cI 0 r)) [.code (C_62 500),.inLoop (C_62 500),.inBlock 4,.code (C_62 63)] ⟨[(5,(.os 0 0 out.length)),(9,(.os 1 0 sorted.length)),(10,(aI i2))],[(0,aO 1 cI 0 out),(1,aO 1 cI 0 sorted)],2⟩
def g_r06_sums_L4_H (N:Nat) (out:List Int) (sorted:List Int) (i2:Int) (K:Int→Option ((List Int))):Prop:=∀ (k2:Int) (r:(List Int)),K k2=some r→∀ E,EnvOk E 0→Runs Try.prog E 100 96 (SPost E [] (encL cI 0 r)) [.code (C_62 64072),.inLoop (C_62 64072),.inBlock 6,.code (C_62 16019),.inBlock 5,.code (C_62 2003),.inLoop (C_62 500),.inBlock 4,.code (C_62 63)] ⟨[(5,(.os 0 0 out.length)),(9,(.os 1 0 sorted.length)),(10,(aI i2)),(11,(aI k2))],[(0,aO 1 cI 0 out),(1,aO 1 cI 0 sorted)],2⟩
def g_r06_sums_J5_H (N:Nat) (out:List Int) (i2:Int) (K:(List Int)→Option ((List Int))):Prop:=∀ (sorted2:List Int) (r:(List Int)),K sorted2=some r→∀ E,EnvOk E 0→Runs Try.prog E 100 96 (SPost E [] (encL cI 0 r)) [.code (C_62 2003),.inLoop (C_62 500),.inBlock 4,.code (C_62 63)] ⟨[(5,(.os 0 0 out.length)),(9,(.os 1 0 sorted2.length)),(10,(aI i2))],[(0,aO 1 cI 0 out),(1,aO 1 cI 0 sorted2)],2⟩
theorem g_r06_sums_J5_ok (N:Nat) (out:List Int) (i2:Int) (K_g_r06_sums_L3:(List Int)→Int→Option ((List Int))) (hK_g_r06_sums_L3:g_r06_sums_L3_H N out K_g_r06_sums_L3):g_r06_sums_J5_H N out i2 (g_r06_sums_J5 N out i2 K_g_r06_sums_L3):=by
 intro sorted2 r h E hE
 unfold g_r06_sums_J5 at h
 refine Runs.nR hE 0 [] [] (kp [5,9,10]) (kq [0,1]) 50 pn ?_
 exact Runs.nW hE 1 [] (kp [5,9,10]) (kq [0,1]) 2 pn (hK_g_r06_sums_L3 _ _ _ h E hE)
theorem g_r06_sums_L4_ok (N:Nat) (out:List Int) (sorted:List Int) (i2:Int) (K_g_r06_sums_L3:(List Int)→Int→Option ((List Int))) (hK_g_r06_sums_L3:g_r06_sums_L3_H N out K_g_r06_sums_L3) (fuel:Nat):g_r06_sums_L4_H N out sorted i2 (g_r06_sums_L4 N out sorted i2 K_g_r06_sums_L3 fuel):=by
 induction fuel with
 | zero=>intro _ r h;rw [g_r06_sums_L4.eq_1] at h;cases h
 | succ fuel ih =>
  intro k2 r h E hE
  rw [g_r06_sums_L4.eq_2] at h
  obtain ⟨c4,h⟩:=ifSome h
  obtain ⟨c5,h⟩:=ifSome h
  refine Runs.nR hE 2 [] [] (kp [5,9,10,11,59]) (kq [0,1]) 242 (pc (fun hg:(decide (k2 < ((sorted.length:Nat):Int)))=true=>(pc hg (pc hg (pc (c4 hg) pn)))) (pc (fun hg:(decide (k2 < ((sorted.length:Nat):Int)))=true=>(pc hg (pc (ltOf (c4 hg)) pn))) (pc (fun hg:(decide (k2 < ((sorted.length:Nat):Int)))=true=>(pc hg (pc hg (pc (c5 hg) pn)))) (pc (fun hg:(decide (k2 < ((sorted.length:Nat):Int)))=true=>(pc hg (pc (ltOf (c5 hg)) pn))) (pc (fun hg:(decide (k2 < ((sorted.length:Nat):Int)))=true=>(pc hg (pc hg pn))) (pc (fun hq:(decide (k2 < ((sorted.length:Nat):Int)))=true=>(pc hq pn)) pn)))))) ?_
  refine Runs.nC 0 59 h (fun hq5 h=>?_) (fun hq5 h=>?_)
  ·refine Runs.nR hE 2 [] [] (kp [5,9,10,11]) (kq [0,1]) 290 pn ?_
   exact Runs.nW hE 2 [] (kp [5,9,10,11]) (kq [0,1]) 2 pn (ih _ _ h E hE)
  ·refine Runs.nR hE 3 [] [] (kp [5,9,10,11,76]) (kq [0,1]) 482 (pc (fun hg:(decide (k2 < ((sorted.length:Nat):Int)))=true=>(pc hg (pc hg (pc (c4 hg) pn)))) (pc (fun hg:(decide (k2 < ((sorted.length:Nat):Int)))=true=>(pc hg (pc (ltOf (c4 hg)) pn))) (pc (fun hg:(decide (k2 < ((sorted.length:Nat):Int)))=true=>(pc hg (pc hg (pc (c5 hg) pn)))) (pc (fun hg:(decide (k2 < ((sorted.length:Nat):Int)))=true=>(pc hg (pc (ltOf (c5 hg)) pn))) (pc (fun hg:(decide (k2 < ((sorted.length:Nat):Int)))=true=>(pc hg (pc hg pn))) (pc (fun hq:(decide (k2 < ((sorted.length:Nat):Int)))=true=>(pc hq pn)) pn)))))) ?_
   refine Runs.nC 0 76 h (fun hq6 h=>?_) (fun hq6 h=>?_)
   ·exact Runs.nW hE 1 [] (kp [5,9,10]) (kq [0,1]) 2 pn (g_r06_sums_J5_ok N _ _ _ hK_g_r06_sums_L3 _ _ h E hE)
   ·obtain ⟨c6,h⟩:=ifSome h
    refine Runs.nR hE 2 [] [] (kp [5] ++ [(9,.osl ((sorted ++ ([0]:List Int)).length))] ++ kp [10,11]) (kq [0] ++ [(514,.arr 514 ((sorted ++ ([0]:List Int)).length) (fun zi=>cI ((sorted ++ ([0]:List Int)).getD zi 0)))]) 546 (pc (Eq.refl sorted.length) (pc c6 (pc (z1 1) (pc (show ∀ zi,zi < 1→AV.oneL ((fun zi=>([[(aI 0)]]:List (List AV)).getD zi []) (addz 0 zi))=true from (oneN rfl)) (pc (show (sorted.length+1)=(sorted ++ ([0]:List Int)).length from (len_app_raw rfl rfl)) (pc (show sorted.length+1=(sorted ++ ([0]:List Int)).length from (len_app_raw rfl rfl)) (pc (show ∀ zi,zi < (sorted ++ ([0]:List Int)).length→(fun zi=>cI ((sorted ++ ([0]:List Int)).getD zi 0)) zi=((fun zm=>if zm < sorted.length then (fun zi=>cI (sorted.getD zi 0)) zm else (fun zi=>([[(aI 0)]]:List (List AV)).getD zi []) (zm - sorted.length))) zi from (get_app_raw cI 0 sorted ([0]:List Int) rfl (fun _ _=>rfl) (fun zq hzq=>get_chunk cI 0 ([0]:List Int) zq hzq))) pn))))))) ?_
    obtain ⟨c7,h⟩:=ifSome h
    obtain ⟨c8,h⟩:=ifSome h
    obtain ⟨c9,h⟩:=ifSome h
    obtain ⟨c10,h⟩:=ifSome h
    obtain ⟨c11,h⟩:=ifSome h
    obtain ⟨c12,h⟩:=ifSome h
    refine Runs.nR hE 1 [(7,⟨[],false,.unk,[],0,false,none⟩)] [] (kp [5] ++ [(9,.osl ((cpyL (sorted ++ ([0]:List Int)) ((w64 (k2+1)).toNat) ((k2).toNat) ((sorted ++ ([0]:List Int)).length - (w64 (k2+1)).toNat)).length))] ++ kp [10,11]) (kq [0] ++ [(514,.arr 514 ((cpyL (sorted ++ ([0]:List Int)) ((w64 (k2+1)).toNat) ((k2).toNat) ((sorted ++ ([0]:List Int)).length - (w64 (k2+1)).toNat)).length) (fun zi=>cI ((cpyL (sorted ++ ([0]:List Int)) ((w64 (k2+1)).toNat) ((k2).toNat) ((sorted ++ ([0]:List Int)).length - (w64 (k2+1)).toNat)).getD zi 0)))]) 674 (pc c7 (pc c8 (pc c9 (pc c10 (pc c11 (pc (show (w64 (k2+1)).toNat+((sorted ++ ([0]:List Int)).length - (w64 (k2+1)).toNat)≤(sorted ++ ([0]:List Int)).length from c12.1) (pc (show (k2).toNat+((sorted ++ ([0]:List Int)).length - (w64 (k2+1)).toNat)≤(sorted ++ ([0]:List Int)).length from c12.2) (pc (show ∀ zi,zi < (sorted ++ ([0]:List Int)).length→AV.oneL (cI ((sorted ++ ([0]:List Int)).getD zi 0))=true from (fun _ _=>rfl)) (pc (show (sorted ++ ([0]:List Int)).length=(cpyL (sorted ++ ([0]:List Int)) ((w64 (k2+1)).toNat) ((k2).toNat) ((sorted ++ ([0]:List Int)).length - (w64 (k2+1)).toNat)).length from (len_cpy c12)) (pc (show (sorted ++ ([0]:List Int)).length=(cpyL (sorted ++ ([0]:List Int)) ((w64 (k2+1)).toNat) ((k2).toNat) ((sorted ++ ([0]:List Int)).length - (w64 (k2+1)).toNat)).length from (len_cpy c12)) (pc (show ∀ zi,zi < (cpyL (sorted ++ ([0]:List Int)) ((w64 (k2+1)).toNat) ((k2).toNat) ((sorted ++ ([0]:List Int)).length - (w64 (k2+1)).toNat)).length→(fun zi=>cI ((cpyL (sorted ++ ([0]:List Int)) ((w64 (k2+1)).toNat) ((k2).toNat) ((sorted ++ ([0]:List Int)).length - (w64 (k2+1)).toNat)).getD zi 0)) zi=((fun zm=>if zm < (w64 (k2+1)).toNat then cI ((sorted ++ ([0]:List Int)).getD zm 0) else if zm < (w64 (k2+1)).toNat+((sorted ++ ([0]:List Int)).length - (w64 (k2+1)).toNat) then cI ((sorted ++ ([0]:List Int)).getD (addz (k2).toNat (zm - (w64 (k2+1)).toNat)) 0) else cI ((sorted ++ ([0]:List Int)).getD zm 0))) zi from (fun zq hzq=>get_cpy cI 0 (sorted ++ ([0]:List Int)) ((w64 (k2+1)).toNat) ((k2).toNat) ((sorted ++ ([0]:List Int)).length - (w64 (k2+1)).toNat) c12 zq hzq)) pn))))))))))) ?_
    obtain ⟨c13,h⟩:=ifSome h
    obtain ⟨c14,h⟩:=ifSome h
    refine Runs.nR hE 0 [] [] (kp [5] ++ [(9,.osl (((cpyL (sorted ++ ([0]:List Int)) ((w64 (k2+1)).toNat) ((k2).toNat) ((sorted ++ ([0]:List Int)).length - (w64 (k2+1)).toNat)).set ((k2).toNat) (out.getD ((i2).toNat) 0)).length))] ++ kp [10]) (kq [0] ++ [(514,.arr 514 (((cpyL (sorted ++ ([0]:List Int)) ((w64 (k2+1)).toNat) ((k2).toNat) ((sorted ++ ([0]:List Int)).length - (w64 (k2+1)).toNat)).set ((k2).toNat) (out.getD ((i2).toNat) 0)).length) (fun zi=>cI (((cpyL (sorted ++ ([0]:List Int)) ((w64 (k2+1)).toNat) ((k2).toNat) ((sorted ++ ([0]:List Int)).length - (w64 (k2+1)).toNat)).set ((k2).toNat) (out.getD ((i2).toNat) 0)).getD zi 0)))]) 802 (pc c13 (pc (ltOf c13) (pc c14 (pc (ltOf c14) (pc (len_set0 (cpyL (sorted ++ ([0]:List Int)) ((w64 (k2+1)).toNat) ((k2).toNat) ((sorted ++ ([0]:List Int)).length - (w64 (k2+1)).toNat)) ((k2).toNat) (out.getD ((i2).toNat) 0)) (pc (len_set0 (cpyL (sorted ++ ([0]:List Int)) ((w64 (k2+1)).toNat) ((k2).toNat) ((sorted ++ ([0]:List Int)).length - (w64 (k2+1)).toNat)) ((k2).toNat) (out.getD ((i2).toNat) 0)) (pc (get_set0 cI 0 (cpyL (sorted ++ ([0]:List Int)) ((w64 (k2+1)).toNat) ((k2).toNat) ((sorted ++ ([0]:List Int)).length - (w64 (k2+1)).toNat)) ((k2).toNat) (out.getD ((i2).toNat) 0)) pn))))))) ?_
    exact Runs.nW hE 1 [] (kp [5,9,10]) (kq [0] ++ [(1,.keep 514)]) 2 pn (g_r06_sums_J5_ok N _ _ _ hK_g_r06_sums_L3 _ _ h E hE)
theorem g_r06_sums_L3_ok (N:Nat) (out:List Int) (fuel:Nat):g_r06_sums_L3_H N out (g_r06_sums_L3 N out fuel):=by
 induction fuel with
 | zero=>intro _ _ r h;rw [g_r06_sums_L3.eq_1] at h;cases h
 | succ fuel ih =>
  intro sorted i2 r h E hE
  rw [g_r06_sums_L3.eq_2] at h
  refine Runs.nR hE 2 [] [] (kp [5,9,10,42]) (kq [0,1]) 66 pn ?_
  refine Runs.nC 0 42 h (fun hq4 h=>?_) (fun hq4 h=>?_)
  ·refine Runs.nR hE 4 [] [] (kp [5,9,10,11]) (kq [0,1]) 82 pn ?_
   exact Runs.nW hE 3 [] (kp [5,9,10,11]) (kq [0,1]) 2 pn (g_r06_sums_L4_ok N _ _ _ _ ih N _ _ h E hE)
  ·refine Runs.nR hE 2 [] [] (kp [4]) (kq [1]) 98 pn ?_
   obtain rfl:=Option.some.inj h
   exact Runs.nT hE 0 Try.f100 [1] [(4,.sl (sorted.length) (fun zi=>cI (sorted.getD zi 0)))] [] 98 (pc (Eq.refl sorted.length) (pc (z1 sorted.length) (pc (show ∀ zi,zi < sorted.length→(fun zi=>cI (sorted.getD zi 0)) zi=(fun zi=>cI (sorted.getD zi 0)) (addz 0 zi) from (fun _ _=>rfl)) pn))) [] pn
theorem g_r06_sums_L1_ok (N:Nat) (l:List Int) (fuel:Nat):g_r06_sums_L1_H N l (g_r06_sums_L1 N l fuel):=by
 induction fuel with
 | zero=>intro _ _ r h;rw [g_r06_sums_L1.eq_1] at h;cases h
 | succ fuel ih =>
  intro out i r h E hE
  rw [g_r06_sums_L1.eq_2] at h
  refine Runs.nR hE 2 [] [] (kp [1,5,6,17]) (kq [0]) 65 pn ?_
  refine Runs.nC 0 17 h (fun hq2 h=>?_) (fun hq2 h=>?_)
  ·refine Runs.nR hE 4 [] [] (kp [1,5,6,7]) (kq [0]) 113 pn ?_
   refine Runs.nR hE 1 [] [] (kp [1,5,6,7,8]) (kq [0]) 129 pn ?_
   exact Runs.nW hE 2 [] (kp [1,5,6,7,8]) (kq [0]) 1 pn (g_r06_sums_L2_ok N _ _ _ _ ih N _ _ _ h E hE)
  ·refine Runs.nR hE 2 [] [] (kp [5,9]) (kq [0]) 81 pn ?_
   refine Runs.nR hE 2 [] [] (kp [5,9,10]) (kq [0]) 97 pn ?_
   exact Runs.nW hE 2 [] (kp [5] ++ [(9,.nilos 1)] ++ kp [10]) (kq [0] ++ [(1,.nil 1 (fun zi=>cI (([]:List Int).getD zi 0)))]) 2 pn (g_r06_sums_L3_ok N _ N _ _ _ h E hE)
theorem g_r06_sums_ok (N:Nat) (first:Int) (l:List Int) (r:(List Int)) (h:g_r06_sums N first l=some r):Sound Try.prog 100 [(aI first),(encL cI 0 l)] [] 0 (encL cI 0 r) []:=by
 unfold g_r06_sums at h
 refine Sound.of_runs (fu:=Try.f100) (c:=C_62 1) (nt:=96) (by kernel_rfl) (by kernel_rfl) (by kernel_rfl) (by kernel_rfl) (fun hm=>rfl) ?_
 intro E hE
 refine Runs.nR hE 1 [] [] (kp [0,1]) [] 16 pn ?_
 refine Runs.nR hE 1 [] [] (kp [1] ++ [(5,.osl (([first]:List Int).length))]) [(32,.arr 32 (([first]:List Int).length) (fun zi=>cI (([first]:List Int).getD zi 0)))] 64 (pc (Eq.refl 1) (pc (Eq.refl 1) (pc (show ∀ zi,zi < ([first]:List Int).length→(fun zi=>cI (([first]:List Int).getD zi 0)) zi=(fun zi=>([[(aI first)]]:List (List AV)).getD zi []) zi from (fun zq hzq=>get_chunk cI 0 ([first]:List Int) zq hzq)) pn))) ?_
 refine Runs.nR hE 2 [] [] (kp [1,5,6]) (kq [32]) 80 pn ?_
 exact Runs.nW hE 2 [] (kp [1,5,6]) [(0,.keep 32)] 1 pn (g_r06_sums_L1_ok N _ N _ _ _ h E hE)
noncomputable def C_61 (n:Nat):Code:=cat (bodyOf Try.f67) (pth n)
def g_r06_normal_L1_H (N:Nat) (d:TDock) (c:List TCall) (k:Int) (K:(List Int)→(List Int)→Int→Option ((List Int)×(List Int))):Prop:=∀ (x:List Int) (y:List Int) (i:Int) (r:(List Int)×(List Int)),K x y i=some r→∀ E,EnvOk E 0→Runs Try.prog E 67 50 (SPost E [] (.tup [(encL cI 0 r.1),(encL cI 0 r.2)])) [.code (C_61 116),.inLoop (C_61 116),.inBlock 0,.code (C_61 15)] ⟨[(1,(encL TCall.cells TCall.d c)),(2,(aI k)),(3,(.op 0 0 0)),(8,(.os 1 0 x.length)),(9,(.os 2 0 y.length)),(10,(aI i))],[(0,vO 6 (TDock.cells d)),(1,aO 1 cI 0 x),(2,aO 1 cI 0 y)],3⟩
def g_r06_normal_J2_H (N:Nat) (d:TDock) (c:List TCall) (k:Int) (i:Int) (K:(List Int)→(List Int)→Option ((List Int)×(List Int))):Prop:=∀ (x2:List Int) (y2:List Int) (r:(List Int)×(List Int)),K x2 y2=some r→∀ E,EnvOk E 0→Runs Try.prog E 67 50 (SPost E [] (.tup [(encL cI 0 r.1),(encL cI 0 r.2)])) [.code (C_61 467),.inLoop (C_61 116),.inBlock 0,.code (C_61 15)] ⟨[(1,(encL TCall.cells TCall.d c)),(2,(aI k)),(3,(.op 0 0 0)),(8,(.os 1 0 x2.length)),(9,(.os 2 0 y2.length)),(10,(aI i))],[(0,vO 6 (TDock.cells d)),(1,aO 1 cI 0 x2),(2,aO 1 cI 0 y2)],3⟩
theorem g_r06_normal_J2_ok (N:Nat) (d:TDock) (c:List TCall) (k:Int) (i:Int) (K_g_r06_normal_L1:(List Int)→(List Int)→Int→Option ((List Int)×(List Int))) (hK_g_r06_normal_L1:g_r06_normal_L1_H N d c k K_g_r06_normal_L1):g_r06_normal_J2_H N d c k i (g_r06_normal_J2 N d c k i K_g_r06_normal_L1):=by
 intro x2 y2 r h E hE
 unfold g_r06_normal_J2 at h
 refine Runs.nR hE 0 [] [] (kp [1,2,3,8,9,10]) (kq [0,1,2]) 51 pn ?_
 exact Runs.nW hE 1 [] (kp [1,2,3,8,9,10]) (kq [0,1,2]) 3 pn (hK_g_r06_normal_L1 _ _ _ _ h E hE)
theorem g_r06_normal_L1_ok (N:Nat) (d:TDock) (c:List TCall) (k:Int) (fuel:Nat):g_r06_normal_L1_H N d c k (g_r06_normal_L1 N d c k fuel):=by
 induction fuel with
 | zero=>intro _ _ _ r h;rw [g_r06_normal_L1.eq_1] at h;cases h
 | succ fuel ih =>
  intro x y i r h E hE
  rw [g_r06_normal_L1.eq_2] at h
  refine Runs.nR hE 2 [] [] (kp [1,2,3,8,9,10,14]) (kq [0,1,2]) 67 pn ?_
  refine Runs.nC 0 14 h (fun hq2 h=>?_) (fun hq2 h=>?_)
  ·refine Runs.nR hE 4 [] [] (kp [1,2,3,8,9,10,19]) (kq [0,1,2]) 115 pn ?_
   refine Runs.nC 0 19 h (fun hq3 h=>?_) (fun hq3 h=>?_)
   ·obtain ⟨c2,h⟩:=ifSome h
    obtain ⟨c3,h⟩:=ifSome h
    refine Runs.nR hE 1 [] [] (kp [1,2,3] ++ [(8,.osl ((x ++ ([(w64 ((c.getD ((i).toNat) TCall.d).f_Length+d.f_Gap))]:List Int)).length))] ++ kp [9,10]) (kq [0,2] ++ [(275,.arr 275 ((x ++ ([(w64 ((c.getD ((i).toNat) TCall.d).f_Length+d.f_Gap))]:List Int)).length) (fun zi=>cI ((x ++ ([(w64 ((c.getD ((i).toNat) TCall.d).f_Length+d.f_Gap))]:List Int)).getD zi 0)))]) 307 (pc c2 (pc o1 (pc (Eq.refl x.length) (pc c3 (pc (z1 1) (pc (show ∀ zi,zi < 1→AV.oneL ((fun zi=>([[(aI (w64 ((c.getD ((i).toNat) TCall.d).f_Length+d.f_Gap)))]]:List (List AV)).getD zi []) (addz 0 zi))=true from (oneN rfl)) (pc (show (x.length+1)=(x ++ ([(w64 ((c.getD ((i).toNat) TCall.d).f_Length+d.f_Gap))]:List Int)).length from (len_app_raw rfl rfl)) (pc (show x.length+1=(x ++ ([(w64 ((c.getD ((i).toNat) TCall.d).f_Length+d.f_Gap))]:List Int)).length from (len_app_raw rfl rfl)) (pc (show ∀ zi,zi < (x ++ ([(w64 ((c.getD ((i).toNat) TCall.d).f_Length+d.f_Gap))]:List Int)).length→(fun zi=>cI ((x ++ ([(w64 ((c.getD ((i).toNat) TCall.d).f_Length+d.f_Gap))]:List Int)).getD zi 0)) zi=((fun zm=>if zm < x.length then (fun zi=>cI (x.getD zi 0)) zm else (fun zi=>([[(aI (w64 ((c.getD ((i).toNat) TCall.d).f_Length+d.f_Gap)))]]:List (List AV)).getD zi []) (zm - x.length))) zi from (get_app_raw cI 0 x ([(w64 ((c.getD ((i).toNat) TCall.d).f_Length+d.f_Gap))]:List Int) rfl (fun _ _=>rfl) (fun zq hzq=>get_chunk cI 0 ([(w64 ((c.getD ((i).toNat) TCall.d).f_Length+d.f_Gap))]:List Int) zq hzq))) pn))))))))) ?_
    obtain ⟨c4,h⟩:=ifSome h
    refine Runs.nR hE 0 [] [] (kp [1,2,3,8] ++ [(9,.osl ((y ++ ([(w64 ((c.getD ((i).toNat) TCall.d).f_Beam+d.f_Gap))]:List Int)).length))] ++ kp [10]) (kq [0,275] ++ [(467,.arr 467 ((y ++ ([(w64 ((c.getD ((i).toNat) TCall.d).f_Beam+d.f_Gap))]:List Int)).length) (fun zi=>cI ((y ++ ([(w64 ((c.getD ((i).toNat) TCall.d).f_Beam+d.f_Gap))]:List Int)).getD zi 0)))]) 499 (pc c2 (pc o1 (pc (Eq.refl y.length) (pc c4 (pc (z1 1) (pc (show ∀ zi,zi < 1→AV.oneL ((fun zi=>([[(aI (w64 ((c.getD ((i).toNat) TCall.d).f_Beam+d.f_Gap)))]]:List (List AV)).getD zi []) (addz 0 zi))=true from (oneN rfl)) (pc (show (y.length+1)=(y ++ ([(w64 ((c.getD ((i).toNat) TCall.d).f_Beam+d.f_Gap))]:List Int)).length from (len_app_raw rfl rfl)) (pc (show y.length+1=(y ++ ([(w64 ((c.getD ((i).toNat) TCall.d).f_Beam+d.f_Gap))]:List Int)).length from (len_app_raw rfl rfl)) (pc (show ∀ zi,zi < (y ++ ([(w64 ((c.getD ((i).toNat) TCall.d).f_Beam+d.f_Gap))]:List Int)).length→(fun zi=>cI ((y ++ ([(w64 ((c.getD ((i).toNat) TCall.d).f_Beam+d.f_Gap))]:List Int)).getD zi 0)) zi=((fun zm=>if zm < y.length then (fun zi=>cI (y.getD zi 0)) zm else (fun zi=>([[(aI (w64 ((c.getD ((i).toNat) TCall.d).f_Beam+d.f_Gap)))]]:List (List AV)).getD zi []) (zm - y.length))) zi from (get_app_raw cI 0 y ([(w64 ((c.getD ((i).toNat) TCall.d).f_Beam+d.f_Gap))]:List Int) rfl (fun _ _=>rfl) (fun zq hzq=>get_chunk cI 0 ([(w64 ((c.getD ((i).toNat) TCall.d).f_Beam+d.f_Gap))]:List Int) zq hzq))) pn))))))))) ?_
    exact Runs.nW hE 1 [] (kp [1,2,3,8,9,10]) (kq [0] ++ [(1,.keep 275),(2,.keep 467)]) 3 pn (g_r06_normal_J2_ok N _ _ _ _ _ ih _ _ _ h E hE)
   ·exact Runs.nW hE 2 [] (kp [1,2,3,8,9,10]) (kq [0,1,2]) 3 pn (g_r06_normal_J2_ok N _ _ _ _ _ ih _ _ _ h E hE)
  ·obtain ⟨rsums,hr,h⟩:=bindSome h
   obtain ⟨rsums2,hr2,h⟩:=bindSome h
   refine Runs.nR hE 2 [(3,⟨[],true,(encL cI 0 rsums),[],0,true,none⟩),(7,⟨[],true,(encL cI 0 rsums2),[],0,true,none⟩)] [] (kp [6,7]) [] 227 (pc o1 (pc (g_r06_sums_ok N d.f_Gap x rsums hr) (pc (z1 x.length) (pc o1 (pc (g_r06_sums_ok N d.f_Gap y rsums2 hr2) (pc (z1 y.length) pn)))))) ?_
   obtain rfl:=Option.some.inj h
   exact Runs.nT hE 0 Try.f67 [] (kp [6,7]) [] 227 pn [] pn
theorem g_r06_normal_ok (N:Nat) (d:TDock) (c:List TCall) (k:Int) (r:(List Int)×(List Int)) (h:g_r06_normal N d c k=some r):Sound Try.prog 67 [(.agg (TDock.cells d)),(encL TCall.cells TCall.d c),(aI k)] [] 0 (.tup [(encL cI 0 r.1),(encL cI 0 r.2)]) []:=by
 unfold g_r06_normal at h
 refine Sound.of_runs (fu:=Try.f67) (c:=C_61 1) (nt:=50) (by kernel_rfl) (by kernel_rfl) (by kernel_rfl) (by kernel_rfl) (fun hm=>rfl) ?_
 intro E hE
 refine Runs.nR hE 1 [] [] (kp [1,2,3]) (kq [0]) 48 pn ?_
 refine Runs.nR hE 1 [] [] (kp [1,2,3,8,9]) (kq [0]) 80 pn ?_
 refine Runs.nR hE 2 [] [] (kp [1,2,3,8,9,10]) (kq [0]) 96 pn ?_
 exact Runs.nW hE 2 [] (kp [1,2,3] ++ [(8,.nilos 1),(9,.nilos 2)] ++ kp [10]) (kq [0] ++ [(1,.nil 1 (fun zi=>cI (([]:List Int).getD zi 0))),(2,.nil 1 (fun zi=>cI (([]:List Int).getD zi 0)))]) 3 pn (g_r06_normal_L1_ok N _ _ _ N _ _ _ _ h E hE)
noncomputable def C_63 (n:Nat):Code:=cat (bodyOf Try.f68) (pth n)
theorem g_r06_within_ok (N:Nat) (d:TDock) (c:TCall) (s:TSpot) (r:Bool) (h:g_r06_within N d c s=some r):Sound Try.prog 68 [(.agg (TDock.cells d)),(.agg (TCall.cells c)),(.agg (TSpot.cells s))] [] 0 (aB r) []:=by
 unfold g_r06_within at h
 refine Sound.of_runs (fu:=Try.f68) (c:=C_63 1) (nt:=45) (by kernel_rfl) (by kernel_rfl) (by kernel_rfl) (by kernel_rfl) (fun hm=>rfl) ?_
 intro E hE
 refine Runs.nR hE 1 [] [] (kp [3,4,5]) (kq [0,16,32]) 64 pn ?_
 refine Runs.nR hE 1 [] [] (kp [6]) [] 688 (pc o1 (pc o1 (pc (fun hg:(decide (s.f_X≥d.f_Gap))=true=>(pc hg (pc o1 pn))) (pc (fun hg:(decide (s.f_X≥d.f_Gap))=true=>(pc hg (pc o1 pn))) (pc (fun hg:(decide (s.f_X≥d.f_Gap))=true=>(pc hg (pc hg pn))) (pc (fun hq:(decide (s.f_X≥d.f_Gap))=true=>(pc hq pn)) (pc (fun hg:(cond (decide (s.f_X≥d.f_Gap)) (decide (s.f_Y≥d.f_Gap)) false)=true=>(pc hg (pc o1 pn))) (pc (fun hg:(cond (decide (s.f_X≥d.f_Gap)) (decide (s.f_Y≥d.f_Gap)) false)=true=>(pc hg (pc o1 pn))) (pc (fun hg:(cond (decide (s.f_X≥d.f_Gap)) (decide (s.f_Y≥d.f_Gap)) false)=true=>(pc hg (pc hg pn))) (pc (fun hg:(cond (decide (s.f_X≥d.f_Gap)) (decide (s.f_Y≥d.f_Gap)) false)=true=>(pc hg (pc o1 pn))) (pc (fun hg:(cond (decide (s.f_X≥d.f_Gap)) (decide (s.f_Y≥d.f_Gap)) false)=true=>(pc hg (pc hg pn))) (pc (fun hg:(cond (decide (s.f_X≥d.f_Gap)) (decide (s.f_Y≥d.f_Gap)) false)=true=>(pc hg (pc o1 pn))) (pc (fun hg:(cond (decide (s.f_X≥d.f_Gap)) (decide (s.f_Y≥d.f_Gap)) false)=true=>(pc hg (pc hg pn))) (pc (fun hq:(cond (decide (s.f_X≥d.f_Gap)) (decide (s.f_Y≥d.f_Gap)) false)=true=>(pc hq pn)) (pc (fun hg:(cond (cond (decide (s.f_X≥d.f_Gap)) (decide (s.f_Y≥d.f_Gap)) false) (decide ((w64 ((w64 (s.f_X+c.f_Length))+d.f_Gap))≤d.f_Length)) false)=true=>(pc hg (pc o1 pn))) (pc (fun hg:(cond (cond (decide (s.f_X≥d.f_Gap)) (decide (s.f_Y≥d.f_Gap)) false) (decide ((w64 ((w64 (s.f_X+c.f_Length))+d.f_Gap))≤d.f_Length)) false)=true=>(pc hg (pc o1 pn))) (pc (fun hg:(cond (cond (decide (s.f_X≥d.f_Gap)) (decide (s.f_Y≥d.f_Gap)) false) (decide ((w64 ((w64 (s.f_X+c.f_Length))+d.f_Gap))≤d.f_Length)) false)=true=>(pc hg (pc hg pn))) (pc (fun hg:(cond (cond (decide (s.f_X≥d.f_Gap)) (decide (s.f_Y≥d.f_Gap)) false) (decide ((w64 ((w64 (s.f_X+c.f_Length))+d.f_Gap))≤d.f_Length)) false)=true=>(pc hg (pc o1 pn))) (pc (fun hg:(cond (cond (decide (s.f_X≥d.f_Gap)) (decide (s.f_Y≥d.f_Gap)) false) (decide ((w64 ((w64 (s.f_X+c.f_Length))+d.f_Gap))≤d.f_Length)) false)=true=>(pc hg (pc hg pn))) (pc (fun hg:(cond (cond (decide (s.f_X≥d.f_Gap)) (decide (s.f_Y≥d.f_Gap)) false) (decide ((w64 ((w64 (s.f_X+c.f_Length))+d.f_Gap))≤d.f_Length)) false)=true=>(pc hg (pc o1 pn))) (pc (fun hg:(cond (cond (decide (s.f_X≥d.f_Gap)) (decide (s.f_Y≥d.f_Gap)) false) (decide ((w64 ((w64 (s.f_X+c.f_Length))+d.f_Gap))≤d.f_Length)) false)=true=>(pc hg (pc hg pn))) (pc (fun hq:(cond (cond (decide (s.f_X≥d.f_Gap)) (decide (s.f_Y≥d.f_Gap)) false) (decide ((w64 ((w64 (s.f_X+c.f_Length))+d.f_Gap))≤d.f_Length)) false)=true=>(pc hq pn)) pn)))))))))))))))))))))) ?_
 obtain rfl:=Option.some.inj h
 exact Runs.nT hE 0 Try.f68 [] (kp [6]) [] 688 pn [] pn
noncomputable def C_64 (n:Nat):Code:=cat (bodyOf Try.f69) (pth n)
theorem g_r06_apart_ok (N:Nat) (d:TDock) (a:TCall) (b:TCall) (s:TSpot) (t:TSpot) (r:Bool) (h:g_r06_apart N d a b s t=some r):Sound Try.prog 69 [(.agg (TDock.cells d)),(.agg (TCall.cells a)),(.agg (TCall.cells b)),(.agg (TSpot.cells s)),(.agg (TSpot.cells t))] [] 0 (aB r) []:=by
 unfold g_r06_apart at h
 refine Sound.of_runs (fu:=Try.f69) (c:=C_64 1) (nt:=61) (by kernel_rfl) (by kernel_rfl) (by kernel_rfl) (by kernel_rfl) (fun hm=>rfl) ?_
 intro E hE
 refine Runs.nR hE 1 [] [] (kp [5,6,7,8,9]) (kq [0,16,32,48,64]) 96 pn ?_
 refine Runs.nR hE 1 [] [] (kp [10]) [] 912 (pc o1 (pc o1 (pc o1 (pc o1 (pc (fun hg:(!(decide ((w64 ((w64 (s.f_X+a.f_Length))+d.f_Gap))≤t.f_X)))=true=>(pc hg (pc o1 pn))) (pc (fun hg:(!(decide ((w64 ((w64 (s.f_X+a.f_Length))+d.f_Gap))≤t.f_X)))=true=>(pc hg (pc o1 pn))) (pc (fun hg:(!(decide ((w64 ((w64 (s.f_X+a.f_Length))+d.f_Gap))≤t.f_X)))=true=>(pc hg (pc hg pn))) (pc (fun hg:(!(decide ((w64 ((w64 (s.f_X+a.f_Length))+d.f_Gap))≤t.f_X)))=true=>(pc hg (pc o1 pn))) (pc (fun hg:(!(decide ((w64 ((w64 (s.f_X+a.f_Length))+d.f_Gap))≤t.f_X)))=true=>(pc hg (pc hg pn))) (pc (fun hg:(!(decide ((w64 ((w64 (s.f_X+a.f_Length))+d.f_Gap))≤t.f_X)))=true=>(pc hg (pc o1 pn))) (pc (fun hg:(!(decide ((w64 ((w64 (s.f_X+a.f_Length))+d.f_Gap))≤t.f_X)))=true=>(pc hg (pc hg pn))) (pc (fun hq:(!(decide ((w64 ((w64 (s.f_X+a.f_Length))+d.f_Gap))≤t.f_X)))=true=>(pc hq pn)) (pc (fun hg:(!(cond (decide ((w64 ((w64 (s.f_X+a.f_Length))+d.f_Gap))≤t.f_X)) true (decide ((w64 ((w64 (t.f_X+b.f_Length))+d.f_Gap))≤s.f_X))))=true=>(pc hg (pc o1 pn))) (pc (fun hg:(!(cond (decide ((w64 ((w64 (s.f_X+a.f_Length))+d.f_Gap))≤t.f_X)) true (decide ((w64 ((w64 (t.f_X+b.f_Length))+d.f_Gap))≤s.f_X))))=true=>(pc hg (pc o1 pn))) (pc (fun hg:(!(cond (decide ((w64 ((w64 (s.f_X+a.f_Length))+d.f_Gap))≤t.f_X)) true (decide ((w64 ((w64 (t.f_X+b.f_Length))+d.f_Gap))≤s.f_X))))=true=>(pc hg (pc hg pn))) (pc (fun hg:(!(cond (decide ((w64 ((w64 (s.f_X+a.f_Length))+d.f_Gap))≤t.f_X)) true (decide ((w64 ((w64 (t.f_X+b.f_Length))+d.f_Gap))≤s.f_X))))=true=>(pc hg (pc o1 pn))) (pc (fun hg:(!(cond (decide ((w64 ((w64 (s.f_X+a.f_Length))+d.f_Gap))≤t.f_X)) true (decide ((w64 ((w64 (t.f_X+b.f_Length))+d.f_Gap))≤s.f_X))))=true=>(pc hg (pc hg pn))) (pc (fun hg:(!(cond (decide ((w64 ((w64 (s.f_X+a.f_Length))+d.f_Gap))≤t.f_X)) true (decide ((w64 ((w64 (t.f_X+b.f_Length))+d.f_Gap))≤s.f_X))))=true=>(pc hg (pc o1 pn))) (pc (fun hg:(!(cond (decide ((w64 ((w64 (s.f_X+a.f_Length))+d.f_Gap))≤t.f_X)) true (decide ((w64 ((w64 (t.f_X+b.f_Length))+d.f_Gap))≤s.f_X))))=true=>(pc hg (pc hg pn))) (pc (fun hq:(!(cond (decide ((w64 ((w64 (s.f_X+a.f_Length))+d.f_Gap))≤t.f_X)) true (decide ((w64 ((w64 (t.f_X+b.f_Length))+d.f_Gap))≤s.f_X))))=true=>(pc hq pn)) (pc (fun hg:(!(cond (cond (decide ((w64 ((w64 (s.f_X+a.f_Length))+d.f_Gap))≤t.f_X)) true (decide ((w64 ((w64 (t.f_X+b.f_Length))+d.f_Gap))≤s.f_X))) true (decide ((w64 ((w64 (s.f_Y+a.f_Beam))+d.f_Gap))≤t.f_Y))))=true=>(pc hg (pc o1 pn))) (pc (fun hg:(!(cond (cond (decide ((w64 ((w64 (s.f_X+a.f_Length))+d.f_Gap))≤t.f_X)) true (decide ((w64 ((w64 (t.f_X+b.f_Length))+d.f_Gap))≤s.f_X))) true (decide ((w64 ((w64 (s.f_Y+a.f_Beam))+d.f_Gap))≤t.f_Y))))=true=>(pc hg (pc o1 pn))) (pc (fun hg:(!(cond (cond (decide ((w64 ((w64 (s.f_X+a.f_Length))+d.f_Gap))≤t.f_X)) true (decide ((w64 ((w64 (t.f_X+b.f_Length))+d.f_Gap))≤s.f_X))) true (decide ((w64 ((w64 (s.f_Y+a.f_Beam))+d.f_Gap))≤t.f_Y))))=true=>(pc hg (pc hg pn))) (pc (fun hg:(!(cond (cond (decide ((w64 ((w64 (s.f_X+a.f_Length))+d.f_Gap))≤t.f_X)) true (decide ((w64 ((w64 (t.f_X+b.f_Length))+d.f_Gap))≤s.f_X))) true (decide ((w64 ((w64 (s.f_Y+a.f_Beam))+d.f_Gap))≤t.f_Y))))=true=>(pc hg (pc o1 pn))) (pc (fun hg:(!(cond (cond (decide ((w64 ((w64 (s.f_X+a.f_Length))+d.f_Gap))≤t.f_X)) true (decide ((w64 ((w64 (t.f_X+b.f_Length))+d.f_Gap))≤s.f_X))) true (decide ((w64 ((w64 (s.f_Y+a.f_Beam))+d.f_Gap))≤t.f_Y))))=true=>(pc hg (pc hg pn))) (pc (fun hg:(!(cond (cond (decide ((w64 ((w64 (s.f_X+a.f_Length))+d.f_Gap))≤t.f_X)) true (decide ((w64 ((w64 (t.f_X+b.f_Length))+d.f_Gap))≤s.f_X))) true (decide ((w64 ((w64 (s.f_Y+a.f_Beam))+d.f_Gap))≤t.f_Y))))=true=>(pc hg (pc o1 pn))) (pc (fun hg:(!(cond (cond (decide ((w64 ((w64 (s.f_X+a.f_Length))+d.f_Gap))≤t.f_X)) true (decide ((w64 ((w64 (t.f_X+b.f_Length))+d.f_Gap))≤s.f_X))) true (decide ((w64 ((w64 (s.f_Y+a.f_Beam))+d.f_Gap))≤t.f_Y))))=true=>(pc hg (pc hg pn))) (pc (fun hq:(!(cond (cond (decide ((w64 ((w64 (s.f_X+a.f_Length))+d.f_Gap))≤t.f_X)) true (decide ((w64 ((w64 (t.f_X+b.f_Length))+d.f_Gap))≤s.f_X))) true (decide ((w64 ((w64 (s.f_Y+a.f_Beam))+d.f_Gap))≤t.f_Y))))=true=>(pc hq pn)) pn)))))))))))))))))))))))))))) ?_
 obtain rfl:=Option.some.inj h
 exact Runs.nT hE 0 Try.f69 [] (kp [10]) [] 912 pn [] pn
noncomputable def C_60 (n:Nat):Code:=cat (bodyOf Try.f38) (pth n)
def g_r06_placed_L1_H (N:Nat) (d:TDock) (c:List TCall) (s:List TSpot) (rnormal:(List Int)×(List Int)) (K:Int→Option ((List TSpot)×Bool)):Prop:=∀ (i:Int) (r:(List TSpot)×Bool),K i=some r→∀ E,EnvOk E 0→Runs Try.prog E 38 104 (SPost E [] (.tup [(encL TSpot.cells TSpot.d r.1),(aB r.2)])) [.code (C_60 500),.inLoop (C_60 500),.inBlock 0,.code (C_60 63)] ⟨[(1,(encL TCall.cells TCall.d c)),(2,(encL TSpot.cells TSpot.d s)),(3,(.op 0 0 0)),(8,(aI ((s.length:Nat):Int))),(9,(encL cI 0 rnormal.1)),(10,(encL cI 0 rnormal.2)),(11,(aI i))],[(0,vO 6 (TDock.cells d))],1⟩
def g_r06_placed_L2_H (N:Nat) (d:TDock) (c:List TCall) (s:List TSpot) (rnormal:(List Int)×(List Int)) (i:Int) (K:Int→Option ((List TSpot)×Bool)):Prop:=∀ (j:Int) (r:(List TSpot)×Bool),K j=some r→∀ E,EnvOk E 0→Runs Try.prog E 38 104 (SPost E [] (.tup [(encL TSpot.cells TSpot.d r.1),(aB r.2)])) [.code (C_60 32036),.inLoop (C_60 32036),.inBlock 2,.inBlock 1,.code (C_60 2003),.inLoop (C_60 500),.inBlock 0,.code (C_60 63)] ⟨[(1,(encL TCall.cells TCall.d c)),(2,(encL TSpot.cells TSpot.d s)),(3,(.op 0 0 0)),(8,(aI ((s.length:Nat):Int))),(9,(encL cI 0 rnormal.1)),(10,(encL cI 0 rnormal.2)),(11,(aI i)),(12,(aI j))],[(0,vO 6 (TDock.cells d))],1⟩
def g_r06_placed_L3_H (N:Nat) (d:TDock) (c:List TCall) (s:List TSpot) (rnormal:(List Int)×(List Int)) (i:Int) (j:Int) (K:Bool→Int→Option ((List TSpot)×Bool)):Prop:=∀ (good:Bool) (m:Int) (r:(List TSpot)×Bool),K good m=some r→∀ E,EnvOk E 0→Runs Try.prog E 38 104 (SPost E [] (.tup [(encL TSpot.cells TSpot.d r.1),(aB r.2)])) [.code (C_60 16402740),.inLoop (C_60 16402740),.inBlock 4,.code (C_60 2050343),.inBlock 3,.code (C_60 128147),.inLoop (C_60 32036),.inBlock 2,.inBlock 1,.code (C_60 2003),.inLoop (C_60 500),.inBlock 0,.code (C_60 63)] ⟨[(1,(encL TCall.cells TCall.d c)),(2,(encL TSpot.cells TSpot.d s)),(3,(.op 0 0 0)),(8,(aI ((s.length:Nat):Int))),(9,(encL cI 0 rnormal.1)),(10,(encL cI 0 rnormal.2)),(11,(aI i)),(12,(aI j)),(13,(.op 1 0 0)),(14,(aB good)),(15,(aI m))],[(0,vO 6 (TDock.cells d)),(1,vO 3 [(aS ((c.getD s.length TCall.d).f_Name)),(aI (rnormal.1.getD ((i).toNat) 0)),(aI (rnormal.2.getD ((j).toNat) 0))])],2⟩
def g_r06_placed_J4_H (N:Nat) (d:TDock) (c:List TCall) (s:List TSpot) (rnormal:(List Int)×(List Int)) (i:Int) (j:Int) (K:Option ((List TSpot)×Bool)):Prop:=∀ (r:(List TSpot)×Bool),K=some r→∀ E,EnvOk E 0→Runs Try.prog E 38 104 (SPost E [] (.tup [(encL TSpot.cells TSpot.d r.1),(aB r.2)])) [.code (C_60 128147),.inLoop (C_60 32036),.inBlock 2,.inBlock 1,.code (C_60 2003),.inLoop (C_60 500),.inBlock 0,.code (C_60 63)] ⟨[(1,(encL TCall.cells TCall.d c)),(2,(encL TSpot.cells TSpot.d s)),(3,(.op 0 0 0)),(8,(aI ((s.length:Nat):Int))),(9,(encL cI 0 rnormal.1)),(10,(encL cI 0 rnormal.2)),(11,(aI i)),(12,(aI j))],[(0,vO 6 (TDock.cells d))],1⟩
theorem g_r06_placed_J4_ok (N:Nat) (d:TDock) (c:List TCall) (s:List TSpot) (rnormal:(List Int)×(List Int)) (i:Int) (j:Int) (R_:TDock→(List TCall)→(List TSpot)→Option ((List TSpot)×Bool)) (K_g_r06_placed_L2:Int→Option ((List TSpot)×Bool)) (K_g_r06_placed_L1:Int→Option ((List TSpot)×Bool))
  (hR_:∀ (d:TDock) (c:List TCall) (s:List TSpot) (r:(List TSpot)×Bool),R_ d c s=some r→Sound Try.prog 38 [(.agg (TDock.cells d)),(encL TCall.cells TCall.d c),(encL TSpot.cells TSpot.d s)] [] 0 (.tup [(encL TSpot.cells TSpot.d r.1),(aB r.2)]) []) (hK_g_r06_placed_L2:g_r06_placed_L2_H N d c s rnormal i K_g_r06_placed_L2) (hK_g_r06_placed_L1:g_r06_placed_L1_H N d c s rnormal K_g_r06_placed_L1):g_r06_placed_J4_H N d c s rnormal i j (g_r06_placed_J4 N d c s rnormal i j R_ K_g_r06_placed_L2 K_g_r06_placed_L1):=by
 intro r h E hE
 unfold g_r06_placed_J4 at h
 refine Runs.nR hE 0 [] [] (kp [1,2,3,8,9,10,11,12]) (kq [0]) 49 pn ?_
 exact Runs.nW hE 1 [] (kp [1,2,3,8,9,10,11,12]) (kq [0]) 1 pn (hK_g_r06_placed_L2 _ _ h E hE)
theorem g_r06_placed_L3_ok (N:Nat) (d:TDock) (c:List TCall) (s:List TSpot) (rnormal:(List Int)×(List Int)) (i:Int) (j:Int) (R_:TDock→(List TCall)→(List TSpot)→Option ((List TSpot)×Bool)) (K_g_r06_placed_L2:Int→Option ((List TSpot)×Bool)) (K_g_r06_placed_L1:Int→Option ((List TSpot)×Bool))
  (hR_:∀ (d:TDock) (c:List TCall) (s:List TSpot) (r:(List TSpot)×Bool),R_ d c s=some r→Sound Try.prog 38 [(.agg (TDock.cells d)),(encL TCall.cells TCall.d c),(encL TSpot.cells TSpot.d s)] [] 0 (.tup [(encL TSpot.cells TSpot.d r.1),(aB r.2)]) []) (hK_g_r06_placed_L2:g_r06_placed_L2_H N d c s rnormal i K_g_r06_placed_L2) (hK_g_r06_placed_L1:g_r06_placed_L1_H N d c s rnormal K_g_r06_placed_L1) (fuel:Nat):g_r06_placed_L3_H N d c s rnormal i j (g_r06_placed_L3 N d c s rnormal i j R_ K_g_r06_placed_L2 K_g_r06_placed_L1 fuel):=by
 induction fuel with
 | zero=>intro _ _ r h;rw [g_r06_placed_L3.eq_1] at h;cases h
 | succ fuel ih =>
  intro good m r h E hE
  rw [g_r06_placed_L3.eq_2] at h
  refine Runs.nR hE 2 [] [] (kp [1,2,3,8,9,10,11,12,13,14,15,70]) (kq [0,1]) 98 (pc (fun hq:(decide (m < ((s.length:Nat):Int)))=true=>(pc hq pn)) pn) ?_
  refine Runs.nC 0 70 h (fun hq5 h=>?_) (fun hq5 h=>?_)
  ·obtain ⟨c5,h⟩:=ifSome h
   obtain ⟨c6,h⟩:=ifSome h
   obtain ⟨c7,h⟩:=ifSome h
   obtain ⟨rapart,hr3,h⟩:=bindSome h
   refine Runs.nR hE 3 [(14,⟨[],true,(aB rapart),[],0,false,none⟩)] [] (kp [1,2,3,8,9,10,11,12,13,14,15]) (kq [0,1]) 354 (pc o1 (pc c5 (pc c6 (pc o1 (pc c7 (pc (g_r06_apart_ok N d (c.getD s.length TCall.d) (c.getD ((m).toNat) TCall.d) (⟨(c.getD s.length TCall.d).f_Name,(rnormal.1.getD ((i).toNat) 0),(rnormal.2.getD ((j).toNat) 0)⟩:TSpot) (s.getD ((m).toNat) TSpot.d) rapart hr3) pn)))))) ?_
   refine Runs.nR hE 1 [] [] (kp [1,2,3,8,9,10,11,12,13,14,15]) (kq [0,1]) 402 pn ?_
   exact Runs.nW hE 1 [] (kp [1,2,3,8,9,10,11,12,13,14,15]) (kq [0,1]) 2 pn (ih _ _ _ h E hE)
  ·refine Runs.nR hE 3 [] [] (kp [1,2,3,8,9,10,11,12,13,89]) (kq [0,1]) 130 pn ?_
   refine Runs.nC 0 89 h (fun hq6 h=>?_) (fun hq6 h=>?_)
   ·exact Runs.nW hE 1 [] (kp [1,2,3,8,9,10,11,12]) (kq [0]) 1 pn (g_r06_placed_J4_ok N _ _ _ _ _ _ _ _ _ hR_ hK_g_r06_placed_L2 hK_g_r06_placed_L1 _ h E hE)
   ·obtain ⟨c8,h⟩:=ifSome h
    obtain ⟨c9,h⟩:=ifSome h
    obtain ⟨rplaced,hr4,h⟩:=bindSome h
    refine Runs.nR hE 2 [(8,⟨[],true,(.tup [(encL TSpot.cells TSpot.d rplaced.1),(aB rplaced.2)]),[],0,true,none⟩)] [] (kp [1,2,3,8,9,10,11,12,16,17]) (kq [0]) 354 (pc o1 (pc (Eq.refl 0) (pc c8 (pc (show ∀ zi,zi < s.length→AV.oneL ((fun zi=>TSpot.cells (s.getD zi TSpot.d)) zi)=true from (fun _ _=>rfl)) (pc o1 (pc (Eq.refl (0+s.length)) (pc c9 (pc (z1 1) (pc (show ∀ zi,zi < 1→AV.oneL ((fun zi=>([[(aS ((c.getD s.length TCall.d).f_Name)),(aI (rnormal.1.getD ((i).toNat) 0)),(aI (rnormal.2.getD ((j).toNat) 0))]]:List (List AV)).getD zi []) (addz 0 zi))=true from (oneN rfl)) (pc (show Sound Try.prog 38 [(.agg (TDock.cells d)),(encL TCall.cells TCall.d c),(.sl ((0+s.length)+1) (fun zi=>((fun zm=>if zm < (0+s.length) then ((fun zm=>if zm < 0 then (fun _=>[]) zm else (fun zi=>TSpot.cells (s.getD zi TSpot.d)) (zm - 0))) zm else (fun zi=>([[(aS ((c.getD s.length TCall.d).f_Name)),(aI (rnormal.1.getD ((i).toNat) 0)),(aI (rnormal.2.getD ((j).toNat) 0))]]:List (List AV)).getD zi []) (zm - (0+s.length)))) (addz 0 zi)))] [] 0 (.tup [(encL TSpot.cells TSpot.d rplaced.1),(aB rplaced.2)]) [] from (Sound.conv (hR_ d c ((([]:List TSpot) ++ s) ++ ([(⟨(c.getD s.length TCall.d).f_Name,(rnormal.1.getD ((i).toNat) 0),(rnormal.2.getD ((j).toNat) 0)⟩:TSpot)]:List TSpot)) rplaced hr4) (.cons (Alike.refl _) (.cons (Alike.refl _) (.cons (Alike.sl (len_app_raw (len_app_raw rfl rfl) rfl) (get_app_raw TSpot.cells TSpot.d (([]:List TSpot) ++ s) ([(⟨(c.getD s.length TCall.d).f_Name,(rnormal.1.getD ((i).toNat) 0),(rnormal.2.getD ((j).toNat) 0)⟩:TSpot)]:List TSpot) (len_app_raw rfl rfl) (get_app_raw TSpot.cells TSpot.d ([]:List TSpot) s rfl (fun zq hzq=>absurd hzq (Nat.not_lt_zero _)) (fun _ _=>rfl)) (fun zq hzq=>get_chunk TSpot.cells TSpot.d ([(⟨(c.getD s.length TCall.d).f_Name,(rnormal.1.getD ((i).toNat) 0),(rnormal.2.getD ((j).toNat) 0)⟩:TSpot)]:List TSpot) zq hzq))) .nil))))) (pc (z1 ((0+s.length)+1)) pn))))))))))) ?_
    refine Runs.nR hE 1 [] [] (kp [1,2,3,8,9,10,11,12,16,102]) (kq [0]) 370 pn ?_
    refine Runs.nC 0 102 h (fun hq7 h=>?_) (fun hq7 h=>?_)
    ·refine Runs.nR hE 1 [] [] (kp [6,7]) [] 418 pn ?_
     obtain rfl:=Option.some.inj h
     exact Runs.nT hE 0 Try.f38 [] (kp [6,7]) [] 418 pn [] pn
    ·exact Runs.nW hE 2 [] (kp [1,2,3,8,9,10,11,12]) (kq [0]) 1 pn (g_r06_placed_J4_ok N _ _ _ _ _ _ _ _ _ hR_ hK_g_r06_placed_L2 hK_g_r06_placed_L1 _ h E hE)
theorem g_r06_placed_L2_ok (N:Nat) (d:TDock) (c:List TCall) (s:List TSpot) (rnormal:(List Int)×(List Int)) (i:Int) (R_:TDock→(List TCall)→(List TSpot)→Option ((List TSpot)×Bool)) (K_g_r06_placed_L1:Int→Option ((List TSpot)×Bool))
  (hR_:∀ (d:TDock) (c:List TCall) (s:List TSpot) (r:(List TSpot)×Bool),R_ d c s=some r→Sound Try.prog 38 [(.agg (TDock.cells d)),(encL TCall.cells TCall.d c),(encL TSpot.cells TSpot.d s)] [] 0 (.tup [(encL TSpot.cells TSpot.d r.1),(aB r.2)]) []) (hK_g_r06_placed_L1:g_r06_placed_L1_H N d c s rnormal K_g_r06_placed_L1) (fuel:Nat):g_r06_placed_L2_H N d c s rnormal i (g_r06_placed_L2 N d c s rnormal i R_ K_g_r06_placed_L1 fuel):=by
 induction fuel with
 | zero=>intro _ r h;rw [g_r06_placed_L2.eq_1] at h;cases h
 | succ fuel ih =>
  intro j r h E hE
  rw [g_r06_placed_L2.eq_2] at h
  refine Runs.nR hE 2 [] [] (kp [1,2,3,8,9,10,11,12,41]) (kq [0]) 65 pn ?_
  refine Runs.nC 0 41 h (fun hq4 h=>?_) (fun hq4 h=>?_)
  ·obtain ⟨c2,h⟩:=ifSome h
   obtain ⟨c3,h⟩:=ifSome h
   obtain ⟨c4,h⟩:=ifSome h
   refine Runs.nR hE 4 [] [] (kp [1,2,3,8,9,10,11,12,13]) (kq [0,289]) 321 (pc c2 (pc c3 (pc c4 (pc o1 pn)))) ?_
   obtain ⟨rwithin,hr2,h⟩:=bindSome h
   refine Runs.nR hE 1 [(6,⟨[],true,(aB rwithin),[],0,false,none⟩)] [] (kp [1,2,3,8,9,10,11,12,13,14]) (kq [0,289]) 449 (pc o1 (pc c2 (pc o1 (pc (g_r06_within_ok N d (c.getD s.length TCall.d) (⟨(c.getD s.length TCall.d).f_Name,(rnormal.1.getD ((i).toNat) 0),(rnormal.2.getD ((j).toNat) 0)⟩:TSpot) rwithin hr2) pn)))) ?_
   refine Runs.nR hE 2 [] [] (kp [1,2,3,8,9,10,11,12,13,14,15]) (kq [0,289]) 465 pn ?_
   exact Runs.nW hE 2 [] (kp [1,2,3,8,9,10,11,12,13,14,15]) (kq [0] ++ [(1,.keep 289)]) 2 pn (g_r06_placed_L3_ok N _ _ _ _ _ _ _ _ _ hR_ ih hK_g_r06_placed_L1 N _ _ _ h E hE)
  ·refine Runs.nR hE 2 [] [] (kp [1,2,3,8,9,10,11]) (kq [0]) 113 pn ?_
   exact Runs.nW hE 1 [] (kp [1,2,3,8,9,10,11]) (kq [0]) 1 pn (hK_g_r06_placed_L1 _ _ h E hE)
theorem g_r06_placed_L1_ok (N:Nat) (d:TDock) (c:List TCall) (s:List TSpot) (rnormal:(List Int)×(List Int)) (R_:TDock→(List TCall)→(List TSpot)→Option ((List TSpot)×Bool))
  (hR_:∀ (d:TDock) (c:List TCall) (s:List TSpot) (r:(List TSpot)×Bool),R_ d c s=some r→Sound Try.prog 38 [(.agg (TDock.cells d)),(encL TCall.cells TCall.d c),(encL TSpot.cells TSpot.d s)] [] 0 (.tup [(encL TSpot.cells TSpot.d r.1),(aB r.2)]) []) (fuel:Nat):g_r06_placed_L1_H N d c s rnormal (g_r06_placed_L1 N d c s rnormal R_ fuel):=by
 induction fuel with
 | zero=>intro _ r h;rw [g_r06_placed_L1.eq_1] at h;cases h
 | succ fuel ih =>
  intro i r h E hE
  rw [g_r06_placed_L1.eq_2] at h
  refine Runs.nR hE 2 [] [] (kp [1,2,3,8,9,10,11,35]) (kq [0]) 65 pn ?_
  refine Runs.nC 0 35 h (fun hq3 h=>?_) (fun hq3 h=>?_)
  ·refine Runs.nR hE 4 [] [] (kp [1,2,3,8,9,10,11,12]) (kq [0]) 81 pn ?_
   exact Runs.nW hE 2 [] (kp [1,2,3,8,9,10,11,12]) (kq [0]) 1 pn (g_r06_placed_L2_ok N _ _ _ _ _ _ _ hR_ ih N _ _ h E hE)
  ·refine Runs.nR hE 2 [] [] (kp [6,7]) [] 97 pn ?_
   obtain rfl:=Option.some.inj h
   exact Runs.nT hE 0 Try.f38 [] ([(6,.sl (([]:List TSpot).length) (fun zi=>TSpot.cells (([]:List TSpot).getD zi TSpot.d)))] ++ kp [7]) [] 97 (pc (Eq.refl 0) pn) [] pn
theorem g_r06_placed_ok (N:Nat) (fuel:Nat):∀ (d:TDock) (c:List TCall) (s:List TSpot) (r:(List TSpot)×Bool),g_r06_placed N fuel d c s=some r→Sound Try.prog 38 [(.agg (TDock.cells d)),(encL TCall.cells TCall.d c),(encL TSpot.cells TSpot.d s)] [] 0 (.tup [(encL TSpot.cells TSpot.d r.1),(aB r.2)]) []:=by
 induction fuel with
 | zero=>intro _ _ _ r h;rw [g_r06_placed.eq_1] at h;cases h
 | succ fuel ih =>
  intro d c s r h
  rw [g_r06_placed.eq_2] at h
  refine Sound.of_runs (fu:=Try.f38) (c:=C_60 1) (nt:=104) (by kernel_rfl) (by kernel_rfl) (by kernel_rfl) (by kernel_rfl) (fun hm=>rfl) ?_
  intro E hE
  refine Runs.nR hE 1 [] [] (kp [1,2,3]) (kq [0]) 48 pn ?_
  refine Runs.nR hE 1 [] [] (kp [1,2,3,8]) (kq [0]) 96 pn ?_
  refine Runs.nR hE 2 [] [] (kp [1,2,3,8,23]) (kq [0]) 160 pn ?_
  refine Runs.nC 0 23 h (fun hq2 h=>?_) (fun hq2 h=>?_)
  ·refine Runs.nR hE 1 [] [] (kp [6,7]) [] 208 pn ?_
   obtain rfl:=Option.some.inj h
   exact Runs.nT hE 0 Try.f38 [] (kp [6,7]) [] 208 pn [] pn
  ·obtain ⟨rnormal,hr,h⟩:=bindSome h
   refine Runs.nR hE 2 [(3,⟨[],true,(.tup [(encL cI 0 rnormal.1),(encL cI 0 rnormal.2)]),[],0,false,none⟩)] [] (kp [1,2,3,8,9,10]) (kq [0]) 304 (pc o1 (pc (g_r06_normal_ok N d c ((s.length:Nat):Int) rnormal hr) pn)) ?_
   refine Runs.nR hE 2 [] [] (kp [1,2,3,8,9,10,11]) (kq [0]) 320 pn ?_
   exact Runs.nW hE 2 [] (kp [1,2,3,8,9,10,11]) (kq [0]) 1 pn (g_r06_placed_L1_ok N _ _ _ _ _ ih N _ _ h E hE)
noncomputable def C_52 (n:Nat):Code:=cat (bodyOf Try.f11) (pth n)
theorem g_r06_Place_ok (N:Nat) (d:TDock) (c:List TCall) (r:(List TSpot)×Int) (h:g_r06_Place N d c=some r):Sound Try.prog 11 [(.agg (TDock.cells d)),(encL TCall.cells TCall.d c)] [] 0 (.tup [(encL TSpot.cells TSpot.d r.1),(aI r.2)]) []:=by
 unfold g_r06_Place at h
 refine Sound.of_runs (fu:=Try.f11) (c:=C_52 1) (nt:=27) (by kernel_rfl) (by kernel_rfl) (by kernel_rfl) (by kernel_rfl) (fun hm=>rfl) ?_
 intro E hE
 refine Runs.nR hE 1 [] [] (kp [1,2]) (kq [0]) 48 pn ?_
 obtain ⟨rCheckBoth,hr,h⟩:=bindSome h
 refine Runs.nR hE 2 [(2,⟨[],true,(aI rCheckBoth),[],0,false,none⟩)] [] (kp [1,2,6]) (kq [0]) 112 (pc o1 (pc (g_r06_CheckBoth_ok N d c rCheckBoth hr) pn)) ?_
 refine Runs.nR hE 1 [] [] (kp [1,2,6,13]) (kq [0]) 144 pn ?_
 refine Runs.nC 0 13 h (fun hq2 h=>?_) (fun hq2 h=>?_)
 ·refine Runs.nR hE 1 [] [] (kp [4,5]) [] 192 pn ?_
  obtain rfl:=Option.some.inj h
  exact Runs.nT hE 0 Try.f11 [] ([(4,.sl (([]:List TSpot).length) (fun zi=>TSpot.cells (([]:List TSpot).getD zi TSpot.d)))] ++ kp [5]) [] 192 (pc (Eq.refl 0) pn) [] pn
 ·refine Runs.nR hE 3 [] [] (kp [1,2,17]) (kq [0]) 192 pn ?_
  refine Runs.nC 0 17 h (fun hq3 h=>?_) (fun hq3 h=>?_)
  ·refine Runs.nR hE 1 [] [] (kp [4,5]) [] 224 pn ?_
   obtain rfl:=Option.some.inj h
   exact Runs.nT hE 0 Try.f11 [] ([(4,.sl (([]:List TSpot).length) (fun zi=>TSpot.cells (([]:List TSpot).getD zi TSpot.d)))] ++ kp [5]) [] 224 (pc (Eq.refl 0) pn) [] pn
  ·obtain ⟨rplaced,hr2,h⟩:=bindSome h
   refine Runs.nR hE 2 [(2,⟨[],true,(.tup [(encL TSpot.cells TSpot.d rplaced.1),(aB rplaced.2)]),[],0,false,none⟩)] [] (kp [7,8]) [] 320 (pc o1 (pc (show Sound Try.prog 38 [(.agg (TDock.cells d)),(encL TCall.cells TCall.d c),.nil] [] 0 (.tup [(encL TSpot.cells TSpot.d rplaced.1),(aB rplaced.2)]) [] from (Sound.conv (g_r06_placed_ok N N d c ([]:List TSpot) rplaced hr2) (.cons (Alike.refl _) (.cons (Alike.refl _) (.cons Alike.nil .nil))))) pn)) ?_
   refine Runs.nR hE 2 [] [] (kp [7,25]) [] 352 pn ?_
   refine Runs.nC 0 25 h (fun hq4 h=>?_) (fun hq4 h=>?_)
   ·refine Runs.nR hE 1 [] [] (kp [4,5]) [] 384 pn ?_
    obtain rfl:=Option.some.inj h
    exact Runs.nT hE 0 Try.f11 [] ([(4,.sl (([]:List TSpot).length) (fun zi=>TSpot.cells (([]:List TSpot).getD zi TSpot.d)))] ++ kp [5]) [] 384 (pc (Eq.refl 0) pn) [] pn
   ·refine Runs.nR hE 2 [] [] (kp [4,5]) [] 400 pn ?_
    obtain rfl:=Option.some.inj h
    exact Runs.nT hE 0 Try.f11 [] (kp [4,5]) [] 400 pn [] pn
noncomputable def C_65 (n:Nat):Code:=cat (bodyOf Try.f12) (pth n)
def g_w06_sameSpots_L1_H (N:Nat) (a:List TSpot) (b:List TSpot) (K:Int→Option (Bool)):Prop:=∀ (i:Int) (r:Bool),K i=some r→∀ E,EnvOk E 0→Runs Try.prog E 12 26 (SPost E [] (aB r)) [.code (C_65 116),.inLoop (C_65 116),.inBlock 0,.code (C_65 15)] ⟨[(0,(encL TSpot.cells TSpot.d a)),(1,(encL TSpot.cells TSpot.d b)),(5,(aI i))],[],0⟩
theorem g_w06_sameSpots_L1_ok (N:Nat) (a:List TSpot) (b:List TSpot) (fuel:Nat):g_w06_sameSpots_L1_H N a b (g_w06_sameSpots_L1 N a b fuel):=by
 induction fuel with
 | zero=>intro _ r h;rw [g_w06_sameSpots_L1.eq_1] at h;cases h
 | succ fuel ih =>
  intro i r h E hE
  rw [g_w06_sameSpots_L1.eq_2] at h
  refine Runs.nR hE 2 [] [] (kp [0,1,5,14]) [] 64 pn ?_
  refine Runs.nC 0 14 h (fun hq3 h=>?_) (fun hq3 h=>?_)
  ·obtain ⟨c,h⟩:=ifSome h
   obtain ⟨c2,h⟩:=ifSome h
   refine Runs.nR hE 4 [] [] (kp [0,1,5,25]) [] 208 (pc c (pc c2 pn)) ?_
   refine Runs.nC 0 25 h (fun hq4 h=>?_) (fun hq4 h=>?_)
   ·refine Runs.nR hE 1 [] [] (kp [4]) [] 224 pn ?_
    obtain rfl:=Option.some.inj h
    exact Runs.nT hE 0 Try.f12 [] (kp [4]) [] 224 pn [] pn
   ·refine Runs.nR hE 2 [] [] (kp [0,1,5]) [] 256 pn ?_
    exact Runs.nW hE 1 [] (kp [0,1,5]) [] 0 pn (ih _ _ h E hE)
  ·refine Runs.nR hE 2 [] [] (kp [4]) [] 80 pn ?_
   obtain rfl:=Option.some.inj h
   exact Runs.nT hE 0 Try.f12 [] (kp [4]) [] 80 pn [] pn
theorem g_w06_sameSpots_ok (N:Nat) (a:List TSpot) (b:List TSpot) (r:Bool) (h:g_w06_sameSpots N a b=some r):Sound Try.prog 12 [(encL TSpot.cells TSpot.d a),(encL TSpot.cells TSpot.d b)] [] 0 (aB r) []:=by
 unfold g_w06_sameSpots at h
 refine Sound.of_runs (fu:=Try.f12) (c:=C_65 1) (nt:=26) (by kernel_rfl) (by kernel_rfl) (by kernel_rfl) (by kernel_rfl) (fun hm=>rfl) ?_
 intro E hE
 refine Runs.nR hE 1 [] [] (kp [0,1]) [] 16 pn ?_
 refine Runs.nR hE 2 [] [] (kp [0,1,10]) [] 96 pn ?_
 refine Runs.nC 0 10 h (fun hq2 h=>?_) (fun hq2 h=>?_)
 ·refine Runs.nR hE 1 [] [] (kp [4]) [] 112 pn ?_
  obtain rfl:=Option.some.inj h
  exact Runs.nT hE 0 Try.f12 [] (kp [4]) [] 112 pn [] pn
 ·refine Runs.nR hE 3 [] [] (kp [0,1,5]) [] 112 pn ?_
  exact Runs.nW hE 2 [] (kp [0,1,5]) [] 0 pn (g_w06_sameSpots_L1_ok N _ _ N _ _ h E hE)
noncomputable def C_70 (n:Nat):Code:=cat (bodyOf Try.f82) (pth n)
theorem g_berth_called_1_ok (N:Nat) (x:TCall) (cap0:ByteArray) (r:Bool) (h:g_berth_called_1 N x cap0=some r):Sound Try.prog 82 [(.agg (TCall.cells x)),(.op 0 0 0)] [(0,vO 1 [(aS cap0)])] 1 (aB r) [(0,vO 1 [(aS cap0)])]:=by
 unfold g_berth_called_1 at h
 refine Sound.of_runs (fu:=Try.f82) (c:=C_70 1) (nt:=8) (by kernel_rfl) (by kernel_rfl) (by kernel_rfl) (by kernel_rfl) (fun hm=>absurd hm (by decide)) ?_
 intro E hE
 refine Runs.nR hE 1 [] [] (kp [1,2]) (kq [0,1]) 33 pn ?_
 refine Runs.nR hE 1 [] [] (kp [3]) (kq [0]) 113 (pc o1 (pc o1 pn)) ?_
 obtain rfl:=Option.some.inj h
 exact Runs.nT hE 0 Try.f82 [] (kp [3]) (kq [0]) 113 pn [] pn
noncomputable def C_69 (n:Nat):Code:=cat (bodyOf Try.f81) (pth n)
def g_slices_IndexFunc_api_Call_api_Call_v2_L1_H (N:Nat) (s:List TCall) (cap0:ByteArray) (K:Int→Option (Int)):Prop:=∀ (x:Int) (r:Int),K x=some r→∀ E,EnvOk E 1→Runs Try.prog E 81 19 (SPost E [(0,vO 1 [(aS cap0)])] (aI r)) [.code (C_69 52),.inLoop (C_69 52),.inBlock 0,.code (C_69 7)] ⟨[(0,(encL TCall.cells TCall.d s)),(1,(.fn (.func 82) [] [(.op 0 0 0)])),(7,(aI ((s.length:Nat):Int))),(8,(aI x))],[(0,vO 1 [(aS cap0)])],1⟩
theorem g_slices_IndexFunc_api_Call_api_Call_v2_L1_ok (N:Nat) (s:List TCall) (cap0:ByteArray) (fuel:Nat):g_slices_IndexFunc_api_Call_api_Call_v2_L1_H N s cap0 (g_slices_IndexFunc_api_Call_api_Call_v2_L1 N s cap0 fuel):=by
 induction fuel with
 | zero=>intro _ r h;rw [g_slices_IndexFunc_api_Call_api_Call_v2_L1.eq_1] at h;cases h
 | succ fuel ih =>
  intro x r h E hE
  rw [g_slices_IndexFunc_api_Call_api_Call_v2_L1.eq_2] at h
  refine Runs.nR hE 1 [] [] (kp [0,1,7,8,9]) (kq [0]) 17 pn ?_
  refine Runs.nC 1 9 h (fun hq2 h=>?_) (fun hq2 h=>?_)
  ·refine Runs.nR hE 4 [] [] (kp [0,1,5,7,8]) (kq [0]) 49 pn ?_
   obtain ⟨c,h⟩:=ifSome h
   obtain ⟨rcalled1,hr,h⟩:=bindSome h
   refine Runs.nR hE 1 [(5,⟨[0],true,(aB rcalled1),[],0,false,none⟩)] [] (kp [0,1,5,7,8,16]) (kq [0]) 145 (pc c (pc (g_berth_called_1_ok N (s.getD ((x).toNat) TCall.d) cap0 rcalled1 hr) pn)) ?_
   refine Runs.nC 0 16 h (fun hq3 h=>?_) (fun hq3 h=>?_)
   ·refine Runs.nR hE 1 [] [] (kp [4]) (kq [0]) 177 pn ?_
    obtain rfl:=Option.some.inj h
    exact Runs.nT hE 0 Try.f81 [] (kp [4]) (kq [0]) 177 pn [] pn
   ·refine Runs.nR hE 2 [] [] (kp [0,1,7,8]) (kq [0]) 177 pn ?_
    exact Runs.nW hE 1 [] (kp [0,1,7,8]) (kq [0]) 1 pn (ih _ _ h E hE)
  ·refine Runs.nR hE 2 [] [] (kp [4]) (kq [0]) 33 pn ?_
   obtain rfl:=Option.some.inj h
   exact Runs.nT hE 0 Try.f81 [] (kp [4]) (kq [0]) 49 pn [] pn
theorem g_slices_IndexFunc_api_Call_api_Call_v2_ok (N:Nat) (s:List TCall) (cap0:ByteArray) (r:Int) (h:g_slices_IndexFunc_api_Call_api_Call_v2 N s cap0=some r):Sound Try.prog 81 [(encL TCall.cells TCall.d s),(.fn (.func 82) [] [(.op 0 0 0)])] [(0,vO 1 [(aS cap0)])] 1 (aI r) [(0,vO 1 [(aS cap0)])]:=by
 unfold g_slices_IndexFunc_api_Call_api_Call_v2 at h
 refine Sound.of_runs (fu:=Try.f81) (c:=C_69 1) (nt:=19) (by kernel_rfl) (by kernel_rfl) (by kernel_rfl) (by kernel_rfl) (fun hm=>absurd hm (by decide)) ?_
 intro E hE
 refine Runs.nR hE 1 [] [] (kp [0,1]) (kq [0]) 17 pn ?_
 refine Runs.nR hE 2 [] [] (kp [0,1,7,8]) (kq [0]) 65 pn ?_
 exact Runs.nW hE 2 [] (kp [0,1,7,8]) (kq [0]) 1 pn (g_slices_IndexFunc_api_Call_api_Call_v2_L1_ok N _ _ N _ _ h E hE)
noncomputable def C_68 (n:Nat):Code:=cat (bodyOf Try.f48) (pth n)
theorem g_berth_called_ok (N:Nat) (c:List TCall) (name:ByteArray) (r:Int) (h:g_berth_called N c name=some r):Sound Try.prog 48 [(encL TCall.cells TCall.d c),(aS name)] [] 0 (aI r) []:=by
 unfold g_berth_called at h
 refine Sound.of_runs (fu:=Try.f48) (c:=C_68 1) (nt:=8) (by kernel_rfl) (by kernel_rfl) (by kernel_rfl) (by kernel_rfl) (fun hm=>rfl) ?_
 intro E hE
 refine Runs.nR hE 1 [] [] (kp [0,3]) (kq [0]) 32 pn ?_
 obtain ⟨rCall,hr,h⟩:=bindSome h
 refine Runs.nR hE 1 [(2,⟨[0],true,(aI rCall),[],0,false,none⟩)] [] (kp [4]) [] 96 (pc (g_slices_IndexFunc_api_Call_api_Call_v2_ok N c name rCall hr) pn) ?_
 obtain rfl:=Option.some.inj h
 exact Runs.nT hE 0 Try.f48 [] (kp [4]) [] 96 pn [] pn
noncomputable def C_67 (n:Nat):Code:=cat (bodyOf Try.f39) (pth n)
def g_berth_boxes_L1_H (N:Nat) (d:TDock) (c:List TCall) (s:List TSpot) (K:(List Tberth_box)→(List Bool)→Int→Option ((List Tberth_box)×Int)):Prop:=∀ (out:List Tberth_box) (seen:List Bool) (x:Int) (r:(List Tberth_box)×Int),K out seen x=some r→∀ E,EnvOk E 0→Runs Try.prog E 39 115 (SPost E [] (.tup [(encL Tberth_box.cells Tberth_box.d r.1),(aI r.2)])) [.code (C_67 1012),.inLoop (C_67 1012),.inBlock 0,.code (C_67 127)] ⟨[(1,(encL TCall.cells TCall.d c)),(3,(.op 0 0 0)),(9,(.os 1 0 out.length)),(10,(.os 2 0 seen.length)),(35,(encL TSpot.cells TSpot.d s)),(36,(aI ((s.length:Nat):Int))),(37,(aI x))],[(0,vO 6 (TDock.cells d)),(1,aO 4 Tberth_box.cells Tberth_box.d out),(2,aO 1 cB false seen)],3⟩
def g_berth_boxes_L2_H (N:Nat) (d:TDock) (out:List Tberth_box) (K:Int→Option ((List Tberth_box)×Int)):Prop:=∀ (x2:Int) (r:(List Tberth_box)×Int),K x2=some r→∀ E,EnvOk E 0→Runs Try.prog E 39 115 (SPost E [] (.tup [(encL Tberth_box.cells Tberth_box.d r.1),(aI r.2)])) [.code (C_67 2036),.inLoop (C_67 2036),.inBlock 3,.code (C_67 255)] ⟨[(3,(.op 0 0 0)),(9,(.os 1 0 out.length)),(91,(.os 1 0 out.length)),(92,(aI ((out.length:Nat):Int))),(93,(aI x2))],[(0,vO 6 (TDock.cells d)),(1,aO 4 Tberth_box.cells Tberth_box.d out)],2⟩
def g_berth_boxes_L3_H (N:Nat) (d:TDock) (out:List Tberth_box) (x2:Int) (K:Int→Option ((List Tberth_box)×Int)):Prop:=∀ (x3:Int) (r:(List Tberth_box)×Int),K x3=some r→∀ E,EnvOk E 0→Runs Try.prog E 39 115 (SPost E [] (.tup [(encL Tberth_box.cells Tberth_box.d r.1),(aI r.2)])) [.code (C_67 521420),.inLoop (C_67 521420),.inBlock 5,.inBlock 4,.code (C_67 16295),.inLoop (C_67 2036),.inBlock 3,.code (C_67 255)] ⟨[(3,(.op 0 0 0)),(9,(.os 1 0 out.length)),(15,(.op 2 0 0)),(91,(.os 1 0 out.length)),(92,(aI ((out.length:Nat):Int))),(93,(aI x2)),(100,(.os 1 0 ((x2).toNat - 0))),(101,(aI ((((x2).toNat - 0):Nat):Int))),(102,(aI x3))],[(0,vO 6 (TDock.cells d)),(1,aO 4 Tberth_box.cells Tberth_box.d out),(2,vO 4 (Tberth_box.cells (out.getD ((x2).toNat) Tberth_box.d)))],3⟩
theorem g_berth_boxes_L3_ok (N:Nat) (d:TDock) (out:List Tberth_box) (x2:Int) (K_g_berth_boxes_L2:Int→Option ((List Tberth_box)×Int)) (hK_g_berth_boxes_L2:g_berth_boxes_L2_H N d out K_g_berth_boxes_L2) (fuel:Nat):g_berth_boxes_L3_H N d out x2 (g_berth_boxes_L3 N d out x2 K_g_berth_boxes_L2 fuel):=by
 induction fuel with
 | zero=>intro _ r h;rw [g_berth_boxes_L3.eq_1] at h;cases h
 | succ fuel ih =>
  intro x3 r h E hE
  rw [g_berth_boxes_L3.eq_2] at h
  refine Runs.nR hE 1 [] [] (kp [3,9,15,91,92,93,100,101,102,103]) (kq [0,1,2]) 19 pn ?_
  refine Runs.nC 1 103 h (fun hq10 h=>?_) (fun hq10 h=>?_)
  ·obtain ⟨c12,h⟩:=ifSome h
   obtain ⟨c13,h⟩:=ifSome h
   refine Runs.nR hE 4 [] [] (kp [3,9,15,17,91,92,93,100,101,102]) (kq [0,1,2,51]) 83 (pc c12 (pc (show (x3).toNat < out.length by have h1:=c12;have h2:=c13;omega) (pc o1 pn))) ?_
   obtain ⟨rapart,hr6,h⟩:=bindSome h
   refine Runs.nR hE 1 [(4,⟨[],true,(aB rapart),[],0,false,none⟩)] [] (kp [3,9,15,91,92,93,100,101,102,111]) (kq [0,1,2]) 179 (pc o1 (pc o1 (pc o1 (pc (g_berth_apart_ok N (out.getD ((x2).toNat) Tberth_box.d) (out.getD ((x3).toNat) Tberth_box.d) d.f_Gap rapart hr6) pn)))) ?_
   refine Runs.nC 0 111 h (fun hq11 h=>?_) (fun hq11 h=>?_)
   ·refine Runs.nR hE 1 [] [] (kp [6,7]) [] 211 pn ?_
    obtain rfl:=Option.some.inj h
    exact Runs.nT hE 0 Try.f39 [] ([(6,.sl (([]:List Tberth_box).length) (fun zi=>Tberth_box.cells (([]:List Tberth_box).getD zi Tberth_box.d)))] ++ kp [7]) [] 211 (pc (Eq.refl 0) pn) [] pn
   ·refine Runs.nR hE 2 [] [] (kp [3,9,15,91,92,93,100,101,102]) (kq [0,1,2]) 211 pn ?_
    exact Runs.nW hE 1 [] (kp [3,9,15,91,92,93,100,101,102]) (kq [0,1,2]) 3 pn (ih _ _ h E hE)
  ·refine Runs.nR hE 2 [] [] (kp [3,9,91,92,93]) (kq [0,1]) 51 pn ?_
   exact Runs.nW hE 1 [] (kp [3,9,91,92,93]) (kq [0,1]) 2 pn (hK_g_berth_boxes_L2 _ _ h E hE)
theorem g_berth_boxes_L2_ok (N:Nat) (d:TDock) (out:List Tberth_box) (fuel:Nat):g_berth_boxes_L2_H N d out (g_berth_boxes_L2 N d out fuel):=by
 induction fuel with
 | zero=>intro _ r h;rw [g_berth_boxes_L2.eq_1] at h;cases h
 | succ fuel ih =>
  intro x2 r h E hE
  rw [g_berth_boxes_L2.eq_2] at h
  refine Runs.nR hE 1 [] [] (kp [3,9,91,92,93,94]) (kq [0,1]) 18 pn ?_
  refine Runs.nC 1 94 h (fun hq9 h=>?_) (fun hq9 h=>?_)
  ·obtain ⟨c9,h⟩:=ifSome h
   refine Runs.nR hE 4 [] [] (kp [3,9,14,15,91,92,93]) (kq [0,1,66]) 114 (pc c9 (pc (ltOf c9) (pc o1 pn))) ?_
   obtain ⟨c10,h⟩:=ifSome h
   obtain ⟨c11,h⟩:=ifSome h
   refine Runs.nR hE 1 [] [] (kp [3,9,15,91,92,93,100,101,102]) (kq [0,1,66]) 194 (pc c10 (pc c11 pn)) ?_
   exact Runs.nW hE 2 [] (kp [3,9,15,91,92,93,100,101,102]) (kq [0,1] ++ [(2,.keep 66)]) 3 pn (g_berth_boxes_L3_ok N _ _ _ _ ih N _ _ h E hE)
  ·refine Runs.nR hE 2 [] [] (kp [6,7]) (kq [1]) 66 pn ?_
   obtain rfl:=Option.some.inj h
   exact Runs.nT hE 0 Try.f39 [1] ([(6,.sl (out.length) (fun zi=>Tberth_box.cells (out.getD zi Tberth_box.d)))] ++ kp [7]) [] 66 (pc (Eq.refl out.length) (pc (z1 out.length) (pc (show ∀ zi,zi < out.length→(fun zi=>Tberth_box.cells (out.getD zi Tberth_box.d)) zi=(fun zi=>Tberth_box.cells (out.getD zi Tberth_box.d)) (addz 0 zi) from (fun _ _=>rfl)) pn))) [] pn
theorem g_berth_boxes_L1_ok (N:Nat) (d:TDock) (c:List TCall) (s:List TSpot) (fuel:Nat):g_berth_boxes_L1_H N d c s (g_berth_boxes_L1 N d c s fuel):=by
 induction fuel with
 | zero=>intro _ _ _ r h;rw [g_berth_boxes_L1.eq_1] at h;cases h
 | succ fuel ih =>
  intro out seen x r h E hE
  rw [g_berth_boxes_L1.eq_2] at h
  refine Runs.nR hE 1 [] [] (kp [1,3,9,10,35,36,37,38]) (kq [0,1,2]) 19 pn ?_
  refine Runs.nC 1 38 h (fun hq4 h=>?_) (fun hq4 h=>?_)
  ·obtain ⟨c4,h⟩:=ifSome h
   refine Runs.nR hE 4 [] [] (kp [1,3,9,10,12,35,36,37]) (kq [0,1,2,51]) 83 (pc c4 (pc o1 pn)) ?_
   obtain ⟨rcalled,hr2,h⟩:=bindSome h
   refine Runs.nR hE 1 [(3,⟨[],true,(aI rcalled),[],0,false,none⟩)] [] (kp [1,3,9,10,12,13,35,36,37]) (kq [0,1,2,51]) 163 (pc o1 (pc (g_berth_called_ok N c ((s.getD ((x).toNat) TSpot.d).f_Call) rcalled hr2) pn)) ?_
   refine Runs.nR hE 3 [] [] (kp [1,3,9,10,12,13,35,36,37,45]) (kq [0,1,2,51]) 211 pn ?_
   refine Runs.nC 0 45 h (fun hq5 h=>?_) (fun hq5 h=>?_)
   ·refine Runs.nR hE 1 [] [] (kp [6,7]) [] 243 pn ?_
    obtain rfl:=Option.some.inj h
    exact Runs.nT hE 0 Try.f39 [] ([(6,.sl (([]:List Tberth_box).length) (fun zi=>Tberth_box.cells (([]:List Tberth_box).getD zi Tberth_box.d)))] ++ kp [7]) [] 243 (pc (Eq.refl 0) pn) [] pn
   ·obtain ⟨c5,h⟩:=ifSome h
    refine Runs.nR hE 1 [] [] (kp [1,3,9,10,12,13,35,36,37,48]) (kq [0,1,2,51]) 291 (pc c5 (pc (ltOf c5) pn)) ?_
    refine Runs.nC 0 48 h (fun hq6 h=>?_) (fun hq6 h=>?_)
    ·refine Runs.nR hE 1 [] [] (kp [6,7]) [] 323 pn ?_
     obtain rfl:=Option.some.inj h
     exact Runs.nT hE 0 Try.f39 [] ([(6,.sl (([]:List Tberth_box).length) (fun zi=>Tberth_box.cells (([]:List Tberth_box).getD zi Tberth_box.d)))] ++ kp [7]) [] 323 (pc (Eq.refl 0) pn) [] pn
    ·obtain ⟨routside,hr3,h⟩:=bindSome h
     obtain ⟨routside2,hr4,h⟩:=bindSome h
     refine Runs.nR hE 1 [(2,⟨[],true,(aB routside),[],0,false,none⟩),(6,⟨[],true,(aB routside2),[],0,false,none⟩)] [] (kp [1,3,9,10,12,13,35,36,37,53]) (kq [0,1,2,51]) 435 (pc o1 (pc (g_berth_outside_ok N ((s.getD ((x).toNat) TSpot.d).f_X) 0 1000000 routside hr3) (pc (fun hg:(!routside)=true=>(pc hg (pc o1 pn))) (pc (fun hg:(!routside)=true=>(pc (g_berth_outside_ok N ((s.getD ((x).toNat) TSpot.d).f_Y) 0 1000000 routside2 (condT hr4 hg)) (pc hg pn))) (pc (fun hq:(!routside)=true=>(pc hq pn)) pn))))) ?_
     refine Runs.nC 0 53 h (fun hq7 h=>?_) (fun hq7 h=>?_)
     ·refine Runs.nR hE 1 [] [] (kp [6,7]) [] 467 pn ?_
      obtain rfl:=Option.some.inj h
      exact Runs.nT hE 0 Try.f39 [] ([(6,.sl (([]:List Tberth_box).length) (fun zi=>Tberth_box.cells (([]:List Tberth_box).getD zi Tberth_box.d)))] ++ kp [7]) [] 467 (pc (Eq.refl 0) pn) [] pn
     ·refine Runs.nR hE 3 [] [] (kp [1,3,9] ++ [(10,.osl ((seen.set ((rcalled).toNat) true).length))] ++ kp [12,13,35,36,37]) (kq [0,1] ++ [(2,.arr 2 ((seen.set ((rcalled).toNat) true).length) (fun zi=>cB ((seen.set ((rcalled).toNat) true).getD zi false)))] ++ kq [51]) 499 (pc c5 (pc (ltOf c5) (pc (len_set0 seen ((rcalled).toNat) true) (pc (len_set0 seen ((rcalled).toNat) true) (pc (get_set0 cB false seen ((rcalled).toNat) true) pn))))) ?_
      obtain ⟨c6,h⟩:=ifSome h
      obtain ⟨c7,h⟩:=ifSome h
      refine Runs.nR hE 1 [] [] (kp [1,3] ++ [(9,.osl ((out.set ((rcalled).toNat) (⟨(s.getD ((x).toNat) TSpot.d).f_X,(s.getD ((x).toNat) TSpot.d).f_Y,(c.getD ((rcalled).toNat) TCall.d).f_Length,(c.getD ((rcalled).toNat) TCall.d).f_Beam⟩:Tberth_box)).length))] ++ kp [10,13,35,36,37]) (kq [0] ++ [(1,.arr 1 ((out.set ((rcalled).toNat) (⟨(s.getD ((x).toNat) TSpot.d).f_X,(s.getD ((x).toNat) TSpot.d).f_Y,(c.getD ((rcalled).toNat) TCall.d).f_Length,(c.getD ((rcalled).toNat) TCall.d).f_Beam⟩:Tberth_box)).length) (fun zi=>Tberth_box.cells ((out.set ((rcalled).toNat) (⟨(s.getD ((x).toNat) TSpot.d).f_X,(s.getD ((x).toNat) TSpot.d).f_Y,(c.getD ((rcalled).toNat) TCall.d).f_Length,(c.getD ((rcalled).toNat) TCall.d).f_Beam⟩:Tberth_box)).getD zi Tberth_box.d)))] ++ kq [2]) 803 (pc o1 (pc o1 (pc c6 (pc c6 (pc c7 (pc (ltOf c7) (pc (len_set0 out ((rcalled).toNat) (⟨(s.getD ((x).toNat) TSpot.d).f_X,(s.getD ((x).toNat) TSpot.d).f_Y,(c.getD ((rcalled).toNat) TCall.d).f_Length,(c.getD ((rcalled).toNat) TCall.d).f_Beam⟩:Tberth_box)) (pc (len_set0 out ((rcalled).toNat) (⟨(s.getD ((x).toNat) TSpot.d).f_X,(s.getD ((x).toNat) TSpot.d).f_Y,(c.getD ((rcalled).toNat) TCall.d).f_Length,(c.getD ((rcalled).toNat) TCall.d).f_Beam⟩:Tberth_box)) (pc (get_set0 Tberth_box.cells Tberth_box.d out ((rcalled).toNat) (⟨(s.getD ((x).toNat) TSpot.d).f_X,(s.getD ((x).toNat) TSpot.d).f_Y,(c.getD ((rcalled).toNat) TCall.d).f_Length,(c.getD ((rcalled).toNat) TCall.d).f_Beam⟩:Tberth_box)) pn))))))))) ?_
      obtain ⟨c8,h⟩:=ifSome h
      obtain ⟨rinside,hr5,h⟩:=bindSome h
      refine Runs.nR hE 1 [(5,⟨[],true,(aB rinside),[],0,false,none⟩)] [] (kp [1,3,9,10,35,36,37,89]) (kq [0,1,2]) 915 (pc o1 (pc c8 (pc (ltOf c8) (pc (g_berth_inside_ok N d ((out.set ((rcalled).toNat) (⟨(s.getD ((x).toNat) TSpot.d).f_X,(s.getD ((x).toNat) TSpot.d).f_Y,(c.getD ((rcalled).toNat) TCall.d).f_Length,(c.getD ((rcalled).toNat) TCall.d).f_Beam⟩:Tberth_box)).getD ((rcalled).toNat) Tberth_box.d) rinside hr5) pn)))) ?_
      refine Runs.nC 0 89 h (fun hq8 h=>?_) (fun hq8 h=>?_)
      ·refine Runs.nR hE 1 [] [] (kp [6,7]) [] 947 pn ?_
       obtain rfl:=Option.some.inj h
       exact Runs.nT hE 0 Try.f39 [] ([(6,.sl (([]:List Tberth_box).length) (fun zi=>Tberth_box.cells (([]:List Tberth_box).getD zi Tberth_box.d)))] ++ kp [7]) [] 947 (pc (Eq.refl 0) pn) [] pn
      ·refine Runs.nR hE 2 [] [] (kp [1,3,9,10,35,36,37]) (kq [0,1,2]) 947 pn ?_
       exact Runs.nW hE 1 [] (kp [1,3,9,10,35,36,37]) (kq [0,1,2]) 3 pn (ih _ _ _ _ h E hE)
  ·refine Runs.nR hE 3 [] [] (kp [3,9,91,92,93]) (kq [0,1]) 67 pn ?_
   exact Runs.nW hE 2 [] (kp [3,9,91,92,93]) (kq [0,1]) 2 pn (g_berth_boxes_L2_ok N _ _ N _ _ h E hE)
theorem g_berth_boxes_ok (N:Nat) (d:TDock) (c:List TCall) (s:List TSpot) (r:(List Tberth_box)×Int) (h:g_berth_boxes N d c s=some r):Sound Try.prog 39 [(.agg (TDock.cells d)),(encL TCall.cells TCall.d c),(encL TSpot.cells TSpot.d s)] [] 0 (.tup [(encL Tberth_box.cells Tberth_box.d r.1),(aI r.2)]) []:=by
 unfold g_berth_boxes at h
 refine Sound.of_runs (fu:=Try.f39) (c:=C_67 1) (nt:=115) (by kernel_rfl) (by kernel_rfl) (by kernel_rfl) (by kernel_rfl) (fun hm=>rfl) ?_
 intro E hE
 refine Runs.nR hE 1 [] [] (kp [1,2,3]) (kq [0]) 48 pn ?_
 obtain ⟨rboth,hr,h⟩:=bindSome h
 refine Runs.nR hE 2 [(2,⟨[],true,(aI rboth),[],0,false,none⟩)] [] (kp [1,2,3,8]) (kq [0]) 112 (pc o1 (pc (g_berth_both_ok N d c rboth hr) pn)) ?_
 refine Runs.nR hE 1 [] [] (kp [1,2,3,8,22]) (kq [0]) 144 pn ?_
 refine Runs.nC 0 22 h (fun hq2 h=>?_) (fun hq2 h=>?_)
 ·refine Runs.nR hE 1 [] [] (kp [6,7]) [] 192 pn ?_
  obtain rfl:=Option.some.inj h
  exact Runs.nT hE 0 Try.f39 [] ([(6,.sl (([]:List Tberth_box).length) (fun zi=>Tberth_box.cells (([]:List Tberth_box).getD zi Tberth_box.d)))] ++ kp [7]) [] 192 (pc (Eq.refl 0) pn) [] pn
 ·refine Runs.nR hE 3 [] [] (kp [1,2,3,28]) (kq [0]) 224 pn ?_
  refine Runs.nC 0 28 h (fun hq3 h=>?_) (fun hq3 h=>?_)
  ·refine Runs.nR hE 1 [] [] (kp [6,7]) [] 256 pn ?_
   obtain rfl:=Option.some.inj h
   exact Runs.nT hE 0 Try.f39 [] ([(6,.sl (([]:List Tberth_box).length) (fun zi=>Tberth_box.cells (([]:List Tberth_box).getD zi Tberth_box.d)))] ++ kp [7]) [] 256 (pc (Eq.refl 0) pn) [] pn
  ·obtain ⟨c2,h⟩:=ifSome h
   refine Runs.nR hE 2 [] [] (kp [1,2,3] ++ [(9,.osl ((List.replicate c.length Tberth_box.d:List Tberth_box).length))]) (kq [0] ++ [(256,.arr 256 ((List.replicate c.length Tberth_box.d:List Tberth_box).length) (fun zi=>Tberth_box.cells ((List.replicate c.length Tberth_box.d:List Tberth_box).getD zi Tberth_box.d)))]) 288 (pc (show 0≤((c.length:Nat):Int) from c2.1) (pc (show ((c.length:Nat):Int)≤((c.length:Nat):Int) from (Int.le_refl _)) (pc (show (32:Int) * ((c.length:Nat):Int)≤281474976710656 from c2.2.1) (pc (show ((c.length:Nat):Int)≤9223372036854775807 from c2.2.2) (pc (show c.length=(List.replicate c.length Tberth_box.d:List Tberth_box).length from (List.length_replicate).symm) (pc (show c.length=(List.replicate c.length Tberth_box.d:List Tberth_box).length from (List.length_replicate).symm) (pc (show ∀ zi,zi < (List.replicate c.length Tberth_box.d:List Tberth_box).length→(fun zi=>Tberth_box.cells ((List.replicate c.length Tberth_box.d:List Tberth_box).getD zi Tberth_box.d)) zi=(fun _=>[(aI 0),(aI 0),(aI 0),(aI 0)]) zi from (fun zq hzq=>get_rep Tberth_box.cells Tberth_box.d Tberth_box.d c.length zq hzq)) pn))))))) ?_
   obtain ⟨c3,h⟩:=ifSome h
   refine Runs.nR hE 1 [] [] (kp [1,2,3,9] ++ [(10,.osl ((List.replicate c.length false:List Bool).length))]) (kq [0,256] ++ [(320,.arr 320 ((List.replicate c.length false:List Bool).length) (fun zi=>cB ((List.replicate c.length false:List Bool).getD zi false)))]) 352 (pc (show 0≤((c.length:Nat):Int) from c3.1) (pc (show ((c.length:Nat):Int)≤((c.length:Nat):Int) from (Int.le_refl _)) (pc (show (1:Int) * ((c.length:Nat):Int)≤281474976710656 from c3.2.1) (pc (show ((c.length:Nat):Int)≤9223372036854775807 from c3.2.2) (pc (show c.length=(List.replicate c.length false:List Bool).length from (List.length_replicate).symm) (pc (show c.length=(List.replicate c.length false:List Bool).length from (List.length_replicate).symm) (pc (show ∀ zi,zi < (List.replicate c.length false:List Bool).length→(fun zi=>cB ((List.replicate c.length false:List Bool).getD zi false)) zi=(fun _=>[(aB false)]) zi from (fun zq hzq=>get_rep cB false false c.length zq hzq)) pn))))))) ?_
   refine Runs.nR hE 2 [] [] (kp [1,3,9,10,35,36,37]) (kq [0,256,320]) 400 pn ?_
   exact Runs.nW hE 2 [] (kp [1,3,9,10,35,36,37]) (kq [0] ++ [(1,.keep 256),(2,.keep 320)]) 3 pn (g_berth_boxes_L1_ok N _ _ _ N _ _ _ _ h E hE)
noncomputable def C_66 (n:Nat):Code:=cat (bodyOf Try.f13) (pth n)
theorem g_berth_CheckPlan_ok (N:Nat) (d:TDock) (c:List TCall) (s:List TSpot) (r:Int) (h:g_berth_CheckPlan N d c s=some r):Sound Try.prog 13 [(.agg (TDock.cells d)),(encL TCall.cells TCall.d c),(encL TSpot.cells TSpot.d s)] [] 0 (aI r) []:=by
 unfold g_berth_CheckPlan at h
 refine Sound.of_runs (fu:=Try.f13) (c:=C_66 1) (nt:=17) (by kernel_rfl) (by kernel_rfl) (by kernel_rfl) (by kernel_rfl) (fun hm=>rfl) ?_
 intro E hE
 refine Runs.nR hE 1 [] [] (kp [1,2,3]) (kq [0]) 32 pn ?_
 obtain ⟨rboxes,hr,h⟩:=bindSome h
 refine Runs.nR hE 1 [(3,⟨[],true,(.tup [(encL Tberth_box.cells Tberth_box.d rboxes.1),(aI rboxes.2)]),[],0,false,none⟩)] [] (kp [8]) [] 176 (pc o1 (pc (g_berth_boxes_ok N d c s rboxes hr) pn)) ?_
 refine Runs.nR hE 1 [] [] (kp [6]) [] 208 pn ?_
 obtain rfl:=Option.some.inj h
 exact Runs.nT hE 0 Try.f13 [] (kp [6]) [] 208 pn [] pn
noncomputable def C_0 (n:Nat):Code:=cat (bodyOf Try.f3) (pth n)
theorem g_w06_BerthPlaces_ok (N:Nat) (d:TDock) (c:List TCall) (r:Bool) (h:g_w06_BerthPlaces N d c=some r):Sound Try.prog 3 [(.agg (TDock.cells d)),(encL TCall.cells TCall.d c)] [] 0 (aB r) []:=by
 unfold g_w06_BerthPlaces at h
 refine Sound.of_runs (fu:=Try.f3) (c:=C_0 1) (nt:=52) (by kernel_rfl) (by kernel_rfl) (by kernel_rfl) (by kernel_rfl) (fun hm=>rfl) ?_
 intro E hE
 refine Runs.nR hE 1 [] [] (kp [1,2]) (kq [0]) 32 pn ?_
 obtain ⟨rawake,hr,h⟩:=bindSome h
 refine Runs.nR hE 2 [(0,⟨[],true,(aB rawake),[],0,false,none⟩)] [] (kp [1,2,10]) (kq [0]) 64 (pc (g_w06_awake_ok N rawake hr) pn) ?_
 refine Runs.nC 0 10 h (fun hq2 h=>?_) (fun hq2 h=>?_)
 ·refine Runs.nR hE 1 [] [] (kp [4]) [] 80 pn ?_
  obtain rfl:=Option.some.inj h
  exact Runs.nT hE 0 Try.f3 [] (kp [4]) [] 80 pn [] pn
 ·obtain ⟨rNames,hr2,h⟩:=bindSome h
  refine Runs.nR hE 3 [(3,⟨[],true,(aB rNames),[],0,false,none⟩)] [] (kp [1,2,20]) (kq [0]) 224 (pc o1 (pc (show Sound Try.prog 9 [(.sl 1 (fun zi=>(fun zi=>([[(aS d.f_Name),(aI d.f_Length),(aI d.f_Width),(aI d.f_Sill),(aI d.f_Floor),(aI d.f_Gap)]]:List (List AV)).getD zi []) (addz 0 zi))),(encL TCall.cells TCall.d c)] [] 0 (aB rNames) [] from (Sound.conv (g_w06_Names_ok N ([d]:List TDock) c rNames hr2) (.cons (Alike.sl rfl (fun zq hzq=>get_chunk TDock.cells TDock.d ([d]:List TDock) zq hzq)) (.cons (Alike.refl _) .nil)))) (pc (z1 1) (pc (fun hg:(!(!rNames))=true=>(pc hg pn)) (pc (fun hg:(!(!rNames))=true=>(pc hg pn)) (pc (fun hq:(!(!rNames))=true=>(pc hq pn)) pn)))))) ?_
  refine Runs.nC 0 20 h (fun hq3 h=>?_) (fun hq3 h=>?_)
  ·refine Runs.nR hE 1 [] [] (kp [4]) [] 240 pn ?_
   obtain rfl:=Option.some.inj h
   exact Runs.nT hE 0 Try.f3 [] (kp [4]) [] 240 pn [] pn
  ·obtain ⟨rPlace,hr3,h⟩:=bindSome h
   refine Runs.nR hE 2 [(2,⟨[],true,(.tup [(encL TSpot.cells TSpot.d rPlace.1),(aI rPlace.2)]),[],0,false,none⟩)] [] (kp [1,2,5,6]) (kq [0]) 352 (pc o1 (pc (g_berth_Place_ok N d c rPlace hr3) pn)) ?_
   obtain ⟨rPlace2,hr4,h⟩:=bindSome h
   refine Runs.nR hE 1 [(2,⟨[],true,(.tup [(encL TSpot.cells TSpot.d rPlace2.1),(aI rPlace2.2)]),[],0,false,none⟩)] [] (kp [1,2,5,6,7,8]) (kq [0]) 480 (pc o1 (pc (g_r06_Place_ok N d c rPlace2 hr4) pn)) ?_
   obtain ⟨rsameSpots,hr5,h⟩:=bindSome h
   obtain ⟨rCheckPlan,hr6,h⟩:=bindSome h
   refine Runs.nR hE 1 [(2,⟨[],true,(aB rsameSpots),[],0,false,none⟩),(15,⟨[],true,(aI rCheckPlan),[],0,false,none⟩)] [] (kp [4]) [] 800 (pc (g_w06_sameSpots_ok N rPlace.1 rPlace2.1 rsameSpots hr5) (pc (fun hg:rsameSpots=true=>(pc hg (pc hg pn))) (pc (fun hq:rsameSpots=true=>(pc hq pn)) (pc (fun hg:(cond rsameSpots (rPlace.2 == rPlace2.2) false)=true=>(pc hg pn)) (pc (fun hg:((cond rsameSpots (rPlace.2 == rPlace2.2) false) && ((cond rsameSpots (rPlace.2 == rPlace2.2) false) && (!(rPlace2.2 != 0))))=true=>(pc o1 pn)) (pc (fun hg:((cond rsameSpots (rPlace.2 == rPlace2.2) false) && ((cond rsameSpots (rPlace.2 == rPlace2.2) false) && (!(rPlace2.2 != 0))))=true=>(pc (g_berth_CheckPlan_ok N d c rPlace.1 rCheckPlan (condT hr6 hg)) (pc hg (pc hg (pc hg pn))))) (pc (fun hg:((cond rsameSpots (rPlace.2 == rPlace2.2) false) && ((cond rsameSpots (rPlace.2 == rPlace2.2) false) && (!(rPlace2.2 != 0))))=true=>(pc hg pn)) (pc (fun hg:(cond rsameSpots (rPlace.2 == rPlace2.2) false)=true=>(pc hg (pc hg (pc (fun hq:(!(rPlace2.2 != 0))=true=>(pc (show ((cond rsameSpots (rPlace.2 == rPlace2.2) false) && ((cond rsameSpots (rPlace.2 == rPlace2.2) false) && (!(rPlace2.2 != 0))))=true from (andI' hg (andI' hg hq))) pn)) pn)))) (pc (fun hq:(cond rsameSpots (rPlace.2 == rPlace2.2) false)=true=>(pc hq pn)) pn))))))))) ?_
   obtain rfl:=Option.some.inj h
   exact Runs.nT hE 0 Try.f3 [] (kp [4]) [] 800 pn [] pn
end Go.Den
