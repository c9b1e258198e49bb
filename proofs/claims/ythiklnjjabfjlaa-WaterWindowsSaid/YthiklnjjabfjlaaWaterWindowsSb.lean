/- Each function of the program does what its Lean function computes (part 2). No conditions. -/
import Derived.Test.YthiklnjjabfjlaaWaterWindowsSa
import Derived.Test.YthiklnjjabfjlaaProg
set_option linter.unusedVariables false
set_option maxRecDepth 100000
namespace Go.Den
open Go.Ab Go.Proofs
noncomputable def C_17 (n:Nat):Code:=cat (bodyOf Try.f66) (pth n)
theorem g_slices_pdqsortOrdered_int_J4_ok (N:Nat) (a2:Int) (b2:Int) (wasBalanced:Bool) (wasPartitioned:Bool) (limit3:Int) (pivot:Int) (R_:Int→Int→Int→(List Int)→Option ((List Int))) (K_g_slices_pdqsortOrdered_int_L1:(List Int)→Int→Int→Int→Bool→Bool→Option ((List Int)))
  (hR_:∀ (a:Int) (b:Int) (limit:Int) (cap0:List Int) (r:(List Int)),R_ a b limit cap0=some r→Sound Try.prog 66 [(.os 0 0 cap0.length),(aI a),(aI b),(aI limit)] [(0,aO 1 cI 0 cap0)] 1 (.tup []) [(0,aO 1 cI 0 r)])
  (hK_g_slices_pdqsortOrdered_int_L1:∀ (cap02:List Int) (a2:Int) (b2:Int) (limit2:Int) (wasBalanced:Bool) (wasPartitioned:Bool) (r:(List Int)),K_g_slices_pdqsortOrdered_int_L1 cap02 a2 b2 limit2 wasBalanced wasPartitioned=some r→∀ E,EnvOk E 1→Runs Try.prog E 66 134 (SPost E [(0,aO 1 cI 0 r)] (.tup [])) [.code (C_17 28),.inLoop (C_17 28),.inBlock 0] ⟨[(0,(.os 0 0 cap02.length)),(1,(aI a2)),(2,(aI b2)),(3,(aI limit2)),(8,(aB wasBalanced)),(9,(aB wasPartitioned))],[(0,aO 1 cI 0 cap02)],1⟩) (cap05:List Int) (r:(List Int)) (h:g_slices_pdqsortOrdered_int_J4 N a2 b2 wasBalanced wasPartitioned limit3 pivot R_ K_g_slices_pdqsortOrdered_int_L1 cap05=some r):∀ E,EnvOk E 1→Runs Try.prog E 66 134 (SPost E [(0,aO 1 cI 0 r)] (.tup [])) [.code (C_17 29180),.code (C_17 29181),.code (C_17 14591),.inBlock 1,.inLoop (C_17 28),.inBlock 0] ⟨[(0,(.os 0 0 cap05.length)),(1,(aI a2)),(2,(aI b2)),(3,(aI limit3)),(8,(aB wasBalanced)),(9,(aB wasPartitioned)),(10,(aI (w64 (b2 - a2)))),(11,(aI pivot))],[(0,aO 1 cI 0 cap05)],1⟩:=by
 intro E hE
 unfold g_slices_pdqsortOrdered_int_J4 at h
 obtain ⟨c6,h⟩:=ifSome h
 obtain ⟨c7,h⟩:=ifSome h
 obtain ⟨rLess,hr7,h⟩:=bindSome h
 refine Runs.sR hE ⟨[(0,(.os 0 0 cap05.length)),(1,(aI a2)),(2,(aI b2)),(3,(aI limit3)),(8,(aB wasBalanced)),(9,(aB wasPartitioned)),(10,(aI (w64 (b2 - a2)))),(11,(aI pivot)),(87,(aB (cond (decide (a2 > 0)) (!rLess) false)))],[(0,aO 1 cI 0 cap05)],241⟩ (C_17 29180) [(12,⟨[],true,(aB rLess),[],0,false,none⟩)] [] (kp [0,1,2,3,8,9,10,11,87]) (kq [0]) 241 [(decide (a2 > 0))=true→AllP [(decide (a2 > 0))=true],(decide (a2 > 0))=true→AllP [(decide (a2 > 0))=true,(decide (a2 > 0))=true,0≤(w64 (a2 - 1))∧(w64 (a2 - 1)) < ((cap05.length:Nat):Int)],(decide (a2 > 0))=true→AllP [(decide (a2 > 0))=true,(w64 (a2 - 1)).toNat < cap05.length],(decide (a2 > 0))=true→AllP [(decide (a2 > 0))=true,(decide (a2 > 0))=true,0≤pivot∧pivot < ((cap05.length:Nat):Int)],(decide (a2 > 0))=true→AllP [(decide (a2 > 0))=true,(pivot).toNat < cap05.length],(decide (a2 > 0))=true→AllP [Sound Try.prog 90 [(aI (cap05.getD ((w64 (a2 - 1)).toNat) 0)),(aI (cap05.getD ((pivot).toNat) 0))] [] 0 (aB rLess) [],(decide (a2 > 0))=true,(decide (a2 > 0))=true],(decide (a2 > 0))=true→AllP [(decide (a2 > 0))=true],(decide (a2 > 0))=true→AllP [(decide (a2 > 0))=true]] ⟨(fun hg=>⟨hg,trivial⟩),(fun hg=>⟨hg,hg,(c6 hg),trivial⟩),(fun hg=>⟨hg,(ltOf (c6 hg)),trivial⟩),(fun hg=>⟨hg,hg,(c7 hg),trivial⟩),(fun hg=>⟨hg,(ltOf (c7 hg)),trivial⟩),(fun hg=>⟨(g_cmp_Less_int_ok N (cap05.getD ((w64 (a2 - 1)).toNat) 0) (cap05.getD ((pivot).toNat) 0) rLess (condT hr7 hg)),hg,hg,trivial⟩),(fun hg=>⟨hg,trivial⟩),(fun hq=>⟨hq,trivial⟩),trivial⟩ ?_
 refine Runs.sC 87 (C_17 58362) (C_17 58363) (cond (decide (a2 > 0)) (!rLess) false) (fun hq8=>?_) (fun hq8=>?_)
 ·have h:=condT h hq8
  refine Runs.sA 1 [.code (C_17 116724),.code (C_17 116725),.code (C_17 14591),.inBlock 1,.inLoop (C_17 28),.inBlock 0] ?_
  obtain ⟨rpartitionEqu,hr8,h⟩:=bindSome h
  obtain ⟨c8,h⟩:=ifSome h
  refine Runs.sR hE ⟨[(0,(.os 0 0 rpartitionEqu.2.length)),(2,(aI b2)),(3,(aI limit3)),(8,(aB wasBalanced)),(9,(aB wasPartitioned)),(13,(aI rpartitionEqu.1))],[(0,aO 1 cI 0 rpartitionEqu.2)],337⟩ (C_17 116724) [(4,⟨[0],false,(aI rpartitionEqu.1),[(0,aO 1 cI 0 rpartitionEqu.2)],0,false,none⟩)] [] ([(0,.osl (rpartitionEqu.2.length))] ++ kp [2,3,8,9,13]) (kq [0]) 337 [Sound Try.prog 91 [(.os 0 0 cap05.length),(aI a2),(aI b2),(aI pivot)] [(0,aO 1 cI 0 cap05)] 1 (aI rpartitionEqu.1) [(0,aO 1 cI 0 rpartitionEqu.2)],cap05.length=rpartitionEqu.2.length] ⟨(g_slices_partitionEqualOrdered_int_ok N a2 b2 pivot cap05 rpartitionEqu hr8),(Eq.symm c8),trivial⟩ ?_
  refine Runs.sA 1 [.code (C_17 233450),.code (C_17 233451),.code (C_17 14591),.inBlock 1,.inLoop (C_17 28),.inBlock 0] ?_
  refine Runs.sR hE ⟨[(0,(.os 0 0 rpartitionEqu.2.length)),(1,(aI rpartitionEqu.1)),(2,(aI b2)),(3,(aI limit3)),(8,(aB wasBalanced)),(9,(aB wasPartitioned))],[(0,aO 1 cI 0 rpartitionEqu.2)],369⟩ (C_17 233450) [] [] (kp [0,1,2,3,8,9]) (kq [0]) 369 [] trivial ?_
  refine Runs.sA 2 [.code (C_17 28),.inLoop (C_17 28),.inBlock 0] ?_
  exact Runs.sW hE _ [] (kp [0,1,2,3,8,9]) (kq [0]) 1 [] trivial (hK_g_slices_pdqsortOrdered_int_L1 rpartitionEqu.2 rpartitionEqu.1 b2 limit3 wasBalanced wasPartitioned _ h E hE)
 ·have h:=condF h hq8
  refine Runs.sA 2 [.code (C_17 29182),.code (C_17 29183),.inBlock 1,.inLoop (C_17 28),.inBlock 0] ?_
  obtain ⟨rpartitionOrd,hr9,h⟩:=bindSome h
  obtain ⟨c9,h⟩:=ifSome h
  refine Runs.sR hE ⟨[(0,(.os 0 0 rpartitionOrd.2.2.length)),(1,(aI a2)),(2,(aI b2)),(3,(aI limit3)),(10,(aI (w64 (b2 - a2)))),(14,(aI rpartitionOrd.1)),(15,(aB rpartitionOrd.2.1))],[(0,aO 1 cI 0 rpartitionOrd.2.2)],401⟩ (C_17 29182) [(4,⟨[0],false,(.tup [(aI rpartitionOrd.1),(aB rpartitionOrd.2.1)]),[(0,aO 1 cI 0 rpartitionOrd.2.2)],0,false,none⟩)] [] ([(0,.osl (rpartitionOrd.2.2.length))] ++ kp [1,2,3,10,14,15]) (kq [0]) 401 [Sound Try.prog 92 [(.os 0 0 cap05.length),(aI a2),(aI b2),(aI pivot)] [(0,aO 1 cI 0 cap05)] 1 (.tup [(aI rpartitionOrd.1),(aB rpartitionOrd.2.1)]) [(0,aO 1 cI 0 rpartitionOrd.2.2)],cap05.length=rpartitionOrd.2.2.length] ⟨(g_slices_partitionOrdered_int_ok N a2 b2 pivot cap05 rpartitionOrd hr9),(Eq.symm c9),trivial⟩ ?_
  refine Runs.sA 1 [.code (C_17 58366),.code (C_17 58367),.inBlock 1,.inLoop (C_17 28),.inBlock 0] ?_
  refine Runs.sR hE ⟨[(0,(.os 0 0 rpartitionOrd.2.2.length)),(1,(aI a2)),(2,(aI b2)),(3,(aI limit3)),(9,(aB rpartitionOrd.2.1)),(10,(aI (w64 (b2 - a2)))),(14,(aI rpartitionOrd.1))],[(0,aO 1 cI 0 rpartitionOrd.2.2)],433⟩ (C_17 58366) [] [] (kp [0,1,2,3,9,10,14]) (kq [0]) 433 [] trivial ?_
  refine Runs.sA 1 [.code (C_17 116734),.code (C_17 116735),.inBlock 1,.inLoop (C_17 28),.inBlock 0] ?_
  refine Runs.sR hE ⟨[(0,(.os 0 0 rpartitionOrd.2.2.length)),(1,(aI a2)),(2,(aI b2)),(3,(aI limit3)),(9,(aB rpartitionOrd.2.1)),(10,(aI (w64 (b2 - a2)))),(14,(aI rpartitionOrd.1)),(16,(aI (w64 (rpartitionOrd.1 - a2)))),(17,(aI (w64 (b2 - rpartitionOrd.1))))],[(0,aO 1 cI 0 rpartitionOrd.2.2)],561⟩ (C_17 116734) [] [] (kp [0,1,2,3,9,10,14,16,17]) (kq [0]) 561 [] trivial ?_
  refine Runs.sA 1 [.code (C_17 233470),.code (C_17 233471),.inBlock 1,.inLoop (C_17 28),.inBlock 0] ?_
  refine Runs.sR hE ⟨[(0,(.os 0 0 rpartitionOrd.2.2.length)),(1,(aI a2)),(2,(aI b2)),(3,(aI limit3)),(9,(aB rpartitionOrd.2.1)),(14,(aI rpartitionOrd.1)),(16,(aI (w64 (rpartitionOrd.1 - a2)))),(17,(aI (w64 (b2 - rpartitionOrd.1)))),(18,(aI (w64 ((w64 (b2 - a2)).tdiv 8))))],[(0,aO 1 cI 0 rpartitionOrd.2.2)],609⟩ (C_17 233470) [] [] (kp [0,1,2,3,9,14,16,17,18]) (kq [0]) 609 [(8:Int)≠0] ⟨(by decide),trivial⟩ ?_
  refine Runs.sA 1 [.code (C_17 466942),.code (C_17 466943),.inBlock 1,.inLoop (C_17 28),.inBlock 0] ?_
  refine Runs.sR hE ⟨[(0,(.os 0 0 rpartitionOrd.2.2.length)),(1,(aI a2)),(2,(aI b2)),(3,(aI limit3)),(9,(aB rpartitionOrd.2.1)),(14,(aI rpartitionOrd.1)),(16,(aI (w64 (rpartitionOrd.1 - a2)))),(17,(aI (w64 (b2 - rpartitionOrd.1)))),(18,(aI (w64 ((w64 (b2 - a2)).tdiv 8)))),(113,(aB (decide ((w64 (rpartitionOrd.1 - a2)) < (w64 (b2 - rpartitionOrd.1))))))],[(0,aO 1 cI 0 rpartitionOrd.2.2)],657⟩ (C_17 466942) [] [] (kp [0,1,2,3,9,14,16,17,18,113]) (kq [0]) 657 [] trivial ?_
  refine Runs.sC 113 (C_17 933886) (C_17 933887) (decide ((w64 (rpartitionOrd.1 - a2)) < (w64 (b2 - rpartitionOrd.1)))) (fun hq9=>?_) (fun hq9=>?_)
  ·have h:=condT h hq9
   refine Runs.sA 1 [.code (C_17 1867772),.code (C_17 1867773),.inBlock 1,.inLoop (C_17 28),.inBlock 0] ?_
   refine Runs.sR hE ⟨[(0,(.os 0 0 rpartitionOrd.2.2.length)),(1,(aI a2)),(2,(aI b2)),(3,(aI limit3)),(8,(aB (decide ((w64 (rpartitionOrd.1 - a2))≥(w64 ((w64 (b2 - a2)).tdiv 8)))))),(9,(aB rpartitionOrd.2.1)),(14,(aI rpartitionOrd.1))],[(0,aO 1 cI 0 rpartitionOrd.2.2)],721⟩ (C_17 1867772) [] [] (kp [0,1,2,3,8,9,14]) (kq [0]) 721 [] trivial ?_
   refine Runs.sA 1 [.code (C_17 3735546),.code (C_17 3735547),.inBlock 1,.inLoop (C_17 28),.inBlock 0] ?_
   obtain ⟨rpdqsortOrder,hr10,h⟩:=bindSome h
   obtain ⟨c10,h⟩:=ifSome h
   refine Runs.sR hE ⟨[(0,(.os 0 0 rpdqsortOrder.length)),(2,(aI b2)),(3,(aI limit3)),(8,(aB (decide ((w64 (rpartitionOrd.1 - a2))≥(w64 ((w64 (b2 - a2)).tdiv 8)))))),(9,(aB rpartitionOrd.2.1)),(14,(aI rpartitionOrd.1))],[(0,aO 1 cI 0 rpdqsortOrder)],801⟩ (C_17 3735546) [(4,⟨[0],false,(.tup []),[(0,aO 1 cI 0 rpdqsortOrder)],0,false,none⟩)] [] ([(0,.osl (rpdqsortOrder.length))] ++ kp [2,3,8,9,14]) (kq [0]) 801 [Sound Try.prog 66 [(.os 0 0 rpartitionOrd.2.2.length),(aI a2),(aI rpartitionOrd.1),(aI limit3)] [(0,aO 1 cI 0 rpartitionOrd.2.2)] 1 (.tup []) [(0,aO 1 cI 0 rpdqsortOrder)],rpartitionOrd.2.2.length=rpdqsortOrder.length] ⟨(hR_ a2 rpartitionOrd.1 limit3 rpartitionOrd.2.2 rpdqsortOrder hr10),(Eq.symm c10),trivial⟩ ?_
   refine Runs.sR hE ⟨[(0,(.os 0 0 rpdqsortOrder.length)),(1,(aI (w64 (rpartitionOrd.1+1)))),(2,(aI b2)),(3,(aI limit3)),(8,(aB (decide ((w64 (rpartitionOrd.1 - a2))≥(w64 ((w64 (b2 - a2)).tdiv 8)))))),(9,(aB rpartitionOrd.2.1))],[(0,aO 1 cI 0 rpdqsortOrder)],849⟩ (C_17 3735547) [] [] (kp [0,1,2,3,8,9]) (kq [0]) 849 [] trivial ?_
   refine Runs.sA 2 [.code (C_17 28),.inLoop (C_17 28),.inBlock 0] ?_
   exact Runs.sW hE _ [] (kp [0,1,2,3,8,9]) (kq [0]) 1 [] trivial (hK_g_slices_pdqsortOrdered_int_L1 rpdqsortOrder (w64 (rpartitionOrd.1+1)) b2 limit3 (decide ((w64 (rpartitionOrd.1 - a2))≥(w64 ((w64 (b2 - a2)).tdiv 8)))) rpartitionOrd.2.1 _ h E hE)
  ·have h:=condF h hq9
   refine Runs.sA 1 [.code (C_17 1867774),.code (C_17 1867775),.inBlock 1,.inLoop (C_17 28),.inBlock 0] ?_
   refine Runs.sR hE ⟨[(0,(.os 0 0 rpartitionOrd.2.2.length)),(1,(aI a2)),(2,(aI b2)),(3,(aI limit3)),(8,(aB (decide ((w64 (b2 - rpartitionOrd.1))≥(w64 ((w64 (b2 - a2)).tdiv 8)))))),(9,(aB rpartitionOrd.2.1)),(14,(aI rpartitionOrd.1))],[(0,aO 1 cI 0 rpartitionOrd.2.2)],721⟩ (C_17 1867774) [] [] (kp [0,1,2,3,8,9,14]) (kq [0]) 721 [] trivial ?_
   refine Runs.sA 1 [.code (C_17 3735550),.code (C_17 3735551),.inBlock 1,.inLoop (C_17 28),.inBlock 0] ?_
   obtain ⟨rpdqsortOrder2,hr11,h⟩:=bindSome h
   obtain ⟨c11,h⟩:=ifSome h
   refine Runs.sR hE ⟨[(0,(.os 0 0 rpdqsortOrder2.length)),(1,(aI a2)),(3,(aI limit3)),(8,(aB (decide ((w64 (b2 - rpartitionOrd.1))≥(w64 ((w64 (b2 - a2)).tdiv 8)))))),(9,(aB rpartitionOrd.2.1)),(14,(aI rpartitionOrd.1))],[(0,aO 1 cI 0 rpdqsortOrder2)],817⟩ (C_17 3735550) [(5,⟨[0],false,(.tup []),[(0,aO 1 cI 0 rpdqsortOrder2)],0,false,none⟩)] [] ([(0,.osl (rpdqsortOrder2.length))] ++ kp [1,3,8,9,14]) (kq [0]) 817 [Sound Try.prog 66 [(.os 0 0 rpartitionOrd.2.2.length),(aI (w64 (rpartitionOrd.1+1))),(aI b2),(aI limit3)] [(0,aO 1 cI 0 rpartitionOrd.2.2)] 1 (.tup []) [(0,aO 1 cI 0 rpdqsortOrder2)],rpartitionOrd.2.2.length=rpdqsortOrder2.length] ⟨(hR_ (w64 (rpartitionOrd.1+1)) b2 limit3 rpartitionOrd.2.2 rpdqsortOrder2 hr11),(Eq.symm c11),trivial⟩ ?_
   refine Runs.sR hE ⟨[(0,(.os 0 0 rpdqsortOrder2.length)),(1,(aI a2)),(2,(aI rpartitionOrd.1)),(3,(aI limit3)),(8,(aB (decide ((w64 (b2 - rpartitionOrd.1))≥(w64 ((w64 (b2 - a2)).tdiv 8)))))),(9,(aB rpartitionOrd.2.1))],[(0,aO 1 cI 0 rpdqsortOrder2)],849⟩ (C_17 3735551) [] [] (kp [0,1,2,3,8,9]) (kq [0]) 849 [] trivial ?_
   refine Runs.sA 2 [.code (C_17 28),.inLoop (C_17 28),.inBlock 0] ?_
   exact Runs.sW hE _ [] (kp [0,1,2,3,8,9]) (kq [0]) 1 [] trivial (hK_g_slices_pdqsortOrdered_int_L1 rpdqsortOrder2 a2 rpartitionOrd.1 limit3 (decide ((w64 (b2 - rpartitionOrd.1))≥(w64 ((w64 (b2 - a2)).tdiv 8)))) rpartitionOrd.2.1 _ h E hE)
theorem g_slices_pdqsortOrdered_int_J3_ok (N:Nat) (a2:Int) (b2:Int) (wasBalanced:Bool) (wasPartitioned:Bool) (limit3:Int) (R_:Int→Int→Int→(List Int)→Option ((List Int))) (K_g_slices_pdqsortOrdered_int_L1:(List Int)→Int→Int→Int→Bool→Bool→Option ((List Int)))
  (hR_:∀ (a:Int) (b:Int) (limit:Int) (cap0:List Int) (r:(List Int)),R_ a b limit cap0=some r→Sound Try.prog 66 [(.os 0 0 cap0.length),(aI a),(aI b),(aI limit)] [(0,aO 1 cI 0 cap0)] 1 (.tup []) [(0,aO 1 cI 0 r)])
  (hK_g_slices_pdqsortOrdered_int_L1:∀ (cap02:List Int) (a2:Int) (b2:Int) (limit2:Int) (wasBalanced:Bool) (wasPartitioned:Bool) (r:(List Int)),K_g_slices_pdqsortOrdered_int_L1 cap02 a2 b2 limit2 wasBalanced wasPartitioned=some r→∀ E,EnvOk E 1→Runs Try.prog E 66 134 (SPost E [(0,aO 1 cI 0 r)] (.tup [])) [.code (C_17 28),.inLoop (C_17 28),.inBlock 0] ⟨[(0,(.os 0 0 cap02.length)),(1,(aI a2)),(2,(aI b2)),(3,(aI limit2)),(8,(aB wasBalanced)),(9,(aB wasPartitioned))],[(0,aO 1 cI 0 cap02)],1⟩) (cap04:List Int) (pivot:Int) (hint:Int) (r:(List Int)) (h:g_slices_pdqsortOrdered_int_J3 N a2 b2 wasBalanced wasPartitioned limit3 R_ K_g_slices_pdqsortOrdered_int_L1 cap04 pivot hint=some r):∀ E,EnvOk E 1→Runs Try.prog E 66 134 (SPost E [(0,aO 1 cI 0 r)] (.tup [])) [.code (C_17 14588),.code (C_17 14589),.code (C_17 7295),.inBlock 1,.inLoop (C_17 28),.inBlock 0] ⟨[(0,(.os 0 0 cap04.length)),(1,(aI a2)),(2,(aI b2)),(3,(aI limit3)),(8,(aB wasBalanced)),(9,(aB wasPartitioned)),(10,(aI (w64 (b2 - a2)))),(11,(aI pivot)),(12,(aI hint))],[(0,aO 1 cI 0 cap04)],1⟩:=by
 intro E hE
 unfold g_slices_pdqsortOrdered_int_J3 at h
 refine Runs.sR hE ⟨[(0,(.os 0 0 cap04.length)),(1,(aI a2)),(2,(aI b2)),(3,(aI limit3)),(8,(aB wasBalanced)),(9,(aB wasPartitioned)),(10,(aI (w64 (b2 - a2)))),(11,(aI pivot)),(68,(aB (cond (cond wasBalanced wasPartitioned false) (hint == 1) false)))],[(0,aO 1 cI 0 cap04)],129⟩ (C_17 14588) [] [] (kp [0,1,2,3,8,9,10,11,68]) (kq [0]) 129 [wasBalanced=true→AllP [wasBalanced=true],(cond wasBalanced wasPartitioned false)=true→AllP [(cond wasBalanced wasPartitioned false)=true],(cond wasBalanced wasPartitioned false)=true→AllP [(cond wasBalanced wasPartitioned false)=true]] ⟨(fun hq=>⟨hq,trivial⟩),(fun hg=>⟨hg,trivial⟩),(fun hq=>⟨hq,trivial⟩),trivial⟩ ?_
 refine Runs.sC 68 (C_17 29178) (C_17 29179) (cond (cond wasBalanced wasPartitioned false) (hint == 1) false) (fun hq6=>?_) (fun hq6=>?_)
 ·have h:=condT h hq6
  refine Runs.sA 1 [.code (C_17 58356),.code (C_17 58357),.code (C_17 7295),.inBlock 1,.inLoop (C_17 28),.inBlock 0] ?_
  obtain ⟨rpartialInser,hr6,h⟩:=bindSome h
  obtain ⟨c5,h⟩:=ifSome h
  refine Runs.sR hE ⟨[(0,(.os 0 0 rpartialInser.2.length)),(1,(aI a2)),(2,(aI b2)),(3,(aI limit3)),(8,(aB wasBalanced)),(9,(aB wasPartitioned)),(10,(aI (w64 (b2 - a2)))),(11,(aI pivot)),(72,(aB rpartialInser.1))],[(0,aO 1 cI 0 rpartialInser.2)],193⟩ (C_17 58356) [(3,⟨[0],false,(aB rpartialInser.1),[(0,aO 1 cI 0 rpartialInser.2)],0,false,none⟩)] [] ([(0,.osl (rpartialInser.2.length))] ++ kp [1,2,3,8,9,10,11,72]) (kq [0]) 193 [Sound Try.prog 89 [(.os 0 0 cap04.length),(aI a2),(aI b2)] [(0,aO 1 cI 0 cap04)] 1 (aB rpartialInser.1) [(0,aO 1 cI 0 rpartialInser.2)],cap04.length=rpartialInser.2.length] ⟨(g_slices_partialInsertionSortOrdered_int_ok N a2 b2 cap04 rpartialInser hr6),(Eq.symm c5),trivial⟩ ?_
  refine Runs.sC 72 (C_17 116714) (C_17 116715) rpartialInser.1 (fun hq7=>?_) (fun hq7=>?_)
  ·have h:=condT h hq7
   obtain rfl:=Option.some.inj h
   refine Runs.sW hE ⟨[],[(0,aO 1 cI 0 rpartialInser.2)],193⟩ [] [] (kq [0]) 193 [] trivial ?_
   exact Runs.sT Try.f66 [] [] trivial
  ·have h:=condF h hq7
   refine Runs.sA 3 [.code (C_17 29180),.code (C_17 29181),.code (C_17 14591),.inBlock 1,.inLoop (C_17 28),.inBlock 0] ?_
   exact Runs.sW hE _ [] (kp [0,1,2,3,8,9,10,11]) (kq [0]) 1 [] trivial (g_slices_pdqsortOrdered_int_J4_ok N a2 b2 wasBalanced wasPartitioned limit3 pivot R_ K_g_slices_pdqsortOrdered_int_L1 hR_ hK_g_slices_pdqsortOrdered_int_L1 rpartialInser.2 _ h E hE)
 ·have h:=condF h hq6
  refine Runs.sA 3 [.code (C_17 29180),.code (C_17 29181),.code (C_17 14591),.inBlock 1,.inLoop (C_17 28),.inBlock 0] ?_
  exact Runs.sW hE _ [] (kp [0,1,2,3,8,9,10,11]) (kq [0]) 1 [] trivial (g_slices_pdqsortOrdered_int_J4_ok N a2 b2 wasBalanced wasPartitioned limit3 pivot R_ K_g_slices_pdqsortOrdered_int_L1 hR_ hK_g_slices_pdqsortOrdered_int_L1 cap04 _ h E hE)
theorem g_slices_pdqsortOrdered_int_J2_ok (N:Nat) (a2:Int) (b2:Int) (wasBalanced:Bool) (wasPartitioned:Bool) (R_:Int→Int→Int→(List Int)→Option ((List Int))) (K_g_slices_pdqsortOrdered_int_L1:(List Int)→Int→Int→Int→Bool→Bool→Option ((List Int)))
  (hR_:∀ (a:Int) (b:Int) (limit:Int) (cap0:List Int) (r:(List Int)),R_ a b limit cap0=some r→Sound Try.prog 66 [(.os 0 0 cap0.length),(aI a),(aI b),(aI limit)] [(0,aO 1 cI 0 cap0)] 1 (.tup []) [(0,aO 1 cI 0 r)])
  (hK_g_slices_pdqsortOrdered_int_L1:∀ (cap02:List Int) (a2:Int) (b2:Int) (limit2:Int) (wasBalanced:Bool) (wasPartitioned:Bool) (r:(List Int)),K_g_slices_pdqsortOrdered_int_L1 cap02 a2 b2 limit2 wasBalanced wasPartitioned=some r→∀ E,EnvOk E 1→Runs Try.prog E 66 134 (SPost E [(0,aO 1 cI 0 r)] (.tup [])) [.code (C_17 28),.inLoop (C_17 28),.inBlock 0] ⟨[(0,(.os 0 0 cap02.length)),(1,(aI a2)),(2,(aI b2)),(3,(aI limit2)),(8,(aB wasBalanced)),(9,(aB wasPartitioned))],[(0,aO 1 cI 0 cap02)],1⟩) (cap03:List Int) (limit3:Int) (r:(List Int)) (h:g_slices_pdqsortOrdered_int_J2 N a2 b2 wasBalanced wasPartitioned R_ K_g_slices_pdqsortOrdered_int_L1 cap03 limit3=some r):∀ E,EnvOk E 1→Runs Try.prog E 66 134 (SPost E [(0,aO 1 cI 0 r)] (.tup [])) [.code (C_17 1822),.code (C_17 1823),.inBlock 1,.inLoop (C_17 28),.inBlock 0] ⟨[(0,(.os 0 0 cap03.length)),(1,(aI a2)),(2,(aI b2)),(3,(aI limit3)),(8,(aB wasBalanced)),(9,(aB wasPartitioned)),(10,(aI (w64 (b2 - a2))))],[(0,aO 1 cI 0 cap03)],1⟩:=by
 intro E hE
 unfold g_slices_pdqsortOrdered_int_J2 at h
 obtain ⟨rchoosePivotO,hr4,h⟩:=bindSome h
 refine Runs.sR hE ⟨[(0,(.os 0 0 cap03.length)),(1,(aI a2)),(2,(aI b2)),(3,(aI limit3)),(8,(aB wasBalanced)),(9,(aB wasPartitioned)),(10,(aI (w64 (b2 - a2)))),(11,(aI rchoosePivotO.1)),(12,(aI rchoosePivotO.2))],[(0,aO 1 cI 0 cap03)],145⟩ (C_17 1822) [(3,⟨[],true,(.tup [(aI rchoosePivotO.1),(aI rchoosePivotO.2)]),[],0,false,none⟩)] [] (kp [0,1,2,3,8,9,10,11,12]) (kq [0]) 145 [Sound Try.prog 87 [(encL cI 0 cap03),(aI a2),(aI b2)] [] 0 (.tup [(aI rchoosePivotO.1),(aI rchoosePivotO.2)]) [],0+cap03.length≤cap03.length] ⟨(g_slices_choosePivotOrdered_int_ok N cap03 a2 b2 rchoosePivotO hr4),z0,trivial⟩ ?_
 refine Runs.sA 2 [.code (C_17 7292),.code (C_17 7293),.code (C_17 3647),.inBlock 1,.inLoop (C_17 28),.inBlock 0] ?_
 refine Runs.sR hE ⟨[(0,(.os 0 0 cap03.length)),(1,(aI a2)),(2,(aI b2)),(3,(aI limit3)),(8,(aB wasBalanced)),(9,(aB wasPartitioned)),(10,(aI (w64 (b2 - a2)))),(11,(aI rchoosePivotO.1)),(12,(aI rchoosePivotO.2)),(50,(aB (rchoosePivotO.2 == 2)))],[(0,aO 1 cI 0 cap03)],177⟩ (C_17 7292) [] [] (kp [0,1,2,3,8,9,10,11,12,50]) (kq [0]) 177 [] trivial ?_
 refine Runs.sC 50 (C_17 14586) (C_17 14587) (rchoosePivotO.2 == 2) (fun hq5=>?_) (fun hq5=>?_)
 ·have h:=condT h hq5
  refine Runs.sA 1 [.code (C_17 29172),.code (C_17 29173),.code (C_17 3647),.inBlock 1,.inLoop (C_17 28),.inBlock 0] ?_
  obtain ⟨rreverseRange,hr5,h⟩:=bindSome h
  obtain ⟨c4,h⟩:=ifSome h
  refine Runs.sR hE ⟨[(0,(.os 0 0 rreverseRange.length)),(1,(aI a2)),(2,(aI b2)),(3,(aI limit3)),(8,(aB wasBalanced)),(9,(aB wasPartitioned)),(10,(aI (w64 (b2 - a2)))),(11,(aI rchoosePivotO.1))],[(0,aO 1 cI 0 rreverseRange)],241⟩ (C_17 29172) [(3,⟨[0],false,(.tup []),[(0,aO 1 cI 0 rreverseRange)],0,false,none⟩)] [] ([(0,.osl (rreverseRange.length))] ++ kp [1,2,3,8,9,10,11]) (kq [0]) 241 [Sound Try.prog 88 [(.os 0 0 cap03.length),(aI a2),(aI b2)] [(0,aO 1 cI 0 cap03)] 1 (.tup []) [(0,aO 1 cI 0 rreverseRange)],cap03.length=rreverseRange.length] ⟨(g_slices_reverseRangeOrdered_int_ok N a2 b2 cap03 rreverseRange hr5),(Eq.symm c4),trivial⟩ ?_
  refine Runs.sA 1 [.code (C_17 58346),.code (C_17 58347),.code (C_17 3647),.inBlock 1,.inLoop (C_17 28),.inBlock 0] ?_
  refine Runs.sR hE ⟨[(0,(.os 0 0 rreverseRange.length)),(1,(aI a2)),(2,(aI b2)),(3,(aI limit3)),(8,(aB wasBalanced)),(9,(aB wasPartitioned)),(10,(aI (w64 (b2 - a2)))),(11,(aI (w64 ((w64 (b2 - 1)) - (w64 (rchoosePivotO.1 - a2))))))],[(0,aO 1 cI 0 rreverseRange)],353⟩ (C_17 58346) [] [] (kp [0,1,2,3,8,9,10,11]) (kq [0]) 353 [] trivial ?_
  refine Runs.sR hE ⟨[(0,(.os 0 0 rreverseRange.length)),(1,(aI a2)),(2,(aI b2)),(3,(aI limit3)),(8,(aB wasBalanced)),(9,(aB wasPartitioned)),(10,(aI (w64 (b2 - a2)))),(11,(aI (w64 ((w64 (b2 - 1)) - (w64 (rchoosePivotO.1 - a2)))))),(12,(aI 1))],[(0,aO 1 cI 0 rreverseRange)],369⟩ (C_17 58347) [] [] (kp [0,1,2,3,8,9,10,11,12]) (kq [0]) 369 [] trivial ?_
  refine Runs.sA 2 [.code (C_17 14588),.code (C_17 14589),.code (C_17 7295),.inBlock 1,.inLoop (C_17 28),.inBlock 0] ?_
  exact Runs.sW hE _ [] (kp [0,1,2,3,8,9,10,11,12]) (kq [0]) 1 [] trivial (g_slices_pdqsortOrdered_int_J3_ok N a2 b2 wasBalanced wasPartitioned limit3 R_ K_g_slices_pdqsortOrdered_int_L1 hR_ hK_g_slices_pdqsortOrdered_int_L1 rreverseRange (w64 ((w64 (b2 - 1)) - (w64 (rchoosePivotO.1 - a2)))) 1 _ h E hE)
 ·have h:=condF h hq5
  refine Runs.sA 3 [.code (C_17 14588),.code (C_17 14589),.code (C_17 7295),.inBlock 1,.inLoop (C_17 28),.inBlock 0] ?_
  exact Runs.sW hE _ [] (kp [0,1,2,3,8,9,10,11,12]) (kq [0]) 1 [] trivial (g_slices_pdqsortOrdered_int_J3_ok N a2 b2 wasBalanced wasPartitioned limit3 R_ K_g_slices_pdqsortOrdered_int_L1 hR_ hK_g_slices_pdqsortOrdered_int_L1 cap03 rchoosePivotO.1 rchoosePivotO.2 _ h E hE)
theorem g_slices_pdqsortOrdered_int_L1_ok (N:Nat) (R_:Int→Int→Int→(List Int)→Option ((List Int)))
  (hR_:∀ (a:Int) (b:Int) (limit:Int) (cap0:List Int) (r:(List Int)),R_ a b limit cap0=some r→Sound Try.prog 66 [(.os 0 0 cap0.length),(aI a),(aI b),(aI limit)] [(0,aO 1 cI 0 cap0)] 1 (.tup []) [(0,aO 1 cI 0 r)]) (fuel:Nat):∀ (cap02:List Int) (a2:Int) (b2:Int) (limit2:Int) (wasBalanced:Bool) (wasPartitioned:Bool) (r:(List Int)),g_slices_pdqsortOrdered_int_L1 N R_ fuel cap02 a2 b2 limit2 wasBalanced wasPartitioned=some r→∀ E,EnvOk E 1→Runs Try.prog E 66 134 (SPost E [(0,aO 1 cI 0 r)] (.tup [])) [.code (C_17 28),.inLoop (C_17 28),.inBlock 0] ⟨[(0,(.os 0 0 cap02.length)),(1,(aI a2)),(2,(aI b2)),(3,(aI limit2)),(8,(aB wasBalanced)),(9,(aB wasPartitioned))],[(0,aO 1 cI 0 cap02)],1⟩:=by
 induction fuel with
 | zero=>intro _ _ _ _ _ _ r h;rw [g_slices_pdqsortOrdered_int_L1.eq_1] at h;cases h
 | succ fuel ih =>
  intro cap02 a2 b2 limit2 wasBalanced wasPartitioned r h E hE
  rw [g_slices_pdqsortOrdered_int_L1.eq_2] at h
  refine Runs.sA 2 [.code (C_17 112),.code (C_17 113),.inBlock 1,.inLoop (C_17 28),.inBlock 0] ?_
  refine Runs.sR hE ⟨[(0,(.os 0 0 cap02.length)),(1,(aI a2)),(2,(aI b2)),(3,(aI limit2)),(8,(aB wasBalanced)),(9,(aB wasPartitioned)),(10,(aI (w64 (b2 - a2))))],[(0,aO 1 cI 0 cap02)],65⟩ (C_17 112) [] [] (kp [0,1,2,3,8,9,10]) (kq [0]) 65 [] trivial ?_
  refine Runs.sA 2 [.code (C_17 452),.code (C_17 453),.code (C_17 227),.inBlock 1,.inLoop (C_17 28),.inBlock 0] ?_
  refine Runs.sR hE ⟨[(0,(.os 0 0 cap02.length)),(1,(aI a2)),(2,(aI b2)),(3,(aI limit2)),(8,(aB wasBalanced)),(9,(aB wasPartitioned)),(10,(aI (w64 (b2 - a2)))),(23,(aB (decide ((w64 (b2 - a2))≤12))))],[(0,aO 1 cI 0 cap02)],97⟩ (C_17 452) [] [] (kp [0,1,2,3,8,9,10,23]) (kq [0]) 97 [] trivial ?_
  refine Runs.sC 23 (C_17 906) (C_17 907) (decide ((w64 (b2 - a2))≤12)) (fun hq2=>?_) (fun hq2=>?_)
  ·have h:=condT h hq2
   refine Runs.sA 1 [.code (C_17 1812),.code (C_17 1813),.code (C_17 227),.inBlock 1,.inLoop (C_17 28),.inBlock 0] ?_
   obtain ⟨rinsertionSor,hr,h⟩:=bindSome h
   obtain ⟨c,h⟩:=ifSome h
   refine Runs.sR hE ⟨[],[(0,aO 1 cI 0 rinsertionSor)],161⟩ (C_17 1812) [(3,⟨[0],false,(.tup []),[(0,aO 1 cI 0 rinsertionSor)],0,false,none⟩)] [] [] (kq [0]) 161 [Sound Try.prog 84 [(.os 0 0 cap02.length),(aI a2),(aI b2)] [(0,aO 1 cI 0 cap02)] 1 (.tup []) [(0,aO 1 cI 0 rinsertionSor)]] ⟨(g_slices_insertionSortOrdered_int_ok N a2 b2 cap02 rinsertionSor hr),trivial⟩ ?_
   obtain rfl:=Option.some.inj h
   refine Runs.sW hE ⟨[],[(0,aO 1 cI 0 rinsertionSor)],161⟩ [] [] (kq [0]) 161 [] trivial ?_
   exact Runs.sT Try.f66 [] [] trivial
  ·have h:=condF h hq2
   refine Runs.sA 3 [.code (C_17 908),.code (C_17 909),.code (C_17 455),.inBlock 1,.inLoop (C_17 28),.inBlock 0] ?_
   refine Runs.sR hE ⟨[(0,(.os 0 0 cap02.length)),(1,(aI a2)),(2,(aI b2)),(3,(aI limit2)),(8,(aB wasBalanced)),(9,(aB wasPartitioned)),(10,(aI (w64 (b2 - a2)))),(29,(aB (limit2 == 0)))],[(0,aO 1 cI 0 cap02)],129⟩ (C_17 908) [] [] (kp [0,1,2,3,8,9,10,29]) (kq [0]) 129 [] trivial ?_
   refine Runs.sC 29 (C_17 1818) (C_17 1819) (limit2 == 0) (fun hq3=>?_) (fun hq3=>?_)
   ·have h:=condT h hq3
    refine Runs.sA 1 [.code (C_17 3636),.code (C_17 3637),.code (C_17 455),.inBlock 1,.inLoop (C_17 28),.inBlock 0] ?_
    obtain ⟨rheapSortOrde,hr2,h⟩:=bindSome h
    obtain ⟨c2,h⟩:=ifSome h
    refine Runs.sR hE ⟨[],[(0,aO 1 cI 0 rheapSortOrde)],193⟩ (C_17 3636) [(3,⟨[0],false,(.tup []),[(0,aO 1 cI 0 rheapSortOrde)],0,false,none⟩)] [] [] (kq [0]) 193 [Sound Try.prog 85 [(.os 0 0 cap02.length),(aI a2),(aI b2)] [(0,aO 1 cI 0 cap02)] 1 (.tup []) [(0,aO 1 cI 0 rheapSortOrde)]] ⟨(g_slices_heapSortOrdered_int_ok N a2 b2 cap02 rheapSortOrde hr2),trivial⟩ ?_
    obtain rfl:=Option.some.inj h
    refine Runs.sW hE ⟨[],[(0,aO 1 cI 0 rheapSortOrde)],193⟩ [] [] (kq [0]) 193 [] trivial ?_
    exact Runs.sT Try.f66 [] [] trivial
   ·have h:=condF h hq3
    refine Runs.sA 3 [.code (C_17 1820),.code (C_17 1821),.code (C_17 911),.inBlock 1,.inLoop (C_17 28),.inBlock 0] ?_
    refine Runs.sR hE ⟨[(0,(.os 0 0 cap02.length)),(1,(aI a2)),(2,(aI b2)),(3,(aI limit2)),(8,(aB wasBalanced)),(9,(aB wasPartitioned)),(10,(aI (w64 (b2 - a2)))),(35,(aB (!wasBalanced)))],[(0,aO 1 cI 0 cap02)],161⟩ (C_17 1820) [] [] (kp [0,1,2,3,8,9,10,35]) (kq [0]) 161 [] trivial ?_
    refine Runs.sC 35 (C_17 3642) (C_17 3643) (!wasBalanced) (fun hq4=>?_) (fun hq4=>?_)
    ·have h:=condT h hq4
     refine Runs.sA 1 [.code (C_17 7284),.code (C_17 7285),.code (C_17 911),.inBlock 1,.inLoop (C_17 28),.inBlock 0] ?_
     obtain ⟨rbreakPattern,hr3,h⟩:=bindSome h
     obtain ⟨c3,h⟩:=ifSome h
     refine Runs.sR hE ⟨[(0,(.os 0 0 rbreakPattern.length)),(1,(aI a2)),(2,(aI b2)),(3,(aI limit2)),(8,(aB wasBalanced)),(9,(aB wasPartitioned)),(10,(aI (w64 (b2 - a2))))],[(0,aO 1 cI 0 rbreakPattern)],225⟩ (C_17 7284) [(3,⟨[0],false,(.tup []),[(0,aO 1 cI 0 rbreakPattern)],0,false,none⟩)] [] ([(0,.osl (rbreakPattern.length))] ++ kp [1,2,3,8,9,10]) (kq [0]) 225 [Sound Try.prog 86 [(.os 0 0 cap02.length),(aI a2),(aI b2)] [(0,aO 1 cI 0 cap02)] 1 (.tup []) [(0,aO 1 cI 0 rbreakPattern)],cap02.length=rbreakPattern.length] ⟨(g_slices_breakPatternsOrdered_int_ok N a2 b2 cap02 rbreakPattern hr3),(Eq.symm c3),trivial⟩ ?_
     refine Runs.sR hE ⟨[(0,(.os 0 0 rbreakPattern.length)),(1,(aI a2)),(2,(aI b2)),(3,(aI (w64 (limit2 - 1)))),(8,(aB wasBalanced)),(9,(aB wasPartitioned)),(10,(aI (w64 (b2 - a2))))],[(0,aO 1 cI 0 rbreakPattern)],273⟩ (C_17 7285) [] [] (kp [0,1,2,3,8,9,10]) (kq [0]) 273 [] trivial ?_
     refine Runs.sA 1 [.code (C_17 1822),.code (C_17 1823),.inBlock 1,.inLoop (C_17 28),.inBlock 0] ?_
     exact Runs.sW hE _ [] (kp [0,1,2,3,8,9,10]) (kq [0]) 1 [] trivial (g_slices_pdqsortOrdered_int_J2_ok N a2 b2 wasBalanced wasPartitioned R_ (g_slices_pdqsortOrdered_int_L1 N R_ fuel) hR_ ih rbreakPattern (w64 (limit2 - 1)) _ h E hE)
    ·have h:=condF h hq4
     refine Runs.sA 2 [.code (C_17 1822),.code (C_17 1823),.inBlock 1,.inLoop (C_17 28),.inBlock 0] ?_
     exact Runs.sW hE _ [] (kp [0,1,2,3,8,9,10]) (kq [0]) 1 [] trivial (g_slices_pdqsortOrdered_int_J2_ok N a2 b2 wasBalanced wasPartitioned R_ (g_slices_pdqsortOrdered_int_L1 N R_ fuel) hR_ ih cap02 limit2 _ h E hE)
theorem g_slices_pdqsortOrdered_int_ok (N:Nat) (fuel:Nat):∀ (a:Int) (b:Int) (limit:Int) (cap0:List Int) (r:(List Int)),g_slices_pdqsortOrdered_int N fuel a b limit cap0=some r→Sound Try.prog 66 [(.os 0 0 cap0.length),(aI a),(aI b),(aI limit)] [(0,aO 1 cI 0 cap0)] 1 (.tup []) [(0,aO 1 cI 0 r)]:=by
 induction fuel with
 | zero=>intro _ _ _ _ r h;rw [g_slices_pdqsortOrdered_int.eq_1] at h;cases h
 | succ fuel ih =>
  intro a b limit cap0 r h
  rw [g_slices_pdqsortOrdered_int.eq_2] at h
  refine Sound.of_runs (fu:=Try.f66) (c:=C_17 1) (nt:=134) (by kernel_rfl) (by kernel_rfl) (by kernel_rfl) (by kernel_rfl) (fun hm=>absurd hm (by decide)) ?_
  intro E hE
  refine Runs.sA 1 [.code (C_17 2),.code (C_17 3)] ?_
  refine Runs.sR hE ⟨[(0,(.os 0 0 cap0.length)),(1,(aI a)),(2,(aI b)),(3,(aI limit)),(8,(aB true))],[(0,aO 1 cI 0 cap0)],17⟩ (C_17 2) [] [] (kp [0,1,2,3,8]) (kq [0]) 17 [] trivial ?_
  refine Runs.sA 1 [.code (C_17 6),.code (C_17 7)] ?_
  refine Runs.sR hE ⟨[(0,(.os 0 0 cap0.length)),(1,(aI a)),(2,(aI b)),(3,(aI limit)),(8,(aB true)),(9,(aB true))],[(0,aO 1 cI 0 cap0)],33⟩ (C_17 6) [] [] (kp [0,1,2,3,8,9]) (kq [0]) 33 [] trivial ?_
  refine Runs.sA 2 [.code (C_17 28),.inLoop (C_17 28),.inBlock 0] ?_
  exact Runs.sW hE _ [] (kp [0,1,2,3,8,9]) (kq [0]) 1 [] trivial (g_slices_pdqsortOrdered_int_L1_ok N (g_slices_pdqsortOrdered_int N fuel) ih N cap0 a b limit true true _ h E hE)
noncomputable def C_14 (n:Nat):Code:=cat (bodyOf Try.f31) (pth n)
theorem g_slices_Sort_int_int_ok (N:Nat) (cap0:List Int) (r:(List Int)) (h:g_slices_Sort_int_int N cap0=some r):Sound Try.prog 31 [(.os 0 0 cap0.length)] [(0,aO 1 cI 0 cap0)] 1 (.tup []) [(0,aO 1 cI 0 r)]:=by
 unfold g_slices_Sort_int_int at h
 refine Sound.of_runs (fu:=Try.f31) (c:=C_14 1) (nt:=11) (by kernel_rfl) (by kernel_rfl) (by kernel_rfl) (by kernel_rfl) (fun hm=>absurd hm (by decide)) ?_
 intro E hE
 refine Runs.sA 1 [.code (C_14 2),.code (C_14 3)] ?_
 refine Runs.sR hE ⟨[(0,(.os 0 0 cap0.length)),(2,(aI ((cap0.length:Nat):Int)))],[(0,aO 1 cI 0 cap0)],49⟩ (C_14 2) [] [] (kp [0,2]) (kq [0]) 49 [] trivial ?_
 obtain ⟨rLen,hr,h⟩:=bindSome h
 obtain ⟨rpdqsortOrder,hr2,h⟩:=bindSome h
 obtain ⟨c,h⟩:=ifSome h
 refine Runs.sR hE ⟨[],[(0,aO 1 cI 0 rpdqsortOrder)],145⟩ (C_14 3) [(4,⟨[],true,(aI rLen),[],0,false,none⟩),(5,⟨[0],false,(.tup []),[(0,aO 1 cI 0 rpdqsortOrder)],0,false,none⟩)] [] [] (kq [0]) 145 [Sound Try.prog 67 [(.atom (.int .u64 (IntKind.u64.wrap (((cap0.length:Nat):Int)))))] [] 0 (aI rLen) [],Sound Try.prog 66 [(.os 0 0 cap0.length),(aI 0),(aI ((cap0.length:Nat):Int)),(aI rLen)] [(0,aO 1 cI 0 cap0)] 1 (.tup []) [(0,aO 1 cI 0 rpdqsortOrder)]] ⟨(g_math_bits_Len_ok N (IntKind.u64.wrap (((cap0.length:Nat):Int))) rLen hr),(g_slices_pdqsortOrdered_int_ok N N 0 ((cap0.length:Nat):Int) rLen cap0 rpdqsortOrder hr2),trivial⟩ ?_
 obtain rfl:=Option.some.inj h
 refine Runs.sW hE ⟨[],[(0,aO 1 cI 0 rpdqsortOrder)],145⟩ [] [] (kq [0]) 145 [] trivial ?_
 exact Runs.sF Try.f31 [] [] trivial
noncomputable def C_37 (n:Nat):Code:=cat (bodyOf Try.f65) (pth n)
theorem g_water_tide_1_ok (N:Nat) (i:Int) (cap0:List TMark) (cap1:Int) (r:Bool) (h:g_water_tide_1 N i cap0 cap1=some r):Sound Try.prog 65 [(aI i),(.op 0 0 0),(.op 1 0 0)] [(0,vO 1 [(encL TMark.cells TMark.d cap0)]),(1,vO 1 [(aI cap1)])] 2 (aB r) [(0,vO 1 [(encL TMark.cells TMark.d cap0)]),(1,vO 1 [(aI cap1)])]:=by
 unfold g_water_tide_1 at h
 refine Sound.of_runs (fu:=Try.f65) (c:=C_37 1) (nt:=12) (by kernel_rfl) (by kernel_rfl) (by kernel_rfl) (by kernel_rfl) (fun hm=>absurd hm (by decide)) ?_
 intro E hE
 refine Runs.sA 1 [.code (C_37 2),.code (C_37 3)] ?_
 refine Runs.sR hE ⟨[(0,(aI i)),(1,(.op 0 0 0)),(2,(.op 1 0 0))],[(0,vO 1 [(encL TMark.cells TMark.d cap0)]),(1,vO 1 [(aI cap1)])],18⟩ (C_37 2) [] [] (kp [0,1,2]) (kq [0,1]) 18 [] trivial ?_
 refine Runs.sA 1 [.code (C_37 6),.code (C_37 7)] ?_
 obtain ⟨c,h⟩:=ifSome h
 refine Runs.sR hE ⟨[(4,(aB (decide ((cap0.getD ((i).toNat) TMark.d).f_Minute > cap1))))],[(0,vO 1 [(encL TMark.cells TMark.d cap0)]),(1,vO 1 [(aI cap1)])],146⟩ (C_37 6) [] [] (kp [4]) (kq [0,1]) 146 [0 < 1,0≤i∧i < ((cap0.length:Nat):Int),0 < 1] ⟨o1,c,o1,trivial⟩ ?_
 obtain rfl:=Option.some.inj h
 refine Runs.sW hE ⟨[(4,(aB (decide ((cap0.getD ((i).toNat) TMark.d).f_Minute > cap1))))],[(0,vO 1 [(encL TMark.cells TMark.d cap0)]),(1,vO 1 [(aI cap1)])],146⟩ [] (kp [4]) (kq [0,1]) 146 [] trivial ?_
 exact Runs.sT Try.f65 [] [] trivial
noncomputable def C_36 (n:Nat):Code:=cat (bodyOf Try.f33) (pth n)
theorem g_sort_Search_L1_ok (N:Nat) (cap0:List TMark) (cap1:Int) (fuel:Nat):∀ (i:Int) (j:Int) (r:Int),g_sort_Search_L1 N cap0 cap1 fuel i j=some r→∀ E,EnvOk E 2→Runs Try.prog E 33 26 (SPost E [(0,vO 1 [(encL TMark.cells TMark.d cap0)]),(1,vO 1 [(aI cap1)])] (aI r)) [.code (C_36 56),.inLoop (C_36 56),.inBlock 0,.code (C_36 15)] ⟨[(1,(.fn (.func 65) [] [(.op 0 0 0),(.op 1 0 0)])),(5,(aI i)),(6,(aI j))],[(0,vO 1 [(encL TMark.cells TMark.d cap0)]),(1,vO 1 [(aI cap1)])],2⟩:=by
 induction fuel with
 | zero=>intro _ _ r h;rw [g_sort_Search_L1.eq_1] at h;cases h
 | succ fuel ih =>
  intro i j r h E hE
  rw [g_sort_Search_L1.eq_2] at h
  refine Runs.sA 2 [.code (C_36 224),.code (C_36 225),.code (C_36 113),.inLoop (C_36 56),.inBlock 0,.code (C_36 15)] ?_
  refine Runs.sR hE ⟨[(1,(.fn (.func 65) [] [(.op 0 0 0),(.op 1 0 0)])),(5,(aI i)),(6,(aI j)),(11,(aB (decide (i < j))))],[(0,vO 1 [(encL TMark.cells TMark.d cap0)]),(1,vO 1 [(aI cap1)])],50⟩ (C_36 224) [] [] (kp [1,5,6,11]) (kq [0,1]) 50 [] trivial ?_
  refine Runs.sC 11 (C_36 450) (C_36 451) (decide (i < j)) (fun hq2=>?_) (fun hq2=>?_)
  ·have h:=condT h hq2
   refine Runs.sA 3 [.code (C_36 452),.code (C_36 453),.inBlock 1,.inLoop (C_36 56),.inBlock 0,.code (C_36 15)] ?_
   refine Runs.sR hE ⟨[(1,(.fn (.func 65) [] [(.op 0 0 0),(.op 1 0 0)])),(5,(aI i)),(6,(aI j)),(7,(aI (w64 ((shrI .u64 (IntKind.u64.wrap ((w64 (i+j)))) 1)))))],[(0,vO 1 [(encL TMark.cells TMark.d cap0)]),(1,vO 1 [(aI cap1)])],162⟩ (C_36 452) [] [] (kp [1,5,6,7]) (kq [0,1]) 162 [(0:Int)≤1] ⟨(by decide),trivial⟩ ?_
   refine Runs.sA 1 [.code (C_36 906),.code (C_36 907),.inBlock 1,.inLoop (C_36 56),.inBlock 0,.code (C_36 15)] ?_
   obtain ⟨rtide1,hr,h⟩:=bindSome h
   refine Runs.sR hE ⟨[(1,(.fn (.func 65) [] [(.op 0 0 0),(.op 1 0 0)])),(5,(aI i)),(6,(aI j)),(7,(aI (w64 ((shrI .u64 (IntKind.u64.wrap ((w64 (i+j)))) 1))))),(21,(aB (!rtide1)))],[(0,vO 1 [(encL TMark.cells TMark.d cap0)]),(1,vO 1 [(aI cap1)])],226⟩ (C_36 906) [(2,⟨[0,1],true,(aB rtide1),[],0,false,none⟩)] [] (kp [1,5,6,7,21]) (kq [0,1]) 226 [Sound Try.prog 65 [(aI (w64 ((shrI .u64 (IntKind.u64.wrap ((w64 (i+j)))) 1)))),(.op 0 0 0),(.op 1 0 0)] [(0,vO 1 [(encL TMark.cells TMark.d cap0)]),(1,vO 1 [(aI cap1)])] 2 (aB rtide1) [(0,vO 1 [(encL TMark.cells TMark.d cap0)]),(1,vO 1 [(aI cap1)])]] ⟨(g_water_tide_1_ok N (w64 ((shrI .u64 (IntKind.u64.wrap ((w64 (i+j)))) 1))) cap0 cap1 rtide1 hr),trivial⟩ ?_
   refine Runs.sC 21 (C_36 1814) (C_36 1815) (!rtide1) (fun hq3=>?_) (fun hq3=>?_)
   ·have h:=condT h hq3
    refine Runs.sR hE ⟨[(1,(.fn (.func 65) [] [(.op 0 0 0),(.op 1 0 0)])),(5,(aI (w64 ((w64 ((shrI .u64 (IntKind.u64.wrap ((w64 (i+j)))) 1)))+1)))),(6,(aI j))],[(0,vO 1 [(encL TMark.cells TMark.d cap0)]),(1,vO 1 [(aI cap1)])],274⟩ (C_36 1814) [] [] (kp [1,5,6]) (kq [0,1]) 274 [] trivial ?_
    refine Runs.sA 2 [.code (C_36 56),.inLoop (C_36 56),.inBlock 0,.code (C_36 15)] ?_
    exact Runs.sW hE _ [] (kp [1,5,6]) (kq [0,1]) 2 [] trivial (ih (w64 ((w64 ((shrI .u64 (IntKind.u64.wrap ((w64 (i+j)))) 1)))+1)) j _ h E hE)
   ·have h:=condF h hq3
    refine Runs.sR hE ⟨[(1,(.fn (.func 65) [] [(.op 0 0 0),(.op 1 0 0)])),(5,(aI i)),(6,(aI (w64 ((shrI .u64 (IntKind.u64.wrap ((w64 (i+j)))) 1)))))],[(0,vO 1 [(encL TMark.cells TMark.d cap0)]),(1,vO 1 [(aI cap1)])],258⟩ (C_36 1815) [] [] (kp [1,5,6]) (kq [0,1]) 258 [] trivial ?_
    refine Runs.sA 2 [.code (C_36 56),.inLoop (C_36 56),.inBlock 0,.code (C_36 15)] ?_
    exact Runs.sW hE _ [] (kp [1,5,6]) (kq [0,1]) 2 [] trivial (ih i (w64 ((shrI .u64 (IntKind.u64.wrap ((w64 (i+j)))) 1))) _ h E hE)
  ·have h:=condF h hq2
   refine Runs.sA 2 [.code (C_36 30),.code (C_36 31)] ?_
   refine Runs.sR hE ⟨[(4,(aI i))],[(0,vO 1 [(encL TMark.cells TMark.d cap0)]),(1,vO 1 [(aI cap1)])],82⟩ (C_36 30) [] [] (kp [4]) (kq [0,1]) 82 [] trivial ?_
   obtain rfl:=Option.some.inj h
   refine Runs.sW hE ⟨[(4,(aI i))],[(0,vO 1 [(encL TMark.cells TMark.d cap0)]),(1,vO 1 [(aI cap1)])],82⟩ [] (kp [4]) (kq [0,1]) 82 [] trivial ?_
   exact Runs.sT Try.f33 [] [] trivial
theorem g_sort_Search_ok (N:Nat) (n:Int) (cap0:List TMark) (cap1:Int) (r:Int) (h:g_sort_Search N n cap0 cap1=some r):Sound Try.prog 33 [(aI n),(.fn (.func 65) [] [(.op 0 0 0),(.op 1 0 0)])] [(0,vO 1 [(encL TMark.cells TMark.d cap0)]),(1,vO 1 [(aI cap1)])] 2 (aI r) [(0,vO 1 [(encL TMark.cells TMark.d cap0)]),(1,vO 1 [(aI cap1)])]:=by
 unfold g_sort_Search at h
 refine Sound.of_runs (fu:=Try.f33) (c:=C_36 1) (nt:=26) (by kernel_rfl) (by kernel_rfl) (by kernel_rfl) (by kernel_rfl) (fun hm=>absurd hm (by decide)) ?_
 intro E hE
 refine Runs.sA 1 [.code (C_36 2),.code (C_36 3)] ?_
 refine Runs.sR hE ⟨[(0,(aI n)),(1,(.fn (.func 65) [] [(.op 0 0 0),(.op 1 0 0)]))],[(0,vO 1 [(encL TMark.cells TMark.d cap0)]),(1,vO 1 [(aI cap1)])],18⟩ (C_36 2) [] [] (kp [0,1]) (kq [0,1]) 18 [] trivial ?_
 refine Runs.sA 1 [.code (C_36 6),.code (C_36 7)] ?_
 refine Runs.sR hE ⟨[(1,(.fn (.func 65) [] [(.op 0 0 0),(.op 1 0 0)])),(5,(aI 0)),(6,(aI n))],[(0,vO 1 [(encL TMark.cells TMark.d cap0)]),(1,vO 1 [(aI cap1)])],66⟩ (C_36 6) [] [] (kp [1,5,6]) (kq [0,1]) 66 [] trivial ?_
 refine Runs.sA 3 [.code (C_36 56),.inLoop (C_36 56),.inBlock 0,.code (C_36 15)] ?_
 exact Runs.sW hE _ [] (kp [1,5,6]) (kq [0,1]) 2 [] trivial (g_sort_Search_L1_ok N cap0 cap1 N 0 n _ h E hE)
noncomputable def C_35 (n:Nat):Code:=cat (bodyOf Try.f30) (pth n)
theorem g_water_tide_J1_ok (N:Nat) (m:List TMark) (rSearch:Int) (down:Int) (r:Int) (h:g_water_tide_J1 N m rSearch down=some r):∀ E,EnvOk E 0→Runs Try.prog E 30 70 (SPost E [] (aI r)) [.code (C_35 510),.code (C_35 511)] ⟨[(6,(.op 0 0 0)),(10,(aI down))],[(0,vO 2 (TMark.cells (m.getD ((w64 (rSearch - 1)).toNat) TMark.d)))],1⟩:=by
 intro E hE
 unfold g_water_tide_J1 at h
 refine Runs.sR hE ⟨[(4,(aI (w64 ((m.getD ((w64 (rSearch - 1)).toNat) TMark.d).f_Level+down))))],[],81⟩ (C_35 510) [] [] (kp [4]) [] 81 [0 < 1] ⟨o1,trivial⟩ ?_
 obtain rfl:=Option.some.inj h
 refine Runs.sW hE ⟨[(4,(aI (w64 ((m.getD ((w64 (rSearch - 1)).toNat) TMark.d).f_Level+down))))],[],81⟩ [] (kp [4]) [] 81 [] trivial ?_
 exact Runs.sT Try.f30 [] [] trivial
theorem g_water_tide_ok (N:Nat) (m:List TMark) (minute:Int) (r:Int) (h:g_water_tide N m minute=some r):Sound Try.prog 30 [(encL TMark.cells TMark.d m),(aI minute)] [] 0 (aI r) []:=by
 unfold g_water_tide at h
 refine Sound.of_runs (fu:=Try.f30) (c:=C_35 1) (nt:=70) (by kernel_rfl) (by kernel_rfl) (by kernel_rfl) (by kernel_rfl) (fun hm=>rfl) ?_
 intro E hE
 refine Runs.sA 1 [.code (C_35 2),.code (C_35 3)] ?_
 refine Runs.sR hE ⟨[(2,(.op 0 0 0)),(3,(.op 16 0 0))],[(0,vO 1 [(encL TMark.cells TMark.d m)]),(16,vO 1 [(aI minute)])],48⟩ (C_35 2) [] [] (kp [2,3]) (kq [0,16]) 48 [] trivial ?_
 refine Runs.sA 1 [.code (C_35 6),.code (C_35 7)] ?_
 obtain ⟨rSearch,hr,h⟩:=bindSome h
 refine Runs.sR hE ⟨[(2,(.op 0 0 0)),(3,(.op 16 0 0)),(5,(aI rSearch))],[(0,vO 1 [(encL TMark.cells TMark.d m)]),(16,vO 1 [(aI minute)])],128⟩ (C_35 6) [(3,⟨[0,16],true,(aI rSearch),[],0,false,none⟩)] [] (kp [2,3,5]) (kq [0,16]) 128 [0 < 1,Sound Try.prog 33 [(aI ((m.length:Nat):Int)),(.fn (.func 65) [] [(.op 0 0 0),(.op 1 0 0)])] [(0,vO 1 [(encL TMark.cells TMark.d m)]),(1,vO 1 [(aI minute)])] 2 (aI rSearch) [(0,vO 1 [(encL TMark.cells TMark.d m)]),(1,vO 1 [(aI minute)])]] ⟨o1,(g_sort_Search_ok N ((m.length:Nat):Int) m minute rSearch hr),trivial⟩ ?_
 refine Runs.sA 3 [.code (C_35 56),.code (C_35 57),.inBlock 0,.code (C_35 15)] ?_
 refine Runs.sR hE ⟨[(2,(.op 0 0 0)),(3,(.op 16 0 0)),(5,(aI rSearch)),(15,(aB (rSearch == 0)))],[(0,vO 1 [(encL TMark.cells TMark.d m)]),(16,vO 1 [(aI minute)])],176⟩ (C_35 56) [] [] (kp [2,3,5,15]) (kq [0,16]) 176 [] trivial ?_
 refine Runs.sC 15 (C_35 114) (C_35 115) (rSearch == 0) (fun hq2=>?_) (fun hq2=>?_)
 ·have h:=condT h hq2
  refine Runs.sA 1 [.code (C_35 228),.code (C_35 229),.inBlock 0,.code (C_35 15)] ?_
  obtain ⟨c,h⟩:=ifSome h
  refine Runs.sR hE ⟨[(4,(aI ((m.getD 0 TMark.d).f_Level)))],[],256⟩ (C_35 228) [] [] (kp [4]) [] 256 [0 < 1,0≤(0:Int)∧0 < ((m.length:Nat):Int)] ⟨o1,c,trivial⟩ ?_
  obtain rfl:=Option.some.inj h
  refine Runs.sW hE ⟨[(4,(aI ((m.getD 0 TMark.d).f_Level)))],[],256⟩ [] (kp [4]) [] 256 [] trivial ?_
  exact Runs.sT Try.f30 [] [] trivial
 ·have h:=condF h hq2
  refine Runs.sA 1 [.code (C_35 230),.code (C_35 231),.inBlock 0,.code (C_35 15)] ?_
  refine Runs.sR hE ⟨[(2,(.op 0 0 0)),(3,(.op 16 0 0)),(5,(aI rSearch)),(22,(aB (rSearch == ((m.length:Nat):Int))))],[(0,vO 1 [(encL TMark.cells TMark.d m)]),(16,vO 1 [(aI minute)])],256⟩ (C_35 230) [] [] (kp [2,3,5,22]) (kq [0,16]) 256 [0 < 1] ⟨o1,trivial⟩ ?_
  refine Runs.sC 22 (C_35 462) (C_35 463) (rSearch == ((m.length:Nat):Int)) (fun hq3=>?_) (fun hq3=>?_)
  ·have h:=condT h hq3
   refine Runs.sA 1 [.code (C_35 924),.code (C_35 925),.inBlock 0,.code (C_35 15)] ?_
   obtain ⟨c2,h⟩:=ifSome h
   refine Runs.sR hE ⟨[(4,(aI ((m.getD ((w64 (rSearch - 1)).toNat) TMark.d).f_Level)))],[],368⟩ (C_35 924) [] [] (kp [4]) [] 368 [0 < 1,0≤(w64 (rSearch - 1))∧(w64 (rSearch - 1)) < ((m.length:Nat):Int)] ⟨o1,c2,trivial⟩ ?_
   obtain rfl:=Option.some.inj h
   refine Runs.sW hE ⟨[(4,(aI ((m.getD ((w64 (rSearch - 1)).toNat) TMark.d).f_Level)))],[],368⟩ [] (kp [4]) [] 368 [] trivial ?_
   exact Runs.sT Try.f30 [] [] trivial
  ·have h:=condF h hq3
   refine Runs.sA 3 [.code (C_35 30),.code (C_35 31)] ?_
   obtain ⟨c3,h⟩:=ifSome h
   obtain ⟨c4,h⟩:=ifSome h
   refine Runs.sR hE ⟨[(3,(.op 16 0 0)),(6,(.op 400 0 0)),(7,(.op 416 0 0))],[(16,vO 1 [(aI minute)]),(400,vO 2 (TMark.cells (m.getD ((w64 (rSearch - 1)).toNat) TMark.d))),(416,vO 2 (TMark.cells (m.getD ((rSearch).toNat) TMark.d)))],464⟩ (C_35 30) [] [] (kp [3,6,7]) (kq [16,400,416]) 464 [0 < 1,0≤(w64 (rSearch - 1))∧(w64 (rSearch - 1)) < ((m.length:Nat):Int),0 < 1,0≤rSearch∧rSearch < ((m.length:Nat):Int),0 < 1,0 < 1] ⟨o1,c3,o1,c4,o1,o1,trivial⟩ ?_
   refine Runs.sA 1 [.code (C_35 62),.code (C_35 63)] ?_
   refine Runs.sR hE ⟨[(6,(.op 400 0 0)),(8,(aI (w64 ((w64 ((m.getD ((rSearch).toNat) TMark.d).f_Level - (m.getD ((w64 (rSearch - 1)).toNat) TMark.d).f_Level)) * (w64 (minute - (m.getD ((w64 (rSearch - 1)).toNat) TMark.d).f_Minute)))))),(9,(aI (w64 ((m.getD ((rSearch).toNat) TMark.d).f_Minute - (m.getD ((w64 (rSearch - 1)).toNat) TMark.d).f_Minute))))],[(400,vO 2 (TMark.cells (m.getD ((w64 (rSearch - 1)).toNat) TMark.d)))],736⟩ (C_35 62) [] [] (kp [6,8,9]) (kq [400]) 736 [0 < 1,0 < 1,0 < 1,0 < 1,0 < 1,0 < 1] ⟨o1,o1,o1,o1,o1,o1,trivial⟩ ?_
   refine Runs.sA 1 [.code (C_35 126),.code (C_35 127)] ?_
   obtain ⟨c5,h⟩:=ifSome h
   refine Runs.sR hE ⟨[(6,(.op 400 0 0)),(8,(aI (w64 ((w64 ((m.getD ((rSearch).toNat) TMark.d).f_Level - (m.getD ((w64 (rSearch - 1)).toNat) TMark.d).f_Level)) * (w64 (minute - (m.getD ((w64 (rSearch - 1)).toNat) TMark.d).f_Minute)))))),(9,(aI (w64 ((m.getD ((rSearch).toNat) TMark.d).f_Minute - (m.getD ((w64 (rSearch - 1)).toNat) TMark.d).f_Minute)))),(10,(aI (w64 ((w64 ((w64 ((m.getD ((rSearch).toNat) TMark.d).f_Level - (m.getD ((w64 (rSearch - 1)).toNat) TMark.d).f_Level)) * (w64 (minute - (m.getD ((w64 (rSearch - 1)).toNat) TMark.d).f_Minute)))).tdiv (w64 ((m.getD ((rSearch).toNat) TMark.d).f_Minute - (m.getD ((w64 (rSearch - 1)).toNat) TMark.d).f_Minute))))))],[(400,vO 2 (TMark.cells (m.getD ((w64 (rSearch - 1)).toNat) TMark.d)))],800⟩ (C_35 126) [] [] (kp [6,8,9,10]) (kq [400]) 800 [((w64 ((m.getD ((rSearch).toNat) TMark.d).f_Minute - (m.getD ((w64 (rSearch - 1)).toNat) TMark.d).f_Minute)):Int)≠0] ⟨c5,trivial⟩ ?_
   refine Runs.sA 2 [.code (C_35 508),.code (C_35 509),.code (C_35 255)] ?_
   refine Runs.sR hE ⟨[(6,(.op 400 0 0)),(10,(aI (w64 ((w64 ((w64 ((m.getD ((rSearch).toNat) TMark.d).f_Level - (m.getD ((w64 (rSearch - 1)).toNat) TMark.d).f_Level)) * (w64 (minute - (m.getD ((w64 (rSearch - 1)).toNat) TMark.d).f_Minute)))).tdiv (w64 ((m.getD ((rSearch).toNat) TMark.d).f_Minute - (m.getD ((w64 (rSearch - 1)).toNat) TMark.d).f_Minute)))))),(63,(aB (decide (((w64 ((w64 ((m.getD ((rSearch).toNat) TMark.d).f_Level - (m.getD ((w64 (rSearch - 1)).toNat) TMark.d).f_Level)) * (w64 (minute - (m.getD ((w64 (rSearch - 1)).toNat) TMark.d).f_Minute)))).tmod (w64 ((m.getD ((rSearch).toNat) TMark.d).f_Minute - (m.getD ((w64 (rSearch - 1)).toNat) TMark.d).f_Minute))) < 0))))],[(400,vO 2 (TMark.cells (m.getD ((w64 (rSearch - 1)).toNat) TMark.d)))],864⟩ (C_35 508) [] [] (kp [6,10,63]) (kq [400]) 864 [((w64 ((m.getD ((rSearch).toNat) TMark.d).f_Minute - (m.getD ((w64 (rSearch - 1)).toNat) TMark.d).f_Minute)):Int)≠0] ⟨c5,trivial⟩ ?_
   refine Runs.sC 63 (C_35 1018) (C_35 1019) (decide (((w64 ((w64 ((m.getD ((rSearch).toNat) TMark.d).f_Level - (m.getD ((w64 (rSearch - 1)).toNat) TMark.d).f_Level)) * (w64 (minute - (m.getD ((w64 (rSearch - 1)).toNat) TMark.d).f_Minute)))).tmod (w64 ((m.getD ((rSearch).toNat) TMark.d).f_Minute - (m.getD ((w64 (rSearch - 1)).toNat) TMark.d).f_Minute))) < 0)) (fun hq4=>?_) (fun hq4=>?_)
   ·have h:=condT h hq4
    refine Runs.sR hE ⟨[(6,(.op 400 0 0)),(10,(aI (w64 ((w64 ((w64 ((w64 ((m.getD ((rSearch).toNat) TMark.d).f_Level - (m.getD ((w64 (rSearch - 1)).toNat) TMark.d).f_Level)) * (w64 (minute - (m.getD ((w64 (rSearch - 1)).toNat) TMark.d).f_Minute)))).tdiv (w64 ((m.getD ((rSearch).toNat) TMark.d).f_Minute - (m.getD ((w64 (rSearch - 1)).toNat) TMark.d).f_Minute)))) - 1))))],[(400,vO 2 (TMark.cells (m.getD ((w64 (rSearch - 1)).toNat) TMark.d)))],912⟩ (C_35 1018) [] [] (kp [6,10]) (kq [400]) 912 [] trivial ?_
    refine Runs.sA 1 [.code (C_35 510),.code (C_35 511)] ?_
    exact Runs.sW hE _ [] (kp [6,10]) [(0,.keep 400)] 1 [] trivial (g_water_tide_J1_ok N m rSearch (w64 ((w64 ((w64 ((w64 ((m.getD ((rSearch).toNat) TMark.d).f_Level - (m.getD ((w64 (rSearch - 1)).toNat) TMark.d).f_Level)) * (w64 (minute - (m.getD ((w64 (rSearch - 1)).toNat) TMark.d).f_Minute)))).tdiv (w64 ((m.getD ((rSearch).toNat) TMark.d).f_Minute - (m.getD ((w64 (rSearch - 1)).toNat) TMark.d).f_Minute)))) - 1)) _ h E hE)
   ·have h:=condF h hq4
    refine Runs.sA 2 [.code (C_35 510),.code (C_35 511)] ?_
    exact Runs.sW hE _ [] (kp [6,10]) [(0,.keep 400)] 1 [] trivial (g_water_tide_J1_ok N m rSearch (w64 ((w64 ((w64 ((m.getD ((rSearch).toNat) TMark.d).f_Level - (m.getD ((w64 (rSearch - 1)).toNat) TMark.d).f_Level)) * (w64 (minute - (m.getD ((w64 (rSearch - 1)).toNat) TMark.d).f_Minute)))).tdiv (w64 ((m.getD ((rSearch).toNat) TMark.d).f_Minute - (m.getD ((w64 (rSearch - 1)).toNat) TMark.d).f_Minute)))) _ h E hE)
noncomputable def C_34 (n:Nat):Code:=cat (bodyOf Try.f29) (pth n)
theorem g_water_Above_1_ok (N:Nat) (minute:Int) (cap0:List TMark) (cap1:Int) (r:Bool) (h:g_water_Above_1 N minute cap0 cap1=some r):Sound Try.prog 29 [(aI minute),(.op 0 0 0),(.op 1 0 0)] [(0,vO 1 [(encL TMark.cells TMark.d cap0)]),(1,vO 1 [(aI cap1)])] 2 (aB r) [(0,vO 1 [(encL TMark.cells TMark.d cap0)]),(1,vO 1 [(aI cap1)])]:=by
 unfold g_water_Above_1 at h
 refine Sound.of_runs (fu:=Try.f29) (c:=C_34 1) (nt:=10) (by kernel_rfl) (by kernel_rfl) (by kernel_rfl) (by kernel_rfl) (fun hm=>absurd hm (by decide)) ?_
 intro E hE
 refine Runs.sA 1 [.code (C_34 2),.code (C_34 3)] ?_
 refine Runs.sR hE ⟨[(0,(aI minute)),(1,(.op 0 0 0)),(2,(.op 1 0 0))],[(0,vO 1 [(encL TMark.cells TMark.d cap0)]),(1,vO 1 [(aI cap1)])],18⟩ (C_34 2) [] [] (kp [0,1,2]) (kq [0,1]) 18 [] trivial ?_
 refine Runs.sA 1 [.code (C_34 6),.code (C_34 7)] ?_
 obtain ⟨rtide,hr,h⟩:=bindSome h
 refine Runs.sR hE ⟨[(4,(aB (decide (rtide≥cap1))))],[(0,vO 1 [(encL TMark.cells TMark.d cap0)]),(1,vO 1 [(aI cap1)])],114⟩ (C_34 6) [(2,⟨[],true,(aI rtide),[],0,false,none⟩)] [] (kp [4]) (kq [0,1]) 114 [0 < 1,Sound Try.prog 30 [(encL TMark.cells TMark.d cap0),(aI minute)] [] 0 (aI rtide) [],0 < 1] ⟨o1,(g_water_tide_ok N cap0 minute rtide hr),o1,trivial⟩ ?_
 obtain rfl:=Option.some.inj h
 refine Runs.sW hE ⟨[(4,(aB (decide (rtide≥cap1))))],[(0,vO 1 [(encL TMark.cells TMark.d cap0)]),(1,vO 1 [(aI cap1)])],114⟩ [] (kp [4]) (kq [0,1]) 114 [] trivial ?_
 exact Runs.sT Try.f29 [] [] trivial
noncomputable def C_38 (n:Nat):Code:=cat (bodyOf Try.f32) (pth n)
theorem g_water_Above_2_ok (N:Nat) (a:Int) (b:Int) (cap1:List TS__2_int) (r:(List TS__2_int)) (h:g_water_Above_2 N a b cap1=some r):Sound Try.prog 32 [(aI a),(aI b),(.op 0 0 0)] [(0,vN 1 [(.os 1 0 cap1.length)]),(1,aO 2 TS__2_int.cells TS__2_int.d cap1)] 2 (.tup []) [(0,vN 1 [(.os 2 0 r.length)]),(2,aO 2 TS__2_int.cells TS__2_int.d r)]:=by
 unfold g_water_Above_2 at h
 refine Sound.of_runs (fu:=Try.f32) (c:=C_38 1) (nt:=33) (by kernel_rfl) (by kernel_rfl) (by kernel_rfl) (by kernel_rfl) (fun hm=>absurd hm (by decide)) ?_
 intro E hE
 refine Runs.sA 2 [.code (C_38 4),.code (C_38 5),.code (C_38 3)] ?_
 refine Runs.sR hE ⟨[(0,(aI a)),(1,(aI b)),(2,(.op 0 0 0)),(5,(aI ((cap1.length:Nat):Int)))],[(0,vN 1 [(.os 1 0 cap1.length)]),(1,aO 2 TS__2_int.cells TS__2_int.d cap1)],50⟩ (C_38 4) [] [] (kp [0,1,2,5]) (kq [0,1]) 50 [0 < 1] ⟨o1,trivial⟩ ?_
 refine Runs.sA 1 [.code (C_38 10),.code (C_38 11),.code (C_38 3)] ?_
 obtain ⟨c,h⟩:=ifSome h
 refine Runs.sR hE ⟨[(0,(aI a)),(1,(aI b)),(2,(.op 0 0 0)),(5,(aI ((cap1.length:Nat):Int))),(20,(aB (cond (decide (((cap1.length:Nat):Int) > 0)) (decide (a≤(w64 ((cap1.getD ((w64 (((cap1.length:Nat):Int) - 1)).toNat) TS__2_int.d).e1+1)))) false)))],[(0,vN 1 [(.os 1 0 cap1.length)]),(1,aO 2 TS__2_int.cells TS__2_int.d cap1)],258⟩ (C_38 10) [] [] (kp [0,1,2,5,20]) (kq [0,1]) 258 [(decide (((cap1.length:Nat):Int) > 0))=true→AllP [0 < 1],(decide (((cap1.length:Nat):Int) > 0))=true→AllP [(decide (((cap1.length:Nat):Int) > 0))=true],(decide (((cap1.length:Nat):Int) > 0))=true→AllP [(decide (((cap1.length:Nat):Int) > 0))=true,(decide (((cap1.length:Nat):Int) > 0))=true,0≤(w64 (((cap1.length:Nat):Int) - 1))∧(w64 (((cap1.length:Nat):Int) - 1)) < ((cap1.length:Nat):Int)],(decide (((cap1.length:Nat):Int) > 0))=true→AllP [(decide (((cap1.length:Nat):Int) > 0))=true,0≤(1:Int)∧(1:Int) < ((2:Nat):Int)],(decide (((cap1.length:Nat):Int) > 0))=true→AllP [(decide (((cap1.length:Nat):Int) > 0))=true,(w64 (((cap1.length:Nat):Int) - 1)).toNat < cap1.length],(decide (((cap1.length:Nat):Int) > 0))=true→AllP [(decide (((cap1.length:Nat):Int) > 0))=true],(decide (((cap1.length:Nat):Int) > 0))=true→AllP [(decide (((cap1.length:Nat):Int) > 0))=true,(decide (((cap1.length:Nat):Int) > 0))=true],(decide (((cap1.length:Nat):Int) > 0))=true→AllP [(decide (((cap1.length:Nat):Int) > 0))=true]] ⟨(fun hg=>⟨o1,trivial⟩),(fun hg=>⟨hg,trivial⟩),(fun hg=>⟨hg,hg,(c hg),trivial⟩),(fun hg=>⟨hg,(by decide),trivial⟩),(fun hg=>⟨hg,(ltOf (c hg)),trivial⟩),(fun hg=>⟨hg,trivial⟩),(fun hg=>⟨hg,hg,trivial⟩),(fun hq=>⟨hq,trivial⟩),trivial⟩ ?_
 refine Runs.sC 20 (C_38 22) (C_38 23) (cond (decide (((cap1.length:Nat):Int) > 0)) (decide (a≤(w64 ((cap1.getD ((w64 (((cap1.length:Nat):Int) - 1)).toNat) TS__2_int.d).e1+1)))) false) (fun hq2=>?_) (fun hq2=>?_)
 ·have h:=condT h hq2
  refine Runs.sA 1 [.code (C_38 44),.code (C_38 45),.code (C_38 3)] ?_
  obtain ⟨c2,h⟩:=ifSome h
  refine Runs.sR hE ⟨[],[(0,vN 1 [(.os 1 0 ((cap1.set ((w64 (((cap1.length:Nat):Int) - 1)).toNat) (⟨(cap1.getD ((w64 (((cap1.length:Nat):Int) - 1)).toNat) TS__2_int.d).e0,b⟩:TS__2_int)).length))]),(1,aO 2 TS__2_int.cells TS__2_int.d (cap1.set ((w64 (((cap1.length:Nat):Int) - 1)).toNat) (⟨(cap1.getD ((w64 (((cap1.length:Nat):Int) - 1)).toNat) TS__2_int.d).e0,b⟩:TS__2_int)))],370⟩ (C_38 44) [] [] [] [(0,.var 0 [.osl ((cap1.set ((w64 (((cap1.length:Nat):Int) - 1)).toNat) (⟨(cap1.getD ((w64 (((cap1.length:Nat):Int) - 1)).toNat) TS__2_int.d).e0,b⟩:TS__2_int)).length)]),(1,.arr 1 ((cap1.set ((w64 (((cap1.length:Nat):Int) - 1)).toNat) (⟨(cap1.getD ((w64 (((cap1.length:Nat):Int) - 1)).toNat) TS__2_int.d).e0,b⟩:TS__2_int)).length) (fun zi=>TS__2_int.cells ((cap1.set ((w64 (((cap1.length:Nat):Int) - 1)).toNat) (⟨(cap1.getD ((w64 (((cap1.length:Nat):Int) - 1)).toNat) TS__2_int.d).e0,b⟩:TS__2_int)).getD zi TS__2_int.d)))] 370 [0 < 1,0≤(w64 (((cap1.length:Nat):Int) - 1))∧(w64 (((cap1.length:Nat):Int) - 1)) < ((cap1.length:Nat):Int),0≤(1:Int)∧(1:Int) < ((2:Nat):Int),(w64 (((cap1.length:Nat):Int) - 1)).toNat < cap1.length,cap1.length=(cap1.set ((w64 (((cap1.length:Nat):Int) - 1)).toNat) (⟨(cap1.getD ((w64 (((cap1.length:Nat):Int) - 1)).toNat) TS__2_int.d).e0,b⟩:TS__2_int)).length,cap1.length=(cap1.set ((w64 (((cap1.length:Nat):Int) - 1)).toNat) (⟨(cap1.getD ((w64 (((cap1.length:Nat):Int) - 1)).toNat) TS__2_int.d).e0,b⟩:TS__2_int)).length,∀ zi,zi < (cap1.set ((w64 (((cap1.length:Nat):Int) - 1)).toNat) (⟨(cap1.getD ((w64 (((cap1.length:Nat):Int) - 1)).toNat) TS__2_int.d).e0,b⟩:TS__2_int)).length→(fun zi=>TS__2_int.cells ((cap1.set ((w64 (((cap1.length:Nat):Int) - 1)).toNat) (⟨(cap1.getD ((w64 (((cap1.length:Nat):Int) - 1)).toNat) TS__2_int.d).e0,b⟩:TS__2_int)).getD zi TS__2_int.d)) zi=((fun zm=>if zm=(w64 (((cap1.length:Nat):Int) - 1)).toNat then [(aI ((cap1.getD ((w64 (((cap1.length:Nat):Int) - 1)).toNat) TS__2_int.d).e0)),(aI b)] else (fun zi=>TS__2_int.cells (cap1.getD zi TS__2_int.d)) zm)) zi] ⟨o1,c2,(by decide),(ltOf c2),(len_set_raw rfl),(len_set_raw rfl),(get_set_raw TS__2_int.cells TS__2_int.d cap1 ((w64 (((cap1.length:Nat):Int) - 1)).toNat) (⟨(cap1.getD ((w64 (((cap1.length:Nat):Int) - 1)).toNat) TS__2_int.d).e0,b⟩:TS__2_int) (fun _ _=>rfl)),trivial⟩ ?_
  obtain rfl:=Option.some.inj h
  refine Runs.sW hE ⟨[],[(0,vN 1 [(.os 2 0 ((cap1.set ((w64 (((cap1.length:Nat):Int) - 1)).toNat) (⟨(cap1.getD ((w64 (((cap1.length:Nat):Int) - 1)).toNat) TS__2_int.d).e0,b⟩:TS__2_int)).length))]),(2,aO 2 TS__2_int.cells TS__2_int.d (cap1.set ((w64 (((cap1.length:Nat):Int) - 1)).toNat) (⟨(cap1.getD ((w64 (((cap1.length:Nat):Int) - 1)).toNat) TS__2_int.d).e0,b⟩:TS__2_int)))],370⟩ [] [] (kq [0] ++ [(2,.keep 1)]) 370 [] trivial ?_
  exact Runs.sT Try.f32 [] [] trivial
 ·have h:=condF h hq2
  refine Runs.sA 1 [.code (C_38 3)] ?_
  obtain ⟨c3,h⟩:=ifSome h
  refine Runs.sR hE ⟨[],[(0,vN 1 [(.os 338 0 ((cap1 ++ ([(⟨a,b⟩:TS__2_int)]:List TS__2_int)).length))]),(338,aO 2 TS__2_int.cells TS__2_int.d (cap1 ++ ([(⟨a,b⟩:TS__2_int)]:List TS__2_int)))],370⟩ (C_38 3) [] [] [] [(0,.var 0 [.osl ((cap1 ++ ([(⟨a,b⟩:TS__2_int)]:List TS__2_int)).length)]),(338,.arr 338 ((cap1 ++ ([(⟨a,b⟩:TS__2_int)]:List TS__2_int)).length) (fun zi=>TS__2_int.cells ((cap1 ++ ([(⟨a,b⟩:TS__2_int)]:List TS__2_int)).getD zi TS__2_int.d)))] 370 [0 < 1,cap1.length=cap1.length,(cap1.length+1) * 16≤140737488355328,0+1≤1,∀ zi,zi < 1→AV.oneL ((fun zi=>([[(aI a),(aI b)]]:List (List AV)).getD zi []) (addz 0 zi))=true,0 < 1,(cap1.length+1)=(cap1 ++ ([(⟨a,b⟩:TS__2_int)]:List TS__2_int)).length,cap1.length+1=(cap1 ++ ([(⟨a,b⟩:TS__2_int)]:List TS__2_int)).length,∀ zi,zi < (cap1 ++ ([(⟨a,b⟩:TS__2_int)]:List TS__2_int)).length→(fun zi=>TS__2_int.cells ((cap1 ++ ([(⟨a,b⟩:TS__2_int)]:List TS__2_int)).getD zi TS__2_int.d)) zi=((fun zm=>if zm < cap1.length then (fun zi=>TS__2_int.cells (cap1.getD zi TS__2_int.d)) zm else (fun zi=>([[(aI a),(aI b)]]:List (List AV)).getD zi []) (zm - cap1.length))) zi] ⟨o1,rfl,c3,z0,(oneN rfl),o1,(len_app_raw rfl rfl),(len_app_raw rfl rfl),(get_app_raw TS__2_int.cells TS__2_int.d cap1 ([(⟨a,b⟩:TS__2_int)]:List TS__2_int) rfl (fun _ _=>rfl) (fun zq hzq=>get_chunk TS__2_int.cells TS__2_int.d ([(⟨a,b⟩:TS__2_int)]:List TS__2_int) zq hzq)),trivial⟩ ?_
  obtain rfl:=Option.some.inj h
  refine Runs.sW hE ⟨[],[(0,vN 1 [(.os 2 0 ((cap1 ++ ([(⟨a,b⟩:TS__2_int)]:List TS__2_int)).length))]),(2,aO 2 TS__2_int.cells TS__2_int.d (cap1 ++ ([(⟨a,b⟩:TS__2_int)]:List TS__2_int)))],370⟩ [] [] (kq [0] ++ [(2,.keep 338)]) 370 [] trivial ?_
  exact Runs.sF Try.f32 [] [] trivial
noncomputable def C_40 (n:Nat):Code:=cat (bodyOf Try.f34) (pth n)
theorem g_water_Above_3_ok (N:Nat) (k:Int) (cap1:List TMark) (cap2:Int) (cap3:Int) (r:Bool) (h:g_water_Above_3 N k cap1 cap2 cap3=some r):Sound Try.prog 34 [(aI k),(.op 0 0 0),(.op 3 0 0)] [(0,vN 1 [(.fn (.func 29) [] [(.op 1 0 0),(.op 2 0 0)])]),(1,vO 1 [(encL TMark.cells TMark.d cap1)]),(2,vO 1 [(aI cap2)]),(3,vO 1 [(aI cap3)])] 4 (aB r) [(0,vN 1 [(.fn (.func 29) [] [(.op 1 0 0),(.op 2 0 0)])]),(1,vO 1 [(encL TMark.cells TMark.d cap1)]),(2,vO 1 [(aI cap2)]),(3,vO 1 [(aI cap3)])]:=by
 unfold g_water_Above_3 at h
 refine Sound.of_runs (fu:=Try.f34) (c:=C_40 1) (nt:=11) (by kernel_rfl) (by kernel_rfl) (by kernel_rfl) (by kernel_rfl) (fun hm=>absurd hm (by decide)) ?_
 intro E hE
 refine Runs.sA 1 [.code (C_40 2),.code (C_40 3)] ?_
 refine Runs.sR hE ⟨[(0,(aI k)),(1,(.op 0 0 0)),(2,(.op 3 0 0))],[(0,vN 1 [(.fn (.func 29) [] [(.op 1 0 0),(.op 2 0 0)])]),(1,vO 1 [(encL TMark.cells TMark.d cap1)]),(2,vO 1 [(aI cap2)]),(3,vO 1 [(aI cap3)])],20⟩ (C_40 2) [] [] (kp [0,1,2]) (kq [0,1,2,3]) 20 [] trivial ?_
 refine Runs.sA 1 [.code (C_40 6),.code (C_40 7)] ?_
 obtain ⟨rAbove1,hr,h⟩:=bindSome h
 refine Runs.sR hE ⟨[(4,(aB (!rAbove1)))],[(0,vN 1 [(.fn (.func 29) [] [(.op 1 0 0),(.op 2 0 0)])]),(1,vO 1 [(encL TMark.cells TMark.d cap1)]),(2,vO 1 [(aI cap2)]),(3,vO 1 [(aI cap3)])],132⟩ (C_40 6) [(4,⟨[1,2],true,(aB rAbove1),[],0,false,none⟩)] [] (kp [4]) (kq [0,1,2,3]) 132 [0 < 1,0 < 1,Sound Try.prog 29 [(aI (w64 (cap3+k))),(.op 0 0 0),(.op 1 0 0)] [(0,vO 1 [(encL TMark.cells TMark.d cap1)]),(1,vO 1 [(aI cap2)])] 2 (aB rAbove1) [(0,vO 1 [(encL TMark.cells TMark.d cap1)]),(1,vO 1 [(aI cap2)])]] ⟨o1,o1,(g_water_Above_1_ok N (w64 (cap3+k)) cap1 cap2 rAbove1 hr),trivial⟩ ?_
 obtain rfl:=Option.some.inj h
 refine Runs.sW hE ⟨[(4,(aB (!rAbove1)))],[(0,vN 1 [(.fn (.func 29) [] [(.op 1 0 0),(.op 2 0 0)])]),(1,vO 1 [(encL TMark.cells TMark.d cap1)]),(2,vO 1 [(aI cap2)]),(3,vO 1 [(aI cap3)])],132⟩ [] (kp [4]) (kq [0,1,2,3]) 132 [] trivial ?_
 exact Runs.sT Try.f34 [] [] trivial
noncomputable def C_39 (n:Nat):Code:=cat (bodyOf Try.f33) (pth n)
theorem g_sort_Search_v2_L1_ok (N:Nat) (cap1:List TMark) (cap2:Int) (cap3:Int) (fuel:Nat):∀ (i:Int) (j:Int) (r:Int),g_sort_Search_v2_L1 N cap1 cap2 cap3 fuel i j=some r→∀ E,EnvOk E 4→Runs Try.prog E 33 26 (SPost E [(0,vN 1 [(.fn (.func 29) [] [(.op 1 0 0),(.op 2 0 0)])]),(1,vO 1 [(encL TMark.cells TMark.d cap1)]),(2,vO 1 [(aI cap2)]),(3,vO 1 [(aI cap3)])] (aI r)) [.code (C_39 56),.inLoop (C_39 56),.inBlock 0,.code (C_39 15)] ⟨[(1,(.fn (.func 34) [] [(.op 0 0 0),(.op 3 0 0)])),(5,(aI i)),(6,(aI j))],[(0,vN 1 [(.fn (.func 29) [] [(.op 1 0 0),(.op 2 0 0)])]),(1,vO 1 [(encL TMark.cells TMark.d cap1)]),(2,vO 1 [(aI cap2)]),(3,vO 1 [(aI cap3)])],4⟩:=by
 induction fuel with
 | zero=>intro _ _ r h;rw [g_sort_Search_v2_L1.eq_1] at h;cases h
 | succ fuel ih =>
  intro i j r h E hE
  rw [g_sort_Search_v2_L1.eq_2] at h
  refine Runs.sA 2 [.code (C_39 224),.code (C_39 225),.code (C_39 113),.inLoop (C_39 56),.inBlock 0,.code (C_39 15)] ?_
  refine Runs.sR hE ⟨[(1,(.fn (.func 34) [] [(.op 0 0 0),(.op 3 0 0)])),(5,(aI i)),(6,(aI j)),(11,(aB (decide (i < j))))],[(0,vN 1 [(.fn (.func 29) [] [(.op 1 0 0),(.op 2 0 0)])]),(1,vO 1 [(encL TMark.cells TMark.d cap1)]),(2,vO 1 [(aI cap2)]),(3,vO 1 [(aI cap3)])],52⟩ (C_39 224) [] [] (kp [1,5,6,11]) (kq [0,1,2,3]) 52 [] trivial ?_
  refine Runs.sC 11 (C_39 450) (C_39 451) (decide (i < j)) (fun hq2=>?_) (fun hq2=>?_)
  ·have h:=condT h hq2
   refine Runs.sA 3 [.code (C_39 452),.code (C_39 453),.inBlock 1,.inLoop (C_39 56),.inBlock 0,.code (C_39 15)] ?_
   refine Runs.sR hE ⟨[(1,(.fn (.func 34) [] [(.op 0 0 0),(.op 3 0 0)])),(5,(aI i)),(6,(aI j)),(7,(aI (w64 ((shrI .u64 (IntKind.u64.wrap ((w64 (i+j)))) 1)))))],[(0,vN 1 [(.fn (.func 29) [] [(.op 1 0 0),(.op 2 0 0)])]),(1,vO 1 [(encL TMark.cells TMark.d cap1)]),(2,vO 1 [(aI cap2)]),(3,vO 1 [(aI cap3)])],164⟩ (C_39 452) [] [] (kp [1,5,6,7]) (kq [0,1,2,3]) 164 [(0:Int)≤1] ⟨(by decide),trivial⟩ ?_
   refine Runs.sA 1 [.code (C_39 906),.code (C_39 907),.inBlock 1,.inLoop (C_39 56),.inBlock 0,.code (C_39 15)] ?_
   obtain ⟨rAbove3,hr,h⟩:=bindSome h
   refine Runs.sR hE ⟨[(1,(.fn (.func 34) [] [(.op 0 0 0),(.op 3 0 0)])),(5,(aI i)),(6,(aI j)),(7,(aI (w64 ((shrI .u64 (IntKind.u64.wrap ((w64 (i+j)))) 1))))),(21,(aB (!rAbove3)))],[(0,vN 1 [(.fn (.func 29) [] [(.op 1 0 0),(.op 2 0 0)])]),(1,vO 1 [(encL TMark.cells TMark.d cap1)]),(2,vO 1 [(aI cap2)]),(3,vO 1 [(aI cap3)])],228⟩ (C_39 906) [(2,⟨[0,1,2,3],true,(aB rAbove3),[],0,false,none⟩)] [] (kp [1,5,6,7,21]) (kq [0,1,2,3]) 228 [Sound Try.prog 34 [(aI (w64 ((shrI .u64 (IntKind.u64.wrap ((w64 (i+j)))) 1)))),(.op 0 0 0),(.op 3 0 0)] [(0,vN 1 [(.fn (.func 29) [] [(.op 1 0 0),(.op 2 0 0)])]),(1,vO 1 [(encL TMark.cells TMark.d cap1)]),(2,vO 1 [(aI cap2)]),(3,vO 1 [(aI cap3)])] 4 (aB rAbove3) [(0,vN 1 [(.fn (.func 29) [] [(.op 1 0 0),(.op 2 0 0)])]),(1,vO 1 [(encL TMark.cells TMark.d cap1)]),(2,vO 1 [(aI cap2)]),(3,vO 1 [(aI cap3)])]] ⟨(g_water_Above_3_ok N (w64 ((shrI .u64 (IntKind.u64.wrap ((w64 (i+j)))) 1))) cap1 cap2 cap3 rAbove3 hr),trivial⟩ ?_
   refine Runs.sC 21 (C_39 1814) (C_39 1815) (!rAbove3) (fun hq3=>?_) (fun hq3=>?_)
   ·have h:=condT h hq3
    refine Runs.sR hE ⟨[(1,(.fn (.func 34) [] [(.op 0 0 0),(.op 3 0 0)])),(5,(aI (w64 ((w64 ((shrI .u64 (IntKind.u64.wrap ((w64 (i+j)))) 1)))+1)))),(6,(aI j))],[(0,vN 1 [(.fn (.func 29) [] [(.op 1 0 0),(.op 2 0 0)])]),(1,vO 1 [(encL TMark.cells TMark.d cap1)]),(2,vO 1 [(aI cap2)]),(3,vO 1 [(aI cap3)])],276⟩ (C_39 1814) [] [] (kp [1,5,6]) (kq [0,1,2,3]) 276 [] trivial ?_
    refine Runs.sA 2 [.code (C_39 56),.inLoop (C_39 56),.inBlock 0,.code (C_39 15)] ?_
    exact Runs.sW hE _ [] (kp [1,5,6]) (kq [0,1,2,3]) 4 [] trivial (ih (w64 ((w64 ((shrI .u64 (IntKind.u64.wrap ((w64 (i+j)))) 1)))+1)) j _ h E hE)
   ·have h:=condF h hq3
    refine Runs.sR hE ⟨[(1,(.fn (.func 34) [] [(.op 0 0 0),(.op 3 0 0)])),(5,(aI i)),(6,(aI (w64 ((shrI .u64 (IntKind.u64.wrap ((w64 (i+j)))) 1)))))],[(0,vN 1 [(.fn (.func 29) [] [(.op 1 0 0),(.op 2 0 0)])]),(1,vO 1 [(encL TMark.cells TMark.d cap1)]),(2,vO 1 [(aI cap2)]),(3,vO 1 [(aI cap3)])],260⟩ (C_39 1815) [] [] (kp [1,5,6]) (kq [0,1,2,3]) 260 [] trivial ?_
    refine Runs.sA 2 [.code (C_39 56),.inLoop (C_39 56),.inBlock 0,.code (C_39 15)] ?_
    exact Runs.sW hE _ [] (kp [1,5,6]) (kq [0,1,2,3]) 4 [] trivial (ih i (w64 ((shrI .u64 (IntKind.u64.wrap ((w64 (i+j)))) 1))) _ h E hE)
  ·have h:=condF h hq2
   refine Runs.sA 2 [.code (C_39 30),.code (C_39 31)] ?_
   refine Runs.sR hE ⟨[(4,(aI i))],[(0,vN 1 [(.fn (.func 29) [] [(.op 1 0 0),(.op 2 0 0)])]),(1,vO 1 [(encL TMark.cells TMark.d cap1)]),(2,vO 1 [(aI cap2)]),(3,vO 1 [(aI cap3)])],84⟩ (C_39 30) [] [] (kp [4]) (kq [0,1,2,3]) 84 [] trivial ?_
   obtain rfl:=Option.some.inj h
   refine Runs.sW hE ⟨[(4,(aI i))],[(0,vN 1 [(.fn (.func 29) [] [(.op 1 0 0),(.op 2 0 0)])]),(1,vO 1 [(encL TMark.cells TMark.d cap1)]),(2,vO 1 [(aI cap2)]),(3,vO 1 [(aI cap3)])],84⟩ [] (kp [4]) (kq [0,1,2,3]) 84 [] trivial ?_
   exact Runs.sT Try.f33 [] [] trivial
theorem g_sort_Search_v2_ok (N:Nat) (n:Int) (cap1:List TMark) (cap2:Int) (cap3:Int) (r:Int) (h:g_sort_Search_v2 N n cap1 cap2 cap3=some r):Sound Try.prog 33 [(aI n),(.fn (.func 34) [] [(.op 0 0 0),(.op 3 0 0)])] [(0,vN 1 [(.fn (.func 29) [] [(.op 1 0 0),(.op 2 0 0)])]),(1,vO 1 [(encL TMark.cells TMark.d cap1)]),(2,vO 1 [(aI cap2)]),(3,vO 1 [(aI cap3)])] 4 (aI r) [(0,vN 1 [(.fn (.func 29) [] [(.op 1 0 0),(.op 2 0 0)])]),(1,vO 1 [(encL TMark.cells TMark.d cap1)]),(2,vO 1 [(aI cap2)]),(3,vO 1 [(aI cap3)])]:=by
 unfold g_sort_Search_v2 at h
 refine Sound.of_runs (fu:=Try.f33) (c:=C_39 1) (nt:=26) (by kernel_rfl) (by kernel_rfl) (by kernel_rfl) (by kernel_rfl) (fun hm=>absurd hm (by decide)) ?_
 intro E hE
 refine Runs.sA 1 [.code (C_39 2),.code (C_39 3)] ?_
 refine Runs.sR hE ⟨[(0,(aI n)),(1,(.fn (.func 34) [] [(.op 0 0 0),(.op 3 0 0)]))],[(0,vN 1 [(.fn (.func 29) [] [(.op 1 0 0),(.op 2 0 0)])]),(1,vO 1 [(encL TMark.cells TMark.d cap1)]),(2,vO 1 [(aI cap2)]),(3,vO 1 [(aI cap3)])],20⟩ (C_39 2) [] [] (kp [0,1]) (kq [0,1,2,3]) 20 [] trivial ?_
 refine Runs.sA 1 [.code (C_39 6),.code (C_39 7)] ?_
 refine Runs.sR hE ⟨[(1,(.fn (.func 34) [] [(.op 0 0 0),(.op 3 0 0)])),(5,(aI 0)),(6,(aI n))],[(0,vN 1 [(.fn (.func 29) [] [(.op 1 0 0),(.op 2 0 0)])]),(1,vO 1 [(encL TMark.cells TMark.d cap1)]),(2,vO 1 [(aI cap2)]),(3,vO 1 [(aI cap3)])],68⟩ (C_39 6) [] [] (kp [1,5,6]) (kq [0,1,2,3]) 68 [] trivial ?_
 refine Runs.sA 3 [.code (C_39 56),.inLoop (C_39 56),.inBlock 0,.code (C_39 15)] ?_
 exact Runs.sW hE _ [] (kp [1,5,6]) (kq [0,1,2,3]) 4 [] trivial (g_sort_Search_v2_L1_ok N cap1 cap2 cap3 N 0 n _ h E hE)
noncomputable def C_42 (n:Nat):Code:=cat (bodyOf Try.f35) (pth n)
theorem g_water_Above_4_ok (N:Nat) (k:Int) (cap1:List TMark) (cap2:Int) (cap3:Int) (r:Bool) (h:g_water_Above_4 N k cap1 cap2 cap3=some r):Sound Try.prog 35 [(aI k),(.op 0 0 0),(.op 3 0 0)] [(0,vN 1 [(.fn (.func 29) [] [(.op 1 0 0),(.op 2 0 0)])]),(1,vO 1 [(encL TMark.cells TMark.d cap1)]),(2,vO 1 [(aI cap2)]),(3,vO 1 [(aI cap3)])] 4 (aB r) [(0,vN 1 [(.fn (.func 29) [] [(.op 1 0 0),(.op 2 0 0)])]),(1,vO 1 [(encL TMark.cells TMark.d cap1)]),(2,vO 1 [(aI cap2)]),(3,vO 1 [(aI cap3)])]:=by
 unfold g_water_Above_4 at h
 refine Sound.of_runs (fu:=Try.f35) (c:=C_42 1) (nt:=10) (by kernel_rfl) (by kernel_rfl) (by kernel_rfl) (by kernel_rfl) (fun hm=>absurd hm (by decide)) ?_
 intro E hE
 refine Runs.sA 1 [.code (C_42 2),.code (C_42 3)] ?_
 refine Runs.sR hE ⟨[(0,(aI k)),(1,(.op 0 0 0)),(2,(.op 3 0 0))],[(0,vN 1 [(.fn (.func 29) [] [(.op 1 0 0),(.op 2 0 0)])]),(1,vO 1 [(encL TMark.cells TMark.d cap1)]),(2,vO 1 [(aI cap2)]),(3,vO 1 [(aI cap3)])],20⟩ (C_42 2) [] [] (kp [0,1,2]) (kq [0,1,2,3]) 20 [] trivial ?_
 refine Runs.sA 1 [.code (C_42 6),.code (C_42 7)] ?_
 obtain ⟨rAbove1,hr,h⟩:=bindSome h
 refine Runs.sR hE ⟨[(4,(aB rAbove1))],[(0,vN 1 [(.fn (.func 29) [] [(.op 1 0 0),(.op 2 0 0)])]),(1,vO 1 [(encL TMark.cells TMark.d cap1)]),(2,vO 1 [(aI cap2)]),(3,vO 1 [(aI cap3)])],116⟩ (C_42 6) [(4,⟨[1,2],true,(aB rAbove1),[],0,false,none⟩)] [] (kp [4]) (kq [0,1,2,3]) 116 [0 < 1,0 < 1,Sound Try.prog 29 [(aI (w64 (cap3+k))),(.op 0 0 0),(.op 1 0 0)] [(0,vO 1 [(encL TMark.cells TMark.d cap1)]),(1,vO 1 [(aI cap2)])] 2 (aB rAbove1) [(0,vO 1 [(encL TMark.cells TMark.d cap1)]),(1,vO 1 [(aI cap2)])]] ⟨o1,o1,(g_water_Above_1_ok N (w64 (cap3+k)) cap1 cap2 rAbove1 hr),trivial⟩ ?_
 obtain rfl:=Option.some.inj h
 refine Runs.sW hE ⟨[(4,(aB rAbove1))],[(0,vN 1 [(.fn (.func 29) [] [(.op 1 0 0),(.op 2 0 0)])]),(1,vO 1 [(encL TMark.cells TMark.d cap1)]),(2,vO 1 [(aI cap2)]),(3,vO 1 [(aI cap3)])],116⟩ [] (kp [4]) (kq [0,1,2,3]) 116 [] trivial ?_
 exact Runs.sT Try.f35 [] [] trivial
noncomputable def C_41 (n:Nat):Code:=cat (bodyOf Try.f33) (pth n)
theorem g_sort_Search_v3_L1_ok (N:Nat) (cap1:List TMark) (cap2:Int) (cap3:Int) (fuel:Nat):∀ (i:Int) (j:Int) (r:Int),g_sort_Search_v3_L1 N cap1 cap2 cap3 fuel i j=some r→∀ E,EnvOk E 4→Runs Try.prog E 33 26 (SPost E [(0,vN 1 [(.fn (.func 29) [] [(.op 1 0 0),(.op 2 0 0)])]),(1,vO 1 [(encL TMark.cells TMark.d cap1)]),(2,vO 1 [(aI cap2)]),(3,vO 1 [(aI cap3)])] (aI r)) [.code (C_41 56),.inLoop (C_41 56),.inBlock 0,.code (C_41 15)] ⟨[(1,(.fn (.func 35) [] [(.op 0 0 0),(.op 3 0 0)])),(5,(aI i)),(6,(aI j))],[(0,vN 1 [(.fn (.func 29) [] [(.op 1 0 0),(.op 2 0 0)])]),(1,vO 1 [(encL TMark.cells TMark.d cap1)]),(2,vO 1 [(aI cap2)]),(3,vO 1 [(aI cap3)])],4⟩:=by
 induction fuel with
 | zero=>intro _ _ r h;rw [g_sort_Search_v3_L1.eq_1] at h;cases h
 | succ fuel ih =>
  intro i j r h E hE
  rw [g_sort_Search_v3_L1.eq_2] at h
  refine Runs.sA 2 [.code (C_41 224),.code (C_41 225),.code (C_41 113),.inLoop (C_41 56),.inBlock 0,.code (C_41 15)] ?_
  refine Runs.sR hE ⟨[(1,(.fn (.func 35) [] [(.op 0 0 0),(.op 3 0 0)])),(5,(aI i)),(6,(aI j)),(11,(aB (decide (i < j))))],[(0,vN 1 [(.fn (.func 29) [] [(.op 1 0 0),(.op 2 0 0)])]),(1,vO 1 [(encL TMark.cells TMark.d cap1)]),(2,vO 1 [(aI cap2)]),(3,vO 1 [(aI cap3)])],52⟩ (C_41 224) [] [] (kp [1,5,6,11]) (kq [0,1,2,3]) 52 [] trivial ?_
  refine Runs.sC 11 (C_41 450) (C_41 451) (decide (i < j)) (fun hq2=>?_) (fun hq2=>?_)
  ·have h:=condT h hq2
   refine Runs.sA 3 [.code (C_41 452),.code (C_41 453),.inBlock 1,.inLoop (C_41 56),.inBlock 0,.code (C_41 15)] ?_
   refine Runs.sR hE ⟨[(1,(.fn (.func 35) [] [(.op 0 0 0),(.op 3 0 0)])),(5,(aI i)),(6,(aI j)),(7,(aI (w64 ((shrI .u64 (IntKind.u64.wrap ((w64 (i+j)))) 1)))))],[(0,vN 1 [(.fn (.func 29) [] [(.op 1 0 0),(.op 2 0 0)])]),(1,vO 1 [(encL TMark.cells TMark.d cap1)]),(2,vO 1 [(aI cap2)]),(3,vO 1 [(aI cap3)])],164⟩ (C_41 452) [] [] (kp [1,5,6,7]) (kq [0,1,2,3]) 164 [(0:Int)≤1] ⟨(by decide),trivial⟩ ?_
   refine Runs.sA 1 [.code (C_41 906),.code (C_41 907),.inBlock 1,.inLoop (C_41 56),.inBlock 0,.code (C_41 15)] ?_
   obtain ⟨rAbove4,hr,h⟩:=bindSome h
   refine Runs.sR hE ⟨[(1,(.fn (.func 35) [] [(.op 0 0 0),(.op 3 0 0)])),(5,(aI i)),(6,(aI j)),(7,(aI (w64 ((shrI .u64 (IntKind.u64.wrap ((w64 (i+j)))) 1))))),(21,(aB (!rAbove4)))],[(0,vN 1 [(.fn (.func 29) [] [(.op 1 0 0),(.op 2 0 0)])]),(1,vO 1 [(encL TMark.cells TMark.d cap1)]),(2,vO 1 [(aI cap2)]),(3,vO 1 [(aI cap3)])],228⟩ (C_41 906) [(2,⟨[0,1,2,3],true,(aB rAbove4),[],0,false,none⟩)] [] (kp [1,5,6,7,21]) (kq [0,1,2,3]) 228 [Sound Try.prog 35 [(aI (w64 ((shrI .u64 (IntKind.u64.wrap ((w64 (i+j)))) 1)))),(.op 0 0 0),(.op 3 0 0)] [(0,vN 1 [(.fn (.func 29) [] [(.op 1 0 0),(.op 2 0 0)])]),(1,vO 1 [(encL TMark.cells TMark.d cap1)]),(2,vO 1 [(aI cap2)]),(3,vO 1 [(aI cap3)])] 4 (aB rAbove4) [(0,vN 1 [(.fn (.func 29) [] [(.op 1 0 0),(.op 2 0 0)])]),(1,vO 1 [(encL TMark.cells TMark.d cap1)]),(2,vO 1 [(aI cap2)]),(3,vO 1 [(aI cap3)])]] ⟨(g_water_Above_4_ok N (w64 ((shrI .u64 (IntKind.u64.wrap ((w64 (i+j)))) 1))) cap1 cap2 cap3 rAbove4 hr),trivial⟩ ?_
   refine Runs.sC 21 (C_41 1814) (C_41 1815) (!rAbove4) (fun hq3=>?_) (fun hq3=>?_)
   ·have h:=condT h hq3
    refine Runs.sR hE ⟨[(1,(.fn (.func 35) [] [(.op 0 0 0),(.op 3 0 0)])),(5,(aI (w64 ((w64 ((shrI .u64 (IntKind.u64.wrap ((w64 (i+j)))) 1)))+1)))),(6,(aI j))],[(0,vN 1 [(.fn (.func 29) [] [(.op 1 0 0),(.op 2 0 0)])]),(1,vO 1 [(encL TMark.cells TMark.d cap1)]),(2,vO 1 [(aI cap2)]),(3,vO 1 [(aI cap3)])],276⟩ (C_41 1814) [] [] (kp [1,5,6]) (kq [0,1,2,3]) 276 [] trivial ?_
    refine Runs.sA 2 [.code (C_41 56),.inLoop (C_41 56),.inBlock 0,.code (C_41 15)] ?_
    exact Runs.sW hE _ [] (kp [1,5,6]) (kq [0,1,2,3]) 4 [] trivial (ih (w64 ((w64 ((shrI .u64 (IntKind.u64.wrap ((w64 (i+j)))) 1)))+1)) j _ h E hE)
   ·have h:=condF h hq3
    refine Runs.sR hE ⟨[(1,(.fn (.func 35) [] [(.op 0 0 0),(.op 3 0 0)])),(5,(aI i)),(6,(aI (w64 ((shrI .u64 (IntKind.u64.wrap ((w64 (i+j)))) 1)))))],[(0,vN 1 [(.fn (.func 29) [] [(.op 1 0 0),(.op 2 0 0)])]),(1,vO 1 [(encL TMark.cells TMark.d cap1)]),(2,vO 1 [(aI cap2)]),(3,vO 1 [(aI cap3)])],260⟩ (C_41 1815) [] [] (kp [1,5,6]) (kq [0,1,2,3]) 260 [] trivial ?_
    refine Runs.sA 2 [.code (C_41 56),.inLoop (C_41 56),.inBlock 0,.code (C_41 15)] ?_
    exact Runs.sW hE _ [] (kp [1,5,6]) (kq [0,1,2,3]) 4 [] trivial (ih i (w64 ((shrI .u64 (IntKind.u64.wrap ((w64 (i+j)))) 1))) _ h E hE)
  ·have h:=condF h hq2
   refine Runs.sA 2 [.code (C_41 30),.code (C_41 31)] ?_
   refine Runs.sR hE ⟨[(4,(aI i))],[(0,vN 1 [(.fn (.func 29) [] [(.op 1 0 0),(.op 2 0 0)])]),(1,vO 1 [(encL TMark.cells TMark.d cap1)]),(2,vO 1 [(aI cap2)]),(3,vO 1 [(aI cap3)])],84⟩ (C_41 30) [] [] (kp [4]) (kq [0,1,2,3]) 84 [] trivial ?_
   obtain rfl:=Option.some.inj h
   refine Runs.sW hE ⟨[(4,(aI i))],[(0,vN 1 [(.fn (.func 29) [] [(.op 1 0 0),(.op 2 0 0)])]),(1,vO 1 [(encL TMark.cells TMark.d cap1)]),(2,vO 1 [(aI cap2)]),(3,vO 1 [(aI cap3)])],84⟩ [] (kp [4]) (kq [0,1,2,3]) 84 [] trivial ?_
   exact Runs.sT Try.f33 [] [] trivial
theorem g_sort_Search_v3_ok (N:Nat) (n:Int) (cap1:List TMark) (cap2:Int) (cap3:Int) (r:Int) (h:g_sort_Search_v3 N n cap1 cap2 cap3=some r):Sound Try.prog 33 [(aI n),(.fn (.func 35) [] [(.op 0 0 0),(.op 3 0 0)])] [(0,vN 1 [(.fn (.func 29) [] [(.op 1 0 0),(.op 2 0 0)])]),(1,vO 1 [(encL TMark.cells TMark.d cap1)]),(2,vO 1 [(aI cap2)]),(3,vO 1 [(aI cap3)])] 4 (aI r) [(0,vN 1 [(.fn (.func 29) [] [(.op 1 0 0),(.op 2 0 0)])]),(1,vO 1 [(encL TMark.cells TMark.d cap1)]),(2,vO 1 [(aI cap2)]),(3,vO 1 [(aI cap3)])]:=by
 unfold g_sort_Search_v3 at h
 refine Sound.of_runs (fu:=Try.f33) (c:=C_41 1) (nt:=26) (by kernel_rfl) (by kernel_rfl) (by kernel_rfl) (by kernel_rfl) (fun hm=>absurd hm (by decide)) ?_
 intro E hE
 refine Runs.sA 1 [.code (C_41 2),.code (C_41 3)] ?_
 refine Runs.sR hE ⟨[(0,(aI n)),(1,(.fn (.func 35) [] [(.op 0 0 0),(.op 3 0 0)]))],[(0,vN 1 [(.fn (.func 29) [] [(.op 1 0 0),(.op 2 0 0)])]),(1,vO 1 [(encL TMark.cells TMark.d cap1)]),(2,vO 1 [(aI cap2)]),(3,vO 1 [(aI cap3)])],20⟩ (C_41 2) [] [] (kp [0,1]) (kq [0,1,2,3]) 20 [] trivial ?_
 refine Runs.sA 1 [.code (C_41 6),.code (C_41 7)] ?_
 refine Runs.sR hE ⟨[(1,(.fn (.func 35) [] [(.op 0 0 0),(.op 3 0 0)])),(5,(aI 0)),(6,(aI n))],[(0,vN 1 [(.fn (.func 29) [] [(.op 1 0 0),(.op 2 0 0)])]),(1,vO 1 [(encL TMark.cells TMark.d cap1)]),(2,vO 1 [(aI cap2)]),(3,vO 1 [(aI cap3)])],68⟩ (C_41 6) [] [] (kp [1,5,6]) (kq [0,1,2,3]) 68 [] trivial ?_
 refine Runs.sA 3 [.code (C_41 56),.inLoop (C_41 56),.inBlock 0,.code (C_41 15)] ?_
 exact Runs.sW hE _ [] (kp [1,5,6]) (kq [0,1,2,3]) 4 [] trivial (g_sort_Search_v3_L1_ok N cap1 cap2 cap3 N 0 n _ h E hE)
noncomputable def C_12 (n:Nat):Code:=cat (bodyOf Try.f7) (pth n)
theorem g_water_Above_J2_ok (N:Nat) (m:List TMark) (level:Int) (vfrom:Int) (vto:Int) (x:Int) (K_g_water_Above_L1:(List Int)→Int→Option ((List TS__2_int)×Int))
  (hK_g_water_Above_L1:∀ (corners:List Int) (x:Int) (r:(List TS__2_int)×Int),K_g_water_Above_L1 corners x=some r→∀ E,EnvOk E 0→Runs Try.prog E 7 128 (SPost E [] (.tup [(encL TS__2_int.cells TS__2_int.d r.1),(aI r.2)])) [.code (C_12 1012),.inLoop (C_12 1012),.inBlock 1,.code (C_12 127)] ⟨[(2,(aI vfrom)),(3,(aI vto)),(11,(.op 0 0 0)),(12,(.os 3 0 corners.length)),(47,(encL TMark.cells TMark.d m)),(48,(aI ((m.length:Nat):Int))),(49,(aI x))],[(0,vN 1 [(.fn (.func 29) [] [(.op 1 0 0),(.op 2 0 0)])]),(1,vO 1 [(encL TMark.cells TMark.d m)]),(2,vO 1 [(aI level)]),(3,aO 1 cI 0 corners)],4⟩) (corners2:List Int) (r:(List TS__2_int)×Int) (h:g_water_Above_J2 N m level vfrom vto x K_g_water_Above_L1 corners2=some r):∀ E,EnvOk E 0→Runs Try.prog E 7 128 (SPost E [] (.tup [(encL TS__2_int.cells TS__2_int.d r.1),(aI r.2)])) [.code (C_12 8103),.inLoop (C_12 1012),.inBlock 1,.code (C_12 127)] ⟨[(2,(aI vfrom)),(3,(aI vto)),(11,(.op 0 0 0)),(12,(.os 3 0 corners2.length)),(47,(encL TMark.cells TMark.d m)),(48,(aI ((m.length:Nat):Int))),(49,(aI x))],[(0,vN 1 [(.fn (.func 29) [] [(.op 1 0 0),(.op 2 0 0)])]),(1,vO 1 [(encL TMark.cells TMark.d m)]),(2,vO 1 [(aI level)]),(3,aO 1 cI 0 corners2)],4⟩:=by
 intro E hE
 unfold g_water_Above_J2 at h
 refine Runs.sR hE ⟨[(2,(aI vfrom)),(3,(aI vto)),(11,(.op 0 0 0)),(12,(.os 3 0 corners2.length)),(47,(encL TMark.cells TMark.d m)),(48,(aI ((m.length:Nat):Int))),(49,(aI (w64 (x+1))))],[(0,vN 1 [(.fn (.func 29) [] [(.op 1 0 0),(.op 2 0 0)])]),(1,vO 1 [(encL TMark.cells TMark.d m)]),(2,vO 1 [(aI level)]),(3,aO 1 cI 0 corners2)],36⟩ (C_12 8103) [] [] (kp [2,3,11,12,47,48,49]) (kq [0,1,2,3]) 36 [] trivial ?_
 refine Runs.sA 1 [.code (C_12 1012),.inLoop (C_12 1012),.inBlock 1,.code (C_12 127)] ?_
 exact Runs.sW hE _ [] (kp [2,3,11,12,47,48,49]) (kq [0,1,2,3]) 4 [] trivial (hK_g_water_Above_L1 corners2 (w64 (x+1)) _ h E hE)
theorem g_water_Above_J4_ok (N:Nat) (m:List TMark) (level:Int) (rSort:(List Int)) (x2:Int) (K_g_water_Above_L3:(List TS__2_int)→Int→Option ((List TS__2_int)×Int))
  (hK_g_water_Above_L3:∀ (out:List TS__2_int) (x2:Int) (r:(List TS__2_int)×Int),K_g_water_Above_L3 out x2=some r→∀ E,EnvOk E 0→Runs Try.prog E 7 128 (SPost E [] (.tup [(encL TS__2_int.cells TS__2_int.d r.1),(aI r.2)])) [.code (C_12 16372),.inLoop (C_12 16372),.inBlock 3,.code (C_12 2047)] ⟨[(11,(.op 0 0 0)),(12,(.os 3 0 rSort.length)),(15,(.op 4 0 0)),(16,(.fn (.func 32) [] [(.op 4 0 0)])),(73,(.os 3 1 (rSort.length - 1))),(74,(aI (((rSort.length - 1):Nat):Int))),(75,(aI x2))],[(0,vN 1 [(.fn (.func 29) [] [(.op 1 0 0),(.op 2 0 0)])]),(1,vO 1 [(encL TMark.cells TMark.d m)]),(2,vO 1 [(aI level)]),(3,aO 1 cI 0 rSort),(4,vN 1 [(.os 5 0 out.length)]),(5,aO 2 TS__2_int.cells TS__2_int.d out)],6⟩) (out2:List TS__2_int) (r:(List TS__2_int)×Int) (h:g_water_Above_J4 N m level rSort x2 K_g_water_Above_L3 out2=some r):∀ E,EnvOk E 0→Runs Try.prog E 7 128 (SPost E [] (.tup [(encL TS__2_int.cells TS__2_int.d r.1),(aI r.2)])) [.code (C_12 130983),.inLoop (C_12 16372),.inBlock 3,.code (C_12 2047)] ⟨[(11,(.op 0 0 0)),(12,(.os 3 0 rSort.length)),(15,(.op 4 0 0)),(16,(.fn (.func 32) [] [(.op 4 0 0)])),(73,(.os 3 1 (rSort.length - 1))),(74,(aI (((rSort.length - 1):Nat):Int))),(75,(aI x2))],[(0,vN 1 [(.fn (.func 29) [] [(.op 1 0 0),(.op 2 0 0)])]),(1,vO 1 [(encL TMark.cells TMark.d m)]),(2,vO 1 [(aI level)]),(3,aO 1 cI 0 rSort),(4,vN 1 [(.os 5 0 out2.length)]),(5,aO 2 TS__2_int.cells TS__2_int.d out2)],6⟩:=by
 intro E hE
 unfold g_water_Above_J4 at h
 refine Runs.sR hE ⟨[(11,(.op 0 0 0)),(12,(.os 3 0 rSort.length)),(15,(.op 4 0 0)),(16,(.fn (.func 32) [] [(.op 4 0 0)])),(73,(.os 3 1 (rSort.length - 1))),(74,(aI (((rSort.length - 1):Nat):Int))),(75,(aI (w64 (x2+1))))],[(0,vN 1 [(.fn (.func 29) [] [(.op 1 0 0),(.op 2 0 0)])]),(1,vO 1 [(encL TMark.cells TMark.d m)]),(2,vO 1 [(aI level)]),(3,aO 1 cI 0 rSort),(4,vN 1 [(.os 5 0 out2.length)]),(5,aO 2 TS__2_int.cells TS__2_int.d out2)],38⟩ (C_12 130983) [] [] (kp [11,12,15,16,73,74,75]) (kq [0,1,2,3,4,5]) 38 [] trivial ?_
 refine Runs.sA 1 [.code (C_12 16372),.inLoop (C_12 16372),.inBlock 3,.code (C_12 2047)] ?_
 exact Runs.sW hE _ [] (kp [11,12,15,16,73,74,75]) (kq [0,1,2,3,4,5]) 6 [] trivial (hK_g_water_Above_L3 out2 (w64 (x2+1)) _ h E hE)
theorem g_water_Above_L3_ok (N:Nat) (m:List TMark) (level:Int) (rSort:(List Int)) (fuel:Nat):∀ (out:List TS__2_int) (x2:Int) (r:(List TS__2_int)×Int),g_water_Above_L3 N m level rSort fuel out x2=some r→∀ E,EnvOk E 0→Runs Try.prog E 7 128 (SPost E [] (.tup [(encL TS__2_int.cells TS__2_int.d r.1),(aI r.2)])) [.code (C_12 16372),.inLoop (C_12 16372),.inBlock 3,.code (C_12 2047)] ⟨[(11,(.op 0 0 0)),(12,(.os 3 0 rSort.length)),(15,(.op 4 0 0)),(16,(.fn (.func 32) [] [(.op 4 0 0)])),(73,(.os 3 1 (rSort.length - 1))),(74,(aI (((rSort.length - 1):Nat):Int))),(75,(aI x2))],[(0,vN 1 [(.fn (.func 29) [] [(.op 1 0 0),(.op 2 0 0)])]),(1,vO 1 [(encL TMark.cells TMark.d m)]),(2,vO 1 [(aI level)]),(3,aO 1 cI 0 rSort),(4,vN 1 [(.os 5 0 out.length)]),(5,aO 2 TS__2_int.cells TS__2_int.d out)],6⟩:=by
 induction fuel with
 | zero=>intro _ _ r h;rw [g_water_Above_L3.eq_1] at h;cases h
 | succ fuel ih =>
  intro out x2 r h E hE
  rw [g_water_Above_L3.eq_2] at h
  refine Runs.sA 1 [.code (C_12 32744),.code (C_12 32745),.inLoop (C_12 16372),.inBlock 3,.code (C_12 2047)] ?_
  refine Runs.sR hE ⟨[(11,(.op 0 0 0)),(12,(.os 3 0 rSort.length)),(15,(.op 4 0 0)),(16,(.fn (.func 32) [] [(.op 4 0 0)])),(73,(.os 3 1 (rSort.length - 1))),(74,(aI (((rSort.length - 1):Nat):Int))),(75,(aI x2)),(76,(aB (decide (x2 < (((rSort.length - 1):Nat):Int)))))],[(0,vN 1 [(.fn (.func 29) [] [(.op 1 0 0),(.op 2 0 0)])]),(1,vO 1 [(encL TMark.cells TMark.d m)]),(2,vO 1 [(aI level)]),(3,aO 1 cI 0 rSort),(4,vN 1 [(.os 5 0 out.length)]),(5,aO 2 TS__2_int.cells TS__2_int.d out)],22⟩ (C_12 32744) [] [] (kp [11,12,15,16,73,74,75,76]) (kq [0,1,2,3,4,5]) 22 [] trivial ?_
  refine Runs.sA 1 [.code (C_12 65490),.code (C_12 65491),.inLoop (C_12 16372),.inBlock 3,.code (C_12 2047)] ?_
  refine Runs.sC 76 (C_12 130980) (C_12 130981) (decide (x2 < (((rSort.length - 1):Nat):Int))) (fun hq7=>?_) (fun hq7=>?_)
  ·have h:=condT h hq7
   refine Runs.sA 4 [.code (C_12 523928),.code (C_12 523929),.inBlock 4,.code (C_12 130983),.inLoop (C_12 16372),.inBlock 3,.code (C_12 2047)] ?_
   obtain ⟨c5,h⟩:=ifSome h
   obtain ⟨c6,h⟩:=ifSome h
   refine Runs.sR hE ⟨[(11,(.op 0 0 0)),(12,(.os 3 0 rSort.length)),(15,(.op 4 0 0)),(16,(.fn (.func 32) [] [(.op 4 0 0)])),(17,(aI x2)),(18,(aI (rSort.getD (addz 1 (x2).toNat) 0))),(73,(.os 3 1 (rSort.length - 1))),(74,(aI (((rSort.length - 1):Nat):Int))),(75,(aI x2))],[(0,vN 1 [(.fn (.func 29) [] [(.op 1 0 0),(.op 2 0 0)])]),(1,vO 1 [(encL TMark.cells TMark.d m)]),(2,vO 1 [(aI level)]),(3,aO 1 cI 0 rSort),(4,vN 1 [(.os 5 0 out.length)]),(5,aO 2 TS__2_int.cells TS__2_int.d out)],102⟩ (C_12 523928) [] [] (kp [11,12,15,16,17,18,73,74,75]) (kq [0,1,2,3,4,5]) 102 [0≤x2∧x2 < (((rSort.length - 1):Nat):Int),(addz 1 (x2).toNat) < rSort.length] ⟨c5,(by have h1:=c5;have h2:=c6;simp only [addz_eq];omega),trivial⟩ ?_
   refine Runs.sA 1 [.code (C_12 1047858),.code (C_12 1047859),.inBlock 4,.code (C_12 130983),.inLoop (C_12 16372),.inBlock 3,.code (C_12 2047)] ?_
   obtain ⟨c7,h⟩:=ifSome h
   refine Runs.sR hE ⟨[(11,(.op 0 0 0)),(12,(.os 3 0 rSort.length)),(15,(.op 4 0 0)),(16,(.fn (.func 32) [] [(.op 4 0 0)])),(18,(aI (rSort.getD (addz 1 (x2).toNat) 0))),(19,(.op 166 0 0)),(73,(.os 3 1 (rSort.length - 1))),(74,(aI (((rSort.length - 1):Nat):Int))),(75,(aI x2))],[(0,vN 1 [(.fn (.func 29) [] [(.op 1 0 0),(.op 2 0 0)])]),(1,vO 1 [(encL TMark.cells TMark.d m)]),(2,vO 1 [(aI level)]),(3,aO 1 cI 0 rSort),(4,vN 1 [(.os 5 0 out.length)]),(5,aO 2 TS__2_int.cells TS__2_int.d out),(166,vO 1 [(aI (rSort.getD ((x2).toNat) 0))])],198⟩ (C_12 1047858) [] [] (kp [11,12,15,16,18,19,73,74,75]) (kq [0,1,2,3,4,5,166]) 198 [0≤x2∧x2 < ((rSort.length:Nat):Int),(x2).toNat < rSort.length,0 < 1] ⟨c7,(ltOf c7),o1,trivial⟩ ?_
   refine Runs.sA 2 [.code (C_12 4191436),.code (C_12 4191437),.inBlock 5,.inBlock 4,.code (C_12 130983),.inLoop (C_12 16372),.inBlock 3,.code (C_12 2047)] ?_
   obtain ⟨rAbove1,hr5,h⟩:=bindSome h
   obtain ⟨rAbove12,hr6,h⟩:=bindSome h
   refine Runs.sR hE ⟨[(11,(.op 0 0 0)),(12,(.os 3 0 rSort.length)),(15,(.op 4 0 0)),(16,(.fn (.func 32) [] [(.op 4 0 0)])),(18,(aI (rSort.getD (addz 1 (x2).toNat) 0))),(19,(.op 166 0 0)),(73,(.os 3 1 (rSort.length - 1))),(74,(aI (((rSort.length - 1):Nat):Int))),(75,(aI x2)),(84,(aB (cond rAbove1 rAbove12 false)))],[(0,vN 1 [(.fn (.func 29) [] [(.op 1 0 0),(.op 2 0 0)])]),(1,vO 1 [(encL TMark.cells TMark.d m)]),(2,vO 1 [(aI level)]),(3,aO 1 cI 0 rSort),(4,vN 1 [(.os 5 0 out.length)]),(5,aO 2 TS__2_int.cells TS__2_int.d out),(166,vO 1 [(aI (rSort.getD ((x2).toNat) 0))])],342⟩ (C_12 4191436) [(2,⟨[1,2],true,(aB rAbove1),[],0,false,none⟩),(6,⟨[1,2],true,(aB rAbove12),[],0,false,none⟩)] [] (kp [11,12,15,16,18,19,73,74,75,84]) (kq [0,1,2,3,4,5,166]) 342 [0 < 1,0 < 1,Sound Try.prog 29 [(aI (rSort.getD ((x2).toNat) 0)),(.op 0 0 0),(.op 1 0 0)] [(0,vO 1 [(encL TMark.cells TMark.d m)]),(1,vO 1 [(aI level)])] 2 (aB rAbove1) [(0,vO 1 [(encL TMark.cells TMark.d m)]),(1,vO 1 [(aI level)])],rAbove1=true→AllP [0 < 1],rAbove1=true→AllP [Sound Try.prog 29 [(aI (rSort.getD (addz 1 (x2).toNat) 0)),(.op 0 0 0),(.op 1 0 0)] [(0,vO 1 [(encL TMark.cells TMark.d m)]),(1,vO 1 [(aI level)])] 2 (aB rAbove12) [(0,vO 1 [(encL TMark.cells TMark.d m)]),(1,vO 1 [(aI level)])],rAbove1=true,rAbove1=true],rAbove1=true→AllP [rAbove1=true]] ⟨o1,o1,(g_water_Above_1_ok N (rSort.getD ((x2).toNat) 0) m level rAbove1 hr5),(fun hg=>⟨o1,trivial⟩),(fun hg=>⟨(g_water_Above_1_ok N (rSort.getD (addz 1 (x2).toNat) 0) m level rAbove12 (condT hr6 hg)),hg,hg,trivial⟩),(fun hq=>⟨hq,trivial⟩),trivial⟩ ?_
   refine Runs.sC 84 (C_12 8382874) (C_12 8382875) (cond rAbove1 rAbove12 false) (fun hq8=>?_) (fun hq8=>?_)
   ·have h:=condT h hq8
    obtain ⟨rAbove2,hr7,h⟩:=bindSome h
    refine Runs.sR hE ⟨[(11,(.op 0 0 0)),(12,(.os 3 0 rSort.length)),(15,(.op 4 0 0)),(16,(.fn (.func 32) [] [(.op 4 0 0)])),(73,(.os 3 1 (rSort.length - 1))),(74,(aI (((rSort.length - 1):Nat):Int))),(75,(aI x2))],[(0,vN 1 [(.fn (.func 29) [] [(.op 1 0 0),(.op 2 0 0)])]),(1,vO 1 [(encL TMark.cells TMark.d m)]),(2,vO 1 [(aI level)]),(3,aO 1 cI 0 rSort),(4,vN 1 [(.os 390 0 rAbove2.length)]),(390,aO 2 TS__2_int.cells TS__2_int.d rAbove2)],406⟩ (C_12 8382874) [(3,⟨[4,5],false,(.tup []),[(0,vN 1 [(.os 2 0 rAbove2.length)]),(2,aO 2 TS__2_int.cells TS__2_int.d rAbove2)],0,false,none⟩)] [] (kp [11,12,15,16,73,74,75]) (kq [0,1,2,3,4,390]) 406 [0 < 1,Sound Try.prog 32 [(aI (rSort.getD ((x2).toNat) 0)),(aI (rSort.getD (addz 1 (x2).toNat) 0)),(.op 0 0 0)] [(0,vN 1 [(.os 1 0 out.length)]),(1,aO 2 TS__2_int.cells TS__2_int.d out)] 2 (.tup []) [(0,vN 1 [(.os 2 0 rAbove2.length)]),(2,aO 2 TS__2_int.cells TS__2_int.d rAbove2)]] ⟨o1,(g_water_Above_2_ok N (rSort.getD ((x2).toNat) 0) (rSort.getD (addz 1 (x2).toNat) 0) out rAbove2 hr7),trivial⟩ ?_
    refine Runs.sA 2 [.code (C_12 130983),.inLoop (C_12 16372),.inBlock 3,.code (C_12 2047)] ?_
    exact Runs.sW hE _ [] (kp [11,12,15,16,73,74,75]) (kq [0,1,2,3,4] ++ [(5,.keep 390)]) 6 [] trivial (g_water_Above_J4_ok N m level rSort x2 (g_water_Above_L3 N m level rSort fuel) ih rAbove2 _ h E hE)
   ·have h:=condF h hq8
    refine Runs.sA 1 [.code (C_12 16765750),.code (C_12 16765751),.inBlock 5,.inBlock 4,.code (C_12 130983),.inLoop (C_12 16372),.inBlock 3,.code (C_12 2047)] ?_
    obtain ⟨rAbove13,hr8,h⟩:=bindSome h
    refine Runs.sR hE ⟨[(11,(.op 0 0 0)),(12,(.os 3 0 rSort.length)),(15,(.op 4 0 0)),(16,(.fn (.func 32) [] [(.op 4 0 0)])),(18,(aI (rSort.getD (addz 1 (x2).toNat) 0))),(19,(.op 166 0 0)),(73,(.os 3 1 (rSort.length - 1))),(74,(aI (((rSort.length - 1):Nat):Int))),(75,(aI x2)),(97,(aB rAbove13))],[(0,vN 1 [(.fn (.func 29) [] [(.op 1 0 0),(.op 2 0 0)])]),(1,vO 1 [(encL TMark.cells TMark.d m)]),(2,vO 1 [(aI level)]),(3,aO 1 cI 0 rSort),(4,vN 1 [(.os 5 0 out.length)]),(5,aO 2 TS__2_int.cells TS__2_int.d out),(166,vO 1 [(aI (rSort.getD ((x2).toNat) 0))])],406⟩ (C_12 16765750) [(2,⟨[1,2],true,(aB rAbove13),[],0,false,none⟩)] [] (kp [11,12,15,16,18,19,73,74,75,97]) (kq [0,1,2,3,4,5,166]) 406 [0 < 1,0 < 1,Sound Try.prog 29 [(aI (rSort.getD ((x2).toNat) 0)),(.op 0 0 0),(.op 1 0 0)] [(0,vO 1 [(encL TMark.cells TMark.d m)]),(1,vO 1 [(aI level)])] 2 (aB rAbove13) [(0,vO 1 [(encL TMark.cells TMark.d m)]),(1,vO 1 [(aI level)])]] ⟨o1,o1,(g_water_Above_1_ok N (rSort.getD ((x2).toNat) 0) m level rAbove13 hr8),trivial⟩ ?_
    refine Runs.sC 97 (C_12 33531502) (C_12 33531503) rAbove13 (fun hq9=>?_) (fun hq9=>?_)
    ·have h:=condT h hq9
     obtain ⟨rSearch,hr9,h⟩:=bindSome h
     obtain ⟨rAbove22,hr10,h⟩:=bindSome h
     refine Runs.sR hE ⟨[(11,(.op 0 0 0)),(12,(.os 3 0 rSort.length)),(15,(.op 4 0 0)),(16,(.fn (.func 32) [] [(.op 4 0 0)])),(73,(.os 3 1 (rSort.length - 1))),(74,(aI (((rSort.length - 1):Nat):Int))),(75,(aI x2))],[(0,vN 1 [(.fn (.func 29) [] [(.op 1 0 0),(.op 2 0 0)])]),(1,vO 1 [(encL TMark.cells TMark.d m)]),(2,vO 1 [(aI level)]),(3,aO 1 cI 0 rSort),(4,vN 1 [(.os 566 0 rAbove22.length)]),(566,aO 2 TS__2_int.cells TS__2_int.d rAbove22)],582⟩ (C_12 33531502) [(8,⟨[0,1,2,166],true,(aI rSearch),[],0,false,none⟩),(10,⟨[4,5],false,(.tup []),[(0,vN 1 [(.os 2 0 rAbove22.length)]),(2,aO 2 TS__2_int.cells TS__2_int.d rAbove22)],0,false,none⟩)] [] (kp [11,12,15,16,73,74,75]) (kq [0,1,2,3,4,566]) 582 [0 < 1,0 < 1,0 < 1,Sound Try.prog 33 [(aI (w64 ((rSort.getD (addz 1 (x2).toNat) 0) - (rSort.getD ((x2).toNat) 0)))),(.fn (.func 34) [] [(.op 0 0 0),(.op 3 0 0)])] [(0,vN 1 [(.fn (.func 29) [] [(.op 1 0 0),(.op 2 0 0)])]),(1,vO 1 [(encL TMark.cells TMark.d m)]),(2,vO 1 [(aI level)]),(3,vO 1 [(aI (rSort.getD ((x2).toNat) 0))])] 4 (aI rSearch) [(0,vN 1 [(.fn (.func 29) [] [(.op 1 0 0),(.op 2 0 0)])]),(1,vO 1 [(encL TMark.cells TMark.d m)]),(2,vO 1 [(aI level)]),(3,vO 1 [(aI (rSort.getD ((x2).toNat) 0))])],Sound Try.prog 32 [(aI (rSort.getD ((x2).toNat) 0)),(aI (w64 ((w64 ((rSort.getD ((x2).toNat) 0) - 1))+rSearch))),(.op 0 0 0)] [(0,vN 1 [(.os 1 0 out.length)]),(1,aO 2 TS__2_int.cells TS__2_int.d out)] 2 (.tup []) [(0,vN 1 [(.os 2 0 rAbove22.length)]),(2,aO 2 TS__2_int.cells TS__2_int.d rAbove22)]] ⟨o1,o1,o1,(g_sort_Search_v2_ok N (w64 ((rSort.getD (addz 1 (x2).toNat) 0) - (rSort.getD ((x2).toNat) 0))) m level (rSort.getD ((x2).toNat) 0) rSearch hr9),(g_water_Above_2_ok N (rSort.getD ((x2).toNat) 0) (w64 ((w64 ((rSort.getD ((x2).toNat) 0) - 1))+rSearch)) out rAbove22 hr10),trivial⟩ ?_
     refine Runs.sA 2 [.code (C_12 130983),.inLoop (C_12 16372),.inBlock 3,.code (C_12 2047)] ?_
     exact Runs.sW hE _ [] (kp [11,12,15,16,73,74,75]) (kq [0,1,2,3,4] ++ [(5,.keep 566)]) 6 [] trivial (g_water_Above_J4_ok N m level rSort x2 (g_water_Above_L3 N m level rSort fuel) ih rAbove22 _ h E hE)
    ·have h:=condF h hq9
     refine Runs.sA 1 [.code (C_12 67063006),.code (C_12 67063007),.inBlock 5,.inBlock 4,.code (C_12 130983),.inLoop (C_12 16372),.inBlock 3,.code (C_12 2047)] ?_
     obtain ⟨rAbove14,hr11,h⟩:=bindSome h
     refine Runs.sR hE ⟨[(11,(.op 0 0 0)),(12,(.os 3 0 rSort.length)),(15,(.op 4 0 0)),(16,(.fn (.func 32) [] [(.op 4 0 0)])),(18,(aI (rSort.getD (addz 1 (x2).toNat) 0))),(19,(.op 166 0 0)),(73,(.os 3 1 (rSort.length - 1))),(74,(aI (((rSort.length - 1):Nat):Int))),(75,(aI x2)),(112,(aB rAbove14))],[(0,vN 1 [(.fn (.func 29) [] [(.op 1 0 0),(.op 2 0 0)])]),(1,vO 1 [(encL TMark.cells TMark.d m)]),(2,vO 1 [(aI level)]),(3,aO 1 cI 0 rSort),(4,vN 1 [(.os 5 0 out.length)]),(5,aO 2 TS__2_int.cells TS__2_int.d out),(166,vO 1 [(aI (rSort.getD ((x2).toNat) 0))])],470⟩ (C_12 67063006) [(2,⟨[1,2],true,(aB rAbove14),[],0,false,none⟩)] [] (kp [11,12,15,16,18,19,73,74,75,112]) (kq [0,1,2,3,4,5,166]) 470 [0 < 1,Sound Try.prog 29 [(aI (rSort.getD (addz 1 (x2).toNat) 0)),(.op 0 0 0),(.op 1 0 0)] [(0,vO 1 [(encL TMark.cells TMark.d m)]),(1,vO 1 [(aI level)])] 2 (aB rAbove14) [(0,vO 1 [(encL TMark.cells TMark.d m)]),(1,vO 1 [(aI level)])]] ⟨o1,(g_water_Above_1_ok N (rSort.getD (addz 1 (x2).toNat) 0) m level rAbove14 hr11),trivial⟩ ?_
     refine Runs.sC 112 (C_12 134126014) (C_12 134126015) rAbove14 (fun hq10=>?_) (fun hq10=>?_)
     ·have h:=condT h hq10
      obtain ⟨rSearch2,hr12,h⟩:=bindSome h
      obtain ⟨rAbove23,hr13,h⟩:=bindSome h
      refine Runs.sR hE ⟨[(11,(.op 0 0 0)),(12,(.os 3 0 rSort.length)),(15,(.op 4 0 0)),(16,(.fn (.func 32) [] [(.op 4 0 0)])),(73,(.os 3 1 (rSort.length - 1))),(74,(aI (((rSort.length - 1):Nat):Int))),(75,(aI x2))],[(0,vN 1 [(.fn (.func 29) [] [(.op 1 0 0),(.op 2 0 0)])]),(1,vO 1 [(encL TMark.cells TMark.d m)]),(2,vO 1 [(aI level)]),(3,aO 1 cI 0 rSort),(4,vN 1 [(.os 614 0 rAbove23.length)]),(614,aO 2 TS__2_int.cells TS__2_int.d rAbove23)],630⟩ (C_12 134126014) [(6,⟨[0,1,2,166],true,(aI rSearch2),[],0,false,none⟩),(9,⟨[4,5],false,(.tup []),[(0,vN 1 [(.os 2 0 rAbove23.length)]),(2,aO 2 TS__2_int.cells TS__2_int.d rAbove23)],0,false,none⟩)] [] (kp [11,12,15,16,73,74,75]) (kq [0,1,2,3,4,614]) 630 [0 < 1,0 < 1,Sound Try.prog 33 [(aI (w64 ((rSort.getD (addz 1 (x2).toNat) 0) - (rSort.getD ((x2).toNat) 0)))),(.fn (.func 35) [] [(.op 0 0 0),(.op 3 0 0)])] [(0,vN 1 [(.fn (.func 29) [] [(.op 1 0 0),(.op 2 0 0)])]),(1,vO 1 [(encL TMark.cells TMark.d m)]),(2,vO 1 [(aI level)]),(3,vO 1 [(aI (rSort.getD ((x2).toNat) 0))])] 4 (aI rSearch2) [(0,vN 1 [(.fn (.func 29) [] [(.op 1 0 0),(.op 2 0 0)])]),(1,vO 1 [(encL TMark.cells TMark.d m)]),(2,vO 1 [(aI level)]),(3,vO 1 [(aI (rSort.getD ((x2).toNat) 0))])],Sound Try.prog 32 [(aI (w64 ((rSort.getD ((x2).toNat) 0)+rSearch2))),(aI (rSort.getD (addz 1 (x2).toNat) 0)),(.op 0 0 0)] [(0,vN 1 [(.os 1 0 out.length)]),(1,aO 2 TS__2_int.cells TS__2_int.d out)] 2 (.tup []) [(0,vN 1 [(.os 2 0 rAbove23.length)]),(2,aO 2 TS__2_int.cells TS__2_int.d rAbove23)]] ⟨o1,o1,(g_sort_Search_v3_ok N (w64 ((rSort.getD (addz 1 (x2).toNat) 0) - (rSort.getD ((x2).toNat) 0))) m level (rSort.getD ((x2).toNat) 0) rSearch2 hr12),(g_water_Above_2_ok N (w64 ((rSort.getD ((x2).toNat) 0)+rSearch2)) (rSort.getD (addz 1 (x2).toNat) 0) out rAbove23 hr13),trivial⟩ ?_
      refine Runs.sA 2 [.code (C_12 130983),.inLoop (C_12 16372),.inBlock 3,.code (C_12 2047)] ?_
      exact Runs.sW hE _ [] (kp [11,12,15,16,73,74,75]) (kq [0,1,2,3,4] ++ [(5,.keep 614)]) 6 [] trivial (g_water_Above_J4_ok N m level rSort x2 (g_water_Above_L3 N m level rSort fuel) ih rAbove23 _ h E hE)
     ·have h:=condF h hq10
      refine Runs.sA 3 [.code (C_12 130983),.inLoop (C_12 16372),.inBlock 3,.code (C_12 2047)] ?_
      exact Runs.sW hE _ [] (kp [11,12,15,16,73,74,75]) (kq [0,1,2,3,4,5]) 6 [] trivial (g_water_Above_J4_ok N m level rSort x2 (g_water_Above_L3 N m level rSort fuel) ih out _ h E hE)
  ·have h:=condF h hq7
   refine Runs.sA 2 [.code (C_12 4094),.code (C_12 4095)] ?_
   refine Runs.sR hE ⟨[(8,(.os 5 0 out.length)),(9,(aI 0))],[(5,aO 2 TS__2_int.cells TS__2_int.d out)],70⟩ (C_12 4094) [] [] (kp [8,9]) (kq [5]) 70 [0 < 1] ⟨o1,trivial⟩ ?_
   obtain rfl:=Option.some.inj h
   refine Runs.sW hE ⟨[(8,(encL TS__2_int.cells TS__2_int.d out)),(9,(aI 0))],[],70⟩ [5] ([(8,.sl (out.length) (fun zi=>TS__2_int.cells (out.getD zi TS__2_int.d)))] ++ kp [9]) [] 70 [out.length=out.length,0+out.length≤out.length,∀ zi,zi < out.length→(fun zi=>TS__2_int.cells (out.getD zi TS__2_int.d)) zi=(fun zi=>TS__2_int.cells (out.getD zi TS__2_int.d)) (addz 0 zi)] ⟨rfl,z0,(fun _ _=>rfl),trivial⟩ ?_
   exact Runs.sT Try.f7 [] [] trivial
theorem g_water_Above_L1_ok (N:Nat) (m:List TMark) (level:Int) (vfrom:Int) (vto:Int) (fuel:Nat):∀ (corners:List Int) (x:Int) (r:(List TS__2_int)×Int),g_water_Above_L1 N m level vfrom vto fuel corners x=some r→∀ E,EnvOk E 0→Runs Try.prog E 7 128 (SPost E [] (.tup [(encL TS__2_int.cells TS__2_int.d r.1),(aI r.2)])) [.code (C_12 1012),.inLoop (C_12 1012),.inBlock 1,.code (C_12 127)] ⟨[(2,(aI vfrom)),(3,(aI vto)),(11,(.op 0 0 0)),(12,(.os 3 0 corners.length)),(47,(encL TMark.cells TMark.d m)),(48,(aI ((m.length:Nat):Int))),(49,(aI x))],[(0,vN 1 [(.fn (.func 29) [] [(.op 1 0 0),(.op 2 0 0)])]),(1,vO 1 [(encL TMark.cells TMark.d m)]),(2,vO 1 [(aI level)]),(3,aO 1 cI 0 corners)],4⟩:=by
 induction fuel with
 | zero=>intro _ _ r h;rw [g_water_Above_L1.eq_1] at h;cases h
 | succ fuel ih =>
  intro corners x r h E hE
  rw [g_water_Above_L1.eq_2] at h
  refine Runs.sA 1 [.code (C_12 2024),.code (C_12 2025),.inLoop (C_12 1012),.inBlock 1,.code (C_12 127)] ?_
  refine Runs.sR hE ⟨[(2,(aI vfrom)),(3,(aI vto)),(11,(.op 0 0 0)),(12,(.os 3 0 corners.length)),(47,(encL TMark.cells TMark.d m)),(48,(aI ((m.length:Nat):Int))),(49,(aI x)),(50,(aB (decide (x < ((m.length:Nat):Int)))))],[(0,vN 1 [(.fn (.func 29) [] [(.op 1 0 0),(.op 2 0 0)])]),(1,vO 1 [(encL TMark.cells TMark.d m)]),(2,vO 1 [(aI level)]),(3,aO 1 cI 0 corners)],20⟩ (C_12 2024) [] [] (kp [2,3,11,12,47,48,49,50]) (kq [0,1,2,3]) 20 [] trivial ?_
  refine Runs.sA 1 [.code (C_12 4050),.code (C_12 4051),.inLoop (C_12 1012),.inBlock 1,.code (C_12 127)] ?_
  refine Runs.sC 50 (C_12 8100) (C_12 8101) (decide (x < ((m.length:Nat):Int))) (fun hq5=>?_) (fun hq5=>?_)
  ·have h:=condT h hq5
   refine Runs.sA 4 [.code (C_12 32408),.code (C_12 32409),.inBlock 2,.code (C_12 8103),.inLoop (C_12 1012),.inBlock 1,.code (C_12 127)] ?_
   obtain ⟨c,h⟩:=ifSome h
   refine Runs.sR hE ⟨[(2,(aI vfrom)),(3,(aI vto)),(11,(.op 0 0 0)),(12,(.os 3 0 corners.length)),(14,(.op 52 0 0)),(47,(encL TMark.cells TMark.d m)),(48,(aI ((m.length:Nat):Int))),(49,(aI x))],[(0,vN 1 [(.fn (.func 29) [] [(.op 1 0 0),(.op 2 0 0)])]),(1,vO 1 [(encL TMark.cells TMark.d m)]),(2,vO 1 [(aI level)]),(3,aO 1 cI 0 corners),(52,vO 2 (TMark.cells (m.getD ((x).toNat) TMark.d)))],84⟩ (C_12 32408) [] [] (kp [2,3,11,12,14,47,48,49]) (kq [0,1,2,3,52]) 84 [0≤x∧x < ((m.length:Nat):Int),0 < 1] ⟨c,o1,trivial⟩ ?_
   refine Runs.sA 1 [.code (C_12 64818),.code (C_12 64819),.inBlock 2,.code (C_12 8103),.inLoop (C_12 1012),.inBlock 1,.code (C_12 127)] ?_
   refine Runs.sR hE ⟨[(2,(aI vfrom)),(3,(aI vto)),(11,(.op 0 0 0)),(12,(.os 3 0 corners.length)),(14,(.op 52 0 0)),(47,(encL TMark.cells TMark.d m)),(48,(aI ((m.length:Nat):Int))),(49,(aI x)),(62,(aB (cond (decide ((m.getD ((x).toNat) TMark.d).f_Minute > vfrom)) (decide ((m.getD ((x).toNat) TMark.d).f_Minute < vto)) false)))],[(0,vN 1 [(.fn (.func 29) [] [(.op 1 0 0),(.op 2 0 0)])]),(1,vO 1 [(encL TMark.cells TMark.d m)]),(2,vO 1 [(aI level)]),(3,aO 1 cI 0 corners),(52,vO 2 (TMark.cells (m.getD ((x).toNat) TMark.d)))],244⟩ (C_12 64818) [] [] (kp [2,3,11,12,14,47,48,49,62]) (kq [0,1,2,3,52]) 244 [0 < 1,(decide ((m.getD ((x).toNat) TMark.d).f_Minute > vfrom))=true→AllP [(decide ((m.getD ((x).toNat) TMark.d).f_Minute > vfrom))=true,0 < 1],(decide ((m.getD ((x).toNat) TMark.d).f_Minute > vfrom))=true→AllP [(decide ((m.getD ((x).toNat) TMark.d).f_Minute > vfrom))=true,(decide ((m.getD ((x).toNat) TMark.d).f_Minute > vfrom))=true],(decide ((m.getD ((x).toNat) TMark.d).f_Minute > vfrom))=true→AllP [(decide ((m.getD ((x).toNat) TMark.d).f_Minute > vfrom))=true]] ⟨o1,(fun hg=>⟨hg,o1,trivial⟩),(fun hg=>⟨hg,hg,trivial⟩),(fun hq=>⟨hq,trivial⟩),trivial⟩ ?_
   refine Runs.sC 62 (C_12 129638) (C_12 129639) (cond (decide ((m.getD ((x).toNat) TMark.d).f_Minute > vfrom)) (decide ((m.getD ((x).toNat) TMark.d).f_Minute < vto)) false) (fun hq6=>?_) (fun hq6=>?_)
   ·have h:=condT h hq6
    obtain ⟨c2,h⟩:=ifSome h
    refine Runs.sR hE ⟨[(2,(aI vfrom)),(3,(aI vto)),(11,(.op 0 0 0)),(12,(.os 308 0 ((corners ++ ([(m.getD ((x).toNat) TMark.d).f_Minute]:List Int)).length))),(47,(encL TMark.cells TMark.d m)),(48,(aI ((m.length:Nat):Int))),(49,(aI x))],[(0,vN 1 [(.fn (.func 29) [] [(.op 1 0 0),(.op 2 0 0)])]),(1,vO 1 [(encL TMark.cells TMark.d m)]),(2,vO 1 [(aI level)]),(308,aO 1 cI 0 (corners ++ ([(m.getD ((x).toNat) TMark.d).f_Minute]:List Int)))],340⟩ (C_12 129638) [] [] (kp [2,3,11] ++ [(12,.osl ((corners ++ ([(m.getD ((x).toNat) TMark.d).f_Minute]:List Int)).length))] ++ kp [47,48,49]) (kq [0,1,2] ++ [(308,.arr 308 ((corners ++ ([(m.getD ((x).toNat) TMark.d).f_Minute]:List Int)).length) (fun zi=>cI ((corners ++ ([(m.getD ((x).toNat) TMark.d).f_Minute]:List Int)).getD zi 0)))]) 340 [0 < 1,corners.length=corners.length,(corners.length+1) * 8≤140737488355328,0+1≤1,∀ zi,zi < 1→AV.oneL ((fun zi=>([[(aI ((m.getD ((x).toNat) TMark.d).f_Minute))]]:List (List AV)).getD zi []) (addz 0 zi))=true,(corners.length+1)=(corners ++ ([(m.getD ((x).toNat) TMark.d).f_Minute]:List Int)).length,corners.length+1=(corners ++ ([(m.getD ((x).toNat) TMark.d).f_Minute]:List Int)).length,∀ zi,zi < (corners ++ ([(m.getD ((x).toNat) TMark.d).f_Minute]:List Int)).length→(fun zi=>cI ((corners ++ ([(m.getD ((x).toNat) TMark.d).f_Minute]:List Int)).getD zi 0)) zi=((fun zm=>if zm < corners.length then (fun zi=>cI (corners.getD zi 0)) zm else (fun zi=>([[(aI ((m.getD ((x).toNat) TMark.d).f_Minute))]]:List (List AV)).getD zi []) (zm - corners.length))) zi] ⟨o1,rfl,c2,z0,(oneN rfl),(len_app_raw rfl rfl),(len_app_raw rfl rfl),(get_app_raw cI 0 corners ([(m.getD ((x).toNat) TMark.d).f_Minute]:List Int) rfl (fun _ _=>rfl) (fun zq hzq=>get_chunk cI 0 ([(m.getD ((x).toNat) TMark.d).f_Minute]:List Int) zq hzq)),trivial⟩ ?_
    refine Runs.sA 1 [.code (C_12 8103),.inLoop (C_12 1012),.inBlock 1,.code (C_12 127)] ?_
    exact Runs.sW hE _ [] (kp [2,3,11,12,47,48,49]) (kq [0,1,2] ++ [(3,.keep 308)]) 4 [] trivial (g_water_Above_J2_ok N m level vfrom vto x (g_water_Above_L1 N m level vfrom vto fuel) ih (corners ++ ([(m.getD ((x).toNat) TMark.d).f_Minute]:List Int)) _ h E hE)
   ·have h:=condF h hq6
    refine Runs.sA 2 [.code (C_12 8103),.inLoop (C_12 1012),.inBlock 1,.code (C_12 127)] ?_
    exact Runs.sW hE _ [] (kp [2,3,11,12,47,48,49]) (kq [0,1,2,3]) 4 [] trivial (g_water_Above_J2_ok N m level vfrom vto x (g_water_Above_L1 N m level vfrom vto fuel) ih corners _ h E hE)
  ·have h:=condF h hq5
   refine Runs.sA 2 [.code (C_12 254),.code (C_12 255)] ?_
   obtain ⟨rSort,hr4,h⟩:=bindSome h
   obtain ⟨c3,h⟩:=ifSome h
   refine Runs.sR hE ⟨[(11,(.op 0 0 0)),(12,(.os 3 0 rSort.length))],[(0,vN 1 [(.fn (.func 29) [] [(.op 1 0 0),(.op 2 0 0)])]),(1,vO 1 [(encL TMark.cells TMark.d m)]),(2,vO 1 [(aI level)]),(3,aO 1 cI 0 rSort)],52⟩ (C_12 254) [(1,⟨[3],false,(.tup []),[(0,aO 1 cI 0 rSort)],0,false,none⟩)] [] (kp [11] ++ [(12,.osl (rSort.length))]) (kq [0,1,2,3]) 52 [Sound Try.prog 31 [(.os 0 0 corners.length)] [(0,aO 1 cI 0 corners)] 1 (.tup []) [(0,aO 1 cI 0 rSort)],corners.length=rSort.length] ⟨(g_slices_Sort_int_int_ok N corners rSort hr4),(Eq.symm c3),trivial⟩ ?_
   refine Runs.sA 1 [.code (C_12 510),.code (C_12 511)] ?_
   refine Runs.sR hE ⟨[(11,(.op 0 0 0)),(12,(.os 3 0 rSort.length)),(15,(.op 52 0 0))],[(0,vN 1 [(.fn (.func 29) [] [(.op 1 0 0),(.op 2 0 0)])]),(1,vO 1 [(encL TMark.cells TMark.d m)]),(2,vO 1 [(aI level)]),(3,aO 1 cI 0 rSort),(52,vO 1 [.nil])],68⟩ (C_12 510) [] [] (kp [11,12,15]) (kq [0,1,2,3,52]) 68 [] trivial ?_
   refine Runs.sA 1 [.code (C_12 1022),.code (C_12 1023)] ?_
   refine Runs.sR hE ⟨[(11,(.op 0 0 0)),(12,(.os 3 0 rSort.length)),(15,(.op 52 0 0)),(16,(.fn (.func 32) [] [(.op 52 0 0)]))],[(0,vN 1 [(.fn (.func 29) [] [(.op 1 0 0),(.op 2 0 0)])]),(1,vO 1 [(encL TMark.cells TMark.d m)]),(2,vO 1 [(aI level)]),(3,aO 1 cI 0 rSort),(52,vO 1 [.nil])],100⟩ (C_12 1022) [] [] (kp [11,12,15,16]) (kq [0,1,2,3,52]) 100 [] trivial ?_
   refine Runs.sA 2 [.code (C_12 4092),.code (C_12 4093),.code (C_12 2047)] ?_
   obtain ⟨c4,h⟩:=ifSome h
   refine Runs.sR hE ⟨[(11,(.op 0 0 0)),(12,(.os 3 0 rSort.length)),(15,(.op 52 0 0)),(16,(.fn (.func 32) [] [(.op 52 0 0)])),(73,(.os 3 1 (rSort.length - 1))),(74,(aI (((rSort.length - 1):Nat):Int))),(75,(aI 0))],[(0,vN 1 [(.fn (.func 29) [] [(.op 1 0 0),(.op 2 0 0)])]),(1,vO 1 [(encL TMark.cells TMark.d m)]),(2,vO 1 [(aI level)]),(3,aO 1 cI 0 rSort),(52,vO 1 [.nil])],164⟩ (C_12 4092) [] [] (kp [11,12,15,16,73,74,75]) (kq [0,1,2,3,52]) 164 [1≤rSort.length∧rSort.length≤rSort.length,0≤(1:Int)] ⟨c4,(by decide),trivial⟩ ?_
   refine Runs.sA 2 [.code (C_12 16372),.inLoop (C_12 16372),.inBlock 3,.code (C_12 2047)] ?_
   exact Runs.sW hE _ [] (kp [11,12,15,16,73,74,75]) (kq [0,1,2,3] ++ [(4,.var 52 [.nilos 5]),(5,.nil 2 (fun zi=>TS__2_int.cells (([]:List TS__2_int).getD zi TS__2_int.d)))]) 6 [] trivial (g_water_Above_L3_ok N m level rSort N ([]:List TS__2_int) 0 _ h E hE)
theorem g_water_Above_ok (N:Nat) (m:List TMark) (level:Int) (vfrom:Int) (vto:Int) (r:(List TS__2_int)×Int) (h:g_water_Above N m level vfrom vto=some r):Sound Try.prog 7 [(encL TMark.cells TMark.d m),(aI level),(aI vfrom),(aI vto)] [] 0 (.tup [(encL TS__2_int.cells TS__2_int.d r.1),(aI r.2)]) []:=by
 unfold g_water_Above at h
 refine Sound.of_runs (fu:=Try.f7) (c:=C_12 1) (nt:=128) (by kernel_rfl) (by kernel_rfl) (by kernel_rfl) (by kernel_rfl) (fun hm=>rfl) ?_
 intro E hE
 refine Runs.sA 1 [.code (C_12 2),.code (C_12 3)] ?_
 refine Runs.sR hE ⟨[(2,(aI vfrom)),(3,(aI vto)),(4,(.op 0 0 0)),(5,(.op 16 0 0))],[(0,vO 1 [(encL TMark.cells TMark.d m)]),(16,vO 1 [(aI level)])],64⟩ (C_12 2) [] [] (kp [2,3,4,5]) (kq [0,16]) 64 [] trivial ?_
 refine Runs.sA 2 [.code (C_12 12),.code (C_12 13),.code (C_12 7)] ?_
 obtain ⟨rCheckSea,hr,h⟩:=bindSome h
 refine Runs.sR hE ⟨[(2,(aI vfrom)),(3,(aI vto)),(4,(.op 0 0 0)),(5,(.op 16 0 0)),(10,(aI rCheckSea))],[(0,vO 1 [(encL TMark.cells TMark.d m)]),(16,vO 1 [(aI level)])],112⟩ (C_12 12) [(1,⟨[],true,(aI rCheckSea),[],0,false,none⟩)] [] (kp [2,3,4,5,10]) (kq [0,16]) 112 [0 < 1,Sound Try.prog 27 [(encL TMark.cells TMark.d m)] [] 0 (aI rCheckSea) []] ⟨o1,(g_water_CheckSea_ok N m rCheckSea hr),trivial⟩ ?_
 refine Runs.sA 1 [.code (C_12 26),.code (C_12 27),.code (C_12 7)] ?_
 refine Runs.sR hE ⟨[(2,(aI vfrom)),(3,(aI vto)),(4,(.op 0 0 0)),(5,(.op 16 0 0)),(10,(aI rCheckSea)),(23,(aB (rCheckSea != 0)))],[(0,vO 1 [(encL TMark.cells TMark.d m)]),(16,vO 1 [(aI level)])],144⟩ (C_12 26) [] [] (kp [2,3,4,5,10,23]) (kq [0,16]) 144 [] trivial ?_
 refine Runs.sC 23 (C_12 54) (C_12 55) (rCheckSea != 0) (fun hq2=>?_) (fun hq2=>?_)
 ·have h:=condT h hq2
  refine Runs.sA 1 [.code (C_12 108),.code (C_12 109),.code (C_12 7)] ?_
  refine Runs.sR hE ⟨[(8,.nil),(9,(aI rCheckSea))],[],192⟩ (C_12 108) [] [] (kp [8,9]) [] 192 [] trivial ?_
  obtain rfl:=Option.some.inj h
  refine Runs.sW hE ⟨[(8,(encL TS__2_int.cells TS__2_int.d ([]:List TS__2_int))),(9,(aI rCheckSea))],[],192⟩ [] ([(8,.sl (([]:List TS__2_int).length) (fun zi=>TS__2_int.cells (([]:List TS__2_int).getD zi TS__2_int.d)))] ++ kp [9]) [] 192 [([]:List TS__2_int).length=0] ⟨rfl,trivial⟩ ?_
  exact Runs.sT Try.f7 [] [] trivial
 ·have h:=condF h hq2
  refine Runs.sA 4 [.code (C_12 56),.code (C_12 57),.inBlock 0,.code (C_12 15)] ?_
  obtain ⟨rbetween,hr2,h⟩:=bindSome h
  obtain ⟨rbetween2,hr3,h⟩:=bindSome h
  refine Runs.sR hE ⟨[(2,(aI vfrom)),(3,(aI vto)),(4,(.op 0 0 0)),(5,(.op 16 0 0)),(25,(aB (cond (cond (!rbetween) true (!rbetween2)) true (decide (vto > 1000000)))))],[(0,vO 1 [(encL TMark.cells TMark.d m)]),(16,vO 1 [(aI level)])],368⟩ (C_12 56) [(1,⟨[],true,(aB rbetween),[],0,false,none⟩),(6,⟨[],true,(aB rbetween2),[],0,false,none⟩)] [] (kp [2,3,4,5,25]) (kq [0,16]) 368 [0 < 1,Sound Try.prog 28 [(aI level),(aI (-1000000)),(aI 1000000)] [] 0 (aB rbetween) [],(!(!rbetween))=true→AllP [Sound Try.prog 28 [(aI vfrom),(aI 0),(aI vto)] [] 0 (aB rbetween2) [],(!(!rbetween))=true,(!(!rbetween))=true],(!(!rbetween))=true→AllP [(!(!rbetween))=true],(!(!rbetween))=true→AllP [(!(!rbetween))=true],(!(cond (!rbetween) true (!rbetween2)))=true→AllP [(!(cond (!rbetween) true (!rbetween2)))=true],(!(cond (!rbetween) true (!rbetween2)))=true→AllP [(!(cond (!rbetween) true (!rbetween2)))=true]] ⟨o1,(g_water_between_ok N level (-1000000) 1000000 rbetween hr2),(fun hg=>⟨(g_water_between_ok N vfrom 0 vto rbetween2 (condT hr3 hg)),hg,hg,trivial⟩),(fun hg=>⟨hg,trivial⟩),(fun hq=>⟨hq,trivial⟩),(fun hg=>⟨hg,trivial⟩),(fun hq=>⟨hq,trivial⟩),trivial⟩ ?_
  refine Runs.sC 25 (C_12 114) (C_12 115) (cond (cond (!rbetween) true (!rbetween2)) true (decide (vto > 1000000))) (fun hq3=>?_) (fun hq3=>?_)
  ·have h:=condT h hq3
   refine Runs.sA 1 [.code (C_12 228),.code (C_12 229),.inBlock 0,.code (C_12 15)] ?_
   refine Runs.sR hE ⟨[(8,.nil),(9,(aI 2))],[],400⟩ (C_12 228) [] [] (kp [8,9]) [] 400 [] trivial ?_
   obtain rfl:=Option.some.inj h
   refine Runs.sW hE ⟨[(8,(encL TS__2_int.cells TS__2_int.d ([]:List TS__2_int))),(9,(aI 2))],[],400⟩ [] ([(8,.sl (([]:List TS__2_int).length) (fun zi=>TS__2_int.cells (([]:List TS__2_int).getD zi TS__2_int.d)))] ++ kp [9]) [] 400 [([]:List TS__2_int).length=0] ⟨rfl,trivial⟩ ?_
   exact Runs.sT Try.f7 [] [] trivial
  ·have h:=condF h hq3
   refine Runs.sA 1 [.code (C_12 230),.code (C_12 231),.inBlock 0,.code (C_12 15)] ?_
   refine Runs.sR hE ⟨[(2,(aI vfrom)),(3,(aI vto)),(4,(.op 0 0 0)),(5,(.op 16 0 0)),(39,(aB (((m.length:Nat):Int) == 0)))],[(0,vO 1 [(encL TMark.cells TMark.d m)]),(16,vO 1 [(aI level)])],432⟩ (C_12 230) [] [] (kp [2,3,4,5,39]) (kq [0,16]) 432 [0 < 1] ⟨o1,trivial⟩ ?_
   refine Runs.sC 39 (C_12 462) (C_12 463) (((m.length:Nat):Int) == 0) (fun hq4=>?_) (fun hq4=>?_)
   ·have h:=condT h hq4
    refine Runs.sA 1 [.code (C_12 924),.code (C_12 925),.inBlock 0,.code (C_12 15)] ?_
    refine Runs.sR hE ⟨[(8,.nil),(9,(aI 29))],[],464⟩ (C_12 924) [] [] (kp [8,9]) [] 464 [] trivial ?_
    obtain rfl:=Option.some.inj h
    refine Runs.sW hE ⟨[(8,(encL TS__2_int.cells TS__2_int.d ([]:List TS__2_int))),(9,(aI 29))],[],464⟩ [] ([(8,.sl (([]:List TS__2_int).length) (fun zi=>TS__2_int.cells (([]:List TS__2_int).getD zi TS__2_int.d)))] ++ kp [9]) [] 464 [([]:List TS__2_int).length=0] ⟨rfl,trivial⟩ ?_
    exact Runs.sT Try.f7 [] [] trivial
   ·have h:=condF h hq4
    refine Runs.sA 3 [.code (C_12 30),.code (C_12 31)] ?_
    refine Runs.sR hE ⟨[(2,(aI vfrom)),(3,(aI vto)),(4,(.op 0 0 0)),(11,(.op 448 0 0))],[(0,vO 1 [(encL TMark.cells TMark.d m)]),(16,vO 1 [(aI level)]),(448,vN 1 [(.fn (.func 29) [] [(.op 0 0 0),(.op 16 0 0)])])],480⟩ (C_12 30) [] [] (kp [2,3,4,11]) (kq [0,16,448]) 480 [0 < 1] ⟨o1,trivial⟩ ?_
    refine Runs.sA 1 [.code (C_12 62),.code (C_12 63)] ?_
    refine Runs.sR hE ⟨[(2,(aI vfrom)),(3,(aI vto)),(4,(.op 0 0 0)),(11,(.op 448 0 0)),(12,(.os 512 0 (([vfrom,vto]:List Int).length)))],[(0,vO 1 [(encL TMark.cells TMark.d m)]),(16,vO 1 [(aI level)]),(448,vN 1 [(.fn (.func 29) [] [(.op 0 0 0),(.op 16 0 0)])]),(512,aO 1 cI 0 ([vfrom,vto]:List Int))],544⟩ (C_12 62) [] [] (kp [2,3,4,11] ++ [(12,.osl (([vfrom,vto]:List Int).length))]) (kq [0,16,448] ++ [(512,.arr 512 (([vfrom,vto]:List Int).length) (fun zi=>cI (([vfrom,vto]:List Int).getD zi 0)))]) 544 [2=([vfrom,vto]:List Int).length,2=([vfrom,vto]:List Int).length,∀ zi,zi < ([vfrom,vto]:List Int).length→(fun zi=>cI (([vfrom,vto]:List Int).getD zi 0)) zi=(fun zi=>([[(aI vfrom)],[(aI vto)]]:List (List AV)).getD zi []) zi] ⟨rfl,rfl,(fun zq hzq=>get_chunk cI 0 ([vfrom,vto]:List Int) zq hzq),trivial⟩ ?_
    refine Runs.sA 2 [.code (C_12 252),.code (C_12 253),.code (C_12 127)] ?_
    refine Runs.sR hE ⟨[(2,(aI vfrom)),(3,(aI vto)),(11,(.op 448 0 0)),(12,(.os 512 0 (([vfrom,vto]:List Int).length))),(47,(encL TMark.cells TMark.d m)),(48,(aI ((m.length:Nat):Int))),(49,(aI 0))],[(0,vO 1 [(encL TMark.cells TMark.d m)]),(16,vO 1 [(aI level)]),(448,vN 1 [(.fn (.func 29) [] [(.op 0 0 0),(.op 16 0 0)])]),(512,aO 1 cI 0 ([vfrom,vto]:List Int))],592⟩ (C_12 252) [] [] (kp [2,3,11,12,47,48,49]) (kq [0,16,448,512]) 592 [0 < 1] ⟨o1,trivial⟩ ?_
    refine Runs.sA 2 [.code (C_12 1012),.inLoop (C_12 1012),.inBlock 1,.code (C_12 127)] ?_
    exact Runs.sW hE _ [] (kp [2,3,11,12,47,48,49]) [(0,.keep 448),(1,.keep 0),(2,.keep 16),(3,.keep 512)] 4 [] trivial (g_water_Above_L1_ok N m level vfrom vto N ([vfrom,vto]:List Int) 0 _ h E hE)
noncomputable def C_45 (n:Nat):Code:=cat (bodyOf Try.f37) (pth n)
theorem g_r05_inside_ok (N:Nat) (n:Int) (low:Int) (high:Int) (r:Bool) (h:g_r05_inside N n low high=some r):Sound Try.prog 37 [(aI n),(aI low),(aI high)] [] 0 (aB r) []:=by
 unfold g_r05_inside at h
 refine Sound.of_runs (fu:=Try.f37) (c:=C_45 1) (nt:=15) (by kernel_rfl) (by kernel_rfl) (by kernel_rfl) (by kernel_rfl) (fun hm=>rfl) ?_
 intro E hE
 refine Runs.sA 1 [.code (C_45 2),.code (C_45 3)] ?_
 refine Runs.sR hE ⟨[(0,(aI n)),(1,(aI low)),(2,(aI high))],[],16⟩ (C_45 2) [] [] (kp [0,1,2]) [] 16 [] trivial ?_
 refine Runs.sA 1 [.code (C_45 6),.code (C_45 7)] ?_
 refine Runs.sR hE ⟨[(6,(aB (cond (decide (n≥low)) (decide (n≤high)) false)))],[],160⟩ (C_45 6) [] [] (kp [6]) [] 160 [(decide (n≥low))=true→AllP [(decide (n≥low))=true,(decide (n≥low))=true],(decide (n≥low))=true→AllP [(decide (n≥low))=true]] ⟨(fun hg=>⟨hg,hg,trivial⟩),(fun hq=>⟨hq,trivial⟩),trivial⟩ ?_
 obtain rfl:=Option.some.inj h
 refine Runs.sW hE ⟨[(6,(aB (cond (decide (n≥low)) (decide (n≤high)) false)))],[],160⟩ [] (kp [6]) [] 160 [] trivial ?_
 exact Runs.sT Try.f37 [] [] trivial
noncomputable def C_44 (n:Nat):Code:=cat (bodyOf Try.f36) (pth n)
theorem g_r05_CheckSea_L1_ok (N:Nat) (m:List TMark) (fuel:Nat):∀ (i:Int) (r:Int),g_r05_CheckSea_L1 N m fuel i=some r→∀ E,EnvOk E 0→Runs Try.prog E 36 45 (SPost E [] (aI r)) [.code (C_44 116),.inLoop (C_44 116),.inBlock 0,.code (C_44 15)] ⟨[(0,(encL TMark.cells TMark.d m)),(3,(aI i))],[],0⟩:=by
 induction fuel with
 | zero=>intro _ r h;rw [g_r05_CheckSea_L1.eq_1] at h;cases h
 | succ fuel ih =>
  intro i r h E hE
  rw [g_r05_CheckSea_L1.eq_2] at h
  refine Runs.sA 2 [.code (C_44 464),.code (C_44 465),.code (C_44 233),.inLoop (C_44 116),.inBlock 0,.code (C_44 15)] ?_
  refine Runs.sR hE ⟨[(0,(encL TMark.cells TMark.d m)),(3,(aI i)),(10,(aB (decide (i < ((m.length:Nat):Int)))))],[],64⟩ (C_44 464) [] [] (kp [0,3,10]) [] 64 [] trivial ?_
  refine Runs.sC 10 (C_44 930) (C_44 931) (decide (i < ((m.length:Nat):Int))) (fun hq3=>?_) (fun hq3=>?_)
  ·have h:=condT h hq3
   refine Runs.sA 5 [.code (C_44 3728),.code (C_44 3729),.code (C_44 1865),.inBlock 1,.code (C_44 467),.inLoop (C_44 116),.inBlock 0,.code (C_44 15)] ?_
   obtain ⟨c,h⟩:=ifSome h
   obtain ⟨rinside,hr,h⟩:=bindSome h
   obtain ⟨c2,h⟩:=ifSome h
   obtain ⟨rinside2,hr2,h⟩:=bindSome h
   refine Runs.sR hE ⟨[(0,(encL TMark.cells TMark.d m)),(3,(aI i)),(28,(aB (cond (!rinside) true (!rinside2))))],[],320⟩ (C_44 3728) [(5,⟨[],true,(aB rinside),[],0,false,none⟩),(13,⟨[],true,(aB rinside2),[],0,false,none⟩)] [] (kp [0,3,28]) [] 320 [0≤i∧i < ((m.length:Nat):Int),Sound Try.prog 37 [(aI ((m.getD ((i).toNat) TMark.d).f_Minute)),(aI 0),(aI 1000000)] [] 0 (aB rinside) [],(!(!rinside))=true→AllP [(!(!rinside))=true,(!(!rinside))=true,0≤i∧i < ((m.length:Nat):Int)],(!(!rinside))=true→AllP [(!(!rinside))=true],(!(!rinside))=true→AllP [(!(!rinside))=true],(!(!rinside))=true→AllP [Sound Try.prog 37 [(aI ((m.getD ((i).toNat) TMark.d).f_Level)),(aI (-1000000)),(aI 1000000)] [] 0 (aB rinside2) [],(!(!rinside))=true],(!(!rinside))=true→AllP [(!(!rinside))=true],(!(!rinside))=true→AllP [(!(!rinside))=true]] ⟨c,(g_r05_inside_ok N ((m.getD ((i).toNat) TMark.d).f_Minute) 0 1000000 rinside hr),(fun hg=>⟨hg,hg,(c2 hg),trivial⟩),(fun hg=>⟨hg,trivial⟩),(fun hg=>⟨hg,trivial⟩),(fun hg=>⟨(g_r05_inside_ok N ((m.getD ((i).toNat) TMark.d).f_Level) (-1000000) 1000000 rinside2 (condT hr2 hg)),hg,trivial⟩),(fun hg=>⟨hg,trivial⟩),(fun hq=>⟨hq,trivial⟩),trivial⟩ ?_
   refine Runs.sC 28 (C_44 7458) (C_44 7459) (cond (!rinside) true (!rinside2)) (fun hq4=>?_) (fun hq4=>?_)
   ·have h:=condT h hq4
    refine Runs.sA 1 [.code (C_44 14916),.code (C_44 14917),.code (C_44 1865),.inBlock 1,.code (C_44 467),.inLoop (C_44 116),.inBlock 0,.code (C_44 15)] ?_
    refine Runs.sR hE ⟨[(2,(aI 2))],[],336⟩ (C_44 14916) [] [] (kp [2]) [] 336 [] trivial ?_
    obtain rfl:=Option.some.inj h
    refine Runs.sW hE ⟨[(2,(aI 2))],[],336⟩ [] (kp [2]) [] 336 [] trivial ?_
    exact Runs.sT Try.f36 [] [] trivial
   ·have h:=condF h hq4
    refine Runs.sA 2 [.code (C_44 3730),.code (C_44 3731),.inBlock 1,.code (C_44 467),.inLoop (C_44 116),.inBlock 0,.code (C_44 15)] ?_
    obtain ⟨c3,h⟩:=ifSome h
    obtain ⟨c4,h⟩:=ifSome h
    refine Runs.sR hE ⟨[(0,(encL TMark.cells TMark.d m)),(3,(aI i)),(44,(aB (cond (decide (i > 0)) (decide ((m.getD ((i).toNat) TMark.d).f_Minute≤(m.getD ((w64 (i - 1)).toNat) TMark.d).f_Minute)) false)))],[],576⟩ (C_44 3730) [] [] (kp [0,3,44]) [] 576 [(decide (i > 0))=true→AllP [(decide (i > 0))=true,(decide (i > 0))=true,0≤i∧i < ((m.length:Nat):Int)],(decide (i > 0))=true→AllP [(decide (i > 0))=true],(decide (i > 0))=true→AllP [(decide (i > 0))=true],(decide (i > 0))=true→AllP [(decide (i > 0))=true],(decide (i > 0))=true→AllP [(decide (i > 0))=true,(decide (i > 0))=true,0≤(w64 (i - 1))∧(w64 (i - 1)) < ((m.length:Nat):Int)],(decide (i > 0))=true→AllP [(decide (i > 0))=true],(decide (i > 0))=true→AllP [(decide (i > 0))=true],(decide (i > 0))=true→AllP [(decide (i > 0))=true,(decide (i > 0))=true],(decide (i > 0))=true→AllP [(decide (i > 0))=true]] ⟨(fun hg=>⟨hg,hg,(c3 hg),trivial⟩),(fun hg=>⟨hg,trivial⟩),(fun hg=>⟨hg,trivial⟩),(fun hg=>⟨hg,trivial⟩),(fun hg=>⟨hg,hg,(c4 hg),trivial⟩),(fun hg=>⟨hg,trivial⟩),(fun hg=>⟨hg,trivial⟩),(fun hg=>⟨hg,hg,trivial⟩),(fun hq=>⟨hq,trivial⟩),trivial⟩ ?_
    refine Runs.sC 44 (C_44 7462) (C_44 7463) (cond (decide (i > 0)) (decide ((m.getD ((i).toNat) TMark.d).f_Minute≤(m.getD ((w64 (i - 1)).toNat) TMark.d).f_Minute)) false) (fun hq5=>?_) (fun hq5=>?_)
    ·have h:=condT h hq5
     refine Runs.sA 1 [.code (C_44 14924),.code (C_44 14925),.inBlock 1,.code (C_44 467),.inLoop (C_44 116),.inBlock 0,.code (C_44 15)] ?_
     refine Runs.sR hE ⟨[(2,(aI 10))],[],592⟩ (C_44 14924) [] [] (kp [2]) [] 592 [] trivial ?_
     obtain rfl:=Option.some.inj h
     refine Runs.sW hE ⟨[(2,(aI 10))],[],592⟩ [] (kp [2]) [] 592 [] trivial ?_
     exact Runs.sT Try.f36 [] [] trivial
    ·have h:=condF h hq5
     refine Runs.sA 2 [.code (C_44 467),.inLoop (C_44 116),.inBlock 0,.code (C_44 15)] ?_
     refine Runs.sR hE ⟨[(0,(encL TMark.cells TMark.d m)),(3,(aI (w64 (i+1))))],[],624⟩ (C_44 467) [] [] (kp [0,3]) [] 624 [] trivial ?_
     refine Runs.sA 1 [.code (C_44 116),.inLoop (C_44 116),.inBlock 0,.code (C_44 15)] ?_
     exact Runs.sW hE _ [] (kp [0,3]) [] 0 [] trivial (ih (w64 (i+1)) _ h E hE)
  ·have h:=condF h hq3
   refine Runs.sA 2 [.code (C_44 30),.code (C_44 31)] ?_
   refine Runs.sR hE ⟨[(2,(aI 0))],[],80⟩ (C_44 30) [] [] (kp [2]) [] 80 [] trivial ?_
   obtain rfl:=Option.some.inj h
   refine Runs.sW hE ⟨[(2,(aI 0))],[],80⟩ [] (kp [2]) [] 80 [] trivial ?_
   exact Runs.sT Try.f36 [] [] trivial
theorem g_r05_CheckSea_ok (N:Nat) (m:List TMark) (r:Int) (h:g_r05_CheckSea N m=some r):Sound Try.prog 36 [(encL TMark.cells TMark.d m)] [] 0 (aI r) []:=by
 unfold g_r05_CheckSea at h
 refine Sound.of_runs (fu:=Try.f36) (c:=C_44 1) (nt:=45) (by kernel_rfl) (by kernel_rfl) (by kernel_rfl) (by kernel_rfl) (fun hm=>rfl) ?_
 intro E hE
 refine Runs.sA 1 [.code (C_44 2),.code (C_44 3)] ?_
 refine Runs.sR hE ⟨[(0,(encL TMark.cells TMark.d m))],[],16⟩ (C_44 2) [] [] (kp [0]) [] 16 [] trivial ?_
 refine Runs.sA 2 [.code (C_44 12),.code (C_44 13),.code (C_44 7)] ?_
 refine Runs.sR hE ⟨[(0,(encL TMark.cells TMark.d m)),(6,(aB (decide (((m.length:Nat):Int) > 400))))],[],64⟩ (C_44 12) [] [] (kp [0,6]) [] 64 [] trivial ?_
 refine Runs.sC 6 (C_44 26) (C_44 27) (decide (((m.length:Nat):Int) > 400)) (fun hq2=>?_) (fun hq2=>?_)
 ·have h:=condT h hq2
  refine Runs.sA 1 [.code (C_44 52),.code (C_44 53),.code (C_44 7)] ?_
  refine Runs.sR hE ⟨[(2,(aI 8))],[],80⟩ (C_44 52) [] [] (kp [2]) [] 80 [] trivial ?_
  obtain rfl:=Option.some.inj h
  refine Runs.sW hE ⟨[(2,(aI 8))],[],80⟩ [] (kp [2]) [] 80 [] trivial ?_
  exact Runs.sT Try.f36 [] [] trivial
 ·have h:=condF h hq2
  refine Runs.sA 3 [.code (C_44 28),.code (C_44 29),.code (C_44 15)] ?_
  refine Runs.sR hE ⟨[(0,(encL TMark.cells TMark.d m)),(3,(aI 0))],[],80⟩ (C_44 28) [] [] (kp [0,3]) [] 80 [] trivial ?_
  refine Runs.sA 2 [.code (C_44 116),.inLoop (C_44 116),.inBlock 0,.code (C_44 15)] ?_
  exact Runs.sW hE _ [] (kp [0,3]) [] 0 [] trivial (g_r05_CheckSea_L1_ok N m N 0 _ h E hE)
noncomputable def C_47 (n:Nat):Code:=cat (bodyOf Try.f68) (pth n)
theorem g_r05_floorDiv_J1_ok (N:Nat) (q:Int) (r:Int) (h:g_r05_floorDiv_J1 N q=some r):∀ E,EnvOk E 0→Runs Try.prog E 68 16 (SPost E [] (aI r)) [.code (C_47 30),.code (C_47 31)] ⟨[(5,(aI q))],[],0⟩:=by
 intro E hE
 unfold g_r05_floorDiv_J1 at h
 refine Runs.sR hE ⟨[(4,(aI q))],[],32⟩ (C_47 30) [] [] (kp [4]) [] 32 [] trivial ?_
 obtain rfl:=Option.some.inj h
 refine Runs.sW hE ⟨[(4,(aI q))],[],48⟩ [] (kp [4]) [] 48 [] trivial ?_
 exact Runs.sT Try.f68 [] [] trivial
theorem g_r05_floorDiv_ok (N:Nat) (a:Int) (b:Int) (r:Int) (h:g_r05_floorDiv N a b=some r):Sound Try.prog 68 [(aI a),(aI b)] [] 0 (aI r) []:=by
 unfold g_r05_floorDiv at h
 refine Sound.of_runs (fu:=Try.f68) (c:=C_47 1) (nt:=16) (by kernel_rfl) (by kernel_rfl) (by kernel_rfl) (by kernel_rfl) (fun hm=>rfl) ?_
 intro E hE
 refine Runs.sA 1 [.code (C_47 2),.code (C_47 3)] ?_
 refine Runs.sR hE ⟨[(0,(aI a)),(1,(aI b))],[],16⟩ (C_47 2) [] [] (kp [0,1]) [] 16 [] trivial ?_
 refine Runs.sA 1 [.code (C_47 6),.code (C_47 7)] ?_
 obtain ⟨c,h⟩:=ifSome h
 refine Runs.sR hE ⟨[(0,(aI a)),(1,(aI b)),(5,(aI (w64 (a.tdiv b))))],[],80⟩ (C_47 6) [] [] (kp [0,1,5]) [] 80 [(b:Int)≠0] ⟨c,trivial⟩ ?_
 refine Runs.sA 2 [.code (C_47 28),.code (C_47 29),.code (C_47 15)] ?_
 refine Runs.sR hE ⟨[(5,(aI (w64 (a.tdiv b)))),(12,(aB (decide ((a.tmod b) < 0))))],[],144⟩ (C_47 28) [] [] (kp [5,12]) [] 144 [(b:Int)≠0] ⟨c,trivial⟩ ?_
 refine Runs.sC 12 (C_47 58) (C_47 59) (decide ((a.tmod b) < 0)) (fun hq2=>?_) (fun hq2=>?_)
 ·have h:=condT h hq2
  refine Runs.sR hE ⟨[(5,(aI (w64 ((w64 (a.tdiv b)) - 1))))],[],192⟩ (C_47 58) [] [] (kp [5]) [] 192 [] trivial ?_
  refine Runs.sA 1 [.code (C_47 30),.code (C_47 31)] ?_
  exact Runs.sW hE _ [] (kp [5]) [] 0 [] trivial (g_r05_floorDiv_J1_ok N (w64 ((w64 (a.tdiv b)) - 1)) _ h E hE)
 ·have h:=condF h hq2
  refine Runs.sA 2 [.code (C_47 30),.code (C_47 31)] ?_
  exact Runs.sW hE _ [] (kp [5]) [] 0 [] trivial (g_r05_floorDiv_J1_ok N (w64 (a.tdiv b)) _ h E hE)
noncomputable def C_46 (n:Nat):Code:=cat (bodyOf Try.f38) (pth n)
theorem g_r05_At_L1_ok (N:Nat) (m:List TMark) (minute:Int) (fuel:Nat):∀ (i:Int) (r:Int),g_r05_At_L1 N m minute fuel i=some r→∀ E,EnvOk E 0→Runs Try.prog E 38 66 (SPost E [] (aI r)) [.code (C_46 116),.inLoop (C_46 116),.inBlock 0,.code (C_46 15)] ⟨[(0,(encL TMark.cells TMark.d m)),(1,(aI minute)),(5,(aI i))],[],0⟩:=by
 induction fuel with
 | zero=>intro _ r h;rw [g_r05_At_L1.eq_1] at h;cases h
 | succ fuel ih =>
  intro i r h E hE
  rw [g_r05_At_L1.eq_2] at h
  refine Runs.sA 2 [.code (C_46 464),.code (C_46 465),.code (C_46 233),.inLoop (C_46 116),.inBlock 0,.code (C_46 15)] ?_
  refine Runs.sR hE ⟨[(0,(encL TMark.cells TMark.d m)),(1,(aI minute)),(5,(aI i)),(21,(aB (decide (i < ((m.length:Nat):Int)))))],[],64⟩ (C_46 464) [] [] (kp [0,1,5,21]) [] 64 [] trivial ?_
  refine Runs.sC 21 (C_46 930) (C_46 931) (decide (i < ((m.length:Nat):Int))) (fun hq3=>?_) (fun hq3=>?_)
  ·have h:=condT h hq3
   refine Runs.sA 4 [.code (C_46 1864),.code (C_46 1865),.inBlock 1,.code (C_46 467),.inLoop (C_46 116),.inBlock 0,.code (C_46 15)] ?_
   obtain ⟨c2,h⟩:=ifSome h
   refine Runs.sR hE ⟨[(0,(encL TMark.cells TMark.d m)),(1,(aI minute)),(5,(aI i)),(30,(aB (decide (minute≤(m.getD ((i).toNat) TMark.d).f_Minute))))],[],176⟩ (C_46 1864) [] [] (kp [0,1,5,30]) [] 176 [0≤i∧i < ((m.length:Nat):Int)] ⟨c2,trivial⟩ ?_
   refine Runs.sC 30 (C_46 3730) (C_46 3731) (decide (minute≤(m.getD ((i).toNat) TMark.d).f_Minute)) (fun hq4=>?_) (fun hq4=>?_)
   ·have h:=condT h hq4
    refine Runs.sA 1 [.code (C_46 7460),.code (C_46 7461),.inBlock 1,.code (C_46 467),.inLoop (C_46 116),.inBlock 0,.code (C_46 15)] ?_
    obtain ⟨c3,h⟩:=ifSome h
    refine Runs.sR hE ⟨[(1,(aI minute)),(6,(.op 320 0 0)),(7,(.op 336 0 0))],[(320,vO 2 (TMark.cells (m.getD ((w64 (i - 1)).toNat) TMark.d))),(336,vO 2 (TMark.cells (m.getD ((i).toNat) TMark.d)))],384⟩ (C_46 7460) [] [] (kp [1,6,7]) (kq [320,336]) 384 [0≤(w64 (i - 1))∧(w64 (i - 1)) < ((m.length:Nat):Int),0≤i∧i < ((m.length:Nat):Int),0 < 1,0 < 1] ⟨c3,c2,o1,o1,trivial⟩ ?_
    refine Runs.sA 1 [.code (C_46 14922),.code (C_46 14923),.inBlock 1,.code (C_46 467),.inLoop (C_46 116),.inBlock 0,.code (C_46 15)] ?_
    obtain ⟨rfloorDiv,hr,h⟩:=bindSome h
    refine Runs.sR hE ⟨[(4,(aI (w64 ((m.getD ((w64 (i - 1)).toNat) TMark.d).f_Level+rfloorDiv))))],[],704⟩ (C_46 14922) [(17,⟨[],true,(aI rfloorDiv),[],0,false,none⟩)] [] (kp [4]) [] 704 [0 < 1,0 < 1,0 < 1,0 < 1,0 < 1,0 < 1,Sound Try.prog 68 [(aI (w64 ((w64 ((m.getD ((i).toNat) TMark.d).f_Level - (m.getD ((w64 (i - 1)).toNat) TMark.d).f_Level)) * (w64 (minute - (m.getD ((w64 (i - 1)).toNat) TMark.d).f_Minute))))),(aI (w64 ((m.getD ((i).toNat) TMark.d).f_Minute - (m.getD ((w64 (i - 1)).toNat) TMark.d).f_Minute)))] [] 0 (aI rfloorDiv) []] ⟨o1,o1,o1,o1,o1,o1,(g_r05_floorDiv_ok N (w64 ((w64 ((m.getD ((i).toNat) TMark.d).f_Level - (m.getD ((w64 (i - 1)).toNat) TMark.d).f_Level)) * (w64 (minute - (m.getD ((w64 (i - 1)).toNat) TMark.d).f_Minute)))) (w64 ((m.getD ((i).toNat) TMark.d).f_Minute - (m.getD ((w64 (i - 1)).toNat) TMark.d).f_Minute)) rfloorDiv hr),trivial⟩ ?_
    obtain rfl:=Option.some.inj h
    refine Runs.sW hE ⟨[(4,(aI (w64 ((m.getD ((w64 (i - 1)).toNat) TMark.d).f_Level+rfloorDiv))))],[],704⟩ [] (kp [4]) [] 704 [] trivial ?_
    exact Runs.sT Try.f38 [] [] trivial
   ·have h:=condF h hq4
    refine Runs.sA 2 [.code (C_46 467),.inLoop (C_46 116),.inBlock 0,.code (C_46 15)] ?_
    refine Runs.sR hE ⟨[(0,(encL TMark.cells TMark.d m)),(1,(aI minute)),(5,(aI (w64 (i+1))))],[],224⟩ (C_46 467) [] [] (kp [0,1,5]) [] 224 [] trivial ?_
    refine Runs.sA 1 [.code (C_46 116),.inLoop (C_46 116),.inBlock 0,.code (C_46 15)] ?_
    exact Runs.sW hE _ [] (kp [0,1,5]) [] 0 [] trivial (ih (w64 (i+1)) _ h E hE)
  ·have h:=condF h hq3
   refine Runs.sA 2 [.code (C_46 30),.code (C_46 31)] ?_
   obtain ⟨c4,h⟩:=ifSome h
   refine Runs.sR hE ⟨[(4,(aI ((m.getD ((w64 (((m.length:Nat):Int) - 1)).toNat) TMark.d).f_Level)))],[],192⟩ (C_46 30) [] [] (kp [4]) [] 192 [0≤(w64 (((m.length:Nat):Int) - 1))∧(w64 (((m.length:Nat):Int) - 1)) < ((m.length:Nat):Int)] ⟨c4,trivial⟩ ?_
   obtain rfl:=Option.some.inj h
   refine Runs.sW hE ⟨[(4,(aI ((m.getD ((w64 (((m.length:Nat):Int) - 1)).toNat) TMark.d).f_Level)))],[],192⟩ [] (kp [4]) [] 192 [] trivial ?_
   exact Runs.sT Try.f38 [] [] trivial
theorem g_r05_At_ok (N:Nat) (m:List TMark) (minute:Int) (r:Int) (h:g_r05_At N m minute=some r):Sound Try.prog 38 [(encL TMark.cells TMark.d m),(aI minute)] [] 0 (aI r) []:=by
 unfold g_r05_At at h
 refine Sound.of_runs (fu:=Try.f38) (c:=C_46 1) (nt:=66) (by kernel_rfl) (by kernel_rfl) (by kernel_rfl) (by kernel_rfl) (fun hm=>rfl) ?_
 intro E hE
 refine Runs.sA 1 [.code (C_46 2),.code (C_46 3)] ?_
 refine Runs.sR hE ⟨[(0,(encL TMark.cells TMark.d m)),(1,(aI minute))],[],16⟩ (C_46 2) [] [] (kp [0,1]) [] 16 [] trivial ?_
 refine Runs.sA 2 [.code (C_46 12),.code (C_46 13),.code (C_46 7)] ?_
 obtain ⟨c,h⟩:=ifSome h
 refine Runs.sR hE ⟨[(0,(encL TMark.cells TMark.d m)),(1,(aI minute)),(13,(aB (decide (minute≤(m.getD 0 TMark.d).f_Minute))))],[],112⟩ (C_46 12) [] [] (kp [0,1,13]) [] 112 [0≤(0:Int)∧0 < ((m.length:Nat):Int)] ⟨c,trivial⟩ ?_
 refine Runs.sC 13 (C_46 26) (C_46 27) (decide (minute≤(m.getD 0 TMark.d).f_Minute)) (fun hq2=>?_) (fun hq2=>?_)
 ·have h:=condT h hq2
  refine Runs.sA 1 [.code (C_46 52),.code (C_46 53),.code (C_46 7)] ?_
  refine Runs.sR hE ⟨[(4,(aI ((m.getD 0 TMark.d).f_Level)))],[],192⟩ (C_46 52) [] [] (kp [4]) [] 192 [0≤(0:Int)∧0 < ((m.length:Nat):Int)] ⟨c,trivial⟩ ?_
  obtain rfl:=Option.some.inj h
  refine Runs.sW hE ⟨[(4,(aI ((m.getD 0 TMark.d).f_Level)))],[],192⟩ [] (kp [4]) [] 192 [] trivial ?_
  exact Runs.sT Try.f38 [] [] trivial
 ·have h:=condF h hq2
  refine Runs.sA 3 [.code (C_46 28),.code (C_46 29),.code (C_46 15)] ?_
  refine Runs.sR hE ⟨[(0,(encL TMark.cells TMark.d m)),(1,(aI minute)),(5,(aI 1))],[],128⟩ (C_46 28) [] [] (kp [0,1,5]) [] 128 [] trivial ?_
  refine Runs.sA 2 [.code (C_46 116),.inLoop (C_46 116),.inBlock 0,.code (C_46 15)] ?_
  exact Runs.sW hE _ [] (kp [0,1,5]) [] 0 [] trivial (g_r05_At_L1_ok N m minute N 1 _ h E hE)
noncomputable def C_43 (n:Nat):Code:=cat (bodyOf Try.f8) (pth n)
theorem g_r05_Above_J2_ok (N:Nat) (m:List TMark) (level:Int) (vto:Int) (k:Int) (K_g_r05_Above_L1:(List TS__2_int)→Int→Option ((List TS__2_int)×Int))
  (hK_g_r05_Above_L1:∀ (out:List TS__2_int) (k:Int) (r:(List TS__2_int)×Int),K_g_r05_Above_L1 out k=some r→∀ E,EnvOk E 0→Runs Try.prog E 8 77 (SPost E [] (.tup [(encL TS__2_int.cells TS__2_int.d r.1),(aI r.2)])) [.code (C_43 1012),.inLoop (C_43 1012),.inBlock 0,.code (C_43 127)] ⟨[(0,(encL TMark.cells TMark.d m)),(1,(aI level)),(3,(aI vto)),(11,(.os 0 0 out.length)),(12,(aI k))],[(0,aO 2 TS__2_int.cells TS__2_int.d out)],1⟩) (out2:List TS__2_int) (r:(List TS__2_int)×Int) (h:g_r05_Above_J2 N m level vto k K_g_r05_Above_L1 out2=some r):∀ E,EnvOk E 0→Runs Try.prog E 8 77 (SPost E [] (.tup [(encL TS__2_int.cells TS__2_int.d r.1),(aI r.2)])) [.code (C_43 4051),.inLoop (C_43 1012),.inBlock 0,.code (C_43 127)] ⟨[(0,(encL TMark.cells TMark.d m)),(1,(aI level)),(3,(aI vto)),(11,(.os 0 0 out2.length)),(12,(aI k))],[(0,aO 2 TS__2_int.cells TS__2_int.d out2)],1⟩:=by
 intro E hE
 unfold g_r05_Above_J2 at h
 refine Runs.sR hE ⟨[(0,(encL TMark.cells TMark.d m)),(1,(aI level)),(3,(aI vto)),(11,(.os 0 0 out2.length)),(12,(aI (w64 (k+1))))],[(0,aO 2 TS__2_int.cells TS__2_int.d out2)],49⟩ (C_43 4051) [] [] (kp [0,1,3,11,12]) (kq [0]) 49 [] trivial ?_
 refine Runs.sA 1 [.code (C_43 1012),.inLoop (C_43 1012),.inBlock 0,.code (C_43 127)] ?_
 exact Runs.sW hE _ [] (kp [0,1,3,11,12]) (kq [0]) 1 [] trivial (hK_g_r05_Above_L1 out2 (w64 (k+1)) _ h E hE)
theorem g_r05_Above_L1_ok (N:Nat) (m:List TMark) (level:Int) (vto:Int) (fuel:Nat):∀ (out:List TS__2_int) (k:Int) (r:(List TS__2_int)×Int),g_r05_Above_L1 N m level vto fuel out k=some r→∀ E,EnvOk E 0→Runs Try.prog E 8 77 (SPost E [] (.tup [(encL TS__2_int.cells TS__2_int.d r.1),(aI r.2)])) [.code (C_43 1012),.inLoop (C_43 1012),.inBlock 0,.code (C_43 127)] ⟨[(0,(encL TMark.cells TMark.d m)),(1,(aI level)),(3,(aI vto)),(11,(.os 0 0 out.length)),(12,(aI k))],[(0,aO 2 TS__2_int.cells TS__2_int.d out)],1⟩:=by
 induction fuel with
 | zero=>intro _ _ r h;rw [g_r05_Above_L1.eq_1] at h;cases h
 | succ fuel ih =>
  intro out k r h E hE
  rw [g_r05_Above_L1.eq_2] at h
  refine Runs.sA 2 [.code (C_43 4048),.code (C_43 4049),.code (C_43 2025),.inLoop (C_43 1012),.inBlock 0,.code (C_43 127)] ?_
  refine Runs.sR hE ⟨[(0,(encL TMark.cells TMark.d m)),(1,(aI level)),(3,(aI vto)),(11,(.os 0 0 out.length)),(12,(aI k)),(41,(aB (decide (k≤vto))))],[(0,aO 2 TS__2_int.cells TS__2_int.d out)],49⟩ (C_43 4048) [] [] (kp [0,1,3,11,12,41]) (kq [0]) 49 [] trivial ?_
  refine Runs.sC 41 (C_43 8098) (C_43 8099) (decide (k≤vto)) (fun hq5=>?_) (fun hq5=>?_)
  ·have h:=condT h hq5
   refine Runs.sA 5 [.code (C_43 32400),.code (C_43 32401),.code (C_43 16201),.inBlock 1,.code (C_43 4051),.inLoop (C_43 1012),.inBlock 0,.code (C_43 127)] ?_
   obtain ⟨rAt,hr3,h⟩:=bindSome h
   refine Runs.sR hE ⟨[(0,(encL TMark.cells TMark.d m)),(1,(aI level)),(3,(aI vto)),(11,(.os 0 0 out.length)),(12,(aI k)),(48,(aB (decide (rAt < level))))],[(0,aO 2 TS__2_int.cells TS__2_int.d out)],129⟩ (C_43 32400) [(2,⟨[],true,(aI rAt),[],0,false,none⟩)] [] (kp [0,1,3,11,12,48]) (kq [0]) 129 [Sound Try.prog 38 [(encL TMark.cells TMark.d m),(aI k)] [] 0 (aI rAt) []] ⟨(g_r05_At_ok N m k rAt hr3),trivial⟩ ?_
   refine Runs.sC 48 (C_43 64802) (C_43 64803) (decide (rAt < level)) (fun hq6=>?_) (fun hq6=>?_)
   ·have h:=condT h hq6
    refine Runs.sA 1 [.code (C_43 4051),.inLoop (C_43 1012),.inBlock 0,.code (C_43 127)] ?_
    exact Runs.sW hE _ [] (kp [0,1,3,11,12]) (kq [0]) 1 [] trivial (g_r05_Above_J2_ok N m level vto k (g_r05_Above_L1 N m level vto fuel) ih out _ h E hE)
   ·have h:=condF h hq6
    refine Runs.sA 2 [.code (C_43 32402),.code (C_43 32403),.inBlock 1,.code (C_43 4051),.inLoop (C_43 1012),.inBlock 0,.code (C_43 127)] ?_
    refine Runs.sR hE ⟨[(0,(encL TMark.cells TMark.d m)),(1,(aI level)),(3,(aI vto)),(11,(.os 0 0 out.length)),(12,(aI k)),(13,(aI ((out.length:Nat):Int)))],[(0,aO 2 TS__2_int.cells TS__2_int.d out)],177⟩ (C_43 32402) [] [] (kp [0,1,3,11,12,13]) (kq [0]) 177 [] trivial ?_
    refine Runs.sA 1 [.code (C_43 64806),.code (C_43 64807),.inBlock 1,.code (C_43 4051),.inLoop (C_43 1012),.inBlock 0,.code (C_43 127)] ?_
    obtain ⟨c,h⟩:=ifSome h
    refine Runs.sR hE ⟨[(0,(encL TMark.cells TMark.d m)),(1,(aI level)),(3,(aI vto)),(11,(.os 0 0 out.length)),(12,(aI k)),(13,(aI ((out.length:Nat):Int))),(63,(aB (cond (decide (((out.length:Nat):Int) > 0)) ((out.getD ((w64 (((out.length:Nat):Int) - 1)).toNat) TS__2_int.d).e1 == (w64 (k - 1))) false)))],[(0,aO 2 TS__2_int.cells TS__2_int.d out)],385⟩ (C_43 64806) [] [] (kp [0,1,3,11,12,13,63]) (kq [0]) 385 [(decide (((out.length:Nat):Int) > 0))=true→AllP [(decide (((out.length:Nat):Int) > 0))=true],(decide (((out.length:Nat):Int) > 0))=true→AllP [(decide (((out.length:Nat):Int) > 0))=true,(decide (((out.length:Nat):Int) > 0))=true,0≤(w64 (((out.length:Nat):Int) - 1))∧(w64 (((out.length:Nat):Int) - 1)) < ((out.length:Nat):Int)],(decide (((out.length:Nat):Int) > 0))=true→AllP [(decide (((out.length:Nat):Int) > 0))=true,0≤(1:Int)∧(1:Int) < ((2:Nat):Int)],(decide (((out.length:Nat):Int) > 0))=true→AllP [(decide (((out.length:Nat):Int) > 0))=true,(w64 (((out.length:Nat):Int) - 1)).toNat < out.length],(decide (((out.length:Nat):Int) > 0))=true→AllP [(decide (((out.length:Nat):Int) > 0))=true],(decide (((out.length:Nat):Int) > 0))=true→AllP [(decide (((out.length:Nat):Int) > 0))=true,(decide (((out.length:Nat):Int) > 0))=true],(decide (((out.length:Nat):Int) > 0))=true→AllP [(decide (((out.length:Nat):Int) > 0))=true]] ⟨(fun hg=>⟨hg,trivial⟩),(fun hg=>⟨hg,hg,(c hg),trivial⟩),(fun hg=>⟨hg,(by decide),trivial⟩),(fun hg=>⟨hg,(ltOf (c hg)),trivial⟩),(fun hg=>⟨hg,trivial⟩),(fun hg=>⟨hg,hg,trivial⟩),(fun hq=>⟨hq,trivial⟩),trivial⟩ ?_
    refine Runs.sC 63 (C_43 129614) (C_43 129615) (cond (decide (((out.length:Nat):Int) > 0)) ((out.getD ((w64 (((out.length:Nat):Int) - 1)).toNat) TS__2_int.d).e1 == (w64 (k - 1))) false) (fun hq7=>?_) (fun hq7=>?_)
    ·have h:=condT h hq7
     obtain ⟨c2,h⟩:=ifSome h
     refine Runs.sR hE ⟨[(0,(encL TMark.cells TMark.d m)),(1,(aI level)),(3,(aI vto)),(11,(.os 0 0 ((out.set ((w64 (((out.length:Nat):Int) - 1)).toNat) (⟨(out.getD ((w64 (((out.length:Nat):Int) - 1)).toNat) TS__2_int.d).e0,k⟩:TS__2_int)).length))),(12,(aI k))],[(0,aO 2 TS__2_int.cells TS__2_int.d (out.set ((w64 (((out.length:Nat):Int) - 1)).toNat) (⟨(out.getD ((w64 (((out.length:Nat):Int) - 1)).toNat) TS__2_int.d).e0,k⟩:TS__2_int)))],497⟩ (C_43 129614) [] [] (kp [0,1,3] ++ [(11,.osl ((out.set ((w64 (((out.length:Nat):Int) - 1)).toNat) (⟨(out.getD ((w64 (((out.length:Nat):Int) - 1)).toNat) TS__2_int.d).e0,k⟩:TS__2_int)).length))] ++ kp [12]) [(0,.arr 0 ((out.set ((w64 (((out.length:Nat):Int) - 1)).toNat) (⟨(out.getD ((w64 (((out.length:Nat):Int) - 1)).toNat) TS__2_int.d).e0,k⟩:TS__2_int)).length) (fun zi=>TS__2_int.cells ((out.set ((w64 (((out.length:Nat):Int) - 1)).toNat) (⟨(out.getD ((w64 (((out.length:Nat):Int) - 1)).toNat) TS__2_int.d).e0,k⟩:TS__2_int)).getD zi TS__2_int.d)))] 497 [0≤(w64 (((out.length:Nat):Int) - 1))∧(w64 (((out.length:Nat):Int) - 1)) < ((out.length:Nat):Int),0≤(1:Int)∧(1:Int) < ((2:Nat):Int),(w64 (((out.length:Nat):Int) - 1)).toNat < out.length,out.length=(out.set ((w64 (((out.length:Nat):Int) - 1)).toNat) (⟨(out.getD ((w64 (((out.length:Nat):Int) - 1)).toNat) TS__2_int.d).e0,k⟩:TS__2_int)).length,out.length=(out.set ((w64 (((out.length:Nat):Int) - 1)).toNat) (⟨(out.getD ((w64 (((out.length:Nat):Int) - 1)).toNat) TS__2_int.d).e0,k⟩:TS__2_int)).length,∀ zi,zi < (out.set ((w64 (((out.length:Nat):Int) - 1)).toNat) (⟨(out.getD ((w64 (((out.length:Nat):Int) - 1)).toNat) TS__2_int.d).e0,k⟩:TS__2_int)).length→(fun zi=>TS__2_int.cells ((out.set ((w64 (((out.length:Nat):Int) - 1)).toNat) (⟨(out.getD ((w64 (((out.length:Nat):Int) - 1)).toNat) TS__2_int.d).e0,k⟩:TS__2_int)).getD zi TS__2_int.d)) zi=((fun zm=>if zm=(w64 (((out.length:Nat):Int) - 1)).toNat then [(aI ((out.getD ((w64 (((out.length:Nat):Int) - 1)).toNat) TS__2_int.d).e0)),(aI k)] else (fun zi=>TS__2_int.cells (out.getD zi TS__2_int.d)) zm)) zi] ⟨c2,(by decide),(ltOf c2),(len_set_raw rfl),(len_set_raw rfl),(get_set_raw TS__2_int.cells TS__2_int.d out ((w64 (((out.length:Nat):Int) - 1)).toNat) (⟨(out.getD ((w64 (((out.length:Nat):Int) - 1)).toNat) TS__2_int.d).e0,k⟩:TS__2_int) (fun _ _=>rfl)),trivial⟩ ?_
     refine Runs.sA 1 [.code (C_43 4051),.inLoop (C_43 1012),.inBlock 0,.code (C_43 127)] ?_
     exact Runs.sW hE _ [] (kp [0,1,3,11,12]) (kq [0]) 1 [] trivial (g_r05_Above_J2_ok N m level vto k (g_r05_Above_L1 N m level vto fuel) ih (out.set ((w64 (((out.length:Nat):Int) - 1)).toNat) (⟨(out.getD ((w64 (((out.length:Nat):Int) - 1)).toNat) TS__2_int.d).e0,k⟩:TS__2_int)) _ h E hE)
    ·have h:=condF h hq7
     obtain ⟨c3,h⟩:=ifSome h
     refine Runs.sR hE ⟨[(0,(encL TMark.cells TMark.d m)),(1,(aI level)),(3,(aI vto)),(11,(.os 465 0 ((out ++ ([(⟨k,k⟩:TS__2_int)]:List TS__2_int)).length))),(12,(aI k))],[(465,aO 2 TS__2_int.cells TS__2_int.d (out ++ ([(⟨k,k⟩:TS__2_int)]:List TS__2_int)))],497⟩ (C_43 129615) [] [] (kp [0,1,3] ++ [(11,.osl ((out ++ ([(⟨k,k⟩:TS__2_int)]:List TS__2_int)).length))] ++ kp [12]) [(465,.arr 465 ((out ++ ([(⟨k,k⟩:TS__2_int)]:List TS__2_int)).length) (fun zi=>TS__2_int.cells ((out ++ ([(⟨k,k⟩:TS__2_int)]:List TS__2_int)).getD zi TS__2_int.d)))] 497 [out.length=out.length,(out.length+1) * 16≤140737488355328,0+1≤1,∀ zi,zi < 1→AV.oneL ((fun zi=>([[(aI k),(aI k)]]:List (List AV)).getD zi []) (addz 0 zi))=true,(out.length+1)=(out ++ ([(⟨k,k⟩:TS__2_int)]:List TS__2_int)).length,out.length+1=(out ++ ([(⟨k,k⟩:TS__2_int)]:List TS__2_int)).length,∀ zi,zi < (out ++ ([(⟨k,k⟩:TS__2_int)]:List TS__2_int)).length→(fun zi=>TS__2_int.cells ((out ++ ([(⟨k,k⟩:TS__2_int)]:List TS__2_int)).getD zi TS__2_int.d)) zi=((fun zm=>if zm < out.length then (fun zi=>TS__2_int.cells (out.getD zi TS__2_int.d)) zm else (fun zi=>([[(aI k),(aI k)]]:List (List AV)).getD zi []) (zm - out.length))) zi] ⟨rfl,c3,z0,(oneN rfl),(len_app_raw rfl rfl),(len_app_raw rfl rfl),(get_app_raw TS__2_int.cells TS__2_int.d out ([(⟨k,k⟩:TS__2_int)]:List TS__2_int) rfl (fun _ _=>rfl) (fun zq hzq=>get_chunk TS__2_int.cells TS__2_int.d ([(⟨k,k⟩:TS__2_int)]:List TS__2_int) zq hzq)),trivial⟩ ?_
     refine Runs.sA 1 [.code (C_43 4051),.inLoop (C_43 1012),.inBlock 0,.code (C_43 127)] ?_
     exact Runs.sW hE _ [] (kp [0,1,3,11,12]) [(0,.keep 465)] 1 [] trivial (g_r05_Above_J2_ok N m level vto k (g_r05_Above_L1 N m level vto fuel) ih (out ++ ([(⟨k,k⟩:TS__2_int)]:List TS__2_int)) _ h E hE)
  ·have h:=condF h hq5
   refine Runs.sA 2 [.code (C_43 254),.code (C_43 255)] ?_
   refine Runs.sR hE ⟨[(8,(.os 0 0 out.length)),(9,(aI 0))],[(0,aO 2 TS__2_int.cells TS__2_int.d out)],97⟩ (C_43 254) [] [] (kp [8,9]) (kq [0]) 97 [] trivial ?_
   obtain rfl:=Option.some.inj h
   refine Runs.sW hE ⟨[(8,(encL TS__2_int.cells TS__2_int.d out)),(9,(aI 0))],[],97⟩ [0] ([(8,.sl (out.length) (fun zi=>TS__2_int.cells (out.getD zi TS__2_int.d)))] ++ kp [9]) [] 97 [out.length=out.length,0+out.length≤out.length,∀ zi,zi < out.length→(fun zi=>TS__2_int.cells (out.getD zi TS__2_int.d)) zi=(fun zi=>TS__2_int.cells (out.getD zi TS__2_int.d)) (addz 0 zi)] ⟨rfl,z0,(fun _ _=>rfl),trivial⟩ ?_
   exact Runs.sT Try.f8 [] [] trivial
theorem g_r05_Above_ok (N:Nat) (m:List TMark) (level:Int) (vfrom:Int) (vto:Int) (r:(List TS__2_int)×Int) (h:g_r05_Above N m level vfrom vto=some r):Sound Try.prog 8 [(encL TMark.cells TMark.d m),(aI level),(aI vfrom),(aI vto)] [] 0 (.tup [(encL TS__2_int.cells TS__2_int.d r.1),(aI r.2)]) []:=by
 unfold g_r05_Above at h
 refine Sound.of_runs (fu:=Try.f8) (c:=C_43 1) (nt:=77) (by kernel_rfl) (by kernel_rfl) (by kernel_rfl) (by kernel_rfl) (fun hm=>rfl) ?_
 intro E hE
 refine Runs.sA 1 [.code (C_43 2),.code (C_43 3)] ?_
 refine Runs.sR hE ⟨[(0,(encL TMark.cells TMark.d m)),(1,(aI level)),(2,(aI vfrom)),(3,(aI vto))],[],32⟩ (C_43 2) [] [] (kp [0,1,2,3]) [] 32 [] trivial ?_
 refine Runs.sA 2 [.code (C_43 12),.code (C_43 13),.code (C_43 7)] ?_
 obtain ⟨rCheckSea,hr,h⟩:=bindSome h
 refine Runs.sR hE ⟨[(0,(encL TMark.cells TMark.d m)),(1,(aI level)),(2,(aI vfrom)),(3,(aI vto)),(10,(aI rCheckSea))],[],80⟩ (C_43 12) [(1,⟨[],true,(aI rCheckSea),[],0,false,none⟩)] [] (kp [0,1,2,3,10]) [] 80 [Sound Try.prog 36 [(encL TMark.cells TMark.d m)] [] 0 (aI rCheckSea) []] ⟨(g_r05_CheckSea_ok N m rCheckSea hr),trivial⟩ ?_
 refine Runs.sA 1 [.code (C_43 26),.code (C_43 27),.code (C_43 7)] ?_
 refine Runs.sR hE ⟨[(0,(encL TMark.cells TMark.d m)),(1,(aI level)),(2,(aI vfrom)),(3,(aI vto)),(10,(aI rCheckSea)),(17,(aB (rCheckSea != 0)))],[],112⟩ (C_43 26) [] [] (kp [0,1,2,3,10,17]) [] 112 [] trivial ?_
 refine Runs.sC 17 (C_43 54) (C_43 55) (rCheckSea != 0) (fun hq2=>?_) (fun hq2=>?_)
 ·have h:=condT h hq2
  refine Runs.sA 1 [.code (C_43 108),.code (C_43 109),.code (C_43 7)] ?_
  refine Runs.sR hE ⟨[(8,.nil),(9,(aI rCheckSea))],[],160⟩ (C_43 108) [] [] (kp [8,9]) [] 160 [] trivial ?_
  obtain rfl:=Option.some.inj h
  refine Runs.sW hE ⟨[(8,(encL TS__2_int.cells TS__2_int.d ([]:List TS__2_int))),(9,(aI rCheckSea))],[],160⟩ [] ([(8,.sl (([]:List TS__2_int).length) (fun zi=>TS__2_int.cells (([]:List TS__2_int).getD zi TS__2_int.d)))] ++ kp [9]) [] 160 [([]:List TS__2_int).length=0] ⟨rfl,trivial⟩ ?_
  exact Runs.sT Try.f8 [] [] trivial
 ·have h:=condF h hq2
  refine Runs.sA 3 [.code (C_43 28),.code (C_43 29),.code (C_43 15)] ?_
  obtain ⟨rinside,hr2,h⟩:=bindSome h
  refine Runs.sR hE ⟨[(0,(encL TMark.cells TMark.d m)),(1,(aI level)),(2,(aI vfrom)),(3,(aI vto)),(34,(aB (cond (cond (cond (!rinside) true (decide (vfrom < 0))) true (decide (vto < vfrom))) true (decide (vto > 1000000)))))],[],368⟩ (C_43 28) [(1,⟨[],true,(aB rinside),[],0,false,none⟩)] [] (kp [0,1,2,3,34]) [] 368 [Sound Try.prog 37 [(aI level),(aI (-1000000)),(aI 1000000)] [] 0 (aB rinside) [],(!(!rinside))=true→AllP [(!(!rinside))=true],(!(!rinside))=true→AllP [(!(!rinside))=true],(!(cond (!rinside) true (decide (vfrom < 0))))=true→AllP [(!(cond (!rinside) true (decide (vfrom < 0))))=true,(!(cond (!rinside) true (decide (vfrom < 0))))=true],(!(cond (!rinside) true (decide (vfrom < 0))))=true→AllP [(!(cond (!rinside) true (decide (vfrom < 0))))=true],(!(cond (cond (!rinside) true (decide (vfrom < 0))) true (decide (vto < vfrom))))=true→AllP [(!(cond (cond (!rinside) true (decide (vfrom < 0))) true (decide (vto < vfrom))))=true],(!(cond (cond (!rinside) true (decide (vfrom < 0))) true (decide (vto < vfrom))))=true→AllP [(!(cond (cond (!rinside) true (decide (vfrom < 0))) true (decide (vto < vfrom))))=true]] ⟨(g_r05_inside_ok N level (-1000000) 1000000 rinside hr2),(fun hg=>⟨hg,trivial⟩),(fun hq=>⟨hq,trivial⟩),(fun hg=>⟨hg,hg,trivial⟩),(fun hq=>⟨hq,trivial⟩),(fun hg=>⟨hg,trivial⟩),(fun hq=>⟨hq,trivial⟩),trivial⟩ ?_
  refine Runs.sC 34 (C_43 58) (C_43 59) (cond (cond (cond (!rinside) true (decide (vfrom < 0))) true (decide (vto < vfrom))) true (decide (vto > 1000000))) (fun hq3=>?_) (fun hq3=>?_)
  ·have h:=condT h hq3
   refine Runs.sA 1 [.code (C_43 116),.code (C_43 117),.code (C_43 15)] ?_
   refine Runs.sR hE ⟨[(8,.nil),(9,(aI 2))],[],400⟩ (C_43 116) [] [] (kp [8,9]) [] 400 [] trivial ?_
   obtain rfl:=Option.some.inj h
   refine Runs.sW hE ⟨[(8,(encL TS__2_int.cells TS__2_int.d ([]:List TS__2_int))),(9,(aI 2))],[],400⟩ [] ([(8,.sl (([]:List TS__2_int).length) (fun zi=>TS__2_int.cells (([]:List TS__2_int).getD zi TS__2_int.d)))] ++ kp [9]) [] 400 [([]:List TS__2_int).length=0] ⟨rfl,trivial⟩ ?_
   exact Runs.sT Try.f8 [] [] trivial
  ·have h:=condF h hq3
   refine Runs.sA 3 [.code (C_43 60),.code (C_43 61),.code (C_43 31)] ?_
   refine Runs.sR hE ⟨[(0,(encL TMark.cells TMark.d m)),(1,(aI level)),(2,(aI vfrom)),(3,(aI vto)),(37,(aB (((m.length:Nat):Int) == 0)))],[],416⟩ (C_43 60) [] [] (kp [0,1,2,3,37]) [] 416 [] trivial ?_
   refine Runs.sC 37 (C_43 122) (C_43 123) (((m.length:Nat):Int) == 0) (fun hq4=>?_) (fun hq4=>?_)
   ·have h:=condT h hq4
    refine Runs.sA 1 [.code (C_43 244),.code (C_43 245),.code (C_43 31)] ?_
    refine Runs.sR hE ⟨[(8,.nil),(9,(aI 29))],[],448⟩ (C_43 244) [] [] (kp [8,9]) [] 448 [] trivial ?_
    obtain rfl:=Option.some.inj h
    refine Runs.sW hE ⟨[(8,(encL TS__2_int.cells TS__2_int.d ([]:List TS__2_int))),(9,(aI 29))],[],448⟩ [] ([(8,.sl (([]:List TS__2_int).length) (fun zi=>TS__2_int.cells (([]:List TS__2_int).getD zi TS__2_int.d)))] ++ kp [9]) [] 448 [([]:List TS__2_int).length=0] ⟨rfl,trivial⟩ ?_
    exact Runs.sT Try.f8 [] [] trivial
   ·have h:=condF h hq4
    refine Runs.sA 2 [.code (C_43 62),.code (C_43 63)] ?_
    refine Runs.sR hE ⟨[(0,(encL TMark.cells TMark.d m)),(1,(aI level)),(2,(aI vfrom)),(3,(aI vto)),(11,.nil)],[],432⟩ (C_43 62) [] [] (kp [0,1,2,3,11]) [] 432 [] trivial ?_
    refine Runs.sA 2 [.code (C_43 252),.code (C_43 253),.code (C_43 127)] ?_
    refine Runs.sR hE ⟨[(0,(encL TMark.cells TMark.d m)),(1,(aI level)),(3,(aI vto)),(11,.nil),(12,(aI vfrom))],[],464⟩ (C_43 252) [] [] (kp [0,1,3,11,12]) [] 464 [] trivial ?_
    refine Runs.sA 2 [.code (C_43 1012),.inLoop (C_43 1012),.inBlock 0,.code (C_43 127)] ?_
    exact Runs.sW hE _ [] (kp [0,1,3] ++ [(11,.nilos 0)] ++ kp [12]) [(0,.nil 2 (fun zi=>TS__2_int.cells (([]:List TS__2_int).getD zi TS__2_int.d)))] 1 [] trivial (g_r05_Above_L1_ok N m level vto N ([]:List TS__2_int) vfrom _ h E hE)
noncomputable def C_0 (n:Nat):Code:=cat (bodyOf Try.f3) (pth n)
theorem g_w05_WaterWindows_L1_ok (N:Nat) (rAbove:(List TS__2_int)×Int) (rAbove2:(List TS__2_int)×Int) (fuel:Nat):∀ (i:Int) (r:Bool),g_w05_WaterWindows_L1 N rAbove rAbove2 fuel i=some r→∀ E,EnvOk E 0→Runs Try.prog E 3 85 (SPost E [] (aB r)) [.code (C_0 2036),.inLoop (C_0 2036),.inBlock 0,.code (C_0 255)] ⟨[(7,(encL TS__2_int.cells TS__2_int.d rAbove.1)),(9,(encL TS__2_int.cells TS__2_int.d rAbove2.1)),(11,(aI i))],[],0⟩:=by
 induction fuel with
 | zero=>intro _ r h;rw [g_w05_WaterWindows_L1.eq_1] at h;cases h
 | succ fuel ih =>
  intro i r h E hE
  rw [g_w05_WaterWindows_L1.eq_2] at h
  refine Runs.sA 2 [.code (C_0 8144),.code (C_0 8145),.code (C_0 4073),.inLoop (C_0 2036),.inBlock 0,.code (C_0 255)] ?_
  refine Runs.sR hE ⟨[(7,(encL TS__2_int.cells TS__2_int.d rAbove.1)),(9,(encL TS__2_int.cells TS__2_int.d rAbove2.1)),(11,(aI i)),(73,(aB (decide (i < ((rAbove.1.length:Nat):Int)))))],[],64⟩ (C_0 8144) [] [] (kp [7,9,11,73]) [] 64 [] trivial ?_
  refine Runs.sC 73 (C_0 16290) (C_0 16291) (decide (i < ((rAbove.1.length:Nat):Int))) (fun hq5=>?_) (fun hq5=>?_)
  ·have h:=condT h hq5
   refine Runs.sA 4 [.code (C_0 32584),.code (C_0 32585),.inBlock 1,.code (C_0 8147),.inLoop (C_0 2036),.inBlock 0,.code (C_0 255)] ?_
   obtain ⟨c,h⟩:=ifSome h
   obtain ⟨c2,h⟩:=ifSome h
   refine Runs.sR hE ⟨[(7,(encL TS__2_int.cells TS__2_int.d rAbove.1)),(9,(encL TS__2_int.cells TS__2_int.d rAbove2.1)),(11,(aI i)),(84,(aB (!(((rAbove.1.getD ((i).toNat) TS__2_int.d).e0 == (rAbove2.1.getD ((i).toNat) TS__2_int.d).e0) && (((rAbove.1.getD ((i).toNat) TS__2_int.d).e1 == (rAbove2.1.getD ((i).toNat) TS__2_int.d).e1) && true)))))],[],208⟩ (C_0 32584) [] [] (kp [7,9,11,84]) [] 208 [0≤i∧i < ((rAbove.1.length:Nat):Int),0≤i∧i < ((rAbove2.1.length:Nat):Int)] ⟨c,c2,trivial⟩ ?_
   refine Runs.sC 84 (C_0 65170) (C_0 65171) (!(((rAbove.1.getD ((i).toNat) TS__2_int.d).e0 == (rAbove2.1.getD ((i).toNat) TS__2_int.d).e0) && (((rAbove.1.getD ((i).toNat) TS__2_int.d).e1 == (rAbove2.1.getD ((i).toNat) TS__2_int.d).e1) && true))) (fun hq6=>?_) (fun hq6=>?_)
   ·have h:=condT h hq6
    refine Runs.sA 1 [.code (C_0 130340),.code (C_0 130341),.inBlock 1,.code (C_0 8147),.inLoop (C_0 2036),.inBlock 0,.code (C_0 255)] ?_
    refine Runs.sR hE ⟨[(6,(aB false))],[],224⟩ (C_0 130340) [] [] (kp [6]) [] 224 [] trivial ?_
    obtain rfl:=Option.some.inj h
    refine Runs.sW hE ⟨[(6,(aB false))],[],224⟩ [] (kp [6]) [] 224 [] trivial ?_
    exact Runs.sT Try.f3 [] [] trivial
   ·have h:=condF h hq6
    refine Runs.sA 2 [.code (C_0 8147),.inLoop (C_0 2036),.inBlock 0,.code (C_0 255)] ?_
    refine Runs.sR hE ⟨[(7,(encL TS__2_int.cells TS__2_int.d rAbove.1)),(9,(encL TS__2_int.cells TS__2_int.d rAbove2.1)),(11,(aI (w64 (i+1))))],[],256⟩ (C_0 8147) [] [] (kp [7,9,11]) [] 256 [] trivial ?_
    refine Runs.sA 1 [.code (C_0 2036),.inLoop (C_0 2036),.inBlock 0,.code (C_0 255)] ?_
    exact Runs.sW hE _ [] (kp [7,9,11]) [] 0 [] trivial (ih (w64 (i+1)) _ h E hE)
  ·have h:=condF h hq5
   refine Runs.sA 2 [.code (C_0 510),.code (C_0 511)] ?_
   refine Runs.sR hE ⟨[(6,(aB true))],[],80⟩ (C_0 510) [] [] (kp [6]) [] 80 [] trivial ?_
   obtain rfl:=Option.some.inj h
   refine Runs.sW hE ⟨[(6,(aB true))],[],80⟩ [] (kp [6]) [] 80 [] trivial ?_
   exact Runs.sT Try.f3 [] [] trivial
theorem g_w05_WaterWindows_ok (N:Nat) (m:List TMark) (level:Int) (vat:TS__2_int) (r:Bool) (h:g_w05_WaterWindows N m level vat=some r):Sound Try.prog 3 [(encL TMark.cells TMark.d m),(aI level),(.agg (TS__2_int.cells vat))] [] 0 (aB r) []:=by
 unfold g_w05_WaterWindows at h
 refine Sound.of_runs (fu:=Try.f3) (c:=C_0 1) (nt:=85) (by kernel_rfl) (by kernel_rfl) (by kernel_rfl) (by kernel_rfl) (fun hm=>rfl) ?_
 intro E hE
 refine Runs.sA 1 [.code (C_0 2),.code (C_0 3)] ?_
 refine Runs.sR hE ⟨[(0,(encL TMark.cells TMark.d m)),(1,(aI level)),(5,(.op 0 0 0))],[(0,vO 2 (TS__2_int.cells vat))],32⟩ (C_0 2) [] [] (kp [0,1,5]) (kq [0]) 32 [] trivial ?_
 refine Runs.sA 2 [.code (C_0 12),.code (C_0 13),.code (C_0 7)] ?_
 obtain ⟨rawake,hr,h⟩:=bindSome h
 refine Runs.sR hE ⟨[(0,(encL TMark.cells TMark.d m)),(1,(aI level)),(5,(.op 0 0 0)),(13,(aB (!rawake)))],[(0,vO 2 (TS__2_int.cells vat))],64⟩ (C_0 12) [(0,⟨[],true,(aB rawake),[],0,false,none⟩)] [] (kp [0,1,5,13]) (kq [0]) 64 [Sound Try.prog 6 [] [] 0 (aB rawake) []] ⟨(g_w05_awake_ok N rawake hr),trivial⟩ ?_
 refine Runs.sC 13 (C_0 26) (C_0 27) (!rawake) (fun hq2=>?_) (fun hq2=>?_)
 ·have h:=condT h hq2
  refine Runs.sA 1 [.code (C_0 52),.code (C_0 53),.code (C_0 7)] ?_
  refine Runs.sR hE ⟨[(6,(aB false))],[],80⟩ (C_0 52) [] [] (kp [6]) [] 80 [] trivial ?_
  obtain rfl:=Option.some.inj h
  refine Runs.sW hE ⟨[(6,(aB false))],[],80⟩ [] (kp [6]) [] 80 [] trivial ?_
  exact Runs.sT Try.f3 [] [] trivial
 ·have h:=condF h hq2
  refine Runs.sA 3 [.code (C_0 28),.code (C_0 29),.code (C_0 15)] ?_
  refine Runs.sR hE ⟨[(0,(encL TMark.cells TMark.d m)),(1,(aI level)),(5,(.op 0 0 0)),(39,(aB (cond (cond (decide (((m.length:Nat):Int) > 40)) (decide (((m.length:Nat):Int)≤400)) false) true (cond (cond (decide (vat.e0≥0)) (decide (vat.e1≤1000000)) false) (decide ((w64 (vat.e1 - vat.e0)) > 2000)) false))))],[(0,vO 2 (TS__2_int.cells vat))],480⟩ (C_0 28) [] [] (kp [0,1,5,39]) (kq [0]) 480 [(decide (((m.length:Nat):Int) > 40))=true→AllP [(decide (((m.length:Nat):Int) > 40))=true],(decide (((m.length:Nat):Int) > 40))=true→AllP [(decide (((m.length:Nat):Int) > 40))=true],(decide (((m.length:Nat):Int) > 40))=true→AllP [(decide (((m.length:Nat):Int) > 40))=true],(!(cond (decide (((m.length:Nat):Int) > 40)) (decide (((m.length:Nat):Int)≤400)) false))=true→AllP [0≤(0:Int)∧(0:Int) < ((2:Nat):Int)],(!(cond (decide (((m.length:Nat):Int) > 40)) (decide (((m.length:Nat):Int)≤400)) false))=true→AllP [(!(cond (decide (((m.length:Nat):Int) > 40)) (decide (((m.length:Nat):Int)≤400)) false))=true,0 < 1],(!(cond (decide (((m.length:Nat):Int) > 40)) (decide (((m.length:Nat):Int)≤400)) false))=true→AllP [(!(cond (decide (((m.length:Nat):Int) > 40)) (decide (((m.length:Nat):Int)≤400)) false))=true],((!(cond (decide (((m.length:Nat):Int) > 40)) (decide (((m.length:Nat):Int)≤400)) false)) && ((!(cond (decide (((m.length:Nat):Int) > 40)) (decide (((m.length:Nat):Int)≤400)) false)) && (decide (vat.e0≥0))))=true→AllP [0≤(1:Int)∧(1:Int) < ((2:Nat):Int)],((!(cond (decide (((m.length:Nat):Int) > 40)) (decide (((m.length:Nat):Int)≤400)) false)) && ((!(cond (decide (((m.length:Nat):Int) > 40)) (decide (((m.length:Nat):Int)≤400)) false)) && (decide (vat.e0≥0))))=true→AllP [((!(cond (decide (((m.length:Nat):Int) > 40)) (decide (((m.length:Nat):Int)≤400)) false)) && ((!(cond (decide (((m.length:Nat):Int) > 40)) (decide (((m.length:Nat):Int)≤400)) false)) && (decide (vat.e0≥0))))=true,0 < 1],((!(cond (decide (((m.length:Nat):Int) > 40)) (decide (((m.length:Nat):Int)≤400)) false)) && ((!(cond (decide (((m.length:Nat):Int) > 40)) (decide (((m.length:Nat):Int)≤400)) false)) && (decide (vat.e0≥0))))=true→AllP [((!(cond (decide (((m.length:Nat):Int) > 40)) (decide (((m.length:Nat):Int)≤400)) false)) && ((!(cond (decide (((m.length:Nat):Int) > 40)) (decide (((m.length:Nat):Int)≤400)) false)) && (decide (vat.e0≥0))))=true],(!(cond (decide (((m.length:Nat):Int) > 40)) (decide (((m.length:Nat):Int)≤400)) false))=true→AllP [(!(cond (decide (((m.length:Nat):Int) > 40)) (decide (((m.length:Nat):Int)≤400)) false))=true,(!(cond (decide (((m.length:Nat):Int) > 40)) (decide (((m.length:Nat):Int)≤400)) false))=true,(decide (vat.e0≥0))=true→AllP [((!(cond (decide (((m.length:Nat):Int) > 40)) (decide (((m.length:Nat):Int)≤400)) false)) && ((!(cond (decide (((m.length:Nat):Int) > 40)) (decide (((m.length:Nat):Int)≤400)) false)) && (decide (vat.e0≥0))))=true]],((!(cond (decide (((m.length:Nat):Int) > 40)) (decide (((m.length:Nat):Int)≤400)) false)) && ((!(cond (decide (((m.length:Nat):Int) > 40)) (decide (((m.length:Nat):Int)≤400)) false)) && (cond (decide (vat.e0≥0)) (decide (vat.e1≤1000000)) false)))=true→AllP [0≤(1:Int)∧(1:Int) < ((2:Nat):Int)],((!(cond (decide (((m.length:Nat):Int) > 40)) (decide (((m.length:Nat):Int)≤400)) false)) && ((!(cond (decide (((m.length:Nat):Int) > 40)) (decide (((m.length:Nat):Int)≤400)) false)) && (cond (decide (vat.e0≥0)) (decide (vat.e1≤1000000)) false)))=true→AllP [((!(cond (decide (((m.length:Nat):Int) > 40)) (decide (((m.length:Nat):Int)≤400)) false)) && ((!(cond (decide (((m.length:Nat):Int) > 40)) (decide (((m.length:Nat):Int)≤400)) false)) && (cond (decide (vat.e0≥0)) (decide (vat.e1≤1000000)) false)))=true,0 < 1],((!(cond (decide (((m.length:Nat):Int) > 40)) (decide (((m.length:Nat):Int)≤400)) false)) && ((!(cond (decide (((m.length:Nat):Int) > 40)) (decide (((m.length:Nat):Int)≤400)) false)) && (cond (decide (vat.e0≥0)) (decide (vat.e1≤1000000)) false)))=true→AllP [0≤(0:Int)∧(0:Int) < ((2:Nat):Int)],((!(cond (decide (((m.length:Nat):Int) > 40)) (decide (((m.length:Nat):Int)≤400)) false)) && ((!(cond (decide (((m.length:Nat):Int) > 40)) (decide (((m.length:Nat):Int)≤400)) false)) && (cond (decide (vat.e0≥0)) (decide (vat.e1≤1000000)) false)))=true→AllP [((!(cond (decide (((m.length:Nat):Int) > 40)) (decide (((m.length:Nat):Int)≤400)) false)) && ((!(cond (decide (((m.length:Nat):Int) > 40)) (decide (((m.length:Nat):Int)≤400)) false)) && (cond (decide (vat.e0≥0)) (decide (vat.e1≤1000000)) false)))=true,0 < 1],((!(cond (decide (((m.length:Nat):Int) > 40)) (decide (((m.length:Nat):Int)≤400)) false)) && ((!(cond (decide (((m.length:Nat):Int) > 40)) (decide (((m.length:Nat):Int)≤400)) false)) && (cond (decide (vat.e0≥0)) (decide (vat.e1≤1000000)) false)))=true→AllP [((!(cond (decide (((m.length:Nat):Int) > 40)) (decide (((m.length:Nat):Int)≤400)) false)) && ((!(cond (decide (((m.length:Nat):Int) > 40)) (decide (((m.length:Nat):Int)≤400)) false)) && (cond (decide (vat.e0≥0)) (decide (vat.e1≤1000000)) false)))=true,((!(cond (decide (((m.length:Nat):Int) > 40)) (decide (((m.length:Nat):Int)≤400)) false)) && ((!(cond (decide (((m.length:Nat):Int) > 40)) (decide (((m.length:Nat):Int)≤400)) false)) && (cond (decide (vat.e0≥0)) (decide (vat.e1≤1000000)) false)))=true],((!(cond (decide (((m.length:Nat):Int) > 40)) (decide (((m.length:Nat):Int)≤400)) false)) && ((!(cond (decide (((m.length:Nat):Int) > 40)) (decide (((m.length:Nat):Int)≤400)) false)) && (cond (decide (vat.e0≥0)) (decide (vat.e1≤1000000)) false)))=true→AllP [((!(cond (decide (((m.length:Nat):Int) > 40)) (decide (((m.length:Nat):Int)≤400)) false)) && ((!(cond (decide (((m.length:Nat):Int) > 40)) (decide (((m.length:Nat):Int)≤400)) false)) && (cond (decide (vat.e0≥0)) (decide (vat.e1≤1000000)) false)))=true],(!(cond (decide (((m.length:Nat):Int) > 40)) (decide (((m.length:Nat):Int)≤400)) false))=true→AllP [(!(cond (decide (((m.length:Nat):Int) > 40)) (decide (((m.length:Nat):Int)≤400)) false))=true,(!(cond (decide (((m.length:Nat):Int) > 40)) (decide (((m.length:Nat):Int)≤400)) false))=true,(cond (decide (vat.e0≥0)) (decide (vat.e1≤1000000)) false)=true→AllP [((!(cond (decide (((m.length:Nat):Int) > 40)) (decide (((m.length:Nat):Int)≤400)) false)) && ((!(cond (decide (((m.length:Nat):Int) > 40)) (decide (((m.length:Nat):Int)≤400)) false)) && (cond (decide (vat.e0≥0)) (decide (vat.e1≤1000000)) false)))=true]],(!(cond (decide (((m.length:Nat):Int) > 40)) (decide (((m.length:Nat):Int)≤400)) false))=true→AllP [(!(cond (decide (((m.length:Nat):Int) > 40)) (decide (((m.length:Nat):Int)≤400)) false))=true]] ⟨(fun hg=>⟨hg,trivial⟩),(fun hg=>⟨hg,trivial⟩),(fun hq=>⟨hq,trivial⟩),(fun hg=>⟨(by decide),trivial⟩),(fun hg=>⟨hg,o1,trivial⟩),(fun hg=>⟨hg,trivial⟩),(fun hg=>⟨(by decide),trivial⟩),(fun hg=>⟨hg,o1,trivial⟩),(fun hg=>⟨hg,trivial⟩),(fun hg=>⟨hg,hg,(fun hq=>⟨(andI' hg (andI' hg hq)),trivial⟩),trivial⟩),(fun hg=>⟨(by decide),trivial⟩),(fun hg=>⟨hg,o1,trivial⟩),(fun hg=>⟨(by decide),trivial⟩),(fun hg=>⟨hg,o1,trivial⟩),(fun hg=>⟨hg,hg,trivial⟩),(fun hg=>⟨hg,trivial⟩),(fun hg=>⟨hg,hg,(fun hq=>⟨(andI' hg (andI' hg hq)),trivial⟩),trivial⟩),(fun hq=>⟨hq,trivial⟩),trivial⟩ ?_
  refine Runs.sC 39 (C_0 58) (C_0 59) (cond (cond (decide (((m.length:Nat):Int) > 40)) (decide (((m.length:Nat):Int)≤400)) false) true (cond (cond (decide (vat.e0≥0)) (decide (vat.e1≤1000000)) false) (decide ((w64 (vat.e1 - vat.e0)) > 2000)) false)) (fun hq3=>?_) (fun hq3=>?_)
  ·have h:=condT h hq3
   refine Runs.sA 1 [.code (C_0 116),.code (C_0 117),.code (C_0 15)] ?_
   refine Runs.sR hE ⟨[(6,(aB true))],[],496⟩ (C_0 116) [] [] (kp [6]) [] 496 [] trivial ?_
   obtain rfl:=Option.some.inj h
   refine Runs.sW hE ⟨[(6,(aB true))],[],496⟩ [] (kp [6]) [] 496 [] trivial ?_
   exact Runs.sT Try.f3 [] [] trivial
  ·have h:=condF h hq3
   refine Runs.sA 2 [.code (C_0 30),.code (C_0 31)] ?_
   obtain ⟨rAbove,hr2,h⟩:=bindSome h
   refine Runs.sR hE ⟨[(0,(encL TMark.cells TMark.d m)),(1,(aI level)),(5,(.op 0 0 0)),(7,(encL TS__2_int.cells TS__2_int.d rAbove.1)),(8,(aI rAbove.2))],[(0,vO 2 (TS__2_int.cells vat))],672⟩ (C_0 30) [(6,⟨[],true,(.tup [(encL TS__2_int.cells TS__2_int.d rAbove.1),(aI rAbove.2)]),[],0,false,none⟩)] [] (kp [0,1,5,7,8]) (kq [0]) 672 [0≤(0:Int)∧(0:Int) < ((2:Nat):Int),0 < 1,0≤(1:Int)∧(1:Int) < ((2:Nat):Int),0 < 1,Sound Try.prog 7 [(encL TMark.cells TMark.d m),(aI level),(aI vat.e0),(aI vat.e1)] [] 0 (.tup [(encL TS__2_int.cells TS__2_int.d rAbove.1),(aI rAbove.2)]) []] ⟨(by decide),o1,(by decide),o1,(g_water_Above_ok N m level vat.e0 vat.e1 rAbove hr2),trivial⟩ ?_
   refine Runs.sA 1 [.code (C_0 62),.code (C_0 63)] ?_
   obtain ⟨rAbove2,hr3,h⟩:=bindSome h
   refine Runs.sR hE ⟨[(7,(encL TS__2_int.cells TS__2_int.d rAbove.1)),(8,(aI rAbove.2)),(9,(encL TS__2_int.cells TS__2_int.d rAbove2.1)),(10,(aI rAbove2.2))],[],864⟩ (C_0 62) [(6,⟨[],true,(.tup [(encL TS__2_int.cells TS__2_int.d rAbove2.1),(aI rAbove2.2)]),[],0,false,none⟩)] [] (kp [7,8,9,10]) [] 864 [0≤(0:Int)∧(0:Int) < ((2:Nat):Int),0 < 1,0≤(1:Int)∧(1:Int) < ((2:Nat):Int),0 < 1,Sound Try.prog 8 [(encL TMark.cells TMark.d m),(aI level),(aI vat.e0),(aI vat.e1)] [] 0 (.tup [(encL TS__2_int.cells TS__2_int.d rAbove2.1),(aI rAbove2.2)]) []] ⟨(by decide),o1,(by decide),o1,(g_r05_Above_ok N m level vat.e0 vat.e1 rAbove2 hr3),trivial⟩ ?_
   refine Runs.sA 2 [.code (C_0 252),.code (C_0 253),.code (C_0 127)] ?_
   refine Runs.sR hE ⟨[(7,(encL TS__2_int.cells TS__2_int.d rAbove.1)),(9,(encL TS__2_int.cells TS__2_int.d rAbove2.1)),(69,(aB (cond (rAbove.2 != rAbove2.2) true (((rAbove.1.length:Nat):Int) != ((rAbove2.1.length:Nat):Int)))))],[],1024⟩ (C_0 252) [] [] (kp [7,9,69]) [] 1024 [(!(rAbove.2 != rAbove2.2))=true→AllP [(!(rAbove.2 != rAbove2.2))=true],(!(rAbove.2 != rAbove2.2))=true→AllP [(!(rAbove.2 != rAbove2.2))=true],(!(rAbove.2 != rAbove2.2))=true→AllP [(!(rAbove.2 != rAbove2.2))=true,(!(rAbove.2 != rAbove2.2))=true],(!(rAbove.2 != rAbove2.2))=true→AllP [(!(rAbove.2 != rAbove2.2))=true]] ⟨(fun hg=>⟨hg,trivial⟩),(fun hg=>⟨hg,trivial⟩),(fun hg=>⟨hg,hg,trivial⟩),(fun hq=>⟨hq,trivial⟩),trivial⟩ ?_
   refine Runs.sC 69 (C_0 506) (C_0 507) (cond (rAbove.2 != rAbove2.2) true (((rAbove.1.length:Nat):Int) != ((rAbove2.1.length:Nat):Int))) (fun hq4=>?_) (fun hq4=>?_)
   ·have h:=condT h hq4
    refine Runs.sA 1 [.code (C_0 1012),.code (C_0 1013),.code (C_0 127)] ?_
    refine Runs.sR hE ⟨[(6,(aB false))],[],1040⟩ (C_0 1012) [] [] (kp [6]) [] 1040 [] trivial ?_
    obtain rfl:=Option.some.inj h
    refine Runs.sW hE ⟨[(6,(aB false))],[],1040⟩ [] (kp [6]) [] 1040 [] trivial ?_
    exact Runs.sT Try.f3 [] [] trivial
   ·have h:=condF h hq4
    refine Runs.sA 3 [.code (C_0 508),.code (C_0 509),.code (C_0 255)] ?_
    refine Runs.sR hE ⟨[(7,(encL TS__2_int.cells TS__2_int.d rAbove.1)),(9,(encL TS__2_int.cells TS__2_int.d rAbove2.1)),(11,(aI 0))],[],1040⟩ (C_0 508) [] [] (kp [7,9,11]) [] 1040 [] trivial ?_
    refine Runs.sA 2 [.code (C_0 2036),.inLoop (C_0 2036),.inBlock 0,.code (C_0 255)] ?_
    exact Runs.sW hE _ [] (kp [7,9,11]) [] 0 [] trivial (g_w05_WaterWindows_L1_ok N rAbove rAbove2 N 0 _ h E hE)
end Go.Den
