/- Each function of the program does what its Lean function computes (part 2). No conditions. -/
import Derived.Test.YtkkolmlgedjmnaaGreatWaterConflictsSa
import Derived.Test.YtkkolmlgedjmnaaGreatProg
set_option linter.unusedVariables false
set_option maxRecDepth 100000
namespace Go.Den
open Go.Ab Go.Proofs Go.Ab.Runs
noncomputable def C_38 (n:Nat):Code:=cat (bodyOf Tryz.f90) (pth n)
theorem g_e_over_ok (N:Nat) (x:TRat) (y:TRat) (r:TRat) (h:g_e_over N x y=some r):Sd 90 [(.agg (TRat.cells x)),(.agg (TRat.cells y))] [] 0 (.agg [(aB r.fN.fG),(.os 0 0 r.fN.fL.length),(aB r.fD.fG),(.os 1 0 r.fD.fL.length)]) [(0,aU r.fN.fL),(1,aU r.fD.fL)]:=by
 unfold g_e_over at h
 refine Sound.of_runs (fu:=Tryz.f90) (c:=C_38 1) (nt:=16) (by kernel_rfl) (by kernel_rfl) (by kernel_rfl) (by kernel_rfl) (fun hm=>rfl) ?_
 intro E hE
 refine sA 1 [.code (C_38 2),.code (C_38 3)] ?_
 refine sR hE ⟨[(2,(.op 0 0 0)),(3,(.op 16 0 0)),(4,(.op 32 0 0))],[(0,vO 4 (TRat.cells x)),(16,vO 4 (TRat.cells y)),(32,vO 4 [(aB false),.nil,(aB false),.nil])],48⟩ (C_38 2) [] [] (kp [2,3,4]) (kq [0,16,32]) 48 [] trivial ?_
 refine sA 1 [.code (C_38 6),.code (C_38 7)] ?_
 obtain ⟨rbelow,hr,h⟩:=bindSome h
 obtain ⟨rMul,hr2,h⟩:=bindSome h
 obtain ⟨rbelow2,hr3,h⟩:=bindSome h
 obtain ⟨rMul2,hr4,h⟩:=bindSome h
 obtain ⟨rFr,hr5,h⟩:=bindSome h
 refine sR hE ⟨[(4,(.op 32 0 0))],[(32,vN 4 [(aB rFr.fN.fG),(.os 208 0 rFr.fN.fL.length),(aB rFr.fD.fG),(.os 209 0 rFr.fD.fL.length)]),(208,aU rFr.fN.fL),(209,aU rFr.fD.fL)],240⟩ (C_38 6) [(3,⟨[],true,(.agg (TInt.cells rbelow)),[],0,false,none⟩),(4,⟨[],true,(.agg (TInt.cells rMul)),[],0,false,none⟩),(6,⟨[],true,(.agg (TInt.cells rbelow2)),[],0,false,none⟩),(9,⟨[],true,(.agg (TInt.cells rMul2)),[],0,false,none⟩),(10,⟨[],false,(.agg [(aB rFr.fN.fG),(.os 0 0 rFr.fN.fL.length),(aB rFr.fD.fG),(.os 1 0 rFr.fD.fL.length)]),[(0,aU rFr.fN.fL),(1,aU rFr.fD.fL)],0,false,none⟩)] [] (kp [4]) (kq [32,208,209]) 240 [0 < 1,0 < 1,Sd 95 [(.agg (TRat.cells y))] [] 0 (.agg (TInt.cells rbelow)) [],Sd 94 [(.agg (TInt.cells x.fN)),(.agg (TInt.cells rbelow))] [] 0 (.agg (TInt.cells rMul)) [],0 < 1,Sd 95 [(.agg (TRat.cells x))] [] 0 (.agg (TInt.cells rbelow2)) [],0 < 1,Sd 94 [(.agg (TInt.cells rbelow2)),(.agg (TInt.cells y.fN))] [] 0 (.agg (TInt.cells rMul2)) [],Sd 91 [(.agg (TInt.cells rMul)),(.agg (TInt.cells rMul2))] [] 0 (.agg [(aB rFr.fN.fG),(.os 0 0 rFr.fN.fL.length),(aB rFr.fD.fG),(.os 1 0 rFr.fD.fL.length)]) [(0,aU rFr.fN.fL),(1,aU rFr.fD.fL)],0 < 1] ⟨o1,o1,(g_e_below_ok N y rbelow hr),(g_e_Mul_ok N x.fN rbelow rMul hr2),o1,(g_e_below_ok N x rbelow2 hr3),o1,(g_e_Mul_ok N rbelow2 y.fN rMul2 hr4),(g_e_fraction_ok N rMul rMul2 rFr hr5),o1,trivial⟩ ?_
 obtain rfl:=Option.some.inj h
 refine sW hE ⟨[(4,(.op 16 0 0))],[(0,aU rFr.fN.fL),(1,aU rFr.fD.fL),(16,vN 4 [(aB rFr.fN.fG),(.os 0 0 rFr.fN.fL.length),(aB rFr.fD.fG),(.os 1 0 rFr.fD.fL.length)])],240⟩ [] (kp [4]) [(0,.keep 208),(1,.keep 209),(16,.var 32 [.keep,.keep,.keep,.keep])] 240 [] trivial ?_
 exact sT Tryz.f90 [16] [0 < 1] ⟨o1,trivial⟩
noncomputable def C_36 (n:Nat):Code:=cat (bodyOf Tryz.f66) (pth n)
theorem g_e_QuoRat_ok (N:Nat) (x:TRat) (y:TRat) (r:TRat×Int) (h:g_e_QuoRat N x y=some r):Sd 66 [(.agg (TRat.cells x)),(.agg (TRat.cells y))] [] 0 (.tup [(.agg [(aB r.1.fN.fG),(.os 0 0 r.1.fN.fL.length),(aB r.1.fD.fG),(.os 1 0 r.1.fD.fL.length)]),(aI r.2)]) [(0,aU r.1.fN.fL),(1,aU r.1.fD.fL)]:=by
 unfold g_e_QuoRat at h
 refine Sound.of_runs (fu:=Tryz.f66) (c:=C_36 1) (nt:=12) (by kernel_rfl) (by kernel_rfl) (by kernel_rfl) (by kernel_rfl) (fun hm=>rfl) ?_
 intro E hE
 refine sA 1 [.code (C_36 2),.code (C_36 3)] ?_
 refine sR hE ⟨[(2,(.op 0 0 0)),(3,(.op 16 0 0)),(4,(.op 32 0 0))],[(0,vO 4 (TRat.cells x)),(16,vO 4 (TRat.cells y)),(32,vO 4 [(aB false),.nil,(aB false),.nil])],64⟩ (C_36 2) [] [] (kp [2,3,4]) (kq [0,16,32]) 64 [] trivial ?_
 refine sA 2 [.code (C_36 12),.code (C_36 13),.code (C_36 7)] ?_
 obtain ⟨risZero,hr,h⟩:=bindSome h
 refine sR hE ⟨[(2,(.op 0 0 0)),(3,(.op 16 0 0)),(4,(.op 32 0 0)),(7,(aB risZero))],[(0,vO 4 (TRat.cells x)),(16,vO 4 (TRat.cells y)),(32,vO 4 [(aB false),.nil,(aB false),.nil])],96⟩ (C_36 12) [(1,⟨[],true,(aB risZero),[],0,false,none⟩)] [] (kp [2,3,4,7]) (kq [0,16,32]) 96 [0 < 1,Sd 89 [(.agg (TRat.cells y))] [] 0 (aB risZero) []] ⟨o1,(g_e_isZero_ok N y risZero hr),trivial⟩ ?_
 refine sC 7 (C_36 26) (C_36 27) risZero (fun hq2=>?_) (fun hq2=>?_)
 ·have h:=condT h hq2
  refine sA 1 [.code (C_36 52),.code (C_36 53),.code (C_36 7)] ?_
  refine sR hE ⟨[(4,(.op 32 0 0)),(5,(aI 9))],[(32,vO 4 [(aB false),.nil,(aB false),.nil])],144⟩ (C_36 52) [] [] (kp [4,5]) (kq [32]) 144 [0 < 1] ⟨o1,trivial⟩ ?_
  obtain rfl:=Option.some.inj h
  refine sW hE ⟨[(4,(.op 16 0 0)),(5,(aI 9))],[(0,aU ([]:List Int)),(1,aU ([]:List Int)),(16,vN 4 [(aB false),(.os 0 0 (([]:List Int).length)),(aB false),(.os 1 0 (([]:List Int).length))])],144⟩ [] (kp [4,5]) [(0,.nil 1 (fun zi=>(cU .u16) (([]:List Int).getD zi 0))),(1,.nil 1 (fun zi=>(cU .u16) (([]:List Int).getD zi 0))),(16,.var 32 [.keep,.nilos 0,.keep,.nilos 1])] 144 [] trivial ?_
  exact sT Tryz.f66 [16] [0 < 1] ⟨o1,trivial⟩
 ·have h:=condF h hq2
  refine sA 2 [.code (C_36 14),.code (C_36 15)] ?_
  obtain ⟨rover,hr2,h⟩:=bindSome h
  refine sR hE ⟨[(4,(.op 32 0 0)),(5,(aI 0))],[(32,vN 4 [(aB rover.fN.fG),(.os 128 0 rover.fN.fL.length),(aB rover.fD.fG),(.os 129 0 rover.fD.fL.length)]),(128,aU rover.fN.fL),(129,aU rover.fD.fL)],176⟩ (C_36 14) [(2,⟨[],false,(.agg [(aB rover.fN.fG),(.os 0 0 rover.fN.fL.length),(aB rover.fD.fG),(.os 1 0 rover.fD.fL.length)]),[(0,aU rover.fN.fL),(1,aU rover.fD.fL)],0,false,none⟩)] [] (kp [4,5]) (kq [32,128,129]) 176 [0 < 1,0 < 1,Sd 90 [(.agg (TRat.cells x)),(.agg (TRat.cells y))] [] 0 (.agg [(aB rover.fN.fG),(.os 0 0 rover.fN.fL.length),(aB rover.fD.fG),(.os 1 0 rover.fD.fL.length)]) [(0,aU rover.fN.fL),(1,aU rover.fD.fL)],0 < 1] ⟨o1,o1,(g_e_over_ok N x y rover hr2),o1,trivial⟩ ?_
  obtain rfl:=Option.some.inj h
  refine sW hE ⟨[(4,(.op 16 0 0)),(5,(aI 0))],[(0,aU rover.fN.fL),(1,aU rover.fD.fL),(16,vN 4 [(aB rover.fN.fG),(.os 0 0 rover.fN.fL.length),(aB rover.fD.fG),(.os 1 0 rover.fD.fL.length)])],176⟩ [] (kp [4,5]) [(0,.keep 128),(1,.keep 129),(16,.var 32 [.keep,.keep,.keep,.keep])] 176 [] trivial ?_
  exact sT Tryz.f66 [16] [0 < 1] ⟨o1,trivial⟩
noncomputable def C_35 (n:Nat):Code:=cat (bodyOf Tryz.f46) (pth n)
theorem g_w_quotient_ok (N:Nat) (x:TRat) (y:TRat) (r:TRat) (h:g_w_quotient N x y=some r):Sd 46 [(.agg (TRat.cells x)),(.agg (TRat.cells y))] [] 0 (.agg [(aB r.fN.fG),(.os 0 0 r.fN.fL.length),(aB r.fD.fG),(.os 1 0 r.fD.fL.length)]) [(0,aU r.fN.fL),(1,aU r.fD.fL)]:=by
 unfold g_w_quotient at h
 refine Sound.of_runs (fu:=Tryz.f46) (c:=C_35 1) (nt:=14) (by kernel_rfl) (by kernel_rfl) (by kernel_rfl) (by kernel_rfl) (fun hm=>rfl) ?_
 intro E hE
 refine sA 1 [.code (C_35 2),.code (C_35 3)] ?_
 refine sR hE ⟨[(2,(.op 0 0 0)),(3,(.op 16 0 0)),(4,(.op 32 0 0))],[(0,vO 4 (TRat.cells x)),(16,vO 4 (TRat.cells y)),(32,vO 4 [(aB false),.nil,(aB false),.nil])],48⟩ (C_35 2) [] [] (kp [2,3,4]) (kq [0,16,32]) 48 [] trivial ?_
 refine sA 1 [.code (C_35 6),.code (C_35 7)] ?_
 obtain ⟨rQuoRat,hr,h⟩:=bindSome h
 refine sR hE ⟨[(4,(.op 32 0 0)),(5,(.op 144 0 0))],[(32,vO 4 [(aB false),.nil,(aB false),.nil]),(80,aU rQuoRat.1.fN.fL),(81,aU rQuoRat.1.fD.fL),(144,vN 4 [(aB rQuoRat.1.fN.fG),(.os 80 0 rQuoRat.1.fN.fL.length),(aB rQuoRat.1.fD.fG),(.os 81 0 rQuoRat.1.fD.fL.length)])],192⟩ (C_35 6) [(2,⟨[],false,(.tup [(.agg [(aB rQuoRat.1.fN.fG),(.os 0 0 rQuoRat.1.fN.fL.length),(aB rQuoRat.1.fD.fG),(.os 1 0 rQuoRat.1.fD.fL.length)]),(aI rQuoRat.2)]),[(0,aU rQuoRat.1.fN.fL),(1,aU rQuoRat.1.fD.fL)],0,false,none⟩)] [] (kp [4,5]) (kq [32,80,81,144]) 192 [0 < 1,0 < 1,Sd 66 [(.agg (TRat.cells x)),(.agg (TRat.cells y))] [] 0 (.tup [(.agg [(aB rQuoRat.1.fN.fG),(.os 0 0 rQuoRat.1.fN.fL.length),(aB rQuoRat.1.fD.fG),(.os 1 0 rQuoRat.1.fD.fL.length)]),(aI rQuoRat.2)]) [(0,aU rQuoRat.1.fN.fL),(1,aU rQuoRat.1.fD.fL)],0 < 1] ⟨o1,o1,(g_e_QuoRat_ok N x y rQuoRat hr),o1,trivial⟩ ?_
 refine sA 1 [.code (C_35 14),.code (C_35 15)] ?_
 refine sR hE ⟨[(4,(.op 32 0 0))],[(32,vN 4 [(aB rQuoRat.1.fN.fG),(.os 80 0 rQuoRat.1.fN.fL.length),(aB rQuoRat.1.fD.fG),(.os 81 0 rQuoRat.1.fD.fL.length)]),(80,aU rQuoRat.1.fN.fL),(81,aU rQuoRat.1.fD.fL)],224⟩ (C_35 14) [] [] (kp [4]) (kq [32,80,81]) 224 [0 < 1,0 < 1] ⟨o1,o1,trivial⟩ ?_
 obtain rfl:=Option.some.inj h
 refine sW hE ⟨[(4,(.op 16 0 0))],[(0,aU rQuoRat.1.fN.fL),(1,aU rQuoRat.1.fD.fL),(16,vN 4 [(aB rQuoRat.1.fN.fG),(.os 0 0 rQuoRat.1.fN.fL.length),(aB rQuoRat.1.fD.fG),(.os 1 0 rQuoRat.1.fD.fL.length)])],224⟩ [] (kp [4]) [(0,.keep 80),(1,.keep 81),(16,.var 32 [.keep,.keep,.keep,.keep])] 224 [] trivial ?_
 exact sT Tryz.f46 [16] [0 < 1] ⟨o1,trivial⟩
noncomputable def C_41 (n:Nat):Code:=cat (bodyOf Tryz.f98) (pth n)
theorem g_e_opposite_ok (N:Nat) (a:TInt) (r:TInt) (h:g_e_opposite N a=some r):Sd 98 [(.agg (TInt.cells a))] [] 0 (.agg (TInt.cells r)) []:=by
 unfold g_e_opposite at h
 refine Sound.of_runs (fu:=Tryz.f98) (c:=C_41 1) (nt:=9) (by kernel_rfl) (by kernel_rfl) (by kernel_rfl) (by kernel_rfl) (fun hm=>rfl) ?_
 intro E hE
 refine sA 1 [.code (C_41 2),.code (C_41 3)] ?_
 refine sR hE ⟨[(1,(.op 0 0 0)),(2,(.op 16 0 0))],[(0,vO 2 (TInt.cells a)),(16,vO 2 [(aB false),.nil])],32⟩ (C_41 2) [] [] (kp [1,2]) (kq [0,16]) 32 [] trivial ?_
 refine sA 1 [.code (C_41 6),.code (C_41 7)] ?_
 refine sR hE ⟨[(2,(.op 16 0 0))],[(16,vO 2 [(aB (!a.fG)),(eU a.fL)])],144⟩ (C_41 6) [] [] (kp [2]) (kq [16]) 144 [0 < 1,0 < 1,0 < 1] ⟨o1,o1,o1,trivial⟩ ?_
 obtain rfl:=Option.some.inj h
 refine sW hE ⟨[(2,(.op 16 0 0))],[(16,vO 2 [(aB (!a.fG)),(eU a.fL)])],144⟩ [] (kp [2]) (kq [16]) 144 [] trivial ?_
 exact sT Tryz.f98 [16] [0 < 1] ⟨o1,trivial⟩
noncomputable def C_40 (n:Nat):Code:=cat (bodyOf Tryz.f71) (pth n)
theorem g_e_negative_ok (N:Nat) (x:TRat) (r:TRat) (h:g_e_negative N x=some r):Sd 71 [(.agg (TRat.cells x))] [] 0 (.agg (TRat.cells r)) []:=by
 unfold g_e_negative at h
 refine Sound.of_runs (fu:=Tryz.f71) (c:=C_40 1) (nt:=9) (by kernel_rfl) (by kernel_rfl) (by kernel_rfl) (by kernel_rfl) (fun hm=>rfl) ?_
 intro E hE
 refine sA 1 [.code (C_40 2),.code (C_40 3)] ?_
 refine sR hE ⟨[(1,(.op 0 0 0)),(2,(.op 16 0 0))],[(0,vO 4 (TRat.cells x)),(16,vO 4 [(aB false),.nil,(aB false),.nil])],32⟩ (C_40 2) [] [] (kp [1,2]) (kq [0,16]) 32 [] trivial ?_
 refine sA 1 [.code (C_40 6),.code (C_40 7)] ?_
 obtain ⟨ropposite,hr,h⟩:=bindSome h
 obtain ⟨rbelow,hr2,h⟩:=bindSome h
 obtain ⟨rFr,hr3,h⟩:=bindSome h
 refine sR hE ⟨[(2,(.op 16 0 0))],[(16,vN 4 [(aB rFr.fN.fG),(.os 112 0 rFr.fN.fL.length),(aB rFr.fD.fG),(.os 113 0 rFr.fD.fL.length)]),(112,aU rFr.fN.fL),(113,aU rFr.fD.fL)],144⟩ (C_40 6) [(2,⟨[],true,(.agg (TInt.cells ropposite)),[],0,false,none⟩),(4,⟨[],true,(.agg (TInt.cells rbelow)),[],0,false,none⟩),(5,⟨[],false,(.agg [(aB rFr.fN.fG),(.os 0 0 rFr.fN.fL.length),(aB rFr.fD.fG),(.os 1 0 rFr.fD.fL.length)]),[(0,aU rFr.fN.fL),(1,aU rFr.fD.fL)],0,false,none⟩)] [] (kp [2]) (kq [16,112,113]) 144 [0 < 1,Sd 98 [(.agg (TInt.cells x.fN))] [] 0 (.agg (TInt.cells ropposite)) [],0 < 1,Sd 95 [(.agg (TRat.cells x))] [] 0 (.agg (TInt.cells rbelow)) [],Sd 91 [(.agg (TInt.cells ropposite)),(.agg (TInt.cells rbelow))] [] 0 (.agg [(aB rFr.fN.fG),(.os 0 0 rFr.fN.fL.length),(aB rFr.fD.fG),(.os 1 0 rFr.fD.fL.length)]) [(0,aU rFr.fN.fL),(1,aU rFr.fD.fL)],0 < 1] ⟨o1,(g_e_opposite_ok N x.fN ropposite hr),o1,(g_e_below_ok N x rbelow hr2),(g_e_fraction_ok N ropposite rbelow rFr hr3),o1,trivial⟩ ?_
 obtain rfl:=Option.some.inj h
 refine sW hE ⟨[(2,(.op 16 0 0))],[(16,vO 4 (TRat.cells rFr))],144⟩ [112,113] (kp [2]) [(16,.var 16 [.keep,.sl (rFr.fN.fL.length) (fun zi=>(cU .u16) (rFr.fN.fL.getD zi 0)),.keep,.sl (rFr.fD.fL.length) (fun zi=>(cU .u16) (rFr.fD.fL.getD zi 0))])] 144 [rFr.fN.fL.length=rFr.fN.fL.length,0+rFr.fN.fL.length≤rFr.fN.fL.length,∀ zi,zi < rFr.fN.fL.length→(fun zi=>(cU .u16) (rFr.fN.fL.getD zi 0)) zi=(fun zi=>(cU .u16) (rFr.fN.fL.getD zi 0)) (addz 0 zi),rFr.fD.fL.length=rFr.fD.fL.length,0+rFr.fD.fL.length≤rFr.fD.fL.length,∀ zi,zi < rFr.fD.fL.length→(fun zi=>(cU .u16) (rFr.fD.fL.getD zi 0)) zi=(fun zi=>(cU .u16) (rFr.fD.fL.getD zi 0)) (addz 0 zi)] ⟨rfl,z0,(fun _ _=>rfl),rfl,z0,(fun _ _=>rfl),trivial⟩ ?_
 exact sT Tryz.f71 [16] [0 < 1] ⟨o1,trivial⟩
noncomputable def C_43 (n:Nat):Code:=cat (bodyOf Tryz.f96) (pth n)
theorem g_e_lowest_ok (N:Nat) (x:TRat) (r:TRat) (h:g_e_lowest N x=some r):Sd 96 [(.agg (TRat.cells x))] [] 0 (.agg (TRat.cells r)) []:=by
 unfold g_e_lowest at h
 refine Sound.of_runs (fu:=Tryz.f96) (c:=C_43 1) (nt:=8) (by kernel_rfl) (by kernel_rfl) (by kernel_rfl) (by kernel_rfl) (fun hm=>rfl) ?_
 intro E hE
 refine sA 1 [.code (C_43 2),.code (C_43 3)] ?_
 refine sR hE ⟨[(1,(.op 0 0 0)),(2,(.op 16 0 0))],[(0,vO 4 (TRat.cells x)),(16,vO 4 [(aB false),.nil,(aB false),.nil])],32⟩ (C_43 2) [] [] (kp [1,2]) (kq [0,16]) 32 [] trivial ?_
 refine sA 1 [.code (C_43 6),.code (C_43 7)] ?_
 obtain ⟨rbelow,hr,h⟩:=bindSome h
 obtain ⟨rFr,hr2,h⟩:=bindSome h
 refine sR hE ⟨[(2,(.op 16 0 0))],[(16,vN 4 [(aB rFr.fN.fG),(.os 96 0 rFr.fN.fL.length),(aB rFr.fD.fG),(.os 97 0 rFr.fD.fL.length)]),(96,aU rFr.fN.fL),(97,aU rFr.fD.fL)],128⟩ (C_43 6) [(3,⟨[],true,(.agg (TInt.cells rbelow)),[],0,false,none⟩),(4,⟨[],false,(.agg [(aB rFr.fN.fG),(.os 0 0 rFr.fN.fL.length),(aB rFr.fD.fG),(.os 1 0 rFr.fD.fL.length)]),[(0,aU rFr.fN.fL),(1,aU rFr.fD.fL)],0,false,none⟩)] [] (kp [2]) (kq [16,96,97]) 128 [0 < 1,0 < 1,Sd 95 [(.agg (TRat.cells x))] [] 0 (.agg (TInt.cells rbelow)) [],Sd 91 [(.agg (TInt.cells x.fN)),(.agg (TInt.cells rbelow))] [] 0 (.agg [(aB rFr.fN.fG),(.os 0 0 rFr.fN.fL.length),(aB rFr.fD.fG),(.os 1 0 rFr.fD.fL.length)]) [(0,aU rFr.fN.fL),(1,aU rFr.fD.fL)],0 < 1] ⟨o1,o1,(g_e_below_ok N x rbelow hr),(g_e_fraction_ok N x.fN rbelow rFr hr2),o1,trivial⟩ ?_
 obtain rfl:=Option.some.inj h
 refine sW hE ⟨[(2,(.op 16 0 0))],[(16,vO 4 (TRat.cells rFr))],128⟩ [96,97] (kp [2]) [(16,.var 16 [.keep,.sl (rFr.fN.fL.length) (fun zi=>(cU .u16) (rFr.fN.fL.getD zi 0)),.keep,.sl (rFr.fD.fL.length) (fun zi=>(cU .u16) (rFr.fD.fL.getD zi 0))])] 128 [rFr.fN.fL.length=rFr.fN.fL.length,0+rFr.fN.fL.length≤rFr.fN.fL.length,∀ zi,zi < rFr.fN.fL.length→(fun zi=>(cU .u16) (rFr.fN.fL.getD zi 0)) zi=(fun zi=>(cU .u16) (rFr.fN.fL.getD zi 0)) (addz 0 zi),rFr.fD.fL.length=rFr.fD.fL.length,0+rFr.fD.fL.length≤rFr.fD.fL.length,∀ zi,zi < rFr.fD.fL.length→(fun zi=>(cU .u16) (rFr.fD.fL.getD zi 0)) zi=(fun zi=>(cU .u16) (rFr.fD.fL.getD zi 0)) (addz 0 zi)] ⟨rfl,z0,(fun _ _=>rfl),rfl,z0,(fun _ _=>rfl),trivial⟩ ?_
 exact sT Tryz.f96 [16] [0 < 1] ⟨o1,trivial⟩
noncomputable def C_45 (n:Nat):Code:=cat (bodyOf Tryz.f115) (pth n)
theorem g_e_plus_J3_ok (N:Nat) (a2:List Int) (b2:List Int) (out:List Int) (x:Int) (K_g_e_plus_L2:(List Int)→Int→Int→Option ((List Int)))
  (hK_g_e_plus_L2:∀ (out:List Int) (carry:Int) (x:Int) (r:(List Int)),K_g_e_plus_L2 out carry x=some r→∀ E,EnvOk E 0→Runs Tryz.prog E 115 56 (SPost E [] (eU r)) [.code (C_45 500),.inLoop (C_45 500),.inBlock 0,.code (C_45 63)] ⟨[(1,(eU b2)),(5,(.os 0 0 out.length)),(6,(a32 carry)),(20,(eU a2)),(21,(aI ((a2.length:Nat):Int))),(22,(aI x))],[(0,aU out)],1⟩) (carry2:Int) (r:(List Int)) (h:g_e_plus_J3 N a2 b2 out x K_g_e_plus_L2 carry2=some r):∀ E,EnvOk E 0→Runs Tryz.prog E 115 56 (SPost E [] (eU r)) [.code (C_45 128206),.code (C_45 128207),.inBlock 1,.code (C_45 4007),.inLoop (C_45 500),.inBlock 0,.code (C_45 63)] ⟨[(1,(eU b2)),(5,(.os 0 0 out.length)),(6,(a32 carry2)),(20,(eU a2)),(21,(aI ((a2.length:Nat):Int))),(22,(aI x))],[(0,aU out)],1⟩:=by
 intro E hE
 unfold g_e_plus_J3 at h
 obtain ⟨c4,h⟩:=ifSome h
 refine sR hE ⟨[(1,(eU b2)),(5,(.os 65 0 ((out ++ ([(IntKind.u16.wrap (carry2))]:List Int)).length))),(6,(a32 carry2)),(20,(eU a2)),(21,(aI ((a2.length:Nat):Int))),(22,(aI x))],[(65,aU (out ++ ([(IntKind.u16.wrap (carry2))]:List Int)))],97⟩ (C_45 128206) [] [] (kp [1] ++ [(5,.osl ((out ++ ([(IntKind.u16.wrap (carry2))]:List Int)).length))] ++ kp [6,20,21,22]) [(65,.arr 65 ((out ++ ([(IntKind.u16.wrap (carry2))]:List Int)).length) (fun zi=>(cU .u16) ((out ++ ([(IntKind.u16.wrap (carry2))]:List Int)).getD zi 0)))] 97 [out.length=out.length,(out.length+1) * 2≤140737488355328,0+1≤1,∀ zi,zi < 1→AV.oneL ((fun zi=>([[(a16 (IntKind.u16.wrap (carry2)))]]:List (List AV)).getD zi []) (addz 0 zi))=true,(out.length+1)=(out ++ ([(IntKind.u16.wrap (carry2))]:List Int)).length,out.length+1=(out ++ ([(IntKind.u16.wrap (carry2))]:List Int)).length,∀ zi,zi < (out ++ ([(IntKind.u16.wrap (carry2))]:List Int)).length→(fun zi=>(cU .u16) ((out ++ ([(IntKind.u16.wrap (carry2))]:List Int)).getD zi 0)) zi=((fun zm=>if zm < out.length then (fun zi=>(cU .u16) (out.getD zi 0)) zm else (fun zi=>([[(a16 (IntKind.u16.wrap (carry2)))]]:List (List AV)).getD zi []) (zm - out.length))) zi] ⟨rfl,c4,z0,(oneN rfl),(len_app_raw rfl rfl),(len_app_raw rfl rfl),(get_app_raw (cU .u16) 0 out ([(IntKind.u16.wrap (carry2))]:List Int) rfl (fun _ _=>rfl) (fun zq hzq=>get_chunk (cU .u16) 0 ([(IntKind.u16.wrap (carry2))]:List Int) zq hzq)),trivial⟩ ?_
 refine sR hE ⟨[(1,(eU b2)),(5,(.os 65 0 ((out ++ ([(IntKind.u16.wrap (carry2))]:List Int)).length))),(6,(a32 (shrI .u32 carry2 16))),(20,(eU a2)),(21,(aI ((a2.length:Nat):Int))),(22,(aI x))],[(65,aU (out ++ ([(IntKind.u16.wrap (carry2))]:List Int)))],145⟩ (C_45 128207) [] [] (kp [1,5,6,20,21,22]) (kq [65]) 145 [(0:Int)≤16] ⟨(by decide),trivial⟩ ?_
 refine sA 1 [.code (C_45 4007),.inLoop (C_45 500),.inBlock 0,.code (C_45 63)] ?_
 refine sR hE ⟨[(1,(eU b2)),(5,(.os 65 0 ((out ++ ([(IntKind.u16.wrap (carry2))]:List Int)).length))),(6,(a32 (shrI .u32 carry2 16))),(20,(eU a2)),(21,(aI ((a2.length:Nat):Int))),(22,(aI (w64 (x+1))))],[(65,aU (out ++ ([(IntKind.u16.wrap (carry2))]:List Int)))],177⟩ (C_45 4007) [] [] (kp [1,5,6,20,21,22]) (kq [65]) 177 [] trivial ?_
 refine sA 1 [.code (C_45 500),.inLoop (C_45 500),.inBlock 0,.code (C_45 63)] ?_
 exact sW hE _ [] (kp [1,5,6,20,21,22]) [(0,.keep 65)] 1 [] trivial (hK_g_e_plus_L2 (out ++ ([(IntKind.u16.wrap (carry2))]:List Int)) (shrI .u32 carry2 16) (w64 (x+1)) _ h E hE)
theorem g_e_plus_L2_ok (N:Nat) (a2:List Int) (b2:List Int) (fuel:Nat):∀ (out:List Int) (carry:Int) (x:Int) (r:(List Int)),g_e_plus_L2 N a2 b2 fuel out carry x=some r→∀ E,EnvOk E 0→Runs Tryz.prog E 115 56 (SPost E [] (eU r)) [.code (C_45 500),.inLoop (C_45 500),.inBlock 0,.code (C_45 63)] ⟨[(1,(eU b2)),(5,(.os 0 0 out.length)),(6,(a32 carry)),(20,(eU a2)),(21,(aI ((a2.length:Nat):Int))),(22,(aI x))],[(0,aU out)],1⟩:=by
 induction fuel with
 | zero=>intro _ _ _ r h;rw [g_e_plus_L2.eq_1] at h;cases h
 | succ fuel ih =>
  intro out carry x r h E hE
  rw [g_e_plus_L2.eq_2] at h
  refine sA 1 [.code (C_45 1000),.code (C_45 1001),.inLoop (C_45 500),.inBlock 0,.code (C_45 63)] ?_
  refine sR hE ⟨[(1,(eU b2)),(5,(.os 0 0 out.length)),(6,(a32 carry)),(20,(eU a2)),(21,(aI ((a2.length:Nat):Int))),(22,(aI x)),(23,(aB (decide (x < ((a2.length:Nat):Int)))))],[(0,aU out)],17⟩ (C_45 1000) [] [] (kp [1,5,6,20,21,22,23]) (kq [0]) 17 [] trivial ?_
  refine sA 1 [.code (C_45 2002),.code (C_45 2003),.inLoop (C_45 500),.inBlock 0,.code (C_45 63)] ?_
  refine sC 23 (C_45 4004) (C_45 4005) (decide (x < ((a2.length:Nat):Int))) (fun hq3=>?_) (fun hq3=>?_)
  ·have h:=condT h hq3
   refine sA 4 [.code (C_45 16024),.code (C_45 16025),.inBlock 1,.code (C_45 4007),.inLoop (C_45 500),.inBlock 0,.code (C_45 63)] ?_
   obtain ⟨c2,h⟩:=ifSome h
   refine sR hE ⟨[(1,(eU b2)),(5,(.os 0 0 out.length)),(6,(a32 carry)),(7,(aI x)),(8,(a16 (a2.getD ((x).toNat) 0))),(20,(eU a2)),(21,(aI ((a2.length:Nat):Int))),(22,(aI x))],[(0,aU out)],97⟩ (C_45 16024) [] [] (kp [1,5,6,7,8,20,21,22]) (kq [0]) 97 [0≤x∧x < ((a2.length:Nat):Int)] ⟨c2,trivial⟩ ?_
   refine sA 1 [.code (C_45 32050),.code (C_45 32051),.inBlock 1,.code (C_45 4007),.inLoop (C_45 500),.inBlock 0,.code (C_45 63)] ?_
   refine sR hE ⟨[(1,(eU b2)),(5,(.os 0 0 out.length)),(6,(a32 (IntKind.u32.wrap (carry+(IntKind.u32.wrap ((a2.getD ((x).toNat) 0))))))),(7,(aI x)),(20,(eU a2)),(21,(aI ((a2.length:Nat):Int))),(22,(aI x))],[(0,aU out)],177⟩ (C_45 32050) [] [] (kp [1,5,6,7,20,21,22]) (kq [0]) 177 [] trivial ?_
   refine sA 2 [.code (C_45 128204),.code (C_45 128205),.code (C_45 64103),.inBlock 1,.code (C_45 4007),.inLoop (C_45 500),.inBlock 0,.code (C_45 63)] ?_
   refine sR hE ⟨[(1,(eU b2)),(5,(.os 0 0 out.length)),(6,(a32 (IntKind.u32.wrap (carry+(IntKind.u32.wrap ((a2.getD ((x).toNat) 0))))))),(7,(aI x)),(20,(eU a2)),(21,(aI ((a2.length:Nat):Int))),(22,(aI x)),(34,(aB (decide (x < ((b2.length:Nat):Int)))))],[(0,aU out)],241⟩ (C_45 128204) [] [] (kp [1,5,6,7,20,21,22,34]) (kq [0]) 241 [] trivial ?_
   refine sC 34 (C_45 256410) (C_45 256411) (decide (x < ((b2.length:Nat):Int))) (fun hq4=>?_) (fun hq4=>?_)
   ·have h:=condT h hq4
    obtain ⟨c3,h⟩:=ifSome h
    refine sR hE ⟨[(1,(eU b2)),(5,(.os 0 0 out.length)),(6,(a32 (IntKind.u32.wrap ((IntKind.u32.wrap (carry+(IntKind.u32.wrap ((a2.getD ((x).toNat) 0)))))+(IntKind.u32.wrap ((b2.getD ((x).toNat) 0))))))),(20,(eU a2)),(21,(aI ((a2.length:Nat):Int))),(22,(aI x))],[(0,aU out)],369⟩ (C_45 256410) [] [] (kp [1,5,6,20,21,22]) (kq [0]) 369 [0≤x∧x < ((b2.length:Nat):Int)] ⟨c3,trivial⟩ ?_
    refine sA 1 [.code (C_45 128206),.code (C_45 128207),.inBlock 1,.code (C_45 4007),.inLoop (C_45 500),.inBlock 0,.code (C_45 63)] ?_
    exact sW hE _ [] (kp [1,5,6,20,21,22]) (kq [0]) 1 [] trivial (g_e_plus_J3_ok N a2 b2 out x (g_e_plus_L2 N a2 b2 fuel) ih (IntKind.u32.wrap ((IntKind.u32.wrap (carry+(IntKind.u32.wrap ((a2.getD ((x).toNat) 0)))))+(IntKind.u32.wrap ((b2.getD ((x).toNat) 0))))) _ h E hE)
   ·have h:=condF h hq4
    refine sA 2 [.code (C_45 128206),.code (C_45 128207),.inBlock 1,.code (C_45 4007),.inLoop (C_45 500),.inBlock 0,.code (C_45 63)] ?_
    exact sW hE _ [] (kp [1,5,6,20,21,22]) (kq [0]) 1 [] trivial (g_e_plus_J3_ok N a2 b2 out x (g_e_plus_L2 N a2 b2 fuel) ih (IntKind.u32.wrap (carry+(IntKind.u32.wrap ((a2.getD ((x).toNat) 0))))) _ h E hE)
  ·have h:=condF h hq3
   refine sA 2 [.code (C_45 126),.code (C_45 127)] ?_
   obtain ⟨c5,h⟩:=ifSome h
   obtain ⟨rtrim,hr,h⟩:=bindSome h
   refine sR hE ⟨[(4,(eU rtrim))],[],129⟩ (C_45 126) [(5,⟨[],true,(eU rtrim),[],0,true,none⟩)] [] (kp [4]) [] 129 [out.length=out.length,(out.length+1) * 2≤140737488355328,0+1≤1,∀ zi,zi < 1→AV.oneL ((fun zi=>([[(a16 (IntKind.u16.wrap (carry)))]]:List (List AV)).getD zi []) (addz 0 zi))=true,Sd 101 [(.sl (out.length+1) (fun zi=>((fun zm=>if zm < out.length then (fun zi=>(cU .u16) (out.getD zi 0)) zm else (fun zi=>([[(a16 (IntKind.u16.wrap (carry)))]]:List (List AV)).getD zi []) (zm - out.length))) (addz 0 zi)))] [] 0 (eU rtrim) [],0+(out.length+1)≤out.length+1] ⟨rfl,c5,z0,(oneN rfl),(Sound.conv (g_e_trim_ok N (out ++ ([(IntKind.u16.wrap (carry))]:List Int)) rtrim hr) (.cons (Alike.sl (len_app_raw rfl rfl) (get_app_raw (cU .u16) 0 out ([(IntKind.u16.wrap (carry))]:List Int) rfl (fun _ _=>rfl) (fun zq hzq=>get_chunk (cU .u16) 0 ([(IntKind.u16.wrap (carry))]:List Int) zq hzq))) .nil)),z0,trivial⟩ ?_
   obtain rfl:=Option.some.inj h
   refine sW hE ⟨[(4,(eU rtrim))],[],129⟩ [] (kp [4]) [] 129 [] trivial ?_
   exact sT Tryz.f115 [] [] trivial
theorem g_e_plus_J1_ok (N:Nat) (a2:List Int) (b2:List Int) (r:(List Int)) (h:g_e_plus_J1 N a2 b2=some r):∀ E,EnvOk E 0→Runs Tryz.prog E 115 56 (SPost E [] (eU r)) [.code (C_45 14),.code (C_45 15)] ⟨[(0,(eU a2)),(1,(eU b2))],[],0⟩:=by
 intro E hE
 unfold g_e_plus_J1 at h
 obtain ⟨c,h⟩:=ifSome h
 refine sR hE ⟨[(0,(eU a2)),(1,(eU b2)),(5,(.os 48 0 ((List.replicate 0 0:List Int).length)))],[(48,aU (List.replicate 0 0:List Int))],80⟩ (C_45 14) [] [] (kp [0,1] ++ [(5,.osl ((List.replicate 0 0:List Int).length))]) [(48,.arr 48 ((List.replicate 0 0:List Int).length) (fun zi=>(cU .u16) ((List.replicate 0 0:List Int).getD zi 0)))] 80 [0≤(0:Int),(0:Int)≤(w64 (((a2.length:Nat):Int)+1)),(2:Int) * (w64 (((a2.length:Nat):Int)+1))≤281474976710656,(w64 (((a2.length:Nat):Int)+1))≤9223372036854775807,0=(List.replicate 0 0:List Int).length,0=(List.replicate 0 0:List Int).length,∀ zi,zi < (List.replicate 0 0:List Int).length→(fun zi=>(cU .u16) ((List.replicate 0 0:List Int).getD zi 0)) zi=(fun _=>[(a16 0)]) zi] ⟨c.1,c.2.2.2,c.2.1,c.2.2.1,(List.length_replicate).symm,(List.length_replicate).symm,(fun zq hzq=>get_rep (cU .u16) 0 0 0 zq hzq),trivial⟩ ?_
 refine sA 1 [.code (C_45 30),.code (C_45 31)] ?_
 refine sR hE ⟨[(0,(eU a2)),(1,(eU b2)),(5,(.os 48 0 ((List.replicate 0 0:List Int).length))),(6,(a32 0))],[(48,aU (List.replicate 0 0:List Int))],96⟩ (C_45 30) [] [] (kp [0,1,5,6]) (kq [48]) 96 [] trivial ?_
 refine sA 2 [.code (C_45 124),.code (C_45 125),.code (C_45 63)] ?_
 refine sR hE ⟨[(1,(eU b2)),(5,(.os 48 0 ((List.replicate 0 0:List Int).length))),(6,(a32 0)),(20,(eU a2)),(21,(aI ((a2.length:Nat):Int))),(22,(aI 0))],[(48,aU (List.replicate 0 0:List Int))],144⟩ (C_45 124) [] [] (kp [1,5,6,20,21,22]) (kq [48]) 144 [] trivial ?_
 refine sA 2 [.code (C_45 500),.inLoop (C_45 500),.inBlock 0,.code (C_45 63)] ?_
 exact sW hE _ [] (kp [1,5,6,20,21,22]) [(0,.keep 48)] 1 [] trivial (g_e_plus_L2_ok N a2 b2 N (List.replicate 0 0:List Int) 0 0 _ h E hE)
theorem g_e_plus_ok (N:Nat) (a:List Int) (b:List Int) (r:(List Int)) (h:g_e_plus N a b=some r):Sd 115 [(eU a),(eU b)] [] 0 (eU r) []:=by
 unfold g_e_plus at h
 refine Sound.of_runs (fu:=Tryz.f115) (c:=C_45 1) (nt:=56) (by kernel_rfl) (by kernel_rfl) (by kernel_rfl) (by kernel_rfl) (fun hm=>rfl) ?_
 intro E hE
 refine sA 1 [.code (C_45 2),.code (C_45 3)] ?_
 refine sR hE ⟨[(0,(eU a)),(1,(eU b))],[],16⟩ (C_45 2) [] [] (kp [0,1]) [] 16 [] trivial ?_
 refine sA 2 [.code (C_45 12),.code (C_45 13),.code (C_45 7)] ?_
 refine sR hE ⟨[(0,(eU a)),(1,(eU b)),(13,(aB (decide (((a.length:Nat):Int) < ((b.length:Nat):Int)))))],[],96⟩ (C_45 12) [] [] (kp [0,1,13]) [] 96 [] trivial ?_
 refine sC 13 (C_45 26) (C_45 27) (decide (((a.length:Nat):Int) < ((b.length:Nat):Int))) (fun hq2=>?_) (fun hq2=>?_)
 ·have h:=condT h hq2
  refine sR hE ⟨[(0,(eU b)),(1,(eU a))],[],160⟩ (C_45 26) [] [] (kp [0,1]) [] 160 [] trivial ?_
  refine sA 1 [.code (C_45 14),.code (C_45 15)] ?_
  exact sW hE _ [] (kp [0,1]) [] 0 [] trivial (g_e_plus_J1_ok N b a _ h E hE)
 ·have h:=condF h hq2
  refine sA 2 [.code (C_45 14),.code (C_45 15)] ?_
  exact sW hE _ [] (kp [0,1]) [] 0 [] trivial (g_e_plus_J1_ok N a b _ h E hE)
noncomputable def C_46 (n:Nat):Code:=cat (bodyOf Tryz.f117) (pth n)
theorem g_e_minus_J3_ok (N:Nat) (a:List Int) (b:List Int) (out:List Int) (x:Int) (y:Int) (K_g_e_minus_L1:(List Int)→Int→Int→Option ((List Int)))
  (hK_g_e_minus_L1:∀ (out:List Int) (borrow:Int) (x:Int) (r:(List Int)),K_g_e_minus_L1 out borrow x=some r→∀ E,EnvOk E 0→Runs Tryz.prog E 117 50 (SPost E [] (eU r)) [.code (C_46 244),.inLoop (C_46 244),.inBlock 0,.code (C_46 31)] ⟨[(1,(eU b)),(5,(.os 0 0 out.length)),(6,(a32 borrow)),(13,(eU a)),(14,(aI ((a.length:Nat):Int))),(15,(aI x))],[(0,aU out)],1⟩) (borrow2:Int) (r:(List Int)) (h:g_e_minus_J3 N a b out x y K_g_e_minus_L1 borrow2=some r):∀ E,EnvOk E 0→Runs Tryz.prog E 117 50 (SPost E [] (eU r)) [.code (C_46 125343),.inBlock 1,.code (C_46 1959),.inLoop (C_46 244),.inBlock 0,.code (C_46 31)] ⟨[(1,(eU b)),(5,(.os 0 0 out.length)),(6,(a32 borrow2)),(7,(aI x)),(8,(a16 (a.getD ((x).toNat) 0))),(9,(a32 y)),(13,(eU a)),(14,(aI ((a.length:Nat):Int))),(15,(aI x))],[(0,aU out)],1⟩:=by
 intro E hE
 unfold g_e_minus_J3 at h
 obtain ⟨c4,h⟩:=ifSome h
 refine sR hE ⟨[(1,(eU b)),(5,(.os 0 0 ((out.set ((x).toNat) (IntKind.u16.wrap ((IntKind.u32.wrap ((IntKind.u32.wrap ((IntKind.u32.wrap ((a.getD ((x).toNat) 0)))+(shlI .u32 borrow2 16))) - y))))).length))),(6,(a32 borrow2)),(13,(eU a)),(14,(aI ((a.length:Nat):Int))),(15,(aI x))],[(0,aU (out.set ((x).toNat) (IntKind.u16.wrap ((IntKind.u32.wrap ((IntKind.u32.wrap ((IntKind.u32.wrap ((a.getD ((x).toNat) 0)))+(shlI .u32 borrow2 16))) - y))))))],193⟩ (C_46 125343) [] [] (kp [1] ++ [(5,.osl ((out.set ((x).toNat) (IntKind.u16.wrap ((IntKind.u32.wrap ((IntKind.u32.wrap ((IntKind.u32.wrap ((a.getD ((x).toNat) 0)))+(shlI .u32 borrow2 16))) - y))))).length))] ++ kp [6,13,14,15]) [(0,.arr 0 ((out.set ((x).toNat) (IntKind.u16.wrap ((IntKind.u32.wrap ((IntKind.u32.wrap ((IntKind.u32.wrap ((a.getD ((x).toNat) 0)))+(shlI .u32 borrow2 16))) - y))))).length) (fun zi=>(cU .u16) ((out.set ((x).toNat) (IntKind.u16.wrap ((IntKind.u32.wrap ((IntKind.u32.wrap ((IntKind.u32.wrap ((a.getD ((x).toNat) 0)))+(shlI .u32 borrow2 16))) - y))))).getD zi 0)))] 193 [(0:Int)≤16,0≤x∧x < ((out.length:Nat):Int),(x).toNat < out.length,out.length=(out.set ((x).toNat) (IntKind.u16.wrap ((IntKind.u32.wrap ((IntKind.u32.wrap ((IntKind.u32.wrap ((a.getD ((x).toNat) 0)))+(shlI .u32 borrow2 16))) - y))))).length,out.length=(out.set ((x).toNat) (IntKind.u16.wrap ((IntKind.u32.wrap ((IntKind.u32.wrap ((IntKind.u32.wrap ((a.getD ((x).toNat) 0)))+(shlI .u32 borrow2 16))) - y))))).length,∀ zi,zi < (out.set ((x).toNat) (IntKind.u16.wrap ((IntKind.u32.wrap ((IntKind.u32.wrap ((IntKind.u32.wrap ((a.getD ((x).toNat) 0)))+(shlI .u32 borrow2 16))) - y))))).length→(fun zi=>(cU .u16) ((out.set ((x).toNat) (IntKind.u16.wrap ((IntKind.u32.wrap ((IntKind.u32.wrap ((IntKind.u32.wrap ((a.getD ((x).toNat) 0)))+(shlI .u32 borrow2 16))) - y))))).getD zi 0)) zi=((fun zm=>if zm=(x).toNat then [(a16 (IntKind.u16.wrap ((IntKind.u32.wrap ((IntKind.u32.wrap ((IntKind.u32.wrap ((a.getD ((x).toNat) 0)))+(shlI .u32 borrow2 16))) - y)))))] else (fun zi=>(cU .u16) (out.getD zi 0)) zm)) zi] ⟨(by decide),c4,(ltOf c4),(len_set_raw rfl),(len_set_raw rfl),(get_set_raw (cU .u16) 0 out ((x).toNat) (IntKind.u16.wrap ((IntKind.u32.wrap ((IntKind.u32.wrap ((IntKind.u32.wrap ((a.getD ((x).toNat) 0)))+(shlI .u32 borrow2 16))) - y)))) (fun _ _=>rfl)),trivial⟩ ?_
 refine sA 1 [.code (C_46 1959),.inLoop (C_46 244),.inBlock 0,.code (C_46 31)] ?_
 refine sR hE ⟨[(1,(eU b)),(5,(.os 0 0 ((out.set ((x).toNat) (IntKind.u16.wrap ((IntKind.u32.wrap ((IntKind.u32.wrap ((IntKind.u32.wrap ((a.getD ((x).toNat) 0)))+(shlI .u32 borrow2 16))) - y))))).length))),(6,(a32 borrow2)),(13,(eU a)),(14,(aI ((a.length:Nat):Int))),(15,(aI (w64 (x+1))))],[(0,aU (out.set ((x).toNat) (IntKind.u16.wrap ((IntKind.u32.wrap ((IntKind.u32.wrap ((IntKind.u32.wrap ((a.getD ((x).toNat) 0)))+(shlI .u32 borrow2 16))) - y))))))],225⟩ (C_46 1959) [] [] (kp [1,5,6,13,14,15]) (kq [0]) 225 [] trivial ?_
 refine sA 1 [.code (C_46 244),.inLoop (C_46 244),.inBlock 0,.code (C_46 31)] ?_
 exact sW hE _ [] (kp [1,5,6,13,14,15]) (kq [0]) 1 [] trivial (hK_g_e_minus_L1 (out.set ((x).toNat) (IntKind.u16.wrap ((IntKind.u32.wrap ((IntKind.u32.wrap ((IntKind.u32.wrap ((a.getD ((x).toNat) 0)))+(shlI .u32 borrow2 16))) - y))))) borrow2 (w64 (x+1)) _ h E hE)
theorem g_e_minus_J2_ok (N:Nat) (a:List Int) (b:List Int) (out:List Int) (x:Int) (K_g_e_minus_L1:(List Int)→Int→Int→Option ((List Int)))
  (hK_g_e_minus_L1:∀ (out:List Int) (borrow:Int) (x:Int) (r:(List Int)),K_g_e_minus_L1 out borrow x=some r→∀ E,EnvOk E 0→Runs Tryz.prog E 117 50 (SPost E [] (eU r)) [.code (C_46 244),.inLoop (C_46 244),.inBlock 0,.code (C_46 31)] ⟨[(1,(eU b)),(5,(.os 0 0 out.length)),(6,(a32 borrow)),(13,(eU a)),(14,(aI ((a.length:Nat):Int))),(15,(aI x))],[(0,aU out)],1⟩) (y:Int) (r:(List Int)) (h:g_e_minus_J2 N a b out x K_g_e_minus_L1 y=some r):∀ E,EnvOk E 0→Runs Tryz.prog E 117 50 (SPost E [] (eU r)) [.code (C_46 62670),.code (C_46 62671),.inBlock 1,.code (C_46 1959),.inLoop (C_46 244),.inBlock 0,.code (C_46 31)] ⟨[(1,(eU b)),(5,(.os 0 0 out.length)),(7,(aI x)),(8,(a16 (a.getD ((x).toNat) 0))),(9,(a32 y)),(13,(eU a)),(14,(aI ((a.length:Nat):Int))),(15,(aI x))],[(0,aU out)],1⟩:=by
 intro E hE
 unfold g_e_minus_J2 at h
 refine sR hE ⟨[(1,(eU b)),(5,(.os 0 0 out.length)),(6,(a32 0)),(7,(aI x)),(8,(a16 (a.getD ((x).toNat) 0))),(9,(a32 y)),(13,(eU a)),(14,(aI ((a.length:Nat):Int))),(15,(aI x))],[(0,aU out)],17⟩ (C_46 62670) [] [] (kp [1,5,6,7,8,9,13,14,15]) (kq [0]) 17 [] trivial ?_
 refine sA 2 [.code (C_46 250684),.code (C_46 250685),.code (C_46 125343),.inBlock 1,.code (C_46 1959),.inLoop (C_46 244),.inBlock 0,.code (C_46 31)] ?_
 refine sR hE ⟨[(1,(eU b)),(5,(.os 0 0 out.length)),(6,(a32 0)),(7,(aI x)),(8,(a16 (a.getD ((x).toNat) 0))),(9,(a32 y)),(13,(eU a)),(14,(aI ((a.length:Nat):Int))),(15,(aI x)),(35,(aB (decide ((IntKind.u32.wrap ((a.getD ((x).toNat) 0))) < y))))],[(0,aU out)],81⟩ (C_46 250684) [] [] (kp [1,5,6,7,8,9,13,14,15,35]) (kq [0]) 81 [] trivial ?_
 refine sC 35 (C_46 501370) (C_46 501371) (decide ((IntKind.u32.wrap ((a.getD ((x).toNat) 0))) < y)) (fun hq4=>?_) (fun hq4=>?_)
 ·have h:=condT h hq4
  refine sR hE ⟨[(1,(eU b)),(5,(.os 0 0 out.length)),(6,(a32 1)),(7,(aI x)),(8,(a16 (a.getD ((x).toNat) 0))),(9,(a32 y)),(13,(eU a)),(14,(aI ((a.length:Nat):Int))),(15,(aI x))],[(0,aU out)],97⟩ (C_46 501370) [] [] (kp [1,5,6,7,8,9,13,14,15]) (kq [0]) 97 [] trivial ?_
  exact sW hE _ [] (kp [1,5,6,7,8,9,13,14,15]) (kq [0]) 1 [] trivial (g_e_minus_J3_ok N a b out x y K_g_e_minus_L1 hK_g_e_minus_L1 1 _ h E hE)
 ·have h:=condF h hq4
  refine sA 1 [.code (C_46 125343),.inBlock 1,.code (C_46 1959),.inLoop (C_46 244),.inBlock 0,.code (C_46 31)] ?_
  exact sW hE _ [] (kp [1,5,6,7,8,9,13,14,15]) (kq [0]) 1 [] trivial (g_e_minus_J3_ok N a b out x y K_g_e_minus_L1 hK_g_e_minus_L1 0 _ h E hE)
theorem g_e_minus_L1_ok (N:Nat) (a:List Int) (b:List Int) (fuel:Nat):∀ (out:List Int) (borrow:Int) (x:Int) (r:(List Int)),g_e_minus_L1 N a b fuel out borrow x=some r→∀ E,EnvOk E 0→Runs Tryz.prog E 117 50 (SPost E [] (eU r)) [.code (C_46 244),.inLoop (C_46 244),.inBlock 0,.code (C_46 31)] ⟨[(1,(eU b)),(5,(.os 0 0 out.length)),(6,(a32 borrow)),(13,(eU a)),(14,(aI ((a.length:Nat):Int))),(15,(aI x))],[(0,aU out)],1⟩:=by
 induction fuel with
 | zero=>intro _ _ _ r h;rw [g_e_minus_L1.eq_1] at h;cases h
 | succ fuel ih =>
  intro out borrow x r h E hE
  rw [g_e_minus_L1.eq_2] at h
  refine sA 1 [.code (C_46 488),.code (C_46 489),.inLoop (C_46 244),.inBlock 0,.code (C_46 31)] ?_
  refine sR hE ⟨[(1,(eU b)),(5,(.os 0 0 out.length)),(6,(a32 borrow)),(13,(eU a)),(14,(aI ((a.length:Nat):Int))),(15,(aI x)),(16,(aB (decide (x < ((a.length:Nat):Int)))))],[(0,aU out)],17⟩ (C_46 488) [] [] (kp [1,5,6,13,14,15,16]) (kq [0]) 17 [] trivial ?_
  refine sA 1 [.code (C_46 978),.code (C_46 979),.inLoop (C_46 244),.inBlock 0,.code (C_46 31)] ?_
  refine sC 16 (C_46 1956) (C_46 1957) (decide (x < ((a.length:Nat):Int))) (fun hq2=>?_) (fun hq2=>?_)
  ·have h:=condT h hq2
   refine sA 4 [.code (C_46 7832),.code (C_46 7833),.inBlock 1,.code (C_46 1959),.inLoop (C_46 244),.inBlock 0,.code (C_46 31)] ?_
   obtain ⟨c2,h⟩:=ifSome h
   refine sR hE ⟨[(1,(eU b)),(5,(.os 0 0 out.length)),(6,(a32 borrow)),(7,(aI x)),(8,(a16 (a.getD ((x).toNat) 0))),(13,(eU a)),(14,(aI ((a.length:Nat):Int))),(15,(aI x))],[(0,aU out)],97⟩ (C_46 7832) [] [] (kp [1,5,6,7,8,13,14,15]) (kq [0]) 97 [0≤x∧x < ((a.length:Nat):Int)] ⟨c2,trivial⟩ ?_
   refine sA 1 [.code (C_46 15666),.code (C_46 15667),.inBlock 1,.code (C_46 1959),.inLoop (C_46 244),.inBlock 0,.code (C_46 31)] ?_
   refine sR hE ⟨[(1,(eU b)),(5,(.os 0 0 out.length)),(7,(aI x)),(8,(a16 (a.getD ((x).toNat) 0))),(9,(a32 borrow)),(13,(eU a)),(14,(aI ((a.length:Nat):Int))),(15,(aI x))],[(0,aU out)],129⟩ (C_46 15666) [] [] (kp [1,5,7,8,9,13,14,15]) (kq [0]) 129 [] trivial ?_
   refine sA 2 [.code (C_46 62668),.code (C_46 62669),.code (C_46 31335),.inBlock 1,.code (C_46 1959),.inLoop (C_46 244),.inBlock 0,.code (C_46 31)] ?_
   refine sR hE ⟨[(1,(eU b)),(5,(.os 0 0 out.length)),(7,(aI x)),(8,(a16 (a.getD ((x).toNat) 0))),(9,(a32 borrow)),(13,(eU a)),(14,(aI ((a.length:Nat):Int))),(15,(aI x)),(24,(aB (decide (x < ((b.length:Nat):Int)))))],[(0,aU out)],193⟩ (C_46 62668) [] [] (kp [1,5,7,8,9,13,14,15,24]) (kq [0]) 193 [] trivial ?_
   refine sC 24 (C_46 125338) (C_46 125339) (decide (x < ((b.length:Nat):Int))) (fun hq3=>?_) (fun hq3=>?_)
   ·have h:=condT h hq3
    obtain ⟨c3,h⟩:=ifSome h
    refine sR hE ⟨[(1,(eU b)),(5,(.os 0 0 out.length)),(7,(aI x)),(8,(a16 (a.getD ((x).toNat) 0))),(9,(a32 (IntKind.u32.wrap (borrow+(IntKind.u32.wrap ((b.getD ((x).toNat) 0))))))),(13,(eU a)),(14,(aI ((a.length:Nat):Int))),(15,(aI x))],[(0,aU out)],321⟩ (C_46 125338) [] [] (kp [1,5,7,8,9,13,14,15]) (kq [0]) 321 [0≤x∧x < ((b.length:Nat):Int)] ⟨c3,trivial⟩ ?_
    refine sA 1 [.code (C_46 62670),.code (C_46 62671),.inBlock 1,.code (C_46 1959),.inLoop (C_46 244),.inBlock 0,.code (C_46 31)] ?_
    exact sW hE _ [] (kp [1,5,7,8,9,13,14,15]) (kq [0]) 1 [] trivial (g_e_minus_J2_ok N a b out x (g_e_minus_L1 N a b fuel) ih (IntKind.u32.wrap (borrow+(IntKind.u32.wrap ((b.getD ((x).toNat) 0))))) _ h E hE)
   ·have h:=condF h hq3
    refine sA 2 [.code (C_46 62670),.code (C_46 62671),.inBlock 1,.code (C_46 1959),.inLoop (C_46 244),.inBlock 0,.code (C_46 31)] ?_
    exact sW hE _ [] (kp [1,5,7,8,9,13,14,15]) (kq [0]) 1 [] trivial (g_e_minus_J2_ok N a b out x (g_e_minus_L1 N a b fuel) ih borrow _ h E hE)
  ·have h:=condF h hq2
   refine sA 2 [.code (C_46 62),.code (C_46 63)] ?_
   obtain ⟨rtrim,hr,h⟩:=bindSome h
   refine sR hE ⟨[(4,(eU rtrim))],[],65⟩ (C_46 62) [(1,⟨[],true,(eU rtrim),[],0,true,none⟩)] [] (kp [4]) [] 65 [Sd 101 [(eU out)] [] 0 (eU rtrim) [],0+out.length≤out.length] ⟨(g_e_trim_ok N out rtrim hr),z0,trivial⟩ ?_
   obtain rfl:=Option.some.inj h
   refine sW hE ⟨[(4,(eU rtrim))],[],65⟩ [] (kp [4]) [] 65 [] trivial ?_
   exact sT Tryz.f117 [] [] trivial
theorem g_e_minus_ok (N:Nat) (a:List Int) (b:List Int) (r:(List Int)) (h:g_e_minus N a b=some r):Sd 117 [(eU a),(eU b)] [] 0 (eU r) []:=by
 unfold g_e_minus at h
 refine Sound.of_runs (fu:=Tryz.f117) (c:=C_46 1) (nt:=50) (by kernel_rfl) (by kernel_rfl) (by kernel_rfl) (by kernel_rfl) (fun hm=>rfl) ?_
 intro E hE
 refine sA 1 [.code (C_46 2),.code (C_46 3)] ?_
 refine sR hE ⟨[(0,(eU a)),(1,(eU b))],[],16⟩ (C_46 2) [] [] (kp [0,1]) [] 16 [] trivial ?_
 refine sA 1 [.code (C_46 6),.code (C_46 7)] ?_
 obtain ⟨c,h⟩:=ifSome h
 refine sR hE ⟨[(0,(eU a)),(1,(eU b)),(5,(.os 48 0 ((List.replicate a.length 0:List Int).length)))],[(48,aU (List.replicate a.length 0:List Int))],80⟩ (C_46 6) [] [] (kp [0,1] ++ [(5,.osl ((List.replicate a.length 0:List Int).length))]) [(48,.arr 48 ((List.replicate a.length 0:List Int).length) (fun zi=>(cU .u16) ((List.replicate a.length 0:List Int).getD zi 0)))] 80 [0≤((a.length:Nat):Int),((a.length:Nat):Int)≤((a.length:Nat):Int),(2:Int) * ((a.length:Nat):Int)≤281474976710656,((a.length:Nat):Int)≤9223372036854775807,a.length=(List.replicate a.length 0:List Int).length,a.length=(List.replicate a.length 0:List Int).length,∀ zi,zi < (List.replicate a.length 0:List Int).length→(fun zi=>(cU .u16) ((List.replicate a.length 0:List Int).getD zi 0)) zi=(fun _=>[(a16 0)]) zi] ⟨c.1,(Int.le_refl _),c.2.1,c.2.2,(List.length_replicate).symm,(List.length_replicate).symm,(fun zq hzq=>get_rep (cU .u16) 0 0 a.length zq hzq),trivial⟩ ?_
 refine sA 1 [.code (C_46 14),.code (C_46 15)] ?_
 refine sR hE ⟨[(0,(eU a)),(1,(eU b)),(5,(.os 48 0 ((List.replicate a.length 0:List Int).length))),(6,(a32 0))],[(48,aU (List.replicate a.length 0:List Int))],96⟩ (C_46 14) [] [] (kp [0,1,5,6]) (kq [48]) 96 [] trivial ?_
 refine sA 2 [.code (C_46 60),.code (C_46 61),.code (C_46 31)] ?_
 refine sR hE ⟨[(1,(eU b)),(5,(.os 48 0 ((List.replicate a.length 0:List Int).length))),(6,(a32 0)),(13,(eU a)),(14,(aI ((a.length:Nat):Int))),(15,(aI 0))],[(48,aU (List.replicate a.length 0:List Int))],144⟩ (C_46 60) [] [] (kp [1,5,6,13,14,15]) (kq [48]) 144 [] trivial ?_
 refine sA 2 [.code (C_46 244),.inLoop (C_46 244),.inBlock 0,.code (C_46 31)] ?_
 exact sW hE _ [] (kp [1,5,6,13,14,15]) [(0,.keep 48)] 1 [] trivial (g_e_minus_L1_ok N a b N (List.replicate a.length 0:List Int) 0 0 _ h E hE)
noncomputable def C_44 (n:Nat):Code:=cat (bodyOf Tryz.f97) (pth n)
theorem g_e_Add_ok (N:Nat) (a:TInt) (b:TInt) (r:TInt) (h:g_e_Add N a b=some r):Sd 97 [(.agg (TInt.cells a)),(.agg (TInt.cells b))] [] 0 (.agg (TInt.cells r)) []:=by
 unfold g_e_Add at h
 refine Sound.of_runs (fu:=Tryz.f97) (c:=C_44 1) (nt:=40) (by kernel_rfl) (by kernel_rfl) (by kernel_rfl) (by kernel_rfl) (fun hm=>rfl) ?_
 intro E hE
 refine sA 1 [.code (C_44 2),.code (C_44 3)] ?_
 refine sR hE ⟨[(2,(.op 0 0 0)),(3,(.op 16 0 0)),(4,(.op 32 0 0))],[(0,vO 2 (TInt.cells a)),(16,vO 2 (TInt.cells b)),(32,vO 2 [(aB false),.nil])],48⟩ (C_44 2) [] [] (kp [2,3,4]) (kq [0,16,32]) 48 [] trivial ?_
 refine sA 1 [.code (C_44 6),.code (C_44 7)] ?_
 obtain ⟨rtrim,hr,h⟩:=bindSome h
 obtain ⟨rtrim2,hr2,h⟩:=bindSome h
 refine sR hE ⟨[(2,(.op 0 0 0)),(3,(.op 16 0 0)),(4,(.op 32 0 0)),(5,(eU rtrim)),(6,(eU rtrim2))],[(0,vO 2 (TInt.cells a)),(16,vO 2 (TInt.cells b)),(32,vO 2 [(aB false),.nil])],176⟩ (C_44 6) [(2,⟨[],true,(eU rtrim),[],0,false,none⟩),(5,⟨[],true,(eU rtrim2),[],0,false,none⟩)] [] (kp [2,3,4,5,6]) (kq [0,16,32]) 176 [0 < 1,Sd 101 [(eU a.fL)] [] 0 (eU rtrim) [],0 < 1,Sd 101 [(eU b.fL)] [] 0 (eU rtrim2) []] ⟨o1,(g_e_trim_ok N a.fL rtrim hr),o1,(g_e_trim_ok N b.fL rtrim2 hr2),trivial⟩ ?_
 refine sA 2 [.code (C_44 28),.code (C_44 29),.code (C_44 15)] ?_
 refine sR hE ⟨[(2,(.op 0 0 0)),(3,(.op 16 0 0)),(4,(.op 32 0 0)),(5,(eU rtrim)),(6,(eU rtrim2)),(17,(aB (a.fG == b.fG)))],[(0,vO 2 (TInt.cells a)),(16,vO 2 (TInt.cells b)),(32,vO 2 [(aB false),.nil])],256⟩ (C_44 28) [] [] (kp [2,3,4,5,6,17]) (kq [0,16,32]) 256 [0 < 1,0 < 1] ⟨o1,o1,trivial⟩ ?_
 refine sC 17 (C_44 58) (C_44 59) (a.fG == b.fG) (fun hq2=>?_) (fun hq2=>?_)
 ·have h:=condT h hq2
  refine sA 1 [.code (C_44 116),.code (C_44 117),.code (C_44 15)] ?_
  obtain ⟨rplus,hr3,h⟩:=bindSome h
  obtain ⟨rSg,hr4,h⟩:=bindSome h
  refine sR hE ⟨[(4,(.op 32 0 0))],[(32,vN 2 [(aB rSg.fG),(.os 336 0 rSg.fL.length)]),(336,aU rSg.fL)],368⟩ (C_44 116) [(4,⟨[],true,(eU rplus),[],0,false,none⟩),(5,⟨[],false,(.agg [(aB rSg.fG),(.os 0 0 rSg.fL.length)]),[(0,aU rSg.fL)],0,false,none⟩)] [] (kp [4]) (kq [32,336]) 368 [0 < 1,Sd 115 [(eU rtrim),(eU rtrim2)] [] 0 (eU rplus) [],Sd 92 [(aB a.fG),(eU rplus)] [] 0 (.agg [(aB rSg.fG),(.os 0 0 rSg.fL.length)]) [(0,aU rSg.fL)],0 < 1] ⟨o1,(g_e_plus_ok N rtrim rtrim2 rplus hr3),(g_e_signed_ok N a.fG rplus rSg hr4),o1,trivial⟩ ?_
  obtain rfl:=Option.some.inj h
  refine sW hE ⟨[(4,(.op 16 0 0))],[(16,vO 2 (TInt.cells rSg))],368⟩ [336] (kp [4]) [(16,.var 32 [.keep,.sl (rSg.fL.length) (fun zi=>(cU .u16) (rSg.fL.getD zi 0))])] 368 [rSg.fL.length=rSg.fL.length,0+rSg.fL.length≤rSg.fL.length,∀ zi,zi < rSg.fL.length→(fun zi=>(cU .u16) (rSg.fL.getD zi 0)) zi=(fun zi=>(cU .u16) (rSg.fL.getD zi 0)) (addz 0 zi)] ⟨rfl,z0,(fun _ _=>rfl),trivial⟩ ?_
  exact sT Tryz.f97 [16] [0 < 1] ⟨o1,trivial⟩
 ·have h:=condF h hq2
  refine sA 3 [.code (C_44 60),.code (C_44 61),.code (C_44 31)] ?_
  obtain ⟨rcompare,hr5,h⟩:=bindSome h
  refine sR hE ⟨[(2,(.op 0 0 0)),(3,(.op 16 0 0)),(4,(.op 32 0 0)),(5,(eU rtrim)),(6,(eU rtrim2)),(27,(aB (decide (rcompare≥0))))],[(0,vO 2 (TInt.cells a)),(16,vO 2 (TInt.cells b)),(32,vO 2 [(aB false),.nil])],320⟩ (C_44 60) [(2,⟨[],true,(aI rcompare),[],0,false,none⟩)] [] (kp [2,3,4,5,6,27]) (kq [0,16,32]) 320 [Sd 116 [(eU rtrim),(eU rtrim2)] [] 0 (aI rcompare) []] ⟨(g_e_compare_ok N rtrim rtrim2 rcompare hr5),trivial⟩ ?_
  refine sC 27 (C_44 122) (C_44 123) (decide (rcompare≥0)) (fun hq3=>?_) (fun hq3=>?_)
  ·have h:=condT h hq3
   refine sA 1 [.code (C_44 244),.code (C_44 245),.code (C_44 31)] ?_
   obtain ⟨rminus,hr6,h⟩:=bindSome h
   obtain ⟨rSg2,hr7,h⟩:=bindSome h
   refine sR hE ⟨[(4,(.op 32 0 0))],[(32,vN 2 [(aB rSg2.fG),(.os 400 0 rSg2.fL.length)]),(400,aU rSg2.fL)],432⟩ (C_44 244) [(4,⟨[],true,(eU rminus),[],0,false,none⟩),(5,⟨[],false,(.agg [(aB rSg2.fG),(.os 0 0 rSg2.fL.length)]),[(0,aU rSg2.fL)],0,false,none⟩)] [] (kp [4]) (kq [32,400]) 432 [0 < 1,Sd 117 [(eU rtrim),(eU rtrim2)] [] 0 (eU rminus) [],Sd 92 [(aB a.fG),(eU rminus)] [] 0 (.agg [(aB rSg2.fG),(.os 0 0 rSg2.fL.length)]) [(0,aU rSg2.fL)],0 < 1] ⟨o1,(g_e_minus_ok N rtrim rtrim2 rminus hr6),(g_e_signed_ok N a.fG rminus rSg2 hr7),o1,trivial⟩ ?_
   obtain rfl:=Option.some.inj h
   refine sW hE ⟨[(4,(.op 16 0 0))],[(16,vO 2 (TInt.cells rSg2))],432⟩ [400] (kp [4]) [(16,.var 32 [.keep,.sl (rSg2.fL.length) (fun zi=>(cU .u16) (rSg2.fL.getD zi 0))])] 432 [rSg2.fL.length=rSg2.fL.length,0+rSg2.fL.length≤rSg2.fL.length,∀ zi,zi < rSg2.fL.length→(fun zi=>(cU .u16) (rSg2.fL.getD zi 0)) zi=(fun zi=>(cU .u16) (rSg2.fL.getD zi 0)) (addz 0 zi)] ⟨rfl,z0,(fun _ _=>rfl),trivial⟩ ?_
   exact sT Tryz.f97 [16] [0 < 1] ⟨o1,trivial⟩
  ·have h:=condF h hq3
   refine sA 2 [.code (C_44 62),.code (C_44 63)] ?_
   obtain ⟨rminus2,hr8,h⟩:=bindSome h
   obtain ⟨rSg3,hr9,h⟩:=bindSome h
   refine sR hE ⟨[(4,(.op 32 0 0))],[(32,vN 2 [(aB rSg3.fG),(.os 400 0 rSg3.fL.length)]),(400,aU rSg3.fL)],432⟩ (C_44 62) [(4,⟨[],true,(eU rminus2),[],0,false,none⟩),(5,⟨[],false,(.agg [(aB rSg3.fG),(.os 0 0 rSg3.fL.length)]),[(0,aU rSg3.fL)],0,false,none⟩)] [] (kp [4]) (kq [32,400]) 432 [0 < 1,Sd 117 [(eU rtrim2),(eU rtrim)] [] 0 (eU rminus2) [],Sd 92 [(aB b.fG),(eU rminus2)] [] 0 (.agg [(aB rSg3.fG),(.os 0 0 rSg3.fL.length)]) [(0,aU rSg3.fL)],0 < 1] ⟨o1,(g_e_minus_ok N rtrim2 rtrim rminus2 hr8),(g_e_signed_ok N b.fG rminus2 rSg3 hr9),o1,trivial⟩ ?_
   obtain rfl:=Option.some.inj h
   refine sW hE ⟨[(4,(.op 16 0 0))],[(16,vO 2 (TInt.cells rSg3))],432⟩ [400] (kp [4]) [(16,.var 32 [.keep,.sl (rSg3.fL.length) (fun zi=>(cU .u16) (rSg3.fL.getD zi 0))])] 432 [rSg3.fL.length=rSg3.fL.length,0+rSg3.fL.length≤rSg3.fL.length,∀ zi,zi < rSg3.fL.length→(fun zi=>(cU .u16) (rSg3.fL.getD zi 0)) zi=(fun zi=>(cU .u16) (rSg3.fL.getD zi 0)) (addz 0 zi)] ⟨rfl,z0,(fun _ _=>rfl),trivial⟩ ?_
   exact sT Tryz.f97 [16] [0 < 1] ⟨o1,trivial⟩
noncomputable def C_42 (n:Nat):Code:=cat (bodyOf Tryz.f70) (pth n)
theorem g_e_AddRat_ok (N:Nat) (x:TRat) (y:TRat) (r:TRat) (h:g_e_AddRat N x y=some r):Sd 70 [(.agg (TRat.cells x)),(.agg (TRat.cells y))] [] 0 (.agg (TRat.cells r)) []:=by
 unfold g_e_AddRat at h
 refine Sound.of_runs (fu:=Tryz.f70) (c:=C_42 1) (nt:=32) (by kernel_rfl) (by kernel_rfl) (by kernel_rfl) (by kernel_rfl) (fun hm=>rfl) ?_
 intro E hE
 refine sA 1 [.code (C_42 2),.code (C_42 3)] ?_
 refine sR hE ⟨[(2,(.op 0 0 0)),(3,(.op 16 0 0)),(4,(.op 32 0 0))],[(0,vO 4 (TRat.cells x)),(16,vO 4 (TRat.cells y)),(32,vO 4 [(aB false),.nil,(aB false),.nil])],48⟩ (C_42 2) [] [] (kp [2,3,4]) (kq [0,16,32]) 48 [] trivial ?_
 refine sA 2 [.code (C_42 12),.code (C_42 13),.code (C_42 7)] ?_
 obtain ⟨risZero,hr,h⟩:=bindSome h
 refine sR hE ⟨[(2,(.op 0 0 0)),(3,(.op 16 0 0)),(4,(.op 32 0 0)),(8,(aB risZero))],[(0,vO 4 (TRat.cells x)),(16,vO 4 (TRat.cells y)),(32,vO 4 [(aB false),.nil,(aB false),.nil])],80⟩ (C_42 12) [(1,⟨[],true,(aB risZero),[],0,false,none⟩)] [] (kp [2,3,4,8]) (kq [0,16,32]) 80 [0 < 1,Sd 89 [(.agg (TRat.cells x))] [] 0 (aB risZero) []] ⟨o1,(g_e_isZero_ok N x risZero hr),trivial⟩ ?_
 refine sC 8 (C_42 26) (C_42 27) risZero (fun hq2=>?_) (fun hq2=>?_)
 ·have h:=condT h hq2
  refine sA 1 [.code (C_42 52),.code (C_42 53),.code (C_42 7)] ?_
  obtain ⟨rlowest,hr2,h⟩:=bindSome h
  refine sR hE ⟨[(4,(.op 32 0 0))],[(32,vO 4 (TRat.cells rlowest))],128⟩ (C_42 52) [(1,⟨[],true,(.agg (TRat.cells rlowest)),[],0,false,none⟩)] [] (kp [4]) (kq [32]) 128 [0 < 1,Sd 96 [(.agg (TRat.cells y))] [] 0 (.agg (TRat.cells rlowest)) [],0 < 1] ⟨o1,(g_e_lowest_ok N y rlowest hr2),o1,trivial⟩ ?_
  obtain rfl:=Option.some.inj h
  refine sW hE ⟨[(4,(.op 16 0 0))],[(16,vO 4 (TRat.cells rlowest))],128⟩ [] (kp [4]) [(16,.keep 32)] 128 [] trivial ?_
  exact sT Tryz.f70 [16] [0 < 1] ⟨o1,trivial⟩
 ·have h:=condF h hq2
  refine sA 3 [.code (C_42 28),.code (C_42 29),.code (C_42 15)] ?_
  obtain ⟨risZero2,hr3,h⟩:=bindSome h
  refine sR hE ⟨[(2,(.op 0 0 0)),(3,(.op 16 0 0)),(4,(.op 32 0 0)),(12,(aB risZero2))],[(0,vO 4 (TRat.cells x)),(16,vO 4 (TRat.cells y)),(32,vO 4 [(aB false),.nil,(aB false),.nil])],112⟩ (C_42 28) [(1,⟨[],true,(aB risZero2),[],0,false,none⟩)] [] (kp [2,3,4,12]) (kq [0,16,32]) 112 [0 < 1,Sd 89 [(.agg (TRat.cells y))] [] 0 (aB risZero2) []] ⟨o1,(g_e_isZero_ok N y risZero2 hr3),trivial⟩ ?_
  refine sC 12 (C_42 58) (C_42 59) risZero2 (fun hq3=>?_) (fun hq3=>?_)
  ·have h:=condT h hq3
   refine sA 1 [.code (C_42 116),.code (C_42 117),.code (C_42 15)] ?_
   obtain ⟨rlowest2,hr4,h⟩:=bindSome h
   refine sR hE ⟨[(4,(.op 32 0 0))],[(32,vO 4 (TRat.cells rlowest2))],160⟩ (C_42 116) [(1,⟨[],true,(.agg (TRat.cells rlowest2)),[],0,false,none⟩)] [] (kp [4]) (kq [32]) 160 [0 < 1,Sd 96 [(.agg (TRat.cells x))] [] 0 (.agg (TRat.cells rlowest2)) [],0 < 1] ⟨o1,(g_e_lowest_ok N x rlowest2 hr4),o1,trivial⟩ ?_
   obtain rfl:=Option.some.inj h
   refine sW hE ⟨[(4,(.op 16 0 0))],[(16,vO 4 (TRat.cells rlowest2))],160⟩ [] (kp [4]) [(16,.keep 32)] 160 [] trivial ?_
   exact sT Tryz.f70 [16] [0 < 1] ⟨o1,trivial⟩
  ·have h:=condF h hq3
   refine sA 2 [.code (C_42 30),.code (C_42 31)] ?_
   obtain ⟨rbelow,hr5,h⟩:=bindSome h
   obtain ⟨rbelow2,hr6,h⟩:=bindSome h
   refine sR hE ⟨[(2,(.op 0 0 0)),(3,(.op 16 0 0)),(4,(.op 32 0 0)),(5,(.op 176 0 0)),(6,(.op 192 0 0))],[(0,vO 4 (TRat.cells x)),(16,vO 4 (TRat.cells y)),(32,vO 4 [(aB false),.nil,(aB false),.nil]),(176,vO 2 (TInt.cells rbelow)),(192,vO 2 (TInt.cells rbelow2))],240⟩ (C_42 30) [(1,⟨[],true,(.agg (TInt.cells rbelow)),[],0,false,none⟩),(3,⟨[],true,(.agg (TInt.cells rbelow2)),[],0,false,none⟩)] [] (kp [2,3,4,5,6]) (kq [0,16,32,176,192]) 240 [0 < 1,Sd 95 [(.agg (TRat.cells x))] [] 0 (.agg (TInt.cells rbelow)) [],0 < 1,Sd 95 [(.agg (TRat.cells y))] [] 0 (.agg (TInt.cells rbelow2)) [],0 < 1,0 < 1] ⟨o1,(g_e_below_ok N x rbelow hr5),o1,(g_e_below_ok N y rbelow2 hr6),o1,o1,trivial⟩ ?_
   refine sA 1 [.code (C_42 62),.code (C_42 63)] ?_
   obtain ⟨rMul,hr7,h⟩:=bindSome h
   obtain ⟨rMul2,hr8,h⟩:=bindSome h
   obtain ⟨rAdd,hr9,h⟩:=bindSome h
   obtain ⟨rMul3,hr10,h⟩:=bindSome h
   obtain ⟨rFr,hr11,h⟩:=bindSome h
   refine sR hE ⟨[(4,(.op 32 0 0))],[(32,vN 4 [(aB rFr.fN.fG),(.os 432 0 rFr.fN.fL.length),(aB rFr.fD.fG),(.os 433 0 rFr.fD.fL.length)]),(432,aU rFr.fN.fL),(433,aU rFr.fD.fL)],464⟩ (C_42 62) [(3,⟨[],true,(.agg (TInt.cells rMul)),[],0,false,none⟩),(7,⟨[],true,(.agg (TInt.cells rMul2)),[],0,false,none⟩),(8,⟨[],true,(.agg (TInt.cells rAdd)),[],0,false,none⟩),(11,⟨[],true,(.agg (TInt.cells rMul3)),[],0,false,none⟩),(12,⟨[],false,(.agg [(aB rFr.fN.fG),(.os 0 0 rFr.fN.fL.length),(aB rFr.fD.fG),(.os 1 0 rFr.fD.fL.length)]),[(0,aU rFr.fN.fL),(1,aU rFr.fD.fL)],0,false,none⟩)] [] (kp [4]) (kq [32,432,433]) 464 [0 < 1,0 < 1,Sd 94 [(.agg (TInt.cells x.fN)),(.agg (TInt.cells rbelow2))] [] 0 (.agg (TInt.cells rMul)) [],0 < 1,0 < 1,Sd 94 [(.agg (TInt.cells y.fN)),(.agg (TInt.cells rbelow))] [] 0 (.agg (TInt.cells rMul2)) [],Sd 97 [(.agg (TInt.cells rMul)),(.agg (TInt.cells rMul2))] [] 0 (.agg (TInt.cells rAdd)) [],0 < 1,0 < 1,Sd 94 [(.agg (TInt.cells rbelow)),(.agg (TInt.cells rbelow2))] [] 0 (.agg (TInt.cells rMul3)) [],Sd 91 [(.agg (TInt.cells rAdd)),(.agg (TInt.cells rMul3))] [] 0 (.agg [(aB rFr.fN.fG),(.os 0 0 rFr.fN.fL.length),(aB rFr.fD.fG),(.os 1 0 rFr.fD.fL.length)]) [(0,aU rFr.fN.fL),(1,aU rFr.fD.fL)],0 < 1] ⟨o1,o1,(g_e_Mul_ok N x.fN rbelow2 rMul hr7),o1,o1,(g_e_Mul_ok N y.fN rbelow rMul2 hr8),(g_e_Add_ok N rMul rMul2 rAdd hr9),o1,o1,(g_e_Mul_ok N rbelow rbelow2 rMul3 hr10),(g_e_fraction_ok N rAdd rMul3 rFr hr11),o1,trivial⟩ ?_
   obtain rfl:=Option.some.inj h
   refine sW hE ⟨[(4,(.op 16 0 0))],[(16,vO 4 (TRat.cells rFr))],464⟩ [432,433] (kp [4]) [(16,.var 32 [.keep,.sl (rFr.fN.fL.length) (fun zi=>(cU .u16) (rFr.fN.fL.getD zi 0)),.keep,.sl (rFr.fD.fL.length) (fun zi=>(cU .u16) (rFr.fD.fL.getD zi 0))])] 464 [rFr.fN.fL.length=rFr.fN.fL.length,0+rFr.fN.fL.length≤rFr.fN.fL.length,∀ zi,zi < rFr.fN.fL.length→(fun zi=>(cU .u16) (rFr.fN.fL.getD zi 0)) zi=(fun zi=>(cU .u16) (rFr.fN.fL.getD zi 0)) (addz 0 zi),rFr.fD.fL.length=rFr.fD.fL.length,0+rFr.fD.fL.length≤rFr.fD.fL.length,∀ zi,zi < rFr.fD.fL.length→(fun zi=>(cU .u16) (rFr.fD.fL.getD zi 0)) zi=(fun zi=>(cU .u16) (rFr.fD.fL.getD zi 0)) (addz 0 zi)] ⟨rfl,z0,(fun _ _=>rfl),rfl,z0,(fun _ _=>rfl),trivial⟩ ?_
   exact sT Tryz.f70 [16] [0 < 1] ⟨o1,trivial⟩
noncomputable def C_39 (n:Nat):Code:=cat (bodyOf Tryz.f48) (pth n)
theorem g_e_SubRat_ok (N:Nat) (x:TRat) (y:TRat) (r:TRat) (h:g_e_SubRat N x y=some r):Sd 48 [(.agg (TRat.cells x)),(.agg (TRat.cells y))] [] 0 (.agg (TRat.cells r)) []:=by
 unfold g_e_SubRat at h
 refine Sound.of_runs (fu:=Tryz.f48) (c:=C_39 1) (nt:=9) (by kernel_rfl) (by kernel_rfl) (by kernel_rfl) (by kernel_rfl) (fun hm=>rfl) ?_
 intro E hE
 refine sA 1 [.code (C_39 2),.code (C_39 3)] ?_
 refine sR hE ⟨[(2,(.op 0 0 0)),(3,(.op 16 0 0)),(4,(.op 32 0 0))],[(0,vO 4 (TRat.cells x)),(16,vO 4 (TRat.cells y)),(32,vO 4 [(aB false),.nil,(aB false),.nil])],48⟩ (C_39 2) [] [] (kp [2,3,4]) (kq [0,16,32]) 48 [] trivial ?_
 refine sA 1 [.code (C_39 6),.code (C_39 7)] ?_
 obtain ⟨rnegative,hr,h⟩:=bindSome h
 obtain ⟨rAddRat,hr2,h⟩:=bindSome h
 refine sR hE ⟨[(4,(.op 32 0 0))],[(32,vO 4 (TRat.cells rAddRat))],128⟩ (C_39 6) [(2,⟨[],true,(.agg (TRat.cells rnegative)),[],0,false,none⟩),(3,⟨[],true,(.agg (TRat.cells rAddRat)),[],0,false,none⟩)] [] (kp [4]) (kq [32]) 128 [0 < 1,0 < 1,Sd 71 [(.agg (TRat.cells y))] [] 0 (.agg (TRat.cells rnegative)) [],Sd 70 [(.agg (TRat.cells x)),(.agg (TRat.cells rnegative))] [] 0 (.agg (TRat.cells rAddRat)) [],0 < 1] ⟨o1,o1,(g_e_negative_ok N y rnegative hr),(g_e_AddRat_ok N x rnegative rAddRat hr2),o1,trivial⟩ ?_
 obtain rfl:=Option.some.inj h
 refine sW hE ⟨[(4,(.op 16 0 0))],[(16,vO 4 (TRat.cells rAddRat))],128⟩ [] (kp [4]) [(16,.keep 32)] 128 [] trivial ?_
 exact sT Tryz.f48 [16] [0 < 1] ⟨o1,trivial⟩
noncomputable def C_2 (n:Nat):Code:=cat (bodyOf Tryz.f17) (pth n)
theorem g_w_Float_ok (N:Nat) (p:TPn) (steps:List Int) (r:TPose×Int) (h:g_w_Float N p steps=some r):Sd 17 [(.agg (TPn.cells p)),(encL cI 0 steps)] [] 0 (.tup [(.agg (TPose.cells r.1)),(aI r.2)]) []:=by
 unfold g_w_Float at h
 refine Sound.of_runs (fu:=Tryz.f17) (c:=C_2 1) (nt:=89) (by kernel_rfl) (by kernel_rfl) (by kernel_rfl) (by kernel_rfl) (fun hm=>rfl) ?_
 intro E hE
 refine sA 1 [.code (C_2 2),.code (C_2 3)] ?_
 refine sR hE ⟨[(1,(encL cI 0 steps)),(2,(.op 0 0 0)),(4,(.op 16 0 0))],[(0,vO 5 (TPn.cells p)),(16,vO 16 [(aB false),.nil,(aB false),.nil,(aB false),.nil,(aB false),.nil,(aB false),.nil,(aB false),.nil,(aB false),.nil,(aB false),.nil])],48⟩ (C_2 2) [] [] (kp [1,2,4]) (kq [0,16]) 48 [] trivial ?_
 refine sA 2 [.code (C_2 12),.code (C_2 13),.code (C_2 7)] ?_
 obtain ⟨rCP,hr,h⟩:=bindSome h
 refine sR hE ⟨[(1,(encL cI 0 steps)),(2,(.op 0 0 0)),(4,(.op 16 0 0)),(6,(aI rCP))],[(0,vO 5 (TPn.cells p)),(16,vO 16 [(aB false),.nil,(aB false),.nil,(aB false),.nil,(aB false),.nil,(aB false),.nil,(aB false),.nil,(aB false),.nil,(aB false),.nil])],96⟩ (C_2 12) [(1,⟨[],true,(aI rCP),[],0,false,none⟩)] [] (kp [1,2,4,6]) (kq [0,16]) 96 [0 < 1,Sd 21 [(.agg (TPn.cells p))] [] 0 (aI rCP) []] ⟨o1,(g_w_CheckPontoon_ok N p rCP hr),trivial⟩ ?_
 refine sA 1 [.code (C_2 26),.code (C_2 27),.code (C_2 7)] ?_
 refine sR hE ⟨[(1,(encL cI 0 steps)),(2,(.op 0 0 0)),(4,(.op 16 0 0)),(6,(aI rCP)),(16,(aB (rCP != 0)))],[(0,vO 5 (TPn.cells p)),(16,vO 16 [(aB false),.nil,(aB false),.nil,(aB false),.nil,(aB false),.nil,(aB false),.nil,(aB false),.nil,(aB false),.nil,(aB false),.nil])],128⟩ (C_2 26) [] [] (kp [1,2,4,6,16]) (kq [0,16]) 128 [] trivial ?_
 refine sC 16 (C_2 54) (C_2 55) (rCP != 0) (fun hq2=>?_) (fun hq2=>?_)
 ·have h:=condT h hq2
  refine sA 1 [.code (C_2 108),.code (C_2 109),.code (C_2 7)] ?_
  refine sR hE ⟨[(4,(.op 16 0 0)),(5,(aI rCP))],[(16,vO 16 [(aB false),.nil,(aB false),.nil,(aB false),.nil,(aB false),.nil,(aB false),.nil,(aB false),.nil,(aB false),.nil,(aB false),.nil])],192⟩ (C_2 108) [] [] (kp [4,5]) (kq [16]) 192 [0 < 1] ⟨o1,trivial⟩ ?_
  obtain rfl:=Option.some.inj h
  refine sW hE ⟨[(4,(.op 16 0 0)),(5,(aI rCP))],[(16,vO 16 [(aB false),(eU ([]:List Int)),(aB false),(eU ([]:List Int)),(aB false),(eU ([]:List Int)),(aB false),(eU ([]:List Int)),(aB false),(eU ([]:List Int)),(aB false),(eU ([]:List Int)),(aB false),(eU ([]:List Int)),(aB false),(eU ([]:List Int))])],192⟩ [] (kp [4,5]) [(16,.var 16 [.keep,.sl (([]:List Int).length) (fun zi=>(cU .u16) (([]:List Int).getD zi 0)),.keep,.sl (([]:List Int).length) (fun zi=>(cU .u16) (([]:List Int).getD zi 0)),.keep,.sl (([]:List Int).length) (fun zi=>(cU .u16) (([]:List Int).getD zi 0)),.keep,.sl (([]:List Int).length) (fun zi=>(cU .u16) (([]:List Int).getD zi 0)),.keep,.sl (([]:List Int).length) (fun zi=>(cU .u16) (([]:List Int).getD zi 0)),.keep,.sl (([]:List Int).length) (fun zi=>(cU .u16) (([]:List Int).getD zi 0)),.keep,.sl (([]:List Int).length) (fun zi=>(cU .u16) (([]:List Int).getD zi 0)),.keep,.sl (([]:List Int).length) (fun zi=>(cU .u16) (([]:List Int).getD zi 0))])] 192 [([]:List Int).length=0,([]:List Int).length=0,([]:List Int).length=0,([]:List Int).length=0,([]:List Int).length=0,([]:List Int).length=0,([]:List Int).length=0,([]:List Int).length=0] ⟨rfl,rfl,rfl,rfl,rfl,rfl,rfl,rfl,trivial⟩ ?_
  exact sT Tryz.f17 [16] [0 < 1] ⟨o1,trivial⟩
 ·have h:=condF h hq2
  refine sA 2 [.code (C_2 14),.code (C_2 15)] ?_
  obtain ⟨rcheckSteps,hr2,h⟩:=bindSome h
  refine sR hE ⟨[(2,(.op 0 0 0)),(4,(.op 16 0 0)),(7,(.op 224 0 0)),(8,(aI rcheckSteps.2))],[(0,vO 5 (TPn.cells p)),(16,vO 16 [(aB false),.nil,(aB false),.nil,(aB false),.nil,(aB false),.nil,(aB false),.nil,(aB false),.nil,(aB false),.nil,(aB false),.nil]),(224,vO 6 (Tw_state.cells rcheckSteps.1))],272⟩ (C_2 14) [(2,⟨[],true,(.tup [(.agg (Tw_state.cells rcheckSteps.1)),(aI rcheckSteps.2)]),[],0,false,none⟩)] [] (kp [2,4,7,8]) (kq [0,16,224]) 272 [0 < 1,Sd 44 [(.agg (TPn.cells p)),(encL cI 0 steps)] [] 0 (.tup [(.agg (Tw_state.cells rcheckSteps.1)),(aI rcheckSteps.2)]) [],0 < 1] ⟨o1,(g_w_checkSteps_ok N p steps rcheckSteps hr2),o1,trivial⟩ ?_
  refine sA 2 [.code (C_2 60),.code (C_2 61),.code (C_2 31)] ?_
  refine sR hE ⟨[(2,(.op 0 0 0)),(4,(.op 16 0 0)),(7,(.op 224 0 0)),(8,(aI rcheckSteps.2)),(26,(aB (rcheckSteps.2 != 0)))],[(0,vO 5 (TPn.cells p)),(16,vO 16 [(aB false),.nil,(aB false),.nil,(aB false),.nil,(aB false),.nil,(aB false),.nil,(aB false),.nil,(aB false),.nil,(aB false),.nil]),(224,vO 6 (Tw_state.cells rcheckSteps.1))],304⟩ (C_2 60) [] [] (kp [2,4,7,8,26]) (kq [0,16,224]) 304 [] trivial ?_
  refine sC 26 (C_2 122) (C_2 123) (rcheckSteps.2 != 0) (fun hq3=>?_) (fun hq3=>?_)
  ·have h:=condT h hq3
   refine sA 1 [.code (C_2 244),.code (C_2 245),.code (C_2 31)] ?_
   refine sR hE ⟨[(4,(.op 16 0 0)),(5,(aI rcheckSteps.2))],[(16,vO 16 [(aB false),.nil,(aB false),.nil,(aB false),.nil,(aB false),.nil,(aB false),.nil,(aB false),.nil,(aB false),.nil,(aB false),.nil])],368⟩ (C_2 244) [] [] (kp [4,5]) (kq [16]) 368 [0 < 1] ⟨o1,trivial⟩ ?_
   obtain rfl:=Option.some.inj h
   refine sW hE ⟨[(4,(.op 16 0 0)),(5,(aI rcheckSteps.2))],[(16,vO 16 [(aB false),(eU ([]:List Int)),(aB false),(eU ([]:List Int)),(aB false),(eU ([]:List Int)),(aB false),(eU ([]:List Int)),(aB false),(eU ([]:List Int)),(aB false),(eU ([]:List Int)),(aB false),(eU ([]:List Int)),(aB false),(eU ([]:List Int))])],368⟩ [] (kp [4,5]) [(16,.var 16 [.keep,.sl (([]:List Int).length) (fun zi=>(cU .u16) (([]:List Int).getD zi 0)),.keep,.sl (([]:List Int).length) (fun zi=>(cU .u16) (([]:List Int).getD zi 0)),.keep,.sl (([]:List Int).length) (fun zi=>(cU .u16) (([]:List Int).getD zi 0)),.keep,.sl (([]:List Int).length) (fun zi=>(cU .u16) (([]:List Int).getD zi 0)),.keep,.sl (([]:List Int).length) (fun zi=>(cU .u16) (([]:List Int).getD zi 0)),.keep,.sl (([]:List Int).length) (fun zi=>(cU .u16) (([]:List Int).getD zi 0)),.keep,.sl (([]:List Int).length) (fun zi=>(cU .u16) (([]:List Int).getD zi 0)),.keep,.sl (([]:List Int).length) (fun zi=>(cU .u16) (([]:List Int).getD zi 0))])] 368 [([]:List Int).length=0,([]:List Int).length=0,([]:List Int).length=0,([]:List Int).length=0,([]:List Int).length=0,([]:List Int).length=0,([]:List Int).length=0,([]:List Int).length=0] ⟨rfl,rfl,rfl,rfl,rfl,rfl,rfl,rfl,trivial⟩ ?_
   exact sT Tryz.f17 [16] [0 < 1] ⟨o1,trivial⟩
  ·have h:=condF h hq3
   refine sA 2 [.code (C_2 62),.code (C_2 63)] ?_
   obtain ⟨rsumOf,hr3,h⟩:=bindSome h
   refine sR hE ⟨[(2,(.op 0 0 0)),(4,(.op 16 0 0)),(9,(.op 352 0 0))],[(0,vO 5 (TPn.cells p)),(16,vO 16 [(aB false),.nil,(aB false),.nil,(aB false),.nil,(aB false),.nil,(aB false),.nil,(aB false),.nil,(aB false),.nil,(aB false),.nil]),(352,vO 4 (Tw_sums.cells rsumOf))],384⟩ (C_2 62) [(2,⟨[],true,(.agg (Tw_sums.cells rsumOf)),[],0,false,none⟩)] [] (kp [2,4,9]) (kq [0,16,352]) 384 [0 < 1,0 < 1,Sd 45 [(.agg (TPn.cells p)),(.agg (Tw_state.cells rcheckSteps.1))] [] 0 (.agg (Tw_sums.cells rsumOf)) [],0 < 1] ⟨o1,o1,(g_w_sumOf_ok N p rcheckSteps.1 rsumOf hr3),o1,trivial⟩ ?_
   refine sA 1 [.code (C_2 126),.code (C_2 127)] ?_
   refine sR hE ⟨[(4,(.op 16 0 0)),(9,(.op 352 0 0)),(10,(aI p.fLn)),(11,(aI p.fBr)),(12,(aI p.fDsity))],[(16,vO 16 [(aB false),.nil,(aB false),.nil,(aB false),.nil,(aB false),.nil,(aB false),.nil,(aB false),.nil,(aB false),.nil,(aB false),.nil]),(352,vO 4 (Tw_sums.cells rsumOf))],528⟩ (C_2 126) [] [] (kp [4,9,10,11,12]) (kq [16,352]) 528 [0 < 1,0 < 1,0 < 1] ⟨o1,o1,o1,trivial⟩ ?_
   refine sA 1 [.code (C_2 254),.code (C_2 255)] ?_
   obtain ⟨rproduct,hr4,h⟩:=bindSome h
   obtain ⟨rproduct2,hr5,h⟩:=bindSome h
   obtain ⟨rquotient,hr6,h⟩:=bindSome h
   obtain ⟨rproduct3,hr7,h⟩:=bindSome h
   obtain ⟨rproduct4,hr8,h⟩:=bindSome h
   obtain ⟨rquotient2,hr9,h⟩:=bindSome h
   obtain ⟨rproduct5,hr10,h⟩:=bindSome h
   obtain ⟨rproduct6,hr11,h⟩:=bindSome h
   obtain ⟨rquotient3,hr12,h⟩:=bindSome h
   obtain ⟨rproduct7,hr13,h⟩:=bindSome h
   obtain ⟨rproduct8,hr14,h⟩:=bindSome h
   obtain ⟨rquotient4,hr15,h⟩:=bindSome h
   obtain ⟨rproduct9,hr16,h⟩:=bindSome h
   obtain ⟨rproduct10,hr17,h⟩:=bindSome h
   obtain ⟨rquotient5,hr18,h⟩:=bindSome h
   obtain ⟨rSubRat,hr19,h⟩:=bindSome h
   refine sR hE ⟨[(4,(.op 16 0 0)),(5,(aI 0))],[(16,vN 16 [(aB rquotient.fN.fG),(.os 672 0 rquotient.fN.fL.length),(aB rquotient.fD.fG),(.os 673 0 rquotient.fD.fL.length),(aB rquotient2.fN.fG),(.os 864 0 rquotient2.fN.fL.length),(aB rquotient2.fD.fG),(.os 865 0 rquotient2.fD.fL.length),(aB rquotient3.fN.fG),(.os 1056 0 rquotient3.fN.fL.length),(aB rquotient3.fD.fG),(.os 1057 0 rquotient3.fD.fL.length),(aB rSubRat.fN.fG),(eU rSubRat.fN.fL),(aB rSubRat.fD.fG),(eU rSubRat.fD.fL)]),(672,aU rquotient.fN.fL),(673,aU rquotient.fD.fL),(864,aU rquotient2.fN.fL),(865,aU rquotient2.fD.fL),(1056,aU rquotient3.fN.fL),(1057,aU rquotient3.fD.fL)],1376⟩ (C_2 254) [(3,⟨[],false,(.agg [(aB rproduct.fN.fG),(.os 0 0 rproduct.fN.fL.length),(aB rproduct.fD.fG),(.os 1 0 rproduct.fD.fL.length)]),[(0,aU rproduct.fN.fL),(1,aU rproduct.fD.fL)],0,false,none⟩),(8,⟨[],false,(.agg [(aB rproduct2.fN.fG),(.os 0 0 rproduct2.fN.fL.length),(aB rproduct2.fD.fG),(.os 1 0 rproduct2.fD.fL.length)]),[(0,aU rproduct2.fN.fL),(1,aU rproduct2.fD.fL)],0,false,none⟩),(9,⟨[],false,(.agg [(aB rquotient.fN.fG),(.os 0 0 rquotient.fN.fL.length),(aB rquotient.fD.fG),(.os 1 0 rquotient.fD.fL.length)]),[(0,aU rquotient.fN.fL),(1,aU rquotient.fD.fL)],0,false,none⟩),(13,⟨[],false,(.agg [(aB rproduct3.fN.fG),(.os 0 0 rproduct3.fN.fL.length),(aB rproduct3.fD.fG),(.os 1 0 rproduct3.fD.fL.length)]),[(0,aU rproduct3.fN.fL),(1,aU rproduct3.fD.fL)],0,false,none⟩),(20,⟨[],false,(.agg [(aB rproduct4.fN.fG),(.os 0 0 rproduct4.fN.fL.length),(aB rproduct4.fD.fG),(.os 1 0 rproduct4.fD.fL.length)]),[(0,aU rproduct4.fN.fL),(1,aU rproduct4.fD.fL)],0,false,none⟩),(21,⟨[],false,(.agg [(aB rquotient2.fN.fG),(.os 0 0 rquotient2.fN.fL.length),(aB rquotient2.fD.fG),(.os 1 0 rquotient2.fD.fL.length)]),[(0,aU rquotient2.fN.fL),(1,aU rquotient2.fD.fL)],0,false,none⟩),(25,⟨[],false,(.agg [(aB rproduct5.fN.fG),(.os 0 0 rproduct5.fN.fL.length),(aB rproduct5.fD.fG),(.os 1 0 rproduct5.fD.fL.length)]),[(0,aU rproduct5.fN.fL),(1,aU rproduct5.fD.fL)],0,false,none⟩),(32,⟨[],false,(.agg [(aB rproduct6.fN.fG),(.os 0 0 rproduct6.fN.fL.length),(aB rproduct6.fD.fG),(.os 1 0 rproduct6.fD.fL.length)]),[(0,aU rproduct6.fN.fL),(1,aU rproduct6.fD.fL)],0,false,none⟩),(33,⟨[],false,(.agg [(aB rquotient3.fN.fG),(.os 0 0 rquotient3.fN.fL.length),(aB rquotient3.fD.fG),(.os 1 0 rquotient3.fD.fL.length)]),[(0,aU rquotient3.fN.fL),(1,aU rquotient3.fD.fL)],0,false,none⟩),(37,⟨[],false,(.agg [(aB rproduct7.fN.fG),(.os 0 0 rproduct7.fN.fL.length),(aB rproduct7.fD.fG),(.os 1 0 rproduct7.fD.fL.length)]),[(0,aU rproduct7.fN.fL),(1,aU rproduct7.fD.fL)],0,false,none⟩),(39,⟨[],false,(.agg [(aB rproduct8.fN.fG),(.os 0 0 rproduct8.fN.fL.length),(aB rproduct8.fD.fG),(.os 1 0 rproduct8.fD.fL.length)]),[(0,aU rproduct8.fN.fL),(1,aU rproduct8.fD.fL)],0,false,none⟩),(40,⟨[],false,(.agg [(aB rquotient4.fN.fG),(.os 0 0 rquotient4.fN.fL.length),(aB rquotient4.fD.fG),(.os 1 0 rquotient4.fD.fL.length)]),[(0,aU rquotient4.fN.fL),(1,aU rquotient4.fD.fL)],0,false,none⟩),(45,⟨[],false,(.agg [(aB rproduct9.fN.fG),(.os 0 0 rproduct9.fN.fL.length),(aB rproduct9.fD.fG),(.os 1 0 rproduct9.fD.fL.length)]),[(0,aU rproduct9.fN.fL),(1,aU rproduct9.fD.fL)],0,false,none⟩),(47,⟨[],false,(.agg [(aB rproduct10.fN.fG),(.os 0 0 rproduct10.fN.fL.length),(aB rproduct10.fD.fG),(.os 1 0 rproduct10.fD.fL.length)]),[(0,aU rproduct10.fN.fL),(1,aU rproduct10.fD.fL)],0,false,none⟩),(48,⟨[],false,(.agg [(aB rquotient5.fN.fG),(.os 0 0 rquotient5.fN.fL.length),(aB rquotient5.fD.fG),(.os 1 0 rquotient5.fD.fL.length)]),[(0,aU rquotient5.fN.fL),(1,aU rquotient5.fD.fL)],0,false,none⟩),(49,⟨[],true,(.agg (TRat.cells rSubRat)),[],0,true,none⟩)] [] (kp [4,5]) (kq [16,672,673,864,865,1056,1057]) 1376 [0 < 1,Sd 47 [(.sl 2 (fun zi=>(fun zi=>([[(aI 1000000000)],[(aI rsumOf.f_mass)]]:List (List AV)).getD zi []) (addz 0 zi)))] [] 0 (.agg [(aB rproduct.fN.fG),(.os 0 0 rproduct.fN.fL.length),(aB rproduct.fD.fG),(.os 1 0 rproduct.fD.fL.length)]) [(0,aU rproduct.fN.fL),(1,aU rproduct.fD.fL)],∀ zi,zi < rproduct.fN.fL.length→AV.flatL ((cU .u16) (rproduct.fN.fL.getD zi 0))=true,∀ zi,zi < rproduct.fD.fL.length→AV.flatL ((cU .u16) (rproduct.fD.fL.getD zi 0))=true,0+2≤2,Sd 47 [(.sl 3 (fun zi=>(fun zi=>([[(aI p.fDsity)],[(aI p.fLn)],[(aI p.fBr)]]:List (List AV)).getD zi []) (addz 0 zi)))] [] 0 (.agg [(aB rproduct2.fN.fG),(.os 0 0 rproduct2.fN.fL.length),(aB rproduct2.fD.fG),(.os 1 0 rproduct2.fD.fL.length)]) [(0,aU rproduct2.fN.fL),(1,aU rproduct2.fD.fL)],∀ zi,zi < rproduct2.fN.fL.length→AV.flatL ((cU .u16) (rproduct2.fN.fL.getD zi 0))=true,∀ zi,zi < rproduct2.fD.fL.length→AV.flatL ((cU .u16) (rproduct2.fD.fL.getD zi 0))=true,0+3≤3,Sd 46 [(.agg [(aB rproduct.fN.fG),(eU rproduct.fN.fL),(aB rproduct.fD.fG),(eU rproduct.fD.fL)]),(.agg [(aB rproduct2.fN.fG),(eU rproduct2.fN.fL),(aB rproduct2.fD.fG),(eU rproduct2.fD.fL)])] [] 0 (.agg [(aB rquotient.fN.fG),(.os 0 0 rquotient.fN.fL.length),(aB rquotient.fD.fG),(.os 1 0 rquotient.fD.fL.length)]) [(0,aU rquotient.fN.fL),(1,aU rquotient.fD.fL)],∀ zi,zi < rquotient.fN.fL.length→AV.flatL ((cU .u16) (rquotient.fN.fL.getD zi 0))=true,∀ zi,zi < rquotient.fD.fL.length→AV.flatL ((cU .u16) (rquotient.fD.fL.getD zi 0))=true,0+rproduct.fN.fL.length≤rproduct.fN.fL.length,0+rproduct.fD.fL.length≤rproduct.fD.fL.length,0+rproduct2.fN.fL.length≤rproduct2.fN.fL.length,0+rproduct2.fD.fL.length≤rproduct2.fD.fL.length,0 < 1,Sd 47 [(.sl 2 (fun zi=>(fun zi=>([[(aI 12000000000)],[(aI rsumOf.f_x)]]:List (List AV)).getD zi []) (addz 0 zi)))] [] 0 (.agg [(aB rproduct3.fN.fG),(.os 0 0 rproduct3.fN.fL.length),(aB rproduct3.fD.fG),(.os 1 0 rproduct3.fD.fL.length)]) [(0,aU rproduct3.fN.fL),(1,aU rproduct3.fD.fL)],∀ zi,zi < rproduct3.fN.fL.length→AV.flatL ((cU .u16) (rproduct3.fN.fL.getD zi 0))=true,∀ zi,zi < rproduct3.fD.fL.length→AV.flatL ((cU .u16) (rproduct3.fD.fL.getD zi 0))=true,0+2≤2,Sd 47 [(.sl 5 (fun zi=>(fun zi=>([[(aI p.fDsity)],[(aI p.fBr)],[(aI p.fLn)],[(aI p.fLn)],[(aI p.fLn)]]:List (List AV)).getD zi []) (addz 0 zi)))] [] 0 (.agg [(aB rproduct4.fN.fG),(.os 0 0 rproduct4.fN.fL.length),(aB rproduct4.fD.fG),(.os 1 0 rproduct4.fD.fL.length)]) [(0,aU rproduct4.fN.fL),(1,aU rproduct4.fD.fL)],∀ zi,zi < rproduct4.fN.fL.length→AV.flatL ((cU .u16) (rproduct4.fN.fL.getD zi 0))=true,∀ zi,zi < rproduct4.fD.fL.length→AV.flatL ((cU .u16) (rproduct4.fD.fL.getD zi 0))=true,0+5≤5,Sd 46 [(.agg [(aB rproduct3.fN.fG),(eU rproduct3.fN.fL),(aB rproduct3.fD.fG),(eU rproduct3.fD.fL)]),(.agg [(aB rproduct4.fN.fG),(eU rproduct4.fN.fL),(aB rproduct4.fD.fG),(eU rproduct4.fD.fL)])] [] 0 (.agg [(aB rquotient2.fN.fG),(.os 0 0 rquotient2.fN.fL.length),(aB rquotient2.fD.fG),(.os 1 0 rquotient2.fD.fL.length)]) [(0,aU rquotient2.fN.fL),(1,aU rquotient2.fD.fL)],∀ zi,zi < rquotient2.fN.fL.length→AV.flatL ((cU .u16) (rquotient2.fN.fL.getD zi 0))=true,∀ zi,zi < rquotient2.fD.fL.length→AV.flatL ((cU .u16) (rquotient2.fD.fL.getD zi 0))=true,0+rproduct3.fN.fL.length≤rproduct3.fN.fL.length,0+rproduct3.fD.fL.length≤rproduct3.fD.fL.length,0+rproduct4.fN.fL.length≤rproduct4.fN.fL.length,0+rproduct4.fD.fL.length≤rproduct4.fD.fL.length,0 < 1,Sd 47 [(.sl 2 (fun zi=>(fun zi=>([[(aI 12000000000)],[(aI rsumOf.f_y)]]:List (List AV)).getD zi []) (addz 0 zi)))] [] 0 (.agg [(aB rproduct5.fN.fG),(.os 0 0 rproduct5.fN.fL.length),(aB rproduct5.fD.fG),(.os 1 0 rproduct5.fD.fL.length)]) [(0,aU rproduct5.fN.fL),(1,aU rproduct5.fD.fL)],∀ zi,zi < rproduct5.fN.fL.length→AV.flatL ((cU .u16) (rproduct5.fN.fL.getD zi 0))=true,∀ zi,zi < rproduct5.fD.fL.length→AV.flatL ((cU .u16) (rproduct5.fD.fL.getD zi 0))=true,0+2≤2,Sd 47 [(.sl 5 (fun zi=>(fun zi=>([[(aI p.fDsity)],[(aI p.fLn)],[(aI p.fBr)],[(aI p.fBr)],[(aI p.fBr)]]:List (List AV)).getD zi []) (addz 0 zi)))] [] 0 (.agg [(aB rproduct6.fN.fG),(.os 0 0 rproduct6.fN.fL.length),(aB rproduct6.fD.fG),(.os 1 0 rproduct6.fD.fL.length)]) [(0,aU rproduct6.fN.fL),(1,aU rproduct6.fD.fL)],∀ zi,zi < rproduct6.fN.fL.length→AV.flatL ((cU .u16) (rproduct6.fN.fL.getD zi 0))=true,∀ zi,zi < rproduct6.fD.fL.length→AV.flatL ((cU .u16) (rproduct6.fD.fL.getD zi 0))=true,0+5≤5,Sd 46 [(.agg [(aB rproduct5.fN.fG),(eU rproduct5.fN.fL),(aB rproduct5.fD.fG),(eU rproduct5.fD.fL)]),(.agg [(aB rproduct6.fN.fG),(eU rproduct6.fN.fL),(aB rproduct6.fD.fG),(eU rproduct6.fD.fL)])] [] 0 (.agg [(aB rquotient3.fN.fG),(.os 0 0 rquotient3.fN.fL.length),(aB rquotient3.fD.fG),(.os 1 0 rquotient3.fD.fL.length)]) [(0,aU rquotient3.fN.fL),(1,aU rquotient3.fD.fL)],∀ zi,zi < rquotient3.fN.fL.length→AV.flatL ((cU .u16) (rquotient3.fN.fL.getD zi 0))=true,∀ zi,zi < rquotient3.fD.fL.length→AV.flatL ((cU .u16) (rquotient3.fD.fL.getD zi 0))=true,0+rproduct5.fN.fL.length≤rproduct5.fN.fL.length,0+rproduct5.fD.fL.length≤rproduct5.fD.fL.length,0+rproduct6.fN.fL.length≤rproduct6.fN.fL.length,0+rproduct6.fD.fL.length≤rproduct6.fD.fL.length,0 < 1,Sd 47 [(.sl 1 (fun zi=>(fun zi=>([[(aI rsumOf.f_arm)]]:List (List AV)).getD zi []) (addz 0 zi)))] [] 0 (.agg [(aB rproduct7.fN.fG),(.os 0 0 rproduct7.fN.fL.length),(aB rproduct7.fD.fG),(.os 1 0 rproduct7.fD.fL.length)]) [(0,aU rproduct7.fN.fL),(1,aU rproduct7.fD.fL)],∀ zi,zi < rproduct7.fN.fL.length→AV.flatL ((cU .u16) (rproduct7.fN.fL.getD zi 0))=true,∀ zi,zi < rproduct7.fD.fL.length→AV.flatL ((cU .u16) (rproduct7.fD.fL.getD zi 0))=true,0+1≤1,Sd 47 [(.sl 1 (fun zi=>(fun zi=>([[(aI 2)]]:List (List AV)).getD zi []) (addz 0 zi)))] [] 0 (.agg [(aB rproduct8.fN.fG),(.os 0 0 rproduct8.fN.fL.length),(aB rproduct8.fD.fG),(.os 1 0 rproduct8.fD.fL.length)]) [(0,aU rproduct8.fN.fL),(1,aU rproduct8.fD.fL)],∀ zi,zi < rproduct8.fN.fL.length→AV.flatL ((cU .u16) (rproduct8.fN.fL.getD zi 0))=true,∀ zi,zi < rproduct8.fD.fL.length→AV.flatL ((cU .u16) (rproduct8.fD.fL.getD zi 0))=true,0+1≤1,Sd 46 [(.agg [(aB rproduct7.fN.fG),(eU rproduct7.fN.fL),(aB rproduct7.fD.fG),(eU rproduct7.fD.fL)]),(.agg [(aB rproduct8.fN.fG),(eU rproduct8.fN.fL),(aB rproduct8.fD.fG),(eU rproduct8.fD.fL)])] [] 0 (.agg [(aB rquotient4.fN.fG),(.os 0 0 rquotient4.fN.fL.length),(aB rquotient4.fD.fG),(.os 1 0 rquotient4.fD.fL.length)]) [(0,aU rquotient4.fN.fL),(1,aU rquotient4.fD.fL)],∀ zi,zi < rquotient4.fN.fL.length→AV.flatL ((cU .u16) (rquotient4.fN.fL.getD zi 0))=true,∀ zi,zi < rquotient4.fD.fL.length→AV.flatL ((cU .u16) (rquotient4.fD.fL.getD zi 0))=true,0+rproduct7.fN.fL.length≤rproduct7.fN.fL.length,0+rproduct7.fD.fL.length≤rproduct7.fD.fL.length,0+rproduct8.fN.fL.length≤rproduct8.fN.fL.length,0+rproduct8.fD.fL.length≤rproduct8.fD.fL.length,0 < 1,Sd 47 [(.sl 2 (fun zi=>(fun zi=>([[(aI rsumOf.f_mass)],[(aI p.fLn)]]:List (List AV)).getD zi []) (addz 0 zi)))] [] 0 (.agg [(aB rproduct9.fN.fG),(.os 0 0 rproduct9.fN.fL.length),(aB rproduct9.fD.fG),(.os 1 0 rproduct9.fD.fL.length)]) [(0,aU rproduct9.fN.fL),(1,aU rproduct9.fD.fL)],∀ zi,zi < rproduct9.fN.fL.length→AV.flatL ((cU .u16) (rproduct9.fN.fL.getD zi 0))=true,∀ zi,zi < rproduct9.fD.fL.length→AV.flatL ((cU .u16) (rproduct9.fD.fL.getD zi 0))=true,0+2≤2,Sd 47 [(.sl 1 (fun zi=>(fun zi=>([[(aI 8)]]:List (List AV)).getD zi []) (addz 0 zi)))] [] 0 (.agg [(aB rproduct10.fN.fG),(.os 0 0 rproduct10.fN.fL.length),(aB rproduct10.fD.fG),(.os 1 0 rproduct10.fD.fL.length)]) [(0,aU rproduct10.fN.fL),(1,aU rproduct10.fD.fL)],∀ zi,zi < rproduct10.fN.fL.length→AV.flatL ((cU .u16) (rproduct10.fN.fL.getD zi 0))=true,∀ zi,zi < rproduct10.fD.fL.length→AV.flatL ((cU .u16) (rproduct10.fD.fL.getD zi 0))=true,0+1≤1,Sd 46 [(.agg [(aB rproduct9.fN.fG),(eU rproduct9.fN.fL),(aB rproduct9.fD.fG),(eU rproduct9.fD.fL)]),(.agg [(aB rproduct10.fN.fG),(eU rproduct10.fN.fL),(aB rproduct10.fD.fG),(eU rproduct10.fD.fL)])] [] 0 (.agg [(aB rquotient5.fN.fG),(.os 0 0 rquotient5.fN.fL.length),(aB rquotient5.fD.fG),(.os 1 0 rquotient5.fD.fL.length)]) [(0,aU rquotient5.fN.fL),(1,aU rquotient5.fD.fL)],∀ zi,zi < rquotient5.fN.fL.length→AV.flatL ((cU .u16) (rquotient5.fN.fL.getD zi 0))=true,∀ zi,zi < rquotient5.fD.fL.length→AV.flatL ((cU .u16) (rquotient5.fD.fL.getD zi 0))=true,0+rproduct9.fN.fL.length≤rproduct9.fN.fL.length,0+rproduct9.fD.fL.length≤rproduct9.fD.fL.length,0+rproduct10.fN.fL.length≤rproduct10.fN.fL.length,0+rproduct10.fD.fL.length≤rproduct10.fD.fL.length,Sd 48 [(.agg [(aB rquotient4.fN.fG),(eU rquotient4.fN.fL),(aB rquotient4.fD.fG),(eU rquotient4.fD.fL)]),(.agg [(aB rquotient5.fN.fG),(eU rquotient5.fN.fL),(aB rquotient5.fD.fG),(eU rquotient5.fD.fL)])] [] 0 (.agg (TRat.cells rSubRat)) [],0+rquotient4.fN.fL.length≤rquotient4.fN.fL.length,0+rquotient4.fD.fL.length≤rquotient4.fD.fL.length,0+rquotient5.fN.fL.length≤rquotient5.fN.fL.length,0+rquotient5.fD.fL.length≤rquotient5.fD.fL.length,0 < 1] ⟨o1,(Sound.conv (g_w_product_ok N ([1000000000,rsumOf.f_mass]:List Int) rproduct hr4) (.cons (Alike.sl rfl (fun zq hzq=>get_chunk cI 0 ([1000000000,rsumOf.f_mass]:List Int) zq hzq)) .nil)),(fun _ _=>rfl),(fun _ _=>rfl),z0,(Sound.conv (g_w_product_ok N ([p.fDsity,p.fLn,p.fBr]:List Int) rproduct2 hr5) (.cons (Alike.sl rfl (fun zq hzq=>get_chunk cI 0 ([p.fDsity,p.fLn,p.fBr]:List Int) zq hzq)) .nil)),(fun _ _=>rfl),(fun _ _=>rfl),z0,(g_w_quotient_ok N (⟨rproduct.fN,rproduct.fD⟩:TRat) (⟨rproduct2.fN,rproduct2.fD⟩:TRat) rquotient hr6),(fun _ _=>rfl),(fun _ _=>rfl),z0,z0,z0,z0,o1,(Sound.conv (g_w_product_ok N ([12000000000,rsumOf.f_x]:List Int) rproduct3 hr7) (.cons (Alike.sl rfl (fun zq hzq=>get_chunk cI 0 ([12000000000,rsumOf.f_x]:List Int) zq hzq)) .nil)),(fun _ _=>rfl),(fun _ _=>rfl),z0,(Sound.conv (g_w_product_ok N ([p.fDsity,p.fBr,p.fLn,p.fLn,p.fLn]:List Int) rproduct4 hr8) (.cons (Alike.sl rfl (fun zq hzq=>get_chunk cI 0 ([p.fDsity,p.fBr,p.fLn,p.fLn,p.fLn]:List Int) zq hzq)) .nil)),(fun _ _=>rfl),(fun _ _=>rfl),z0,(g_w_quotient_ok N (⟨rproduct3.fN,rproduct3.fD⟩:TRat) (⟨rproduct4.fN,rproduct4.fD⟩:TRat) rquotient2 hr9),(fun _ _=>rfl),(fun _ _=>rfl),z0,z0,z0,z0,o1,(Sound.conv (g_w_product_ok N ([12000000000,rsumOf.f_y]:List Int) rproduct5 hr10) (.cons (Alike.sl rfl (fun zq hzq=>get_chunk cI 0 ([12000000000,rsumOf.f_y]:List Int) zq hzq)) .nil)),(fun _ _=>rfl),(fun _ _=>rfl),z0,(Sound.conv (g_w_product_ok N ([p.fDsity,p.fLn,p.fBr,p.fBr,p.fBr]:List Int) rproduct6 hr11) (.cons (Alike.sl rfl (fun zq hzq=>get_chunk cI 0 ([p.fDsity,p.fLn,p.fBr,p.fBr,p.fBr]:List Int) zq hzq)) .nil)),(fun _ _=>rfl),(fun _ _=>rfl),z0,(g_w_quotient_ok N (⟨rproduct5.fN,rproduct5.fD⟩:TRat) (⟨rproduct6.fN,rproduct6.fD⟩:TRat) rquotient3 hr12),(fun _ _=>rfl),(fun _ _=>rfl),z0,z0,z0,z0,o1,(Sound.conv (g_w_product_ok N ([rsumOf.f_arm]:List Int) rproduct7 hr13) (.cons (Alike.sl rfl (fun zq hzq=>get_chunk cI 0 ([rsumOf.f_arm]:List Int) zq hzq)) .nil)),(fun _ _=>rfl),(fun _ _=>rfl),z0,(Sound.conv (g_w_product_ok N ([2]:List Int) rproduct8 hr14) (.cons (Alike.sl rfl (fun zq hzq=>get_chunk cI 0 ([2]:List Int) zq hzq)) .nil)),(fun _ _=>rfl),(fun _ _=>rfl),z0,(g_w_quotient_ok N (⟨rproduct7.fN,rproduct7.fD⟩:TRat) (⟨rproduct8.fN,rproduct8.fD⟩:TRat) rquotient4 hr15),(fun _ _=>rfl),(fun _ _=>rfl),z0,z0,z0,z0,o1,(Sound.conv (g_w_product_ok N ([rsumOf.f_mass,p.fLn]:List Int) rproduct9 hr16) (.cons (Alike.sl rfl (fun zq hzq=>get_chunk cI 0 ([rsumOf.f_mass,p.fLn]:List Int) zq hzq)) .nil)),(fun _ _=>rfl),(fun _ _=>rfl),z0,(Sound.conv (g_w_product_ok N ([8]:List Int) rproduct10 hr17) (.cons (Alike.sl rfl (fun zq hzq=>get_chunk cI 0 ([8]:List Int) zq hzq)) .nil)),(fun _ _=>rfl),(fun _ _=>rfl),z0,(g_w_quotient_ok N (⟨rproduct9.fN,rproduct9.fD⟩:TRat) (⟨rproduct10.fN,rproduct10.fD⟩:TRat) rquotient5 hr18),(fun _ _=>rfl),(fun _ _=>rfl),z0,z0,z0,z0,(g_e_SubRat_ok N (⟨rquotient4.fN,rquotient4.fD⟩:TRat) (⟨rquotient5.fN,rquotient5.fD⟩:TRat) rSubRat hr19),z0,z0,z0,z0,o1,trivial⟩ ?_
   obtain rfl:=Option.some.inj h
   refine sW hE ⟨[(4,(.op 16 0 0)),(5,(aI 0))],[(16,vO 16 [(aB rquotient.fN.fG),(eU rquotient.fN.fL),(aB rquotient.fD.fG),(eU rquotient.fD.fL),(aB rquotient2.fN.fG),(eU rquotient2.fN.fL),(aB rquotient2.fD.fG),(eU rquotient2.fD.fL),(aB rquotient3.fN.fG),(eU rquotient3.fN.fL),(aB rquotient3.fD.fG),(eU rquotient3.fD.fL),(aB rSubRat.fN.fG),(eU rSubRat.fN.fL),(aB rSubRat.fD.fG),(eU rSubRat.fD.fL)])],1376⟩ [672,673,864,865,1056,1057] (kp [4,5]) [(16,.var 16 [.keep,.sl (rquotient.fN.fL.length) (fun zi=>(cU .u16) (rquotient.fN.fL.getD zi 0)),.keep,.sl (rquotient.fD.fL.length) (fun zi=>(cU .u16) (rquotient.fD.fL.getD zi 0)),.keep,.sl (rquotient2.fN.fL.length) (fun zi=>(cU .u16) (rquotient2.fN.fL.getD zi 0)),.keep,.sl (rquotient2.fD.fL.length) (fun zi=>(cU .u16) (rquotient2.fD.fL.getD zi 0)),.keep,.sl (rquotient3.fN.fL.length) (fun zi=>(cU .u16) (rquotient3.fN.fL.getD zi 0)),.keep,.sl (rquotient3.fD.fL.length) (fun zi=>(cU .u16) (rquotient3.fD.fL.getD zi 0)),.keep,.keep,.keep,.keep])] 1376 [rquotient.fN.fL.length=rquotient.fN.fL.length,0+rquotient.fN.fL.length≤rquotient.fN.fL.length,∀ zi,zi < rquotient.fN.fL.length→(fun zi=>(cU .u16) (rquotient.fN.fL.getD zi 0)) zi=(fun zi=>(cU .u16) (rquotient.fN.fL.getD zi 0)) (addz 0 zi),rquotient.fD.fL.length=rquotient.fD.fL.length,0+rquotient.fD.fL.length≤rquotient.fD.fL.length,∀ zi,zi < rquotient.fD.fL.length→(fun zi=>(cU .u16) (rquotient.fD.fL.getD zi 0)) zi=(fun zi=>(cU .u16) (rquotient.fD.fL.getD zi 0)) (addz 0 zi),rquotient2.fN.fL.length=rquotient2.fN.fL.length,0+rquotient2.fN.fL.length≤rquotient2.fN.fL.length,∀ zi,zi < rquotient2.fN.fL.length→(fun zi=>(cU .u16) (rquotient2.fN.fL.getD zi 0)) zi=(fun zi=>(cU .u16) (rquotient2.fN.fL.getD zi 0)) (addz 0 zi),rquotient2.fD.fL.length=rquotient2.fD.fL.length,0+rquotient2.fD.fL.length≤rquotient2.fD.fL.length,∀ zi,zi < rquotient2.fD.fL.length→(fun zi=>(cU .u16) (rquotient2.fD.fL.getD zi 0)) zi=(fun zi=>(cU .u16) (rquotient2.fD.fL.getD zi 0)) (addz 0 zi),rquotient3.fN.fL.length=rquotient3.fN.fL.length,0+rquotient3.fN.fL.length≤rquotient3.fN.fL.length,∀ zi,zi < rquotient3.fN.fL.length→(fun zi=>(cU .u16) (rquotient3.fN.fL.getD zi 0)) zi=(fun zi=>(cU .u16) (rquotient3.fN.fL.getD zi 0)) (addz 0 zi),rquotient3.fD.fL.length=rquotient3.fD.fL.length,0+rquotient3.fD.fL.length≤rquotient3.fD.fL.length,∀ zi,zi < rquotient3.fD.fL.length→(fun zi=>(cU .u16) (rquotient3.fD.fL.getD zi 0)) zi=(fun zi=>(cU .u16) (rquotient3.fD.fL.getD zi 0)) (addz 0 zi)] ⟨rfl,z0,(fun _ _=>rfl),rfl,z0,(fun _ _=>rfl),rfl,z0,(fun _ _=>rfl),rfl,z0,(fun _ _=>rfl),rfl,z0,(fun _ _=>rfl),rfl,z0,(fun _ _=>rfl),trivial⟩ ?_
   exact sT Tryz.f17 [16] [0 < 1] ⟨o1,trivial⟩
noncomputable def C_49 (n:Nat):Code:=cat (bodyOf Tryz.f72) (pth n)
theorem g_b_limbs_L1_ok (N:Nat) (fuel:Nat):∀ (n2:Int) (out:List Int) (r:(List Int)),g_b_limbs_L1 N fuel n2 out=some r→∀ E,EnvOk E 0→Runs Tryz.prog E 72 15 (SPost E [] (eU r)) [.code (C_49 56),.inLoop (C_49 56),.inBlock 0,.code (C_49 15)] ⟨[(0,(a64 n2)),(3,(.os 0 0 out.length))],[(0,aU out)],1⟩:=by
 induction fuel with
 | zero=>intro _ _ r h;rw [g_b_limbs_L1.eq_1] at h;cases h
 | succ fuel ih =>
  intro n2 out r h E hE
  rw [g_b_limbs_L1.eq_2] at h
  refine sA 2 [.code (C_49 224),.code (C_49 225),.code (C_49 113),.inLoop (C_49 56),.inBlock 0,.code (C_49 15)] ?_
  refine sR hE ⟨[(0,(a64 n2)),(3,(.os 0 0 out.length)),(5,(aB (decide (n2 > 0))))],[(0,aU out)],33⟩ (C_49 224) [] [] (kp [0,3,5]) (kq [0]) 33 [] trivial ?_
  refine sC 5 (C_49 450) (C_49 451) (decide (n2 > 0)) (fun hq2=>?_) (fun hq2=>?_)
  ·have h:=condT h hq2
   refine sA 3 [.code (C_49 452),.inBlock 1,.code (C_49 227),.inLoop (C_49 56),.inBlock 0,.code (C_49 15)] ?_
   obtain ⟨c,h⟩:=ifSome h
   refine sR hE ⟨[(0,(a64 n2)),(3,(.os 113 0 ((out ++ ([(IntKind.u16.wrap ((andI .u64 n2 65535)))]:List Int)).length)))],[(113,aU (out ++ ([(IntKind.u16.wrap ((andI .u64 n2 65535)))]:List Int)))],145⟩ (C_49 452) [] [] (kp [0] ++ [(3,.osl ((out ++ ([(IntKind.u16.wrap ((andI .u64 n2 65535)))]:List Int)).length))]) [(113,.arr 113 ((out ++ ([(IntKind.u16.wrap ((andI .u64 n2 65535)))]:List Int)).length) (fun zi=>(cU .u16) ((out ++ ([(IntKind.u16.wrap ((andI .u64 n2 65535)))]:List Int)).getD zi 0)))] 145 [out.length=out.length,(out.length+1) * 2≤140737488355328,0+1≤1,∀ zi,zi < 1→AV.oneL ((fun zi=>([[(a16 (IntKind.u16.wrap ((andI .u64 n2 65535))))]]:List (List AV)).getD zi []) (addz 0 zi))=true,(out.length+1)=(out ++ ([(IntKind.u16.wrap ((andI .u64 n2 65535)))]:List Int)).length,out.length+1=(out ++ ([(IntKind.u16.wrap ((andI .u64 n2 65535)))]:List Int)).length,∀ zi,zi < (out ++ ([(IntKind.u16.wrap ((andI .u64 n2 65535)))]:List Int)).length→(fun zi=>(cU .u16) ((out ++ ([(IntKind.u16.wrap ((andI .u64 n2 65535)))]:List Int)).getD zi 0)) zi=((fun zm=>if zm < out.length then (fun zi=>(cU .u16) (out.getD zi 0)) zm else (fun zi=>([[(a16 (IntKind.u16.wrap ((andI .u64 n2 65535))))]]:List (List AV)).getD zi []) (zm - out.length))) zi] ⟨rfl,c,z0,(oneN rfl),(len_app_raw rfl rfl),(len_app_raw rfl rfl),(get_app_raw (cU .u16) 0 out ([(IntKind.u16.wrap ((andI .u64 n2 65535)))]:List Int) rfl (fun _ _=>rfl) (fun zq hzq=>get_chunk (cU .u16) 0 ([(IntKind.u16.wrap ((andI .u64 n2 65535)))]:List Int) zq hzq)),trivial⟩ ?_
   refine sA 1 [.code (C_49 227),.inLoop (C_49 56),.inBlock 0,.code (C_49 15)] ?_
   refine sR hE ⟨[(0,(a64 (shrI .u64 n2 16))),(3,(.os 113 0 ((out ++ ([(IntKind.u16.wrap ((andI .u64 n2 65535)))]:List Int)).length)))],[(113,aU (out ++ ([(IntKind.u16.wrap ((andI .u64 n2 65535)))]:List Int)))],193⟩ (C_49 227) [] [] (kp [0,3]) (kq [113]) 193 [(0:Int)≤16] ⟨(by decide),trivial⟩ ?_
   refine sA 1 [.code (C_49 56),.inLoop (C_49 56),.inBlock 0,.code (C_49 15)] ?_
   exact sW hE _ [] (kp [0,3]) [(0,.keep 113)] 1 [] trivial (ih (shrI .u64 n2 16) (out ++ ([(IntKind.u16.wrap ((andI .u64 n2 65535)))]:List Int)) _ h E hE)
  ·have h:=condF h hq2
   refine sA 2 [.code (C_49 30),.code (C_49 31)] ?_
   refine sR hE ⟨[(2,(.os 0 0 out.length))],[(0,aU out)],65⟩ (C_49 30) [] [] (kp [2]) (kq [0]) 65 [] trivial ?_
   obtain rfl:=Option.some.inj h
   refine sW hE ⟨[(2,(eU out))],[],65⟩ [0] [(2,.sl (out.length) (fun zi=>(cU .u16) (out.getD zi 0)))] [] 65 [out.length=out.length,0+out.length≤out.length,∀ zi,zi < out.length→(fun zi=>(cU .u16) (out.getD zi 0)) zi=(fun zi=>(cU .u16) (out.getD zi 0)) (addz 0 zi)] ⟨rfl,z0,(fun _ _=>rfl),trivial⟩ ?_
   exact sT Tryz.f72 [] [] trivial
theorem g_b_limbs_ok (N:Nat) (n:Int) (r:(List Int)) (h:g_b_limbs N n=some r):Sd 72 [(a64 n)] [] 0 (eU r) []:=by
 unfold g_b_limbs at h
 refine Sound.of_runs (fu:=Tryz.f72) (c:=C_49 1) (nt:=15) (by kernel_rfl) (by kernel_rfl) (by kernel_rfl) (by kernel_rfl) (fun hm=>rfl) ?_
 intro E hE
 refine sA 1 [.code (C_49 2),.code (C_49 3)] ?_
 refine sR hE ⟨[(0,(a64 n))],[],16⟩ (C_49 2) [] [] (kp [0]) [] 16 [] trivial ?_
 refine sA 1 [.code (C_49 6),.code (C_49 7)] ?_
 refine sR hE ⟨[(0,(a64 n)),(3,.nil)],[],32⟩ (C_49 6) [] [] (kp [0,3]) [] 32 [] trivial ?_
 refine sA 3 [.code (C_49 56),.inLoop (C_49 56),.inBlock 0,.code (C_49 15)] ?_
 exact sW hE _ [] (kp [0] ++ [(3,.nilos 0)]) [(0,.nil 1 (fun zi=>(cU .u16) (([]:List Int).getD zi 0)))] 1 [] trivial (g_b_limbs_L1_ok N N n ([]:List Int) _ h E hE)
noncomputable def C_48 (n:Nat):Code:=cat (bodyOf Tryz.f50) (pth n)
theorem g_b_Z_ok (N:Nat) (n:Int) (r:TInt) (h:g_b_Z N n=some r):Sd 50 [(aI n)] [] 0 (.agg (TInt.cells r)) []:=by
 unfold g_b_Z at h
 refine Sound.of_runs (fu:=Tryz.f50) (c:=C_48 1) (nt:=16) (by kernel_rfl) (by kernel_rfl) (by kernel_rfl) (by kernel_rfl) (fun hm=>rfl) ?_
 intro E hE
 refine sA 1 [.code (C_48 2),.code (C_48 3)] ?_
 refine sR hE ⟨[(0,(aI n)),(2,(.op 0 0 0))],[(0,vO 2 [(aB false),.nil])],16⟩ (C_48 2) [] [] (kp [0,2]) (kq [0]) 16 [] trivial ?_
 refine sA 2 [.code (C_48 12),.code (C_48 13),.code (C_48 7)] ?_
 refine sR hE ⟨[(0,(aI n)),(2,(.op 0 0 0)),(4,(aB (decide (n < 0))))],[(0,vO 2 [(aB false),.nil])],48⟩ (C_48 12) [] [] (kp [0,2,4]) (kq [0]) 48 [] trivial ?_
 refine sC 4 (C_48 26) (C_48 27) (decide (n < 0)) (fun hq2=>?_) (fun hq2=>?_)
 ·have h:=condT h hq2
  refine sA 1 [.code (C_48 52),.code (C_48 53),.code (C_48 7)] ?_
  obtain ⟨rlimbs,hr,h⟩:=bindSome h
  refine sR hE ⟨[(2,(.op 0 0 0))],[(0,vO 2 [(aB true),(eU rlimbs)])],176⟩ (C_48 52) [(5,⟨[],true,(eU rlimbs),[],0,false,none⟩)] [] (kp [2]) (kq [0]) 176 [Sd 72 [(a64 (IntKind.u64.wrap ((IntKind.u64.wrap ((w64 (0 - (w64 (n+1))))))+1)))] [] 0 (eU rlimbs) [],0 < 1] ⟨(g_b_limbs_ok N (IntKind.u64.wrap ((IntKind.u64.wrap ((w64 (0 - (w64 (n+1))))))+1)) rlimbs hr),o1,trivial⟩ ?_
  obtain rfl:=Option.some.inj h
  refine sW hE ⟨[(2,(.op 16 0 0))],[(16,vO 2 [(aB true),(eU rlimbs)])],176⟩ [] (kp [2]) [(16,.keep 0)] 176 [] trivial ?_
  exact sT Tryz.f50 [16] [0 < 1] ⟨o1,trivial⟩
 ·have h:=condF h hq2
  refine sA 2 [.code (C_48 14),.code (C_48 15)] ?_
  obtain ⟨rlimbs2,hr2,h⟩:=bindSome h
  refine sR hE ⟨[(2,(.op 0 0 0))],[(0,vO 2 [(aB false),(eU rlimbs2)])],128⟩ (C_48 14) [(2,⟨[],true,(eU rlimbs2),[],0,false,none⟩)] [] (kp [2]) (kq [0]) 128 [Sd 72 [(a64 (IntKind.u64.wrap (n)))] [] 0 (eU rlimbs2) [],0 < 1] ⟨(g_b_limbs_ok N (IntKind.u64.wrap (n)) rlimbs2 hr2),o1,trivial⟩ ?_
  obtain rfl:=Option.some.inj h
  refine sW hE ⟨[(2,(.op 16 0 0))],[(16,vO 2 [(aB false),(eU rlimbs2)])],128⟩ [] (kp [2]) [(16,.keep 0)] 128 [] trivial ?_
  exact sT Tryz.f50 [16] [0 < 1] ⟨o1,trivial⟩
noncomputable def C_47 (n:Nat):Code:=cat (bodyOf Tryz.f19) (pth n)
theorem g_b_W_ok (N:Nat) (n:Int) (r:TRat) (h:g_b_W N n=some r):Sd 19 [(aI n)] [] 0 (.agg (TRat.cells r)) []:=by
 unfold g_b_W at h
 refine Sound.of_runs (fu:=Tryz.f19) (c:=C_47 1) (nt:=7) (by kernel_rfl) (by kernel_rfl) (by kernel_rfl) (by kernel_rfl) (fun hm=>rfl) ?_
 intro E hE
 refine sA 1 [.code (C_47 2),.code (C_47 3)] ?_
 refine sR hE ⟨[(0,(aI n)),(2,(.op 0 0 0))],[(0,vO 4 [(aB false),.nil,(aB false),.nil])],16⟩ (C_47 2) [] [] (kp [0,2]) (kq [0]) 16 [] trivial ?_
 refine sA 1 [.code (C_47 6),.code (C_47 7)] ?_
 obtain ⟨rZ,hr,h⟩:=bindSome h
 obtain ⟨rZ2,hr2,h⟩:=bindSome h
 refine sR hE ⟨[(2,(.op 0 0 0))],[(0,vO 4 [(aB rZ.fG),(eU rZ.fL),(aB rZ2.fG),(eU rZ2.fL)])],96⟩ (C_47 6) [(1,⟨[],true,(.agg (TInt.cells rZ)),[],0,false,none⟩),(2,⟨[],true,(.agg (TInt.cells rZ2)),[],0,false,none⟩)] [] (kp [2]) (kq [0]) 96 [Sd 50 [(aI n)] [] 0 (.agg (TInt.cells rZ)) [],Sd 50 [(aI 1)] [] 0 (.agg (TInt.cells rZ2)) [],0 < 1] ⟨(g_b_Z_ok N n rZ hr),(g_b_Z_ok N 1 rZ2 hr2),o1,trivial⟩ ?_
 obtain rfl:=Option.some.inj h
 refine sW hE ⟨[(2,(.op 16 0 0))],[(16,vO 4 [(aB rZ.fG),(eU rZ.fL),(aB rZ2.fG),(eU rZ2.fL)])],96⟩ [] (kp [2]) [(16,.keep 0)] 96 [] trivial ?_
 exact sT Tryz.f19 [16] [0 < 1] ⟨o1,trivial⟩
noncomputable def C_51 (n:Nat):Code:=cat (bodyOf Tryz.f49) (pth n)
theorem g_b_SameInt_L1_ok (N:Nat) (a:TInt) (b:TInt) (fuel:Nat):∀ (i:Int) (r:Bool),g_b_SameInt_L1 N a b fuel i=some r→∀ E,EnvOk E 0→Runs Tryz.prog E 49 38 (SPost E [] (aB r)) [.code (C_51 116),.inLoop (C_51 116),.inBlock 0,.code (C_51 15)] ⟨[(2,(.op 0 0 0)),(3,(.op 1 0 0)),(5,(aI i))],[(0,vO 2 (TInt.cells a)),(1,vO 2 (TInt.cells b))],2⟩:=by
 induction fuel with
 | zero=>intro _ r h;rw [g_b_SameInt_L1.eq_1] at h;cases h
 | succ fuel ih =>
  intro i r h E hE
  rw [g_b_SameInt_L1.eq_2] at h
  refine sA 2 [.code (C_51 464),.code (C_51 465),.code (C_51 233),.inLoop (C_51 116),.inBlock 0,.code (C_51 15)] ?_
  refine sR hE ⟨[(2,(.op 0 0 0)),(3,(.op 1 0 0)),(5,(aI i)),(24,(aB (decide (i < ((a.fL.length:Nat):Int)))))],[(0,vO 2 (TInt.cells a)),(1,vO 2 (TInt.cells b))],82⟩ (C_51 464) [] [] (kp [2,3,5,24]) (kq [0,1]) 82 [0 < 1] ⟨o1,trivial⟩ ?_
  refine sC 24 (C_51 930) (C_51 931) (decide (i < ((a.fL.length:Nat):Int))) (fun hq3=>?_) (fun hq3=>?_)
  ·have h:=condT h hq3
   refine sA 4 [.code (C_51 1864),.code (C_51 1865),.inBlock 1,.code (C_51 467),.inLoop (C_51 116),.inBlock 0,.code (C_51 15)] ?_
   obtain ⟨c,h⟩:=ifSome h
   obtain ⟨c2,h⟩:=ifSome h
   refine sR hE ⟨[(2,(.op 0 0 0)),(3,(.op 1 0 0)),(5,(aI i)),(37,(aB ((a.fL.getD ((i).toNat) 0) != (b.fL.getD ((i).toNat) 0))))],[(0,vO 2 (TInt.cells a)),(1,vO 2 (TInt.cells b))],258⟩ (C_51 1864) [] [] (kp [2,3,5,37]) (kq [0,1]) 258 [0 < 1,0≤i∧i < ((a.fL.length:Nat):Int),0 < 1,0≤i∧i < ((b.fL.length:Nat):Int)] ⟨o1,c,o1,c2,trivial⟩ ?_
   refine sC 37 (C_51 3730) (C_51 3731) ((a.fL.getD ((i).toNat) 0) != (b.fL.getD ((i).toNat) 0)) (fun hq4=>?_) (fun hq4=>?_)
   ·have h:=condT h hq4
    refine sA 1 [.code (C_51 7460),.code (C_51 7461),.inBlock 1,.code (C_51 467),.inLoop (C_51 116),.inBlock 0,.code (C_51 15)] ?_
    refine sR hE ⟨[(4,(aB false))],[],274⟩ (C_51 7460) [] [] (kp [4]) [] 274 [] trivial ?_
    obtain rfl:=Option.some.inj h
    refine sW hE ⟨[(4,(aB false))],[],274⟩ [] (kp [4]) [] 274 [] trivial ?_
    exact sT Tryz.f49 [] [] trivial
   ·have h:=condF h hq4
    refine sA 2 [.code (C_51 467),.inLoop (C_51 116),.inBlock 0,.code (C_51 15)] ?_
    refine sR hE ⟨[(2,(.op 0 0 0)),(3,(.op 1 0 0)),(5,(aI (w64 (i+1))))],[(0,vO 2 (TInt.cells a)),(1,vO 2 (TInt.cells b))],306⟩ (C_51 467) [] [] (kp [2,3,5]) (kq [0,1]) 306 [] trivial ?_
    refine sA 1 [.code (C_51 116),.inLoop (C_51 116),.inBlock 0,.code (C_51 15)] ?_
    exact sW hE _ [] (kp [2,3,5]) (kq [0,1]) 2 [] trivial (ih (w64 (i+1)) _ h E hE)
  ·have h:=condF h hq3
   refine sA 2 [.code (C_51 30),.code (C_51 31)] ?_
   refine sR hE ⟨[(4,(aB true))],[],98⟩ (C_51 30) [] [] (kp [4]) [] 98 [] trivial ?_
   obtain rfl:=Option.some.inj h
   refine sW hE ⟨[(4,(aB true))],[],98⟩ [] (kp [4]) [] 98 [] trivial ?_
   exact sT Tryz.f49 [] [] trivial
theorem g_b_SameInt_ok (N:Nat) (a:TInt) (b:TInt) (r:Bool) (h:g_b_SameInt N a b=some r):Sd 49 [(.agg (TInt.cells a)),(.agg (TInt.cells b))] [] 0 (aB r) []:=by
 unfold g_b_SameInt at h
 refine Sound.of_runs (fu:=Tryz.f49) (c:=C_51 1) (nt:=38) (by kernel_rfl) (by kernel_rfl) (by kernel_rfl) (by kernel_rfl) (fun hm=>rfl) ?_
 intro E hE
 refine sA 1 [.code (C_51 2),.code (C_51 3)] ?_
 refine sR hE ⟨[(2,(.op 0 0 0)),(3,(.op 16 0 0))],[(0,vO 2 (TInt.cells a)),(16,vO 2 (TInt.cells b))],48⟩ (C_51 2) [] [] (kp [2,3]) (kq [0,16]) 48 [] trivial ?_
 refine sA 2 [.code (C_51 12),.code (C_51 13),.code (C_51 7)] ?_
 refine sR hE ⟨[(2,(.op 0 0 0)),(3,(.op 16 0 0)),(19,(aB (cond (!(a.fG == b.fG)) true (((a.fL.length:Nat):Int) != ((b.fL.length:Nat):Int)))))],[(0,vO 2 (TInt.cells a)),(16,vO 2 (TInt.cells b))],272⟩ (C_51 12) [] [] (kp [2,3,19]) (kq [0,16]) 272 [0 < 1,0 < 1,(!(!(a.fG == b.fG)))=true→AllP [(!(!(a.fG == b.fG)))=true,0 < 1],(!(!(a.fG == b.fG)))=true→AllP [(!(!(a.fG == b.fG)))=true],(!(!(a.fG == b.fG)))=true→AllP [(!(!(a.fG == b.fG)))=true,0 < 1],(!(!(a.fG == b.fG)))=true→AllP [(!(!(a.fG == b.fG)))=true],(!(!(a.fG == b.fG)))=true→AllP [(!(!(a.fG == b.fG)))=true,(!(!(a.fG == b.fG)))=true],(!(!(a.fG == b.fG)))=true→AllP [(!(!(a.fG == b.fG)))=true]] ⟨o1,o1,(fun hg=>⟨hg,o1,trivial⟩),(fun hg=>⟨hg,trivial⟩),(fun hg=>⟨hg,o1,trivial⟩),(fun hg=>⟨hg,trivial⟩),(fun hg=>⟨hg,hg,trivial⟩),(fun hq=>⟨hq,trivial⟩),trivial⟩ ?_
 refine sC 19 (C_51 26) (C_51 27) (cond (!(a.fG == b.fG)) true (((a.fL.length:Nat):Int) != ((b.fL.length:Nat):Int))) (fun hq2=>?_) (fun hq2=>?_)
 ·have h:=condT h hq2
  refine sA 1 [.code (C_51 52),.code (C_51 53),.code (C_51 7)] ?_
  refine sR hE ⟨[(4,(aB false))],[],288⟩ (C_51 52) [] [] (kp [4]) [] 288 [] trivial ?_
  obtain rfl:=Option.some.inj h
  refine sW hE ⟨[(4,(aB false))],[],288⟩ [] (kp [4]) [] 288 [] trivial ?_
  exact sT Tryz.f49 [] [] trivial
 ·have h:=condF h hq2
  refine sA 3 [.code (C_51 28),.code (C_51 29),.code (C_51 15)] ?_
  refine sR hE ⟨[(2,(.op 0 0 0)),(3,(.op 16 0 0)),(5,(aI 0))],[(0,vO 2 (TInt.cells a)),(16,vO 2 (TInt.cells b))],288⟩ (C_51 28) [] [] (kp [2,3,5]) (kq [0,16]) 288 [] trivial ?_
  refine sA 2 [.code (C_51 116),.inLoop (C_51 116),.inBlock 0,.code (C_51 15)] ?_
  exact sW hE _ [] (kp [2,3,5]) (kq [0] ++ [(1,.keep 16)]) 2 [] trivial (g_b_SameInt_L1_ok N a b N 0 _ h E hE)
noncomputable def C_50 (n:Nat):Code:=cat (bodyOf Tryz.f18) (pth n)
theorem g_b_SameRat_ok (N:Nat) (a:TRat) (b:TRat) (r:Bool) (h:g_b_SameRat N a b=some r):Sd 18 [(.agg (TRat.cells a)),(.agg (TRat.cells b))] [] 0 (aB r) []:=by
 unfold g_b_SameRat at h
 refine Sound.of_runs (fu:=Tryz.f18) (c:=C_50 1) (nt:=17) (by kernel_rfl) (by kernel_rfl) (by kernel_rfl) (by kernel_rfl) (fun hm=>rfl) ?_
 intro E hE
 refine sA 1 [.code (C_50 2),.code (C_50 3)] ?_
 refine sR hE ⟨[(2,(.op 0 0 0)),(3,(.op 16 0 0))],[(0,vO 4 (TRat.cells a)),(16,vO 4 (TRat.cells b))],48⟩ (C_50 2) [] [] (kp [2,3]) (kq [0,16]) 48 [] trivial ?_
 refine sA 1 [.code (C_50 6),.code (C_50 7)] ?_
 obtain ⟨rSameInt,hr,h⟩:=bindSome h
 obtain ⟨rSameInt2,hr2,h⟩:=bindSome h
 refine sR hE ⟨[(4,(aB (cond rSameInt rSameInt2 false)))],[],256⟩ (C_50 6) [(4,⟨[],true,(aB rSameInt),[],0,false,none⟩),(10,⟨[],true,(aB rSameInt2),[],0,false,none⟩)] [] (kp [4]) [] 256 [0 < 1,0 < 1,Sd 49 [(.agg (TInt.cells a.fN)),(.agg (TInt.cells b.fN))] [] 0 (aB rSameInt) [],rSameInt=true→AllP [rSameInt=true,0 < 1],rSameInt=true→AllP [rSameInt=true,0 < 1],rSameInt=true→AllP [Sd 49 [(.agg (TInt.cells a.fD)),(.agg (TInt.cells b.fD))] [] 0 (aB rSameInt2) [],rSameInt=true,rSameInt=true],rSameInt=true→AllP [rSameInt=true]] ⟨o1,o1,(g_b_SameInt_ok N a.fN b.fN rSameInt hr),(fun hg=>⟨hg,o1,trivial⟩),(fun hg=>⟨hg,o1,trivial⟩),(fun hg=>⟨(g_b_SameInt_ok N a.fD b.fD rSameInt2 (condT hr2 hg)),hg,hg,trivial⟩),(fun hq=>⟨hq,trivial⟩),trivial⟩ ?_
 obtain rfl:=Option.some.inj h
 refine sW hE ⟨[(4,(aB (cond rSameInt rSameInt2 false)))],[],256⟩ [] (kp [4]) [] 256 [] trivial ?_
 exact sT Tryz.f18 [] [] trivial
noncomputable def C_1 (n:Nat):Code:=cat (bodyOf Tryz.f5) (pth n)
theorem g_w05_afloat_ok (N:Nat) (r:Bool) (h:g_w05_afloat N=some r):Sd 5 [] [] 0 (aB r) []:=by
 unfold g_w05_afloat at h
 refine Sound.of_runs (fu:=Tryz.f5) (c:=C_1 1) (nt:=26) (by kernel_rfl) (by kernel_rfl) (by kernel_rfl) (by kernel_rfl) (fun hm=>rfl) ?_
 intro E hE
 refine sA 1 [.code (C_1 2),.code (C_1 3)] ?_
 refine sR hE ⟨[],[],16⟩ (C_1 2) [] [] [] [] 16 [] trivial ?_
 refine sA 1 [.code (C_1 6),.code (C_1 7)] ?_
 refine sR hE ⟨[(1,(.op 64 0 0))],[(32,aO 3 TPm.cells TPm.d ([(⟨0,0,2000000⟩:TPm)]:List TPm)),(64,vN 5 [(aI 100000),(aI 20000),(aI 1000),(.os 32 0 (([(⟨0,0,2000000⟩:TPm)]:List TPm).length)),.nil])],96⟩ (C_1 6) [] [] (kp [1]) [(32,.arr 32 (([(⟨0,0,2000000⟩:TPm)]:List TPm).length) (fun zi=>TPm.cells (([(⟨0,0,2000000⟩:TPm)]:List TPm).getD zi TPm.d))),(64,.var 64 [.keep,.keep,.keep,.osl (([(⟨0,0,2000000⟩:TPm)]:List TPm).length),.keep])] 96 [0 < 1,1=([(⟨0,0,2000000⟩:TPm)]:List TPm).length,∀ zi,zi < ([(⟨0,0,2000000⟩:TPm)]:List TPm).length→(fun zi=>TPm.cells (([(⟨0,0,2000000⟩:TPm)]:List TPm).getD zi TPm.d)) zi=(fun zi=>([[(aI 0),(aI 0),(aI 2000000)]]:List (List AV)).getD zi []) zi,1=([(⟨0,0,2000000⟩:TPm)]:List TPm).length] ⟨o1,rfl,(fun zq hzq=>get_chunk TPm.cells TPm.d ([(⟨0,0,2000000⟩:TPm)]:List TPm) zq hzq),rfl,trivial⟩ ?_
 refine sA 1 [.code (C_1 14),.code (C_1 15)] ?_
 obtain ⟨rFloat,hr,h⟩:=bindSome h
 refine sR hE ⟨[(2,(.op 176 0 0)),(3,(aI rFloat.2))],[(176,vO 16 (TPose.cells rFloat.1))],224⟩ (C_1 14) [(1,⟨[],true,(.tup [(.agg (TPose.cells rFloat.1)),(aI rFloat.2)]),[],0,true,none⟩)] [] (kp [2,3]) (kq [176]) 224 [0 < 1,Sd 17 [(.agg [(aI 100000),(aI 20000),(aI 1000),(encL TPm.cells TPm.d ([(⟨0,0,2000000⟩:TPm)]:List TPm)),.nil]),.nil] [] 0 (.tup [(.agg (TPose.cells rFloat.1)),(aI rFloat.2)]) [],0+([(⟨0,0,2000000⟩:TPm)]:List TPm).length≤([(⟨0,0,2000000⟩:TPm)]:List TPm).length,0 < 1] ⟨o1,(Sound.conv (g_w_Float_ok N (⟨100000,20000,1000,([(⟨0,0,2000000⟩:TPm)]:List TPm),([]:List TTank)⟩:TPn) ([]:List Int) rFloat hr) (.cons (Alike.agg (.cons (Alike.refl _) (.cons (Alike.refl _) (.cons (Alike.refl _) (.cons (Alike.refl _) (.cons Alike.nil .nil)))))) (.cons Alike.nil .nil))),z0,o1,trivial⟩ ?_
 refine sA 1 [.code (C_1 30),.code (C_1 31)] ?_
 obtain ⟨rW,hr2,h⟩:=bindSome h
 obtain ⟨rSameRat,hr3,h⟩:=bindSome h
 obtain ⟨rW2,hr4,h⟩:=bindSome h
 obtain ⟨rSameRat2,hr5,h⟩:=bindSome h
 refine sR hE ⟨[(0,(aB (cond (cond (rFloat.2 == 0) rSameRat false) rSameRat2 false)))],[],464⟩ (C_1 30) [(5,⟨[],true,(.agg (TRat.cells rW)),[],0,false,none⟩),(6,⟨[],true,(aB rSameRat),[],0,false,none⟩),(11,⟨[],true,(.agg (TRat.cells rW2)),[],0,false,none⟩),(12,⟨[],true,(aB rSameRat2),[],0,false,none⟩)] [] (kp [0]) [] 464 [(rFloat.2 == 0)=true→AllP [(rFloat.2 == 0)=true,0 < 1],(rFloat.2 == 0)=true→AllP [Sd 19 [(aI 1000)] [] 0 (.agg (TRat.cells rW)) []],(rFloat.2 == 0)=true→AllP [Sd 18 [(.agg (TRat.cells rFloat.1.f_Draught)),(.agg (TRat.cells rW))] [] 0 (aB rSameRat) [],(rFloat.2 == 0)=true,(rFloat.2 == 0)=true],(rFloat.2 == 0)=true→AllP [(rFloat.2 == 0)=true],(cond (rFloat.2 == 0) rSameRat false)=true→AllP [(cond (rFloat.2 == 0) rSameRat false)=true,0 < 1],(cond (rFloat.2 == 0) rSameRat false)=true→AllP [Sd 19 [(aI (-25000000000))] [] 0 (.agg (TRat.cells rW2)) []],(cond (rFloat.2 == 0) rSameRat false)=true→AllP [Sd 18 [(.agg (TRat.cells rFloat.1.f_Hog)),(.agg (TRat.cells rW2))] [] 0 (aB rSameRat2) [],(cond (rFloat.2 == 0) rSameRat false)=true,(cond (rFloat.2 == 0) rSameRat false)=true],(cond (rFloat.2 == 0) rSameRat false)=true→AllP [(cond (rFloat.2 == 0) rSameRat false)=true]] ⟨(fun hg=>⟨hg,o1,trivial⟩),(fun hg=>⟨(g_b_W_ok N 1000 rW (condT hr2 hg)),trivial⟩),(fun hg=>⟨(g_b_SameRat_ok N rFloat.1.f_Draught rW rSameRat (condT hr3 hg)),hg,hg,trivial⟩),(fun hq=>⟨hq,trivial⟩),(fun hg=>⟨hg,o1,trivial⟩),(fun hg=>⟨(g_b_W_ok N (-25000000000) rW2 (condT hr4 hg)),trivial⟩),(fun hg=>⟨(g_b_SameRat_ok N rFloat.1.f_Hog rW2 rSameRat2 (condT hr5 hg)),hg,hg,trivial⟩),(fun hq=>⟨hq,trivial⟩),trivial⟩ ?_
 obtain rfl:=Option.some.inj h
 refine sW hE ⟨[(0,(aB (cond (cond (rFloat.2 == 0) rSameRat false) rSameRat2 false)))],[],464⟩ [] (kp [0]) [] 464 [] trivial ?_
 exact sT Tryz.f5 [] [] trivial
noncomputable def C_53 (n:Nat):Code:=cat (bodyOf Tryz.f20) (pth n)
theorem g_w05_fewMasses_L1_ok (N:Nat) (p:TPn) (fuel:Nat):∀ (i:Int) (r:Bool),g_w05_fewMasses_L1 N p fuel i=some r→∀ E,EnvOk E 0→Runs Tryz.prog E 20 29 (SPost E [] (aB r)) [.code (C_53 116),.inLoop (C_53 116),.inBlock 0,.code (C_53 15)] ⟨[(1,(.op 0 0 0)),(3,(aI i))],[(0,vO 5 (TPn.cells p))],1⟩:=by
 induction fuel with
 | zero=>intro _ r h;rw [g_w05_fewMasses_L1.eq_1] at h;cases h
 | succ fuel ih =>
  intro i r h E hE
  rw [g_w05_fewMasses_L1.eq_2] at h
  refine sA 2 [.code (C_53 464),.code (C_53 465),.code (C_53 233),.inLoop (C_53 116),.inBlock 0,.code (C_53 15)] ?_
  refine sR hE ⟨[(1,(.op 0 0 0)),(3,(aI i)),(18,(aB (decide (i < ((p.fTk.length:Nat):Int)))))],[(0,vO 5 (TPn.cells p))],81⟩ (C_53 464) [] [] (kp [1,3,18]) (kq [0]) 81 [0 < 1] ⟨o1,trivial⟩ ?_
  refine sC 18 (C_53 930) (C_53 931) (decide (i < ((p.fTk.length:Nat):Int))) (fun hq3=>?_) (fun hq3=>?_)
  ·have h:=condT h hq3
   refine sA 4 [.code (C_53 1864),.code (C_53 1865),.inBlock 1,.code (C_53 467),.inLoop (C_53 116),.inBlock 0,.code (C_53 15)] ?_
   obtain ⟨c,h⟩:=ifSome h
   refine sR hE ⟨[(1,(.op 0 0 0)),(3,(aI i)),(28,(aB (decide (((((p.fTk.getD ((i).toNat) TTank.d).f_Name).size:Nat):Int) > 40))))],[(0,vO 5 (TPn.cells p))],209⟩ (C_53 1864) [] [] (kp [1,3,28]) (kq [0]) 209 [0 < 1,0≤i∧i < ((p.fTk.length:Nat):Int)] ⟨o1,c,trivial⟩ ?_
   refine sC 28 (C_53 3730) (C_53 3731) (decide (((((p.fTk.getD ((i).toNat) TTank.d).f_Name).size:Nat):Int) > 40)) (fun hq4=>?_) (fun hq4=>?_)
   ·have h:=condT h hq4
    refine sA 1 [.code (C_53 7460),.code (C_53 7461),.inBlock 1,.code (C_53 467),.inLoop (C_53 116),.inBlock 0,.code (C_53 15)] ?_
    refine sR hE ⟨[(2,(aB false))],[],225⟩ (C_53 7460) [] [] (kp [2]) [] 225 [] trivial ?_
    obtain rfl:=Option.some.inj h
    refine sW hE ⟨[(2,(aB false))],[],225⟩ [] (kp [2]) [] 225 [] trivial ?_
    exact sT Tryz.f20 [] [] trivial
   ·have h:=condF h hq4
    refine sA 2 [.code (C_53 467),.inLoop (C_53 116),.inBlock 0,.code (C_53 15)] ?_
    refine sR hE ⟨[(1,(.op 0 0 0)),(3,(aI (w64 (i+1))))],[(0,vO 5 (TPn.cells p))],257⟩ (C_53 467) [] [] (kp [1,3]) (kq [0]) 257 [] trivial ?_
    refine sA 1 [.code (C_53 116),.inLoop (C_53 116),.inBlock 0,.code (C_53 15)] ?_
    exact sW hE _ [] (kp [1,3]) (kq [0]) 1 [] trivial (ih (w64 (i+1)) _ h E hE)
  ·have h:=condF h hq3
   refine sA 2 [.code (C_53 30),.code (C_53 31)] ?_
   refine sR hE ⟨[(2,(aB true))],[],97⟩ (C_53 30) [] [] (kp [2]) [] 97 [] trivial ?_
   obtain rfl:=Option.some.inj h
   refine sW hE ⟨[(2,(aB true))],[],97⟩ [] (kp [2]) [] 97 [] trivial ?_
   exact sT Tryz.f20 [] [] trivial
theorem g_w05_fewMasses_ok (N:Nat) (p:TPn) (r:Bool) (h:g_w05_fewMasses N p=some r):Sd 20 [(.agg (TPn.cells p))] [] 0 (aB r) []:=by
 unfold g_w05_fewMasses at h
 refine Sound.of_runs (fu:=Tryz.f20) (c:=C_53 1) (nt:=29) (by kernel_rfl) (by kernel_rfl) (by kernel_rfl) (by kernel_rfl) (fun hm=>rfl) ?_
 intro E hE
 refine sA 1 [.code (C_53 2),.code (C_53 3)] ?_
 refine sR hE ⟨[(1,(.op 0 0 0))],[(0,vO 5 (TPn.cells p))],32⟩ (C_53 2) [] [] (kp [1]) (kq [0]) 32 [] trivial ?_
 refine sA 2 [.code (C_53 12),.code (C_53 13),.code (C_53 7)] ?_
 refine sR hE ⟨[(1,(.op 0 0 0)),(13,(aB (cond (decide (((p.fMs.length:Nat):Int) > 25)) true (decide (((p.fTk.length:Nat):Int) > 10)))))],[(0,vO 5 (TPn.cells p))],192⟩ (C_53 12) [] [] (kp [1,13]) (kq [0]) 192 [0 < 1,(!(decide (((p.fMs.length:Nat):Int) > 25)))=true→AllP [(!(decide (((p.fMs.length:Nat):Int) > 25)))=true,0 < 1],(!(decide (((p.fMs.length:Nat):Int) > 25)))=true→AllP [(!(decide (((p.fMs.length:Nat):Int) > 25)))=true],(!(decide (((p.fMs.length:Nat):Int) > 25)))=true→AllP [(!(decide (((p.fMs.length:Nat):Int) > 25)))=true],(!(decide (((p.fMs.length:Nat):Int) > 25)))=true→AllP [(!(decide (((p.fMs.length:Nat):Int) > 25)))=true]] ⟨o1,(fun hg=>⟨hg,o1,trivial⟩),(fun hg=>⟨hg,trivial⟩),(fun hg=>⟨hg,trivial⟩),(fun hq=>⟨hq,trivial⟩),trivial⟩ ?_
 refine sC 13 (C_53 26) (C_53 27) (cond (decide (((p.fMs.length:Nat):Int) > 25)) true (decide (((p.fTk.length:Nat):Int) > 10))) (fun hq2=>?_) (fun hq2=>?_)
 ·have h:=condT h hq2
  refine sA 1 [.code (C_53 52),.code (C_53 53),.code (C_53 7)] ?_
  refine sR hE ⟨[(2,(aB false))],[],208⟩ (C_53 52) [] [] (kp [2]) [] 208 [] trivial ?_
  obtain rfl:=Option.some.inj h
  refine sW hE ⟨[(2,(aB false))],[],208⟩ [] (kp [2]) [] 208 [] trivial ?_
  exact sT Tryz.f20 [] [] trivial
 ·have h:=condF h hq2
  refine sA 3 [.code (C_53 28),.code (C_53 29),.code (C_53 15)] ?_
  refine sR hE ⟨[(1,(.op 0 0 0)),(3,(aI 0))],[(0,vO 5 (TPn.cells p))],208⟩ (C_53 28) [] [] (kp [1,3]) (kq [0]) 208 [] trivial ?_
  refine sA 2 [.code (C_53 116),.inLoop (C_53 116),.inBlock 0,.code (C_53 15)] ?_
  exact sW hE _ [] (kp [1,3]) (kq [0]) 1 [] trivial (g_w05_fewMasses_L1_ok N p N 0 _ h E hE)
noncomputable def C_55 (n:Nat):Code:=cat (bodyOf Tryz.f29) (pth n)
theorem g_r05_inside_ok (N:Nat) (n:Int) (low:Int) (high:Int) (r:Bool) (h:g_r05_inside N n low high=some r):Sd 29 [(aI n),(aI low),(aI high)] [] 0 (aB r) []:=by
 unfold g_r05_inside at h
 refine Sound.of_runs (fu:=Tryz.f29) (c:=C_55 1) (nt:=15) (by kernel_rfl) (by kernel_rfl) (by kernel_rfl) (by kernel_rfl) (fun hm=>rfl) ?_
 intro E hE
 refine sA 1 [.code (C_55 2),.code (C_55 3)] ?_
 refine sR hE ⟨[(0,(aI n)),(1,(aI low)),(2,(aI high))],[],16⟩ (C_55 2) [] [] (kp [0,1,2]) [] 16 [] trivial ?_
 refine sA 1 [.code (C_55 6),.code (C_55 7)] ?_
 refine sR hE ⟨[(6,(aB (cond (decide (n≥low)) (decide (n≤high)) false)))],[],160⟩ (C_55 6) [] [] (kp [6]) [] 160 [(decide (n≥low))=true→AllP [(decide (n≥low))=true,(decide (n≥low))=true],(decide (n≥low))=true→AllP [(decide (n≥low))=true]] ⟨(fun hg=>⟨hg,hg,trivial⟩),(fun hq=>⟨hq,trivial⟩),trivial⟩ ?_
 obtain rfl:=Option.some.inj h
 refine sW hE ⟨[(6,(aB (cond (decide (n≥low)) (decide (n≤high)) false)))],[],160⟩ [] (kp [6]) [] 160 [] trivial ?_
 exact sT Tryz.f29 [] [] trivial
noncomputable def C_56 (n:Nat):Code:=cat (bodyOf Tryz.f30) (pth n)
theorem g_b_IsName_L1_ok (N:Nat) (s:ByteArray) (fuel:Nat):∀ (i:Int) (r:Bool),g_b_IsName_L1 N s fuel i=some r→∀ E,EnvOk E 0→Runs Tryz.prog E 30 55 (SPost E [] (aB r)) [.code (C_56 116),.inLoop (C_56 116),.inBlock 0,.code (C_56 15)] ⟨[(0,(aS s)),(3,(aI i))],[],0⟩:=by
 induction fuel with
 | zero=>intro _ r h;rw [g_b_IsName_L1.eq_1] at h;cases h
 | succ fuel ih =>
  intro i r h E hE
  rw [g_b_IsName_L1.eq_2] at h
  refine sA 2 [.code (C_56 464),.code (C_56 465),.code (C_56 233),.inLoop (C_56 116),.inBlock 0,.code (C_56 15)] ?_
  refine sR hE ⟨[(0,(aS s)),(3,(aI i)),(17,(aB (decide (i < ((s.size:Nat):Int)))))],[],64⟩ (C_56 464) [] [] (kp [0,3,17]) [] 64 [] trivial ?_
  refine sC 17 (C_56 930) (C_56 931) (decide (i < ((s.size:Nat):Int))) (fun hq3=>?_) (fun hq3=>?_)
  ·have h:=condT h hq3
   refine sA 4 [.code (C_56 1864),.code (C_56 1865),.inBlock 1,.code (C_56 467),.inLoop (C_56 116),.inBlock 0,.code (C_56 15)] ?_
   obtain ⟨c,h⟩:=ifSome h
   refine sR hE ⟨[(0,(aS s)),(3,(aI i)),(4,(.atom (.int .u8 (zA s i))))],[],128⟩ (C_56 1864) [] [] (kp [0,3,4]) [] 128 [0≤i∧i < ((s.size:Nat):Int)] ⟨c,trivial⟩ ?_
   refine sA 1 [.code (C_56 3730),.code (C_56 3731),.inBlock 1,.code (C_56 467),.inLoop (C_56 116),.inBlock 0,.code (C_56 15)] ?_
   refine sR hE ⟨[(0,(aS s)),(3,(aI i)),(4,(.atom (.int .u8 (zA s i)))),(5,(aB (cond (cond (decide ((zA s i)≥97)) (decide ((zA s i)≤122)) false) true (cond (decide ((zA s i)≥65)) (decide ((zA s i)≤90)) false))))],[],368⟩ (C_56 3730) [] [] (kp [0,3,4,5]) [] 368 [(decide ((zA s i)≥97))=true→AllP [(decide ((zA s i)≥97))=true],(decide ((zA s i)≥97))=true→AllP [(decide ((zA s i)≥97))=true],(!(cond (decide ((zA s i)≥97)) (decide ((zA s i)≤122)) false))=true→AllP [(!(cond (decide ((zA s i)≥97)) (decide ((zA s i)≤122)) false))=true],((!(cond (decide ((zA s i)≥97)) (decide ((zA s i)≤122)) false)) && ((!(cond (decide ((zA s i)≥97)) (decide ((zA s i)≤122)) false)) && (decide ((zA s i)≥65))))=true→AllP [((!(cond (decide ((zA s i)≥97)) (decide ((zA s i)≤122)) false)) && ((!(cond (decide ((zA s i)≥97)) (decide ((zA s i)≤122)) false)) && (decide ((zA s i)≥65))))=true],(!(cond (decide ((zA s i)≥97)) (decide ((zA s i)≤122)) false))=true→AllP [(!(cond (decide ((zA s i)≥97)) (decide ((zA s i)≤122)) false))=true,(!(cond (decide ((zA s i)≥97)) (decide ((zA s i)≤122)) false))=true,(decide ((zA s i)≥65))=true→AllP [((!(cond (decide ((zA s i)≥97)) (decide ((zA s i)≤122)) false)) && ((!(cond (decide ((zA s i)≥97)) (decide ((zA s i)≤122)) false)) && (decide ((zA s i)≥65))))=true]],(!(cond (decide ((zA s i)≥97)) (decide ((zA s i)≤122)) false))=true→AllP [(!(cond (decide ((zA s i)≥97)) (decide ((zA s i)≤122)) false))=true]] ⟨(fun hg=>⟨hg,trivial⟩),(fun hq=>⟨hq,trivial⟩),(fun hg=>⟨hg,trivial⟩),(fun hg=>⟨hg,trivial⟩),(fun hg=>⟨hg,hg,(fun hq=>⟨(andI' hg (andI' hg hq)),trivial⟩),trivial⟩),(fun hq=>⟨hq,trivial⟩),trivial⟩ ?_
   refine sA 1 [.code (C_56 7462),.code (C_56 7463),.inBlock 1,.code (C_56 467),.inLoop (C_56 116),.inBlock 0,.code (C_56 15)] ?_
   refine sR hE ⟨[(0,(aS s)),(3,(aI i)),(54,(aB (cond (!(cond (cond (decide ((zA s i)≥97)) (decide ((zA s i)≤122)) false) true (cond (decide ((zA s i)≥65)) (decide ((zA s i)≤90)) false))) (cond (i == 0) true (cond ((zA s i) != 45) (cond (decide ((zA s i) < 48)) true (decide ((zA s i) > 57))) false)) false)))],[],656⟩ (C_56 7462) [] [] (kp [0,3,54]) [] 656 [(!(cond (cond (decide ((zA s i)≥97)) (decide ((zA s i)≤122)) false) true (cond (decide ((zA s i)≥65)) (decide ((zA s i)≤90)) false)))=true→AllP [(!(cond (cond (decide ((zA s i)≥97)) (decide ((zA s i)≤122)) false) true (cond (decide ((zA s i)≥65)) (decide ((zA s i)≤90)) false)))=true],((!(cond (cond (decide ((zA s i)≥97)) (decide ((zA s i)≤122)) false) true (cond (decide ((zA s i)≥65)) (decide ((zA s i)≤90)) false))) && ((!(cond (cond (decide ((zA s i)≥97)) (decide ((zA s i)≤122)) false) true (cond (decide ((zA s i)≥65)) (decide ((zA s i)≤90)) false))) && (!(i == 0))))=true→AllP [((!(cond (cond (decide ((zA s i)≥97)) (decide ((zA s i)≤122)) false) true (cond (decide ((zA s i)≥65)) (decide ((zA s i)≤90)) false))) && ((!(cond (cond (decide ((zA s i)≥97)) (decide ((zA s i)≤122)) false) true (cond (decide ((zA s i)≥65)) (decide ((zA s i)≤90)) false))) && (!(i == 0))))=true],(((!(cond (cond (decide ((zA s i)≥97)) (decide ((zA s i)≤122)) false) true (cond (decide ((zA s i)≥65)) (decide ((zA s i)≤90)) false))) && ((!(cond (cond (decide ((zA s i)≥97)) (decide ((zA s i)≤122)) false) true (cond (decide ((zA s i)≥65)) (decide ((zA s i)≤90)) false))) && (!(i == 0)))) && (((!(cond (cond (decide ((zA s i)≥97)) (decide ((zA s i)≤122)) false) true (cond (decide ((zA s i)≥65)) (decide ((zA s i)≤90)) false))) && ((!(cond (cond (decide ((zA s i)≥97)) (decide ((zA s i)≤122)) false) true (cond (decide ((zA s i)≥65)) (decide ((zA s i)≤90)) false))) && (!(i == 0)))) && ((zA s i) != 45)))=true→AllP [(((!(cond (cond (decide ((zA s i)≥97)) (decide ((zA s i)≤122)) false) true (cond (decide ((zA s i)≥65)) (decide ((zA s i)≤90)) false))) && ((!(cond (cond (decide ((zA s i)≥97)) (decide ((zA s i)≤122)) false) true (cond (decide ((zA s i)≥65)) (decide ((zA s i)≤90)) false))) && (!(i == 0)))) && (((!(cond (cond (decide ((zA s i)≥97)) (decide ((zA s i)≤122)) false) true (cond (decide ((zA s i)≥65)) (decide ((zA s i)≤90)) false))) && ((!(cond (cond (decide ((zA s i)≥97)) (decide ((zA s i)≤122)) false) true (cond (decide ((zA s i)≥65)) (decide ((zA s i)≤90)) false))) && (!(i == 0)))) && ((zA s i) != 45)))=true],((((!(cond (cond (decide ((zA s i)≥97)) (decide ((zA s i)≤122)) false) true (cond (decide ((zA s i)≥65)) (decide ((zA s i)≤90)) false))) && ((!(cond (cond (decide ((zA s i)≥97)) (decide ((zA s i)≤122)) false) true (cond (decide ((zA s i)≥65)) (decide ((zA s i)≤90)) false))) && (!(i == 0)))) && (((!(cond (cond (decide ((zA s i)≥97)) (decide ((zA s i)≤122)) false) true (cond (decide ((zA s i)≥65)) (decide ((zA s i)≤90)) false))) && ((!(cond (cond (decide ((zA s i)≥97)) (decide ((zA s i)≤122)) false) true (cond (decide ((zA s i)≥65)) (decide ((zA s i)≤90)) false))) && (!(i == 0)))) && ((zA s i) != 45))) && ((((!(cond (cond (decide ((zA s i)≥97)) (decide ((zA s i)≤122)) false) true (cond (decide ((zA s i)≥65)) (decide ((zA s i)≤90)) false))) && ((!(cond (cond (decide ((zA s i)≥97)) (decide ((zA s i)≤122)) false) true (cond (decide ((zA s i)≥65)) (decide ((zA s i)≤90)) false))) && (!(i == 0)))) && (((!(cond (cond (decide ((zA s i)≥97)) (decide ((zA s i)≤122)) false) true (cond (decide ((zA s i)≥65)) (decide ((zA s i)≤90)) false))) && ((!(cond (cond (decide ((zA s i)≥97)) (decide ((zA s i)≤122)) false) true (cond (decide ((zA s i)≥65)) (decide ((zA s i)≤90)) false))) && (!(i == 0)))) && ((zA s i) != 45))) && (!(decide ((zA s i) < 48)))))=true→AllP [((((!(cond (cond (decide ((zA s i)≥97)) (decide ((zA s i)≤122)) false) true (cond (decide ((zA s i)≥65)) (decide ((zA s i)≤90)) false))) && ((!(cond (cond (decide ((zA s i)≥97)) (decide ((zA s i)≤122)) false) true (cond (decide ((zA s i)≥65)) (decide ((zA s i)≤90)) false))) && (!(i == 0)))) && (((!(cond (cond (decide ((zA s i)≥97)) (decide ((zA s i)≤122)) false) true (cond (decide ((zA s i)≥65)) (decide ((zA s i)≤90)) false))) && ((!(cond (cond (decide ((zA s i)≥97)) (decide ((zA s i)≤122)) false) true (cond (decide ((zA s i)≥65)) (decide ((zA s i)≤90)) false))) && (!(i == 0)))) && ((zA s i) != 45))) && ((((!(cond (cond (decide ((zA s i)≥97)) (decide ((zA s i)≤122)) false) true (cond (decide ((zA s i)≥65)) (decide ((zA s i)≤90)) false))) && ((!(cond (cond (decide ((zA s i)≥97)) (decide ((zA s i)≤122)) false) true (cond (decide ((zA s i)≥65)) (decide ((zA s i)≤90)) false))) && (!(i == 0)))) && (((!(cond (cond (decide ((zA s i)≥97)) (decide ((zA s i)≤122)) false) true (cond (decide ((zA s i)≥65)) (decide ((zA s i)≤90)) false))) && ((!(cond (cond (decide ((zA s i)≥97)) (decide ((zA s i)≤122)) false) true (cond (decide ((zA s i)≥65)) (decide ((zA s i)≤90)) false))) && (!(i == 0)))) && ((zA s i) != 45))) && (!(decide ((zA s i) < 48)))))=true],(((!(cond (cond (decide ((zA s i)≥97)) (decide ((zA s i)≤122)) false) true (cond (decide ((zA s i)≥65)) (decide ((zA s i)≤90)) false))) && ((!(cond (cond (decide ((zA s i)≥97)) (decide ((zA s i)≤122)) false) true (cond (decide ((zA s i)≥65)) (decide ((zA s i)≤90)) false))) && (!(i == 0)))) && (((!(cond (cond (decide ((zA s i)≥97)) (decide ((zA s i)≤122)) false) true (cond (decide ((zA s i)≥65)) (decide ((zA s i)≤90)) false))) && ((!(cond (cond (decide ((zA s i)≥97)) (decide ((zA s i)≤122)) false) true (cond (decide ((zA s i)≥65)) (decide ((zA s i)≤90)) false))) && (!(i == 0)))) && ((zA s i) != 45)))=true→AllP [(((!(cond (cond (decide ((zA s i)≥97)) (decide ((zA s i)≤122)) false) true (cond (decide ((zA s i)≥65)) (decide ((zA s i)≤90)) false))) && ((!(cond (cond (decide ((zA s i)≥97)) (decide ((zA s i)≤122)) false) true (cond (decide ((zA s i)≥65)) (decide ((zA s i)≤90)) false))) && (!(i == 0)))) && (((!(cond (cond (decide ((zA s i)≥97)) (decide ((zA s i)≤122)) false) true (cond (decide ((zA s i)≥65)) (decide ((zA s i)≤90)) false))) && ((!(cond (cond (decide ((zA s i)≥97)) (decide ((zA s i)≤122)) false) true (cond (decide ((zA s i)≥65)) (decide ((zA s i)≤90)) false))) && (!(i == 0)))) && ((zA s i) != 45)))=true,(((!(cond (cond (decide ((zA s i)≥97)) (decide ((zA s i)≤122)) false) true (cond (decide ((zA s i)≥65)) (decide ((zA s i)≤90)) false))) && ((!(cond (cond (decide ((zA s i)≥97)) (decide ((zA s i)≤122)) false) true (cond (decide ((zA s i)≥65)) (decide ((zA s i)≤90)) false))) && (!(i == 0)))) && (((!(cond (cond (decide ((zA s i)≥97)) (decide ((zA s i)≤122)) false) true (cond (decide ((zA s i)≥65)) (decide ((zA s i)≤90)) false))) && ((!(cond (cond (decide ((zA s i)≥97)) (decide ((zA s i)≤122)) false) true (cond (decide ((zA s i)≥65)) (decide ((zA s i)≤90)) false))) && (!(i == 0)))) && ((zA s i) != 45)))=true,(!(decide ((zA s i) < 48)))=true→AllP [((((!(cond (cond (decide ((zA s i)≥97)) (decide ((zA s i)≤122)) false) true (cond (decide ((zA s i)≥65)) (decide ((zA s i)≤90)) false))) && ((!(cond (cond (decide ((zA s i)≥97)) (decide ((zA s i)≤122)) false) true (cond (decide ((zA s i)≥65)) (decide ((zA s i)≤90)) false))) && (!(i == 0)))) && (((!(cond (cond (decide ((zA s i)≥97)) (decide ((zA s i)≤122)) false) true (cond (decide ((zA s i)≥65)) (decide ((zA s i)≤90)) false))) && ((!(cond (cond (decide ((zA s i)≥97)) (decide ((zA s i)≤122)) false) true (cond (decide ((zA s i)≥65)) (decide ((zA s i)≤90)) false))) && (!(i == 0)))) && ((zA s i) != 45))) && ((((!(cond (cond (decide ((zA s i)≥97)) (decide ((zA s i)≤122)) false) true (cond (decide ((zA s i)≥65)) (decide ((zA s i)≤90)) false))) && ((!(cond (cond (decide ((zA s i)≥97)) (decide ((zA s i)≤122)) false) true (cond (decide ((zA s i)≥65)) (decide ((zA s i)≤90)) false))) && (!(i == 0)))) && (((!(cond (cond (decide ((zA s i)≥97)) (decide ((zA s i)≤122)) false) true (cond (decide ((zA s i)≥65)) (decide ((zA s i)≤90)) false))) && ((!(cond (cond (decide ((zA s i)≥97)) (decide ((zA s i)≤122)) false) true (cond (decide ((zA s i)≥65)) (decide ((zA s i)≤90)) false))) && (!(i == 0)))) && ((zA s i) != 45))) && (!(decide ((zA s i) < 48)))))=true]],((!(cond (cond (decide ((zA s i)≥97)) (decide ((zA s i)≤122)) false) true (cond (decide ((zA s i)≥65)) (decide ((zA s i)≤90)) false))) && ((!(cond (cond (decide ((zA s i)≥97)) (decide ((zA s i)≤122)) false) true (cond (decide ((zA s i)≥65)) (decide ((zA s i)≤90)) false))) && (!(i == 0))))=true→AllP [((!(cond (cond (decide ((zA s i)≥97)) (decide ((zA s i)≤122)) false) true (cond (decide ((zA s i)≥65)) (decide ((zA s i)≤90)) false))) && ((!(cond (cond (decide ((zA s i)≥97)) (decide ((zA s i)≤122)) false) true (cond (decide ((zA s i)≥65)) (decide ((zA s i)≤90)) false))) && (!(i == 0))))=true,((!(cond (cond (decide ((zA s i)≥97)) (decide ((zA s i)≤122)) false) true (cond (decide ((zA s i)≥65)) (decide ((zA s i)≤90)) false))) && ((!(cond (cond (decide ((zA s i)≥97)) (decide ((zA s i)≤122)) false) true (cond (decide ((zA s i)≥65)) (decide ((zA s i)≤90)) false))) && (!(i == 0))))=true,((zA s i) != 45)=true→AllP [(((!(cond (cond (decide ((zA s i)≥97)) (decide ((zA s i)≤122)) false) true (cond (decide ((zA s i)≥65)) (decide ((zA s i)≤90)) false))) && ((!(cond (cond (decide ((zA s i)≥97)) (decide ((zA s i)≤122)) false) true (cond (decide ((zA s i)≥65)) (decide ((zA s i)≤90)) false))) && (!(i == 0)))) && (((!(cond (cond (decide ((zA s i)≥97)) (decide ((zA s i)≤122)) false) true (cond (decide ((zA s i)≥65)) (decide ((zA s i)≤90)) false))) && ((!(cond (cond (decide ((zA s i)≥97)) (decide ((zA s i)≤122)) false) true (cond (decide ((zA s i)≥65)) (decide ((zA s i)≤90)) false))) && (!(i == 0)))) && ((zA s i) != 45)))=true]],(!(cond (cond (decide ((zA s i)≥97)) (decide ((zA s i)≤122)) false) true (cond (decide ((zA s i)≥65)) (decide ((zA s i)≤90)) false)))=true→AllP [(!(cond (cond (decide ((zA s i)≥97)) (decide ((zA s i)≤122)) false) true (cond (decide ((zA s i)≥65)) (decide ((zA s i)≤90)) false)))=true,(!(cond (cond (decide ((zA s i)≥97)) (decide ((zA s i)≤122)) false) true (cond (decide ((zA s i)≥65)) (decide ((zA s i)≤90)) false)))=true,(!(i == 0))=true→AllP [((!(cond (cond (decide ((zA s i)≥97)) (decide ((zA s i)≤122)) false) true (cond (decide ((zA s i)≥65)) (decide ((zA s i)≤90)) false))) && ((!(cond (cond (decide ((zA s i)≥97)) (decide ((zA s i)≤122)) false) true (cond (decide ((zA s i)≥65)) (decide ((zA s i)≤90)) false))) && (!(i == 0))))=true]],(!(cond (cond (decide ((zA s i)≥97)) (decide ((zA s i)≤122)) false) true (cond (decide ((zA s i)≥65)) (decide ((zA s i)≤90)) false)))=true→AllP [(!(cond (cond (decide ((zA s i)≥97)) (decide ((zA s i)≤122)) false) true (cond (decide ((zA s i)≥65)) (decide ((zA s i)≤90)) false)))=true]] ⟨(fun hg=>⟨hg,trivial⟩),(fun hg=>⟨hg,trivial⟩),(fun hg=>⟨hg,trivial⟩),(fun hg=>⟨hg,trivial⟩),(fun hg=>⟨hg,hg,(fun hq=>⟨(andI' hg (andI' hg hq)),trivial⟩),trivial⟩),(fun hg=>⟨hg,hg,(fun hq=>⟨(andI' hg (andI' hg hq)),trivial⟩),trivial⟩),(fun hg=>⟨hg,hg,(fun hq=>⟨(andI' hg (andI' hg hq)),trivial⟩),trivial⟩),(fun hq=>⟨hq,trivial⟩),trivial⟩ ?_
   refine sC 54 (C_56 14926) (C_56 14927) (cond (!(cond (cond (decide ((zA s i)≥97)) (decide ((zA s i)≤122)) false) true (cond (decide ((zA s i)≥65)) (decide ((zA s i)≤90)) false))) (cond (i == 0) true (cond ((zA s i) != 45) (cond (decide ((zA s i) < 48)) true (decide ((zA s i) > 57))) false)) false) (fun hq4=>?_) (fun hq4=>?_)
   ·have h:=condT h hq4
    refine sA 1 [.code (C_56 29852),.code (C_56 29853),.inBlock 1,.code (C_56 467),.inLoop (C_56 116),.inBlock 0,.code (C_56 15)] ?_
    refine sR hE ⟨[(2,(aB false))],[],672⟩ (C_56 29852) [] [] (kp [2]) [] 672 [] trivial ?_
    obtain rfl:=Option.some.inj h
    refine sW hE ⟨[(2,(aB false))],[],672⟩ [] (kp [2]) [] 672 [] trivial ?_
    exact sT Tryz.f30 [] [] trivial
   ·have h:=condF h hq4
    refine sA 2 [.code (C_56 467),.inLoop (C_56 116),.inBlock 0,.code (C_56 15)] ?_
    refine sR hE ⟨[(0,(aS s)),(3,(aI (w64 (i+1))))],[],704⟩ (C_56 467) [] [] (kp [0,3]) [] 704 [] trivial ?_
    refine sA 1 [.code (C_56 116),.inLoop (C_56 116),.inBlock 0,.code (C_56 15)] ?_
    exact sW hE _ [] (kp [0,3]) [] 0 [] trivial (ih (w64 (i+1)) _ h E hE)
  ·have h:=condF h hq3
   refine sA 2 [.code (C_56 30),.code (C_56 31)] ?_
   refine sR hE ⟨[(2,(aB true))],[],80⟩ (C_56 30) [] [] (kp [2]) [] 80 [] trivial ?_
   obtain rfl:=Option.some.inj h
   refine sW hE ⟨[(2,(aB true))],[],80⟩ [] (kp [2]) [] 80 [] trivial ?_
   exact sT Tryz.f30 [] [] trivial
theorem g_b_IsName_ok (N:Nat) (s:ByteArray) (r:Bool) (h:g_b_IsName N s=some r):Sd 30 [(aS s)] [] 0 (aB r) []:=by
 unfold g_b_IsName at h
 refine Sound.of_runs (fu:=Tryz.f30) (c:=C_56 1) (nt:=55) (by kernel_rfl) (by kernel_rfl) (by kernel_rfl) (by kernel_rfl) (fun hm=>rfl) ?_
 intro E hE
 refine sA 1 [.code (C_56 2),.code (C_56 3)] ?_
 refine sR hE ⟨[(0,(aS s))],[],16⟩ (C_56 2) [] [] (kp [0]) [] 16 [] trivial ?_
 refine sA 2 [.code (C_56 12),.code (C_56 13),.code (C_56 7)] ?_
 refine sR hE ⟨[(0,(aS s)),(13,(aB (cond (decide (((s.size:Nat):Int) < 1)) true (decide (((s.size:Nat):Int) > 12)))))],[],144⟩ (C_56 12) [] [] (kp [0,13]) [] 144 [(!(decide (((s.size:Nat):Int) < 1)))=true→AllP [(!(decide (((s.size:Nat):Int) < 1)))=true],(!(decide (((s.size:Nat):Int) < 1)))=true→AllP [(!(decide (((s.size:Nat):Int) < 1)))=true],(!(decide (((s.size:Nat):Int) < 1)))=true→AllP [(!(decide (((s.size:Nat):Int) < 1)))=true]] ⟨(fun hg=>⟨hg,trivial⟩),(fun hg=>⟨hg,trivial⟩),(fun hq=>⟨hq,trivial⟩),trivial⟩ ?_
 refine sC 13 (C_56 26) (C_56 27) (cond (decide (((s.size:Nat):Int) < 1)) true (decide (((s.size:Nat):Int) > 12))) (fun hq2=>?_) (fun hq2=>?_)
 ·have h:=condT h hq2
  refine sA 1 [.code (C_56 52),.code (C_56 53),.code (C_56 7)] ?_
  refine sR hE ⟨[(2,(aB false))],[],160⟩ (C_56 52) [] [] (kp [2]) [] 160 [] trivial ?_
  obtain rfl:=Option.some.inj h
  refine sW hE ⟨[(2,(aB false))],[],160⟩ [] (kp [2]) [] 160 [] trivial ?_
  exact sT Tryz.f30 [] [] trivial
 ·have h:=condF h hq2
  refine sA 3 [.code (C_56 28),.code (C_56 29),.code (C_56 15)] ?_
  refine sR hE ⟨[(0,(aS s)),(3,(aI 0))],[],160⟩ (C_56 28) [] [] (kp [0,3]) [] 160 [] trivial ?_
  refine sA 2 [.code (C_56 116),.inLoop (C_56 116),.inBlock 0,.code (C_56 15)] ?_
  exact sW hE _ [] (kp [0,3]) [] 0 [] trivial (g_b_IsName_L1_ok N s N 0 _ h E hE)
noncomputable def C_54 (n:Nat):Code:=cat (bodyOf Tryz.f8) (pth n)
theorem g_r05_CheckPontoon_L3_ok (N:Nat) (p:TPn) (i2:Int) (K_g_r05_CheckPontoon_L2:Int→Option (Int))
  (hK_g_r05_CheckPontoon_L2:∀ (i2:Int) (r:Int),K_g_r05_CheckPontoon_L2 i2=some r→∀ E,EnvOk E 0→Runs Tryz.prog E 8 112 (SPost E [] (aI r)) [.code (C_54 1012),.inLoop (C_54 1012),.inBlock 2,.code (C_54 127)] ⟨[(1,(.op 0 0 0)),(5,(aI i2))],[(0,vO 5 (TPn.cells p))],1⟩) (fuel:Nat):∀ (k:Int) (r:Int),g_r05_CheckPontoon_L3 N p i2 K_g_r05_CheckPontoon_L2 fuel k=some r→∀ E,EnvOk E 0→Runs Tryz.prog E 8 112 (SPost E [] (aI r)) [.code (C_54 518452),.inLoop (C_54 518452),.inBlock 4,.code (C_54 64807),.inBlock 3,.code (C_54 4051),.inLoop (C_54 1012),.inBlock 2,.code (C_54 127)] ⟨[(1,(.op 0 0 0)),(5,(aI i2)),(6,(.op 1 0 0)),(7,(aI k))],[(0,vO 5 (TPn.cells p)),(1,vO 5 (TTank.cells (p.fTk.getD ((i2).toNat) TTank.d)))],2⟩:=by
 induction fuel with
 | zero=>intro _ r h;rw [g_r05_CheckPontoon_L3.eq_1] at h;cases h
 | succ fuel ih =>
  intro k r h E hE
  rw [g_r05_CheckPontoon_L3.eq_2] at h
  refine sA 2 [.code (C_54 2073808),.code (C_54 2073809),.code (C_54 1036905),.inLoop (C_54 518452),.inBlock 4,.code (C_54 64807),.inBlock 3,.code (C_54 4051),.inLoop (C_54 1012),.inBlock 2,.code (C_54 127)] ?_
  refine sR hE ⟨[(1,(.op 0 0 0)),(5,(aI i2)),(6,(.op 1 0 0)),(7,(aI k)),(78,(aB (decide (k < i2))))],[(0,vO 5 (TPn.cells p)),(1,vO 5 (TTank.cells (p.fTk.getD ((i2).toNat) TTank.d)))],50⟩ (C_54 2073808) [] [] (kp [1,5,6,7,78]) (kq [0,1]) 50 [] trivial ?_
  refine sC 78 (C_54 4147618) (C_54 4147619) (decide (k < i2)) (fun hq9=>?_) (fun hq9=>?_)
  ·have h:=condT h hq9
   refine sA 4 [.code (C_54 8295240),.code (C_54 8295241),.inBlock 5,.code (C_54 2073811),.inLoop (C_54 518452),.inBlock 4,.code (C_54 64807),.inBlock 3,.code (C_54 4051),.inLoop (C_54 1012),.inBlock 2,.code (C_54 127)] ?_
   obtain ⟨c3,h⟩:=ifSome h
   refine sR hE ⟨[(1,(.op 0 0 0)),(5,(aI i2)),(6,(.op 1 0 0)),(7,(aI k)),(89,(aB (streq ((p.fTk.getD ((k).toNat) TTank.d).f_Name) ((p.fTk.getD ((i2).toNat) TTank.d).f_Name))))],[(0,vO 5 (TPn.cells p)),(1,vO 5 (TTank.cells (p.fTk.getD ((i2).toNat) TTank.d)))],194⟩ (C_54 8295240) [] [] (kp [1,5,6,7,89]) (kq [0,1]) 194 [0 < 1,0≤k∧k < ((p.fTk.length:Nat):Int),0 < 1] ⟨o1,c3,o1,trivial⟩ ?_
   refine sC 89 (C_54 16590482) (C_54 16590483) (streq ((p.fTk.getD ((k).toNat) TTank.d).f_Name) ((p.fTk.getD ((i2).toNat) TTank.d).f_Name)) (fun hq10=>?_) (fun hq10=>?_)
   ·have h:=condT h hq10
    refine sA 1 [.code (C_54 33180964),.code (C_54 33180965),.inBlock 5,.code (C_54 2073811),.inLoop (C_54 518452),.inBlock 4,.code (C_54 64807),.inBlock 3,.code (C_54 4051),.inLoop (C_54 1012),.inBlock 2,.code (C_54 127)] ?_
    refine sR hE ⟨[(2,(aI 5))],[],210⟩ (C_54 33180964) [] [] (kp [2]) [] 210 [] trivial ?_
    obtain rfl:=Option.some.inj h
    refine sW hE ⟨[(2,(aI 5))],[],210⟩ [] (kp [2]) [] 210 [] trivial ?_
    exact sT Tryz.f8 [] [] trivial
   ·have h:=condF h hq10
    refine sA 2 [.code (C_54 2073811),.inLoop (C_54 518452),.inBlock 4,.code (C_54 64807),.inBlock 3,.code (C_54 4051),.inLoop (C_54 1012),.inBlock 2,.code (C_54 127)] ?_
    refine sR hE ⟨[(1,(.op 0 0 0)),(5,(aI i2)),(6,(.op 1 0 0)),(7,(aI (w64 (k+1))))],[(0,vO 5 (TPn.cells p)),(1,vO 5 (TTank.cells (p.fTk.getD ((i2).toNat) TTank.d)))],242⟩ (C_54 2073811) [] [] (kp [1,5,6,7]) (kq [0,1]) 242 [] trivial ?_
    refine sA 1 [.code (C_54 518452),.inLoop (C_54 518452),.inBlock 4,.code (C_54 64807),.inBlock 3,.code (C_54 4051),.inLoop (C_54 1012),.inBlock 2,.code (C_54 127)] ?_
    exact sW hE _ [] (kp [1,5,6,7]) (kq [0,1]) 2 [] trivial (ih (w64 (k+1)) _ h E hE)
  ·have h:=condF h hq9
   refine sA 2 [.code (C_54 129614),.code (C_54 129615),.inBlock 3,.code (C_54 4051),.inLoop (C_54 1012),.inBlock 2,.code (C_54 127)] ?_
   obtain ⟨rIn7,hr8,h⟩:=bindSome h
   obtain ⟨rIn8,hr9,h⟩:=bindSome h
   obtain ⟨rIn9,hr10,h⟩:=bindSome h
   obtain ⟨rIn10,hr11,h⟩:=bindSome h
   refine sR hE ⟨[(1,(.op 0 0 0)),(5,(aI i2)),(111,(aB (cond (cond (cond (!rIn7) true (!rIn8)) true (!rIn9)) true (!rIn10))))],[(0,vO 5 (TPn.cells p))],402⟩ (C_54 129614) [(2,⟨[],true,(aB rIn7),[],0,false,none⟩),(7,⟨[],true,(aB rIn8),[],0,false,none⟩),(13,⟨[],true,(aB rIn9),[],0,false,none⟩),(19,⟨[],true,(aB rIn10),[],0,false,none⟩)] [] (kp [1,5,111]) (kq [0]) 402 [0 < 1,Sd 29 [(aI ((p.fTk.getD ((i2).toNat) TTank.d).f_X)),(aI (-1000000)),(aI 1000000)] [] 0 (aB rIn7) [],(!(!rIn7))=true→AllP [(!(!rIn7))=true,0 < 1],(!(!rIn7))=true→AllP [Sd 29 [(aI ((p.fTk.getD ((i2).toNat) TTank.d).f_Y)),(aI (-1000000)),(aI 1000000)] [] 0 (aB rIn8) [],(!(!rIn7))=true],(!(!rIn7))=true→AllP [(!(!rIn7))=true],(!(!rIn7))=true→AllP [(!(!rIn7))=true],(!(cond (!rIn7) true (!rIn8)))=true→AllP [(!(cond (!rIn7) true (!rIn8)))=true,0 < 1],(!(cond (!rIn7) true (!rIn8)))=true→AllP [Sd 29 [(aI ((p.fTk.getD ((i2).toNat) TTank.d).f_Steps)),(aI 0),(aI 12)] [] 0 (aB rIn9) [],(!(cond (!rIn7) true (!rIn8)))=true],(!(cond (!rIn7) true (!rIn8)))=true→AllP [(!(cond (!rIn7) true (!rIn8)))=true],(!(cond (!rIn7) true (!rIn8)))=true→AllP [(!(cond (!rIn7) true (!rIn8)))=true],(!(cond (cond (!rIn7) true (!rIn8)) true (!rIn9)))=true→AllP [(!(cond (cond (!rIn7) true (!rIn8)) true (!rIn9)))=true,0 < 1],(!(cond (cond (!rIn7) true (!rIn8)) true (!rIn9)))=true→AllP [Sd 29 [(aI ((p.fTk.getD ((i2).toNat) TTank.d).fMa)),(aI 0),(aI 1000000000)] [] 0 (aB rIn10) [],(!(cond (cond (!rIn7) true (!rIn8)) true (!rIn9)))=true],(!(cond (cond (!rIn7) true (!rIn8)) true (!rIn9)))=true→AllP [(!(cond (cond (!rIn7) true (!rIn8)) true (!rIn9)))=true],(!(cond (cond (!rIn7) true (!rIn8)) true (!rIn9)))=true→AllP [(!(cond (cond (!rIn7) true (!rIn8)) true (!rIn9)))=true]] ⟨o1,(g_r05_inside_ok N ((p.fTk.getD ((i2).toNat) TTank.d).f_X) (-1000000) 1000000 rIn7 hr8),(fun hg=>⟨hg,o1,trivial⟩),(fun hg=>⟨(g_r05_inside_ok N ((p.fTk.getD ((i2).toNat) TTank.d).f_Y) (-1000000) 1000000 rIn8 (condT hr9 hg)),hg,trivial⟩),(fun hg=>⟨hg,trivial⟩),(fun hq=>⟨hq,trivial⟩),(fun hg=>⟨hg,o1,trivial⟩),(fun hg=>⟨(g_r05_inside_ok N ((p.fTk.getD ((i2).toNat) TTank.d).f_Steps) 0 12 rIn9 (condT hr10 hg)),hg,trivial⟩),(fun hg=>⟨hg,trivial⟩),(fun hq=>⟨hq,trivial⟩),(fun hg=>⟨hg,o1,trivial⟩),(fun hg=>⟨(g_r05_inside_ok N ((p.fTk.getD ((i2).toNat) TTank.d).fMa) 0 1000000000 rIn10 (condT hr11 hg)),hg,trivial⟩),(fun hg=>⟨hg,trivial⟩),(fun hq=>⟨hq,trivial⟩),trivial⟩ ?_
   refine sC 111 (C_54 259230) (C_54 259231) (cond (cond (cond (!rIn7) true (!rIn8)) true (!rIn9)) true (!rIn10)) (fun hq11=>?_) (fun hq11=>?_)
   ·have h:=condT h hq11
    refine sA 1 [.code (C_54 518460),.code (C_54 518461),.inBlock 3,.code (C_54 4051),.inLoop (C_54 1012),.inBlock 2,.code (C_54 127)] ?_
    refine sR hE ⟨[(2,(aI 2))],[],418⟩ (C_54 518460) [] [] (kp [2]) [] 418 [] trivial ?_
    obtain rfl:=Option.some.inj h
    refine sW hE ⟨[(2,(aI 2))],[],418⟩ [] (kp [2]) [] 418 [] trivial ?_
    exact sT Tryz.f8 [] [] trivial
   ·have h:=condF h hq11
    refine sA 2 [.code (C_54 4051),.inLoop (C_54 1012),.inBlock 2,.code (C_54 127)] ?_
    refine sR hE ⟨[(1,(.op 0 0 0)),(5,(aI (w64 (i2+1))))],[(0,vO 5 (TPn.cells p))],450⟩ (C_54 4051) [] [] (kp [1,5]) (kq [0]) 450 [] trivial ?_
    refine sA 1 [.code (C_54 1012),.inLoop (C_54 1012),.inBlock 2,.code (C_54 127)] ?_
    exact sW hE _ [] (kp [1,5]) (kq [0]) 1 [] trivial (hK_g_r05_CheckPontoon_L2 (w64 (i2+1)) _ h E hE)
theorem g_r05_CheckPontoon_L2_ok (N:Nat) (p:TPn) (fuel:Nat):∀ (i2:Int) (r:Int),g_r05_CheckPontoon_L2 N p fuel i2=some r→∀ E,EnvOk E 0→Runs Tryz.prog E 8 112 (SPost E [] (aI r)) [.code (C_54 1012),.inLoop (C_54 1012),.inBlock 2,.code (C_54 127)] ⟨[(1,(.op 0 0 0)),(5,(aI i2))],[(0,vO 5 (TPn.cells p))],1⟩:=by
 induction fuel with
 | zero=>intro _ r h;rw [g_r05_CheckPontoon_L2.eq_1] at h;cases h
 | succ fuel ih =>
  intro i2 r h E hE
  rw [g_r05_CheckPontoon_L2.eq_2] at h
  refine sA 2 [.code (C_54 4048),.code (C_54 4049),.code (C_54 2025),.inLoop (C_54 1012),.inBlock 2,.code (C_54 127)] ?_
  refine sR hE ⟨[(1,(.op 0 0 0)),(5,(aI i2)),(64,(aB (decide (i2 < ((p.fTk.length:Nat):Int)))))],[(0,vO 5 (TPn.cells p))],81⟩ (C_54 4048) [] [] (kp [1,5,64]) (kq [0]) 81 [0 < 1] ⟨o1,trivial⟩ ?_
  refine sC 64 (C_54 8098) (C_54 8099) (decide (i2 < ((p.fTk.length:Nat):Int))) (fun hq7=>?_) (fun hq7=>?_)
  ·have h:=condT h hq7
   refine sA 4 [.code (C_54 16200),.code (C_54 16201),.inBlock 3,.code (C_54 4051),.inLoop (C_54 1012),.inBlock 2,.code (C_54 127)] ?_
   obtain ⟨c2,h⟩:=ifSome h
   refine sR hE ⟨[(1,(.op 0 0 0)),(5,(aI i2)),(6,(.op 161 0 0))],[(0,vO 5 (TPn.cells p)),(161,vO 5 (TTank.cells (p.fTk.getD ((i2).toNat) TTank.d)))],193⟩ (C_54 16200) [] [] (kp [1,5,6]) (kq [0,161]) 193 [0 < 1,0≤i2∧i2 < ((p.fTk.length:Nat):Int),0 < 1] ⟨o1,c2,o1,trivial⟩ ?_
   refine sA 2 [.code (C_54 64804),.code (C_54 64805),.code (C_54 32403),.inBlock 3,.code (C_54 4051),.inLoop (C_54 1012),.inBlock 2,.code (C_54 127)] ?_
   obtain ⟨rIsName,hr7,h⟩:=bindSome h
   refine sR hE ⟨[(1,(.op 0 0 0)),(5,(aI i2)),(6,(.op 161 0 0)),(75,(aB (!rIsName)))],[(0,vO 5 (TPn.cells p)),(161,vO 5 (TTank.cells (p.fTk.getD ((i2).toNat) TTank.d)))],257⟩ (C_54 64804) [(2,⟨[],true,(aB rIsName),[],0,false,none⟩)] [] (kp [1,5,6,75]) (kq [0,161]) 257 [0 < 1,Sd 30 [(aS ((p.fTk.getD ((i2).toNat) TTank.d).f_Name))] [] 0 (aB rIsName) []] ⟨o1,(g_b_IsName_ok N ((p.fTk.getD ((i2).toNat) TTank.d).f_Name) rIsName hr7),trivial⟩ ?_
   refine sC 75 (C_54 129610) (C_54 129611) (!rIsName) (fun hq8=>?_) (fun hq8=>?_)
   ·have h:=condT h hq8
    refine sA 1 [.code (C_54 259220),.code (C_54 259221),.code (C_54 32403),.inBlock 3,.code (C_54 4051),.inLoop (C_54 1012),.inBlock 2,.code (C_54 127)] ?_
    refine sR hE ⟨[(2,(aI 4))],[],273⟩ (C_54 259220) [] [] (kp [2]) [] 273 [] trivial ?_
    obtain rfl:=Option.some.inj h
    refine sW hE ⟨[(2,(aI 4))],[],273⟩ [] (kp [2]) [] 273 [] trivial ?_
    exact sT Tryz.f8 [] [] trivial
   ·have h:=condF h hq8
    refine sA 3 [.code (C_54 129612),.code (C_54 129613),.code (C_54 64807),.inBlock 3,.code (C_54 4051),.inLoop (C_54 1012),.inBlock 2,.code (C_54 127)] ?_
    refine sR hE ⟨[(1,(.op 0 0 0)),(5,(aI i2)),(6,(.op 161 0 0)),(7,(aI 0))],[(0,vO 5 (TPn.cells p)),(161,vO 5 (TTank.cells (p.fTk.getD ((i2).toNat) TTank.d)))],273⟩ (C_54 129612) [] [] (kp [1,5,6,7]) (kq [0,161]) 273 [] trivial ?_
    refine sA 2 [.code (C_54 518452),.inLoop (C_54 518452),.inBlock 4,.code (C_54 64807),.inBlock 3,.code (C_54 4051),.inLoop (C_54 1012),.inBlock 2,.code (C_54 127)] ?_
    exact sW hE _ [] (kp [1,5,6,7]) (kq [0] ++ [(1,.keep 161)]) 2 [] trivial (g_r05_CheckPontoon_L3_ok N p i2 (g_r05_CheckPontoon_L2 N p fuel) ih N 0 _ h E hE)
  ·have h:=condF h hq7
   refine sA 2 [.code (C_54 254),.code (C_54 255)] ?_
   refine sR hE ⟨[(2,(aI 0))],[],97⟩ (C_54 254) [] [] (kp [2]) [] 97 [] trivial ?_
   obtain rfl:=Option.some.inj h
   refine sW hE ⟨[(2,(aI 0))],[],97⟩ [] (kp [2]) [] 97 [] trivial ?_
   exact sT Tryz.f8 [] [] trivial
theorem g_r05_CheckPontoon_L1_ok (N:Nat) (p:TPn) (fuel:Nat):∀ (i:Int) (r:Int),g_r05_CheckPontoon_L1 N p fuel i=some r→∀ E,EnvOk E 0→Runs Tryz.prog E 8 112 (SPost E [] (aI r)) [.code (C_54 244),.inLoop (C_54 244),.inBlock 0,.code (C_54 31)] ⟨[(1,(.op 0 0 0)),(3,(aI i))],[(0,vO 5 (TPn.cells p))],1⟩:=by
 induction fuel with
 | zero=>intro _ r h;rw [g_r05_CheckPontoon_L1.eq_1] at h;cases h
 | succ fuel ih =>
  intro i r h E hE
  rw [g_r05_CheckPontoon_L1.eq_2] at h
  refine sA 2 [.code (C_54 976),.code (C_54 977),.code (C_54 489),.inLoop (C_54 244),.inBlock 0,.code (C_54 31)] ?_
  refine sR hE ⟨[(1,(.op 0 0 0)),(3,(aI i)),(32,(aB (decide (i < ((p.fMs.length:Nat):Int)))))],[(0,vO 5 (TPn.cells p))],81⟩ (C_54 976) [] [] (kp [1,3,32]) (kq [0]) 81 [0 < 1] ⟨o1,trivial⟩ ?_
  refine sC 32 (C_54 1954) (C_54 1955) (decide (i < ((p.fMs.length:Nat):Int))) (fun hq4=>?_) (fun hq4=>?_)
  ·have h:=condT h hq4
   refine sA 4 [.code (C_54 3912),.code (C_54 3913),.inBlock 1,.code (C_54 979),.inLoop (C_54 244),.inBlock 0,.code (C_54 31)] ?_
   obtain ⟨c,h⟩:=ifSome h
   refine sR hE ⟨[(1,(.op 0 0 0)),(3,(aI i)),(4,(.op 161 0 0))],[(0,vO 5 (TPn.cells p)),(161,vO 3 (TPm.cells (p.fMs.getD ((i).toNat) TPm.d)))],193⟩ (C_54 3912) [] [] (kp [1,3,4]) (kq [0,161]) 193 [0 < 1,0≤i∧i < ((p.fMs.length:Nat):Int),0 < 1] ⟨o1,c,o1,trivial⟩ ?_
   refine sA 1 [.code (C_54 7826),.code (C_54 7827),.inBlock 1,.code (C_54 979),.inLoop (C_54 244),.inBlock 0,.code (C_54 31)] ?_
   obtain ⟨rIn4,hr4,h⟩:=bindSome h
   obtain ⟨rIn5,hr5,h⟩:=bindSome h
   obtain ⟨rIn6,hr6,h⟩:=bindSome h
   refine sR hE ⟨[(1,(.op 0 0 0)),(3,(aI i)),(55,(aB (cond (cond (!rIn4) true (!rIn5)) true (!rIn6))))],[(0,vO 5 (TPn.cells p))],449⟩ (C_54 7826) [(2,⟨[],true,(aB rIn4),[],0,false,none⟩),(7,⟨[],true,(aB rIn5),[],0,false,none⟩),(13,⟨[],true,(aB rIn6),[],0,false,none⟩)] [] (kp [1,3,55]) (kq [0]) 449 [0 < 1,Sd 29 [(aI ((p.fMs.getD ((i).toNat) TPm.d).f_X)),(aI (-1000000)),(aI 1000000)] [] 0 (aB rIn4) [],(!(!rIn4))=true→AllP [(!(!rIn4))=true,0 < 1],(!(!rIn4))=true→AllP [Sd 29 [(aI ((p.fMs.getD ((i).toNat) TPm.d).f_Y)),(aI (-1000000)),(aI 1000000)] [] 0 (aB rIn5) [],(!(!rIn4))=true],(!(!rIn4))=true→AllP [(!(!rIn4))=true],(!(!rIn4))=true→AllP [(!(!rIn4))=true],(!(cond (!rIn4) true (!rIn5)))=true→AllP [(!(cond (!rIn4) true (!rIn5)))=true,0 < 1],(!(cond (!rIn4) true (!rIn5)))=true→AllP [Sd 29 [(aI ((p.fMs.getD ((i).toNat) TPm.d).fMa)),(aI 0),(aI 1000000000)] [] 0 (aB rIn6) [],(!(cond (!rIn4) true (!rIn5)))=true],(!(cond (!rIn4) true (!rIn5)))=true→AllP [(!(cond (!rIn4) true (!rIn5)))=true],(!(cond (!rIn4) true (!rIn5)))=true→AllP [(!(cond (!rIn4) true (!rIn5)))=true]] ⟨o1,(g_r05_inside_ok N ((p.fMs.getD ((i).toNat) TPm.d).f_X) (-1000000) 1000000 rIn4 hr4),(fun hg=>⟨hg,o1,trivial⟩),(fun hg=>⟨(g_r05_inside_ok N ((p.fMs.getD ((i).toNat) TPm.d).f_Y) (-1000000) 1000000 rIn5 (condT hr5 hg)),hg,trivial⟩),(fun hg=>⟨hg,trivial⟩),(fun hq=>⟨hq,trivial⟩),(fun hg=>⟨hg,o1,trivial⟩),(fun hg=>⟨(g_r05_inside_ok N ((p.fMs.getD ((i).toNat) TPm.d).fMa) 0 1000000000 rIn6 (condT hr6 hg)),hg,trivial⟩),(fun hg=>⟨hg,trivial⟩),(fun hq=>⟨hq,trivial⟩),trivial⟩ ?_
   refine sC 55 (C_54 15654) (C_54 15655) (cond (cond (!rIn4) true (!rIn5)) true (!rIn6)) (fun hq5=>?_) (fun hq5=>?_)
   ·have h:=condT h hq5
    refine sA 1 [.code (C_54 31308),.code (C_54 31309),.inBlock 1,.code (C_54 979),.inLoop (C_54 244),.inBlock 0,.code (C_54 31)] ?_
    refine sR hE ⟨[(2,(aI 2))],[],465⟩ (C_54 31308) [] [] (kp [2]) [] 465 [] trivial ?_
    obtain rfl:=Option.some.inj h
    refine sW hE ⟨[(2,(aI 2))],[],465⟩ [] (kp [2]) [] 465 [] trivial ?_
    exact sT Tryz.f8 [] [] trivial
   ·have h:=condF h hq5
    refine sA 2 [.code (C_54 979),.inLoop (C_54 244),.inBlock 0,.code (C_54 31)] ?_
    refine sR hE ⟨[(1,(.op 0 0 0)),(3,(aI (w64 (i+1))))],[(0,vO 5 (TPn.cells p))],497⟩ (C_54 979) [] [] (kp [1,3]) (kq [0]) 497 [] trivial ?_
    refine sA 1 [.code (C_54 244),.inLoop (C_54 244),.inBlock 0,.code (C_54 31)] ?_
    exact sW hE _ [] (kp [1,3]) (kq [0]) 1 [] trivial (ih (w64 (i+1)) _ h E hE)
  ·have h:=condF h hq4
   refine sA 3 [.code (C_54 124),.code (C_54 125),.code (C_54 63)] ?_
   refine sR hE ⟨[(1,(.op 0 0 0)),(59,(aB (decide (((p.fTk.length:Nat):Int) > 6))))],[(0,vO 5 (TPn.cells p))],145⟩ (C_54 124) [] [] (kp [1,59]) (kq [0]) 145 [0 < 1] ⟨o1,trivial⟩ ?_
   refine sC 59 (C_54 250) (C_54 251) (decide (((p.fTk.length:Nat):Int) > 6)) (fun hq6=>?_) (fun hq6=>?_)
   ·have h:=condT h hq6
    refine sA 1 [.code (C_54 500),.code (C_54 501),.code (C_54 63)] ?_
    refine sR hE ⟨[(2,(aI 8))],[],161⟩ (C_54 500) [] [] (kp [2]) [] 161 [] trivial ?_
    obtain rfl:=Option.some.inj h
    refine sW hE ⟨[(2,(aI 8))],[],161⟩ [] (kp [2]) [] 161 [] trivial ?_
    exact sT Tryz.f8 [] [] trivial
   ·have h:=condF h hq6
    refine sA 3 [.code (C_54 252),.code (C_54 253),.code (C_54 127)] ?_
    refine sR hE ⟨[(1,(.op 0 0 0)),(5,(aI 0))],[(0,vO 5 (TPn.cells p))],161⟩ (C_54 252) [] [] (kp [1,5]) (kq [0]) 161 [] trivial ?_
    refine sA 2 [.code (C_54 1012),.inLoop (C_54 1012),.inBlock 2,.code (C_54 127)] ?_
    exact sW hE _ [] (kp [1,5]) (kq [0]) 1 [] trivial (g_r05_CheckPontoon_L2_ok N p N 0 _ h E hE)
theorem g_r05_CheckPontoon_ok (N:Nat) (p:TPn) (r:Int) (h:g_r05_CheckPontoon N p=some r):Sd 8 [(.agg (TPn.cells p))] [] 0 (aI r) []:=by
 unfold g_r05_CheckPontoon at h
 refine Sound.of_runs (fu:=Tryz.f8) (c:=C_54 1) (nt:=112) (by kernel_rfl) (by kernel_rfl) (by kernel_rfl) (by kernel_rfl) (fun hm=>rfl) ?_
 intro E hE
 refine sA 1 [.code (C_54 2),.code (C_54 3)] ?_
 refine sR hE ⟨[(1,(.op 0 0 0))],[(0,vO 5 (TPn.cells p))],32⟩ (C_54 2) [] [] (kp [1]) (kq [0]) 32 [] trivial ?_
 refine sA 2 [.code (C_54 12),.code (C_54 13),.code (C_54 7)] ?_
 obtain ⟨rIn,hr,h⟩:=bindSome h
 obtain ⟨rIn2,hr2,h⟩:=bindSome h
 obtain ⟨rIn3,hr3,h⟩:=bindSome h
 refine sR hE ⟨[(1,(.op 0 0 0)),(23,(aB (cond (cond (!rIn) true (!rIn2)) true (!rIn3))))],[(0,vO 5 (TPn.cells p))],288⟩ (C_54 12) [(2,⟨[],true,(aB rIn),[],0,false,none⟩),(7,⟨[],true,(aB rIn2),[],0,false,none⟩),(13,⟨[],true,(aB rIn3),[],0,false,none⟩)] [] (kp [1,23]) (kq [0]) 288 [0 < 1,Sd 29 [(aI p.fLn),(aI 1),(aI 1000000)] [] 0 (aB rIn) [],(!(!rIn))=true→AllP [(!(!rIn))=true,0 < 1],(!(!rIn))=true→AllP [Sd 29 [(aI p.fBr),(aI 1),(aI 1000000)] [] 0 (aB rIn2) [],(!(!rIn))=true],(!(!rIn))=true→AllP [(!(!rIn))=true],(!(!rIn))=true→AllP [(!(!rIn))=true],(!(cond (!rIn) true (!rIn2)))=true→AllP [(!(cond (!rIn) true (!rIn2)))=true,0 < 1],(!(cond (!rIn) true (!rIn2)))=true→AllP [Sd 29 [(aI p.fDsity),(aI 900),(aI 1100)] [] 0 (aB rIn3) [],(!(cond (!rIn) true (!rIn2)))=true],(!(cond (!rIn) true (!rIn2)))=true→AllP [(!(cond (!rIn) true (!rIn2)))=true],(!(cond (!rIn) true (!rIn2)))=true→AllP [(!(cond (!rIn) true (!rIn2)))=true]] ⟨o1,(g_r05_inside_ok N p.fLn 1 1000000 rIn hr),(fun hg=>⟨hg,o1,trivial⟩),(fun hg=>⟨(g_r05_inside_ok N p.fBr 1 1000000 rIn2 (condT hr2 hg)),hg,trivial⟩),(fun hg=>⟨hg,trivial⟩),(fun hq=>⟨hq,trivial⟩),(fun hg=>⟨hg,o1,trivial⟩),(fun hg=>⟨(g_r05_inside_ok N p.fDsity 900 1100 rIn3 (condT hr3 hg)),hg,trivial⟩),(fun hg=>⟨hg,trivial⟩),(fun hq=>⟨hq,trivial⟩),trivial⟩ ?_
 refine sC 23 (C_54 26) (C_54 27) (cond (cond (!rIn) true (!rIn2)) true (!rIn3)) (fun hq2=>?_) (fun hq2=>?_)
 ·have h:=condT h hq2
  refine sA 1 [.code (C_54 52),.code (C_54 53),.code (C_54 7)] ?_
  refine sR hE ⟨[(2,(aI 2))],[],304⟩ (C_54 52) [] [] (kp [2]) [] 304 [] trivial ?_
  obtain rfl:=Option.some.inj h
  refine sW hE ⟨[(2,(aI 2))],[],304⟩ [] (kp [2]) [] 304 [] trivial ?_
  exact sT Tryz.f8 [] [] trivial
 ·have h:=condF h hq2
  refine sA 3 [.code (C_54 28),.code (C_54 29),.code (C_54 15)] ?_
  refine sR hE ⟨[(1,(.op 0 0 0)),(27,(aB (decide (((p.fMs.length:Nat):Int) > 20))))],[(0,vO 5 (TPn.cells p))],352⟩ (C_54 28) [] [] (kp [1,27]) (kq [0]) 352 [0 < 1] ⟨o1,trivial⟩ ?_
  refine sC 27 (C_54 58) (C_54 59) (decide (((p.fMs.length:Nat):Int) > 20)) (fun hq3=>?_) (fun hq3=>?_)
  ·have h:=condT h hq3
   refine sA 1 [.code (C_54 116),.code (C_54 117),.code (C_54 15)] ?_
   refine sR hE ⟨[(2,(aI 8))],[],368⟩ (C_54 116) [] [] (kp [2]) [] 368 [] trivial ?_
   obtain rfl:=Option.some.inj h
   refine sW hE ⟨[(2,(aI 8))],[],368⟩ [] (kp [2]) [] 368 [] trivial ?_
   exact sT Tryz.f8 [] [] trivial
  ·have h:=condF h hq3
   refine sA 3 [.code (C_54 60),.code (C_54 61),.code (C_54 31)] ?_
   refine sR hE ⟨[(1,(.op 0 0 0)),(3,(aI 0))],[(0,vO 5 (TPn.cells p))],368⟩ (C_54 60) [] [] (kp [1,3]) (kq [0]) 368 [] trivial ?_
   refine sA 2 [.code (C_54 244),.inLoop (C_54 244),.inBlock 0,.code (C_54 31)] ?_
   exact sW hE _ [] (kp [1,3]) (kq [0]) 1 [] trivial (g_r05_CheckPontoon_L1_ok N p N 0 _ h E hE)
noncomputable def C_57 (n:Nat):Code:=cat (bodyOf Tryz.f10) (pth n)
theorem g_r05_States_L1_ok (N:Nat) (p:TPn) (most:Int) (fuel:Nat):∀ (n:Int) (i:Int) (r:Int),g_r05_States_L1 N p most fuel n i=some r→∀ E,EnvOk E 0→Runs Tryz.prog E 10 28 (SPost E [] (aI r)) [.code (C_57 116),.inLoop (C_57 116),.inBlock 0,.code (C_57 15)] ⟨[(1,(aI most)),(2,(.op 0 0 0)),(5,(aI n)),(6,(aI i))],[(0,vO 5 (TPn.cells p))],1⟩:=by
 induction fuel with
 | zero=>intro _ _ r h;rw [g_r05_States_L1.eq_1] at h;cases h
 | succ fuel ih =>
  intro n i r h E hE
  rw [g_r05_States_L1.eq_2] at h
  refine sA 2 [.code (C_57 464),.code (C_57 465),.code (C_57 233),.inLoop (C_57 116),.inBlock 0,.code (C_57 15)] ?_
  refine sR hE ⟨[(1,(aI most)),(2,(.op 0 0 0)),(5,(aI n)),(6,(aI i)),(11,(aB (decide (i < ((p.fTk.length:Nat):Int)))))],[(0,vO 5 (TPn.cells p))],81⟩ (C_57 464) [] [] (kp [1,2,5,6,11]) (kq [0]) 81 [0 < 1] ⟨o1,trivial⟩ ?_
  refine sC 11 (C_57 930) (C_57 931) (decide (i < ((p.fTk.length:Nat):Int))) (fun hq2=>?_) (fun hq2=>?_)
  ·have h:=condT h hq2
   refine sA 4 [.code (C_57 1864),.code (C_57 1865),.inBlock 1,.code (C_57 467),.inLoop (C_57 116),.inBlock 0,.code (C_57 15)] ?_
   obtain ⟨c,h⟩:=ifSome h
   refine sR hE ⟨[(1,(aI most)),(2,(.op 0 0 0)),(5,(aI (w64 (n * (w64 ((p.fTk.getD ((i).toNat) TTank.d).f_Steps+1)))))),(6,(aI i))],[(0,vO 5 (TPn.cells p))],241⟩ (C_57 1864) [] [] (kp [1,2,5,6]) (kq [0]) 241 [0 < 1,0≤i∧i < ((p.fTk.length:Nat):Int)] ⟨o1,c,trivial⟩ ?_
   refine sA 1 [.code (C_57 3730),.code (C_57 3731),.inBlock 1,.code (C_57 467),.inLoop (C_57 116),.inBlock 0,.code (C_57 15)] ?_
   refine sR hE ⟨[(1,(aI most)),(2,(.op 0 0 0)),(5,(aI (w64 (n * (w64 ((p.fTk.getD ((i).toNat) TTank.d).f_Steps+1)))))),(6,(aI i)),(25,(aB (decide ((w64 (n * (w64 ((p.fTk.getD ((i).toNat) TTank.d).f_Steps+1)))) > most))))],[(0,vO 5 (TPn.cells p))],289⟩ (C_57 3730) [] [] (kp [1,2,5,6,25]) (kq [0]) 289 [] trivial ?_
   refine sC 25 (C_57 7462) (C_57 7463) (decide ((w64 (n * (w64 ((p.fTk.getD ((i).toNat) TTank.d).f_Steps+1)))) > most)) (fun hq3=>?_) (fun hq3=>?_)
   ·have h:=condT h hq3
    refine sA 1 [.code (C_57 14924),.code (C_57 14925),.inBlock 1,.code (C_57 467),.inLoop (C_57 116),.inBlock 0,.code (C_57 15)] ?_
    refine sR hE ⟨[(4,(aI (w64 (n * (w64 ((p.fTk.getD ((i).toNat) TTank.d).f_Steps+1))))))],[],321⟩ (C_57 14924) [] [] (kp [4]) [] 321 [] trivial ?_
    obtain rfl:=Option.some.inj h
    refine sW hE ⟨[(4,(aI (w64 (n * (w64 ((p.fTk.getD ((i).toNat) TTank.d).f_Steps+1))))))],[],321⟩ [] (kp [4]) [] 321 [] trivial ?_
    exact sT Tryz.f10 [] [] trivial
   ·have h:=condF h hq3
    refine sA 2 [.code (C_57 467),.inLoop (C_57 116),.inBlock 0,.code (C_57 15)] ?_
    refine sR hE ⟨[(1,(aI most)),(2,(.op 0 0 0)),(5,(aI (w64 (n * (w64 ((p.fTk.getD ((i).toNat) TTank.d).f_Steps+1)))))),(6,(aI (w64 (i+1))))],[(0,vO 5 (TPn.cells p))],337⟩ (C_57 467) [] [] (kp [1,2,5,6]) (kq [0]) 337 [] trivial ?_
    refine sA 1 [.code (C_57 116),.inLoop (C_57 116),.inBlock 0,.code (C_57 15)] ?_
    exact sW hE _ [] (kp [1,2,5,6]) (kq [0]) 1 [] trivial (ih (w64 (n * (w64 ((p.fTk.getD ((i).toNat) TTank.d).f_Steps+1)))) (w64 (i+1)) _ h E hE)
  ·have h:=condF h hq2
   refine sA 2 [.code (C_57 30),.code (C_57 31)] ?_
   refine sR hE ⟨[(4,(aI n))],[],113⟩ (C_57 30) [] [] (kp [4]) [] 113 [] trivial ?_
   obtain rfl:=Option.some.inj h
   refine sW hE ⟨[(4,(aI n))],[],113⟩ [] (kp [4]) [] 113 [] trivial ?_
   exact sT Tryz.f10 [] [] trivial
theorem g_r05_States_ok (N:Nat) (p:TPn) (most:Int) (r:Int) (h:g_r05_States N p most=some r):Sd 10 [(.agg (TPn.cells p)),(aI most)] [] 0 (aI r) []:=by
 unfold g_r05_States at h
 refine Sound.of_runs (fu:=Tryz.f10) (c:=C_57 1) (nt:=28) (by kernel_rfl) (by kernel_rfl) (by kernel_rfl) (by kernel_rfl) (fun hm=>rfl) ?_
 intro E hE
 refine sA 1 [.code (C_57 2),.code (C_57 3)] ?_
 refine sR hE ⟨[(1,(aI most)),(2,(.op 0 0 0))],[(0,vO 5 (TPn.cells p))],32⟩ (C_57 2) [] [] (kp [1,2]) (kq [0]) 32 [] trivial ?_
 refine sA 1 [.code (C_57 6),.code (C_57 7)] ?_
 refine sR hE ⟨[(1,(aI most)),(2,(.op 0 0 0)),(5,(aI 1))],[(0,vO 5 (TPn.cells p))],48⟩ (C_57 6) [] [] (kp [1,2,5]) (kq [0]) 48 [] trivial ?_
 refine sA 2 [.code (C_57 28),.code (C_57 29),.code (C_57 15)] ?_
 refine sR hE ⟨[(1,(aI most)),(2,(.op 0 0 0)),(5,(aI 1)),(6,(aI 0))],[(0,vO 5 (TPn.cells p))],64⟩ (C_57 28) [] [] (kp [1,2,5,6]) (kq [0]) 64 [] trivial ?_
 refine sA 2 [.code (C_57 116),.inLoop (C_57 116),.inBlock 0,.code (C_57 15)] ?_
 exact sW hE _ [] (kp [1,2,5,6]) (kq [0]) 1 [] trivial (g_r05_States_L1_ok N p most N 1 0 _ h E hE)
noncomputable def C_52 (n:Nat):Code:=cat (bodyOf Tryz.f6) (pth n)
theorem g_w05_light_J1_ok (N:Nat) (n:Int) (r:Bool) (h:g_w05_light_J1 N n=some r):∀ E,EnvOk E 0→Runs Tryz.prog E 6 18 (SPost E [] (aB r)) [.code (C_52 62),.code (C_52 63)] ⟨[(3,(aI n))],[],0⟩:=by
 intro E hE
 unfold g_w05_light_J1 at h
 refine sR hE ⟨[(2,(aB (cond (decide (n≤60)) true (decide (n > 20000)))))],[],112⟩ (C_52 62) [] [] (kp [2]) [] 112 [(!(decide (n≤60)))=true→AllP [(!(decide (n≤60)))=true],(!(decide (n≤60)))=true→AllP [(!(decide (n≤60)))=true]] ⟨(fun hg=>⟨hg,trivial⟩),(fun hq=>⟨hq,trivial⟩),trivial⟩ ?_
 obtain rfl:=Option.some.inj h
 refine sW hE ⟨[(2,(aB (cond (decide (n≤60)) true (decide (n > 20000)))))],[],112⟩ [] (kp [2]) [] 112 [] trivial ?_
 exact sT Tryz.f6 [] [] trivial
theorem g_w05_light_ok (N:Nat) (p:TPn) (r:Bool) (h:g_w05_light N p=some r):Sd 6 [(.agg (TPn.cells p))] [] 0 (aB r) []:=by
 unfold g_w05_light at h
 refine Sound.of_runs (fu:=Tryz.f6) (c:=C_52 1) (nt:=18) (by kernel_rfl) (by kernel_rfl) (by kernel_rfl) (by kernel_rfl) (fun hm=>rfl) ?_
 intro E hE
 refine sA 1 [.code (C_52 2),.code (C_52 3)] ?_
 refine sR hE ⟨[(1,(.op 0 0 0))],[(0,vO 5 (TPn.cells p))],32⟩ (C_52 2) [] [] (kp [1]) (kq [0]) 32 [] trivial ?_
 refine sA 2 [.code (C_52 12),.code (C_52 13),.code (C_52 7)] ?_
 obtain ⟨rfewMasses,hr,h⟩:=bindSome h
 refine sR hE ⟨[(1,(.op 0 0 0)),(6,(aB (!rfewMasses)))],[(0,vO 5 (TPn.cells p))],80⟩ (C_52 12) [(1,⟨[],true,(aB rfewMasses),[],0,false,none⟩)] [] (kp [1,6]) (kq [0]) 80 [0 < 1,Sd 20 [(.agg (TPn.cells p))] [] 0 (aB rfewMasses) []] ⟨o1,(g_w05_fewMasses_ok N p rfewMasses hr),trivial⟩ ?_
 refine sC 6 (C_52 26) (C_52 27) (!rfewMasses) (fun hq2=>?_) (fun hq2=>?_)
 ·have h:=condT h hq2
  refine sA 1 [.code (C_52 52),.code (C_52 53),.code (C_52 7)] ?_
  refine sR hE ⟨[(2,(aB false))],[],96⟩ (C_52 52) [] [] (kp [2]) [] 96 [] trivial ?_
  obtain rfl:=Option.some.inj h
  refine sW hE ⟨[(2,(aB false))],[],96⟩ [] (kp [2]) [] 96 [] trivial ?_
  exact sT Tryz.f6 [] [] trivial
 ·have h:=condF h hq2
  refine sA 2 [.code (C_52 14),.code (C_52 15)] ?_
  refine sR hE ⟨[(1,(.op 0 0 0)),(3,(aI 0))],[(0,vO 5 (TPn.cells p))],96⟩ (C_52 14) [] [] (kp [1,3]) (kq [0]) 96 [] trivial ?_
  refine sA 2 [.code (C_52 60),.code (C_52 61),.code (C_52 31)] ?_
  obtain ⟨rCP,hr2,h⟩:=bindSome h
  refine sR hE ⟨[(1,(.op 0 0 0)),(3,(aI 0)),(9,(aB (rCP == 0)))],[(0,vO 5 (TPn.cells p))],144⟩ (C_52 60) [(1,⟨[],true,(aI rCP),[],0,false,none⟩)] [] (kp [1,3,9]) (kq [0]) 144 [0 < 1,Sd 8 [(.agg (TPn.cells p))] [] 0 (aI rCP) []] ⟨o1,(g_r05_CheckPontoon_ok N p rCP hr2),trivial⟩ ?_
  refine sC 9 (C_52 122) (C_52 123) (rCP == 0) (fun hq3=>?_) (fun hq3=>?_)
  ·have h:=condT h hq3
   obtain ⟨rStates,hr3,h⟩:=bindSome h
   refine sR hE ⟨[(3,(aI rStates))],[],192⟩ (C_52 122) [(1,⟨[],true,(aI rStates),[],0,false,none⟩)] [] (kp [3]) [] 192 [0 < 1,Sd 10 [(.agg (TPn.cells p)),(aI 20000)] [] 0 (aI rStates) []] ⟨o1,(g_r05_States_ok N p 20000 rStates hr3),trivial⟩ ?_
   refine sA 1 [.code (C_52 62),.code (C_52 63)] ?_
   exact sW hE _ [] (kp [3]) [] 0 [] trivial (g_w05_light_J1_ok N rStates _ h E hE)
  ·have h:=condF h hq3
   refine sA 2 [.code (C_52 62),.code (C_52 63)] ?_
   exact sW hE _ [] (kp [3]) [] 0 [] trivial (g_w05_light_J1_ok N 0 _ h E hE)
noncomputable def C_59 (n:Nat):Code:=cat (bodyOf Tryz.f22) (pth n)
theorem g_w_checkLimits_ok (N:Nat) (l:TLimits) (r:Int) (h:g_w_checkLimits N l=some r):Sd 22 [(.agg (TLimits.cells l))] [] 0 (aI r) []:=by
 unfold g_w_checkLimits at h
 refine Sound.of_runs (fu:=Tryz.f22) (c:=C_59 1) (nt:=31) (by kernel_rfl) (by kernel_rfl) (by kernel_rfl) (by kernel_rfl) (fun hm=>rfl) ?_
 intro E hE
 refine sA 1 [.code (C_59 2),.code (C_59 3)] ?_
 refine sR hE ⟨[(1,(.op 0 0 0))],[(0,vO 5 (TLimits.cells l))],32⟩ (C_59 2) [] [] (kp [1]) (kq [0]) 32 [] trivial ?_
 refine sA 2 [.code (C_59 12),.code (C_59 13),.code (C_59 7)] ?_
 obtain ⟨rBt,hr,h⟩:=bindSome h
 obtain ⟨rBt2,hr2,h⟩:=bindSome h
 obtain ⟨rBt3,hr3,h⟩:=bindSome h
 obtain ⟨rBt4,hr4,h⟩:=bindSome h
 obtain ⟨rBt5,hr5,h⟩:=bindSome h
 refine sR hE ⟨[(30,(aB (cond (cond (cond (cond (!rBt) true (!rBt2)) true (!rBt3)) true (!rBt4)) true (!rBt5))))],[],480⟩ (C_59 12) [(2,⟨[],true,(aB rBt),[],0,false,none⟩),(7,⟨[],true,(aB rBt2),[],0,false,none⟩),(13,⟨[],true,(aB rBt3),[],0,false,none⟩),(19,⟨[],true,(aB rBt4),[],0,false,none⟩),(25,⟨[],true,(aB rBt5),[],0,false,none⟩)] [] (kp [30]) [] 480 [0 < 1,Sd 52 [(aI l.f_DraughtLeast),(aI 0),(aI 1000000)] [] 0 (aB rBt) [],(!(!rBt))=true→AllP [(!(!rBt))=true,0 < 1],(!(!rBt))=true→AllP [Sd 52 [(aI l.f_DraughtMost),(aI 0),(aI 1000000)] [] 0 (aB rBt2) [],(!(!rBt))=true],(!(!rBt))=true→AllP [(!(!rBt))=true],(!(!rBt))=true→AllP [(!(!rBt))=true],(!(cond (!rBt) true (!rBt2)))=true→AllP [(!(cond (!rBt) true (!rBt2)))=true,0 < 1],(!(cond (!rBt) true (!rBt2)))=true→AllP [Sd 52 [(aI l.f_TrimMost),(aI 0),(aI 1000)] [] 0 (aB rBt3) [],(!(cond (!rBt) true (!rBt2)))=true],(!(cond (!rBt) true (!rBt2)))=true→AllP [(!(cond (!rBt) true (!rBt2)))=true],(!(cond (!rBt) true (!rBt2)))=true→AllP [(!(cond (!rBt) true (!rBt2)))=true],(!(cond (cond (!rBt) true (!rBt2)) true (!rBt3)))=true→AllP [(!(cond (cond (!rBt) true (!rBt2)) true (!rBt3)))=true,0 < 1],(!(cond (cond (!rBt) true (!rBt2)) true (!rBt3)))=true→AllP [Sd 52 [(aI l.f_HeelMost),(aI 0),(aI 1000)] [] 0 (aB rBt4) [],(!(cond (cond (!rBt) true (!rBt2)) true (!rBt3)))=true],(!(cond (cond (!rBt) true (!rBt2)) true (!rBt3)))=true→AllP [(!(cond (cond (!rBt) true (!rBt2)) true (!rBt3)))=true],(!(cond (cond (!rBt) true (!rBt2)) true (!rBt3)))=true→AllP [(!(cond (cond (!rBt) true (!rBt2)) true (!rBt3)))=true],(!(cond (cond (cond (!rBt) true (!rBt2)) true (!rBt3)) true (!rBt4)))=true→AllP [(!(cond (cond (cond (!rBt) true (!rBt2)) true (!rBt3)) true (!rBt4)))=true,0 < 1],(!(cond (cond (cond (!rBt) true (!rBt2)) true (!rBt3)) true (!rBt4)))=true→AllP [Sd 52 [(aI l.f_HogMost),(aI 0),(aI 1000000000000000000)] [] 0 (aB rBt5) [],(!(cond (cond (cond (!rBt) true (!rBt2)) true (!rBt3)) true (!rBt4)))=true],(!(cond (cond (cond (!rBt) true (!rBt2)) true (!rBt3)) true (!rBt4)))=true→AllP [(!(cond (cond (cond (!rBt) true (!rBt2)) true (!rBt3)) true (!rBt4)))=true],(!(cond (cond (cond (!rBt) true (!rBt2)) true (!rBt3)) true (!rBt4)))=true→AllP [(!(cond (cond (cond (!rBt) true (!rBt2)) true (!rBt3)) true (!rBt4)))=true]] ⟨o1,(g_w_between_ok N l.f_DraughtLeast 0 1000000 rBt hr),(fun hg=>⟨hg,o1,trivial⟩),(fun hg=>⟨(g_w_between_ok N l.f_DraughtMost 0 1000000 rBt2 (condT hr2 hg)),hg,trivial⟩),(fun hg=>⟨hg,trivial⟩),(fun hq=>⟨hq,trivial⟩),(fun hg=>⟨hg,o1,trivial⟩),(fun hg=>⟨(g_w_between_ok N l.f_TrimMost 0 1000 rBt3 (condT hr3 hg)),hg,trivial⟩),(fun hg=>⟨hg,trivial⟩),(fun hq=>⟨hq,trivial⟩),(fun hg=>⟨hg,o1,trivial⟩),(fun hg=>⟨(g_w_between_ok N l.f_HeelMost 0 1000 rBt4 (condT hr4 hg)),hg,trivial⟩),(fun hg=>⟨hg,trivial⟩),(fun hq=>⟨hq,trivial⟩),(fun hg=>⟨hg,o1,trivial⟩),(fun hg=>⟨(g_w_between_ok N l.f_HogMost 0 1000000000000000000 rBt5 (condT hr5 hg)),hg,trivial⟩),(fun hg=>⟨hg,trivial⟩),(fun hq=>⟨hq,trivial⟩),trivial⟩ ?_
 refine sC 30 (C_59 26) (C_59 27) (cond (cond (cond (cond (!rBt) true (!rBt2)) true (!rBt3)) true (!rBt4)) true (!rBt5)) (fun hq2=>?_) (fun hq2=>?_)
 ·have h:=condT h hq2
  refine sA 1 [.code (C_59 52),.code (C_59 53),.code (C_59 7)] ?_
  refine sR hE ⟨[(2,(aI 2))],[],496⟩ (C_59 52) [] [] (kp [2]) [] 496 [] trivial ?_
  obtain rfl:=Option.some.inj h
  refine sW hE ⟨[(2,(aI 2))],[],496⟩ [] (kp [2]) [] 496 [] trivial ?_
  exact sT Tryz.f22 [] [] trivial
 ·have h:=condF h hq2
  refine sA 2 [.code (C_59 14),.code (C_59 15)] ?_
  refine sR hE ⟨[(2,(aI 0))],[],496⟩ (C_59 14) [] [] (kp [2]) [] 496 [] trivial ?_
  obtain rfl:=Option.some.inj h
  refine sW hE ⟨[(2,(aI 0))],[],496⟩ [] (kp [2]) [] 496 [] trivial ?_
  exact sT Tryz.f22 [] [] trivial
noncomputable def C_60 (n:Nat):Code:=cat (bodyOf Tryz.f23) (pth n)
theorem g_w_many_L1_ok (N:Nat) (p:TPn) (fuel:Nat):∀ (n:Int) (x:Int) (r:Int),g_w_many_L1 N p fuel n x=some r→∀ E,EnvOk E 0→Runs Tryz.prog E 23 20 (SPost E [] (aI r)) [.code (C_60 116),.inLoop (C_60 116),.inBlock 0,.code (C_60 15)] ⟨[(3,(aI n)),(7,(encL TTank.cells TTank.d p.fTk)),(8,(aI ((p.fTk.length:Nat):Int))),(9,(aI x))],[],0⟩:=by
 induction fuel with
 | zero=>intro _ _ r h;rw [g_w_many_L1.eq_1] at h;cases h
 | succ fuel ih =>
  intro n x r h E hE
  rw [g_w_many_L1.eq_2] at h
  refine sA 1 [.code (C_60 232),.code (C_60 233),.inLoop (C_60 116),.inBlock 0,.code (C_60 15)] ?_
  refine sR hE ⟨[(3,(aI n)),(7,(encL TTank.cells TTank.d p.fTk)),(8,(aI ((p.fTk.length:Nat):Int))),(9,(aI x)),(10,(aB (decide (x < ((p.fTk.length:Nat):Int)))))],[],16⟩ (C_60 232) [] [] (kp [3,7,8,9,10]) [] 16 [] trivial ?_
  refine sA 1 [.code (C_60 466),.code (C_60 467),.inLoop (C_60 116),.inBlock 0,.code (C_60 15)] ?_
  refine sC 10 (C_60 932) (C_60 933) (decide (x < ((p.fTk.length:Nat):Int))) (fun hq2=>?_) (fun hq2=>?_)
  ·have h:=condT h hq2
   refine sA 4 [.code (C_60 3736),.code (C_60 3737),.inBlock 1,.code (C_60 935),.inLoop (C_60 116),.inBlock 0,.code (C_60 15)] ?_
   obtain ⟨c,h⟩:=ifSome h
   refine sR hE ⟨[(3,(aI n)),(5,(.op 48 0 0)),(7,(encL TTank.cells TTank.d p.fTk)),(8,(aI ((p.fTk.length:Nat):Int))),(9,(aI x))],[(48,vO 5 (TTank.cells (p.fTk.getD ((x).toNat) TTank.d)))],80⟩ (C_60 3736) [] [] (kp [3,5,7,8,9]) (kq [48]) 80 [0≤x∧x < ((p.fTk.length:Nat):Int),0 < 1] ⟨c,o1,trivial⟩ ?_
   refine sR hE ⟨[(3,(aI (w64 (n * (w64 ((p.fTk.getD ((x).toNat) TTank.d).f_Steps+1)))))),(7,(encL TTank.cells TTank.d p.fTk)),(8,(aI ((p.fTk.length:Nat):Int))),(9,(aI x))],[],176⟩ (C_60 3737) [] [] (kp [3,7,8,9]) [] 176 [0 < 1] ⟨o1,trivial⟩ ?_
   refine sA 1 [.code (C_60 935),.inLoop (C_60 116),.inBlock 0,.code (C_60 15)] ?_
   refine sR hE ⟨[(3,(aI (w64 (n * (w64 ((p.fTk.getD ((x).toNat) TTank.d).f_Steps+1)))))),(7,(encL TTank.cells TTank.d p.fTk)),(8,(aI ((p.fTk.length:Nat):Int))),(9,(aI (w64 (x+1))))],[],208⟩ (C_60 935) [] [] (kp [3,7,8,9]) [] 208 [] trivial ?_
   refine sA 1 [.code (C_60 116),.inLoop (C_60 116),.inBlock 0,.code (C_60 15)] ?_
   exact sW hE _ [] (kp [3,7,8,9]) [] 0 [] trivial (ih (w64 (n * (w64 ((p.fTk.getD ((x).toNat) TTank.d).f_Steps+1)))) (w64 (x+1)) _ h E hE)
  ·have h:=condF h hq2
   refine sA 2 [.code (C_60 30),.code (C_60 31)] ?_
   refine sR hE ⟨[(2,(aI n))],[],48⟩ (C_60 30) [] [] (kp [2]) [] 48 [] trivial ?_
   obtain rfl:=Option.some.inj h
   refine sW hE ⟨[(2,(aI n))],[],48⟩ [] (kp [2]) [] 48 [] trivial ?_
   exact sT Tryz.f23 [] [] trivial
theorem g_w_many_ok (N:Nat) (p:TPn) (r:Int) (h:g_w_many N p=some r):Sd 23 [(.agg (TPn.cells p))] [] 0 (aI r) []:=by
 unfold g_w_many at h
 refine Sound.of_runs (fu:=Tryz.f23) (c:=C_60 1) (nt:=20) (by kernel_rfl) (by kernel_rfl) (by kernel_rfl) (by kernel_rfl) (fun hm=>rfl) ?_
 intro E hE
 refine sA 1 [.code (C_60 2),.code (C_60 3)] ?_
 refine sR hE ⟨[(1,(.op 0 0 0))],[(0,vO 5 (TPn.cells p))],32⟩ (C_60 2) [] [] (kp [1]) (kq [0]) 32 [] trivial ?_
 refine sA 1 [.code (C_60 6),.code (C_60 7)] ?_
 refine sR hE ⟨[(1,(.op 0 0 0)),(3,(aI 1))],[(0,vO 5 (TPn.cells p))],48⟩ (C_60 6) [] [] (kp [1,3]) (kq [0]) 48 [] trivial ?_
 refine sA 2 [.code (C_60 28),.code (C_60 29),.code (C_60 15)] ?_
 refine sR hE ⟨[(3,(aI 1)),(7,(encL TTank.cells TTank.d p.fTk)),(8,(aI ((p.fTk.length:Nat):Int))),(9,(aI 0))],[],112⟩ (C_60 28) [] [] (kp [3,7,8,9]) [] 112 [0 < 1] ⟨o1,trivial⟩ ?_
 refine sA 2 [.code (C_60 116),.inLoop (C_60 116),.inBlock 0,.code (C_60 15)] ?_
 exact sW hE _ [] (kp [3,7,8,9]) [] 0 [] trivial (g_w_many_L1_ok N p N 1 0 _ h E hE)
noncomputable def C_63 (n:Nat):Code:=cat (bodyOf Tryz.f74) (pth n)
theorem g_w_draughts_1_ok (N:Nat) (d:Int) (cap0:TPn) (r:TRat) (h:g_w_draughts_1 N d cap0=some r):Sd 74 [(aI d),(.op 0 0 0)] [(0,vO 5 (TPn.cells cap0))] 1 (.agg [(aB r.fN.fG),(.os 1 0 r.fN.fL.length),(aB r.fD.fG),(.os 2 0 r.fD.fL.length)]) [(0,vO 5 (TPn.cells cap0)),(1,aU r.fN.fL),(2,aU r.fD.fL)]:=by
 unfold g_w_draughts_1 at h
 refine Sound.of_runs (fu:=Tryz.f74) (c:=C_63 1) (nt:=16) (by kernel_rfl) (by kernel_rfl) (by kernel_rfl) (by kernel_rfl) (fun hm=>absurd hm (by decide)) ?_
 intro E hE
 refine sA 1 [.code (C_63 2),.code (C_63 3)] ?_
 refine sR hE ⟨[(0,(aI d)),(1,(.op 0 0 0)),(3,(.op 1 0 0))],[(0,vO 5 (TPn.cells cap0)),(1,vO 4 [(aB false),.nil,(aB false),.nil])],17⟩ (C_63 2) [] [] (kp [0,1,3]) (kq [0,1]) 17 [] trivial ?_
 refine sA 1 [.code (C_63 6),.code (C_63 7)] ?_
 obtain ⟨rproduct,hr,h⟩:=bindSome h
 obtain ⟨rproduct2,hr2,h⟩:=bindSome h
 obtain ⟨rquotient,hr3,h⟩:=bindSome h
 refine sR hE ⟨[(3,(.op 1 0 0))],[(0,vO 5 (TPn.cells cap0)),(1,vN 4 [(aB rquotient.fN.fG),(.os 193 0 rquotient.fN.fL.length),(aB rquotient.fD.fG),(.os 194 0 rquotient.fD.fL.length)]),(193,aU rquotient.fN.fL),(194,aU rquotient.fD.fL)],225⟩ (C_63 6) [(8,⟨[],false,(.agg [(aB rproduct.fN.fG),(.os 0 0 rproduct.fN.fL.length),(aB rproduct.fD.fG),(.os 1 0 rproduct.fD.fL.length)]),[(0,aU rproduct.fN.fL),(1,aU rproduct.fD.fL)],0,false,none⟩),(10,⟨[],false,(.agg [(aB rproduct2.fN.fG),(.os 0 0 rproduct2.fN.fL.length),(aB rproduct2.fD.fG),(.os 1 0 rproduct2.fD.fL.length)]),[(0,aU rproduct2.fN.fL),(1,aU rproduct2.fD.fL)],0,false,none⟩),(11,⟨[],false,(.agg [(aB rquotient.fN.fG),(.os 0 0 rquotient.fN.fL.length),(aB rquotient.fD.fG),(.os 1 0 rquotient.fD.fL.length)]),[(0,aU rquotient.fN.fL),(1,aU rquotient.fD.fL)],0,false,none⟩)] [] (kp [3]) (kq [0,1,193,194]) 225 [0 < 1,0 < 1,0 < 1,Sd 47 [(.sl 4 (fun zi=>(fun zi=>([[(aI d)],[(aI cap0.fDsity)],[(aI cap0.fLn)],[(aI cap0.fBr)]]:List (List AV)).getD zi []) (addz 0 zi)))] [] 0 (.agg [(aB rproduct.fN.fG),(.os 0 0 rproduct.fN.fL.length),(aB rproduct.fD.fG),(.os 1 0 rproduct.fD.fL.length)]) [(0,aU rproduct.fN.fL),(1,aU rproduct.fD.fL)],∀ zi,zi < rproduct.fN.fL.length→AV.flatL ((cU .u16) (rproduct.fN.fL.getD zi 0))=true,∀ zi,zi < rproduct.fD.fL.length→AV.flatL ((cU .u16) (rproduct.fD.fL.getD zi 0))=true,0+4≤4,Sd 47 [(.sl 1 (fun zi=>(fun zi=>([[(aI 1000000000)]]:List (List AV)).getD zi []) (addz 0 zi)))] [] 0 (.agg [(aB rproduct2.fN.fG),(.os 0 0 rproduct2.fN.fL.length),(aB rproduct2.fD.fG),(.os 1 0 rproduct2.fD.fL.length)]) [(0,aU rproduct2.fN.fL),(1,aU rproduct2.fD.fL)],∀ zi,zi < rproduct2.fN.fL.length→AV.flatL ((cU .u16) (rproduct2.fN.fL.getD zi 0))=true,∀ zi,zi < rproduct2.fD.fL.length→AV.flatL ((cU .u16) (rproduct2.fD.fL.getD zi 0))=true,0+1≤1,Sd 46 [(.agg [(aB rproduct.fN.fG),(eU rproduct.fN.fL),(aB rproduct.fD.fG),(eU rproduct.fD.fL)]),(.agg [(aB rproduct2.fN.fG),(eU rproduct2.fN.fL),(aB rproduct2.fD.fG),(eU rproduct2.fD.fL)])] [] 0 (.agg [(aB rquotient.fN.fG),(.os 0 0 rquotient.fN.fL.length),(aB rquotient.fD.fG),(.os 1 0 rquotient.fD.fL.length)]) [(0,aU rquotient.fN.fL),(1,aU rquotient.fD.fL)],∀ zi,zi < rquotient.fN.fL.length→AV.flatL ((cU .u16) (rquotient.fN.fL.getD zi 0))=true,∀ zi,zi < rquotient.fD.fL.length→AV.flatL ((cU .u16) (rquotient.fD.fL.getD zi 0))=true,0+rproduct.fN.fL.length≤rproduct.fN.fL.length,0+rproduct.fD.fL.length≤rproduct.fD.fL.length,0+rproduct2.fN.fL.length≤rproduct2.fN.fL.length,0+rproduct2.fD.fL.length≤rproduct2.fD.fL.length,0 < 1] ⟨o1,o1,o1,(Sound.conv (g_w_product_ok N ([d,cap0.fDsity,cap0.fLn,cap0.fBr]:List Int) rproduct hr) (.cons (Alike.sl rfl (fun zq hzq=>get_chunk cI 0 ([d,cap0.fDsity,cap0.fLn,cap0.fBr]:List Int) zq hzq)) .nil)),(fun _ _=>rfl),(fun _ _=>rfl),z0,(Sound.conv (g_w_product_ok N ([1000000000]:List Int) rproduct2 hr2) (.cons (Alike.sl rfl (fun zq hzq=>get_chunk cI 0 ([1000000000]:List Int) zq hzq)) .nil)),(fun _ _=>rfl),(fun _ _=>rfl),z0,(g_w_quotient_ok N (⟨rproduct.fN,rproduct.fD⟩:TRat) (⟨rproduct2.fN,rproduct2.fD⟩:TRat) rquotient hr3),(fun _ _=>rfl),(fun _ _=>rfl),z0,z0,z0,z0,o1,trivial⟩ ?_
 obtain rfl:=Option.some.inj h
 refine sW hE ⟨[(3,(.op 17 0 0))],[(0,vO 5 (TPn.cells cap0)),(1,aU rquotient.fN.fL),(2,aU rquotient.fD.fL),(17,vN 4 [(aB rquotient.fN.fG),(.os 1 0 rquotient.fN.fL.length),(aB rquotient.fD.fG),(.os 2 0 rquotient.fD.fL.length)])],225⟩ [] (kp [3]) (kq [0] ++ [(1,.keep 193),(2,.keep 194),(17,.var 1 [.keep,.keep,.keep,.keep])]) 225 [] trivial ?_
 exact sT Tryz.f74 [17] [0 < 1] ⟨o1,trivial⟩
noncomputable def C_66 (n:Nat):Code:=cat (bodyOf Tryz.f102) (pth n)
theorem g_e_DivMod_J1_ok (N:Nat) (a:TInt) (b:TInt) (n:List Int) (rest:List Int) (r:TInt×TInt×Int) (h:g_e_DivMod_J1 N a b n rest=some r):∀ E,EnvOk E 0→Runs Tryz.prog E 102 50 (SPost E [] (.tup [(.agg (TInt.cells r.1)),(.agg (TInt.cells r.2.1)),(aI r.2.2)])) [.code (C_66 126),.code (C_66 127)] ⟨[(2,(.op 0 0 0)),(3,(.op 1 0 0)),(4,(.op 2 0 0)),(5,(.op 3 0 0)),(9,(eU n)),(10,(eU rest))],[(0,vO 2 (TInt.cells a)),(1,vO 2 (TInt.cells b)),(2,vO 2 [(aB false),.nil]),(3,vO 2 [(aB false),.nil])],4⟩:=by
 intro E hE
 unfold g_e_DivMod_J1 at h
 obtain ⟨rSg,hr6,h⟩:=bindSome h
 obtain ⟨rSg2,hr7,h⟩:=bindSome h
 refine sR hE ⟨[(4,(.op 2 0 0)),(5,(.op 3 0 0)),(6,(aI 0))],[(2,vN 2 [(aB rSg.fG),(.os 100 0 rSg.fL.length)]),(3,vN 2 [(aB rSg2.fG),(.os 132 0 rSg2.fL.length)]),(100,aU rSg.fL),(132,aU rSg2.fL)],196⟩ (C_66 126) [(6,⟨[],false,(.agg [(aB rSg.fG),(.os 0 0 rSg.fL.length)]),[(0,aU rSg.fL)],0,false,none⟩),(8,⟨[],false,(.agg [(aB rSg2.fG),(.os 0 0 rSg2.fL.length)]),[(0,aU rSg2.fL)],0,false,none⟩)] [] (kp [4,5,6]) (kq [2,3,100,132]) 196 [0 < 1,0 < 1,Sd 92 [(aB (!(a.fG == b.fG))),(eU n)] [] 0 (.agg [(aB rSg.fG),(.os 0 0 rSg.fL.length)]) [(0,aU rSg.fL)],Sd 92 [(aB false),(eU rest)] [] 0 (.agg [(aB rSg2.fG),(.os 0 0 rSg2.fL.length)]) [(0,aU rSg2.fL)],0 < 1,0 < 1] ⟨o1,o1,(g_e_signed_ok N (!(a.fG == b.fG)) n rSg hr6),(g_e_signed_ok N false rest rSg2 hr7),o1,o1,trivial⟩ ?_
 obtain rfl:=Option.some.inj h
 refine sW hE ⟨[(4,(.op 16 0 0)),(5,(.op 17 0 0)),(6,(aI 0))],[(16,vO 2 (TInt.cells rSg)),(17,vO 2 (TInt.cells rSg2))],196⟩ [100,132] (kp [4,5,6]) [(16,.var 2 [.keep,.sl (rSg.fL.length) (fun zi=>(cU .u16) (rSg.fL.getD zi 0))]),(17,.var 3 [.keep,.sl (rSg2.fL.length) (fun zi=>(cU .u16) (rSg2.fL.getD zi 0))])] 196 [rSg.fL.length=rSg.fL.length,0+rSg.fL.length≤rSg.fL.length,∀ zi,zi < rSg.fL.length→(fun zi=>(cU .u16) (rSg.fL.getD zi 0)) zi=(fun zi=>(cU .u16) (rSg.fL.getD zi 0)) (addz 0 zi),rSg2.fL.length=rSg2.fL.length,0+rSg2.fL.length≤rSg2.fL.length,∀ zi,zi < rSg2.fL.length→(fun zi=>(cU .u16) (rSg2.fL.getD zi 0)) zi=(fun zi=>(cU .u16) (rSg2.fL.getD zi 0)) (addz 0 zi)] ⟨rfl,z0,(fun _ _=>rfl),rfl,z0,(fun _ _=>rfl),trivial⟩ ?_
 exact sT Tryz.f102 [16,17] [0 < 1,0 < 1] ⟨o1,o1,trivial⟩
theorem g_e_DivMod_ok (N:Nat) (a:TInt) (b:TInt) (r:TInt×TInt×Int) (h:g_e_DivMod N a b=some r):Sd 102 [(.agg (TInt.cells a)),(.agg (TInt.cells b))] [] 0 (.tup [(.agg (TInt.cells r.1)),(.agg (TInt.cells r.2.1)),(aI r.2.2)]) []:=by
 unfold g_e_DivMod at h
 refine Sound.of_runs (fu:=Tryz.f102) (c:=C_66 1) (nt:=50) (by kernel_rfl) (by kernel_rfl) (by kernel_rfl) (by kernel_rfl) (fun hm=>rfl) ?_
 intro E hE
 refine sA 1 [.code (C_66 2),.code (C_66 3)] ?_
 refine sR hE ⟨[(2,(.op 0 0 0)),(3,(.op 16 0 0)),(4,(.op 32 0 0)),(5,(.op 48 0 0))],[(0,vO 2 (TInt.cells a)),(16,vO 2 (TInt.cells b)),(32,vO 2 [(aB false),.nil]),(48,vO 2 [(aB false),.nil])],80⟩ (C_66 2) [] [] (kp [2,3,4,5]) (kq [0,16,32,48]) 80 [] trivial ?_
 refine sA 1 [.code (C_66 6),.code (C_66 7)] ?_
 obtain ⟨rtrim,hr,h⟩:=bindSome h
 obtain ⟨rtrim2,hr2,h⟩:=bindSome h
 refine sR hE ⟨[(2,(.op 0 0 0)),(3,(.op 16 0 0)),(4,(.op 32 0 0)),(5,(.op 48 0 0)),(7,(eU rtrim)),(8,(eU rtrim2))],[(0,vO 2 (TInt.cells a)),(16,vO 2 (TInt.cells b)),(32,vO 2 [(aB false),.nil]),(48,vO 2 [(aB false),.nil])],208⟩ (C_66 6) [(2,⟨[],true,(eU rtrim),[],0,false,none⟩),(5,⟨[],true,(eU rtrim2),[],0,false,none⟩)] [] (kp [2,3,4,5,7,8]) (kq [0,16,32,48]) 208 [0 < 1,Sd 101 [(eU a.fL)] [] 0 (eU rtrim) [],0 < 1,Sd 101 [(eU b.fL)] [] 0 (eU rtrim2) []] ⟨o1,(g_e_trim_ok N a.fL rtrim hr),o1,(g_e_trim_ok N b.fL rtrim2 hr2),trivial⟩ ?_
 refine sA 2 [.code (C_66 28),.code (C_66 29),.code (C_66 15)] ?_
 refine sR hE ⟨[(2,(.op 0 0 0)),(3,(.op 16 0 0)),(4,(.op 32 0 0)),(5,(.op 48 0 0)),(7,(eU rtrim)),(8,(eU rtrim2)),(19,(aB (((rtrim2.length:Nat):Int) == 0)))],[(0,vO 2 (TInt.cells a)),(16,vO 2 (TInt.cells b)),(32,vO 2 [(aB false),.nil]),(48,vO 2 [(aB false),.nil])],256⟩ (C_66 28) [] [] (kp [2,3,4,5,7,8,19]) (kq [0,16,32,48]) 256 [] trivial ?_
 refine sC 19 (C_66 58) (C_66 59) (((rtrim2.length:Nat):Int) == 0) (fun hq2=>?_) (fun hq2=>?_)
 ·have h:=condT h hq2
  refine sA 1 [.code (C_66 116),.code (C_66 117),.code (C_66 15)] ?_
  refine sR hE ⟨[(4,(.op 32 0 0)),(5,(.op 48 0 0)),(6,(aI 9))],[(32,vO 2 [(aB false),.nil]),(48,vO 2 [(aB false),.nil])],336⟩ (C_66 116) [] [] (kp [4,5,6]) (kq [32,48]) 336 [0 < 1,0 < 1] ⟨o1,o1,trivial⟩ ?_
  obtain rfl:=Option.some.inj h
  refine sW hE ⟨[(4,(.op 16 0 0)),(5,(.op 17 0 0)),(6,(aI 9))],[(16,vO 2 [(aB false),(eU ([]:List Int))]),(17,vO 2 [(aB false),(eU ([]:List Int))])],336⟩ [] (kp [4,5,6]) [(16,.var 32 [.keep,.sl (([]:List Int).length) (fun zi=>(cU .u16) (([]:List Int).getD zi 0))]),(17,.var 48 [.keep,.sl (([]:List Int).length) (fun zi=>(cU .u16) (([]:List Int).getD zi 0))])] 336 [([]:List Int).length=0,([]:List Int).length=0] ⟨rfl,rfl,trivial⟩ ?_
  exact sT Tryz.f102 [16,17] [0 < 1,0 < 1] ⟨o1,o1,trivial⟩
 ·have h:=condF h hq2
  refine sA 2 [.code (C_66 30),.code (C_66 31)] ?_
  obtain ⟨rdivide,hr3,h⟩:=bindSome h
  refine sR hE ⟨[(2,(.op 0 0 0)),(3,(.op 16 0 0)),(4,(.op 32 0 0)),(5,(.op 48 0 0)),(8,(eU rtrim2)),(9,(eU rdivide.1)),(10,(eU rdivide.2))],[(0,vO 2 (TInt.cells a)),(16,vO 2 (TInt.cells b)),(32,vO 2 [(aB false),.nil]),(48,vO 2 [(aB false),.nil])],384⟩ (C_66 30) [(2,⟨[],true,(.tup [(eU rdivide.1),(eU rdivide.2)]),[],0,false,none⟩)] [] (kp [2,3,4,5,8,9,10]) (kq [0,16,32,48]) 384 [Sd 112 [(eU rtrim),(eU rtrim2)] [] 0 (.tup [(eU rdivide.1),(eU rdivide.2)]) []] ⟨(g_e_divide_ok N rtrim rtrim2 rdivide hr3),trivial⟩ ?_
  refine sA 2 [.code (C_66 124),.code (C_66 125),.code (C_66 63)] ?_
  refine sR hE ⟨[(2,(.op 0 0 0)),(3,(.op 16 0 0)),(4,(.op 32 0 0)),(5,(.op 48 0 0)),(8,(eU rtrim2)),(9,(eU rdivide.1)),(10,(eU rdivide.2)),(34,(aB (cond a.fG (decide (((rdivide.2.length:Nat):Int) > 0)) false)))],[(0,vO 2 (TInt.cells a)),(16,vO 2 (TInt.cells b)),(32,vO 2 [(aB false),.nil]),(48,vO 2 [(aB false),.nil])],496⟩ (C_66 124) [] [] (kp [2,3,4,5,8,9,10,34]) (kq [0,16,32,48]) 496 [0 < 1,a.fG=true→AllP [a.fG=true],a.fG=true→AllP [a.fG=true],a.fG=true→AllP [a.fG=true]] ⟨o1,(fun hg=>⟨hg,trivial⟩),(fun hg=>⟨hg,trivial⟩),(fun hq=>⟨hq,trivial⟩),trivial⟩ ?_
  refine sC 34 (C_66 250) (C_66 251) (cond a.fG (decide (((rdivide.2.length:Nat):Int) > 0)) false) (fun hq3=>?_) (fun hq3=>?_)
  ·have h:=condT h hq3
   obtain ⟨rplus,hr4,h⟩:=bindSome h
   obtain ⟨rminus,hr5,h⟩:=bindSome h
   refine sR hE ⟨[(2,(.op 0 0 0)),(3,(.op 16 0 0)),(4,(.op 32 0 0)),(5,(.op 48 0 0)),(9,(eU rplus)),(10,(eU rminus))],[(0,vO 2 (TInt.cells a)),(16,vO 2 (TInt.cells b)),(32,vO 2 [(aB false),.nil]),(48,vO 2 [(aB false),.nil])],624⟩ (C_66 250) [(2,⟨[],true,(eU rplus),[],0,true,none⟩),(5,⟨[],true,(eU rminus),[],0,false,none⟩)] [] (kp [2,3,4,5,9,10]) (kq [0,16,32,48]) 624 [Sd 115 [(eU rdivide.1),(.sl 1 (fun zi=>(fun zi=>([[(a16 1)]]:List (List AV)).getD zi []) (addz 0 zi)))] [] 0 (eU rplus) [],0+1≤1,Sd 117 [(eU rtrim2),(eU rdivide.2)] [] 0 (eU rminus) []] ⟨(Sound.conv (g_e_plus_ok N rdivide.1 ([1]:List Int) rplus hr4) (.cons (Alike.refl _) (.cons (Alike.sl rfl (fun zq hzq=>get_chunk (cU .u16) 0 ([1]:List Int) zq hzq)) .nil))),z0,(g_e_minus_ok N rtrim2 rdivide.2 rminus hr5),trivial⟩ ?_
   refine sA 1 [.code (C_66 126),.code (C_66 127)] ?_
   exact sW hE _ [] (kp [2,3,4,5,9,10]) (kq [0] ++ [(1,.keep 16),(2,.keep 32),(3,.keep 48)]) 4 [] trivial (g_e_DivMod_J1_ok N a b rplus rminus _ h E hE)
  ·have h:=condF h hq3
   refine sA 2 [.code (C_66 126),.code (C_66 127)] ?_
   exact sW hE _ [] (kp [2,3,4,5,9,10]) (kq [0] ++ [(1,.keep 16),(2,.keep 32),(3,.keep 48)]) 4 [] trivial (g_e_DivMod_J1_ok N a b rdivide.1 rdivide.2 _ h E hE)
noncomputable def C_65 (n:Nat):Code:=cat (bodyOf Tryz.f77) (pth n)
theorem g_e_Floor_ok (N:Nat) (x:TRat) (r:TInt) (h:g_e_Floor N x=some r):Sd 77 [(.agg (TRat.cells x))] [] 0 (.agg (TInt.cells r)) []:=by
 unfold g_e_Floor at h
 refine Sound.of_runs (fu:=Tryz.f77) (c:=C_65 1) (nt:=18) (by kernel_rfl) (by kernel_rfl) (by kernel_rfl) (by kernel_rfl) (fun hm=>rfl) ?_
 intro E hE
 refine sA 1 [.code (C_65 2),.code (C_65 3)] ?_
 refine sR hE ⟨[(1,(.op 0 0 0)),(2,(.op 16 0 0))],[(0,vO 4 (TRat.cells x)),(16,vO 2 [(aB false),.nil])],32⟩ (C_65 2) [] [] (kp [1,2]) (kq [0,16]) 32 [] trivial ?_
 refine sA 1 [.code (C_65 6),.code (C_65 7)] ?_
 obtain ⟨rlowest,hr,h⟩:=bindSome h
 refine sR hE ⟨[(1,(.op 0 0 0)),(2,(.op 16 0 0))],[(0,vO 4 (TRat.cells rlowest)),(16,vO 2 [(aB false),.nil])],80⟩ (C_65 6) [(1,⟨[],true,(.agg (TRat.cells rlowest)),[],0,false,none⟩)] [] (kp [1,2]) (kq [0,16]) 80 [0 < 1,Sd 96 [(.agg (TRat.cells x))] [] 0 (.agg (TRat.cells rlowest)) [],0 < 1] ⟨o1,(g_e_lowest_ok N x rlowest hr),o1,trivial⟩ ?_
 refine sA 1 [.code (C_65 14),.code (C_65 15)] ?_
 obtain ⟨rDivMod,hr2,h⟩:=bindSome h
 refine sR hE ⟨[(2,(.op 16 0 0)),(3,(.op 224 0 0))],[(16,vO 2 [(aB false),.nil]),(224,vO 2 (TInt.cells rDivMod.1))],304⟩ (C_65 14) [(4,⟨[],true,(.tup [(.agg (TInt.cells rDivMod.1)),(.agg (TInt.cells rDivMod.2.1)),(aI rDivMod.2.2)]),[],0,false,none⟩)] [] (kp [2,3]) (kq [16,224]) 304 [0 < 1,0 < 1,Sd 102 [(.agg (TInt.cells rlowest.fN)),(.agg (TInt.cells rlowest.fD))] [] 0 (.tup [(.agg (TInt.cells rDivMod.1)),(.agg (TInt.cells rDivMod.2.1)),(aI rDivMod.2.2)]) [],0 < 1,0 < 1] ⟨o1,o1,(g_e_DivMod_ok N rlowest.fN rlowest.fD rDivMod hr2),o1,o1,trivial⟩ ?_
 refine sA 1 [.code (C_65 30),.code (C_65 31)] ?_
 refine sR hE ⟨[(2,(.op 16 0 0))],[(16,vO 2 (TInt.cells rDivMod.1))],336⟩ (C_65 30) [] [] (kp [2]) (kq [16]) 336 [0 < 1,0 < 1] ⟨o1,o1,trivial⟩ ?_
 obtain rfl:=Option.some.inj h
 refine sW hE ⟨[(2,(.op 16 0 0))],[(16,vO 2 (TInt.cells rDivMod.1))],336⟩ [] (kp [2]) (kq [16]) 336 [] trivial ?_
 exact sT Tryz.f77 [16] [0 < 1] ⟨o1,trivial⟩
noncomputable def C_67 (n:Nat):Code:=cat (bodyOf Tryz.f76) (pth n)
theorem g_e_Small_ok (N:Nat) (a:TInt) (r:Int×Bool) (h:g_e_Small N a=some r):Sd 76 [(.agg (TInt.cells a))] [] 0 (.tup [(aI r.1),(aB r.2)]) []:=by
 unfold g_e_Small at h
 refine Sound.of_runs (fu:=Tryz.f76) (c:=C_67 1) (nt:=36) (by kernel_rfl) (by kernel_rfl) (by kernel_rfl) (by kernel_rfl) (fun hm=>rfl) ?_
 intro E hE
 refine sA 1 [.code (C_67 2),.code (C_67 3)] ?_
 refine sR hE ⟨[(1,(.op 0 0 0))],[(0,vO 2 (TInt.cells a))],48⟩ (C_67 2) [] [] (kp [1]) (kq [0]) 48 [] trivial ?_
 refine sA 1 [.code (C_67 6),.code (C_67 7)] ?_
 obtain ⟨rtrim,hr,h⟩:=bindSome h
 obtain ⟨rword,hr2,h⟩:=bindSome h
 refine sR hE ⟨[(1,(.op 0 0 0)),(4,(a64 rword.1)),(5,(aB rword.2))],[(0,vO 2 (TInt.cells a))],192⟩ (C_67 6) [(2,⟨[],true,(eU rtrim),[],0,false,none⟩),(3,⟨[],true,(.tup [(a64 rword.1),(aB rword.2)]),[],0,false,none⟩)] [] (kp [1,4,5]) (kq [0]) 192 [0 < 1,Sd 101 [(eU a.fL)] [] 0 (eU rtrim) [],Sd 100 [(eU rtrim)] [] 0 (.tup [(a64 rword.1),(aB rword.2)]) []] ⟨o1,(g_e_trim_ok N a.fL rtrim hr),(g_e_word_ok N rtrim rword hr2),trivial⟩ ?_
 refine sA 3 [.code (C_67 56),.code (C_67 57),.inBlock 0,.code (C_67 15)] ?_
 refine sR hE ⟨[(1,(.op 0 0 0)),(4,(a64 rword.1)),(13,(aB (!rword.2)))],[(0,vO 2 (TInt.cells a))],240⟩ (C_67 56) [] [] (kp [1,4,13]) (kq [0]) 240 [] trivial ?_
 refine sC 13 (C_67 114) (C_67 115) (!rword.2) (fun hq2=>?_) (fun hq2=>?_)
 ·have h:=condT h hq2
  refine sA 1 [.code (C_67 228),.code (C_67 229),.inBlock 0,.code (C_67 15)] ?_
  refine sR hE ⟨[(2,(aI 0)),(3,(aB false))],[],272⟩ (C_67 228) [] [] (kp [2,3]) [] 272 [] trivial ?_
  obtain rfl:=Option.some.inj h
  refine sW hE ⟨[(2,(aI 0)),(3,(aB false))],[],272⟩ [] (kp [2,3]) [] 272 [] trivial ?_
  exact sT Tryz.f76 [] [] trivial
 ·have h:=condF h hq2
  refine sA 1 [.code (C_67 230),.code (C_67 231),.inBlock 0,.code (C_67 15)] ?_
  refine sR hE ⟨[(1,(.op 0 0 0)),(4,(a64 rword.1)),(16,(aB (cond a.fG (decide (rword.1≤9223372036854775808)) false)))],[(0,vO 2 (TInt.cells a))],352⟩ (C_67 230) [] [] (kp [1,4,16]) (kq [0]) 352 [0 < 1,a.fG=true→AllP [a.fG=true],a.fG=true→AllP [a.fG=true]] ⟨o1,(fun hg=>⟨hg,trivial⟩),(fun hq=>⟨hq,trivial⟩),trivial⟩ ?_
  refine sC 16 (C_67 462) (C_67 463) (cond a.fG (decide (rword.1≤9223372036854775808)) false) (fun hq3=>?_) (fun hq3=>?_)
  ·have h:=condT h hq3
   refine sA 1 [.code (C_67 924),.code (C_67 925),.inBlock 0,.code (C_67 15)] ?_
   refine sR hE ⟨[(2,(aI (w64 ((IntKind.u64.wrap (0 - rword.1)))))),(3,(aB true))],[],432⟩ (C_67 924) [] [] (kp [2,3]) [] 432 [] trivial ?_
   obtain rfl:=Option.some.inj h
   refine sW hE ⟨[(2,(aI (w64 ((IntKind.u64.wrap (0 - rword.1)))))),(3,(aB true))],[],432⟩ [] (kp [2,3]) [] 432 [] trivial ?_
   exact sT Tryz.f76 [] [] trivial
  ·have h:=condF h hq3
   refine sA 1 [.code (C_67 926),.code (C_67 927),.inBlock 0,.code (C_67 15)] ?_
   refine sR hE ⟨[(4,(a64 rword.1)),(26,(aB (cond (!a.fG) (decide (rword.1≤9223372036854775807)) false)))],[],480⟩ (C_67 926) [] [] (kp [4,26]) [] 480 [0 < 1,(!a.fG)=true→AllP [(!a.fG)=true],(!a.fG)=true→AllP [(!a.fG)=true]] ⟨o1,(fun hg=>⟨hg,trivial⟩),(fun hq=>⟨hq,trivial⟩),trivial⟩ ?_
   refine sC 26 (C_67 1854) (C_67 1855) (cond (!a.fG) (decide (rword.1≤9223372036854775807)) false) (fun hq4=>?_) (fun hq4=>?_)
   ·have h:=condT h hq4
    refine sA 1 [.code (C_67 3708),.code (C_67 3709),.inBlock 0,.code (C_67 15)] ?_
    refine sR hE ⟨[(2,(aI (w64 (rword.1)))),(3,(aB true))],[],544⟩ (C_67 3708) [] [] (kp [2,3]) [] 544 [] trivial ?_
    obtain rfl:=Option.some.inj h
    refine sW hE ⟨[(2,(aI (w64 (rword.1)))),(3,(aB true))],[],544⟩ [] (kp [2,3]) [] 544 [] trivial ?_
    exact sT Tryz.f76 [] [] trivial
   ·have h:=condF h hq4
    refine sA 3 [.code (C_67 30),.code (C_67 31)] ?_
    refine sR hE ⟨[(2,(aI 0)),(3,(aB false))],[],512⟩ (C_67 30) [] [] (kp [2,3]) [] 512 [] trivial ?_
    obtain rfl:=Option.some.inj h
    refine sW hE ⟨[(2,(aI 0)),(3,(aB false))],[],512⟩ [] (kp [2,3]) [] 512 [] trivial ?_
    exact sT Tryz.f76 [] [] trivial
noncomputable def C_64 (n:Nat):Code:=cat (bodyOf Tryz.f57) (pth n)
theorem g_w_whole_ok (N:Nat) (x:TRat) (r:Int) (h:g_w_whole N x=some r):Sd 57 [(.agg (TRat.cells x))] [] 0 (aI r) []:=by
 unfold g_w_whole at h
 refine Sound.of_runs (fu:=Tryz.f57) (c:=C_64 1) (nt:=12) (by kernel_rfl) (by kernel_rfl) (by kernel_rfl) (by kernel_rfl) (fun hm=>rfl) ?_
 intro E hE
 refine sA 1 [.code (C_64 2),.code (C_64 3)] ?_
 refine sR hE ⟨[(1,(.op 0 0 0))],[(0,vO 4 (TRat.cells x))],32⟩ (C_64 2) [] [] (kp [1]) (kq [0]) 32 [] trivial ?_
 refine sA 1 [.code (C_64 6),.code (C_64 7)] ?_
 obtain ⟨rFloor,hr,h⟩:=bindSome h
 obtain ⟨rSmall,hr2,h⟩:=bindSome h
 refine sR hE ⟨[(3,(aI rSmall.1))],[],160⟩ (C_64 6) [(1,⟨[],true,(.agg (TInt.cells rFloor)),[],0,false,none⟩),(2,⟨[],true,(.tup [(aI rSmall.1),(aB rSmall.2)]),[],0,false,none⟩)] [] (kp [3]) [] 160 [0 < 1,Sd 77 [(.agg (TRat.cells x))] [] 0 (.agg (TInt.cells rFloor)) [],Sd 76 [(.agg (TInt.cells rFloor))] [] 0 (.tup [(aI rSmall.1),(aB rSmall.2)]) []] ⟨o1,(g_e_Floor_ok N x rFloor hr),(g_e_Small_ok N rFloor rSmall hr2),trivial⟩ ?_
 refine sA 1 [.code (C_64 14),.code (C_64 15)] ?_
 refine sR hE ⟨[(2,(aI rSmall.1))],[],192⟩ (C_64 14) [] [] (kp [2]) [] 192 [] trivial ?_
 obtain rfl:=Option.some.inj h
 refine sW hE ⟨[(2,(aI rSmall.1))],[],192⟩ [] (kp [2]) [] 192 [] trivial ?_
 exact sT Tryz.f57 [] [] trivial
noncomputable def C_69 (n:Nat):Code:=cat (bodyOf Tryz.f99) (pth n)
theorem g_e_signOf_ok (N:Nat) (x:TRat) (r:Int) (h:g_e_signOf N x=some r):Sd 99 [(.agg (TRat.cells x))] [] 0 (aI r) []:=by
 unfold g_e_signOf at h
 refine Sound.of_runs (fu:=Tryz.f99) (c:=C_69 1) (nt:=10) (by kernel_rfl) (by kernel_rfl) (by kernel_rfl) (by kernel_rfl) (fun hm=>rfl) ?_
 intro E hE
 refine sA 1 [.code (C_69 2),.code (C_69 3)] ?_
 refine sR hE ⟨[(1,(.op 0 0 0))],[(0,vO 4 (TRat.cells x))],32⟩ (C_69 2) [] [] (kp [1]) (kq [0]) 32 [] trivial ?_
 refine sA 1 [.code (C_69 6),.code (C_69 7)] ?_
 obtain ⟨rsign,hr,h⟩:=bindSome h
 obtain ⟨rbelow,hr2,h⟩:=bindSome h
 obtain ⟨rsign2,hr3,h⟩:=bindSome h
 refine sR hE ⟨[(2,(aI (w64 (rsign * rsign2))))],[],160⟩ (C_69 6) [(2,⟨[],true,(aI rsign),[],0,false,none⟩),(4,⟨[],true,(.agg (TInt.cells rbelow)),[],0,false,none⟩),(5,⟨[],true,(aI rsign2),[],0,false,none⟩)] [] (kp [2]) [] 160 [0 < 1,Sd 110 [(.agg (TInt.cells x.fN))] [] 0 (aI rsign) [],0 < 1,Sd 95 [(.agg (TRat.cells x))] [] 0 (.agg (TInt.cells rbelow)) [],Sd 110 [(.agg (TInt.cells rbelow))] [] 0 (aI rsign2) []] ⟨o1,(g_e_sign_ok N x.fN rsign hr),o1,(g_e_below_ok N x rbelow hr2),(g_e_sign_ok N rbelow rsign2 hr3),trivial⟩ ?_
 obtain rfl:=Option.some.inj h
 refine sW hE ⟨[(2,(aI (w64 (rsign * rsign2))))],[],160⟩ [] (kp [2]) [] 160 [] trivial ?_
 exact sT Tryz.f99 [] [] trivial
noncomputable def C_68 (n:Nat):Code:=cat (bodyOf Tryz.f75) (pth n)
theorem g_e_CmpRat_ok (N:Nat) (x:TRat) (y:TRat) (r:Int) (h:g_e_CmpRat N x y=some r):Sd 75 [(.agg (TRat.cells x)),(.agg (TRat.cells y))] [] 0 (aI r) []:=by
 unfold g_e_CmpRat at h
 refine Sound.of_runs (fu:=Tryz.f75) (c:=C_68 1) (nt:=9) (by kernel_rfl) (by kernel_rfl) (by kernel_rfl) (by kernel_rfl) (fun hm=>rfl) ?_
 intro E hE
 refine sA 1 [.code (C_68 2),.code (C_68 3)] ?_
 refine sR hE ⟨[(2,(.op 0 0 0)),(3,(.op 16 0 0))],[(0,vO 4 (TRat.cells x)),(16,vO 4 (TRat.cells y))],48⟩ (C_68 2) [] [] (kp [2,3]) (kq [0,16]) 48 [] trivial ?_
 refine sA 1 [.code (C_68 6),.code (C_68 7)] ?_
 obtain ⟨rSubRat,hr,h⟩:=bindSome h
 obtain ⟨rsignOf,hr2,h⟩:=bindSome h
 refine sR hE ⟨[(4,(aI rsignOf))],[],128⟩ (C_68 6) [(2,⟨[],true,(.agg (TRat.cells rSubRat)),[],0,false,none⟩),(3,⟨[],true,(aI rsignOf),[],0,false,none⟩)] [] (kp [4]) [] 128 [0 < 1,0 < 1,Sd 48 [(.agg (TRat.cells x)),(.agg (TRat.cells y))] [] 0 (.agg (TRat.cells rSubRat)) [],Sd 99 [(.agg (TRat.cells rSubRat))] [] 0 (aI rsignOf) []] ⟨o1,o1,(g_e_SubRat_ok N x y rSubRat hr),(g_e_signOf_ok N rSubRat rsignOf hr2),trivial⟩ ?_
 obtain rfl:=Option.some.inj h
 refine sW hE ⟨[(4,(aI rsignOf))],[],128⟩ [] (kp [4]) [] 128 [] trivial ?_
 exact sT Tryz.f75 [] [] trivial
noncomputable def C_62 (n:Nat):Code:=cat (bodyOf Tryz.f56) (pth n)
theorem g_w_draughts_J1_ok (N:Nat) (p:TPn) (most:Int) (low:Int) (r:Int×Int) (h:g_w_draughts_J1 N p most low=some r):∀ E,EnvOk E 0→Runs Tryz.prog E 56 29 (SPost E [] (.tup [(aI r.1),(aI r.2)])) [.code (C_62 62),.code (C_62 63)] ⟨[(2,(aI most)),(6,(aI low)),(8,(.fn (.func 74) [] [(.op 0 0 0)]))],[(0,vO 5 (TPn.cells p))],1⟩:=by
 intro E hE
 unfold g_w_draughts_J1 at h
 obtain ⟨rdraughts13,hr6,h⟩:=bindSome h
 obtain ⟨rwhole2,hr7,h⟩:=bindSome h
 refine sR hE ⟨[(6,(aI low)),(7,(aI rwhole2))],[],113⟩ (C_62 62) [(3,⟨[0],false,(.agg [(aB rdraughts13.fN.fG),(.os 1 0 rdraughts13.fN.fL.length),(aB rdraughts13.fD.fG),(.os 2 0 rdraughts13.fD.fL.length)]),[(0,vO 5 (TPn.cells p)),(1,aU rdraughts13.fN.fL),(2,aU rdraughts13.fD.fL)],0,false,none⟩),(4,⟨[],true,(aI rwhole2),[],0,false,none⟩)] [] (kp [6,7]) [] 113 [Sd 74 [(aI most),(.op 0 0 0)] [(0,vO 5 (TPn.cells p))] 1 (.agg [(aB rdraughts13.fN.fG),(.os 1 0 rdraughts13.fN.fL.length),(aB rdraughts13.fD.fG),(.os 2 0 rdraughts13.fD.fL.length)]) [(0,vO 5 (TPn.cells p)),(1,aU rdraughts13.fN.fL),(2,aU rdraughts13.fD.fL)],Sd 57 [(.agg [(aB rdraughts13.fN.fG),(eU rdraughts13.fN.fL),(aB rdraughts13.fD.fG),(eU rdraughts13.fD.fL)])] [] 0 (aI rwhole2) [],0+rdraughts13.fN.fL.length≤rdraughts13.fN.fL.length,0+rdraughts13.fD.fL.length≤rdraughts13.fD.fL.length] ⟨(g_w_draughts_1_ok N most p rdraughts13 hr6),(g_w_whole_ok N (⟨rdraughts13.fN,rdraughts13.fD⟩:TRat) rwhole2 hr7),z0,z0,trivial⟩ ?_
 obtain rfl:=Option.some.inj h
 refine sW hE ⟨[(6,(aI low)),(7,(aI rwhole2))],[],113⟩ [] (kp [6,7]) [] 113 [] trivial ?_
 exact sT Tryz.f56 [] [] trivial
theorem g_w_draughts_ok (N:Nat) (p:TPn) (least:Int) (most:Int) (r:Int×Int) (h:g_w_draughts N p least most=some r):Sd 56 [(.agg (TPn.cells p)),(aI least),(aI most)] [] 0 (.tup [(aI r.1),(aI r.2)]) []:=by
 unfold g_w_draughts at h
 refine Sound.of_runs (fu:=Tryz.f56) (c:=C_62 1) (nt:=29) (by kernel_rfl) (by kernel_rfl) (by kernel_rfl) (by kernel_rfl) (fun hm=>rfl) ?_
 intro E hE
 refine sA 1 [.code (C_62 2),.code (C_62 3)] ?_
 refine sR hE ⟨[(1,(aI least)),(2,(aI most)),(3,(.op 0 0 0))],[(0,vO 5 (TPn.cells p))],48⟩ (C_62 2) [] [] (kp [1,2,3]) (kq [0]) 48 [] trivial ?_
 refine sA 1 [.code (C_62 6),.code (C_62 7)] ?_
 refine sR hE ⟨[(1,(aI least)),(2,(aI most)),(8,(.fn (.func 74) [] [(.op 0 0 0)]))],[(0,vO 5 (TPn.cells p))],80⟩ (C_62 6) [] [] (kp [1,2,8]) (kq [0]) 80 [] trivial ?_
 refine sA 1 [.code (C_62 14),.code (C_62 15)] ?_
 obtain ⟨rdraughts1,hr,h⟩:=bindSome h
 obtain ⟨rwhole,hr2,h⟩:=bindSome h
 refine sR hE ⟨[(1,(aI least)),(2,(aI most)),(6,(aI rwhole)),(8,(.fn (.func 74) [] [(.op 0 0 0)]))],[(0,vO 5 (TPn.cells p))],160⟩ (C_62 14) [(2,⟨[0],false,(.agg [(aB rdraughts1.fN.fG),(.os 1 0 rdraughts1.fN.fL.length),(aB rdraughts1.fD.fG),(.os 2 0 rdraughts1.fD.fL.length)]),[(0,vO 5 (TPn.cells p)),(1,aU rdraughts1.fN.fL),(2,aU rdraughts1.fD.fL)],0,false,none⟩),(3,⟨[],true,(aI rwhole),[],0,false,none⟩)] [] (kp [1,2,6,8]) (kq [0]) 160 [Sd 74 [(aI least),(.op 0 0 0)] [(0,vO 5 (TPn.cells p))] 1 (.agg [(aB rdraughts1.fN.fG),(.os 1 0 rdraughts1.fN.fL.length),(aB rdraughts1.fD.fG),(.os 2 0 rdraughts1.fD.fL.length)]) [(0,vO 5 (TPn.cells p)),(1,aU rdraughts1.fN.fL),(2,aU rdraughts1.fD.fL)],Sd 57 [(.agg [(aB rdraughts1.fN.fG),(eU rdraughts1.fN.fL),(aB rdraughts1.fD.fG),(eU rdraughts1.fD.fL)])] [] 0 (aI rwhole) [],0+rdraughts1.fN.fL.length≤rdraughts1.fN.fL.length,0+rdraughts1.fD.fL.length≤rdraughts1.fD.fL.length] ⟨(g_w_draughts_1_ok N least p rdraughts1 hr),(g_w_whole_ok N (⟨rdraughts1.fN,rdraughts1.fD⟩:TRat) rwhole hr2),z0,z0,trivial⟩ ?_
 refine sA 2 [.code (C_62 60),.code (C_62 61),.code (C_62 31)] ?_
 obtain ⟨rproduct,hr3,h⟩:=bindSome h
 obtain ⟨rdraughts12,hr4,h⟩:=bindSome h
 obtain ⟨rCmpRat,hr5,h⟩:=bindSome h
 refine sR hE ⟨[(2,(aI most)),(6,(aI rwhole)),(8,(.fn (.func 74) [] [(.op 0 0 0)])),(21,(aB (decide (rCmpRat < 0))))],[(0,vO 5 (TPn.cells p))],288⟩ (C_62 60) [(2,⟨[],false,(.agg [(aB rproduct.fN.fG),(.os 0 0 rproduct.fN.fL.length),(aB rproduct.fD.fG),(.os 1 0 rproduct.fD.fL.length)]),[(0,aU rproduct.fN.fL),(1,aU rproduct.fD.fL)],0,false,none⟩),(5,⟨[0],false,(.agg [(aB rdraughts12.fN.fG),(.os 1 0 rdraughts12.fN.fL.length),(aB rdraughts12.fD.fG),(.os 2 0 rdraughts12.fD.fL.length)]),[(0,vO 5 (TPn.cells p)),(1,aU rdraughts12.fN.fL),(2,aU rdraughts12.fD.fL)],0,false,none⟩),(6,⟨[],true,(aI rCmpRat),[],0,false,none⟩)] [] (kp [2,6,8,21]) (kq [0]) 288 [Sd 47 [(.sl 1 (fun zi=>(fun zi=>([[(aI rwhole)]]:List (List AV)).getD zi []) (addz 0 zi)))] [] 0 (.agg [(aB rproduct.fN.fG),(.os 0 0 rproduct.fN.fL.length),(aB rproduct.fD.fG),(.os 1 0 rproduct.fD.fL.length)]) [(0,aU rproduct.fN.fL),(1,aU rproduct.fD.fL)],∀ zi,zi < rproduct.fN.fL.length→AV.flatL ((cU .u16) (rproduct.fN.fL.getD zi 0))=true,∀ zi,zi < rproduct.fD.fL.length→AV.flatL ((cU .u16) (rproduct.fD.fL.getD zi 0))=true,0+1≤1,Sd 74 [(aI least),(.op 0 0 0)] [(0,vO 5 (TPn.cells p))] 1 (.agg [(aB rdraughts12.fN.fG),(.os 1 0 rdraughts12.fN.fL.length),(aB rdraughts12.fD.fG),(.os 2 0 rdraughts12.fD.fL.length)]) [(0,vO 5 (TPn.cells p)),(1,aU rdraughts12.fN.fL),(2,aU rdraughts12.fD.fL)],Sd 75 [(.agg [(aB rproduct.fN.fG),(eU rproduct.fN.fL),(aB rproduct.fD.fG),(eU rproduct.fD.fL)]),(.agg [(aB rdraughts12.fN.fG),(eU rdraughts12.fN.fL),(aB rdraughts12.fD.fG),(eU rdraughts12.fD.fL)])] [] 0 (aI rCmpRat) [],0+rproduct.fN.fL.length≤rproduct.fN.fL.length,0+rproduct.fD.fL.length≤rproduct.fD.fL.length,0+rdraughts12.fN.fL.length≤rdraughts12.fN.fL.length,0+rdraughts12.fD.fL.length≤rdraughts12.fD.fL.length] ⟨(Sound.conv (g_w_product_ok N ([rwhole]:List Int) rproduct hr3) (.cons (Alike.sl rfl (fun zq hzq=>get_chunk cI 0 ([rwhole]:List Int) zq hzq)) .nil)),(fun _ _=>rfl),(fun _ _=>rfl),z0,(g_w_draughts_1_ok N least p rdraughts12 hr4),(g_e_CmpRat_ok N (⟨rproduct.fN,rproduct.fD⟩:TRat) (⟨rdraughts12.fN,rdraughts12.fD⟩:TRat) rCmpRat hr5),z0,z0,z0,z0,trivial⟩ ?_
 refine sC 21 (C_62 122) (C_62 123) (decide (rCmpRat < 0)) (fun hq2=>?_) (fun hq2=>?_)
 ·have h:=condT h hq2
  refine sR hE ⟨[(2,(aI most)),(6,(aI (w64 (rwhole+1)))),(8,(.fn (.func 74) [] [(.op 0 0 0)]))],[(0,vO 5 (TPn.cells p))],336⟩ (C_62 122) [] [] (kp [2,6,8]) (kq [0]) 336 [] trivial ?_
  refine sA 1 [.code (C_62 62),.code (C_62 63)] ?_
  exact sW hE _ [] (kp [2,6,8]) (kq [0]) 1 [] trivial (g_w_draughts_J1_ok N p most (w64 (rwhole+1)) _ h E hE)
 ·have h:=condF h hq2
  refine sA 2 [.code (C_62 62),.code (C_62 63)] ?_
  exact sW hE _ [] (kp [2,6,8]) (kq [0]) 1 [] trivial (g_w_draughts_J1_ok N p most rwhole _ h E hE)
noncomputable def C_61 (n:Nat):Code:=cat (bodyOf Tryz.f24) (pth n)
theorem g_w_boundsOf_ok (N:Nat) (p:TPn) (l:TLimits) (r:Tw_bounds) (h:g_w_boundsOf N p l=some r):Sd 24 [(.agg (TPn.cells p)),(.agg (TLimits.cells l))] [] 0 (.agg (Tw_bounds.cells r)) []:=by
 unfold g_w_boundsOf at h
 refine Sound.of_runs (fu:=Tryz.f24) (c:=C_61 1) (nt:=59) (by kernel_rfl) (by kernel_rfl) (by kernel_rfl) (by kernel_rfl) (fun hm=>rfl) ?_
 intro E hE
 refine sA 1 [.code (C_61 2),.code (C_61 3)] ?_
 refine sR hE ⟨[(2,(.op 0 0 0)),(3,(.op 16 0 0)),(4,(.op 32 0 0))],[(0,vO 5 (TPn.cells p)),(16,vO 5 (TLimits.cells l)),(32,vO 5 [(aI 0),(aI 0),(aI 0),(aI 0),(aI 0)])],48⟩ (C_61 2) [] [] (kp [2,3,4]) (kq [0,16,32]) 48 [] trivial ?_
 refine sA 1 [.code (C_61 6),.code (C_61 7)] ?_
 refine sR hE ⟨[(2,(.op 0 0 0)),(3,(.op 16 0 0)),(4,(.op 32 0 0)),(5,(aI p.fLn)),(6,(aI p.fBr)),(7,(aI p.fDsity))],[(0,vO 5 (TPn.cells p)),(16,vO 5 (TLimits.cells l)),(32,vO 5 [(aI 0),(aI 0),(aI 0),(aI 0),(aI 0)])],192⟩ (C_61 6) [] [] (kp [2,3,4,5,6,7]) (kq [0,16,32]) 192 [0 < 1,0 < 1,0 < 1] ⟨o1,o1,o1,trivial⟩ ?_
 refine sA 1 [.code (C_61 14),.code (C_61 15)] ?_
 refine sR hE ⟨[(2,(.op 0 0 0)),(3,(.op 16 0 0)),(4,(.op 32 0 0)),(5,(aI p.fLn)),(6,(aI p.fBr)),(7,(aI p.fDsity)),(8,(.op 192 0 0))],[(0,vO 5 (TPn.cells p)),(16,vO 5 (TLimits.cells l)),(32,vO 5 [(aI 0),(aI 0),(aI 0),(aI 0),(aI 0)]),(192,vO 5 [(aI 0),(aI 0),(aI 0),(aI 0),(aI 0)])],208⟩ (C_61 14) [] [] (kp [2,3,4,5,6,7,8]) (kq [0,16,32,192]) 208 [] trivial ?_
 refine sA 1 [.code (C_61 30),.code (C_61 31)] ?_
 obtain ⟨rdraughts,hr,h⟩:=bindSome h
 refine sR hE ⟨[(3,(.op 16 0 0)),(4,(.op 32 0 0)),(5,(aI p.fLn)),(6,(aI p.fBr)),(7,(aI p.fDsity)),(8,(.op 192 0 0))],[(16,vO 5 (TLimits.cells l)),(32,vO 5 [(aI 0),(aI 0),(aI 0),(aI 0),(aI 0)]),(192,vO 5 [(aI rdraughts.1),(aI rdraughts.2),(aI 0),(aI 0),(aI 0)])],416⟩ (C_61 30) [(5,⟨[],true,(.tup [(aI rdraughts.1),(aI rdraughts.2)]),[],0,false,none⟩)] [] (kp [3,4,5,6,7,8]) (kq [16,32,192]) 416 [0 < 1,0 < 1,0 < 1,Sd 56 [(.agg (TPn.cells p)),(aI l.f_DraughtLeast),(aI l.f_DraughtMost)] [] 0 (.tup [(aI rdraughts.1),(aI rdraughts.2)]) [],0 < 1,0 < 1] ⟨o1,o1,o1,(g_w_draughts_ok N p l.f_DraughtLeast l.f_DraughtMost rdraughts hr),o1,o1,trivial⟩ ?_
 refine sA 1 [.code (C_61 62),.code (C_61 63)] ?_
 obtain ⟨rproduct,hr2,h⟩:=bindSome h
 obtain ⟨rproduct2,hr3,h⟩:=bindSome h
 obtain ⟨rquotient,hr4,h⟩:=bindSome h
 obtain ⟨rwhole,hr5,h⟩:=bindSome h
 refine sR hE ⟨[(3,(.op 16 0 0)),(4,(.op 32 0 0)),(5,(aI p.fLn)),(6,(aI p.fBr)),(7,(aI p.fDsity)),(8,(.op 192 0 0))],[(16,vO 5 (TLimits.cells l)),(32,vO 5 [(aI 0),(aI 0),(aI 0),(aI 0),(aI 0)]),(192,vO 5 [(aI rdraughts.1),(aI rdraughts.2),(aI rwhole),(aI 0),(aI 0)])],656⟩ (C_61 62) [(8,⟨[],false,(.agg [(aB rproduct.fN.fG),(.os 0 0 rproduct.fN.fL.length),(aB rproduct.fD.fG),(.os 1 0 rproduct.fD.fL.length)]),[(0,aU rproduct.fN.fL),(1,aU rproduct.fD.fL)],0,false,none⟩),(10,⟨[],false,(.agg [(aB rproduct2.fN.fG),(.os 0 0 rproduct2.fN.fL.length),(aB rproduct2.fD.fG),(.os 1 0 rproduct2.fD.fL.length)]),[(0,aU rproduct2.fN.fL),(1,aU rproduct2.fD.fL)],0,false,none⟩),(11,⟨[],false,(.agg [(aB rquotient.fN.fG),(.os 0 0 rquotient.fN.fL.length),(aB rquotient.fD.fG),(.os 1 0 rquotient.fD.fL.length)]),[(0,aU rquotient.fN.fL),(1,aU rquotient.fD.fL)],0,false,none⟩),(12,⟨[],true,(aI rwhole),[],0,false,none⟩)] [] (kp [3,4,5,6,7,8]) (kq [16,32,192]) 656 [0 < 1,Sd 47 [(.sl 6 (fun zi=>(fun zi=>([[(aI l.f_TrimMost)],[(aI p.fDsity)],[(aI p.fBr)],[(aI p.fLn)],[(aI p.fLn)],[(aI p.fLn)]]:List (List AV)).getD zi []) (addz 0 zi)))] [] 0 (.agg [(aB rproduct.fN.fG),(.os 0 0 rproduct.fN.fL.length),(aB rproduct.fD.fG),(.os 1 0 rproduct.fD.fL.length)]) [(0,aU rproduct.fN.fL),(1,aU rproduct.fD.fL)],∀ zi,zi < rproduct.fN.fL.length→AV.flatL ((cU .u16) (rproduct.fN.fL.getD zi 0))=true,∀ zi,zi < rproduct.fD.fL.length→AV.flatL ((cU .u16) (rproduct.fD.fL.getD zi 0))=true,0+6≤6,Sd 47 [(.sl 2 (fun zi=>(fun zi=>([[(aI 12000000000)],[(aI 1000)]]:List (List AV)).getD zi []) (addz 0 zi)))] [] 0 (.agg [(aB rproduct2.fN.fG),(.os 0 0 rproduct2.fN.fL.length),(aB rproduct2.fD.fG),(.os 1 0 rproduct2.fD.fL.length)]) [(0,aU rproduct2.fN.fL),(1,aU rproduct2.fD.fL)],∀ zi,zi < rproduct2.fN.fL.length→AV.flatL ((cU .u16) (rproduct2.fN.fL.getD zi 0))=true,∀ zi,zi < rproduct2.fD.fL.length→AV.flatL ((cU .u16) (rproduct2.fD.fL.getD zi 0))=true,0+2≤2,Sd 46 [(.agg [(aB rproduct.fN.fG),(eU rproduct.fN.fL),(aB rproduct.fD.fG),(eU rproduct.fD.fL)]),(.agg [(aB rproduct2.fN.fG),(eU rproduct2.fN.fL),(aB rproduct2.fD.fG),(eU rproduct2.fD.fL)])] [] 0 (.agg [(aB rquotient.fN.fG),(.os 0 0 rquotient.fN.fL.length),(aB rquotient.fD.fG),(.os 1 0 rquotient.fD.fL.length)]) [(0,aU rquotient.fN.fL),(1,aU rquotient.fD.fL)],∀ zi,zi < rquotient.fN.fL.length→AV.flatL ((cU .u16) (rquotient.fN.fL.getD zi 0))=true,∀ zi,zi < rquotient.fD.fL.length→AV.flatL ((cU .u16) (rquotient.fD.fL.getD zi 0))=true,0+rproduct.fN.fL.length≤rproduct.fN.fL.length,0+rproduct.fD.fL.length≤rproduct.fD.fL.length,0+rproduct2.fN.fL.length≤rproduct2.fN.fL.length,0+rproduct2.fD.fL.length≤rproduct2.fD.fL.length,Sd 57 [(.agg [(aB rquotient.fN.fG),(eU rquotient.fN.fL),(aB rquotient.fD.fG),(eU rquotient.fD.fL)])] [] 0 (aI rwhole) [],0+rquotient.fN.fL.length≤rquotient.fN.fL.length,0+rquotient.fD.fL.length≤rquotient.fD.fL.length,0 < 1] ⟨o1,(Sound.conv (g_w_product_ok N ([l.f_TrimMost,p.fDsity,p.fBr,p.fLn,p.fLn,p.fLn]:List Int) rproduct hr2) (.cons (Alike.sl rfl (fun zq hzq=>get_chunk cI 0 ([l.f_TrimMost,p.fDsity,p.fBr,p.fLn,p.fLn,p.fLn]:List Int) zq hzq)) .nil)),(fun _ _=>rfl),(fun _ _=>rfl),z0,(Sound.conv (g_w_product_ok N ([12000000000,1000]:List Int) rproduct2 hr3) (.cons (Alike.sl rfl (fun zq hzq=>get_chunk cI 0 ([12000000000,1000]:List Int) zq hzq)) .nil)),(fun _ _=>rfl),(fun _ _=>rfl),z0,(g_w_quotient_ok N (⟨rproduct.fN,rproduct.fD⟩:TRat) (⟨rproduct2.fN,rproduct2.fD⟩:TRat) rquotient hr4),(fun _ _=>rfl),(fun _ _=>rfl),z0,z0,z0,z0,(g_w_whole_ok N (⟨rquotient.fN,rquotient.fD⟩:TRat) rwhole hr5),z0,z0,o1,trivial⟩ ?_
 refine sA 1 [.code (C_61 126),.code (C_61 127)] ?_
 obtain ⟨rproduct3,hr6,h⟩:=bindSome h
 obtain ⟨rproduct4,hr7,h⟩:=bindSome h
 obtain ⟨rquotient2,hr8,h⟩:=bindSome h
 obtain ⟨rwhole2,hr9,h⟩:=bindSome h
 refine sR hE ⟨[(3,(.op 16 0 0)),(4,(.op 32 0 0)),(8,(.op 192 0 0))],[(16,vO 5 (TLimits.cells l)),(32,vO 5 [(aI 0),(aI 0),(aI 0),(aI 0),(aI 0)]),(192,vO 5 [(aI rdraughts.1),(aI rdraughts.2),(aI rwhole),(aI rwhole2),(aI 0)])],896⟩ (C_61 126) [(8,⟨[],false,(.agg [(aB rproduct3.fN.fG),(.os 0 0 rproduct3.fN.fL.length),(aB rproduct3.fD.fG),(.os 1 0 rproduct3.fD.fL.length)]),[(0,aU rproduct3.fN.fL),(1,aU rproduct3.fD.fL)],0,false,none⟩),(10,⟨[],false,(.agg [(aB rproduct4.fN.fG),(.os 0 0 rproduct4.fN.fL.length),(aB rproduct4.fD.fG),(.os 1 0 rproduct4.fD.fL.length)]),[(0,aU rproduct4.fN.fL),(1,aU rproduct4.fD.fL)],0,false,none⟩),(11,⟨[],false,(.agg [(aB rquotient2.fN.fG),(.os 0 0 rquotient2.fN.fL.length),(aB rquotient2.fD.fG),(.os 1 0 rquotient2.fD.fL.length)]),[(0,aU rquotient2.fN.fL),(1,aU rquotient2.fD.fL)],0,false,none⟩),(12,⟨[],true,(aI rwhole2),[],0,false,none⟩)] [] (kp [3,4,8]) (kq [16,32,192]) 896 [0 < 1,Sd 47 [(.sl 6 (fun zi=>(fun zi=>([[(aI l.f_HeelMost)],[(aI p.fDsity)],[(aI p.fLn)],[(aI p.fBr)],[(aI p.fBr)],[(aI p.fBr)]]:List (List AV)).getD zi []) (addz 0 zi)))] [] 0 (.agg [(aB rproduct3.fN.fG),(.os 0 0 rproduct3.fN.fL.length),(aB rproduct3.fD.fG),(.os 1 0 rproduct3.fD.fL.length)]) [(0,aU rproduct3.fN.fL),(1,aU rproduct3.fD.fL)],∀ zi,zi < rproduct3.fN.fL.length→AV.flatL ((cU .u16) (rproduct3.fN.fL.getD zi 0))=true,∀ zi,zi < rproduct3.fD.fL.length→AV.flatL ((cU .u16) (rproduct3.fD.fL.getD zi 0))=true,0+6≤6,Sd 47 [(.sl 2 (fun zi=>(fun zi=>([[(aI 12000000000)],[(aI 1000)]]:List (List AV)).getD zi []) (addz 0 zi)))] [] 0 (.agg [(aB rproduct4.fN.fG),(.os 0 0 rproduct4.fN.fL.length),(aB rproduct4.fD.fG),(.os 1 0 rproduct4.fD.fL.length)]) [(0,aU rproduct4.fN.fL),(1,aU rproduct4.fD.fL)],∀ zi,zi < rproduct4.fN.fL.length→AV.flatL ((cU .u16) (rproduct4.fN.fL.getD zi 0))=true,∀ zi,zi < rproduct4.fD.fL.length→AV.flatL ((cU .u16) (rproduct4.fD.fL.getD zi 0))=true,0+2≤2,Sd 46 [(.agg [(aB rproduct3.fN.fG),(eU rproduct3.fN.fL),(aB rproduct3.fD.fG),(eU rproduct3.fD.fL)]),(.agg [(aB rproduct4.fN.fG),(eU rproduct4.fN.fL),(aB rproduct4.fD.fG),(eU rproduct4.fD.fL)])] [] 0 (.agg [(aB rquotient2.fN.fG),(.os 0 0 rquotient2.fN.fL.length),(aB rquotient2.fD.fG),(.os 1 0 rquotient2.fD.fL.length)]) [(0,aU rquotient2.fN.fL),(1,aU rquotient2.fD.fL)],∀ zi,zi < rquotient2.fN.fL.length→AV.flatL ((cU .u16) (rquotient2.fN.fL.getD zi 0))=true,∀ zi,zi < rquotient2.fD.fL.length→AV.flatL ((cU .u16) (rquotient2.fD.fL.getD zi 0))=true,0+rproduct3.fN.fL.length≤rproduct3.fN.fL.length,0+rproduct3.fD.fL.length≤rproduct3.fD.fL.length,0+rproduct4.fN.fL.length≤rproduct4.fN.fL.length,0+rproduct4.fD.fL.length≤rproduct4.fD.fL.length,Sd 57 [(.agg [(aB rquotient2.fN.fG),(eU rquotient2.fN.fL),(aB rquotient2.fD.fG),(eU rquotient2.fD.fL)])] [] 0 (aI rwhole2) [],0+rquotient2.fN.fL.length≤rquotient2.fN.fL.length,0+rquotient2.fD.fL.length≤rquotient2.fD.fL.length,0 < 1] ⟨o1,(Sound.conv (g_w_product_ok N ([l.f_HeelMost,p.fDsity,p.fLn,p.fBr,p.fBr,p.fBr]:List Int) rproduct3 hr6) (.cons (Alike.sl rfl (fun zq hzq=>get_chunk cI 0 ([l.f_HeelMost,p.fDsity,p.fLn,p.fBr,p.fBr,p.fBr]:List Int) zq hzq)) .nil)),(fun _ _=>rfl),(fun _ _=>rfl),z0,(Sound.conv (g_w_product_ok N ([12000000000,1000]:List Int) rproduct4 hr7) (.cons (Alike.sl rfl (fun zq hzq=>get_chunk cI 0 ([12000000000,1000]:List Int) zq hzq)) .nil)),(fun _ _=>rfl),(fun _ _=>rfl),z0,(g_w_quotient_ok N (⟨rproduct3.fN,rproduct3.fD⟩:TRat) (⟨rproduct4.fN,rproduct4.fD⟩:TRat) rquotient2 hr8),(fun _ _=>rfl),(fun _ _=>rfl),z0,z0,z0,z0,(g_w_whole_ok N (⟨rquotient2.fN,rquotient2.fD⟩:TRat) rwhole2 hr9),z0,z0,o1,trivial⟩ ?_
 refine sA 1 [.code (C_61 254),.code (C_61 255)] ?_
 refine sR hE ⟨[(4,(.op 32 0 0)),(8,(.op 192 0 0))],[(32,vO 5 [(aI 0),(aI 0),(aI 0),(aI 0),(aI 0)]),(192,vO 5 [(aI rdraughts.1),(aI rdraughts.2),(aI rwhole),(aI rwhole2),(aI (w64 (8 * l.f_HogMost)))])],976⟩ (C_61 254) [] [] (kp [4,8]) (kq [32,192]) 976 [0 < 1,0 < 1] ⟨o1,o1,trivial⟩ ?_
 refine sA 1 [.code (C_61 510),.code (C_61 511)] ?_
 refine sR hE ⟨[(4,(.op 32 0 0))],[(32,vO 5 [(aI rdraughts.1),(aI rdraughts.2),(aI rwhole),(aI rwhole2),(aI (w64 (8 * l.f_HogMost)))])],1008⟩ (C_61 510) [] [] (kp [4]) (kq [32]) 1008 [0 < 1,0 < 1] ⟨o1,o1,trivial⟩ ?_
 obtain rfl:=Option.some.inj h
 refine sW hE ⟨[(4,(.op 16 0 0))],[(16,vO 5 [(aI rdraughts.1),(aI rdraughts.2),(aI rwhole),(aI rwhole2),(aI (w64 (8 * l.f_HogMost)))])],1008⟩ [] (kp [4]) [(16,.keep 32)] 1008 [] trivial ?_
 exact sT Tryz.f24 [16] [0 < 1] ⟨o1,trivial⟩
noncomputable def C_70 (n:Nat):Code:=cat (bodyOf Tryz.f26) (pth n)
theorem g_w_bounds_kept_J4_ok (N:Nat) (out4:Int) (r:Int) (h:g_w_bounds_kept_J4 N out4=some r):∀ E,EnvOk E 0→Runs Tryz.prog E 26 59 (SPost E [] (aI r)) [.code (C_70 510),.code (C_70 511)] ⟨[(8,(aI out4))],[],0⟩:=by
 intro E hE
 unfold g_w_bounds_kept_J4 at h
 refine sR hE ⟨[(6,(aI out4))],[],32⟩ (C_70 510) [] [] (kp [6]) [] 32 [] trivial ?_
 obtain rfl:=Option.some.inj h
 refine sW hE ⟨[(6,(aI out4))],[],48⟩ [] (kp [6]) [] 48 [] trivial ?_
 exact sT Tryz.f26 [] [] trivial
theorem g_w_bounds_kept_J3_ok (N:Nat) (b:Tw_bounds) (p:TPn) (rsumOf:Tw_sums) (out3:Int) (r:Int) (h:g_w_bounds_kept_J3 N b p rsumOf out3=some r):∀ E,EnvOk E 0→Runs Tryz.prog E 26 59 (SPost E [] (aI r)) [.code (C_70 508),.code (C_70 509),.code (C_70 255)] ⟨[(3,(.op 0 0 0)),(4,(.op 1 0 0)),(7,(.op 2 0 0)),(8,(aI out3))],[(0,vO 5 (Tw_bounds.cells b)),(1,vO 5 (TPn.cells p)),(2,vO 4 (Tw_sums.cells rsumOf))],3⟩:=by
 intro E hE
 unfold g_w_bounds_kept_J3 at h
 obtain ⟨rBt4,hr5,h⟩:=bindSome h
 refine sR hE ⟨[(8,(aI out3)),(55,(aB rBt4))],[],243⟩ (C_70 508) [(14,⟨[],true,(aB rBt4),[],0,false,none⟩)] [] (kp [8,55]) [] 243 [0 < 1,0 < 1,0 < 1,0 < 1,0 < 1,Sd 52 [(aI (w64 ((w64 (4 * rsumOf.f_arm)) - (w64 (rsumOf.f_mass * p.fLn))))),(aI (w64 (0 - b.f_hog))),(aI b.f_hog)] [] 0 (aB rBt4) []] ⟨o1,o1,o1,o1,o1,(g_w_between_ok N (w64 ((w64 (4 * rsumOf.f_arm)) - (w64 (rsumOf.f_mass * p.fLn)))) (w64 (0 - b.f_hog)) b.f_hog rBt4 hr5),trivial⟩ ?_
 refine sC 55 (C_70 1018) (C_70 1019) rBt4 (fun hq5=>?_) (fun hq5=>?_)
 ·have h:=condT h hq5
  refine sR hE ⟨[(8,(aI (orI .i64 out3 8)))],[],291⟩ (C_70 1018) [] [] (kp [8]) [] 291 [] trivial ?_
  refine sA 1 [.code (C_70 510),.code (C_70 511)] ?_
  exact sW hE _ [] (kp [8]) [] 0 [] trivial (g_w_bounds_kept_J4_ok N (orI .i64 out3 8) _ h E hE)
 ·have h:=condF h hq5
  refine sA 2 [.code (C_70 510),.code (C_70 511)] ?_
  exact sW hE _ [] (kp [8]) [] 0 [] trivial (g_w_bounds_kept_J4_ok N out3 _ h E hE)
theorem g_w_bounds_kept_J2_ok (N:Nat) (b:Tw_bounds) (p:TPn) (rsumOf:Tw_sums) (out2:Int) (r:Int) (h:g_w_bounds_kept_J2 N b p rsumOf out2=some r):∀ E,EnvOk E 0→Runs Tryz.prog E 26 59 (SPost E [] (aI r)) [.code (C_70 252),.code (C_70 253),.code (C_70 127)] ⟨[(3,(.op 0 0 0)),(4,(.op 1 0 0)),(7,(.op 2 0 0)),(8,(aI out2))],[(0,vO 5 (Tw_bounds.cells b)),(1,vO 5 (TPn.cells p)),(2,vO 4 (Tw_sums.cells rsumOf))],3⟩:=by
 intro E hE
 unfold g_w_bounds_kept_J2 at h
 obtain ⟨rBt3,hr4,h⟩:=bindSome h
 refine sR hE ⟨[(3,(.op 0 0 0)),(4,(.op 1 0 0)),(7,(.op 2 0 0)),(8,(aI out2)),(38,(aB rBt3))],[(0,vO 5 (Tw_bounds.cells b)),(1,vO 5 (TPn.cells p)),(2,vO 4 (Tw_sums.cells rsumOf))],131⟩ (C_70 252) [(7,⟨[],true,(aB rBt3),[],0,false,none⟩)] [] (kp [3,4,7,8,38]) (kq [0,1,2]) 131 [0 < 1,0 < 1,0 < 1,Sd 52 [(aI rsumOf.f_y),(aI (w64 (0 - b.f_y))),(aI b.f_y)] [] 0 (aB rBt3) []] ⟨o1,o1,o1,(g_w_between_ok N rsumOf.f_y (w64 (0 - b.f_y)) b.f_y rBt3 hr4),trivial⟩ ?_
 refine sC 38 (C_70 506) (C_70 507) rBt3 (fun hq4=>?_) (fun hq4=>?_)
 ·have h:=condT h hq4
  refine sR hE ⟨[(3,(.op 0 0 0)),(4,(.op 1 0 0)),(7,(.op 2 0 0)),(8,(aI (orI .i64 out2 4)))],[(0,vO 5 (Tw_bounds.cells b)),(1,vO 5 (TPn.cells p)),(2,vO 4 (Tw_sums.cells rsumOf))],179⟩ (C_70 506) [] [] (kp [3,4,7,8]) (kq [0,1,2]) 179 [] trivial ?_
  refine sA 2 [.code (C_70 508),.code (C_70 509),.code (C_70 255)] ?_
  exact sW hE _ [] (kp [3,4,7,8]) (kq [0,1,2]) 3 [] trivial (g_w_bounds_kept_J3_ok N b p rsumOf (orI .i64 out2 4) _ h E hE)
 ·have h:=condF h hq4
  refine sA 3 [.code (C_70 508),.code (C_70 509),.code (C_70 255)] ?_
  exact sW hE _ [] (kp [3,4,7,8]) (kq [0,1,2]) 3 [] trivial (g_w_bounds_kept_J3_ok N b p rsumOf out2 _ h E hE)
theorem g_w_bounds_kept_J1_ok (N:Nat) (b:Tw_bounds) (p:TPn) (rsumOf:Tw_sums) (out:Int) (r:Int) (h:g_w_bounds_kept_J1 N b p rsumOf out=some r):∀ E,EnvOk E 0→Runs Tryz.prog E 26 59 (SPost E [] (aI r)) [.code (C_70 124),.code (C_70 125),.code (C_70 63)] ⟨[(3,(.op 0 0 0)),(4,(.op 1 0 0)),(7,(.op 2 0 0)),(8,(aI out))],[(0,vO 5 (Tw_bounds.cells b)),(1,vO 5 (TPn.cells p)),(2,vO 4 (Tw_sums.cells rsumOf))],3⟩:=by
 intro E hE
 unfold g_w_bounds_kept_J1 at h
 obtain ⟨rBt2,hr3,h⟩:=bindSome h
 refine sR hE ⟨[(3,(.op 0 0 0)),(4,(.op 1 0 0)),(7,(.op 2 0 0)),(8,(aI out)),(28,(aB rBt2))],[(0,vO 5 (Tw_bounds.cells b)),(1,vO 5 (TPn.cells p)),(2,vO 4 (Tw_sums.cells rsumOf))],131⟩ (C_70 124) [(7,⟨[],true,(aB rBt2),[],0,false,none⟩)] [] (kp [3,4,7,8,28]) (kq [0,1,2]) 131 [0 < 1,0 < 1,0 < 1,Sd 52 [(aI rsumOf.f_x),(aI (w64 (0 - b.f_x))),(aI b.f_x)] [] 0 (aB rBt2) []] ⟨o1,o1,o1,(g_w_between_ok N rsumOf.f_x (w64 (0 - b.f_x)) b.f_x rBt2 hr3),trivial⟩ ?_
 refine sC 28 (C_70 250) (C_70 251) rBt2 (fun hq3=>?_) (fun hq3=>?_)
 ·have h:=condT h hq3
  refine sR hE ⟨[(3,(.op 0 0 0)),(4,(.op 1 0 0)),(7,(.op 2 0 0)),(8,(aI (orI .i64 out 2)))],[(0,vO 5 (Tw_bounds.cells b)),(1,vO 5 (TPn.cells p)),(2,vO 4 (Tw_sums.cells rsumOf))],179⟩ (C_70 250) [] [] (kp [3,4,7,8]) (kq [0,1,2]) 179 [] trivial ?_
  refine sA 2 [.code (C_70 252),.code (C_70 253),.code (C_70 127)] ?_
  exact sW hE _ [] (kp [3,4,7,8]) (kq [0,1,2]) 3 [] trivial (g_w_bounds_kept_J2_ok N b p rsumOf (orI .i64 out 2) _ h E hE)
 ·have h:=condF h hq3
  refine sA 3 [.code (C_70 252),.code (C_70 253),.code (C_70 127)] ?_
  exact sW hE _ [] (kp [3,4,7,8]) (kq [0,1,2]) 3 [] trivial (g_w_bounds_kept_J2_ok N b p rsumOf out _ h E hE)
theorem g_w_bounds_kept_ok (N:Nat) (b:Tw_bounds) (p:TPn) (s:Tw_state) (r:Int) (h:g_w_bounds_kept N b p s=some r):Sd 26 [(.agg (Tw_bounds.cells b)),(.agg (TPn.cells p)),(.agg (Tw_state.cells s))] [] 0 (aI r) []:=by
 unfold g_w_bounds_kept at h
 refine Sound.of_runs (fu:=Tryz.f26) (c:=C_70 1) (nt:=59) (by kernel_rfl) (by kernel_rfl) (by kernel_rfl) (by kernel_rfl) (fun hm=>rfl) ?_
 intro E hE
 refine sA 1 [.code (C_70 2),.code (C_70 3)] ?_
 refine sR hE ⟨[(3,(.op 0 0 0)),(4,(.op 16 0 0)),(5,(.op 32 0 0))],[(0,vO 5 (Tw_bounds.cells b)),(16,vO 5 (TPn.cells p)),(32,vO 6 (Tw_state.cells s))],64⟩ (C_70 2) [] [] (kp [3,4,5]) (kq [0,16,32]) 64 [] trivial ?_
 refine sA 1 [.code (C_70 6),.code (C_70 7)] ?_
 obtain ⟨rsumOf,hr,h⟩:=bindSome h
 refine sR hE ⟨[(3,(.op 0 0 0)),(4,(.op 16 0 0)),(7,(.op 112 0 0))],[(0,vO 5 (Tw_bounds.cells b)),(16,vO 5 (TPn.cells p)),(112,vO 4 (Tw_sums.cells rsumOf))],144⟩ (C_70 6) [(2,⟨[],true,(.agg (Tw_sums.cells rsumOf)),[],0,false,none⟩)] [] (kp [3,4,7]) (kq [0,16,112]) 144 [0 < 1,0 < 1,Sd 45 [(.agg (TPn.cells p)),(.agg (Tw_state.cells s))] [] 0 (.agg (Tw_sums.cells rsumOf)) [],0 < 1] ⟨o1,o1,(g_w_sumOf_ok N p s rsumOf hr),o1,trivial⟩ ?_
 refine sA 1 [.code (C_70 14),.code (C_70 15)] ?_
 refine sR hE ⟨[(3,(.op 0 0 0)),(4,(.op 16 0 0)),(7,(.op 112 0 0)),(8,(aI 0))],[(0,vO 5 (Tw_bounds.cells b)),(16,vO 5 (TPn.cells p)),(112,vO 4 (Tw_sums.cells rsumOf))],160⟩ (C_70 14) [] [] (kp [3,4,7,8]) (kq [0,16,112]) 160 [] trivial ?_
 refine sA 2 [.code (C_70 60),.code (C_70 61),.code (C_70 31)] ?_
 obtain ⟨rBt,hr2,h⟩:=bindSome h
 refine sR hE ⟨[(3,(.op 0 0 0)),(4,(.op 16 0 0)),(7,(.op 112 0 0)),(8,(aI 0)),(18,(aB rBt))],[(0,vO 5 (Tw_bounds.cells b)),(16,vO 5 (TPn.cells p)),(112,vO 4 (Tw_sums.cells rsumOf))],272⟩ (C_70 60) [(6,⟨[],true,(aB rBt),[],0,false,none⟩)] [] (kp [3,4,7,8,18]) (kq [0,16,112]) 272 [0 < 1,0 < 1,0 < 1,Sd 52 [(aI rsumOf.f_mass),(aI b.f_low),(aI b.f_high)] [] 0 (aB rBt) []] ⟨o1,o1,o1,(g_w_between_ok N rsumOf.f_mass b.f_low b.f_high rBt hr2),trivial⟩ ?_
 refine sC 18 (C_70 122) (C_70 123) rBt (fun hq2=>?_) (fun hq2=>?_)
 ·have h:=condT h hq2
  refine sR hE ⟨[(3,(.op 0 0 0)),(4,(.op 16 0 0)),(7,(.op 112 0 0)),(8,(aI (orI .i64 0 1)))],[(0,vO 5 (Tw_bounds.cells b)),(16,vO 5 (TPn.cells p)),(112,vO 4 (Tw_sums.cells rsumOf))],320⟩ (C_70 122) [] [] (kp [3,4,7,8]) (kq [0,16,112]) 320 [] trivial ?_
  refine sA 2 [.code (C_70 124),.code (C_70 125),.code (C_70 63)] ?_
  exact sW hE _ [] (kp [3,4,7,8]) (kq [0] ++ [(1,.keep 16),(2,.keep 112)]) 3 [] trivial (g_w_bounds_kept_J1_ok N b p rsumOf (orI .i64 0 1) _ h E hE)
 ·have h:=condF h hq2
  refine sA 3 [.code (C_70 124),.code (C_70 125),.code (C_70 63)] ?_
  exact sW hE _ [] (kp [3,4,7,8]) (kq [0] ++ [(1,.keep 16),(2,.keep 112)]) 3 [] trivial (g_w_bounds_kept_J1_ok N b p rsumOf 0 _ h E hE)
noncomputable def C_71 (n:Nat):Code:=cat (bodyOf Tryz.f25) (pth n)
theorem g_w_following_L1_ok (N:Nat) (p:TPn) (fuel:Nat):∀ (s2:Tw_state) (x:Int) (r:Tw_state×Bool),g_w_following_L1 N p fuel s2 x=some r→∀ E,EnvOk E 0→Runs Tryz.prog E 25 32 (SPost E [] (.tup [(.agg (Tw_state.cells r.1)),(aB r.2)])) [.code (C_71 52),.inLoop (C_71 52),.inBlock 0,.code (C_71 7)] ⟨[(3,(.op 0 0 0)),(4,(.op 1 0 0)),(9,(encL TTank.cells TTank.d p.fTk)),(10,(aI ((p.fTk.length:Nat):Int))),(11,(aI x))],[(0,vO 6 (Tw_state.cells s2)),(1,vO 6 [(aI 0),(aI 0),(aI 0),(aI 0),(aI 0),(aI 0)])],2⟩:=by
 induction fuel with
 | zero=>intro _ _ r h;rw [g_w_following_L1.eq_1] at h;cases h
 | succ fuel ih =>
  intro s2 x r h E hE
  rw [g_w_following_L1.eq_2] at h
  refine sA 1 [.code (C_71 104),.code (C_71 105),.inLoop (C_71 52),.inBlock 0,.code (C_71 7)] ?_
  refine sR hE ⟨[(3,(.op 0 0 0)),(4,(.op 1 0 0)),(9,(encL TTank.cells TTank.d p.fTk)),(10,(aI ((p.fTk.length:Nat):Int))),(11,(aI x)),(12,(aB (decide (x < ((p.fTk.length:Nat):Int)))))],[(0,vO 6 (Tw_state.cells s2)),(1,vO 6 [(aI 0),(aI 0),(aI 0),(aI 0),(aI 0),(aI 0)])],18⟩ (C_71 104) [] [] (kp [3,4,9,10,11,12]) (kq [0,1]) 18 [] trivial ?_
  refine sA 1 [.code (C_71 210),.code (C_71 211),.inLoop (C_71 52),.inBlock 0,.code (C_71 7)] ?_
  refine sC 12 (C_71 420) (C_71 421) (decide (x < ((p.fTk.length:Nat):Int))) (fun hq2=>?_) (fun hq2=>?_)
  ·have h:=condT h hq2
   refine sA 4 [.code (C_71 1688),.code (C_71 1689),.inBlock 1,.code (C_71 423),.inLoop (C_71 52),.inBlock 0,.code (C_71 7)] ?_
   obtain ⟨c,h⟩:=ifSome h
   refine sR hE ⟨[(3,(.op 0 0 0)),(4,(.op 1 0 0)),(6,(aI x)),(7,(.op 66 0 0)),(9,(encL TTank.cells TTank.d p.fTk)),(10,(aI ((p.fTk.length:Nat):Int))),(11,(aI x))],[(0,vO 6 (Tw_state.cells s2)),(1,vO 6 [(aI 0),(aI 0),(aI 0),(aI 0),(aI 0),(aI 0)]),(66,vO 5 (TTank.cells (p.fTk.getD ((x).toNat) TTank.d)))],114⟩ (C_71 1688) [] [] (kp [3,4,6,7,9,10,11]) (kq [0,1,66]) 114 [0≤x∧x < ((p.fTk.length:Nat):Int),0 < 1] ⟨c,o1,trivial⟩ ?_
   refine sA 2 [.code (C_71 6756),.code (C_71 6757),.code (C_71 3379),.inBlock 1,.code (C_71 423),.inLoop (C_71 52),.inBlock 0,.code (C_71 7)] ?_
   obtain ⟨c2,h⟩:=ifSome h
   refine sR hE ⟨[(3,(.op 0 0 0)),(4,(.op 1 0 0)),(6,(aI x)),(9,(encL TTank.cells TTank.d p.fTk)),(10,(aI ((p.fTk.length:Nat):Int))),(11,(aI x)),(21,(aB (decide ((pickI [s2.e0,s2.e1,s2.e2,s2.e3,s2.e4,s2.e5] ((x).toNat)) < (p.fTk.getD ((x).toNat) TTank.d).f_Steps))))],[(0,vO 6 (Tw_state.cells s2)),(1,vO 6 [(aI 0),(aI 0),(aI 0),(aI 0),(aI 0),(aI 0)])],210⟩ (C_71 6756) [] [] (kp [3,4,6,9,10,11,21]) (kq [0,1]) 210 [0≤x∧x < ((6:Nat):Int),0 < 1,0 < 1] ⟨c2,o1,o1,trivial⟩ ?_
   refine sC 21 (C_71 13514) (C_71 13515) (decide ((pickI [s2.e0,s2.e1,s2.e2,s2.e3,s2.e4,s2.e5] ((x).toNat)) < (p.fTk.getD ((x).toNat) TTank.d).f_Steps)) (fun hq3=>?_) (fun hq3=>?_)
   ·have h:=condT h hq3
    refine sA 1 [.code (C_71 27028),.code (C_71 27029),.code (C_71 3379),.inBlock 1,.code (C_71 423),.inLoop (C_71 52),.inBlock 0,.code (C_71 7)] ?_
    refine sR hE ⟨[(3,(.op 0 0 0)),(4,(.op 1 0 0))],[(0,vO 6 [(aI (setI ((x).toNat) 0 (w64 ((pickI [s2.e0,s2.e1,s2.e2,s2.e3,s2.e4,s2.e5] ((x).toNat))+1)) s2.e0)),(aI (setI ((x).toNat) 1 (w64 ((pickI [s2.e0,s2.e1,s2.e2,s2.e3,s2.e4,s2.e5] ((x).toNat))+1)) s2.e1)),(aI (setI ((x).toNat) 2 (w64 ((pickI [s2.e0,s2.e1,s2.e2,s2.e3,s2.e4,s2.e5] ((x).toNat))+1)) s2.e2)),(aI (setI ((x).toNat) 3 (w64 ((pickI [s2.e0,s2.e1,s2.e2,s2.e3,s2.e4,s2.e5] ((x).toNat))+1)) s2.e3)),(aI (setI ((x).toNat) 4 (w64 ((pickI [s2.e0,s2.e1,s2.e2,s2.e3,s2.e4,s2.e5] ((x).toNat))+1)) s2.e4)),(aI (setI ((x).toNat) 5 (w64 ((pickI [s2.e0,s2.e1,s2.e2,s2.e3,s2.e4,s2.e5] ((x).toNat))+1)) s2.e5))]),(1,vO 6 [(aI 0),(aI 0),(aI 0),(aI 0),(aI 0),(aI 0)])],306⟩ (C_71 27028) [] [] (kp [3,4]) (kq [0,1]) 306 [0≤x∧x < ((6:Nat):Int),0 < 1,0≤x∧x < ((6:Nat):Int),0 < 1] ⟨c2,o1,c2,o1,trivial⟩ ?_
    refine sA 1 [.code (C_71 54058),.code (C_71 54059),.code (C_71 3379),.inBlock 1,.code (C_71 423),.inLoop (C_71 52),.inBlock 0,.code (C_71 7)] ?_
    refine sR hE ⟨[(4,(.op 1 0 0)),(5,(aB true))],[(1,vO 6 [(aI (setI ((x).toNat) 0 (w64 ((pickI [s2.e0,s2.e1,s2.e2,s2.e3,s2.e4,s2.e5] ((x).toNat))+1)) s2.e0)),(aI (setI ((x).toNat) 1 (w64 ((pickI [s2.e0,s2.e1,s2.e2,s2.e3,s2.e4,s2.e5] ((x).toNat))+1)) s2.e1)),(aI (setI ((x).toNat) 2 (w64 ((pickI [s2.e0,s2.e1,s2.e2,s2.e3,s2.e4,s2.e5] ((x).toNat))+1)) s2.e2)),(aI (setI ((x).toNat) 3 (w64 ((pickI [s2.e0,s2.e1,s2.e2,s2.e3,s2.e4,s2.e5] ((x).toNat))+1)) s2.e3)),(aI (setI ((x).toNat) 4 (w64 ((pickI [s2.e0,s2.e1,s2.e2,s2.e3,s2.e4,s2.e5] ((x).toNat))+1)) s2.e4)),(aI (setI ((x).toNat) 5 (w64 ((pickI [s2.e0,s2.e1,s2.e2,s2.e3,s2.e4,s2.e5] ((x).toNat))+1)) s2.e5))])],354⟩ (C_71 54058) [] [] (kp [4,5]) (kq [1]) 354 [0 < 1,0 < 1] ⟨o1,o1,trivial⟩ ?_
    obtain rfl:=Option.some.inj h
    refine sW hE ⟨[(4,(.op 16 0 0)),(5,(aB true))],[(16,vO 6 [(aI (setI ((x).toNat) 0 (w64 ((pickI [s2.e0,s2.e1,s2.e2,s2.e3,s2.e4,s2.e5] ((x).toNat))+1)) s2.e0)),(aI (setI ((x).toNat) 1 (w64 ((pickI [s2.e0,s2.e1,s2.e2,s2.e3,s2.e4,s2.e5] ((x).toNat))+1)) s2.e1)),(aI (setI ((x).toNat) 2 (w64 ((pickI [s2.e0,s2.e1,s2.e2,s2.e3,s2.e4,s2.e5] ((x).toNat))+1)) s2.e2)),(aI (setI ((x).toNat) 3 (w64 ((pickI [s2.e0,s2.e1,s2.e2,s2.e3,s2.e4,s2.e5] ((x).toNat))+1)) s2.e3)),(aI (setI ((x).toNat) 4 (w64 ((pickI [s2.e0,s2.e1,s2.e2,s2.e3,s2.e4,s2.e5] ((x).toNat))+1)) s2.e4)),(aI (setI ((x).toNat) 5 (w64 ((pickI [s2.e0,s2.e1,s2.e2,s2.e3,s2.e4,s2.e5] ((x).toNat))+1)) s2.e5))])],354⟩ [] (kp [4,5]) [(16,.keep 1)] 354 [] trivial ?_
    exact sT Tryz.f25 [16] [0 < 1] ⟨o1,trivial⟩
   ·have h:=condF h hq3
    refine sA 1 [.code (C_71 3379),.inBlock 1,.code (C_71 423),.inLoop (C_71 52),.inBlock 0,.code (C_71 7)] ?_
    refine sR hE ⟨[(3,(.op 0 0 0)),(4,(.op 1 0 0)),(9,(encL TTank.cells TTank.d p.fTk)),(10,(aI ((p.fTk.length:Nat):Int))),(11,(aI x))],[(0,vO 6 [(aI (setI ((x).toNat) 0 0 s2.e0)),(aI (setI ((x).toNat) 1 0 s2.e1)),(aI (setI ((x).toNat) 2 0 s2.e2)),(aI (setI ((x).toNat) 3 0 s2.e3)),(aI (setI ((x).toNat) 4 0 s2.e4)),(aI (setI ((x).toNat) 5 0 s2.e5))]),(1,vO 6 [(aI 0),(aI 0),(aI 0),(aI 0),(aI 0),(aI 0)])],258⟩ (C_71 3379) [] [] (kp [3,4,9,10,11]) (kq [0,1]) 258 [0≤x∧x < ((6:Nat):Int),0 < 1] ⟨c2,o1,trivial⟩ ?_
    refine sA 1 [.code (C_71 423),.inLoop (C_71 52),.inBlock 0,.code (C_71 7)] ?_
    refine sR hE ⟨[(3,(.op 0 0 0)),(4,(.op 1 0 0)),(9,(encL TTank.cells TTank.d p.fTk)),(10,(aI ((p.fTk.length:Nat):Int))),(11,(aI (w64 (x+1))))],[(0,vO 6 [(aI (setI ((x).toNat) 0 0 s2.e0)),(aI (setI ((x).toNat) 1 0 s2.e1)),(aI (setI ((x).toNat) 2 0 s2.e2)),(aI (setI ((x).toNat) 3 0 s2.e3)),(aI (setI ((x).toNat) 4 0 s2.e4)),(aI (setI ((x).toNat) 5 0 s2.e5))]),(1,vO 6 [(aI 0),(aI 0),(aI 0),(aI 0),(aI 0),(aI 0)])],290⟩ (C_71 423) [] [] (kp [3,4,9,10,11]) (kq [0,1]) 290 [] trivial ?_
    refine sA 1 [.code (C_71 52),.inLoop (C_71 52),.inBlock 0,.code (C_71 7)] ?_
    exact sW hE _ [] (kp [3,4,9,10,11]) (kq [0,1]) 2 [] trivial (ih (⟨(setI ((x).toNat) 0 0 s2.e0),(setI ((x).toNat) 1 0 s2.e1),(setI ((x).toNat) 2 0 s2.e2),(setI ((x).toNat) 3 0 s2.e3),(setI ((x).toNat) 4 0 s2.e4),(setI ((x).toNat) 5 0 s2.e5)⟩:Tw_state) (w64 (x+1)) _ h E hE)
  ·have h:=condF h hq2
   refine sA 2 [.code (C_71 14),.code (C_71 15)] ?_
   refine sR hE ⟨[(4,(.op 1 0 0)),(5,(aB false))],[(1,vO 6 (Tw_state.cells s2))],66⟩ (C_71 14) [] [] (kp [4,5]) (kq [1]) 66 [0 < 1,0 < 1] ⟨o1,o1,trivial⟩ ?_
   obtain rfl:=Option.some.inj h
   refine sW hE ⟨[(4,(.op 16 0 0)),(5,(aB false))],[(16,vO 6 (Tw_state.cells s2))],66⟩ [] (kp [4,5]) [(16,.keep 1)] 66 [] trivial ?_
   exact sT Tryz.f25 [16] [0 < 1] ⟨o1,trivial⟩
theorem g_w_following_ok (N:Nat) (p:TPn) (s:Tw_state) (r:Tw_state×Bool) (h:g_w_following N p s=some r):Sd 25 [(.agg (TPn.cells p)),(.agg (Tw_state.cells s))] [] 0 (.tup [(.agg (Tw_state.cells r.1)),(aB r.2)]) []:=by
 unfold g_w_following at h
 refine Sound.of_runs (fu:=Tryz.f25) (c:=C_71 1) (nt:=32) (by kernel_rfl) (by kernel_rfl) (by kernel_rfl) (by kernel_rfl) (fun hm=>rfl) ?_
 intro E hE
 refine sA 1 [.code (C_71 2),.code (C_71 3)] ?_
 refine sR hE ⟨[(2,(.op 0 0 0)),(3,(.op 16 0 0)),(4,(.op 32 0 0))],[(0,vO 5 (TPn.cells p)),(16,vO 6 (Tw_state.cells s)),(32,vO 6 [(aI 0),(aI 0),(aI 0),(aI 0),(aI 0),(aI 0)])],64⟩ (C_71 2) [] [] (kp [2,3,4]) (kq [0,16,32]) 64 [] trivial ?_
 refine sA 2 [.code (C_71 12),.code (C_71 13),.code (C_71 7)] ?_
 refine sR hE ⟨[(3,(.op 16 0 0)),(4,(.op 32 0 0)),(9,(encL TTank.cells TTank.d p.fTk)),(10,(aI ((p.fTk.length:Nat):Int))),(11,(aI 0))],[(16,vO 6 (Tw_state.cells s)),(32,vO 6 [(aI 0),(aI 0),(aI 0),(aI 0),(aI 0),(aI 0)])],128⟩ (C_71 12) [] [] (kp [3,4,9,10,11]) (kq [16,32]) 128 [0 < 1] ⟨o1,trivial⟩ ?_
 refine sA 2 [.code (C_71 52),.inLoop (C_71 52),.inBlock 0,.code (C_71 7)] ?_
 exact sW hE _ [] (kp [3,4,9,10,11]) [(0,.keep 16),(1,.keep 32)] 2 [] trivial (g_w_following_L1_ok N p N s 0 _ h E hE)
noncomputable def C_72 (n:Nat):Code:=cat (bodyOf Tryz.f27) (pth n)
theorem g_w_Conflict_1_L1_ok (N:Nat) (bits:Int) (cap0:TS__16_bool) (fuel:Nat):∀ (x:Int) (r:Bool),g_w_Conflict_1_L1 N bits cap0 fuel x=some r→∀ E,EnvOk E 1→Runs Tryz.prog E 27 20 (SPost E [(0,vO 16 (TS__16_bool.cells cap0))] (aB r)) [.code (C_72 52),.inLoop (C_72 52),.inBlock 0,.code (C_72 7)] ⟨[(0,(aI bits)),(6,(.agg (TS__16_bool.cells cap0))),(7,(aI x))],[(0,vO 16 (TS__16_bool.cells cap0))],1⟩:=by
 induction fuel with
 | zero=>intro _ r h;rw [g_w_Conflict_1_L1.eq_1] at h;cases h
 | succ fuel ih =>
  intro x r h E hE
  rw [g_w_Conflict_1_L1.eq_2] at h
  refine sA 1 [.code (C_72 104),.code (C_72 105),.inLoop (C_72 52),.inBlock 0,.code (C_72 7)] ?_
  refine sR hE ⟨[(0,(aI bits)),(6,(.agg (TS__16_bool.cells cap0))),(7,(aI x)),(8,(aB (decide (x < 16))))],[(0,vO 16 (TS__16_bool.cells cap0))],17⟩ (C_72 104) [] [] (kp [0,6,7,8]) (kq [0]) 17 [] trivial ?_
  refine sA 1 [.code (C_72 210),.code (C_72 211),.inLoop (C_72 52),.inBlock 0,.code (C_72 7)] ?_
  refine sC 8 (C_72 420) (C_72 421) (decide (x < 16)) (fun hq2=>?_) (fun hq2=>?_)
  ·have h:=condT h hq2
   refine sA 4 [.code (C_72 1688),.code (C_72 1689),.inBlock 1,.code (C_72 423),.inLoop (C_72 52),.inBlock 0,.code (C_72 7)] ?_
   obtain ⟨c,h⟩:=ifSome h
   refine sR hE ⟨[(0,(aI bits)),(4,(aI x)),(5,(aB (pickB [cap0.e0,cap0.e1,cap0.e2,cap0.e3,cap0.e4,cap0.e5,cap0.e6,cap0.e7,cap0.e8,cap0.e9,cap0.e10,cap0.e11,cap0.e12,cap0.e13,cap0.e14,cap0.e15] ((x).toNat)))),(6,(.agg (TS__16_bool.cells cap0))),(7,(aI x))],[(0,vO 16 (TS__16_bool.cells cap0))],81⟩ (C_72 1688) [] [] (kp [0,4,5,6,7]) (kq [0]) 81 [0≤x∧x < ((16:Nat):Int)] ⟨c,trivial⟩ ?_
   refine sA 1 [.code (C_72 3378),.code (C_72 3379),.inBlock 1,.code (C_72 423),.inLoop (C_72 52),.inBlock 0,.code (C_72 7)] ?_
   refine sR hE ⟨[(0,(aI bits)),(6,(.agg (TS__16_bool.cells cap0))),(7,(aI x)),(18,(aB (cond (pickB [cap0.e0,cap0.e1,cap0.e2,cap0.e3,cap0.e4,cap0.e5,cap0.e6,cap0.e7,cap0.e8,cap0.e9,cap0.e10,cap0.e11,cap0.e12,cap0.e13,cap0.e14,cap0.e15] ((x).toNat)) ((andI .i64 x bits) == bits) false)))],[(0,vO 16 (TS__16_bool.cells cap0))],209⟩ (C_72 3378) [] [] (kp [0,6,7,18]) (kq [0]) 209 [(pickB [cap0.e0,cap0.e1,cap0.e2,cap0.e3,cap0.e4,cap0.e5,cap0.e6,cap0.e7,cap0.e8,cap0.e9,cap0.e10,cap0.e11,cap0.e12,cap0.e13,cap0.e14,cap0.e15] ((x).toNat))=true→AllP [(pickB [cap0.e0,cap0.e1,cap0.e2,cap0.e3,cap0.e4,cap0.e5,cap0.e6,cap0.e7,cap0.e8,cap0.e9,cap0.e10,cap0.e11,cap0.e12,cap0.e13,cap0.e14,cap0.e15] ((x).toNat))=true,(pickB [cap0.e0,cap0.e1,cap0.e2,cap0.e3,cap0.e4,cap0.e5,cap0.e6,cap0.e7,cap0.e8,cap0.e9,cap0.e10,cap0.e11,cap0.e12,cap0.e13,cap0.e14,cap0.e15] ((x).toNat))=true],(pickB [cap0.e0,cap0.e1,cap0.e2,cap0.e3,cap0.e4,cap0.e5,cap0.e6,cap0.e7,cap0.e8,cap0.e9,cap0.e10,cap0.e11,cap0.e12,cap0.e13,cap0.e14,cap0.e15] ((x).toNat))=true→AllP [(pickB [cap0.e0,cap0.e1,cap0.e2,cap0.e3,cap0.e4,cap0.e5,cap0.e6,cap0.e7,cap0.e8,cap0.e9,cap0.e10,cap0.e11,cap0.e12,cap0.e13,cap0.e14,cap0.e15] ((x).toNat))=true,(pickB [cap0.e0,cap0.e1,cap0.e2,cap0.e3,cap0.e4,cap0.e5,cap0.e6,cap0.e7,cap0.e8,cap0.e9,cap0.e10,cap0.e11,cap0.e12,cap0.e13,cap0.e14,cap0.e15] ((x).toNat))=true],(pickB [cap0.e0,cap0.e1,cap0.e2,cap0.e3,cap0.e4,cap0.e5,cap0.e6,cap0.e7,cap0.e8,cap0.e9,cap0.e10,cap0.e11,cap0.e12,cap0.e13,cap0.e14,cap0.e15] ((x).toNat))=true→AllP [(pickB [cap0.e0,cap0.e1,cap0.e2,cap0.e3,cap0.e4,cap0.e5,cap0.e6,cap0.e7,cap0.e8,cap0.e9,cap0.e10,cap0.e11,cap0.e12,cap0.e13,cap0.e14,cap0.e15] ((x).toNat))=true]] ⟨(fun hg=>⟨hg,hg,trivial⟩),(fun hg=>⟨hg,hg,trivial⟩),(fun hq=>⟨hq,trivial⟩),trivial⟩ ?_
   refine sC 18 (C_72 6758) (C_72 6759) (cond (pickB [cap0.e0,cap0.e1,cap0.e2,cap0.e3,cap0.e4,cap0.e5,cap0.e6,cap0.e7,cap0.e8,cap0.e9,cap0.e10,cap0.e11,cap0.e12,cap0.e13,cap0.e14,cap0.e15] ((x).toNat)) ((andI .i64 x bits) == bits) false) (fun hq3=>?_) (fun hq3=>?_)
   ·have h:=condT h hq3
    refine sA 1 [.code (C_72 13516),.code (C_72 13517),.inBlock 1,.code (C_72 423),.inLoop (C_72 52),.inBlock 0,.code (C_72 7)] ?_
    refine sR hE ⟨[(3,(aB true))],[(0,vO 16 (TS__16_bool.cells cap0))],225⟩ (C_72 13516) [] [] (kp [3]) (kq [0]) 225 [] trivial ?_
    obtain rfl:=Option.some.inj h
    refine sW hE ⟨[(3,(aB true))],[(0,vO 16 (TS__16_bool.cells cap0))],225⟩ [] (kp [3]) (kq [0]) 225 [] trivial ?_
    exact sT Tryz.f27 [] [] trivial
   ·have h:=condF h hq3
    refine sA 2 [.code (C_72 423),.inLoop (C_72 52),.inBlock 0,.code (C_72 7)] ?_
    refine sR hE ⟨[(0,(aI bits)),(6,(.agg (TS__16_bool.cells cap0))),(7,(aI (w64 (x+1))))],[(0,vO 16 (TS__16_bool.cells cap0))],241⟩ (C_72 423) [] [] (kp [0,6,7]) (kq [0]) 241 [] trivial ?_
    refine sA 1 [.code (C_72 52),.inLoop (C_72 52),.inBlock 0,.code (C_72 7)] ?_
    exact sW hE _ [] (kp [0,6,7]) (kq [0]) 1 [] trivial (ih (w64 (x+1)) _ h E hE)
  ·have h:=condF h hq2
   refine sA 2 [.code (C_72 14),.code (C_72 15)] ?_
   refine sR hE ⟨[(3,(aB false))],[(0,vO 16 (TS__16_bool.cells cap0))],33⟩ (C_72 14) [] [] (kp [3]) (kq [0]) 33 [] trivial ?_
   obtain rfl:=Option.some.inj h
   refine sW hE ⟨[(3,(aB false))],[(0,vO 16 (TS__16_bool.cells cap0))],49⟩ [] (kp [3]) (kq [0]) 49 [] trivial ?_
   exact sT Tryz.f27 [] [] trivial
theorem g_w_Conflict_1_ok (N:Nat) (bits:Int) (cap0:TS__16_bool) (r:Bool) (h:g_w_Conflict_1 N bits cap0=some r):Sd 27 [(aI bits),(.op 0 0 0)] [(0,vO 16 (TS__16_bool.cells cap0))] 1 (aB r) [(0,vO 16 (TS__16_bool.cells cap0))]:=by
 unfold g_w_Conflict_1 at h
 refine Sound.of_runs (fu:=Tryz.f27) (c:=C_72 1) (nt:=20) (by kernel_rfl) (by kernel_rfl) (by kernel_rfl) (by kernel_rfl) (fun hm=>absurd hm (by decide)) ?_
 intro E hE
 refine sA 1 [.code (C_72 2),.code (C_72 3)] ?_
 refine sR hE ⟨[(0,(aI bits)),(1,(.op 0 0 0))],[(0,vO 16 (TS__16_bool.cells cap0))],17⟩ (C_72 2) [] [] (kp [0,1]) (kq [0]) 17 [] trivial ?_
 refine sA 2 [.code (C_72 12),.code (C_72 13),.code (C_72 7)] ?_
 refine sR hE ⟨[(0,(aI bits)),(6,(.agg (TS__16_bool.cells cap0))),(7,(aI 0))],[(0,vO 16 (TS__16_bool.cells cap0))],49⟩ (C_72 12) [] [] (kp [0,6,7]) (kq [0]) 49 [0 < 1] ⟨o1,trivial⟩ ?_
 refine sA 2 [.code (C_72 52),.inLoop (C_72 52),.inBlock 0,.code (C_72 7)] ?_
 exact sW hE _ [] (kp [0,6,7]) (kq [0]) 1 [] trivial (g_w_Conflict_1_L1_ok N bits cap0 N 0 _ h E hE)
end Go.Den
