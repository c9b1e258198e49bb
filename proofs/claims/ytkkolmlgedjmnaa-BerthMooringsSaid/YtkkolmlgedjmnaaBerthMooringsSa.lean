/- Each function of the program does what its Lean function computes (part 1). No conditions. -/
import Derived.Test.YtkkolmlgedjmnaaBerthMooringsDen
import Derived.Test.YtkkolmlgedjmnaaProg
set_option linter.unusedVariables false
set_option maxRecDepth 100000
namespace Go.Den
open Go.Ab Go.Proofs
noncomputable def C_5 (n:Nat):Code:=cat (bodyOf Try.f41) (pth n)
theorem g_berth_CheckLines_1_ok (N:Nat) (x:TLine) (r:ByteArray) (h:g_berth_CheckLines_1 N x = some r):Sound Try.prog 41 [(.agg (TLine.cells x))] [] 0 (aS r) []:=by
  unfold g_berth_CheckLines_1 at h
  refine Sound.of_runs (fu:=Try.f41) (c:=C_5 1) (nt:=5) (by kernel_rfl) (by kernel_rfl) (by kernel_rfl) (by kernel_rfl) (fun hm=>rfl) ?_
  intro E hE
  refine Runs.sA 1 [.code (C_5 2),.code (C_5 3)] ?_
  refine Runs.sR hE ⟨[(1,(.op 0 0 0))],[(0,vO 6 (TLine.cells x))],32⟩ (C_5 2) [] [] (kp [1]) (kq [0]) 32 [] trivial ?_
  refine Runs.sA 1 [.code (C_5 6),.code (C_5 7)] ?_
  refine Runs.sR hE ⟨[(2,(aS x.f_Name))],[],80⟩ (C_5 6) [] [] (kp [2]) [] 80 [0 < 1] ⟨o1,trivial⟩ ?_
  obtain rfl:=Option.some.inj h
  refine Runs.sW hE ⟨[(2,(aS x.f_Name))],[],80⟩ [] (kp [2]) [] 80 [] trivial ?_
  exact Runs.sT Try.f41 [] [] trivial
noncomputable def C_6 (n:Nat):Code:=cat (bodyOf Try.f76) (pth n)
theorem g_berth_named_L1_ok (N:Nat) (s:ByteArray) (fuel:Nat):∀ (x:Int) (r:Bool),g_berth_named_L1 N s fuel x = some r→∀ E,EnvOk E 0→Runs Try.prog E 76 57 (SPost E [] (aB r)) [.code (C_6 116),.inLoop (C_6 116),.inBlock 0,.code (C_6 15)] ⟨[(0,(aS s)),(15,(aI ((s.size:Nat):Int))),(16,(aI x))],[],0⟩:=by
  induction fuel with
  | zero=>intro _ r h; rw [g_berth_named_L1.eq_1] at h; cases h
  | succ fuel ih =>
    intro x r h E hE
    rw [g_berth_named_L1.eq_2] at h
    refine Runs.sA 1 [.code (C_6 232),.code (C_6 233),.inLoop (C_6 116),.inBlock 0,.code (C_6 15)] ?_
    refine Runs.sR hE ⟨[(0,(aS s)),(15,(aI ((s.size:Nat):Int))),(16,(aI x)),(17,(aB (decide (x < ((s.size:Nat):Int)))))],[],16⟩ (C_6 232) [] [] (kp [0,15,16,17]) [] 16 [] trivial ?_
    refine Runs.sA 1 [.code (C_6 466),.code (C_6 467),.inLoop (C_6 116),.inBlock 0,.code (C_6 15)] ?_
    refine Runs.sC 17 (C_6 932) (C_6 933) (decide (x < ((s.size:Nat):Int))) (fun hq3=>?_) (fun hq3=>?_)
    · have h:=condT h hq3
      refine Runs.sA 4 [.code (C_6 3736),.code (C_6 3737),.inBlock 1,.code (C_6 935),.inLoop (C_6 116),.inBlock 0,.code (C_6 15)] ?_
      refine Runs.sR hE ⟨[(0,(aS s)),(3,(aI x)),(15,(aI ((s.size:Nat):Int))),(16,(aI x))],[],48⟩ (C_6 3736) [] [] (kp [0,3,15,16]) [] 48 [] trivial ?_
      refine Runs.sA 1 [.code (C_6 7474),.code (C_6 7475),.inBlock 1,.code (C_6 935),.inLoop (C_6 116),.inBlock 0,.code (C_6 15)] ?_
      obtain ⟨c,h⟩:=ifSome h
      refine Runs.sR hE ⟨[(0,(aS s)),(3,(aI x)),(4,(.atom (.int .u8 (byteAt s ((x).toNat))))),(15,(aI ((s.size:Nat):Int))),(16,(aI x))],[],112⟩ (C_6 7474) [] [] (kp [0,3,4,15,16]) [] 112 [0≤x∧x < ((s.size:Nat):Int)] ⟨c,trivial⟩ ?_
      refine Runs.sA 1 [.code (C_6 14950),.code (C_6 14951),.inBlock 1,.code (C_6 935),.inLoop (C_6 116),.inBlock 0,.code (C_6 15)] ?_
      refine Runs.sR hE ⟨[(0,(aS s)),(3,(aI x)),(4,(.atom (.int .u8 (byteAt s ((x).toNat))))),(5,(aB (cond (cond (decide ((byteAt s ((x).toNat)) ≥ 97)) (decide ((byteAt s ((x).toNat))≤122)) false) true (cond (decide ((byteAt s ((x).toNat)) ≥ 65)) (decide ((byteAt s ((x).toNat))≤90)) false)))),(15,(aI ((s.size:Nat):Int))),(16,(aI x))],[],352⟩ (C_6 14950) [] [] (kp [0,3,4,5,15,16]) [] 352 [(decide ((byteAt s ((x).toNat)) ≥ 97)) = true→AllP [(decide ((byteAt s ((x).toNat)) ≥ 97)) = true],(decide ((byteAt s ((x).toNat)) ≥ 97)) = true→AllP [(decide ((byteAt s ((x).toNat)) ≥ 97)) = true],(!(cond (decide ((byteAt s ((x).toNat)) ≥ 97)) (decide ((byteAt s ((x).toNat))≤122)) false)) = true→AllP [(!(cond (decide ((byteAt s ((x).toNat)) ≥ 97)) (decide ((byteAt s ((x).toNat))≤122)) false)) = true],((!(cond (decide ((byteAt s ((x).toNat)) ≥ 97)) (decide ((byteAt s ((x).toNat))≤122)) false)) && ((!(cond (decide ((byteAt s ((x).toNat)) ≥ 97)) (decide ((byteAt s ((x).toNat))≤122)) false)) && (decide ((byteAt s ((x).toNat)) ≥ 65)))) = true→AllP [((!(cond (decide ((byteAt s ((x).toNat)) ≥ 97)) (decide ((byteAt s ((x).toNat))≤122)) false)) && ((!(cond (decide ((byteAt s ((x).toNat)) ≥ 97)) (decide ((byteAt s ((x).toNat))≤122)) false)) && (decide ((byteAt s ((x).toNat)) ≥ 65)))) = true],(!(cond (decide ((byteAt s ((x).toNat)) ≥ 97)) (decide ((byteAt s ((x).toNat))≤122)) false)) = true→AllP [(!(cond (decide ((byteAt s ((x).toNat)) ≥ 97)) (decide ((byteAt s ((x).toNat))≤122)) false)) = true,(!(cond (decide ((byteAt s ((x).toNat)) ≥ 97)) (decide ((byteAt s ((x).toNat))≤122)) false)) = true,(decide ((byteAt s ((x).toNat)) ≥ 65)) = true→AllP [((!(cond (decide ((byteAt s ((x).toNat)) ≥ 97)) (decide ((byteAt s ((x).toNat))≤122)) false)) && ((!(cond (decide ((byteAt s ((x).toNat)) ≥ 97)) (decide ((byteAt s ((x).toNat))≤122)) false)) && (decide ((byteAt s ((x).toNat)) ≥ 65)))) = true]],(!(cond (decide ((byteAt s ((x).toNat)) ≥ 97)) (decide ((byteAt s ((x).toNat))≤122)) false)) = true→AllP [(!(cond (decide ((byteAt s ((x).toNat)) ≥ 97)) (decide ((byteAt s ((x).toNat))≤122)) false)) = true]] ⟨(fun hg=>⟨hg,trivial⟩),(fun hq=>⟨hq,trivial⟩),(fun hg=>⟨hg,trivial⟩),(fun hg=>⟨hg,trivial⟩),(fun hg=>⟨hg,hg,(fun hq=>⟨(andI' hg (andI' hg hq)),trivial⟩),trivial⟩),(fun hq=>⟨hq,trivial⟩),trivial⟩ ?_
      refine Runs.sA 1 [.code (C_6 29902),.code (C_6 29903),.inBlock 1,.code (C_6 935),.inLoop (C_6 116),.inBlock 0,.code (C_6 15)] ?_
      refine Runs.sR hE ⟨[(0,(aS s)),(3,(aI x)),(5,(aB (cond (cond (decide ((byteAt s ((x).toNat)) ≥ 97)) (decide ((byteAt s ((x).toNat))≤122)) false) true (cond (decide ((byteAt s ((x).toNat)) ≥ 65)) (decide ((byteAt s ((x).toNat))≤90)) false)))),(6,(aB (cond (cond (decide ((byteAt s ((x).toNat)) ≥ 48)) (decide ((byteAt s ((x).toNat))≤57)) false) true ((byteAt s ((x).toNat)) == 45)))),(15,(aI ((s.size:Nat):Int))),(16,(aI x))],[],528⟩ (C_6 29902) [] [] (kp [0,3,5,6,15,16]) [] 528 [(decide ((byteAt s ((x).toNat)) ≥ 48)) = true→AllP [(decide ((byteAt s ((x).toNat)) ≥ 48)) = true],(decide ((byteAt s ((x).toNat)) ≥ 48)) = true→AllP [(decide ((byteAt s ((x).toNat)) ≥ 48)) = true],(!(cond (decide ((byteAt s ((x).toNat)) ≥ 48)) (decide ((byteAt s ((x).toNat))≤57)) false)) = true→AllP [(!(cond (decide ((byteAt s ((x).toNat)) ≥ 48)) (decide ((byteAt s ((x).toNat))≤57)) false)) = true],(!(cond (decide ((byteAt s ((x).toNat)) ≥ 48)) (decide ((byteAt s ((x).toNat))≤57)) false)) = true→AllP [(!(cond (decide ((byteAt s ((x).toNat)) ≥ 48)) (decide ((byteAt s ((x).toNat))≤57)) false)) = true]] ⟨(fun hg=>⟨hg,trivial⟩),(fun hq=>⟨hq,trivial⟩),(fun hg=>⟨hg,trivial⟩),(fun hq=>⟨hq,trivial⟩),trivial⟩ ?_
      refine Runs.sA 1 [.code (C_6 59806),.code (C_6 59807),.inBlock 1,.code (C_6 935),.inLoop (C_6 116),.inBlock 0,.code (C_6 15)] ?_
      refine Runs.sR hE ⟨[(0,(aS s)),(15,(aI ((s.size:Nat):Int))),(16,(aI x)),(55,(aB (cond (!(cond (cond (decide ((byteAt s ((x).toNat)) ≥ 97)) (decide ((byteAt s ((x).toNat))≤122)) false) true (cond (decide ((byteAt s ((x).toNat)) ≥ 65)) (decide ((byteAt s ((x).toNat))≤90)) false))) (cond (x == 0) true (!(cond (cond (decide ((byteAt s ((x).toNat)) ≥ 48)) (decide ((byteAt s ((x).toNat))≤57)) false) true ((byteAt s ((x).toNat)) == 45)))) false)))],[],688⟩ (C_6 59806) [] [] (kp [0,15,16,55]) [] 688 [(!(cond (cond (decide ((byteAt s ((x).toNat)) ≥ 97)) (decide ((byteAt s ((x).toNat))≤122)) false) true (cond (decide ((byteAt s ((x).toNat)) ≥ 65)) (decide ((byteAt s ((x).toNat))≤90)) false))) = true→AllP [(!(cond (cond (decide ((byteAt s ((x).toNat)) ≥ 97)) (decide ((byteAt s ((x).toNat))≤122)) false) true (cond (decide ((byteAt s ((x).toNat)) ≥ 65)) (decide ((byteAt s ((x).toNat))≤90)) false))) = true],((!(cond (cond (decide ((byteAt s ((x).toNat)) ≥ 97)) (decide ((byteAt s ((x).toNat))≤122)) false) true (cond (decide ((byteAt s ((x).toNat)) ≥ 65)) (decide ((byteAt s ((x).toNat))≤90)) false))) && ((!(cond (cond (decide ((byteAt s ((x).toNat)) ≥ 97)) (decide ((byteAt s ((x).toNat))≤122)) false) true (cond (decide ((byteAt s ((x).toNat)) ≥ 65)) (decide ((byteAt s ((x).toNat))≤90)) false))) && (!(x == 0)))) = true→AllP [((!(cond (cond (decide ((byteAt s ((x).toNat)) ≥ 97)) (decide ((byteAt s ((x).toNat))≤122)) false) true (cond (decide ((byteAt s ((x).toNat)) ≥ 65)) (decide ((byteAt s ((x).toNat))≤90)) false))) && ((!(cond (cond (decide ((byteAt s ((x).toNat)) ≥ 97)) (decide ((byteAt s ((x).toNat))≤122)) false) true (cond (decide ((byteAt s ((x).toNat)) ≥ 65)) (decide ((byteAt s ((x).toNat))≤90)) false))) && (!(x == 0)))) = true],(!(cond (cond (decide ((byteAt s ((x).toNat)) ≥ 97)) (decide ((byteAt s ((x).toNat))≤122)) false) true (cond (decide ((byteAt s ((x).toNat)) ≥ 65)) (decide ((byteAt s ((x).toNat))≤90)) false))) = true→AllP [(!(cond (cond (decide ((byteAt s ((x).toNat)) ≥ 97)) (decide ((byteAt s ((x).toNat))≤122)) false) true (cond (decide ((byteAt s ((x).toNat)) ≥ 65)) (decide ((byteAt s ((x).toNat))≤90)) false))) = true,(!(cond (cond (decide ((byteAt s ((x).toNat)) ≥ 97)) (decide ((byteAt s ((x).toNat))≤122)) false) true (cond (decide ((byteAt s ((x).toNat)) ≥ 65)) (decide ((byteAt s ((x).toNat))≤90)) false))) = true,(!(x == 0)) = true→AllP [((!(cond (cond (decide ((byteAt s ((x).toNat)) ≥ 97)) (decide ((byteAt s ((x).toNat))≤122)) false) true (cond (decide ((byteAt s ((x).toNat)) ≥ 65)) (decide ((byteAt s ((x).toNat))≤90)) false))) && ((!(cond (cond (decide ((byteAt s ((x).toNat)) ≥ 97)) (decide ((byteAt s ((x).toNat))≤122)) false) true (cond (decide ((byteAt s ((x).toNat)) ≥ 65)) (decide ((byteAt s ((x).toNat))≤90)) false))) && (!(x == 0)))) = true]],(!(cond (cond (decide ((byteAt s ((x).toNat)) ≥ 97)) (decide ((byteAt s ((x).toNat))≤122)) false) true (cond (decide ((byteAt s ((x).toNat)) ≥ 65)) (decide ((byteAt s ((x).toNat))≤90)) false))) = true→AllP [(!(cond (cond (decide ((byteAt s ((x).toNat)) ≥ 97)) (decide ((byteAt s ((x).toNat))≤122)) false) true (cond (decide ((byteAt s ((x).toNat)) ≥ 65)) (decide ((byteAt s ((x).toNat))≤90)) false))) = true]] ⟨(fun hg=>⟨hg,trivial⟩),(fun hg=>⟨hg,trivial⟩),(fun hg=>⟨hg,hg,(fun hq=>⟨(andI' hg (andI' hg hq)),trivial⟩),trivial⟩),(fun hq=>⟨hq,trivial⟩),trivial⟩ ?_
      refine Runs.sC 55 (C_6 119614) (C_6 119615) (cond (!(cond (cond (decide ((byteAt s ((x).toNat)) ≥ 97)) (decide ((byteAt s ((x).toNat))≤122)) false) true (cond (decide ((byteAt s ((x).toNat)) ≥ 65)) (decide ((byteAt s ((x).toNat))≤90)) false))) (cond (x == 0) true (!(cond (cond (decide ((byteAt s ((x).toNat)) ≥ 48)) (decide ((byteAt s ((x).toNat))≤57)) false) true ((byteAt s ((x).toNat)) == 45)))) false) (fun hq4=>?_) (fun hq4=>?_)
      · have h:=condT h hq4
        refine Runs.sA 1 [.code (C_6 239228),.code (C_6 239229),.inBlock 1,.code (C_6 935),.inLoop (C_6 116),.inBlock 0,.code (C_6 15)] ?_
        refine Runs.sR hE ⟨[(2,(aB false))],[],704⟩ (C_6 239228) [] [] (kp [2]) [] 704 [] trivial ?_
        obtain rfl:=Option.some.inj h
        refine Runs.sW hE ⟨[(2,(aB false))],[],704⟩ [] (kp [2]) [] 704 [] trivial ?_
        exact Runs.sT Try.f76 [] [] trivial
      · have h:=condF h hq4
        refine Runs.sA 2 [.code (C_6 935),.inLoop (C_6 116),.inBlock 0,.code (C_6 15)] ?_
        refine Runs.sR hE ⟨[(0,(aS s)),(15,(aI ((s.size:Nat):Int))),(16,(aI (w64 (x+1))))],[],720⟩ (C_6 935) [] [] (kp [0,15,16]) [] 720 [] trivial ?_
        refine Runs.sA 1 [.code (C_6 116),.inLoop (C_6 116),.inBlock 0,.code (C_6 15)] ?_
        exact Runs.sW hE _ [] (kp [0,15,16]) [] 0 [] trivial (ih (w64 (x+1)) _ h E hE)
    · have h:=condF h hq3
      refine Runs.sA 2 [.code (C_6 30),.code (C_6 31)] ?_
      refine Runs.sR hE ⟨[(2,(aB true))],[],32⟩ (C_6 30) [] [] (kp [2]) [] 32 [] trivial ?_
      obtain rfl:=Option.some.inj h
      refine Runs.sW hE ⟨[(2,(aB true))],[],48⟩ [] (kp [2]) [] 48 [] trivial ?_
      exact Runs.sT Try.f76 [] [] trivial
theorem g_berth_named_ok (N:Nat) (s:ByteArray) (r:Bool) (h:g_berth_named N s = some r):Sound Try.prog 76 [(aS s)] [] 0 (aB r) []:=by
  unfold g_berth_named at h
  refine Sound.of_runs (fu:=Try.f76) (c:=C_6 1) (nt:=57) (by kernel_rfl) (by kernel_rfl) (by kernel_rfl) (by kernel_rfl) (fun hm=>rfl) ?_
  intro E hE
  refine Runs.sA 1 [.code (C_6 2),.code (C_6 3)] ?_
  refine Runs.sR hE ⟨[(0,(aS s))],[],16⟩ (C_6 2) [] [] (kp [0]) [] 16 [] trivial ?_
  refine Runs.sA 2 [.code (C_6 12),.code (C_6 13),.code (C_6 7)] ?_
  refine Runs.sR hE ⟨[(0,(aS s)),(13,(aB (cond (streq s ByteArray.empty) true (decide (((s.size:Nat):Int) > 12)))))],[],128⟩ (C_6 12) [] [] (kp [0,13]) [] 128 [(!(streq s ByteArray.empty)) = true→AllP [(!(streq s ByteArray.empty)) = true],(!(streq s ByteArray.empty)) = true→AllP [(!(streq s ByteArray.empty)) = true],(!(streq s ByteArray.empty)) = true→AllP [(!(streq s ByteArray.empty)) = true]] ⟨(fun hg=>⟨hg,trivial⟩),(fun hg=>⟨hg,trivial⟩),(fun hq=>⟨hq,trivial⟩),trivial⟩ ?_
  refine Runs.sC 13 (C_6 26) (C_6 27) (cond (streq s ByteArray.empty) true (decide (((s.size:Nat):Int) > 12))) (fun hq2=>?_) (fun hq2=>?_)
  · have h:=condT h hq2
    refine Runs.sA 1 [.code (C_6 52),.code (C_6 53),.code (C_6 7)] ?_
    refine Runs.sR hE ⟨[(2,(aB false))],[],144⟩ (C_6 52) [] [] (kp [2]) [] 144 [] trivial ?_
    obtain rfl:=Option.some.inj h
    refine Runs.sW hE ⟨[(2,(aB false))],[],144⟩ [] (kp [2]) [] 144 [] trivial ?_
    exact Runs.sT Try.f76 [] [] trivial
  · have h:=condF h hq2
    refine Runs.sA 3 [.code (C_6 28),.code (C_6 29),.code (C_6 15)] ?_
    refine Runs.sR hE ⟨[(0,(aS s)),(15,(aI ((s.size:Nat):Int))),(16,(aI 0))],[],176⟩ (C_6 28) [] [] (kp [0,15,16]) [] 176 [] trivial ?_
    refine Runs.sA 2 [.code (C_6 116),.inLoop (C_6 116),.inBlock 0,.code (C_6 15)] ?_
    exact Runs.sW hE _ [] (kp [0,15,16]) [] 0 [] trivial (g_berth_named_L1_ok N s N 0 _ h E hE)
noncomputable def C_9 (n:Nat):Code:=cat (bodyOf Try.f78) (pth n)
theorem g_berth_check_Line_1_ok (N:Nat) (y:TLine) (cap1:TLine) (r:Bool) (h:g_berth_check_Line_1 N y cap1 = some r):Sound Try.prog 78 [(.agg (TLine.cells y)),(.op 0 0 0),(.op 1 0 0)] [(0,vO 1 [(.fn (.func 41) [] [])]),(1,vO 6 (TLine.cells cap1))] 2 (aB r) [(0,vO 1 [(.fn (.func 41) [] [])]),(1,vO 6 (TLine.cells cap1))]:=by
  unfold g_berth_check_Line_1 at h
  refine Sound.of_runs (fu:=Try.f78) (c:=C_9 1) (nt:=12) (by kernel_rfl) (by kernel_rfl) (by kernel_rfl) (by kernel_rfl) (fun hm=>absurd hm (by decide)) ?_
  intro E hE
  refine Runs.sA 1 [.code (C_9 2),.code (C_9 3)] ?_
  refine Runs.sR hE ⟨[(1,(.op 0 0 0)),(2,(.op 1 0 0)),(3,(.op 2 0 0))],[(0,vO 1 [(.fn (.func 41) [] [])]),(1,vO 6 (TLine.cells cap1)),(2,vO 6 (TLine.cells y))],34⟩ (C_9 2) [] [] (kp [1,2,3]) (kq [0,1,2]) 34 [] trivial ?_
  refine Runs.sA 1 [.code (C_9 6),.code (C_9 7)] ?_
  obtain ⟨rCheckLines1,hr,h⟩:=bindSome h
  obtain ⟨rCheckLines12,hr2,h⟩:=bindSome h
  refine Runs.sR hE ⟨[(4,(aB (streq rCheckLines1 rCheckLines12)))],[(0,vO 1 [(.fn (.func 41) [] [])]),(1,vO 6 (TLine.cells cap1))],162⟩ (C_9 6) [(2,⟨[],true,(aS rCheckLines1),[],0,false,none⟩),(5,⟨[],true,(aS rCheckLines12),[],0,false,none⟩)] [] (kp [4]) (kq [0,1]) 162 [0 < 1,0 < 1,Sound Try.prog 41 [(.agg (TLine.cells y))] [] 0 (aS rCheckLines1) [],0 < 1,0 < 1,Sound Try.prog 41 [(.agg (TLine.cells cap1))] [] 0 (aS rCheckLines12) []] ⟨o1,o1,(g_berth_CheckLines_1_ok N y rCheckLines1 hr),o1,o1,(g_berth_CheckLines_1_ok N cap1 rCheckLines12 hr2),trivial⟩ ?_
  obtain rfl:=Option.some.inj h
  refine Runs.sW hE ⟨[(4,(aB (streq rCheckLines1 rCheckLines12)))],[(0,vO 1 [(.fn (.func 41) [] [])]),(1,vO 6 (TLine.cells cap1))],162⟩ [] (kp [4]) (kq [0,1]) 162 [] trivial ?_
  exact Runs.sT Try.f78 [] [] trivial
noncomputable def C_8 (n:Nat):Code:=cat (bodyOf Try.f108) (pth n)
theorem g_slices_IndexFunc_api_Line_api_Line_L1_ok (N:Nat) (s:List TLine) (cap1:TLine) (fuel:Nat):∀ (x:Int) (r:Int),g_slices_IndexFunc_api_Line_api_Line_L1 N s cap1 fuel x = some r→∀ E,EnvOk E 2→Runs Try.prog E 108 19 (SPost E [(0,vO 1 [(.fn (.func 41) [] [])]),(1,vO 6 (TLine.cells cap1))] (aI r)) [.code (C_8 52),.inLoop (C_8 52),.inBlock 0,.code (C_8 7)] ⟨[(0,(encL TLine.cells TLine.d s)),(1,(.fn (.func 78) [] [(.op 0 0 0),(.op 1 0 0)])),(7,(aI ((s.length:Nat):Int))),(8,(aI x))],[(0,vO 1 [(.fn (.func 41) [] [])]),(1,vO 6 (TLine.cells cap1))],2⟩:=by
  induction fuel with
  | zero=>intro _ r h; rw [g_slices_IndexFunc_api_Line_api_Line_L1.eq_1] at h; cases h
  | succ fuel ih =>
    intro x r h E hE
    rw [g_slices_IndexFunc_api_Line_api_Line_L1.eq_2] at h
    refine Runs.sA 1 [.code (C_8 104),.code (C_8 105),.inLoop (C_8 52),.inBlock 0,.code (C_8 7)] ?_
    refine Runs.sR hE ⟨[(0,(encL TLine.cells TLine.d s)),(1,(.fn (.func 78) [] [(.op 0 0 0),(.op 1 0 0)])),(7,(aI ((s.length:Nat):Int))),(8,(aI x)),(9,(aB (decide (x < ((s.length:Nat):Int)))))],[(0,vO 1 [(.fn (.func 41) [] [])]),(1,vO 6 (TLine.cells cap1))],18⟩ (C_8 104) [] [] (kp [0,1,7,8,9]) (kq [0,1]) 18 [] trivial ?_
    refine Runs.sA 1 [.code (C_8 210),.code (C_8 211),.inLoop (C_8 52),.inBlock 0,.code (C_8 7)] ?_
    refine Runs.sC 9 (C_8 420) (C_8 421) (decide (x < ((s.length:Nat):Int))) (fun hq2=>?_) (fun hq2=>?_)
    · have h:=condT h hq2
      refine Runs.sA 4 [.code (C_8 1688),.code (C_8 1689),.inBlock 1,.code (C_8 423),.inLoop (C_8 52),.inBlock 0,.code (C_8 7)] ?_
      refine Runs.sR hE ⟨[(0,(encL TLine.cells TLine.d s)),(1,(.fn (.func 78) [] [(.op 0 0 0),(.op 1 0 0)])),(5,(aI x)),(7,(aI ((s.length:Nat):Int))),(8,(aI x))],[(0,vO 1 [(.fn (.func 41) [] [])]),(1,vO 6 (TLine.cells cap1))],50⟩ (C_8 1688) [] [] (kp [0,1,5,7,8]) (kq [0,1]) 50 [] trivial ?_
      refine Runs.sA 1 [.code (C_8 3378),.code (C_8 3379),.inBlock 1,.code (C_8 423),.inLoop (C_8 52),.inBlock 0,.code (C_8 7)] ?_
      obtain ⟨c,h⟩:=ifSome h
      obtain ⟨rLine1,hr,h⟩:=bindSome h
      refine Runs.sR hE ⟨[(0,(encL TLine.cells TLine.d s)),(1,(.fn (.func 78) [] [(.op 0 0 0),(.op 1 0 0)])),(5,(aI x)),(7,(aI ((s.length:Nat):Int))),(8,(aI x)),(16,(aB rLine1))],[(0,vO 1 [(.fn (.func 41) [] [])]),(1,vO 6 (TLine.cells cap1))],146⟩ (C_8 3378) [(5,⟨[0,1],true,(aB rLine1),[],0,false,none⟩)] [] (kp [0,1,5,7,8,16]) (kq [0,1]) 146 [0≤x∧x < ((s.length:Nat):Int),Sound Try.prog 78 [(.agg (TLine.cells (s.getD ((x).toNat) TLine.d))),(.op 0 0 0),(.op 1 0 0)] [(0,vO 1 [(.fn (.func 41) [] [])]),(1,vO 6 (TLine.cells cap1))] 2 (aB rLine1) [(0,vO 1 [(.fn (.func 41) [] [])]),(1,vO 6 (TLine.cells cap1))]] ⟨c,(g_berth_check_Line_1_ok N (s.getD ((x).toNat) TLine.d) cap1 rLine1 hr),trivial⟩ ?_
      refine Runs.sC 16 (C_8 6758) (C_8 6759) rLine1 (fun hq3=>?_) (fun hq3=>?_)
      · have h:=condT h hq3
        refine Runs.sA 1 [.code (C_8 13516),.code (C_8 13517),.inBlock 1,.code (C_8 423),.inLoop (C_8 52),.inBlock 0,.code (C_8 7)] ?_
        refine Runs.sR hE ⟨[(4,(aI x))],[(0,vO 1 [(.fn (.func 41) [] [])]),(1,vO 6 (TLine.cells cap1))],178⟩ (C_8 13516) [] [] (kp [4]) (kq [0,1]) 178 [] trivial ?_
        obtain rfl:=Option.some.inj h
        refine Runs.sW hE ⟨[(4,(aI x))],[(0,vO 1 [(.fn (.func 41) [] [])]),(1,vO 6 (TLine.cells cap1))],178⟩ [] (kp [4]) (kq [0,1]) 178 [] trivial ?_
        exact Runs.sT Try.f108 [] [] trivial
      · have h:=condF h hq3
        refine Runs.sA 2 [.code (C_8 423),.inLoop (C_8 52),.inBlock 0,.code (C_8 7)] ?_
        refine Runs.sR hE ⟨[(0,(encL TLine.cells TLine.d s)),(1,(.fn (.func 78) [] [(.op 0 0 0),(.op 1 0 0)])),(7,(aI ((s.length:Nat):Int))),(8,(aI (w64 (x+1))))],[(0,vO 1 [(.fn (.func 41) [] [])]),(1,vO 6 (TLine.cells cap1))],178⟩ (C_8 423) [] [] (kp [0,1,7,8]) (kq [0,1]) 178 [] trivial ?_
        refine Runs.sA 1 [.code (C_8 52),.inLoop (C_8 52),.inBlock 0,.code (C_8 7)] ?_
        exact Runs.sW hE _ [] (kp [0,1,7,8]) (kq [0,1]) 2 [] trivial (ih (w64 (x+1)) _ h E hE)
    · have h:=condF h hq2
      refine Runs.sA 2 [.code (C_8 14),.code (C_8 15)] ?_
      refine Runs.sR hE ⟨[(4,(aI (-1)))],[(0,vO 1 [(.fn (.func 41) [] [])]),(1,vO 6 (TLine.cells cap1))],34⟩ (C_8 14) [] [] (kp [4]) (kq [0,1]) 34 [] trivial ?_
      obtain rfl:=Option.some.inj h
      refine Runs.sW hE ⟨[(4,(aI (-1)))],[(0,vO 1 [(.fn (.func 41) [] [])]),(1,vO 6 (TLine.cells cap1))],50⟩ [] (kp [4]) (kq [0,1]) 50 [] trivial ?_
      exact Runs.sT Try.f108 [] [] trivial
theorem g_slices_IndexFunc_api_Line_api_Line_ok (N:Nat) (s:List TLine) (cap1:TLine) (r:Int) (h:g_slices_IndexFunc_api_Line_api_Line N s cap1 = some r):Sound Try.prog 108 [(encL TLine.cells TLine.d s),(.fn (.func 78) [] [(.op 0 0 0),(.op 1 0 0)])] [(0,vO 1 [(.fn (.func 41) [] [])]),(1,vO 6 (TLine.cells cap1))] 2 (aI r) [(0,vO 1 [(.fn (.func 41) [] [])]),(1,vO 6 (TLine.cells cap1))]:=by
  unfold g_slices_IndexFunc_api_Line_api_Line at h
  refine Sound.of_runs (fu:=Try.f108) (c:=C_8 1) (nt:=19) (by kernel_rfl) (by kernel_rfl) (by kernel_rfl) (by kernel_rfl) (fun hm=>absurd hm (by decide)) ?_
  intro E hE
  refine Runs.sA 1 [.code (C_8 2),.code (C_8 3)] ?_
  refine Runs.sR hE ⟨[(0,(encL TLine.cells TLine.d s)),(1,(.fn (.func 78) [] [(.op 0 0 0),(.op 1 0 0)]))],[(0,vO 1 [(.fn (.func 41) [] [])]),(1,vO 6 (TLine.cells cap1))],18⟩ (C_8 2) [] [] (kp [0,1]) (kq [0,1]) 18 [] trivial ?_
  refine Runs.sA 2 [.code (C_8 12),.code (C_8 13),.code (C_8 7)] ?_
  refine Runs.sR hE ⟨[(0,(encL TLine.cells TLine.d s)),(1,(.fn (.func 78) [] [(.op 0 0 0),(.op 1 0 0)])),(7,(aI ((s.length:Nat):Int))),(8,(aI 0))],[(0,vO 1 [(.fn (.func 41) [] [])]),(1,vO 6 (TLine.cells cap1))],66⟩ (C_8 12) [] [] (kp [0,1,7,8]) (kq [0,1]) 66 [] trivial ?_
  refine Runs.sA 2 [.code (C_8 52),.inLoop (C_8 52),.inBlock 0,.code (C_8 7)] ?_
  exact Runs.sW hE _ [] (kp [0,1,7,8]) (kq [0,1]) 2 [] trivial (g_slices_IndexFunc_api_Line_api_Line_L1_ok N s cap1 N 0 _ h E hE)
noncomputable def C_7 (n:Nat):Code:=cat (bodyOf Try.f77) (pth n)
theorem g_slices_ContainsFunc_api_Line_api_Line_ok (N:Nat) (s:List TLine) (cap1:TLine) (r:Bool) (h:g_slices_ContainsFunc_api_Line_api_Line N s cap1 = some r):Sound Try.prog 77 [(encL TLine.cells TLine.d s),(.fn (.func 78) [] [(.op 0 0 0),(.op 1 0 0)])] [(0,vO 1 [(.fn (.func 41) [] [])]),(1,vO 6 (TLine.cells cap1))] 2 (aB r) [(0,vO 1 [(.fn (.func 41) [] [])]),(1,vO 6 (TLine.cells cap1))]:=by
  unfold g_slices_ContainsFunc_api_Line_api_Line at h
  refine Sound.of_runs (fu:=Try.f77) (c:=C_7 1) (nt:=9) (by kernel_rfl) (by kernel_rfl) (by kernel_rfl) (by kernel_rfl) (fun hm=>absurd hm (by decide)) ?_
  intro E hE
  refine Runs.sA 1 [.code (C_7 2),.code (C_7 3)] ?_
  refine Runs.sR hE ⟨[(0,(encL TLine.cells TLine.d s)),(1,(.fn (.func 78) [] [(.op 0 0 0),(.op 1 0 0)]))],[(0,vO 1 [(.fn (.func 41) [] [])]),(1,vO 6 (TLine.cells cap1))],18⟩ (C_7 2) [] [] (kp [0,1]) (kq [0,1]) 18 [] trivial ?_
  refine Runs.sA 1 [.code (C_7 6),.code (C_7 7)] ?_
  obtain ⟨rLine,hr,h⟩:=bindSome h
  refine Runs.sR hE ⟨[(4,(aB (decide (rLine ≥ 0))))],[(0,vO 1 [(.fn (.func 41) [] [])]),(1,vO 6 (TLine.cells cap1))],98⟩ (C_7 6) [(2,⟨[0,1],true,(aI rLine),[],0,false,none⟩)] [] (kp [4]) (kq [0,1]) 98 [Sound Try.prog 108 [(encL TLine.cells TLine.d s),(.fn (.func 78) [] [(.op 0 0 0),(.op 1 0 0)])] [(0,vO 1 [(.fn (.func 41) [] [])]),(1,vO 6 (TLine.cells cap1))] 2 (aI rLine) [(0,vO 1 [(.fn (.func 41) [] [])]),(1,vO 6 (TLine.cells cap1))]] ⟨(g_slices_IndexFunc_api_Line_api_Line_ok N s cap1 rLine hr),trivial⟩ ?_
  obtain rfl:=Option.some.inj h
  refine Runs.sW hE ⟨[(4,(aB (decide (rLine ≥ 0))))],[(0,vO 1 [(.fn (.func 41) [] [])]),(1,vO 6 (TLine.cells cap1))],98⟩ [] (kp [4]) (kq [0,1]) 98 [] trivial ?_
  exact Runs.sT Try.f77 [] [] trivial
noncomputable def C_11 (n:Nat):Code:=cat (bodyOf Try.f44) (pth n)
theorem g_berth_outside_ok (N:Nat) (n:Int) (lo:Int) (hi:Int) (r:Bool) (h:g_berth_outside N n lo hi = some r):Sound Try.prog 44 [(aI n),(aI lo),(aI hi)] [] 0 (aB r) []:=by
  unfold g_berth_outside at h
  refine Sound.of_runs (fu:=Try.f44) (c:=C_11 1) (nt:=15) (by kernel_rfl) (by kernel_rfl) (by kernel_rfl) (by kernel_rfl) (fun hm=>rfl) ?_
  intro E hE
  refine Runs.sA 1 [.code (C_11 2),.code (C_11 3)] ?_
  refine Runs.sR hE ⟨[(0,(aI n)),(1,(aI lo)),(2,(aI hi))],[],16⟩ (C_11 2) [] [] (kp [0,1,2]) [] 16 [] trivial ?_
  refine Runs.sA 1 [.code (C_11 6),.code (C_11 7)] ?_
  refine Runs.sR hE ⟨[(6,(aB (cond (decide (n < lo)) true (decide (n > hi)))))],[],160⟩ (C_11 6) [] [] (kp [6]) [] 160 [(!(decide (n < lo))) = true→AllP [(!(decide (n < lo))) = true,(!(decide (n < lo))) = true],(!(decide (n < lo))) = true→AllP [(!(decide (n < lo))) = true]] ⟨(fun hg=>⟨hg,hg,trivial⟩),(fun hq=>⟨hq,trivial⟩),trivial⟩ ?_
  obtain rfl:=Option.some.inj h
  refine Runs.sW hE ⟨[(6,(aB (cond (decide (n < lo)) true (decide (n > hi)))))],[],160⟩ [] (kp [6]) [] 160 [] trivial ?_
  exact Runs.sT Try.f44 [] [] trivial
noncomputable def C_10 (n:Nat):Code:=cat (bodyOf Try.f42) (pth n)
theorem g_berth_checkLine_ok (N:Nat) (x:TLine) (r:Int) (h:g_berth_checkLine N x = some r):Sound Try.prog 42 [(.agg (TLine.cells x))] [] 0 (aI r) []:=by
  unfold g_berth_checkLine at h
  refine Sound.of_runs (fu:=Try.f42) (c:=C_10 1) (nt:=38) (by kernel_rfl) (by kernel_rfl) (by kernel_rfl) (by kernel_rfl) (fun hm=>rfl) ?_
  intro E hE
  refine Runs.sA 1 [.code (C_10 2),.code (C_10 3)] ?_
  refine Runs.sR hE ⟨[(1,(.op 0 0 0))],[(0,vO 6 (TLine.cells x))],32⟩ (C_10 2) [] [] (kp [1]) (kq [0]) 32 [] trivial ?_
  refine Runs.sA 2 [.code (C_10 12),.code (C_10 13),.code (C_10 7)] ?_
  obtain ⟨routside,hr,h⟩:=bindSome h
  obtain ⟨routside2,hr2,h⟩:=bindSome h
  obtain ⟨routside3,hr3,h⟩:=bindSome h
  obtain ⟨routside4,hr4,h⟩:=bindSome h
  obtain ⟨routside5,hr5,h⟩:=bindSome h
  refine Runs.sR hE ⟨[(1,(.op 0 0 0)),(25,(aB (cond (cond (cond (cond routside true routside2) true routside3) true routside4) true routside5)))],[(0,vO 6 (TLine.cells x))],400⟩ (C_10 12) [(2,⟨[],true,(aB routside),[],0,false,none⟩),(6,⟨[],true,(aB routside2),[],0,false,none⟩),(11,⟨[],true,(aB routside3),[],0,false,none⟩),(16,⟨[],true,(aB routside4),[],0,false,none⟩),(21,⟨[],true,(aB routside5),[],0,false,none⟩)] [] (kp [1,25]) (kq [0]) 400 [0 < 1,Sound Try.prog 44 [(aI x.f_X),(aI (-1000000)),(aI 1000000)] [] 0 (aB routside) [],(!routside) = true→AllP [(!routside) = true,0 < 1],(!routside) = true→AllP [Sound Try.prog 44 [(aI x.f_Y),(aI (-1000000)),(aI 1000000)] [] 0 (aB routside2) [],(!routside) = true],(!routside) = true→AllP [(!routside) = true],(!(cond routside true routside2)) = true→AllP [(!(cond routside true routside2)) = true,0 < 1],(!(cond routside true routside2)) = true→AllP [Sound Try.prog 44 [(aI x.f_ToX),(aI (-1000000)),(aI 1000000)] [] 0 (aB routside3) [],(!(cond routside true routside2)) = true],(!(cond routside true routside2)) = true→AllP [(!(cond routside true routside2)) = true],(!(cond (cond routside true routside2) true routside3)) = true→AllP [(!(cond (cond routside true routside2) true routside3)) = true,0 < 1],(!(cond (cond routside true routside2) true routside3)) = true→AllP [Sound Try.prog 44 [(aI x.f_ToY),(aI (-1000000)),(aI 1000000)] [] 0 (aB routside4) [],(!(cond (cond routside true routside2) true routside3)) = true],(!(cond (cond routside true routside2) true routside3)) = true→AllP [(!(cond (cond routside true routside2) true routside3)) = true],(!(cond (cond (cond routside true routside2) true routside3) true routside4)) = true→AllP [(!(cond (cond (cond routside true routside2) true routside3) true routside4)) = true,0 < 1],(!(cond (cond (cond routside true routside2) true routside3) true routside4)) = true→AllP [Sound Try.prog 44 [(aI x.f_Most),(aI 1),(aI 1000000000)] [] 0 (aB routside5) [],(!(cond (cond (cond routside true routside2) true routside3) true routside4)) = true],(!(cond (cond (cond routside true routside2) true routside3) true routside4)) = true→AllP [(!(cond (cond (cond routside true routside2) true routside3) true routside4)) = true]] ⟨o1,(g_berth_outside_ok N x.f_X (-1000000) 1000000 routside hr),(fun hg=>⟨hg,o1,trivial⟩),(fun hg=>⟨(g_berth_outside_ok N x.f_Y (-1000000) 1000000 routside2 (condT hr2 hg)),hg,trivial⟩),(fun hq=>⟨hq,trivial⟩),(fun hg=>⟨hg,o1,trivial⟩),(fun hg=>⟨(g_berth_outside_ok N x.f_ToX (-1000000) 1000000 routside3 (condT hr3 hg)),hg,trivial⟩),(fun hq=>⟨hq,trivial⟩),(fun hg=>⟨hg,o1,trivial⟩),(fun hg=>⟨(g_berth_outside_ok N x.f_ToY (-1000000) 1000000 routside4 (condT hr4 hg)),hg,trivial⟩),(fun hq=>⟨hq,trivial⟩),(fun hg=>⟨hg,o1,trivial⟩),(fun hg=>⟨(g_berth_outside_ok N x.f_Most 1 1000000000 routside5 (condT hr5 hg)),hg,trivial⟩),(fun hq=>⟨hq,trivial⟩),trivial⟩ ?_
  refine Runs.sC 25 (C_10 26) (C_10 27) (cond (cond (cond (cond routside true routside2) true routside3) true routside4) true routside5) (fun hq2=>?_) (fun hq2=>?_)
  · have h:=condT h hq2
    refine Runs.sA 1 [.code (C_10 52),.code (C_10 53),.code (C_10 7)] ?_
    refine Runs.sR hE ⟨[(2,(aI 2))],[],416⟩ (C_10 52) [] [] (kp [2]) [] 416 [] trivial ?_
    obtain rfl:=Option.some.inj h
    refine Runs.sW hE ⟨[(2,(aI 2))],[],416⟩ [] (kp [2]) [] 416 [] trivial ?_
    exact Runs.sT Try.f42 [] [] trivial
  · have h:=condF h hq2
    refine Runs.sA 3 [.code (C_10 28),.code (C_10 29),.code (C_10 15)] ?_
    refine Runs.sR hE ⟨[(37,(aB (cond (x.f_X == x.f_ToX) (x.f_Y == x.f_ToY) false)))],[],592⟩ (C_10 28) [] [] (kp [37]) [] 592 [0 < 1,0 < 1,(x.f_X == x.f_ToX) = true→AllP [(x.f_X == x.f_ToX) = true,0 < 1],(x.f_X == x.f_ToX) = true→AllP [(x.f_X == x.f_ToX) = true,0 < 1],(x.f_X == x.f_ToX) = true→AllP [(x.f_X == x.f_ToX) = true,(x.f_X == x.f_ToX) = true],(x.f_X == x.f_ToX) = true→AllP [(x.f_X == x.f_ToX) = true]] ⟨o1,o1,(fun hg=>⟨hg,o1,trivial⟩),(fun hg=>⟨hg,o1,trivial⟩),(fun hg=>⟨hg,hg,trivial⟩),(fun hq=>⟨hq,trivial⟩),trivial⟩ ?_
    refine Runs.sC 37 (C_10 58) (C_10 59) (cond (x.f_X == x.f_ToX) (x.f_Y == x.f_ToY) false) (fun hq3=>?_) (fun hq3=>?_)
    · have h:=condT h hq3
      refine Runs.sA 1 [.code (C_10 116),.code (C_10 117),.code (C_10 15)] ?_
      refine Runs.sR hE ⟨[(2,(aI 9))],[],608⟩ (C_10 116) [] [] (kp [2]) [] 608 [] trivial ?_
      obtain rfl:=Option.some.inj h
      refine Runs.sW hE ⟨[(2,(aI 9))],[],608⟩ [] (kp [2]) [] 608 [] trivial ?_
      exact Runs.sT Try.f42 [] [] trivial
    · have h:=condF h hq3
      refine Runs.sA 2 [.code (C_10 30),.code (C_10 31)] ?_
      refine Runs.sR hE ⟨[(2,(aI 0))],[],608⟩ (C_10 30) [] [] (kp [2]) [] 608 [] trivial ?_
      obtain rfl:=Option.some.inj h
      refine Runs.sW hE ⟨[(2,(aI 0))],[],608⟩ [] (kp [2]) [] 608 [] trivial ?_
      exact Runs.sT Try.f42 [] [] trivial
noncomputable def C_4 (n:Nat):Code:=cat (bodyOf Try.f40) (pth n)
theorem g_berth_check_Line_L1_ok (N:Nat) (l:List TLine) (fuel:Nat):∀ (x:Int) (r:Int),g_berth_check_Line_L1 N l fuel x = some r→∀ E,EnvOk E 0→Runs Try.prog E 40 40 (SPost E [] (aI r)) [.code (C_4 116),.inLoop (C_4 116),.inBlock 0,.code (C_4 15)] ⟨[(0,(encL TLine.cells TLine.d l)),(3,(.fn (.func 42) [] [])),(6,(.op 0 0 0)),(16,(encL TLine.cells TLine.d l)),(17,(aI ((l.length:Nat):Int))),(18,(aI x))],[(0,vO 1 [(.fn (.func 41) [] [])])],1⟩:=by
  induction fuel with
  | zero=>intro _ r h; rw [g_berth_check_Line_L1.eq_1] at h; cases h
  | succ fuel ih =>
    intro x r h E hE
    rw [g_berth_check_Line_L1.eq_2] at h
    refine Runs.sA 1 [.code (C_4 232),.code (C_4 233),.inLoop (C_4 116),.inBlock 0,.code (C_4 15)] ?_
    refine Runs.sR hE ⟨[(0,(encL TLine.cells TLine.d l)),(3,(.fn (.func 42) [] [])),(6,(.op 0 0 0)),(16,(encL TLine.cells TLine.d l)),(17,(aI ((l.length:Nat):Int))),(18,(aI x)),(19,(aB (decide (x < ((l.length:Nat):Int)))))],[(0,vO 1 [(.fn (.func 41) [] [])])],17⟩ (C_4 232) [] [] (kp [0,3,6,16,17,18,19]) (kq [0]) 17 [] trivial ?_
    refine Runs.sA 1 [.code (C_4 466),.code (C_4 467),.inLoop (C_4 116),.inBlock 0,.code (C_4 15)] ?_
    refine Runs.sC 19 (C_4 932) (C_4 933) (decide (x < ((l.length:Nat):Int))) (fun hq3=>?_) (fun hq3=>?_)
    · have h:=condT h hq3
      refine Runs.sA 4 [.code (C_4 3736),.code (C_4 3737),.inBlock 1,.code (C_4 935),.inLoop (C_4 116),.inBlock 0,.code (C_4 15)] ?_
      obtain ⟨c,h⟩:=ifSome h
      refine Runs.sR hE ⟨[(0,(encL TLine.cells TLine.d l)),(3,(.fn (.func 42) [] [])),(6,(.op 0 0 0)),(9,(aI x)),(10,(.op 65 0 0)),(16,(encL TLine.cells TLine.d l)),(17,(aI ((l.length:Nat):Int))),(18,(aI x))],[(0,vO 1 [(.fn (.func 41) [] [])]),(65,vO 6 (TLine.cells (l.getD ((x).toNat) TLine.d)))],113⟩ (C_4 3736) [] [] (kp [0,3,6,9,10,16,17,18]) (kq [0,65]) 113 [0≤x∧x < ((l.length:Nat):Int),0 < 1] ⟨c,o1,trivial⟩ ?_
      refine Runs.sA 2 [.code (C_4 14948),.code (C_4 14949),.code (C_4 7475),.inBlock 1,.code (C_4 935),.inLoop (C_4 116),.inBlock 0,.code (C_4 15)] ?_
      obtain ⟨rCheckLines1,hr,h⟩:=bindSome h
      obtain ⟨rnamed,hr2,h⟩:=bindSome h
      refine Runs.sR hE ⟨[(0,(encL TLine.cells TLine.d l)),(3,(.fn (.func 42) [] [])),(6,(.op 0 0 0)),(9,(aI x)),(10,(.op 65 0 0)),(16,(encL TLine.cells TLine.d l)),(17,(aI ((l.length:Nat):Int))),(18,(aI x)),(27,(aB (!rnamed)))],[(0,vO 1 [(.fn (.func 41) [] [])]),(65,vO 6 (TLine.cells (l.getD ((x).toNat) TLine.d)))],193⟩ (C_4 14948) [(2,⟨[],true,(aS rCheckLines1),[],0,false,none⟩),(3,⟨[],true,(aB rnamed),[],0,false,none⟩)] [] (kp [0,3,6,9,10,16,17,18,27]) (kq [0,65]) 193 [0 < 1,0 < 1,Sound Try.prog 41 [(.agg (TLine.cells (l.getD ((x).toNat) TLine.d)))] [] 0 (aS rCheckLines1) [],Sound Try.prog 76 [(aS rCheckLines1)] [] 0 (aB rnamed) []] ⟨o1,o1,(g_berth_CheckLines_1_ok N (l.getD ((x).toNat) TLine.d) rCheckLines1 hr),(g_berth_named_ok N rCheckLines1 rnamed hr2),trivial⟩ ?_
      refine Runs.sC 27 (C_4 29898) (C_4 29899) (!rnamed) (fun hq4=>?_) (fun hq4=>?_)
      · have h:=condT h hq4
        refine Runs.sA 1 [.code (C_4 59796),.code (C_4 59797),.code (C_4 7475),.inBlock 1,.code (C_4 935),.inLoop (C_4 116),.inBlock 0,.code (C_4 15)] ?_
        refine Runs.sR hE ⟨[(8,(aI 4))],[],209⟩ (C_4 59796) [] [] (kp [8]) [] 209 [] trivial ?_
        obtain rfl:=Option.some.inj h
        refine Runs.sW hE ⟨[(8,(aI 4))],[],209⟩ [] (kp [8]) [] 209 [] trivial ?_
        exact Runs.sT Try.f40 [] [] trivial
      · have h:=condF h hq4
        refine Runs.sA 3 [.code (C_4 29900),.code (C_4 29901),.code (C_4 14951),.inBlock 1,.code (C_4 935),.inLoop (C_4 116),.inBlock 0,.code (C_4 15)] ?_
        obtain ⟨c2,h⟩:=ifSome h
        obtain ⟨c3,h⟩:=ifSome h
        obtain ⟨rLine,hr3,h⟩:=bindSome h
        refine Runs.sR hE ⟨[(0,(encL TLine.cells TLine.d l)),(3,(.fn (.func 42) [] [])),(6,(.op 0 0 0)),(10,(.op 65 0 0)),(16,(encL TLine.cells TLine.d l)),(17,(aI ((l.length:Nat):Int))),(18,(aI x)),(32,(aB rLine))],[(0,vO 1 [(.fn (.func 41) [] [])]),(65,vO 6 (TLine.cells (l.getD ((x).toNat) TLine.d)))],273⟩ (C_4 29900) [(4,⟨[0,65],true,(aB rLine),[],0,false,none⟩)] [] (kp [0,3,6,10,16,17,18,32]) (kq [0,65]) 273 [0≤(x).toNat∧(x).toNat≤l.length,0≤x,Sound Try.prog 77 [(.sl ((x).toNat - 0) (fun zi=>TLine.cells (l.getD (addz 0 zi) TLine.d))),(.fn (.func 78) [] [(.op 0 0 0),(.op 1 0 0)])] [(0,vO 1 [(.fn (.func 41) [] [])]),(1,vO 6 (TLine.cells (l.getD ((x).toNat) TLine.d)))] 2 (aB rLine) [(0,vO 1 [(.fn (.func 41) [] [])]),(1,vO 6 (TLine.cells (l.getD ((x).toNat) TLine.d)))]] ⟨c2,c3,(Sound.conv (g_slices_ContainsFunc_api_Line_api_Line_ok N ((l.take ((x).toNat)).drop 0) (l.getD ((x).toNat) TLine.d) rLine hr3) (.cons (Alike.sl (len_ext' l 0 ((x).toNat) c2) (fun zq hzq=>get_ext TLine.cells TLine.d l 0 ((x).toNat) zq hzq)) (.cons (Alike.refl _) .nil))),trivial⟩ ?_
        refine Runs.sC 32 (C_4 59802) (C_4 59803) rLine (fun hq5=>?_) (fun hq5=>?_)
        · have h:=condT h hq5
          refine Runs.sA 1 [.code (C_4 119604),.code (C_4 119605),.code (C_4 14951),.inBlock 1,.code (C_4 935),.inLoop (C_4 116),.inBlock 0,.code (C_4 15)] ?_
          refine Runs.sR hE ⟨[(8,(aI 5))],[],289⟩ (C_4 119604) [] [] (kp [8]) [] 289 [] trivial ?_
          obtain rfl:=Option.some.inj h
          refine Runs.sW hE ⟨[(8,(aI 5))],[],289⟩ [] (kp [8]) [] 289 [] trivial ?_
          exact Runs.sT Try.f40 [] [] trivial
        · have h:=condF h hq5
          refine Runs.sA 2 [.code (C_4 29902),.code (C_4 29903),.inBlock 1,.code (C_4 935),.inLoop (C_4 116),.inBlock 0,.code (C_4 15)] ?_
          obtain ⟨rcheckLine,hr4,h⟩:=bindSome h
          refine Runs.sR hE ⟨[(0,(encL TLine.cells TLine.d l)),(3,(.fn (.func 42) [] [])),(6,(.op 0 0 0)),(11,(aI rcheckLine)),(16,(encL TLine.cells TLine.d l)),(17,(aI ((l.length:Nat):Int))),(18,(aI x))],[(0,vO 1 [(.fn (.func 41) [] [])])],337⟩ (C_4 29902) [(2,⟨[],true,(aI rcheckLine),[],0,false,none⟩)] [] (kp [0,3,6,11,16,17,18]) (kq [0]) 337 [0 < 1,Sound Try.prog 42 [(.agg (TLine.cells (l.getD ((x).toNat) TLine.d)))] [] 0 (aI rcheckLine) []] ⟨o1,(g_berth_checkLine_ok N (l.getD ((x).toNat) TLine.d) rcheckLine hr4),trivial⟩ ?_
          refine Runs.sA 1 [.code (C_4 59806),.code (C_4 59807),.inBlock 1,.code (C_4 935),.inLoop (C_4 116),.inBlock 0,.code (C_4 15)] ?_
          refine Runs.sR hE ⟨[(0,(encL TLine.cells TLine.d l)),(3,(.fn (.func 42) [] [])),(6,(.op 0 0 0)),(11,(aI rcheckLine)),(16,(encL TLine.cells TLine.d l)),(17,(aI ((l.length:Nat):Int))),(18,(aI x)),(37,(aB (rcheckLine != 0)))],[(0,vO 1 [(.fn (.func 41) [] [])])],369⟩ (C_4 59806) [] [] (kp [0,3,6,11,16,17,18,37]) (kq [0]) 369 [] trivial ?_
          refine Runs.sC 37 (C_4 119614) (C_4 119615) (rcheckLine != 0) (fun hq6=>?_) (fun hq6=>?_)
          · have h:=condT h hq6
            refine Runs.sA 1 [.code (C_4 239228),.code (C_4 239229),.inBlock 1,.code (C_4 935),.inLoop (C_4 116),.inBlock 0,.code (C_4 15)] ?_
            refine Runs.sR hE ⟨[(8,(aI rcheckLine))],[],401⟩ (C_4 239228) [] [] (kp [8]) [] 401 [] trivial ?_
            obtain rfl:=Option.some.inj h
            refine Runs.sW hE ⟨[(8,(aI rcheckLine))],[],401⟩ [] (kp [8]) [] 401 [] trivial ?_
            exact Runs.sT Try.f40 [] [] trivial
          · have h:=condF h hq6
            refine Runs.sA 2 [.code (C_4 935),.inLoop (C_4 116),.inBlock 0,.code (C_4 15)] ?_
            refine Runs.sR hE ⟨[(0,(encL TLine.cells TLine.d l)),(3,(.fn (.func 42) [] [])),(6,(.op 0 0 0)),(16,(encL TLine.cells TLine.d l)),(17,(aI ((l.length:Nat):Int))),(18,(aI (w64 (x+1))))],[(0,vO 1 [(.fn (.func 41) [] [])])],401⟩ (C_4 935) [] [] (kp [0,3,6,16,17,18]) (kq [0]) 401 [] trivial ?_
            refine Runs.sA 1 [.code (C_4 116),.inLoop (C_4 116),.inBlock 0,.code (C_4 15)] ?_
            exact Runs.sW hE _ [] (kp [0,3,6,16,17,18]) (kq [0]) 1 [] trivial (ih (w64 (x+1)) _ h E hE)
    · have h:=condF h hq3
      refine Runs.sA 2 [.code (C_4 30),.code (C_4 31)] ?_
      refine Runs.sR hE ⟨[(8,(aI 0))],[],33⟩ (C_4 30) [] [] (kp [8]) [] 33 [] trivial ?_
      obtain rfl:=Option.some.inj h
      refine Runs.sW hE ⟨[(8,(aI 0))],[],48⟩ [] (kp [8]) [] 48 [] trivial ?_
      exact Runs.sT Try.f40 [] [] trivial
theorem g_berth_check_Line_ok (N:Nat) (l:List TLine) (most:Int) (r:Int) (h:g_berth_check_Line N l most = some r):Sound Try.prog 40 [(encL TLine.cells TLine.d l),(aI most),(.fn (.func 41) [] []),(.fn (.func 42) [] [])] [] 0 (aI r) []:=by
  unfold g_berth_check_Line at h
  refine Sound.of_runs (fu:=Try.f40) (c:=C_4 1) (nt:=40) (by kernel_rfl) (by kernel_rfl) (by kernel_rfl) (by kernel_rfl) (fun hm=>rfl) ?_
  intro E hE
  refine Runs.sA 1 [.code (C_4 2),.code (C_4 3)] ?_
  refine Runs.sR hE ⟨[(0,(encL TLine.cells TLine.d l)),(1,(aI most)),(3,(.fn (.func 42) [] [])),(6,(.op 0 0 0))],[(0,vO 1 [(.fn (.func 41) [] [])])],32⟩ (C_4 2) [] [] (kp [0,1,3,6]) (kq [0]) 32 [] trivial ?_
  refine Runs.sA 2 [.code (C_4 12),.code (C_4 13),.code (C_4 7)] ?_
  refine Runs.sR hE ⟨[(0,(encL TLine.cells TLine.d l)),(3,(.fn (.func 42) [] [])),(6,(.op 0 0 0)),(15,(aB (decide (((l.length:Nat):Int) > most))))],[(0,vO 1 [(.fn (.func 41) [] [])])],96⟩ (C_4 12) [] [] (kp [0,3,6,15]) (kq [0]) 96 [] trivial ?_
  refine Runs.sC 15 (C_4 26) (C_4 27) (decide (((l.length:Nat):Int) > most)) (fun hq2=>?_) (fun hq2=>?_)
  · have h:=condT h hq2
    refine Runs.sA 1 [.code (C_4 52),.code (C_4 53),.code (C_4 7)] ?_
    refine Runs.sR hE ⟨[(8,(aI 8))],[],112⟩ (C_4 52) [] [] (kp [8]) [] 112 [] trivial ?_
    obtain rfl:=Option.some.inj h
    refine Runs.sW hE ⟨[(8,(aI 8))],[],112⟩ [] (kp [8]) [] 112 [] trivial ?_
    exact Runs.sT Try.f40 [] [] trivial
  · have h:=condF h hq2
    refine Runs.sA 3 [.code (C_4 28),.code (C_4 29),.code (C_4 15)] ?_
    refine Runs.sR hE ⟨[(0,(encL TLine.cells TLine.d l)),(3,(.fn (.func 42) [] [])),(6,(.op 0 0 0)),(16,(encL TLine.cells TLine.d l)),(17,(aI ((l.length:Nat):Int))),(18,(aI 0))],[(0,vO 1 [(.fn (.func 41) [] [])])],144⟩ (C_4 28) [] [] (kp [0,3,6,16,17,18]) (kq [0]) 144 [] trivial ?_
    refine Runs.sA 2 [.code (C_4 116),.inLoop (C_4 116),.inBlock 0,.code (C_4 15)] ?_
    exact Runs.sW hE _ [] (kp [0,3,6,16,17,18]) (kq [0]) 1 [] trivial (g_berth_check_Line_L1_ok N l N 0 _ h E hE)
noncomputable def C_3 (n:Nat):Code:=cat (bodyOf Try.f18) (pth n)
theorem g_berth_CheckLines_ok (N:Nat) (l:List TLine) (r:Int) (h:g_berth_CheckLines N l = some r):Sound Try.prog 18 [(encL TLine.cells TLine.d l)] [] 0 (aI r) []:=by
  unfold g_berth_CheckLines at h
  refine Sound.of_runs (fu:=Try.f18) (c:=C_3 1) (nt:=5) (by kernel_rfl) (by kernel_rfl) (by kernel_rfl) (by kernel_rfl) (fun hm=>rfl) ?_
  intro E hE
  refine Runs.sA 1 [.code (C_3 2),.code (C_3 3)] ?_
  refine Runs.sR hE ⟨[(0,(encL TLine.cells TLine.d l))],[],16⟩ (C_3 2) [] [] (kp [0]) [] 16 [] trivial ?_
  refine Runs.sA 1 [.code (C_3 6),.code (C_3 7)] ?_
  obtain ⟨rLine,hr,h⟩:=bindSome h
  refine Runs.sR hE ⟨[(2,(aI rLine))],[],64⟩ (C_3 6) [(1,⟨[],true,(aI rLine),[],0,false,none⟩)] [] (kp [2]) [] 64 [Sound Try.prog 40 [(encL TLine.cells TLine.d l),(aI 12),(.fn (.func 41) [] []),(.fn (.func 42) [] [])] [] 0 (aI rLine) []] ⟨(g_berth_check_Line_ok N l 12 rLine hr),trivial⟩ ?_
  obtain rfl:=Option.some.inj h
  refine Runs.sW hE ⟨[(2,(aI rLine))],[],64⟩ [] (kp [2]) [] 64 [] trivial ?_
  exact Runs.sT Try.f18 [] [] trivial
noncomputable def C_12 (n:Nat):Code:=cat (bodyOf Try.f38) (pth n)
theorem g_berth_span_J2_ok (N:Nat) (l:TLine) (x:Int) (K_g_berth_span_L1:Int→Int→Option (Int))
    (hK_g_berth_span_L1:∀ (root:Int) (x:Int) (r:Int),K_g_berth_span_L1 root x = some r→∀ E,EnvOk E 0→Runs Try.prog E 38 43 (SPost E [] (aI r)) [.code (C_12 500),.inLoop (C_12 500),.inBlock 0,.code (C_12 63)] ⟨[(5,(aI (w64 ((w64 ((w64 (l.f_ToX - l.f_X)) * (w64 (l.f_ToX - l.f_X))))+(w64 ((w64 (l.f_ToY - l.f_Y)) * (w64 (l.f_ToY - l.f_Y)))))))),(6,(aI root)),(26,(aI x))],[],0⟩) (root2:Int) (r:Int) (h:g_berth_span_J2 N l x K_g_berth_span_L1 root2 = some r):∀ E,EnvOk E 0→Runs Try.prog E 38 43 (SPost E [] (aI r)) [.code (C_12 4007),.inLoop (C_12 500),.inBlock 0,.code (C_12 63)] ⟨[(5,(aI (w64 ((w64 ((w64 (l.f_ToX - l.f_X)) * (w64 (l.f_ToX - l.f_X))))+(w64 ((w64 (l.f_ToY - l.f_Y)) * (w64 (l.f_ToY - l.f_Y)))))))),(6,(aI root2)),(26,(aI x))],[],0⟩:=by
  intro E hE
  unfold g_berth_span_J2 at h
  refine Runs.sR hE ⟨[(5,(aI (w64 ((w64 ((w64 (l.f_ToX - l.f_X)) * (w64 (l.f_ToX - l.f_X))))+(w64 ((w64 (l.f_ToY - l.f_Y)) * (w64 (l.f_ToY - l.f_Y)))))))),(6,(aI root2)),(26,(aI (w64 (x+1))))],[],32⟩ (C_12 4007) [] [] (kp [5,6,26]) [] 32 [] trivial ?_
  refine Runs.sA 1 [.code (C_12 500),.inLoop (C_12 500),.inBlock 0,.code (C_12 63)] ?_
  exact Runs.sW hE _ [] (kp [5,6,26]) [] 0 [] trivial (hK_g_berth_span_L1 root2 (w64 (x+1)) _ h E hE)
theorem g_berth_span_L1_ok (N:Nat) (l:TLine) (fuel:Nat):∀ (root:Int) (x:Int) (r:Int),g_berth_span_L1 N l fuel root x = some r→∀ E,EnvOk E 0→Runs Try.prog E 38 43 (SPost E [] (aI r)) [.code (C_12 500),.inLoop (C_12 500),.inBlock 0,.code (C_12 63)] ⟨[(5,(aI (w64 ((w64 ((w64 (l.f_ToX - l.f_X)) * (w64 (l.f_ToX - l.f_X))))+(w64 ((w64 (l.f_ToY - l.f_Y)) * (w64 (l.f_ToY - l.f_Y)))))))),(6,(aI root)),(26,(aI x))],[],0⟩:=by
  induction fuel with
  | zero=>intro _ _ r h; rw [g_berth_span_L1.eq_1] at h; cases h
  | succ fuel ih =>
    intro root x r h E hE
    rw [g_berth_span_L1.eq_2] at h
    refine Runs.sA 1 [.code (C_12 1000),.code (C_12 1001),.inLoop (C_12 500),.inBlock 0,.code (C_12 63)] ?_
    refine Runs.sR hE ⟨[(5,(aI (w64 ((w64 ((w64 (l.f_ToX - l.f_X)) * (w64 (l.f_ToX - l.f_X))))+(w64 ((w64 (l.f_ToY - l.f_Y)) * (w64 (l.f_ToY - l.f_Y)))))))),(6,(aI root)),(26,(aI x)),(27,(aB (decide (x < 23))))],[],16⟩ (C_12 1000) [] [] (kp [5,6,26,27]) [] 16 [] trivial ?_
    refine Runs.sA 1 [.code (C_12 2002),.code (C_12 2003),.inLoop (C_12 500),.inBlock 0,.code (C_12 63)] ?_
    refine Runs.sC 27 (C_12 4004) (C_12 4005) (decide (x < 23)) (fun hq2=>?_) (fun hq2=>?_)
    · have h:=condT h hq2
      refine Runs.sA 4 [.code (C_12 16024),.code (C_12 16025),.inBlock 1,.code (C_12 4007),.inLoop (C_12 500),.inBlock 0,.code (C_12 63)] ?_
      refine Runs.sR hE ⟨[(5,(aI (w64 ((w64 ((w64 (l.f_ToX - l.f_X)) * (w64 (l.f_ToX - l.f_X))))+(w64 ((w64 (l.f_ToY - l.f_Y)) * (w64 (l.f_ToY - l.f_Y)))))))),(6,(aI root)),(7,(aI x)),(26,(aI x))],[],48⟩ (C_12 16024) [] [] (kp [5,6,7,26]) [] 48 [] trivial ?_
      refine Runs.sA 1 [.code (C_12 32050),.code (C_12 32051),.inBlock 1,.code (C_12 4007),.inLoop (C_12 500),.inBlock 0,.code (C_12 63)] ?_
      obtain ⟨c,h⟩:=ifSome h
      refine Runs.sR hE ⟨[(5,(aI (w64 ((w64 ((w64 (l.f_ToX - l.f_X)) * (w64 (l.f_ToX - l.f_X))))+(w64 ((w64 (l.f_ToY - l.f_Y)) * (w64 (l.f_ToY - l.f_Y)))))))),(6,(aI root)),(8,(aI (orI .i64 root (shlI .i64 1 (w64 (22 - x)))))),(26,(aI x))],[],144⟩ (C_12 32050) [] [] (kp [5,6,8,26]) [] 144 [(0:Int)≤(w64 (22 - x))] ⟨c,trivial⟩ ?_
      refine Runs.sA 1 [.code (C_12 64102),.code (C_12 64103),.inBlock 1,.code (C_12 4007),.inLoop (C_12 500),.inBlock 0,.code (C_12 63)] ?_
      refine Runs.sR hE ⟨[(5,(aI (w64 ((w64 ((w64 (l.f_ToX - l.f_X)) * (w64 (l.f_ToX - l.f_X))))+(w64 ((w64 (l.f_ToY - l.f_Y)) * (w64 (l.f_ToY - l.f_Y)))))))),(6,(aI root)),(8,(aI (orI .i64 root (shlI .i64 1 (w64 (22 - x)))))),(26,(aI x)),(38,(aB (decide ((w64 ((orI .i64 root (shlI .i64 1 (w64 (22 - x)))) * (orI .i64 root (shlI .i64 1 (w64 (22 - x)))))) < (w64 ((w64 ((w64 (l.f_ToX - l.f_X)) * (w64 (l.f_ToX - l.f_X))))+(w64 ((w64 (l.f_ToY - l.f_Y)) * (w64 (l.f_ToY - l.f_Y))))))))))],[],224⟩ (C_12 64102) [] [] (kp [5,6,8,26,38]) [] 224 [] trivial ?_
      refine Runs.sC 38 (C_12 128206) (C_12 128207) (decide ((w64 ((orI .i64 root (shlI .i64 1 (w64 (22 - x)))) * (orI .i64 root (shlI .i64 1 (w64 (22 - x)))))) < (w64 ((w64 ((w64 (l.f_ToX - l.f_X)) * (w64 (l.f_ToX - l.f_X))))+(w64 ((w64 (l.f_ToY - l.f_Y)) * (w64 (l.f_ToY - l.f_Y)))))))) (fun hq3=>?_) (fun hq3=>?_)
      · have h:=condT h hq3
        refine Runs.sR hE ⟨[(5,(aI (w64 ((w64 ((w64 (l.f_ToX - l.f_X)) * (w64 (l.f_ToX - l.f_X))))+(w64 ((w64 (l.f_ToY - l.f_Y)) * (w64 (l.f_ToY - l.f_Y)))))))),(6,(aI (orI .i64 root (shlI .i64 1 (w64 (22 - x)))))),(26,(aI x))],[],256⟩ (C_12 128206) [] [] (kp [5,6,26]) [] 256 [] trivial ?_
        refine Runs.sA 1 [.code (C_12 4007),.inLoop (C_12 500),.inBlock 0,.code (C_12 63)] ?_
        exact Runs.sW hE _ [] (kp [5,6,26]) [] 0 [] trivial (g_berth_span_J2_ok N l x (g_berth_span_L1 N l fuel) ih (orI .i64 root (shlI .i64 1 (w64 (22 - x)))) _ h E hE)
      · have h:=condF h hq3
        refine Runs.sA 2 [.code (C_12 4007),.inLoop (C_12 500),.inBlock 0,.code (C_12 63)] ?_
        exact Runs.sW hE _ [] (kp [5,6,26]) [] 0 [] trivial (g_berth_span_J2_ok N l x (g_berth_span_L1 N l fuel) ih root _ h E hE)
    · have h:=condF h hq2
      refine Runs.sA 2 [.code (C_12 126),.code (C_12 127)] ?_
      refine Runs.sR hE ⟨[(2,(aI (w64 (root+1))))],[],64⟩ (C_12 126) [] [] (kp [2]) [] 64 [] trivial ?_
      obtain rfl:=Option.some.inj h
      refine Runs.sW hE ⟨[(2,(aI (w64 (root+1))))],[],64⟩ [] (kp [2]) [] 64 [] trivial ?_
      exact Runs.sT Try.f38 [] [] trivial
theorem g_berth_span_ok (N:Nat) (l:TLine) (r:Int) (h:g_berth_span N l = some r):Sound Try.prog 38 [(.agg (TLine.cells l))] [] 0 (aI r) []:=by
  unfold g_berth_span at h
  refine Sound.of_runs (fu:=Try.f38) (c:=C_12 1) (nt:=43) (by kernel_rfl) (by kernel_rfl) (by kernel_rfl) (by kernel_rfl) (fun hm=>rfl) ?_
  intro E hE
  refine Runs.sA 1 [.code (C_12 2),.code (C_12 3)] ?_
  refine Runs.sR hE ⟨[(1,(.op 0 0 0))],[(0,vO 6 (TLine.cells l))],32⟩ (C_12 2) [] [] (kp [1]) (kq [0]) 32 [] trivial ?_
  refine Runs.sA 1 [.code (C_12 6),.code (C_12 7)] ?_
  refine Runs.sR hE ⟨[(3,(aI (w64 (l.f_ToX - l.f_X)))),(4,(aI (w64 (l.f_ToY - l.f_Y))))],[],224⟩ (C_12 6) [] [] (kp [3,4]) [] 224 [0 < 1,0 < 1,0 < 1,0 < 1] ⟨o1,o1,o1,o1,trivial⟩ ?_
  refine Runs.sA 1 [.code (C_12 14),.code (C_12 15)] ?_
  refine Runs.sR hE ⟨[(5,(aI (w64 ((w64 ((w64 (l.f_ToX - l.f_X)) * (w64 (l.f_ToX - l.f_X))))+(w64 ((w64 (l.f_ToY - l.f_Y)) * (w64 (l.f_ToY - l.f_Y))))))))],[],352⟩ (C_12 14) [] [] (kp [5]) [] 352 [] trivial ?_
  refine Runs.sA 1 [.code (C_12 30),.code (C_12 31)] ?_
  refine Runs.sR hE ⟨[(5,(aI (w64 ((w64 ((w64 (l.f_ToX - l.f_X)) * (w64 (l.f_ToX - l.f_X))))+(w64 ((w64 (l.f_ToY - l.f_Y)) * (w64 (l.f_ToY - l.f_Y)))))))),(6,(aI 0))],[],368⟩ (C_12 30) [] [] (kp [5,6]) [] 368 [] trivial ?_
  refine Runs.sA 2 [.code (C_12 124),.code (C_12 125),.code (C_12 63)] ?_
  refine Runs.sR hE ⟨[(5,(aI (w64 ((w64 ((w64 (l.f_ToX - l.f_X)) * (w64 (l.f_ToX - l.f_X))))+(w64 ((w64 (l.f_ToY - l.f_Y)) * (w64 (l.f_ToY - l.f_Y)))))))),(6,(aI 0)),(26,(aI 0))],[],384⟩ (C_12 124) [] [] (kp [5,6,26]) [] 384 [] trivial ?_
  refine Runs.sA 2 [.code (C_12 500),.inLoop (C_12 500),.inBlock 0,.code (C_12 63)] ?_
  exact Runs.sW hE _ [] (kp [5,6,26]) [] 0 [] trivial (g_berth_span_L1_ok N l N 0 0 _ h E hE)
noncomputable def C_2 (n:Nat):Code:=cat (bodyOf Try.f16) (pth n)
theorem g_berth_Span_ok (N:Nat) (l:TLine) (r:Int × Int) (h:g_berth_Span N l = some r):Sound Try.prog 16 [(.agg (TLine.cells l))] [] 0 (.tup [(aI r.1),(aI r.2)]) []:=by
  unfold g_berth_Span at h
  refine Sound.of_runs (fu:=Try.f16) (c:=C_2 1) (nt:=13) (by kernel_rfl) (by kernel_rfl) (by kernel_rfl) (by kernel_rfl) (fun hm=>rfl) ?_
  intro E hE
  refine Runs.sA 1 [.code (C_2 2),.code (C_2 3)] ?_
  refine Runs.sR hE ⟨[(1,(.op 0 0 0))],[(0,vO 6 (TLine.cells l))],48⟩ (C_2 2) [] [] (kp [1]) (kq [0]) 48 [] trivial ?_
  refine Runs.sA 2 [.code (C_2 12),.code (C_2 13),.code (C_2 7)] ?_
  obtain ⟨rCheckLines,hr,h⟩:=bindSome h
  refine Runs.sR hE ⟨[(1,(.op 0 0 0)),(4,(aI rCheckLines))],[(0,vO 6 (TLine.cells l))],112⟩ (C_2 12) [(2,⟨[],true,(aI rCheckLines),[],0,false,none⟩)] [] (kp [1,4]) (kq [0]) 112 [0 < 1,Sound Try.prog 18 [(.sl 1 (fun zi=>(fun zi=>([[(aS l.f_Name),(aI l.f_X),(aI l.f_Y),(aI l.f_ToX),(aI l.f_ToY),(aI l.f_Most)]]:List (List AV)).getD zi []) (addz 0 zi)))] [] 0 (aI rCheckLines) [],0+1≤1] ⟨o1,(Sound.conv (g_berth_CheckLines_ok N ([l]:List TLine) rCheckLines hr) (.cons (Alike.sl rfl (fun zq hzq=>get_chunk TLine.cells TLine.d ([l]:List TLine) zq hzq)) .nil)),z0,trivial⟩ ?_
  refine Runs.sA 1 [.code (C_2 26),.code (C_2 27),.code (C_2 7)] ?_
  refine Runs.sR hE ⟨[(1,(.op 0 0 0)),(4,(aI rCheckLines)),(9,(aB (rCheckLines != 0)))],[(0,vO 6 (TLine.cells l))],144⟩ (C_2 26) [] [] (kp [1,4,9]) (kq [0]) 144 [] trivial ?_
  refine Runs.sC 9 (C_2 54) (C_2 55) (rCheckLines != 0) (fun hq2=>?_) (fun hq2=>?_)
  · have h:=condT h hq2
    refine Runs.sA 1 [.code (C_2 108),.code (C_2 109),.code (C_2 7)] ?_
    refine Runs.sR hE ⟨[(2,(aI 0)),(3,(aI rCheckLines))],[],192⟩ (C_2 108) [] [] (kp [2,3]) [] 192 [] trivial ?_
    obtain rfl:=Option.some.inj h
    refine Runs.sW hE ⟨[(2,(aI 0)),(3,(aI rCheckLines))],[],192⟩ [] (kp [2,3]) [] 192 [] trivial ?_
    exact Runs.sT Try.f16 [] [] trivial
  · have h:=condF h hq2
    refine Runs.sA 2 [.code (C_2 14),.code (C_2 15)] ?_
    obtain ⟨rspan,hr2,h⟩:=bindSome h
    refine Runs.sR hE ⟨[(2,(aI rspan)),(3,(aI 0))],[],208⟩ (C_2 14) [(1,⟨[],true,(aI rspan),[],0,false,none⟩)] [] (kp [2,3]) [] 208 [0 < 1,Sound Try.prog 38 [(.agg (TLine.cells l))] [] 0 (aI rspan) []] ⟨o1,(g_berth_span_ok N l rspan hr2),trivial⟩ ?_
    obtain rfl:=Option.some.inj h
    refine Runs.sW hE ⟨[(2,(aI rspan)),(3,(aI 0))],[],208⟩ [] (kp [2,3]) [] 208 [] trivial ?_
    exact Runs.sT Try.f16 [] [] trivial
noncomputable def C_1 (n:Nat):Code:=cat (bodyOf Try.f5) (pth n)
theorem g_w06_spans_ok (N:Nat) (r:Bool) (h:g_w06_spans N = some r):Sound Try.prog 5 [] [] 0 (aB r) []:=by
  unfold g_w06_spans at h
  refine Sound.of_runs (fu:=Try.f5) (c:=C_1 1) (nt:=14) (by kernel_rfl) (by kernel_rfl) (by kernel_rfl) (by kernel_rfl) (fun hm=>rfl) ?_
  intro E hE
  refine Runs.sA 1 [.code (C_1 2),.code (C_1 3)] ?_
  refine Runs.sR hE ⟨[],[],16⟩ (C_1 2) [] [] [] [] 16 [] trivial ?_
  refine Runs.sA 1 [.code (C_1 6),.code (C_1 7)] ?_
  obtain ⟨rSpan,hr,h⟩:=bindSome h
  refine Runs.sR hE ⟨[(1,(aI rSpan.1)),(2,(aI rSpan.2))],[],128⟩ (C_1 6) [(1,⟨[],true,(.tup [(aI rSpan.1),(aI rSpan.2)]),[],0,false,none⟩)] [] (kp [1,2]) [] 128 [Sound Try.prog 16 [(.agg [(aS (⟨#[108]⟩:ByteArray)),(aI 0),(aI 0),(aI 3000),(aI 4000),(aI 1000)])] [] 0 (.tup [(aI rSpan.1),(aI rSpan.2)]) []] ⟨(g_berth_Span_ok N (⟨(⟨#[108]⟩:ByteArray),0,0,3000,4000,1000⟩:TLine) rSpan hr),trivial⟩ ?_
  refine Runs.sA 1 [.code (C_1 14),.code (C_1 15)] ?_
  refine Runs.sR hE ⟨[(0,(aB (cond (rSpan.2 == 0) (rSpan.1 == 5000) false)))],[],240⟩ (C_1 14) [] [] (kp [0]) [] 240 [(rSpan.2 == 0) = true→AllP [(rSpan.2 == 0) = true],(rSpan.2 == 0) = true→AllP [(rSpan.2 == 0) = true]] ⟨(fun hg=>⟨hg,trivial⟩),(fun hq=>⟨hq,trivial⟩),trivial⟩ ?_
  obtain rfl:=Option.some.inj h
  refine Runs.sW hE ⟨[(0,(aB (cond (rSpan.2 == 0) (rSpan.1 == 5000) false)))],[],240⟩ [] (kp [0]) [] 240 [] trivial ?_
  exact Runs.sT Try.f5 [] [] trivial
noncomputable def C_13 (n:Nat):Code:=cat (bodyOf Try.f6) (pth n)
theorem g_w06_slack_L1_ok (N:Nat) (l:List TLine) (fuel:Nat):∀ (i:Int) (r:Bool),g_w06_slack_L1 N l fuel i = some r→∀ E,EnvOk E 0→Runs Try.prog E 6 20 (SPost E [] (aB r)) [.code (C_13 52),.inLoop (C_13 52),.inBlock 0,.code (C_13 7)] ⟨[(0,(encL TLine.cells TLine.d l)),(3,(aI i))],[],0⟩:=by
  induction fuel with
  | zero=>intro _ r h; rw [g_w06_slack_L1.eq_1] at h; cases h
  | succ fuel ih =>
    intro i r h E hE
    rw [g_w06_slack_L1.eq_2] at h
    refine Runs.sA 2 [.code (C_13 208),.code (C_13 209),.code (C_13 105),.inLoop (C_13 52),.inBlock 0,.code (C_13 7)] ?_
    refine Runs.sR hE ⟨[(0,(encL TLine.cells TLine.d l)),(3,(aI i)),(7,(aB (decide (i < ((l.length:Nat):Int)))))],[],64⟩ (C_13 208) [] [] (kp [0,3,7]) [] 64 [] trivial ?_
    refine Runs.sC 7 (C_13 418) (C_13 419) (decide (i < ((l.length:Nat):Int))) (fun hq2=>?_) (fun hq2=>?_)
    · have h:=condT h hq2
      refine Runs.sA 4 [.code (C_13 840),.code (C_13 841),.inBlock 1,.code (C_13 211),.inLoop (C_13 52),.inBlock 0,.code (C_13 7)] ?_
      obtain ⟨c,h⟩:=ifSome h
      refine Runs.sR hE ⟨[(0,(encL TLine.cells TLine.d l)),(3,(aI i)),(16,(aB (decide (((((l.getD ((i).toNat) TLine.d).f_Name).size:Nat):Int) > 40))))],[],176⟩ (C_13 840) [] [] (kp [0,3,16]) [] 176 [0≤i∧i < ((l.length:Nat):Int)] ⟨c,trivial⟩ ?_
      refine Runs.sC 16 (C_13 1682) (C_13 1683) (decide (((((l.getD ((i).toNat) TLine.d).f_Name).size:Nat):Int) > 40)) (fun hq3=>?_) (fun hq3=>?_)
      · have h:=condT h hq3
        refine Runs.sA 1 [.code (C_13 3364),.code (C_13 3365),.inBlock 1,.code (C_13 211),.inLoop (C_13 52),.inBlock 0,.code (C_13 7)] ?_
        refine Runs.sR hE ⟨[(2,(aB false))],[],192⟩ (C_13 3364) [] [] (kp [2]) [] 192 [] trivial ?_
        obtain rfl:=Option.some.inj h
        refine Runs.sW hE ⟨[(2,(aB false))],[],192⟩ [] (kp [2]) [] 192 [] trivial ?_
        exact Runs.sT Try.f6 [] [] trivial
      · have h:=condF h hq3
        refine Runs.sA 2 [.code (C_13 211),.inLoop (C_13 52),.inBlock 0,.code (C_13 7)] ?_
        refine Runs.sR hE ⟨[(0,(encL TLine.cells TLine.d l)),(3,(aI (w64 (i+1))))],[],224⟩ (C_13 211) [] [] (kp [0,3]) [] 224 [] trivial ?_
        refine Runs.sA 1 [.code (C_13 52),.inLoop (C_13 52),.inBlock 0,.code (C_13 7)] ?_
        exact Runs.sW hE _ [] (kp [0,3]) [] 0 [] trivial (ih (w64 (i+1)) _ h E hE)
    · have h:=condF h hq2
      refine Runs.sA 2 [.code (C_13 14),.code (C_13 15)] ?_
      refine Runs.sR hE ⟨[(2,(aB (decide (((l.length:Nat):Int)≤14))))],[],128⟩ (C_13 14) [] [] (kp [2]) [] 128 [] trivial ?_
      obtain rfl:=Option.some.inj h
      refine Runs.sW hE ⟨[(2,(aB (decide (((l.length:Nat):Int)≤14))))],[],128⟩ [] (kp [2]) [] 128 [] trivial ?_
      exact Runs.sT Try.f6 [] [] trivial
theorem g_w06_slack_ok (N:Nat) (l:List TLine) (r:Bool) (h:g_w06_slack N l = some r):Sound Try.prog 6 [(encL TLine.cells TLine.d l)] [] 0 (aB r) []:=by
  unfold g_w06_slack at h
  refine Sound.of_runs (fu:=Try.f6) (c:=C_13 1) (nt:=20) (by kernel_rfl) (by kernel_rfl) (by kernel_rfl) (by kernel_rfl) (fun hm=>rfl) ?_
  intro E hE
  refine Runs.sA 1 [.code (C_13 2),.code (C_13 3)] ?_
  refine Runs.sR hE ⟨[(0,(encL TLine.cells TLine.d l))],[],16⟩ (C_13 2) [] [] (kp [0]) [] 16 [] trivial ?_
  refine Runs.sA 2 [.code (C_13 12),.code (C_13 13),.code (C_13 7)] ?_
  refine Runs.sR hE ⟨[(0,(encL TLine.cells TLine.d l)),(3,(aI 0))],[],32⟩ (C_13 12) [] [] (kp [0,3]) [] 32 [] trivial ?_
  refine Runs.sA 2 [.code (C_13 52),.inLoop (C_13 52),.inBlock 0,.code (C_13 7)] ?_
  exact Runs.sW hE _ [] (kp [0,3]) [] 0 [] trivial (g_w06_slack_L1_ok N l N 0 _ h E hE)
noncomputable def C_16 (n:Nat):Code:=cat (bodyOf Try.f39) (pth n)
theorem g_b_Short_ok (N:Nat) (x:TRat) (n:Int) (r:Bool) (h:g_b_Short N x n = some r):Sound Try.prog 39 [(.agg (TRat.cells x)),(aI n)] [] 0 (aB r) []:=by
  unfold g_b_Short at h
  refine Sound.of_runs (fu:=Try.f39) (c:=C_16 1) (nt:=19) (by kernel_rfl) (by kernel_rfl) (by kernel_rfl) (by kernel_rfl) (fun hm=>rfl) ?_
  intro E hE
  refine Runs.sA 1 [.code (C_16 2),.code (C_16 3)] ?_
  refine Runs.sR hE ⟨[(1,(aI n)),(2,(.op 0 0 0))],[(0,vO 4 (TRat.cells x))],32⟩ (C_16 2) [] [] (kp [1,2]) (kq [0]) 32 [] trivial ?_
  refine Runs.sA 1 [.code (C_16 6),.code (C_16 7)] ?_
  refine Runs.sR hE ⟨[(4,(aB (cond (decide (((x.f_Num.f_Limbs.length:Nat):Int)≤n)) (decide (((x.f_Den.f_Limbs.length:Nat):Int)≤n)) false)))],[],272⟩ (C_16 6) [] [] (kp [4]) [] 272 [0 < 1,(decide (((x.f_Num.f_Limbs.length:Nat):Int)≤n)) = true→AllP [(decide (((x.f_Num.f_Limbs.length:Nat):Int)≤n)) = true],(decide (((x.f_Num.f_Limbs.length:Nat):Int)≤n)) = true→AllP [(decide (((x.f_Num.f_Limbs.length:Nat):Int)≤n)) = true,0 < 1],(decide (((x.f_Num.f_Limbs.length:Nat):Int)≤n)) = true→AllP [(decide (((x.f_Num.f_Limbs.length:Nat):Int)≤n)) = true],(decide (((x.f_Num.f_Limbs.length:Nat):Int)≤n)) = true→AllP [(decide (((x.f_Num.f_Limbs.length:Nat):Int)≤n)) = true,(decide (((x.f_Num.f_Limbs.length:Nat):Int)≤n)) = true],(decide (((x.f_Num.f_Limbs.length:Nat):Int)≤n)) = true→AllP [(decide (((x.f_Num.f_Limbs.length:Nat):Int)≤n)) = true]] ⟨o1,(fun hg=>⟨hg,trivial⟩),(fun hg=>⟨hg,o1,trivial⟩),(fun hg=>⟨hg,trivial⟩),(fun hg=>⟨hg,hg,trivial⟩),(fun hq=>⟨hq,trivial⟩),trivial⟩ ?_
  obtain rfl:=Option.some.inj h
  refine Runs.sW hE ⟨[(4,(aB (cond (decide (((x.f_Num.f_Limbs.length:Nat):Int)≤n)) (decide (((x.f_Den.f_Limbs.length:Nat):Int)≤n)) false)))],[],272⟩ [] (kp [4]) [] 272 [] trivial ?_
  exact Runs.sT Try.f39 [] [] trivial
noncomputable def C_15 (n:Nat):Code:=cat (bodyOf Try.f17) (pth n)
theorem g_b_ShortAll_L1_ok (N:Nat) (l:List TRat) (n:Int) (fuel:Nat):∀ (i:Int) (r:Bool),g_b_ShortAll_L1 N l n fuel i = some r→∀ E,EnvOk E 0→Runs Try.prog E 17 19 (SPost E [] (aB r)) [.code (C_15 52),.inLoop (C_15 52),.inBlock 0,.code (C_15 7)] ⟨[(0,(encL TRat.cells TRat.d l)),(1,(aI n)),(5,(aI i))],[],0⟩:=by
  induction fuel with
  | zero=>intro _ r h; rw [g_b_ShortAll_L1.eq_1] at h; cases h
  | succ fuel ih =>
    intro i r h E hE
    rw [g_b_ShortAll_L1.eq_2] at h
    refine Runs.sA 2 [.code (C_15 208),.code (C_15 209),.code (C_15 105),.inLoop (C_15 52),.inBlock 0,.code (C_15 7)] ?_
    refine Runs.sR hE ⟨[(0,(encL TRat.cells TRat.d l)),(1,(aI n)),(5,(aI i)),(9,(aB (decide (i < ((l.length:Nat):Int)))))],[],64⟩ (C_15 208) [] [] (kp [0,1,5,9]) [] 64 [] trivial ?_
    refine Runs.sC 9 (C_15 418) (C_15 419) (decide (i < ((l.length:Nat):Int))) (fun hq2=>?_) (fun hq2=>?_)
    · have h:=condT h hq2
      refine Runs.sA 4 [.code (C_15 840),.code (C_15 841),.inBlock 1,.code (C_15 211),.inLoop (C_15 52),.inBlock 0,.code (C_15 7)] ?_
      obtain ⟨c,h⟩:=ifSome h
      obtain ⟨rShort,hr,h⟩:=bindSome h
      refine Runs.sR hE ⟨[(0,(encL TRat.cells TRat.d l)),(1,(aI n)),(5,(aI i)),(18,(aB (!rShort)))],[],176⟩ (C_15 840) [(5,⟨[],true,(aB rShort),[],0,false,none⟩)] [] (kp [0,1,5,18]) [] 176 [0≤i∧i < ((l.length:Nat):Int),Sound Try.prog 39 [(.agg [(aB (((l.getD ((i).toNat) TRat.d).f_Num).f_Neg)),(encL (cU .u16) 0 (((l.getD ((i).toNat) TRat.d).f_Num).f_Limbs)),(aB (((l.getD ((i).toNat) TRat.d).f_Den).f_Neg)),(encL (cU .u16) 0 (((l.getD ((i).toNat) TRat.d).f_Den).f_Limbs))]),(aI n)] [] 0 (aB rShort) []] ⟨c,(g_b_Short_ok N (⟨((l.getD ((i).toNat) TRat.d).f_Num),((l.getD ((i).toNat) TRat.d).f_Den)⟩:TRat) n rShort hr),trivial⟩ ?_
      refine Runs.sC 18 (C_15 1682) (C_15 1683) (!rShort) (fun hq3=>?_) (fun hq3=>?_)
      · have h:=condT h hq3
        refine Runs.sA 1 [.code (C_15 3364),.code (C_15 3365),.inBlock 1,.code (C_15 211),.inLoop (C_15 52),.inBlock 0,.code (C_15 7)] ?_
        refine Runs.sR hE ⟨[(4,(aB false))],[],192⟩ (C_15 3364) [] [] (kp [4]) [] 192 [] trivial ?_
        obtain rfl:=Option.some.inj h
        refine Runs.sW hE ⟨[(4,(aB false))],[],192⟩ [] (kp [4]) [] 192 [] trivial ?_
        exact Runs.sT Try.f17 [] [] trivial
      · have h:=condF h hq3
        refine Runs.sA 2 [.code (C_15 211),.inLoop (C_15 52),.inBlock 0,.code (C_15 7)] ?_
        refine Runs.sR hE ⟨[(0,(encL TRat.cells TRat.d l)),(1,(aI n)),(5,(aI (w64 (i+1))))],[],224⟩ (C_15 211) [] [] (kp [0,1,5]) [] 224 [] trivial ?_
        refine Runs.sA 1 [.code (C_15 52),.inLoop (C_15 52),.inBlock 0,.code (C_15 7)] ?_
        exact Runs.sW hE _ [] (kp [0,1,5]) [] 0 [] trivial (ih (w64 (i+1)) _ h E hE)
    · have h:=condF h hq2
      refine Runs.sA 2 [.code (C_15 14),.code (C_15 15)] ?_
      refine Runs.sR hE ⟨[(4,(aB true))],[],80⟩ (C_15 14) [] [] (kp [4]) [] 80 [] trivial ?_
      obtain rfl:=Option.some.inj h
      refine Runs.sW hE ⟨[(4,(aB true))],[],80⟩ [] (kp [4]) [] 80 [] trivial ?_
      exact Runs.sT Try.f17 [] [] trivial
theorem g_b_ShortAll_ok (N:Nat) (l:List TRat) (n:Int) (r:Bool) (h:g_b_ShortAll N l n = some r):Sound Try.prog 17 [(encL TRat.cells TRat.d l),(aI n)] [] 0 (aB r) []:=by
  unfold g_b_ShortAll at h
  refine Sound.of_runs (fu:=Try.f17) (c:=C_15 1) (nt:=19) (by kernel_rfl) (by kernel_rfl) (by kernel_rfl) (by kernel_rfl) (fun hm=>rfl) ?_
  intro E hE
  refine Runs.sA 1 [.code (C_15 2),.code (C_15 3)] ?_
  refine Runs.sR hE ⟨[(0,(encL TRat.cells TRat.d l)),(1,(aI n))],[],16⟩ (C_15 2) [] [] (kp [0,1]) [] 16 [] trivial ?_
  refine Runs.sA 2 [.code (C_15 12),.code (C_15 13),.code (C_15 7)] ?_
  refine Runs.sR hE ⟨[(0,(encL TRat.cells TRat.d l)),(1,(aI n)),(5,(aI 0))],[],32⟩ (C_15 12) [] [] (kp [0,1,5]) [] 32 [] trivial ?_
  refine Runs.sA 2 [.code (C_15 52),.inLoop (C_15 52),.inBlock 0,.code (C_15 7)] ?_
  exact Runs.sW hE _ [] (kp [0,1,5]) [] 0 [] trivial (g_b_ShortAll_L1_ok N l n N 0 _ h E hE)
noncomputable def C_14 (n:Nat):Code:=cat (bodyOf Try.f7) (pth n)
theorem g_w06_flat_ok (N:Nat) (m:TMooring) (r:Bool) (h:g_w06_flat N m = some r):Sound Try.prog 7 [(.agg (TMooring.cells m))] [] 0 (aB r) []:=by
  unfold g_w06_flat at h
  refine Sound.of_runs (fu:=Try.f7) (c:=C_14 1) (nt:=23) (by kernel_rfl) (by kernel_rfl) (by kernel_rfl) (by kernel_rfl) (fun hm=>rfl) ?_
  intro E hE
  refine Runs.sA 1 [.code (C_14 2),.code (C_14 3)] ?_
  refine Runs.sR hE ⟨[(1,(.op 0 0 0))],[(0,vO 3 (TMooring.cells m))],32⟩ (C_14 2) [] [] (kp [1]) (kq [0]) 32 [] trivial ?_
  refine Runs.sA 1 [.code (C_14 6),.code (C_14 7)] ?_
  obtain ⟨rShortAll,hr,h⟩:=bindSome h
  obtain ⟨rShortAll2,hr2,h⟩:=bindSome h
  refine Runs.sR hE ⟨[(2,(aB (cond (cond (cond (decide (((m.f_Parts.length:Nat):Int)≤20)) (decide (((m.f_Proof.length:Nat):Int)≤6)) false) rShortAll false) rShortAll2 false)))],[],368⟩ (C_14 6) [(13,⟨[],true,(aB rShortAll),[],0,false,none⟩),(18,⟨[],true,(aB rShortAll2),[],0,false,none⟩)] [] (kp [2]) [] 368 [0 < 1,(decide (((m.f_Parts.length:Nat):Int)≤20)) = true→AllP [(decide (((m.f_Parts.length:Nat):Int)≤20)) = true,0 < 1],(decide (((m.f_Parts.length:Nat):Int)≤20)) = true→AllP [(decide (((m.f_Parts.length:Nat):Int)≤20)) = true],(decide (((m.f_Parts.length:Nat):Int)≤20)) = true→AllP [(decide (((m.f_Parts.length:Nat):Int)≤20)) = true],(decide (((m.f_Parts.length:Nat):Int)≤20)) = true→AllP [(decide (((m.f_Parts.length:Nat):Int)≤20)) = true],(cond (decide (((m.f_Parts.length:Nat):Int)≤20)) (decide (((m.f_Proof.length:Nat):Int)≤6)) false) = true→AllP [(cond (decide (((m.f_Parts.length:Nat):Int)≤20)) (decide (((m.f_Proof.length:Nat):Int)≤6)) false) = true,0 < 1],(cond (decide (((m.f_Parts.length:Nat):Int)≤20)) (decide (((m.f_Proof.length:Nat):Int)≤6)) false) = true→AllP [Sound Try.prog 17 [(encL TRat.cells TRat.d m.f_Parts),(aI 12)] [] 0 (aB rShortAll) [],(cond (decide (((m.f_Parts.length:Nat):Int)≤20)) (decide (((m.f_Proof.length:Nat):Int)≤6)) false) = true],(cond (decide (((m.f_Parts.length:Nat):Int)≤20)) (decide (((m.f_Proof.length:Nat):Int)≤6)) false) = true→AllP [(cond (decide (((m.f_Parts.length:Nat):Int)≤20)) (decide (((m.f_Proof.length:Nat):Int)≤6)) false) = true],(cond (cond (decide (((m.f_Parts.length:Nat):Int)≤20)) (decide (((m.f_Proof.length:Nat):Int)≤6)) false) rShortAll false) = true→AllP [(cond (cond (decide (((m.f_Parts.length:Nat):Int)≤20)) (decide (((m.f_Proof.length:Nat):Int)≤6)) false) rShortAll false) = true,0 < 1],(cond (cond (decide (((m.f_Parts.length:Nat):Int)≤20)) (decide (((m.f_Proof.length:Nat):Int)≤6)) false) rShortAll false) = true→AllP [Sound Try.prog 17 [(encL TRat.cells TRat.d m.f_Proof),(aI 12)] [] 0 (aB rShortAll2) [],(cond (cond (decide (((m.f_Parts.length:Nat):Int)≤20)) (decide (((m.f_Proof.length:Nat):Int)≤6)) false) rShortAll false) = true],(cond (cond (decide (((m.f_Parts.length:Nat):Int)≤20)) (decide (((m.f_Proof.length:Nat):Int)≤6)) false) rShortAll false) = true→AllP [(cond (cond (decide (((m.f_Parts.length:Nat):Int)≤20)) (decide (((m.f_Proof.length:Nat):Int)≤6)) false) rShortAll false) = true]] ⟨o1,(fun hg=>⟨hg,o1,trivial⟩),(fun hg=>⟨hg,trivial⟩),(fun hg=>⟨hg,trivial⟩),(fun hq=>⟨hq,trivial⟩),(fun hg=>⟨hg,o1,trivial⟩),(fun hg=>⟨(g_b_ShortAll_ok N m.f_Parts 12 rShortAll (condT hr hg)),hg,trivial⟩),(fun hq=>⟨hq,trivial⟩),(fun hg=>⟨hg,o1,trivial⟩),(fun hg=>⟨(g_b_ShortAll_ok N m.f_Proof 12 rShortAll2 (condT hr2 hg)),hg,trivial⟩),(fun hq=>⟨hq,trivial⟩),trivial⟩ ?_
  obtain rfl:=Option.some.inj h
  refine Runs.sW hE ⟨[(2,(aB (cond (cond (cond (decide (((m.f_Parts.length:Nat):Int)≤20)) (decide (((m.f_Proof.length:Nat):Int)≤6)) false) rShortAll false) rShortAll2 false)))],[],368⟩ [] (kp [2]) [] 368 [] trivial ?_
  exact Runs.sT Try.f7 [] [] trivial
noncomputable def C_19 (n:Nat):Code:=cat (bodyOf Try.f43) (pth n)
theorem g_berth_ranged_ok (N:Nat) (wrong:Bool) (r:Int) (h:g_berth_ranged N wrong = some r):Sound Try.prog 43 [(aB wrong)] [] 0 (aI r) []:=by
  unfold g_berth_ranged at h
  refine Sound.of_runs (fu:=Try.f43) (c:=C_19 1) (nt:=4) (by kernel_rfl) (by kernel_rfl) (by kernel_rfl) (by kernel_rfl) (fun hm=>rfl) ?_
  intro E hE
  refine Runs.sA 1 [.code (C_19 2),.code (C_19 3)] ?_
  refine Runs.sR hE ⟨[(0,(aB wrong))],[],16⟩ (C_19 2) [] [] (kp [0]) [] 16 [] trivial ?_
  refine Runs.sA 2 [.code (C_19 12),.code (C_19 13),.code (C_19 7)] ?_
  refine Runs.sR hE ⟨[(3,(aB wrong))],[],32⟩ (C_19 12) [] [] (kp [3]) [] 32 [] trivial ?_
  refine Runs.sC 3 (C_19 26) (C_19 27) wrong (fun hq2=>?_) (fun hq2=>?_)
  · have h:=condT h hq2
    refine Runs.sA 1 [.code (C_19 52),.code (C_19 53),.code (C_19 7)] ?_
    refine Runs.sR hE ⟨[(2,(aI 2))],[],48⟩ (C_19 52) [] [] (kp [2]) [] 48 [] trivial ?_
    obtain rfl:=Option.some.inj h
    refine Runs.sW hE ⟨[(2,(aI 2))],[],48⟩ [] (kp [2]) [] 48 [] trivial ?_
    exact Runs.sT Try.f43 [] [] trivial
  · have h:=condF h hq2
    refine Runs.sA 2 [.code (C_19 14),.code (C_19 15)] ?_
    refine Runs.sR hE ⟨[(2,(aI 0))],[],48⟩ (C_19 14) [] [] (kp [2]) [] 48 [] trivial ?_
    obtain rfl:=Option.some.inj h
    refine Runs.sW hE ⟨[(2,(aI 0))],[],48⟩ [] (kp [2]) [] 48 [] trivial ?_
    exact Runs.sT Try.f43 [] [] trivial
noncomputable def C_18 (n:Nat):Code:=cat (bodyOf Try.f19) (pth n)
theorem g_berth_checkWind_ok (N:Nat) (w:TWind) (r:Int) (h:g_berth_checkWind N w = some r):Sound Try.prog 19 [(.agg (TWind.cells w))] [] 0 (aI r) []:=by
  unfold g_berth_checkWind at h
  refine Sound.of_runs (fu:=Try.f19) (c:=C_18 1) (nt:=17) (by kernel_rfl) (by kernel_rfl) (by kernel_rfl) (by kernel_rfl) (fun hm=>rfl) ?_
  intro E hE
  refine Runs.sA 1 [.code (C_18 2),.code (C_18 3)] ?_
  refine Runs.sR hE ⟨[(1,(.op 0 0 0))],[(0,vO 3 (TWind.cells w))],32⟩ (C_18 2) [] [] (kp [1]) (kq [0]) 32 [] trivial ?_
  refine Runs.sA 1 [.code (C_18 6),.code (C_18 7)] ?_
  obtain ⟨routside,hr,h⟩:=bindSome h
  obtain ⟨routside2,hr2,h⟩:=bindSome h
  obtain ⟨routside3,hr3,h⟩:=bindSome h
  obtain ⟨rranged,hr4,h⟩:=bindSome h
  refine Runs.sR hE ⟨[(2,(aI rranged))],[],272⟩ (C_18 6) [(2,⟨[],true,(aB routside),[],0,false,none⟩),(6,⟨[],true,(aB routside2),[],0,false,none⟩),(11,⟨[],true,(aB routside3),[],0,false,none⟩),(13,⟨[],true,(aI rranged),[],0,false,none⟩)] [] (kp [2]) [] 272 [0 < 1,Sound Try.prog 44 [(aI w.f_X),(aI (-1000000000)),(aI 1000000000)] [] 0 (aB routside) [],(!routside) = true→AllP [(!routside) = true,0 < 1],(!routside) = true→AllP [Sound Try.prog 44 [(aI w.f_Y),(aI (-1000000000)),(aI 1000000000)] [] 0 (aB routside2) [],(!routside) = true],(!routside) = true→AllP [(!routside) = true],(!(cond routside true routside2)) = true→AllP [(!(cond routside true routside2)) = true,0 < 1],(!(cond routside true routside2)) = true→AllP [Sound Try.prog 44 [(aI w.f_Turn),(aI (-1000000000000000)),(aI 1000000000000000)] [] 0 (aB routside3) [],(!(cond routside true routside2)) = true],(!(cond routside true routside2)) = true→AllP [(!(cond routside true routside2)) = true],Sound Try.prog 43 [(aB (cond (cond routside true routside2) true routside3))] [] 0 (aI rranged) []] ⟨o1,(g_berth_outside_ok N w.f_X (-1000000000) 1000000000 routside hr),(fun hg=>⟨hg,o1,trivial⟩),(fun hg=>⟨(g_berth_outside_ok N w.f_Y (-1000000000) 1000000000 routside2 (condT hr2 hg)),hg,trivial⟩),(fun hq=>⟨hq,trivial⟩),(fun hg=>⟨hg,o1,trivial⟩),(fun hg=>⟨(g_berth_outside_ok N w.f_Turn (-1000000000000000) 1000000000000000 routside3 (condT hr3 hg)),hg,trivial⟩),(fun hq=>⟨hq,trivial⟩),(g_berth_ranged_ok N (cond (cond routside true routside2) true routside3) rranged hr4),trivial⟩ ?_
  obtain rfl:=Option.some.inj h
  refine Runs.sW hE ⟨[(2,(aI rranged))],[],272⟩ [] (kp [2]) [] 272 [] trivial ?_
  exact Runs.sT Try.f19 [] [] trivial
noncomputable def C_24 (n:Nat):Code:=cat (bodyOf Try.f111) (pth n)
theorem g_e_natural_L1_ok (N:Nat) (fuel:Nat):∀ (n2:Int) (out:List Int) (r:(List Int)),g_e_natural_L1 N fuel n2 out = some r→∀ E,EnvOk E 0→Runs Try.prog E 111 14 (SPost E [] (encL (cU .u16) 0 r)) [.code (C_24 56),.inLoop (C_24 56),.inBlock 0,.code (C_24 15)] ⟨[(0,(.atom (.int .u64 n2))),(3,(.os 0 0 out.length))],[(0,aO 1 (cU .u16) 0 out)],1⟩:=by
  induction fuel with
  | zero=>intro _ _ r h; rw [g_e_natural_L1.eq_1] at h; cases h
  | succ fuel ih =>
    intro n2 out r h E hE
    rw [g_e_natural_L1.eq_2] at h
    refine Runs.sA 2 [.code (C_24 224),.code (C_24 225),.code (C_24 113),.inLoop (C_24 56),.inBlock 0,.code (C_24 15)] ?_
    refine Runs.sR hE ⟨[(0,(.atom (.int .u64 n2))),(3,(.os 0 0 out.length)),(5,(aB (decide (n2 > 0))))],[(0,aO 1 (cU .u16) 0 out)],33⟩ (C_24 224) [] [] (kp [0,3,5]) (kq [0]) 33 [] trivial ?_
    refine Runs.sC 5 (C_24 450) (C_24 451) (decide (n2 > 0)) (fun hq2=>?_) (fun hq2=>?_)
    · have h:=condT h hq2
      refine Runs.sA 3 [.code (C_24 452),.inBlock 1,.code (C_24 227),.inLoop (C_24 56),.inBlock 0,.code (C_24 15)] ?_
      obtain ⟨c,h⟩:=ifSome h
      refine Runs.sR hE ⟨[(0,(.atom (.int .u64 n2))),(3,(.os 97 0 ((out ++ ([(IntKind.u16.wrap (n2))]:List Int)).length)))],[(97,aO 1 (cU .u16) 0 (out ++ ([(IntKind.u16.wrap (n2))]:List Int)))],129⟩ (C_24 452) [] [] (kp [0] ++ [(3,.osl ((out ++ ([(IntKind.u16.wrap (n2))]:List Int)).length))]) [(97,.arr 97 ((out ++ ([(IntKind.u16.wrap (n2))]:List Int)).length) (fun zi=>(cU .u16) ((out ++ ([(IntKind.u16.wrap (n2))]:List Int)).getD zi 0)))] 129 [out.length = out.length,(out.length+1) * 2≤140737488355328,0+1≤1,∀ zi,zi < 1→AV.oneL ((fun zi=>([[(.atom (.int .u16 (IntKind.u16.wrap (n2))))]]:List (List AV)).getD zi []) (addz 0 zi)) = true,(out.length+1) = (out ++ ([(IntKind.u16.wrap (n2))]:List Int)).length,out.length+1 = (out ++ ([(IntKind.u16.wrap (n2))]:List Int)).length,∀ zi,zi < (out ++ ([(IntKind.u16.wrap (n2))]:List Int)).length→(fun zi=>(cU .u16) ((out ++ ([(IntKind.u16.wrap (n2))]:List Int)).getD zi 0)) zi = ((fun zm=>if zm < out.length then (fun zi=>(cU .u16) (out.getD zi 0)) zm else (fun zi=>([[(.atom (.int .u16 (IntKind.u16.wrap (n2))))]]:List (List AV)).getD zi []) (zm - out.length))) zi] ⟨rfl,c,z0,(oneN rfl),(len_app_raw rfl rfl),(len_app_raw rfl rfl),(get_app_raw (cU .u16) 0 out ([(IntKind.u16.wrap (n2))]:List Int) rfl (fun _ _=>rfl) (fun zq hzq=>get_chunk (cU .u16) 0 ([(IntKind.u16.wrap (n2))]:List Int) zq hzq)),trivial⟩ ?_
      refine Runs.sA 1 [.code (C_24 227),.inLoop (C_24 56),.inBlock 0,.code (C_24 15)] ?_
      refine Runs.sR hE ⟨[(0,(.atom (.int .u64 (shrI .u64 n2 16)))),(3,(.os 97 0 ((out ++ ([(IntKind.u16.wrap (n2))]:List Int)).length)))],[(97,aO 1 (cU .u16) 0 (out ++ ([(IntKind.u16.wrap (n2))]:List Int)))],177⟩ (C_24 227) [] [] (kp [0,3]) (kq [97]) 177 [(0:Int)≤16] ⟨(by decide),trivial⟩ ?_
      refine Runs.sA 1 [.code (C_24 56),.inLoop (C_24 56),.inBlock 0,.code (C_24 15)] ?_
      exact Runs.sW hE _ [] (kp [0,3]) [(0,.keep 97)] 1 [] trivial (ih (shrI .u64 n2 16) (out ++ ([(IntKind.u16.wrap (n2))]:List Int)) _ h E hE)
    · have h:=condF h hq2
      refine Runs.sA 2 [.code (C_24 30),.code (C_24 31)] ?_
      refine Runs.sR hE ⟨[(2,(.os 0 0 out.length))],[(0,aO 1 (cU .u16) 0 out)],65⟩ (C_24 30) [] [] (kp [2]) (kq [0]) 65 [] trivial ?_
      obtain rfl:=Option.some.inj h
      refine Runs.sW hE ⟨[(2,(encL (cU .u16) 0 out))],[],65⟩ [0] [(2,.sl (out.length) (fun zi=>(cU .u16) (out.getD zi 0)))] [] 65 [out.length = out.length,0+out.length≤out.length,∀ zi,zi < out.length→(fun zi=>(cU .u16) (out.getD zi 0)) zi = (fun zi=>(cU .u16) (out.getD zi 0)) (addz 0 zi)] ⟨rfl,z0,(fun _ _=>rfl),trivial⟩ ?_
      exact Runs.sT Try.f111 [] [] trivial
theorem g_e_natural_ok (N:Nat) (n:Int) (r:(List Int)) (h:g_e_natural N n = some r):Sound Try.prog 111 [(.atom (.int .u64 n))] [] 0 (encL (cU .u16) 0 r) []:=by
  unfold g_e_natural at h
  refine Sound.of_runs (fu:=Try.f111) (c:=C_24 1) (nt:=14) (by kernel_rfl) (by kernel_rfl) (by kernel_rfl) (by kernel_rfl) (fun hm=>rfl) ?_
  intro E hE
  refine Runs.sA 1 [.code (C_24 2),.code (C_24 3)] ?_
  refine Runs.sR hE ⟨[(0,(.atom (.int .u64 n)))],[],16⟩ (C_24 2) [] [] (kp [0]) [] 16 [] trivial ?_
  refine Runs.sA 1 [.code (C_24 6),.code (C_24 7)] ?_
  refine Runs.sR hE ⟨[(0,(.atom (.int .u64 n))),(3,.nil)],[],32⟩ (C_24 6) [] [] (kp [0,3]) [] 32 [] trivial ?_
  refine Runs.sA 3 [.code (C_24 56),.inLoop (C_24 56),.inBlock 0,.code (C_24 15)] ?_
  exact Runs.sW hE _ [] (kp [0] ++ [(3,.nilos 0)]) [(0,.nil 1 (fun zi=>(cU .u16) (([]:List Int).getD zi 0)))] 1 [] trivial (g_e_natural_L1_ok N N n ([]:List Int) _ h E hE)
noncomputable def C_26 (n:Nat):Code:=cat (bodyOf Try.f112) (pth n)
theorem g_e_trim_L1_ok (N:Nat) (fuel:Nat):∀ (n2:List Int) (r:(List Int)),g_e_trim_L1 N fuel n2 = some r→∀ E,EnvOk E 0→Runs Try.prog E 112 21 (SPost E [] (encL (cU .u16) 0 r)) [.code (C_26 24),.inLoop (C_26 24),.inBlock 0,.code (C_26 7)] ⟨[(0,(encL (cU .u16) 0 n2))],[],0⟩:=by
  induction fuel with
  | zero=>intro _ r h; rw [g_e_trim_L1.eq_1] at h; cases h
  | succ fuel ih =>
    intro n2 r h E hE
    rw [g_e_trim_L1.eq_2] at h
    refine Runs.sA 2 [.code (C_26 96),.code (C_26 97),.code (C_26 49),.inLoop (C_26 24),.inBlock 0,.code (C_26 7)] ?_
    obtain ⟨c,h⟩:=ifSome h
    refine Runs.sR hE ⟨[(0,(encL (cU .u16) 0 n2)),(14,(aB (cond (decide (((n2.length:Nat):Int) > 0)) ((n2.getD ((w64 (((n2.length:Nat):Int) - 1)).toNat) 0) == 0) false)))],[],192⟩ (C_26 96) [] [] (kp [0,14]) [] 192 [(decide (((n2.length:Nat):Int) > 0)) = true→AllP [(decide (((n2.length:Nat):Int) > 0)) = true],(decide (((n2.length:Nat):Int) > 0)) = true→AllP [(decide (((n2.length:Nat):Int) > 0)) = true],(decide (((n2.length:Nat):Int) > 0)) = true→AllP [(decide (((n2.length:Nat):Int) > 0)) = true,(decide (((n2.length:Nat):Int) > 0)) = true,0≤(w64 (((n2.length:Nat):Int) - 1))∧(w64 (((n2.length:Nat):Int) - 1)) < ((n2.length:Nat):Int)],(decide (((n2.length:Nat):Int) > 0)) = true→AllP [(decide (((n2.length:Nat):Int) > 0)) = true],(decide (((n2.length:Nat):Int) > 0)) = true→AllP [(decide (((n2.length:Nat):Int) > 0)) = true],(decide (((n2.length:Nat):Int) > 0)) = true→AllP [(decide (((n2.length:Nat):Int) > 0)) = true]] ⟨(fun hg=>⟨hg,trivial⟩),(fun hg=>⟨hg,trivial⟩),(fun hg=>⟨hg,hg,(c hg),trivial⟩),(fun hg=>⟨hg,trivial⟩),(fun hg=>⟨hg,trivial⟩),(fun hq=>⟨hq,trivial⟩),trivial⟩ ?_
    refine Runs.sC 14 (C_26 194) (C_26 195) (cond (decide (((n2.length:Nat):Int) > 0)) ((n2.getD ((w64 (((n2.length:Nat):Int) - 1)).toNat) 0) == 0) false) (fun hq2=>?_) (fun hq2=>?_)
    · have h:=condT h hq2
      refine Runs.sA 2 [.code (C_26 98),.inBlock 1,.inLoop (C_26 24),.inBlock 0,.code (C_26 7)] ?_
      obtain ⟨c2,h⟩:=ifSome h
      obtain ⟨c3,h⟩:=ifSome h
      refine Runs.sR hE ⟨[(0,(encL (cU .u16) 0 ((n2.take ((w64 (((n2.length:Nat):Int) - 1)).toNat)).drop 0)))],[],288⟩ (C_26 98) [] [] [(0,.sl (((n2.take ((w64 (((n2.length:Nat):Int) - 1)).toNat)).drop 0).length) (fun zi=>(cU .u16) (((n2.take ((w64 (((n2.length:Nat):Int) - 1)).toNat)).drop 0).getD zi 0)))] [] 288 [0≤(w64 (((n2.length:Nat):Int) - 1)).toNat∧(w64 (((n2.length:Nat):Int) - 1)).toNat≤n2.length,0≤(w64 (((n2.length:Nat):Int) - 1)),(w64 (((n2.length:Nat):Int) - 1)).toNat - 0 = ((n2.take ((w64 (((n2.length:Nat):Int) - 1)).toNat)).drop 0).length,∀ zi,zi < ((n2.take ((w64 (((n2.length:Nat):Int) - 1)).toNat)).drop 0).length→(fun zi=>(cU .u16) (((n2.take ((w64 (((n2.length:Nat):Int) - 1)).toNat)).drop 0).getD zi 0)) zi = (fun zi=>(cU .u16) (n2.getD (addz 0 zi) 0)) zi] ⟨c2,c3,(len_ext' n2 0 ((w64 (((n2.length:Nat):Int) - 1)).toNat) c2),(fun zq hzq=>get_ext (cU .u16) 0 n2 0 ((w64 (((n2.length:Nat):Int) - 1)).toNat) zq hzq),trivial⟩ ?_
      refine Runs.sA 2 [.code (C_26 24),.inLoop (C_26 24),.inBlock 0,.code (C_26 7)] ?_
      exact Runs.sW hE _ [] (kp [0]) [] 0 [] trivial (ih ((n2.take ((w64 (((n2.length:Nat):Int) - 1)).toNat)).drop 0) _ h E hE)
    · have h:=condF h hq2
      refine Runs.sA 2 [.code (C_26 14),.code (C_26 15)] ?_
      refine Runs.sR hE ⟨[(2,(encL (cU .u16) 0 n2))],[],224⟩ (C_26 14) [] [] (kp [2]) [] 224 [] trivial ?_
      obtain rfl:=Option.some.inj h
      refine Runs.sW hE ⟨[(2,(encL (cU .u16) 0 n2))],[],224⟩ [] (kp [2]) [] 224 [] trivial ?_
      exact Runs.sT Try.f112 [] [] trivial
theorem g_e_trim_ok (N:Nat) (n:List Int) (r:(List Int)) (h:g_e_trim N n = some r):Sound Try.prog 112 [(encL (cU .u16) 0 n)] [] 0 (encL (cU .u16) 0 r) []:=by
  unfold g_e_trim at h
  refine Sound.of_runs (fu:=Try.f112) (c:=C_26 1) (nt:=21) (by kernel_rfl) (by kernel_rfl) (by kernel_rfl) (by kernel_rfl) (fun hm=>rfl) ?_
  intro E hE
  refine Runs.sA 1 [.code (C_26 2),.code (C_26 3)] ?_
  refine Runs.sR hE ⟨[(0,(encL (cU .u16) 0 n))],[],16⟩ (C_26 2) [] [] (kp [0]) [] 16 [] trivial ?_
  refine Runs.sA 3 [.code (C_26 24),.inLoop (C_26 24),.inBlock 0,.code (C_26 7)] ?_
  exact Runs.sW hE _ [] (kp [0]) [] 0 [] trivial (g_e_trim_L1_ok N N n _ h E hE)
noncomputable def C_27 (n:Nat):Code:=cat (bodyOf Try.f133) (pth n)
theorem g_slices_Clone_uint16_uint16_ok (N:Nat) (s:List Int) (r:(List Int)) (h:g_slices_Clone_uint16_uint16 N s = some r):Sound Try.prog 133 [(encL (cU .u16) 0 s)] [] 0 (encL (cU .u16) 0 r) []:=by
  unfold g_slices_Clone_uint16_uint16 at h
  refine Sound.of_runs (fu:=Try.f133) (c:=C_27 1) (nt:=8) (by kernel_rfl) (by kernel_rfl) (by kernel_rfl) (by kernel_rfl) (fun hm=>rfl) ?_
  intro E hE
  refine Runs.sA 1 [.code (C_27 2),.code (C_27 3)] ?_
  refine Runs.sR hE ⟨[(0,(encL (cU .u16) 0 s))],[],16⟩ (C_27 2) [] [] (kp [0]) [] 16 [] trivial ?_
  refine Runs.sA 2 [.code (C_27 12),.code (C_27 13),.code (C_27 7)] ?_
  refine Runs.sR hE ⟨[(0,(encL (cU .u16) 0 s)),(4,(.bn s.length))],[],48⟩ (C_27 12) [] [] (kp [0,4]) [] 48 [] trivial ?_
  refine Runs.condBn (o:=.tmp 4) (x:=C_27 26) (y:=C_27 27) (n:=s.length) (by kernel_rfl) (by kernel_rfl) (fun hq2=>?_) ?_
  · replace hq2:=List.length_eq_zero_iff.1 hq2
    replace h:(some ([]:List Int)) = some r:=by rw [hq2] at h; simpa using h
    refine Runs.sA 1 [.code (C_27 52),.code (C_27 53),.code (C_27 7)] ?_
    refine Runs.sR hE ⟨[(2,.nil)],[],64⟩ (C_27 52) [] [] (kp [2]) [] 64 [] trivial ?_
    obtain rfl:=Option.some.inj h
    refine Runs.sW hE ⟨[(2,(encL (cU .u16) 0 ([]:List Int)))],[],64⟩ [] [(2,.sl (([]:List Int).length) (fun zi=>(cU .u16) (([]:List Int).getD zi 0)))] [] 64 [([]:List Int).length = 0] ⟨rfl,trivial⟩ ?_
    exact Runs.sT Try.f133 [] [] trivial
  · refine Runs.sA 2 [.code (C_27 14),.code (C_27 15)] ?_
    obtain ⟨c,h⟩:=ifSome h
    refine Runs.sR hE ⟨[(2,(.os 80 0 ((([]:List Int) ++ s).length)))],[(80,aO 1 (cU .u16) 0 (([]:List Int) ++ s))],112⟩ (C_27 14) [] [] [(2,.osl ((([]:List Int) ++ s).length))] [(80,.arr 80 ((([]:List Int) ++ s).length) (fun zi=>(cU .u16) ((([]:List Int) ++ s).getD zi 0)))] 112 [0 = 0,(0+s.length) * 2≤140737488355328,∀ zi,zi < s.length→AV.oneL ((fun zi=>(cU .u16) (s.getD zi 0)) zi) = true,(0+s.length) = (([]:List Int) ++ s).length,0+s.length = (([]:List Int) ++ s).length,∀ zi,zi < (([]:List Int) ++ s).length→(fun zi=>(cU .u16) ((([]:List Int) ++ s).getD zi 0)) zi = ((fun zm=>if zm < 0 then (fun _=>[]) zm else (fun zi=>(cU .u16) (s.getD zi 0)) (zm - 0))) zi] ⟨rfl,c,(fun _ _=>rfl),(len_app_raw rfl rfl),(len_app_raw rfl rfl),(get_app_raw (cU .u16) 0 ([]:List Int) s rfl (fun zq hzq=>absurd hzq (Nat.not_lt_zero _)) (fun _ _=>rfl)),trivial⟩ ?_
    obtain rfl:=Option.some.inj h
    refine Runs.sW hE ⟨[(2,(encL (cU .u16) 0 (([]:List Int) ++ s)))],[],112⟩ [80] [(2,.sl ((([]:List Int) ++ s).length) (fun zi=>(cU .u16) ((([]:List Int) ++ s).getD zi 0)))] [] 112 [(([]:List Int) ++ s).length = (([]:List Int) ++ s).length,0+(([]:List Int) ++ s).length≤(([]:List Int) ++ s).length,∀ zi,zi < (([]:List Int) ++ s).length→(fun zi=>(cU .u16) ((([]:List Int) ++ s).getD zi 0)) zi = (fun zi=>(cU .u16) ((([]:List Int) ++ s).getD zi 0)) (addz 0 zi)] ⟨rfl,z0,(fun _ _=>rfl),trivial⟩ ?_
    exact Runs.sT Try.f133 [] [] trivial
noncomputable def C_25 (n:Nat):Code:=cat (bodyOf Try.f110) (pth n)
theorem g_e_signed_ok (N:Nat) (neg:Bool) (n:List Int) (r:TInt) (h:g_e_signed N neg n = some r):Sound Try.prog 110 [(aB neg),(encL (cU .u16) 0 n)] [] 0 (.agg (TInt.cells r)) []:=by
  unfold g_e_signed at h
  refine Sound.of_runs (fu:=Try.f110) (c:=C_25 1) (nt:=15) (by kernel_rfl) (by kernel_rfl) (by kernel_rfl) (by kernel_rfl) (fun hm=>rfl) ?_
  intro E hE
  refine Runs.sA 1 [.code (C_25 2),.code (C_25 3)] ?_
  refine Runs.sR hE ⟨[(0,(aB neg)),(1,(encL (cU .u16) 0 n)),(4,(.op 0 0 0))],[(0,vO 2 [(aB false),.nil])],16⟩ (C_25 2) [] [] (kp [0,1,4]) (kq [0]) 16 [] trivial ?_
  refine Runs.sA 1 [.code (C_25 6),.code (C_25 7)] ?_
  obtain ⟨rtrim,hr,h⟩:=bindSome h
  refine Runs.sR hE ⟨[(0,(aB neg)),(1,(encL (cU .u16) 0 rtrim)),(4,(.op 0 0 0))],[(0,vO 2 [(aB false),.nil])],64⟩ (C_25 6) [(1,⟨[],true,(encL (cU .u16) 0 rtrim),[],0,false,none⟩)] [] (kp [0,1,4]) (kq [0]) 64 [Sound Try.prog 112 [(encL (cU .u16) 0 n)] [] 0 (encL (cU .u16) 0 rtrim) []] ⟨(g_e_trim_ok N n rtrim hr),trivial⟩ ?_
  refine Runs.sA 2 [.code (C_25 28),.code (C_25 29),.code (C_25 15)] ?_
  refine Runs.sR hE ⟨[(0,(aB neg)),(1,(encL (cU .u16) 0 rtrim)),(4,(.op 0 0 0)),(9,(aB (((rtrim.length:Nat):Int) == 0)))],[(0,vO 2 [(aB false),.nil])],112⟩ (C_25 28) [] [] (kp [0,1,4,9]) (kq [0]) 112 [] trivial ?_
  refine Runs.sC 9 (C_25 58) (C_25 59) (((rtrim.length:Nat):Int) == 0) (fun hq2=>?_) (fun hq2=>?_)
  · have h:=condT h hq2
    refine Runs.sA 1 [.code (C_25 116),.code (C_25 117),.code (C_25 15)] ?_
    refine Runs.sR hE ⟨[(4,(.op 0 0 0))],[(0,vO 2 [(aB false),.nil])],144⟩ (C_25 116) [] [] (kp [4]) (kq [0]) 144 [0 < 1] ⟨o1,trivial⟩ ?_
    obtain rfl:=Option.some.inj h
    refine Runs.sW hE ⟨[(4,(.op 16 0 0))],[(16,vO 2 [(aB false),(encL (cU .u16) 0 ([]:List Int))])],144⟩ [] (kp [4]) [(16,.var 0 [.keep,.sl (([]:List Int).length) (fun zi=>(cU .u16) (([]:List Int).getD zi 0))])] 144 [([]:List Int).length = 0] ⟨rfl,trivial⟩ ?_
    exact Runs.sT Try.f110 [16] [0 < 1] ⟨o1,trivial⟩
  · have h:=condF h hq2
    refine Runs.sA 2 [.code (C_25 30),.code (C_25 31)] ?_
    obtain ⟨rClone,hr2,h⟩:=bindSome h
    refine Runs.sR hE ⟨[(4,(.op 0 0 0))],[(0,vO 2 [(aB neg),(encL (cU .u16) 0 rClone)])],192⟩ (C_25 30) [(2,⟨[],true,(encL (cU .u16) 0 rClone),[],0,false,none⟩)] [] (kp [4]) (kq [0]) 192 [Sound Try.prog 133 [(encL (cU .u16) 0 rtrim)] [] 0 (encL (cU .u16) 0 rClone) [],0 < 1] ⟨(g_slices_Clone_uint16_uint16_ok N rtrim rClone hr2),o1,trivial⟩ ?_
    obtain rfl:=Option.some.inj h
    refine Runs.sW hE ⟨[(4,(.op 16 0 0))],[(16,vO 2 [(aB neg),(encL (cU .u16) 0 rClone)])],192⟩ [] (kp [4]) [(16,.keep 0)] 192 [] trivial ?_
    exact Runs.sT Try.f110 [16] [0 < 1] ⟨o1,trivial⟩
noncomputable def C_23 (n:Nat):Code:=cat (bodyOf Try.f81) (pth n)
theorem g_e_Of_ok (N:Nat) (n:Int) (r:TInt) (h:g_e_Of N n = some r):Sound Try.prog 81 [(aI n)] [] 0 (.agg (TInt.cells r)) []:=by
  unfold g_e_Of at h
  refine Sound.of_runs (fu:=Try.f81) (c:=C_23 1) (nt:=14) (by kernel_rfl) (by kernel_rfl) (by kernel_rfl) (by kernel_rfl) (fun hm=>rfl) ?_
  intro E hE
  refine Runs.sA 1 [.code (C_23 2),.code (C_23 3)] ?_
  refine Runs.sR hE ⟨[(0,(aI n)),(2,(.op 0 0 0))],[(0,vO 2 [(aB false),.nil])],16⟩ (C_23 2) [] [] (kp [0,2]) (kq [0]) 16 [] trivial ?_
  refine Runs.sA 2 [.code (C_23 12),.code (C_23 13),.code (C_23 7)] ?_
  refine Runs.sR hE ⟨[(0,(aI n)),(2,(.op 0 0 0)),(4,(aB (decide (n < 0))))],[(0,vO 2 [(aB false),.nil])],48⟩ (C_23 12) [] [] (kp [0,2,4]) (kq [0]) 48 [] trivial ?_
  refine Runs.sC 4 (C_23 26) (C_23 27) (decide (n < 0)) (fun hq2=>?_) (fun hq2=>?_)
  · have h:=condT h hq2
    refine Runs.sA 1 [.code (C_23 52),.code (C_23 53),.code (C_23 7)] ?_
    obtain ⟨rnatural,hr,h⟩:=bindSome h
    obtain ⟨rsigned,hr2,h⟩:=bindSome h
    refine Runs.sR hE ⟨[(2,(.op 0 0 0))],[(0,vO 2 (TInt.cells rsigned))],144⟩ (C_23 52) [(3,⟨[],true,(encL (cU .u16) 0 rnatural),[],0,false,none⟩),(4,⟨[],true,(.agg (TInt.cells rsigned)),[],0,false,none⟩)] [] (kp [2]) (kq [0]) 144 [Sound Try.prog 111 [(.atom (.int .u64 (IntKind.u64.wrap (0 - (IntKind.u64.wrap (n))))))] [] 0 (encL (cU .u16) 0 rnatural) [],Sound Try.prog 110 [(aB true),(encL (cU .u16) 0 rnatural)] [] 0 (.agg (TInt.cells rsigned)) [],0 < 1] ⟨(g_e_natural_ok N (IntKind.u64.wrap (0 - (IntKind.u64.wrap (n)))) rnatural hr),(g_e_signed_ok N true rnatural rsigned hr2),o1,trivial⟩ ?_
    obtain rfl:=Option.some.inj h
    refine Runs.sW hE ⟨[(2,(.op 16 0 0))],[(16,vO 2 (TInt.cells rsigned))],144⟩ [] (kp [2]) [(16,.keep 0)] 144 [] trivial ?_
    exact Runs.sT Try.f81 [16] [0 < 1] ⟨o1,trivial⟩
  · have h:=condF h hq2
    refine Runs.sA 2 [.code (C_23 14),.code (C_23 15)] ?_
    obtain ⟨rnatural2,hr3,h⟩:=bindSome h
    obtain ⟨rsigned2,hr4,h⟩:=bindSome h
    refine Runs.sR hE ⟨[(2,(.op 0 0 0))],[(0,vO 2 (TInt.cells rsigned2))],128⟩ (C_23 14) [(2,⟨[],true,(encL (cU .u16) 0 rnatural2),[],0,false,none⟩),(3,⟨[],true,(.agg (TInt.cells rsigned2)),[],0,false,none⟩)] [] (kp [2]) (kq [0]) 128 [Sound Try.prog 111 [(.atom (.int .u64 (IntKind.u64.wrap (n))))] [] 0 (encL (cU .u16) 0 rnatural2) [],Sound Try.prog 110 [(aB false),(encL (cU .u16) 0 rnatural2)] [] 0 (.agg (TInt.cells rsigned2)) [],0 < 1] ⟨(g_e_natural_ok N (IntKind.u64.wrap (n)) rnatural2 hr3),(g_e_signed_ok N false rnatural2 rsigned2 hr4),o1,trivial⟩ ?_
    obtain rfl:=Option.some.inj h
    refine Runs.sW hE ⟨[(2,(.op 16 0 0))],[(16,vO 2 (TInt.cells rsigned2))],128⟩ [] (kp [2]) [(16,.keep 0)] 128 [] trivial ?_
    exact Runs.sT Try.f81 [16] [0 < 1] ⟨o1,trivial⟩
noncomputable def C_31 (n:Nat):Code:=cat (bodyOf Try.f134) (pth n)
theorem g_e_word_L1_ok (N:Nat) (n:List Int) (fuel:Nat):∀ (out:Int) (i:Int) (r:Int × Bool),g_e_word_L1 N n fuel out i = some r→∀ E,EnvOk E 0→Runs Try.prog E 134 25 (SPost E [] (.tup [(.atom (.int .u64 r.1)),(aB r.2)])) [.code (C_31 244),.inLoop (C_31 244),.inBlock 0,.code (C_31 31)] ⟨[(0,(encL (cU .u16) 0 n)),(4,(.atom (.int .u64 out))),(5,(aI i))],[],0⟩:=by
  induction fuel with
  | zero=>intro _ _ r h; rw [g_e_word_L1.eq_1] at h; cases h
  | succ fuel ih =>
    intro out i r h E hE
    rw [g_e_word_L1.eq_2] at h
    refine Runs.sA 2 [.code (C_31 976),.code (C_31 977),.code (C_31 489),.inLoop (C_31 244),.inBlock 0,.code (C_31 31)] ?_
    refine Runs.sR hE ⟨[(0,(encL (cU .u16) 0 n)),(4,(.atom (.int .u64 out))),(5,(aI i)),(13,(aB (decide (i ≥ 0))))],[],32⟩ (C_31 976) [] [] (kp [0,4,5,13]) [] 32 [] trivial ?_
    refine Runs.sC 13 (C_31 1954) (C_31 1955) (decide (i ≥ 0)) (fun hq3=>?_) (fun hq3=>?_)
    · have h:=condT h hq3
      refine Runs.sA 3 [.code (C_31 1956),.inBlock 1,.code (C_31 979),.inLoop (C_31 244),.inBlock 0,.code (C_31 31)] ?_
      obtain ⟨c,h⟩:=ifSome h
      refine Runs.sR hE ⟨[(0,(encL (cU .u16) 0 n)),(4,(.atom (.int .u64 (orI .u64 (shlI .u64 out 16) (IntKind.u64.wrap ((n.getD ((i).toNat) 0))))))),(5,(aI i))],[],176⟩ (C_31 1956) [] [] (kp [0,4,5]) [] 176 [(0:Int)≤16,0≤i∧i < ((n.length:Nat):Int)] ⟨(by decide),c,trivial⟩ ?_
      refine Runs.sA 1 [.code (C_31 979),.inLoop (C_31 244),.inBlock 0,.code (C_31 31)] ?_
      refine Runs.sR hE ⟨[(0,(encL (cU .u16) 0 n)),(4,(.atom (.int .u64 (orI .u64 (shlI .u64 out 16) (IntKind.u64.wrap ((n.getD ((i).toNat) 0))))))),(5,(aI (w64 (i - 1))))],[],224⟩ (C_31 979) [] [] (kp [0,4,5]) [] 224 [] trivial ?_
      refine Runs.sA 1 [.code (C_31 244),.inLoop (C_31 244),.inBlock 0,.code (C_31 31)] ?_
      exact Runs.sW hE _ [] (kp [0,4,5]) [] 0 [] trivial (ih (orI .u64 (shlI .u64 out 16) (IntKind.u64.wrap ((n.getD ((i).toNat) 0)))) (w64 (i - 1)) _ h E hE)
    · have h:=condF h hq3
      refine Runs.sA 2 [.code (C_31 62),.code (C_31 63)] ?_
      refine Runs.sR hE ⟨[(2,(.atom (.int .u64 out))),(3,(aB true))],[],80⟩ (C_31 62) [] [] (kp [2,3]) [] 80 [] trivial ?_
      obtain rfl:=Option.some.inj h
      refine Runs.sW hE ⟨[(2,(.atom (.int .u64 out))),(3,(aB true))],[],80⟩ [] (kp [2,3]) [] 80 [] trivial ?_
      exact Runs.sT Try.f134 [] [] trivial
theorem g_e_word_ok (N:Nat) (n:List Int) (r:Int × Bool) (h:g_e_word N n = some r):Sound Try.prog 134 [(encL (cU .u16) 0 n)] [] 0 (.tup [(.atom (.int .u64 r.1)),(aB r.2)]) []:=by
  unfold g_e_word at h
  refine Sound.of_runs (fu:=Try.f134) (c:=C_31 1) (nt:=25) (by kernel_rfl) (by kernel_rfl) (by kernel_rfl) (by kernel_rfl) (fun hm=>rfl) ?_
  intro E hE
  refine Runs.sA 1 [.code (C_31 2),.code (C_31 3)] ?_
  refine Runs.sR hE ⟨[(0,(encL (cU .u16) 0 n))],[],32⟩ (C_31 2) [] [] (kp [0]) [] 32 [] trivial ?_
  refine Runs.sA 2 [.code (C_31 12),.code (C_31 13),.code (C_31 7)] ?_
  refine Runs.sR hE ⟨[(0,(encL (cU .u16) 0 n)),(8,(aB (decide (((n.length:Nat):Int) > 4))))],[],80⟩ (C_31 12) [] [] (kp [0,8]) [] 80 [] trivial ?_
  refine Runs.sC 8 (C_31 26) (C_31 27) (decide (((n.length:Nat):Int) > 4)) (fun hq2=>?_) (fun hq2=>?_)
  · have h:=condT h hq2
    refine Runs.sA 1 [.code (C_31 52),.code (C_31 53),.code (C_31 7)] ?_
    refine Runs.sR hE ⟨[(2,(.atom (.int .u64 0))),(3,(aB false))],[],112⟩ (C_31 52) [] [] (kp [2,3]) [] 112 [] trivial ?_
    obtain rfl:=Option.some.inj h
    refine Runs.sW hE ⟨[(2,(.atom (.int .u64 0))),(3,(aB false))],[],112⟩ [] (kp [2,3]) [] 112 [] trivial ?_
    exact Runs.sT Try.f134 [] [] trivial
  · have h:=condF h hq2
    refine Runs.sA 2 [.code (C_31 14),.code (C_31 15)] ?_
    refine Runs.sR hE ⟨[(0,(encL (cU .u16) 0 n)),(4,(.atom (.int .u64 0)))],[],96⟩ (C_31 14) [] [] (kp [0,4]) [] 96 [] trivial ?_
    refine Runs.sA 2 [.code (C_31 60),.code (C_31 61),.code (C_31 31)] ?_
    refine Runs.sR hE ⟨[(0,(encL (cU .u16) 0 n)),(4,(.atom (.int .u64 0))),(5,(aI (w64 (((n.length:Nat):Int) - 1))))],[],160⟩ (C_31 60) [] [] (kp [0,4,5]) [] 160 [] trivial ?_
    refine Runs.sA 2 [.code (C_31 244),.inLoop (C_31 244),.inBlock 0,.code (C_31 31)] ?_
    exact Runs.sW hE _ [] (kp [0,4,5]) [] 0 [] trivial (g_e_word_L1_ok N n N 0 (w64 (((n.length:Nat):Int) - 1)) _ h E hE)
noncomputable def C_33 (n:Nat):Code:=cat (bodyOf Try.f116) (pth n)
theorem g_e_compare_L1_ok (N:Nat) (a:List Int) (b:List Int) (fuel:Nat):∀ (i:Int) (r:Int),g_e_compare_L1 N a b fuel i = some r→∀ E,EnvOk E 0→Runs Try.prog E 116 43 (SPost E [] (aI r)) [.code (C_33 116),.inLoop (C_33 116),.inBlock 0,.code (C_33 15)] ⟨[(0,(encL (cU .u16) 0 a)),(1,(encL (cU .u16) 0 b)),(5,(aI i))],[],0⟩:=by
  induction fuel with
  | zero=>intro _ r h; rw [g_e_compare_L1.eq_1] at h; cases h
  | succ fuel ih =>
    intro i r h E hE
    rw [g_e_compare_L1.eq_2] at h
    refine Runs.sA 2 [.code (C_33 464),.code (C_33 465),.code (C_33 233),.inLoop (C_33 116),.inBlock 0,.code (C_33 15)] ?_
    refine Runs.sR hE ⟨[(0,(encL (cU .u16) 0 a)),(1,(encL (cU .u16) 0 b)),(5,(aI i)),(20,(aB (decide (i ≥ 0))))],[],32⟩ (C_33 464) [] [] (kp [0,1,5,20]) [] 32 [] trivial ?_
    refine Runs.sC 20 (C_33 930) (C_33 931) (decide (i ≥ 0)) (fun hq3=>?_) (fun hq3=>?_)
    · have h:=condT h hq3
      refine Runs.sA 4 [.code (C_33 1864),.code (C_33 1865),.inBlock 1,.code (C_33 467),.inLoop (C_33 116),.inBlock 0,.code (C_33 15)] ?_
      obtain ⟨c,h⟩:=ifSome h
      obtain ⟨c2,h⟩:=ifSome h
      refine Runs.sR hE ⟨[(0,(encL (cU .u16) 0 a)),(1,(encL (cU .u16) 0 b)),(5,(aI i)),(31,(aB ((a.getD ((i).toNat) 0) != (b.getD ((i).toNat) 0))))],[],176⟩ (C_33 1864) [] [] (kp [0,1,5,31]) [] 176 [0≤i∧i < ((a.length:Nat):Int),0≤i∧i < ((b.length:Nat):Int)] ⟨c,c2,trivial⟩ ?_
      refine Runs.sC 31 (C_33 3730) (C_33 3731) ((a.getD ((i).toNat) 0) != (b.getD ((i).toNat) 0)) (fun hq4=>?_) (fun hq4=>?_)
      · have h:=condT h hq4
        refine Runs.sA 1 [.code (C_33 7460),.code (C_33 7461),.inBlock 1,.code (C_33 467),.inLoop (C_33 116),.inBlock 0,.code (C_33 15)] ?_
        refine Runs.sR hE ⟨[(4,(aI (w64 ((w64 ((a.getD ((i).toNat) 0))) - (w64 ((b.getD ((i).toNat) 0)))))))],[],368⟩ (C_33 7460) [] [] (kp [4]) [] 368 [0≤i∧i < ((a.length:Nat):Int),0≤i∧i < ((b.length:Nat):Int)] ⟨c,c2,trivial⟩ ?_
        obtain rfl:=Option.some.inj h
        refine Runs.sW hE ⟨[(4,(aI (w64 ((w64 ((a.getD ((i).toNat) 0))) - (w64 ((b.getD ((i).toNat) 0)))))))],[],368⟩ [] (kp [4]) [] 368 [] trivial ?_
        exact Runs.sT Try.f116 [] [] trivial
      · have h:=condF h hq4
        refine Runs.sA 2 [.code (C_33 467),.inLoop (C_33 116),.inBlock 0,.code (C_33 15)] ?_
        refine Runs.sR hE ⟨[(0,(encL (cU .u16) 0 a)),(1,(encL (cU .u16) 0 b)),(5,(aI (w64 (i - 1))))],[],224⟩ (C_33 467) [] [] (kp [0,1,5]) [] 224 [] trivial ?_
        refine Runs.sA 1 [.code (C_33 116),.inLoop (C_33 116),.inBlock 0,.code (C_33 15)] ?_
        exact Runs.sW hE _ [] (kp [0,1,5]) [] 0 [] trivial (ih (w64 (i - 1)) _ h E hE)
    · have h:=condF h hq3
      refine Runs.sA 2 [.code (C_33 30),.code (C_33 31)] ?_
      refine Runs.sR hE ⟨[(4,(aI 0))],[],48⟩ (C_33 30) [] [] (kp [4]) [] 48 [] trivial ?_
      obtain rfl:=Option.some.inj h
      refine Runs.sW hE ⟨[(4,(aI 0))],[],48⟩ [] (kp [4]) [] 48 [] trivial ?_
      exact Runs.sT Try.f116 [] [] trivial
theorem g_e_compare_ok (N:Nat) (a:List Int) (b:List Int) (r:Int) (h:g_e_compare N a b = some r):Sound Try.prog 116 [(encL (cU .u16) 0 a),(encL (cU .u16) 0 b)] [] 0 (aI r) []:=by
  unfold g_e_compare at h
  refine Sound.of_runs (fu:=Try.f116) (c:=C_33 1) (nt:=43) (by kernel_rfl) (by kernel_rfl) (by kernel_rfl) (by kernel_rfl) (fun hm=>rfl) ?_
  intro E hE
  refine Runs.sA 1 [.code (C_33 2),.code (C_33 3)] ?_
  refine Runs.sR hE ⟨[(0,(encL (cU .u16) 0 a)),(1,(encL (cU .u16) 0 b))],[],16⟩ (C_33 2) [] [] (kp [0,1]) [] 16 [] trivial ?_
  refine Runs.sA 2 [.code (C_33 12),.code (C_33 13),.code (C_33 7)] ?_
  refine Runs.sR hE ⟨[(0,(encL (cU .u16) 0 a)),(1,(encL (cU .u16) 0 b)),(10,(aB (((a.length:Nat):Int) != ((b.length:Nat):Int))))],[],96⟩ (C_33 12) [] [] (kp [0,1,10]) [] 96 [] trivial ?_
  refine Runs.sC 10 (C_33 26) (C_33 27) (((a.length:Nat):Int) != ((b.length:Nat):Int)) (fun hq2=>?_) (fun hq2=>?_)
  · have h:=condT h hq2
    refine Runs.sA 1 [.code (C_33 52),.code (C_33 53),.code (C_33 7)] ?_
    refine Runs.sR hE ⟨[(4,(aI (w64 (((a.length:Nat):Int) - ((b.length:Nat):Int)))))],[],192⟩ (C_33 52) [] [] (kp [4]) [] 192 [] trivial ?_
    obtain rfl:=Option.some.inj h
    refine Runs.sW hE ⟨[(4,(aI (w64 (((a.length:Nat):Int) - ((b.length:Nat):Int)))))],[],192⟩ [] (kp [4]) [] 192 [] trivial ?_
    exact Runs.sT Try.f116 [] [] trivial
  · have h:=condF h hq2
    refine Runs.sA 3 [.code (C_33 28),.code (C_33 29),.code (C_33 15)] ?_
    refine Runs.sR hE ⟨[(0,(encL (cU .u16) 0 a)),(1,(encL (cU .u16) 0 b)),(5,(aI (w64 (((a.length:Nat):Int) - 1))))],[],160⟩ (C_33 28) [] [] (kp [0,1,5]) [] 160 [] trivial ?_
    refine Runs.sA 2 [.code (C_33 116),.inLoop (C_33 116),.inBlock 0,.code (C_33 15)] ?_
    exact Runs.sW hE _ [] (kp [0,1,5]) [] 0 [] trivial (g_e_compare_L1_ok N a b N (w64 (((a.length:Nat):Int) - 1)) _ h E hE)
noncomputable def C_34 (n:Nat):Code:=cat (bodyOf Try.f135) (pth n)
theorem g_e_short_L1_ok (N:Nat) (a:List Int) (b:Int) (fuel:Nat):∀ (q:List Int) (rest:Int) (i:Int) (r:(List Int) × Int),g_e_short_L1 N a b fuel q rest i = some r→∀ E,EnvOk E 0→Runs Try.prog E 135 43 (SPost E [] (.tup [(encL (cU .u16) 0 r.1),(.atom (.int .u16 r.2))])) [.code (C_34 244),.inLoop (C_34 244),.inBlock 0,.code (C_34 31)] ⟨[(0,(encL (cU .u16) 0 a)),(1,(.atom (.int .u16 b))),(6,(.os 0 0 q.length)),(7,(.atom (.int .u32 rest))),(8,(aI i))],[(0,aO 1 (cU .u16) 0 q)],1⟩:=by
  induction fuel with
  | zero=>intro _ _ _ r h; rw [g_e_short_L1.eq_1] at h; cases h
  | succ fuel ih =>
    intro q rest i r h E hE
    rw [g_e_short_L1.eq_2] at h
    refine Runs.sA 2 [.code (C_34 976),.code (C_34 977),.code (C_34 489),.inLoop (C_34 244),.inBlock 0,.code (C_34 31)] ?_
    refine Runs.sR hE ⟨[(0,(encL (cU .u16) 0 a)),(1,(.atom (.int .u16 b))),(6,(.os 0 0 q.length)),(7,(.atom (.int .u32 rest))),(8,(aI i)),(16,(aB (decide (i ≥ 0))))],[(0,aO 1 (cU .u16) 0 q)],33⟩ (C_34 976) [] [] (kp [0,1,6,7,8,16]) (kq [0]) 33 [] trivial ?_
    refine Runs.sC 16 (C_34 1954) (C_34 1955) (decide (i ≥ 0)) (fun hq2=>?_) (fun hq2=>?_)
    · have h:=condT h hq2
      refine Runs.sA 4 [.code (C_34 3912),.code (C_34 3913),.inBlock 1,.code (C_34 979),.inLoop (C_34 244),.inBlock 0,.code (C_34 31)] ?_
      obtain ⟨c2,h⟩:=ifSome h
      refine Runs.sR hE ⟨[(0,(encL (cU .u16) 0 a)),(1,(.atom (.int .u16 b))),(6,(.os 0 0 q.length)),(7,(.atom (.int .u32 (orI .u32 (shlI .u32 rest 16) (IntKind.u32.wrap ((a.getD ((i).toNat) 0))))))),(8,(aI i))],[(0,aO 1 (cU .u16) 0 q)],177⟩ (C_34 3912) [] [] (kp [0,1,6,7,8]) (kq [0]) 177 [(0:Int)≤16,0≤i∧i < ((a.length:Nat):Int)] ⟨(by decide),c2,trivial⟩ ?_
      refine Runs.sA 1 [.code (C_34 7826),.code (C_34 7827),.inBlock 1,.code (C_34 979),.inLoop (C_34 244),.inBlock 0,.code (C_34 31)] ?_
      obtain ⟨c3,h⟩:=ifSome h
      obtain ⟨c4,h⟩:=ifSome h
      refine Runs.sR hE ⟨[(0,(encL (cU .u16) 0 a)),(1,(.atom (.int .u16 b))),(6,(.os 0 0 ((q.set ((i).toNat) (IntKind.u16.wrap ((IntKind.u32.wrap ((orI .u32 (shlI .u32 rest 16) (IntKind.u32.wrap ((a.getD ((i).toNat) 0)))).tdiv (IntKind.u32.wrap (b))))))).length))),(7,(.atom (.int .u32 (orI .u32 (shlI .u32 rest 16) (IntKind.u32.wrap ((a.getD ((i).toNat) 0))))))),(8,(aI i))],[(0,aO 1 (cU .u16) 0 (q.set ((i).toNat) (IntKind.u16.wrap ((IntKind.u32.wrap ((orI .u32 (shlI .u32 rest 16) (IntKind.u32.wrap ((a.getD ((i).toNat) 0)))).tdiv (IntKind.u32.wrap (b))))))))],321⟩ (C_34 7826) [] [] (kp [0,1] ++ [(6,.osl ((q.set ((i).toNat) (IntKind.u16.wrap ((IntKind.u32.wrap ((orI .u32 (shlI .u32 rest 16) (IntKind.u32.wrap ((a.getD ((i).toNat) 0)))).tdiv (IntKind.u32.wrap (b))))))).length))] ++ kp [7,8]) [(0,.arr 0 ((q.set ((i).toNat) (IntKind.u16.wrap ((IntKind.u32.wrap ((orI .u32 (shlI .u32 rest 16) (IntKind.u32.wrap ((a.getD ((i).toNat) 0)))).tdiv (IntKind.u32.wrap (b))))))).length) (fun zi=>(cU .u16) ((q.set ((i).toNat) (IntKind.u16.wrap ((IntKind.u32.wrap ((orI .u32 (shlI .u32 rest 16) (IntKind.u32.wrap ((a.getD ((i).toNat) 0)))).tdiv (IntKind.u32.wrap (b))))))).getD zi 0)))] 321 [((IntKind.u32.wrap (b)):Int) ≠ 0,0≤i∧i < ((q.length:Nat):Int),(i).toNat < q.length,q.length = (q.set ((i).toNat) (IntKind.u16.wrap ((IntKind.u32.wrap ((orI .u32 (shlI .u32 rest 16) (IntKind.u32.wrap ((a.getD ((i).toNat) 0)))).tdiv (IntKind.u32.wrap (b))))))).length,q.length = (q.set ((i).toNat) (IntKind.u16.wrap ((IntKind.u32.wrap ((orI .u32 (shlI .u32 rest 16) (IntKind.u32.wrap ((a.getD ((i).toNat) 0)))).tdiv (IntKind.u32.wrap (b))))))).length,∀ zi,zi < (q.set ((i).toNat) (IntKind.u16.wrap ((IntKind.u32.wrap ((orI .u32 (shlI .u32 rest 16) (IntKind.u32.wrap ((a.getD ((i).toNat) 0)))).tdiv (IntKind.u32.wrap (b))))))).length→(fun zi=>(cU .u16) ((q.set ((i).toNat) (IntKind.u16.wrap ((IntKind.u32.wrap ((orI .u32 (shlI .u32 rest 16) (IntKind.u32.wrap ((a.getD ((i).toNat) 0)))).tdiv (IntKind.u32.wrap (b))))))).getD zi 0)) zi = ((fun zm=>if zm = (i).toNat then [(.atom (.int .u16 (IntKind.u16.wrap ((IntKind.u32.wrap ((orI .u32 (shlI .u32 rest 16) (IntKind.u32.wrap ((a.getD ((i).toNat) 0)))).tdiv (IntKind.u32.wrap (b))))))))] else (fun zi=>(cU .u16) (q.getD zi 0)) zm)) zi] ⟨c3,c4,(ltOf c4),(len_set_raw rfl),(len_set_raw rfl),(get_set_raw (cU .u16) 0 q ((i).toNat) (IntKind.u16.wrap ((IntKind.u32.wrap ((orI .u32 (shlI .u32 rest 16) (IntKind.u32.wrap ((a.getD ((i).toNat) 0)))).tdiv (IntKind.u32.wrap (b)))))) (fun _ _=>rfl)),trivial⟩ ?_
      refine Runs.sR hE ⟨[(0,(encL (cU .u16) 0 a)),(1,(.atom (.int .u16 b))),(6,(.os 0 0 ((q.set ((i).toNat) (IntKind.u16.wrap ((IntKind.u32.wrap ((orI .u32 (shlI .u32 rest 16) (IntKind.u32.wrap ((a.getD ((i).toNat) 0)))).tdiv (IntKind.u32.wrap (b))))))).length))),(7,(.atom (.int .u32 ((orI .u32 (shlI .u32 rest 16) (IntKind.u32.wrap ((a.getD ((i).toNat) 0)))).tmod (IntKind.u32.wrap (b)))))),(8,(aI i))],[(0,aO 1 (cU .u16) 0 (q.set ((i).toNat) (IntKind.u16.wrap ((IntKind.u32.wrap ((orI .u32 (shlI .u32 rest 16) (IntKind.u32.wrap ((a.getD ((i).toNat) 0)))).tdiv (IntKind.u32.wrap (b))))))))],401⟩ (C_34 7827) [] [] (kp [0,1,6,7,8]) (kq [0]) 401 [((IntKind.u32.wrap (b)):Int) ≠ 0] ⟨c3,trivial⟩ ?_
      refine Runs.sA 1 [.code (C_34 979),.inLoop (C_34 244),.inBlock 0,.code (C_34 31)] ?_
      refine Runs.sR hE ⟨[(0,(encL (cU .u16) 0 a)),(1,(.atom (.int .u16 b))),(6,(.os 0 0 ((q.set ((i).toNat) (IntKind.u16.wrap ((IntKind.u32.wrap ((orI .u32 (shlI .u32 rest 16) (IntKind.u32.wrap ((a.getD ((i).toNat) 0)))).tdiv (IntKind.u32.wrap (b))))))).length))),(7,(.atom (.int .u32 ((orI .u32 (shlI .u32 rest 16) (IntKind.u32.wrap ((a.getD ((i).toNat) 0)))).tmod (IntKind.u32.wrap (b)))))),(8,(aI (w64 (i - 1))))],[(0,aO 1 (cU .u16) 0 (q.set ((i).toNat) (IntKind.u16.wrap ((IntKind.u32.wrap ((orI .u32 (shlI .u32 rest 16) (IntKind.u32.wrap ((a.getD ((i).toNat) 0)))).tdiv (IntKind.u32.wrap (b))))))))],449⟩ (C_34 979) [] [] (kp [0,1,6,7,8]) (kq [0]) 449 [] trivial ?_
      refine Runs.sA 1 [.code (C_34 244),.inLoop (C_34 244),.inBlock 0,.code (C_34 31)] ?_
      exact Runs.sW hE _ [] (kp [0,1,6,7,8]) (kq [0]) 1 [] trivial (ih (q.set ((i).toNat) (IntKind.u16.wrap ((IntKind.u32.wrap ((orI .u32 (shlI .u32 rest 16) (IntKind.u32.wrap ((a.getD ((i).toNat) 0)))).tdiv (IntKind.u32.wrap (b))))))) ((orI .u32 (shlI .u32 rest 16) (IntKind.u32.wrap ((a.getD ((i).toNat) 0)))).tmod (IntKind.u32.wrap (b))) (w64 (i - 1)) _ h E hE)
    · have h:=condF h hq2
      refine Runs.sA 2 [.code (C_34 62),.code (C_34 63)] ?_
      obtain ⟨rtrim,hr,h⟩:=bindSome h
      refine Runs.sR hE ⟨[(4,(encL (cU .u16) 0 rtrim)),(5,(.atom (.int .u16 (IntKind.u16.wrap (rest)))))],[],129⟩ (C_34 62) [(1,⟨[],true,(encL (cU .u16) 0 rtrim),[],0,true,none⟩)] [] (kp [4,5]) [] 129 [Sound Try.prog 112 [(encL (cU .u16) 0 q)] [] 0 (encL (cU .u16) 0 rtrim) [],0+q.length≤q.length] ⟨(g_e_trim_ok N q rtrim hr),z0,trivial⟩ ?_
      obtain rfl:=Option.some.inj h
      refine Runs.sW hE ⟨[(4,(encL (cU .u16) 0 rtrim)),(5,(.atom (.int .u16 (IntKind.u16.wrap (rest)))))],[],129⟩ [] (kp [4,5]) [] 129 [] trivial ?_
      exact Runs.sT Try.f135 [] [] trivial
theorem g_e_short_ok (N:Nat) (a:List Int) (b:Int) (r:(List Int) × Int) (h:g_e_short N a b = some r):Sound Try.prog 135 [(encL (cU .u16) 0 a),(.atom (.int .u16 b))] [] 0 (.tup [(encL (cU .u16) 0 r.1),(.atom (.int .u16 r.2))]) []:=by
  unfold g_e_short at h
  refine Sound.of_runs (fu:=Try.f135) (c:=C_34 1) (nt:=43) (by kernel_rfl) (by kernel_rfl) (by kernel_rfl) (by kernel_rfl) (fun hm=>rfl) ?_
  intro E hE
  refine Runs.sA 1 [.code (C_34 2),.code (C_34 3)] ?_
  refine Runs.sR hE ⟨[(0,(encL (cU .u16) 0 a)),(1,(.atom (.int .u16 b)))],[],32⟩ (C_34 2) [] [] (kp [0,1]) [] 32 [] trivial ?_
  refine Runs.sA 1 [.code (C_34 6),.code (C_34 7)] ?_
  obtain ⟨c,h⟩:=ifSome h
  refine Runs.sR hE ⟨[(0,(encL (cU .u16) 0 a)),(1,(.atom (.int .u16 b))),(6,(.os 64 0 ((List.replicate a.length 0:List Int).length)))],[(64,aO 1 (cU .u16) 0 (List.replicate a.length 0:List Int))],96⟩ (C_34 6) [] [] (kp [0,1] ++ [(6,.osl ((List.replicate a.length 0:List Int).length))]) [(64,.arr 64 ((List.replicate a.length 0:List Int).length) (fun zi=>(cU .u16) ((List.replicate a.length 0:List Int).getD zi 0)))] 96 [0≤((a.length:Nat):Int),((a.length:Nat):Int)≤((a.length:Nat):Int),(2:Int) * ((a.length:Nat):Int)≤281474976710656,((a.length:Nat):Int)≤9223372036854775807,a.length = (List.replicate a.length 0:List Int).length,a.length = (List.replicate a.length 0:List Int).length,∀ zi,zi < (List.replicate a.length 0:List Int).length→(fun zi=>(cU .u16) ((List.replicate a.length 0:List Int).getD zi 0)) zi = (fun _=>[(.atom (.int .u16 0))]) zi] ⟨c.1,(Int.le_refl _),c.2.1,c.2.2,(List.length_replicate).symm,(List.length_replicate).symm,(fun zq hzq=>get_rep (cU .u16) 0 0 a.length zq hzq),trivial⟩ ?_
  refine Runs.sA 1 [.code (C_34 14),.code (C_34 15)] ?_
  refine Runs.sR hE ⟨[(0,(encL (cU .u16) 0 a)),(1,(.atom (.int .u16 b))),(6,(.os 64 0 ((List.replicate a.length 0:List Int).length))),(7,(.atom (.int .u32 0)))],[(64,aO 1 (cU .u16) 0 (List.replicate a.length 0:List Int))],112⟩ (C_34 14) [] [] (kp [0,1,6,7]) (kq [64]) 112 [] trivial ?_
  refine Runs.sA 2 [.code (C_34 60),.code (C_34 61),.code (C_34 31)] ?_
  refine Runs.sR hE ⟨[(0,(encL (cU .u16) 0 a)),(1,(.atom (.int .u16 b))),(6,(.os 64 0 ((List.replicate a.length 0:List Int).length))),(7,(.atom (.int .u32 0))),(8,(aI (w64 (((a.length:Nat):Int) - 1))))],[(64,aO 1 (cU .u16) 0 (List.replicate a.length 0:List Int))],176⟩ (C_34 60) [] [] (kp [0,1,6,7,8]) (kq [64]) 176 [] trivial ?_
  refine Runs.sA 2 [.code (C_34 244),.inLoop (C_34 244),.inBlock 0,.code (C_34 31)] ?_
  exact Runs.sW hE _ [] (kp [0,1,6,7,8]) [(0,.keep 64)] 1 [] trivial (g_e_short_L1_ok N a b N (List.replicate a.length 0:List Int) 0 (w64 (((a.length:Nat):Int) - 1)) _ h E hE)
noncomputable def C_36 (n:Nat):Code:=cat (bodyOf Try.f143) (pth n)
theorem g_math_bits_Len16_J1_ok (N:Nat) (x2:Int) (n:Int) (r:Int) (h:g_math_bits_Len16_J1 N x2 n = some r):∀ E,EnvOk E 0→Runs Try.prog E 143 13 (SPost E [] (aI r)) [.code (C_36 14),.code (C_36 15)] ⟨[(0,(.atom (.int .u16 x2))),(2,(aI n))],[],0⟩:=by
  intro E hE
  unfold g_math_bits_Len16_J1 at h
  obtain ⟨c,h⟩:=ifSome h
  refine Runs.sR hE ⟨[(2,(aI (w64 (n+(w64 ((byteAt (⟨#[0,1,2,2,3,3,3,3,4,4,4,4,4,4,4,4,5,5,5,5,5,5,5,5,5,5,5,5,5,5,5,5,6,6,6,6,6,6,6,6,6,6,6,6,6,6,6,6,6,6,6,6,6,6,6,6,6,6,6,6,6,6,6,6,7,7,7,7,7,7,7,7,7,7,7,7,7,7,7,7,7,7,7,7,7,7,7,7,7,7,7,7,7,7,7,7,7,7,7,7,7,7,7,7,7,7,7,7,7,7,7,7,7,7,7,7,7,7,7,7,7,7,7,7,7,7,7,7,8,8,8,8,8,8,8,8,8,8,8,8,8,8,8,8,8,8,8,8,8,8,8,8,8,8,8,8,8,8,8,8,8,8,8,8,8,8,8,8,8,8,8,8,8,8,8,8,8,8,8,8,8,8,8,8,8,8,8,8,8,8,8,8,8,8,8,8,8,8,8,8,8,8,8,8,8,8,8,8,8,8,8,8,8,8,8,8,8,8,8,8,8,8,8,8,8,8,8,8,8,8,8,8,8,8,8,8,8,8,8,8,8,8,8,8,8,8,8,8,8,8,8,8,8,8,8,8]⟩:ByteArray) ((IntKind.u8.wrap (x2)).toNat))))))))],[],112⟩ (C_36 14) [] [] (kp [2]) [] 112 [0≤(IntKind.u8.wrap (x2))∧(IntKind.u8.wrap (x2)) < (((⟨#[0,1,2,2,3,3,3,3,4,4,4,4,4,4,4,4,5,5,5,5,5,5,5,5,5,5,5,5,5,5,5,5,6,6,6,6,6,6,6,6,6,6,6,6,6,6,6,6,6,6,6,6,6,6,6,6,6,6,6,6,6,6,6,6,7,7,7,7,7,7,7,7,7,7,7,7,7,7,7,7,7,7,7,7,7,7,7,7,7,7,7,7,7,7,7,7,7,7,7,7,7,7,7,7,7,7,7,7,7,7,7,7,7,7,7,7,7,7,7,7,7,7,7,7,7,7,7,7,8,8,8,8,8,8,8,8,8,8,8,8,8,8,8,8,8,8,8,8,8,8,8,8,8,8,8,8,8,8,8,8,8,8,8,8,8,8,8,8,8,8,8,8,8,8,8,8,8,8,8,8,8,8,8,8,8,8,8,8,8,8,8,8,8,8,8,8,8,8,8,8,8,8,8,8,8,8,8,8,8,8,8,8,8,8,8,8,8,8,8,8,8,8,8,8,8,8,8,8,8,8,8,8,8,8,8,8,8,8,8,8,8,8,8,8,8,8,8,8,8,8,8,8,8,8,8,8]⟩:ByteArray).size:Nat):Int)] ⟨c,trivial⟩ ?_
  obtain rfl:=Option.some.inj h
  refine Runs.sW hE ⟨[(2,(aI (w64 (n+(w64 ((byteAt (⟨#[0,1,2,2,3,3,3,3,4,4,4,4,4,4,4,4,5,5,5,5,5,5,5,5,5,5,5,5,5,5,5,5,6,6,6,6,6,6,6,6,6,6,6,6,6,6,6,6,6,6,6,6,6,6,6,6,6,6,6,6,6,6,6,6,7,7,7,7,7,7,7,7,7,7,7,7,7,7,7,7,7,7,7,7,7,7,7,7,7,7,7,7,7,7,7,7,7,7,7,7,7,7,7,7,7,7,7,7,7,7,7,7,7,7,7,7,7,7,7,7,7,7,7,7,7,7,7,7,8,8,8,8,8,8,8,8,8,8,8,8,8,8,8,8,8,8,8,8,8,8,8,8,8,8,8,8,8,8,8,8,8,8,8,8,8,8,8,8,8,8,8,8,8,8,8,8,8,8,8,8,8,8,8,8,8,8,8,8,8,8,8,8,8,8,8,8,8,8,8,8,8,8,8,8,8,8,8,8,8,8,8,8,8,8,8,8,8,8,8,8,8,8,8,8,8,8,8,8,8,8,8,8,8,8,8,8,8,8,8,8,8,8,8,8,8,8,8,8,8,8,8,8,8,8,8,8]⟩:ByteArray) ((IntKind.u8.wrap (x2)).toNat))))))))],[],112⟩ [] (kp [2]) [] 112 [] trivial ?_
  exact Runs.sT Try.f143 [] [] trivial
theorem g_math_bits_Len16_ok (N:Nat) (x:Int) (r:Int) (h:g_math_bits_Len16 N x = some r):Sound Try.prog 143 [(.atom (.int .u16 x))] [] 0 (aI r) []:=by
  unfold g_math_bits_Len16 at h
  refine Sound.of_runs (fu:=Try.f143) (c:=C_36 1) (nt:=13) (by kernel_rfl) (by kernel_rfl) (by kernel_rfl) (by kernel_rfl) (fun hm=>rfl) ?_
  intro E hE
  refine Runs.sA 1 [.code (C_36 2),.code (C_36 3)] ?_
  refine Runs.sR hE ⟨[(0,(.atom (.int .u16 x))),(2,(aI 0))],[],16⟩ (C_36 2) [] [] (kp [0,2]) [] 16 [] trivial ?_
  refine Runs.sA 2 [.code (C_36 12),.code (C_36 13),.code (C_36 7)] ?_
  refine Runs.sR hE ⟨[(0,(.atom (.int .u16 x))),(2,(aI 0)),(4,(aB (decide (x ≥ 256))))],[],48⟩ (C_36 12) [] [] (kp [0,2,4]) [] 48 [] trivial ?_
  refine Runs.sC 4 (C_36 26) (C_36 27) (decide (x ≥ 256)) (fun hq2=>?_) (fun hq2=>?_)
  · have h:=condT h hq2
    refine Runs.sA 1 [.code (C_36 52),.code (C_36 53),.code (C_36 7)] ?_
    refine Runs.sR hE ⟨[(0,(.atom (.int .u16 (shrI .u16 x 8))))],[],96⟩ (C_36 52) [] [] (kp [0]) [] 96 [(0:Int)≤8] ⟨(by decide),trivial⟩ ?_
    refine Runs.sR hE ⟨[(0,(.atom (.int .u16 (shrI .u16 x 8)))),(2,(aI 8))],[],112⟩ (C_36 53) [] [] (kp [0,2]) [] 112 [] trivial ?_
    refine Runs.sA 1 [.code (C_36 14),.code (C_36 15)] ?_
    exact Runs.sW hE _ [] (kp [0,2]) [] 0 [] trivial (g_math_bits_Len16_J1_ok N (shrI .u16 x 8) 8 _ h E hE)
  · have h:=condF h hq2
    refine Runs.sA 2 [.code (C_36 14),.code (C_36 15)] ?_
    exact Runs.sW hE _ [] (kp [0,2]) [] 0 [] trivial (g_math_bits_Len16_J1_ok N x 0 _ h E hE)
noncomputable def C_35 (n:Nat):Code:=cat (bodyOf Try.f136) (pth n)
theorem g_math_bits_LeadingZeros16_ok (N:Nat) (x:Int) (r:Int) (h:g_math_bits_LeadingZeros16 N x = some r):Sound Try.prog 136 [(.atom (.int .u16 x))] [] 0 (aI r) []:=by
  unfold g_math_bits_LeadingZeros16 at h
  refine Sound.of_runs (fu:=Try.f136) (c:=C_35 1) (nt:=6) (by kernel_rfl) (by kernel_rfl) (by kernel_rfl) (by kernel_rfl) (fun hm=>rfl) ?_
  intro E hE
  refine Runs.sA 1 [.code (C_35 2),.code (C_35 3)] ?_
  refine Runs.sR hE ⟨[(0,(.atom (.int .u16 x)))],[],16⟩ (C_35 2) [] [] (kp [0]) [] 16 [] trivial ?_
  refine Runs.sA 1 [.code (C_35 6),.code (C_35 7)] ?_
  obtain ⟨rLen16,hr,h⟩:=bindSome h
  refine Runs.sR hE ⟨[(2,(aI (w64 (16 - rLen16))))],[],80⟩ (C_35 6) [(1,⟨[],true,(aI rLen16),[],0,false,none⟩)] [] (kp [2]) [] 80 [Sound Try.prog 143 [(.atom (.int .u16 x))] [] 0 (aI rLen16) []] ⟨(g_math_bits_Len16_ok N x rLen16 hr),trivial⟩ ?_
  obtain rfl:=Option.some.inj h
  refine Runs.sW hE ⟨[(2,(aI (w64 (16 - rLen16))))],[],80⟩ [] (kp [2]) [] 80 [] trivial ?_
  exact Runs.sT Try.f136 [] [] trivial
noncomputable def C_37 (n:Nat):Code:=cat (bodyOf Try.f137) (pth n)
theorem g_e_shifted_L1_ok (N:Nat) (a:List Int) (vby:Int) (fuel:Nat):∀ (out:List Int) (x:Int) (r:(List Int)),g_e_shifted_L1 N a vby fuel out x = some r→∀ E,EnvOk E 0→Runs Try.prog E 137 41 (SPost E [(0,aO 1 (cU .u16) 0 r)] (.os 0 0 r.length)) [.code (C_37 116),.inLoop (C_37 116),.inBlock 0,.code (C_37 15)] ⟨[(1,(aI vby)),(5,(.os 0 0 out.length)),(13,(encL (cU .u16) 0 a)),(14,(aI ((a.length:Nat):Int))),(15,(aI x))],[(0,aO 1 (cU .u16) 0 out)],1⟩:=by
  induction fuel with
  | zero=>intro _ _ r h; rw [g_e_shifted_L1.eq_1] at h; cases h
  | succ fuel ih =>
    intro out x r h E hE
    rw [g_e_shifted_L1.eq_2] at h
    refine Runs.sA 1 [.code (C_37 232),.code (C_37 233),.inLoop (C_37 116),.inBlock 0,.code (C_37 15)] ?_
    refine Runs.sR hE ⟨[(1,(aI vby)),(5,(.os 0 0 out.length)),(13,(encL (cU .u16) 0 a)),(14,(aI ((a.length:Nat):Int))),(15,(aI x)),(16,(aB (decide (x < ((a.length:Nat):Int)))))],[(0,aO 1 (cU .u16) 0 out)],17⟩ (C_37 232) [] [] (kp [1,5,13,14,15,16]) (kq [0]) 17 [] trivial ?_
    refine Runs.sA 1 [.code (C_37 466),.code (C_37 467),.inLoop (C_37 116),.inBlock 0,.code (C_37 15)] ?_
    refine Runs.sC 16 (C_37 932) (C_37 933) (decide (x < ((a.length:Nat):Int))) (fun hq2=>?_) (fun hq2=>?_)
    · have h:=condT h hq2
      refine Runs.sA 4 [.code (C_37 3736),.code (C_37 3737),.inBlock 1,.code (C_37 935),.inLoop (C_37 116),.inBlock 0,.code (C_37 15)] ?_
      obtain ⟨c2,h⟩:=ifSome h
      refine Runs.sR hE ⟨[(1,(aI vby)),(5,(.os 0 0 out.length)),(6,(aI x)),(7,(.atom (.int .u16 (a.getD ((x).toNat) 0)))),(13,(encL (cU .u16) 0 a)),(14,(aI ((a.length:Nat):Int))),(15,(aI x))],[(0,aO 1 (cU .u16) 0 out)],97⟩ (C_37 3736) [] [] (kp [1,5,6,7,13,14,15]) (kq [0]) 97 [0≤x∧x < ((a.length:Nat):Int)] ⟨c2,trivial⟩ ?_
      refine Runs.sA 1 [.code (C_37 7474),.code (C_37 7475),.inBlock 1,.code (C_37 935),.inLoop (C_37 116),.inBlock 0,.code (C_37 15)] ?_
      obtain ⟨c3,h⟩:=ifSome h
      refine Runs.sR hE ⟨[(1,(aI vby)),(5,(.os 0 0 out.length)),(6,(aI x)),(8,(.atom (.int .u32 (shlI .u32 (IntKind.u32.wrap ((a.getD ((x).toNat) 0))) vby)))),(13,(encL (cU .u16) 0 a)),(14,(aI ((a.length:Nat):Int))),(15,(aI x))],[(0,aO 1 (cU .u16) 0 out)],177⟩ (C_37 7474) [] [] (kp [1,5,6,8,13,14,15]) (kq [0]) 177 [(0:Int)≤vby] ⟨c3,trivial⟩ ?_
      refine Runs.sA 1 [.code (C_37 14950),.code (C_37 14951),.inBlock 1,.code (C_37 935),.inLoop (C_37 116),.inBlock 0,.code (C_37 15)] ?_
      obtain ⟨c4,h⟩:=ifSome h
      refine Runs.sR hE ⟨[(1,(aI vby)),(5,(.os 0 0 ((out.set ((x).toNat) (orI .u16 (out.getD ((x).toNat) 0) (IntKind.u16.wrap ((shlI .u32 (IntKind.u32.wrap ((a.getD ((x).toNat) 0))) vby))))).length))),(6,(aI x)),(8,(.atom (.int .u32 (shlI .u32 (IntKind.u32.wrap ((a.getD ((x).toNat) 0))) vby)))),(13,(encL (cU .u16) 0 a)),(14,(aI ((a.length:Nat):Int))),(15,(aI x))],[(0,aO 1 (cU .u16) 0 (out.set ((x).toNat) (orI .u16 (out.getD ((x).toNat) 0) (IntKind.u16.wrap ((shlI .u32 (IntKind.u32.wrap ((a.getD ((x).toNat) 0))) vby))))))],321⟩ (C_37 14950) [] [] (kp [1] ++ [(5,.osl ((out.set ((x).toNat) (orI .u16 (out.getD ((x).toNat) 0) (IntKind.u16.wrap ((shlI .u32 (IntKind.u32.wrap ((a.getD ((x).toNat) 0))) vby))))).length))] ++ kp [6,8,13,14,15]) [(0,.arr 0 ((out.set ((x).toNat) (orI .u16 (out.getD ((x).toNat) 0) (IntKind.u16.wrap ((shlI .u32 (IntKind.u32.wrap ((a.getD ((x).toNat) 0))) vby))))).length) (fun zi=>(cU .u16) ((out.set ((x).toNat) (orI .u16 (out.getD ((x).toNat) 0) (IntKind.u16.wrap ((shlI .u32 (IntKind.u32.wrap ((a.getD ((x).toNat) 0))) vby))))).getD zi 0)))] 321 [0≤x∧x < ((out.length:Nat):Int),(x).toNat < out.length,0≤x∧x < ((out.length:Nat):Int),(x).toNat < out.length,out.length = (out.set ((x).toNat) (orI .u16 (out.getD ((x).toNat) 0) (IntKind.u16.wrap ((shlI .u32 (IntKind.u32.wrap ((a.getD ((x).toNat) 0))) vby))))).length,out.length = (out.set ((x).toNat) (orI .u16 (out.getD ((x).toNat) 0) (IntKind.u16.wrap ((shlI .u32 (IntKind.u32.wrap ((a.getD ((x).toNat) 0))) vby))))).length,∀ zi,zi < (out.set ((x).toNat) (orI .u16 (out.getD ((x).toNat) 0) (IntKind.u16.wrap ((shlI .u32 (IntKind.u32.wrap ((a.getD ((x).toNat) 0))) vby))))).length→(fun zi=>(cU .u16) ((out.set ((x).toNat) (orI .u16 (out.getD ((x).toNat) 0) (IntKind.u16.wrap ((shlI .u32 (IntKind.u32.wrap ((a.getD ((x).toNat) 0))) vby))))).getD zi 0)) zi = ((fun zm=>if zm = (x).toNat then [(.atom (.int .u16 (orI .u16 (out.getD ((x).toNat) 0) (IntKind.u16.wrap ((shlI .u32 (IntKind.u32.wrap ((a.getD ((x).toNat) 0))) vby))))))] else (fun zi=>(cU .u16) (out.getD zi 0)) zm)) zi] ⟨c4,(ltOf c4),c4,(ltOf c4),(len_set_raw rfl),(len_set_raw rfl),(get_set_raw (cU .u16) 0 out ((x).toNat) (orI .u16 (out.getD ((x).toNat) 0) (IntKind.u16.wrap ((shlI .u32 (IntKind.u32.wrap ((a.getD ((x).toNat) 0))) vby)))) (fun _ _=>rfl)),trivial⟩ ?_
      obtain ⟨c5,h⟩:=ifSome h
      refine Runs.sR hE ⟨[(1,(aI vby)),(5,(.os 0 0 (((out.set ((x).toNat) (orI .u16 (out.getD ((x).toNat) 0) (IntKind.u16.wrap ((shlI .u32 (IntKind.u32.wrap ((a.getD ((x).toNat) 0))) vby))))).set ((w64 (x+1)).toNat) (IntKind.u16.wrap ((shrI .u32 (shlI .u32 (IntKind.u32.wrap ((a.getD ((x).toNat) 0))) vby) 16)))).length))),(13,(encL (cU .u16) 0 a)),(14,(aI ((a.length:Nat):Int))),(15,(aI x))],[(0,aO 1 (cU .u16) 0 ((out.set ((x).toNat) (orI .u16 (out.getD ((x).toNat) 0) (IntKind.u16.wrap ((shlI .u32 (IntKind.u32.wrap ((a.getD ((x).toNat) 0))) vby))))).set ((w64 (x+1)).toNat) (IntKind.u16.wrap ((shrI .u32 (shlI .u32 (IntKind.u32.wrap ((a.getD ((x).toNat) 0))) vby) 16)))))],449⟩ (C_37 14951) [] [] (kp [1] ++ [(5,.osl (((out.set ((x).toNat) (orI .u16 (out.getD ((x).toNat) 0) (IntKind.u16.wrap ((shlI .u32 (IntKind.u32.wrap ((a.getD ((x).toNat) 0))) vby))))).set ((w64 (x+1)).toNat) (IntKind.u16.wrap ((shrI .u32 (shlI .u32 (IntKind.u32.wrap ((a.getD ((x).toNat) 0))) vby) 16)))).length))] ++ kp [13,14,15]) [(0,.arr 0 (((out.set ((x).toNat) (orI .u16 (out.getD ((x).toNat) 0) (IntKind.u16.wrap ((shlI .u32 (IntKind.u32.wrap ((a.getD ((x).toNat) 0))) vby))))).set ((w64 (x+1)).toNat) (IntKind.u16.wrap ((shrI .u32 (shlI .u32 (IntKind.u32.wrap ((a.getD ((x).toNat) 0))) vby) 16)))).length) (fun zi=>(cU .u16) (((out.set ((x).toNat) (orI .u16 (out.getD ((x).toNat) 0) (IntKind.u16.wrap ((shlI .u32 (IntKind.u32.wrap ((a.getD ((x).toNat) 0))) vby))))).set ((w64 (x+1)).toNat) (IntKind.u16.wrap ((shrI .u32 (shlI .u32 (IntKind.u32.wrap ((a.getD ((x).toNat) 0))) vby) 16)))).getD zi 0)))] 449 [(0:Int)≤16,0≤(w64 (x+1))∧(w64 (x+1)) < (((out.set ((x).toNat) (orI .u16 (out.getD ((x).toNat) 0) (IntKind.u16.wrap ((shlI .u32 (IntKind.u32.wrap ((a.getD ((x).toNat) 0))) vby))))).length:Nat):Int),(w64 (x+1)).toNat < (out.set ((x).toNat) (orI .u16 (out.getD ((x).toNat) 0) (IntKind.u16.wrap ((shlI .u32 (IntKind.u32.wrap ((a.getD ((x).toNat) 0))) vby))))).length,(out.set ((x).toNat) (orI .u16 (out.getD ((x).toNat) 0) (IntKind.u16.wrap ((shlI .u32 (IntKind.u32.wrap ((a.getD ((x).toNat) 0))) vby))))).length = ((out.set ((x).toNat) (orI .u16 (out.getD ((x).toNat) 0) (IntKind.u16.wrap ((shlI .u32 (IntKind.u32.wrap ((a.getD ((x).toNat) 0))) vby))))).set ((w64 (x+1)).toNat) (IntKind.u16.wrap ((shrI .u32 (shlI .u32 (IntKind.u32.wrap ((a.getD ((x).toNat) 0))) vby) 16)))).length,(out.set ((x).toNat) (orI .u16 (out.getD ((x).toNat) 0) (IntKind.u16.wrap ((shlI .u32 (IntKind.u32.wrap ((a.getD ((x).toNat) 0))) vby))))).length = ((out.set ((x).toNat) (orI .u16 (out.getD ((x).toNat) 0) (IntKind.u16.wrap ((shlI .u32 (IntKind.u32.wrap ((a.getD ((x).toNat) 0))) vby))))).set ((w64 (x+1)).toNat) (IntKind.u16.wrap ((shrI .u32 (shlI .u32 (IntKind.u32.wrap ((a.getD ((x).toNat) 0))) vby) 16)))).length,∀ zi,zi < ((out.set ((x).toNat) (orI .u16 (out.getD ((x).toNat) 0) (IntKind.u16.wrap ((shlI .u32 (IntKind.u32.wrap ((a.getD ((x).toNat) 0))) vby))))).set ((w64 (x+1)).toNat) (IntKind.u16.wrap ((shrI .u32 (shlI .u32 (IntKind.u32.wrap ((a.getD ((x).toNat) 0))) vby) 16)))).length→(fun zi=>(cU .u16) (((out.set ((x).toNat) (orI .u16 (out.getD ((x).toNat) 0) (IntKind.u16.wrap ((shlI .u32 (IntKind.u32.wrap ((a.getD ((x).toNat) 0))) vby))))).set ((w64 (x+1)).toNat) (IntKind.u16.wrap ((shrI .u32 (shlI .u32 (IntKind.u32.wrap ((a.getD ((x).toNat) 0))) vby) 16)))).getD zi 0)) zi = ((fun zm=>if zm = (w64 (x+1)).toNat then [(.atom (.int .u16 (IntKind.u16.wrap ((shrI .u32 (shlI .u32 (IntKind.u32.wrap ((a.getD ((x).toNat) 0))) vby) 16)))))] else (fun zi=>(cU .u16) ((out.set ((x).toNat) (orI .u16 (out.getD ((x).toNat) 0) (IntKind.u16.wrap ((shlI .u32 (IntKind.u32.wrap ((a.getD ((x).toNat) 0))) vby))))).getD zi 0)) zm)) zi] ⟨(by decide),c5,(ltOf c5),(len_set_raw rfl),(len_set_raw rfl),(get_set_raw (cU .u16) 0 (out.set ((x).toNat) (orI .u16 (out.getD ((x).toNat) 0) (IntKind.u16.wrap ((shlI .u32 (IntKind.u32.wrap ((a.getD ((x).toNat) 0))) vby))))) ((w64 (x+1)).toNat) (IntKind.u16.wrap ((shrI .u32 (shlI .u32 (IntKind.u32.wrap ((a.getD ((x).toNat) 0))) vby) 16))) (fun _ _=>rfl)),trivial⟩ ?_
      refine Runs.sA 1 [.code (C_37 935),.inLoop (C_37 116),.inBlock 0,.code (C_37 15)] ?_
      refine Runs.sR hE ⟨[(1,(aI vby)),(5,(.os 0 0 (((out.set ((x).toNat) (orI .u16 (out.getD ((x).toNat) 0) (IntKind.u16.wrap ((shlI .u32 (IntKind.u32.wrap ((a.getD ((x).toNat) 0))) vby))))).set ((w64 (x+1)).toNat) (IntKind.u16.wrap ((shrI .u32 (shlI .u32 (IntKind.u32.wrap ((a.getD ((x).toNat) 0))) vby) 16)))).length))),(13,(encL (cU .u16) 0 a)),(14,(aI ((a.length:Nat):Int))),(15,(aI (w64 (x+1))))],[(0,aO 1 (cU .u16) 0 ((out.set ((x).toNat) (orI .u16 (out.getD ((x).toNat) 0) (IntKind.u16.wrap ((shlI .u32 (IntKind.u32.wrap ((a.getD ((x).toNat) 0))) vby))))).set ((w64 (x+1)).toNat) (IntKind.u16.wrap ((shrI .u32 (shlI .u32 (IntKind.u32.wrap ((a.getD ((x).toNat) 0))) vby) 16)))))],481⟩ (C_37 935) [] [] (kp [1,5,13,14,15]) (kq [0]) 481 [] trivial ?_
      refine Runs.sA 1 [.code (C_37 116),.inLoop (C_37 116),.inBlock 0,.code (C_37 15)] ?_
      exact Runs.sW hE _ [] (kp [1,5,13,14,15]) (kq [0]) 1 [] trivial (ih ((out.set ((x).toNat) (orI .u16 (out.getD ((x).toNat) 0) (IntKind.u16.wrap ((shlI .u32 (IntKind.u32.wrap ((a.getD ((x).toNat) 0))) vby))))).set ((w64 (x+1)).toNat) (IntKind.u16.wrap ((shrI .u32 (shlI .u32 (IntKind.u32.wrap ((a.getD ((x).toNat) 0))) vby) 16)))) (w64 (x+1)) _ h E hE)
    · have h:=condF h hq2
      refine Runs.sA 2 [.code (C_37 30),.code (C_37 31)] ?_
      refine Runs.sR hE ⟨[(4,(.os 0 0 out.length))],[(0,aO 1 (cU .u16) 0 out)],49⟩ (C_37 30) [] [] (kp [4]) (kq [0]) 49 [] trivial ?_
      obtain rfl:=Option.some.inj h
      refine Runs.sW hE ⟨[(4,(.os 0 0 out.length))],[(0,aO 1 (cU .u16) 0 out)],49⟩ [] (kp [4]) (kq [0]) 49 [] trivial ?_
      exact Runs.sT Try.f137 [] [] trivial
theorem g_e_shifted_ok (N:Nat) (a:List Int) (vby:Int) (r:(List Int)) (h:g_e_shifted N a vby = some r):Sound Try.prog 137 [(encL (cU .u16) 0 a),(aI vby)] [] 0 (.os 0 0 r.length) [(0,aO 1 (cU .u16) 0 r)]:=by
  unfold g_e_shifted at h
  refine Sound.of_runs (fu:=Try.f137) (c:=C_37 1) (nt:=41) (by kernel_rfl) (by kernel_rfl) (by kernel_rfl) (by kernel_rfl) (fun hm=>rfl) ?_
  intro E hE
  refine Runs.sA 1 [.code (C_37 2),.code (C_37 3)] ?_
  refine Runs.sR hE ⟨[(0,(encL (cU .u16) 0 a)),(1,(aI vby))],[],16⟩ (C_37 2) [] [] (kp [0,1]) [] 16 [] trivial ?_
  refine Runs.sA 1 [.code (C_37 6),.code (C_37 7)] ?_
  obtain ⟨c,h⟩:=ifSome h
  refine Runs.sR hE ⟨[(0,(encL (cU .u16) 0 a)),(1,(aI vby)),(5,(.os 64 0 ((List.replicate ((w64 (((a.length:Nat):Int)+1)).toNat) 0:List Int).length)))],[(64,aO 1 (cU .u16) 0 (List.replicate ((w64 (((a.length:Nat):Int)+1)).toNat) 0:List Int))],96⟩ (C_37 6) [] [] (kp [0,1] ++ [(5,.osl ((List.replicate ((w64 (((a.length:Nat):Int)+1)).toNat) 0:List Int).length))]) [(64,.arr 64 ((List.replicate ((w64 (((a.length:Nat):Int)+1)).toNat) 0:List Int).length) (fun zi=>(cU .u16) ((List.replicate ((w64 (((a.length:Nat):Int)+1)).toNat) 0:List Int).getD zi 0)))] 96 [0≤(w64 (((a.length:Nat):Int)+1)),(w64 (((a.length:Nat):Int)+1))≤(w64 (((a.length:Nat):Int)+1)),(2:Int) * (w64 (((a.length:Nat):Int)+1))≤281474976710656,(w64 (((a.length:Nat):Int)+1))≤9223372036854775807,(w64 (((a.length:Nat):Int)+1)).toNat = (List.replicate ((w64 (((a.length:Nat):Int)+1)).toNat) 0:List Int).length,(w64 (((a.length:Nat):Int)+1)).toNat = (List.replicate ((w64 (((a.length:Nat):Int)+1)).toNat) 0:List Int).length,∀ zi,zi < (List.replicate ((w64 (((a.length:Nat):Int)+1)).toNat) 0:List Int).length→(fun zi=>(cU .u16) ((List.replicate ((w64 (((a.length:Nat):Int)+1)).toNat) 0:List Int).getD zi 0)) zi = (fun _=>[(.atom (.int .u16 0))]) zi] ⟨c.1,(Int.le_refl _),c.2.1,c.2.2,(List.length_replicate).symm,(List.length_replicate).symm,(fun zq hzq=>get_rep (cU .u16) 0 0 ((w64 (((a.length:Nat):Int)+1)).toNat) zq hzq),trivial⟩ ?_
  refine Runs.sA 2 [.code (C_37 28),.code (C_37 29),.code (C_37 15)] ?_
  refine Runs.sR hE ⟨[(1,(aI vby)),(5,(.os 64 0 ((List.replicate ((w64 (((a.length:Nat):Int)+1)).toNat) 0:List Int).length))),(13,(encL (cU .u16) 0 a)),(14,(aI ((a.length:Nat):Int))),(15,(aI 0))],[(64,aO 1 (cU .u16) 0 (List.replicate ((w64 (((a.length:Nat):Int)+1)).toNat) 0:List Int))],144⟩ (C_37 28) [] [] (kp [1,5,13,14,15]) (kq [64]) 144 [] trivial ?_
  refine Runs.sA 2 [.code (C_37 116),.inLoop (C_37 116),.inBlock 0,.code (C_37 15)] ?_
  exact Runs.sW hE _ [] (kp [1,5,13,14,15]) [(0,.keep 64)] 1 [] trivial (g_e_shifted_L1_ok N a vby N (List.replicate ((w64 (((a.length:Nat):Int)+1)).toNat) 0:List Int) 0 _ h E hE)
noncomputable def C_38 (n:Nat):Code:=cat (bodyOf Try.f138) (pth n)
theorem g_e_digit_J3_ok (N:Nat) (uo:Nat) (un:Nat) (v:List Int) (q:Int) (cap02:List Int) (borrow:Int) (x:Int) (K_g_e_digit_L2:(List Int)→Int→Int→Int→Option (Int × (List Int)))
    (hK_g_e_digit_L2:∀ (cap02:List Int) (carry:Int) (borrow:Int) (x:Int) (r:Int × (List Int)),K_g_e_digit_L2 cap02 carry borrow x = some r→∀ E,EnvOk E 1→Runs Try.prog E 138 161 (SPost E [(0,aO 1 (cU .u16) 0 r.2)] (.atom (.int .u16 r.1))) [.code (C_38 2036),.inLoop (C_38 2036),.inBlock 2,.code (C_38 255)] ⟨[(0,(.os 0 uo un)),(1,(encL (cU .u16) 0 v)),(5,(aI ((v.length:Nat):Int))),(7,(.atom (.int .u64 q))),(9,(.atom (.int .u64 carry))),(10,(aI borrow)),(84,(aI (w64 (((v.length:Nat):Int)+1)))),(85,(aI x))],[(0,aO 1 (cU .u16) 0 cap02)],1⟩) (x2:Int) (r:Int × (List Int)) (h:g_e_digit_J3 N uo un v q cap02 borrow x K_g_e_digit_L2 x2 = some r):∀ E,EnvOk E 1→Runs Try.prog E 138 161 (SPost E [(0,aO 1 (cU .u16) 0 r.2)] (.atom (.int .u16 r.1))) [.code (C_38 521422),.code (C_38 521423),.inBlock 3,.code (C_38 16295),.inLoop (C_38 2036),.inBlock 2,.code (C_38 255)] ⟨[(0,(.os 0 uo un)),(1,(encL (cU .u16) 0 v)),(5,(aI ((v.length:Nat):Int))),(7,(.atom (.int .u64 q))),(10,(aI borrow)),(11,(aI x)),(12,(.atom (.int .u64 x2))),(84,(aI (w64 (((v.length:Nat):Int)+1)))),(85,(aI x))],[(0,aO 1 (cU .u16) 0 cap02)],1⟩:=by
  intro E hE
  unfold g_e_digit_J3 at h
  refine Runs.sR hE ⟨[(0,(.os 0 uo un)),(1,(encL (cU .u16) 0 v)),(5,(aI ((v.length:Nat):Int))),(7,(.atom (.int .u64 q))),(9,(.atom (.int .u64 (shrI .u64 x2 16)))),(10,(aI borrow)),(11,(aI x)),(12,(.atom (.int .u64 x2))),(84,(aI (w64 (((v.length:Nat):Int)+1)))),(85,(aI x))],[(0,aO 1 (cU .u16) 0 cap02)],49⟩ (C_38 521422) [] [] (kp [0,1,5,7,9,10,11,12,84,85]) (kq [0]) 49 [(0:Int)≤16] ⟨(by decide),trivial⟩ ?_
  refine Runs.sA 1 [.code (C_38 1042846),.code (C_38 1042847),.inBlock 3,.code (C_38 16295),.inLoop (C_38 2036),.inBlock 2,.code (C_38 255)] ?_
  obtain ⟨c11,h⟩:=ifSome h
  obtain ⟨c12,h⟩:=ifSome h
  refine Runs.sR hE ⟨[(0,(.os 0 uo un)),(1,(encL (cU .u16) 0 v)),(5,(aI ((v.length:Nat):Int))),(7,(.atom (.int .u64 q))),(9,(.atom (.int .u64 (shrI .u64 x2 16)))),(11,(aI x)),(13,(aI (w64 ((w64 ((w64 ((cap02.getD (addz uo (x).toNat) 0))) - (w64 ((andI .u64 x2 65535)))))+borrow)))),(84,(aI (w64 (((v.length:Nat):Int)+1)))),(85,(aI x))],[(0,aO 1 (cU .u16) 0 cap02)],241⟩ (C_38 1042846) [] [] (kp [0,1,5,7,9,11,13,84,85]) (kq [0]) 241 [0≤x∧x < ((un:Nat):Int),(addz uo (x).toNat) < cap02.length] ⟨c11,(by have h1:=c11; have h2:=c12; simp only [addz_eq]; omega),trivial⟩ ?_
  refine Runs.sA 1 [.code (C_38 2085694),.code (C_38 2085695),.inBlock 3,.code (C_38 16295),.inLoop (C_38 2036),.inBlock 2,.code (C_38 255)] ?_
  refine Runs.sR hE ⟨[(0,(.os 0 uo un)),(1,(encL (cU .u16) 0 v)),(5,(aI ((v.length:Nat):Int))),(7,(.atom (.int .u64 q))),(9,(.atom (.int .u64 (shrI .u64 x2 16)))),(13,(aI (w64 ((w64 ((w64 ((cap02.getD (addz uo (x).toNat) 0))) - (w64 ((andI .u64 x2 65535)))))+borrow)))),(84,(aI (w64 (((v.length:Nat):Int)+1)))),(85,(aI x))],[(0,aO 1 (cU .u16) 0 (cap02.set (addz uo (x).toNat) (IntKind.u16.wrap ((w64 ((w64 ((w64 ((cap02.getD (addz uo (x).toNat) 0))) - (w64 ((andI .u64 x2 65535)))))+borrow))))))],337⟩ (C_38 2085694) [] [] (kp [0,1,5,7,9,13,84,85]) [(0,.arr 0 ((cap02.set (addz uo (x).toNat) (IntKind.u16.wrap ((w64 ((w64 ((w64 ((cap02.getD (addz uo (x).toNat) 0))) - (w64 ((andI .u64 x2 65535)))))+borrow))))).length) (fun zi=>(cU .u16) ((cap02.set (addz uo (x).toNat) (IntKind.u16.wrap ((w64 ((w64 ((w64 ((cap02.getD (addz uo (x).toNat) 0))) - (w64 ((andI .u64 x2 65535)))))+borrow))))).getD zi 0)))] 337 [0≤x∧x < ((un:Nat):Int),(addz uo (x).toNat) < cap02.length,cap02.length = (cap02.set (addz uo (x).toNat) (IntKind.u16.wrap ((w64 ((w64 ((w64 ((cap02.getD (addz uo (x).toNat) 0))) - (w64 ((andI .u64 x2 65535)))))+borrow))))).length,∀ zi,zi < (cap02.set (addz uo (x).toNat) (IntKind.u16.wrap ((w64 ((w64 ((w64 ((cap02.getD (addz uo (x).toNat) 0))) - (w64 ((andI .u64 x2 65535)))))+borrow))))).length→(fun zi=>(cU .u16) ((cap02.set (addz uo (x).toNat) (IntKind.u16.wrap ((w64 ((w64 ((w64 ((cap02.getD (addz uo (x).toNat) 0))) - (w64 ((andI .u64 x2 65535)))))+borrow))))).getD zi 0)) zi = ((fun zm=>if zm = (addz uo (x).toNat) then [(.atom (.int .u16 (IntKind.u16.wrap ((w64 ((w64 ((w64 ((cap02.getD (addz uo (x).toNat) 0))) - (w64 ((andI .u64 x2 65535)))))+borrow))))))] else (fun zi=>(cU .u16) (cap02.getD zi 0)) zm)) zi] ⟨c11,(by have h1:=c11; have h2:=c12; simp only [addz_eq]; omega),(len_set_raw rfl),(get_set_raw (cU .u16) 0 cap02 (addz uo (x).toNat) (IntKind.u16.wrap ((w64 ((w64 ((w64 ((cap02.getD (addz uo (x).toNat) 0))) - (w64 ((andI .u64 x2 65535)))))+borrow)))) (fun _ _=>rfl)),trivial⟩ ?_
  refine Runs.sR hE ⟨[(0,(.os 0 uo un)),(1,(encL (cU .u16) 0 v)),(5,(aI ((v.length:Nat):Int))),(7,(.atom (.int .u64 q))),(9,(.atom (.int .u64 (shrI .u64 x2 16)))),(10,(aI (shrI .i64 (w64 ((w64 ((w64 ((cap02.getD (addz uo (x).toNat) 0))) - (w64 ((andI .u64 x2 65535)))))+borrow)) 16))),(84,(aI (w64 (((v.length:Nat):Int)+1)))),(85,(aI x))],[(0,aO 1 (cU .u16) 0 (cap02.set (addz uo (x).toNat) (IntKind.u16.wrap ((w64 ((w64 ((w64 ((cap02.getD (addz uo (x).toNat) 0))) - (w64 ((andI .u64 x2 65535)))))+borrow))))))],385⟩ (C_38 2085695) [] [] (kp [0,1,5,7,9,10,84,85]) (kq [0]) 385 [(0:Int)≤16] ⟨(by decide),trivial⟩ ?_
  refine Runs.sA 1 [.code (C_38 16295),.inLoop (C_38 2036),.inBlock 2,.code (C_38 255)] ?_
  refine Runs.sR hE ⟨[(0,(.os 0 uo un)),(1,(encL (cU .u16) 0 v)),(5,(aI ((v.length:Nat):Int))),(7,(.atom (.int .u64 q))),(9,(.atom (.int .u64 (shrI .u64 x2 16)))),(10,(aI (shrI .i64 (w64 ((w64 ((w64 ((cap02.getD (addz uo (x).toNat) 0))) - (w64 ((andI .u64 x2 65535)))))+borrow)) 16))),(84,(aI (w64 (((v.length:Nat):Int)+1)))),(85,(aI (w64 (x+1))))],[(0,aO 1 (cU .u16) 0 (cap02.set (addz uo (x).toNat) (IntKind.u16.wrap ((w64 ((w64 ((w64 ((cap02.getD (addz uo (x).toNat) 0))) - (w64 ((andI .u64 x2 65535)))))+borrow))))))],417⟩ (C_38 16295) [] [] (kp [0,1,5,7,9,10,84,85]) (kq [0]) 417 [] trivial ?_
  refine Runs.sA 1 [.code (C_38 2036),.inLoop (C_38 2036),.inBlock 2,.code (C_38 255)] ?_
  exact Runs.sW hE _ [] (kp [0,1,5,7,9,10,84,85]) (kq [0]) 1 [] trivial (hK_g_e_digit_L2 (cap02.set (addz uo (x).toNat) (IntKind.u16.wrap ((w64 ((w64 ((w64 ((cap02.getD (addz uo (x).toNat) 0))) - (w64 ((andI .u64 x2 65535)))))+borrow))))) (shrI .u64 x2 16) (shrI .i64 (w64 ((w64 ((w64 ((cap02.getD (addz uo (x).toNat) 0))) - (w64 ((andI .u64 x2 65535)))))+borrow)) 16) (w64 (x+1)) _ h E hE)
theorem g_e_digit_J5_ok (N:Nat) (cap04:List Int) (q2:Int) (r:Int × (List Int)) (h:g_e_digit_J5 N cap04 q2 = some r):∀ E,EnvOk E 1→Runs Try.prog E 138 161 (SPost E [(0,aO 1 (cU .u16) 0 r.2)] (.atom (.int .u16 r.1))) [.code (C_38 1022),.code (C_38 1023)] ⟨[(7,(.atom (.int .u64 q2)))],[(0,aO 1 (cU .u16) 0 cap04)],1⟩:=by
  intro E hE
  unfold g_e_digit_J5 at h
  refine Runs.sR hE ⟨[(4,(.atom (.int .u16 (IntKind.u16.wrap (q2)))))],[(0,aO 1 (cU .u16) 0 cap04)],49⟩ (C_38 1022) [] [] (kp [4]) (kq [0]) 49 [] trivial ?_
  obtain rfl:=Option.some.inj h
  refine Runs.sW hE ⟨[(4,(.atom (.int .u16 (IntKind.u16.wrap (q2)))))],[(0,aO 1 (cU .u16) 0 cap04)],49⟩ [] (kp [4]) (kq [0]) 49 [] trivial ?_
  exact Runs.sT Try.f138 [] [] trivial
theorem g_e_digit_L4_ok (N:Nat) (uo:Nat) (un:Nat) (v:List Int) (q:Int) (fuel:Nat):∀ (cap03:List Int) (carry2:Int) (x3:Int) (r:Int × (List Int)),g_e_digit_L4 N uo un v q fuel cap03 carry2 x3 = some r→∀ E,EnvOk E 1→Runs Try.prog E 138 161 (SPost E [(0,aO 1 (cU .u16) 0 r.2)] (.atom (.int .u16 r.1))) [.code (C_38 130740),.inLoop (C_38 130740),.inBlock 4,.code (C_38 16343),.code (C_38 511)] ⟨[(0,(.os 0 uo un)),(1,(encL (cU .u16) 0 v)),(5,(aI ((v.length:Nat):Int))),(7,(.atom (.int .u64 (IntKind.u64.wrap (q - 1))))),(14,(.atom (.int .u32 carry2))),(126,(aI ((v.length:Nat):Int))),(127,(aI x3))],[(0,aO 1 (cU .u16) 0 cap03)],1⟩:=by
  induction fuel with
  | zero=>intro _ _ _ r h; rw [g_e_digit_L4.eq_1] at h; cases h
  | succ fuel ih =>
    intro cap03 carry2 x3 r h E hE
    rw [g_e_digit_L4.eq_2] at h
    refine Runs.sA 1 [.code (C_38 261480),.code (C_38 261481),.inLoop (C_38 130740),.inBlock 4,.code (C_38 16343),.code (C_38 511)] ?_
    refine Runs.sR hE ⟨[(0,(.os 0 uo un)),(1,(encL (cU .u16) 0 v)),(5,(aI ((v.length:Nat):Int))),(7,(.atom (.int .u64 (IntKind.u64.wrap (q - 1))))),(14,(.atom (.int .u32 carry2))),(126,(aI ((v.length:Nat):Int))),(127,(aI x3)),(128,(aB (decide (x3 < ((v.length:Nat):Int)))))],[(0,aO 1 (cU .u16) 0 cap03)],17⟩ (C_38 261480) [] [] (kp [0,1,5,7,14,126,127,128]) (kq [0]) 17 [] trivial ?_
    refine Runs.sA 1 [.code (C_38 522962),.code (C_38 522963),.inLoop (C_38 130740),.inBlock 4,.code (C_38 16343),.code (C_38 511)] ?_
    refine Runs.sC 128 (C_38 1045924) (C_38 1045925) (decide (x3 < ((v.length:Nat):Int))) (fun hq6=>?_) (fun hq6=>?_)
    · have h:=condT h hq6
      refine Runs.sA 4 [.code (C_38 4183704),.code (C_38 4183705),.inBlock 5,.code (C_38 1045927),.inLoop (C_38 130740),.inBlock 4,.code (C_38 16343),.code (C_38 511)] ?_
      refine Runs.sR hE ⟨[(0,(.os 0 uo un)),(1,(encL (cU .u16) 0 v)),(5,(aI ((v.length:Nat):Int))),(7,(.atom (.int .u64 (IntKind.u64.wrap (q - 1))))),(14,(.atom (.int .u32 carry2))),(15,(aI x3)),(126,(aI ((v.length:Nat):Int))),(127,(aI x3))],[(0,aO 1 (cU .u16) 0 cap03)],49⟩ (C_38 4183704) [] [] (kp [0,1,5,7,14,15,126,127]) (kq [0]) 49 [] trivial ?_
      refine Runs.sA 1 [.code (C_38 8367410),.code (C_38 8367411),.inBlock 5,.code (C_38 1045927),.inLoop (C_38 130740),.inBlock 4,.code (C_38 16343),.code (C_38 511)] ?_
      obtain ⟨c13,h⟩:=ifSome h
      obtain ⟨c14,h⟩:=ifSome h
      obtain ⟨c15,h⟩:=ifSome h
      refine Runs.sR hE ⟨[(0,(.os 0 uo un)),(1,(encL (cU .u16) 0 v)),(5,(aI ((v.length:Nat):Int))),(7,(.atom (.int .u64 (IntKind.u64.wrap (q - 1))))),(14,(.atom (.int .u32 (IntKind.u32.wrap (carry2+(IntKind.u32.wrap ((IntKind.u32.wrap ((cap03.getD (addz uo (x3).toNat) 0)))+(IntKind.u32.wrap ((v.getD ((x3).toNat) 0)))))))))),(15,(aI x3)),(126,(aI ((v.length:Nat):Int))),(127,(aI x3))],[(0,aO 1 (cU .u16) 0 cap03)],273⟩ (C_38 8367410) [] [] (kp [0,1,5,7,14,15,126,127]) (kq [0]) 273 [0≤x3∧x3 < ((un:Nat):Int),(addz uo (x3).toNat) < cap03.length,0≤x3∧x3 < ((v.length:Nat):Int)] ⟨c13,(by have h1:=c13; have h2:=c14; simp only [addz_eq]; omega),c15,trivial⟩ ?_
      refine Runs.sA 1 [.code (C_38 16734822),.code (C_38 16734823),.inBlock 5,.code (C_38 1045927),.inLoop (C_38 130740),.inBlock 4,.code (C_38 16343),.code (C_38 511)] ?_
      refine Runs.sR hE ⟨[(0,(.os 0 uo un)),(1,(encL (cU .u16) 0 v)),(5,(aI ((v.length:Nat):Int))),(7,(.atom (.int .u64 (IntKind.u64.wrap (q - 1))))),(14,(.atom (.int .u32 (IntKind.u32.wrap (carry2+(IntKind.u32.wrap ((IntKind.u32.wrap ((cap03.getD (addz uo (x3).toNat) 0)))+(IntKind.u32.wrap ((v.getD ((x3).toNat) 0)))))))))),(126,(aI ((v.length:Nat):Int))),(127,(aI x3))],[(0,aO 1 (cU .u16) 0 (cap03.set (addz uo (x3).toNat) (IntKind.u16.wrap ((IntKind.u32.wrap (carry2+(IntKind.u32.wrap ((IntKind.u32.wrap ((cap03.getD (addz uo (x3).toNat) 0)))+(IntKind.u32.wrap ((v.getD ((x3).toNat) 0)))))))))))],369⟩ (C_38 16734822) [] [] (kp [0,1,5,7,14,126,127]) [(0,.arr 0 ((cap03.set (addz uo (x3).toNat) (IntKind.u16.wrap ((IntKind.u32.wrap (carry2+(IntKind.u32.wrap ((IntKind.u32.wrap ((cap03.getD (addz uo (x3).toNat) 0)))+(IntKind.u32.wrap ((v.getD ((x3).toNat) 0)))))))))).length) (fun zi=>(cU .u16) ((cap03.set (addz uo (x3).toNat) (IntKind.u16.wrap ((IntKind.u32.wrap (carry2+(IntKind.u32.wrap ((IntKind.u32.wrap ((cap03.getD (addz uo (x3).toNat) 0)))+(IntKind.u32.wrap ((v.getD ((x3).toNat) 0)))))))))).getD zi 0)))] 369 [0≤x3∧x3 < ((un:Nat):Int),(addz uo (x3).toNat) < cap03.length,cap03.length = (cap03.set (addz uo (x3).toNat) (IntKind.u16.wrap ((IntKind.u32.wrap (carry2+(IntKind.u32.wrap ((IntKind.u32.wrap ((cap03.getD (addz uo (x3).toNat) 0)))+(IntKind.u32.wrap ((v.getD ((x3).toNat) 0)))))))))).length,∀ zi,zi < (cap03.set (addz uo (x3).toNat) (IntKind.u16.wrap ((IntKind.u32.wrap (carry2+(IntKind.u32.wrap ((IntKind.u32.wrap ((cap03.getD (addz uo (x3).toNat) 0)))+(IntKind.u32.wrap ((v.getD ((x3).toNat) 0)))))))))).length→(fun zi=>(cU .u16) ((cap03.set (addz uo (x3).toNat) (IntKind.u16.wrap ((IntKind.u32.wrap (carry2+(IntKind.u32.wrap ((IntKind.u32.wrap ((cap03.getD (addz uo (x3).toNat) 0)))+(IntKind.u32.wrap ((v.getD ((x3).toNat) 0)))))))))).getD zi 0)) zi = ((fun zm=>if zm = (addz uo (x3).toNat) then [(.atom (.int .u16 (IntKind.u16.wrap ((IntKind.u32.wrap (carry2+(IntKind.u32.wrap ((IntKind.u32.wrap ((cap03.getD (addz uo (x3).toNat) 0)))+(IntKind.u32.wrap ((v.getD ((x3).toNat) 0)))))))))))] else (fun zi=>(cU .u16) (cap03.getD zi 0)) zm)) zi] ⟨c13,(by have h1:=c13; have h2:=c14; simp only [addz_eq]; omega),(len_set_raw rfl),(get_set_raw (cU .u16) 0 cap03 (addz uo (x3).toNat) (IntKind.u16.wrap ((IntKind.u32.wrap (carry2+(IntKind.u32.wrap ((IntKind.u32.wrap ((cap03.getD (addz uo (x3).toNat) 0)))+(IntKind.u32.wrap ((v.getD ((x3).toNat) 0))))))))) (fun _ _=>rfl)),trivial⟩ ?_
      refine Runs.sR hE ⟨[(0,(.os 0 uo un)),(1,(encL (cU .u16) 0 v)),(5,(aI ((v.length:Nat):Int))),(7,(.atom (.int .u64 (IntKind.u64.wrap (q - 1))))),(14,(.atom (.int .u32 (shrI .u32 (IntKind.u32.wrap (carry2+(IntKind.u32.wrap ((IntKind.u32.wrap ((cap03.getD (addz uo (x3).toNat) 0)))+(IntKind.u32.wrap ((v.getD ((x3).toNat) 0))))))) 16)))),(126,(aI ((v.length:Nat):Int))),(127,(aI x3))],[(0,aO 1 (cU .u16) 0 (cap03.set (addz uo (x3).toNat) (IntKind.u16.wrap ((IntKind.u32.wrap (carry2+(IntKind.u32.wrap ((IntKind.u32.wrap ((cap03.getD (addz uo (x3).toNat) 0)))+(IntKind.u32.wrap ((v.getD ((x3).toNat) 0)))))))))))],417⟩ (C_38 16734823) [] [] (kp [0,1,5,7,14,126,127]) (kq [0]) 417 [(0:Int)≤16] ⟨(by decide),trivial⟩ ?_
      refine Runs.sA 1 [.code (C_38 1045927),.inLoop (C_38 130740),.inBlock 4,.code (C_38 16343),.code (C_38 511)] ?_
      refine Runs.sR hE ⟨[(0,(.os 0 uo un)),(1,(encL (cU .u16) 0 v)),(5,(aI ((v.length:Nat):Int))),(7,(.atom (.int .u64 (IntKind.u64.wrap (q - 1))))),(14,(.atom (.int .u32 (shrI .u32 (IntKind.u32.wrap (carry2+(IntKind.u32.wrap ((IntKind.u32.wrap ((cap03.getD (addz uo (x3).toNat) 0)))+(IntKind.u32.wrap ((v.getD ((x3).toNat) 0))))))) 16)))),(126,(aI ((v.length:Nat):Int))),(127,(aI (w64 (x3+1))))],[(0,aO 1 (cU .u16) 0 (cap03.set (addz uo (x3).toNat) (IntKind.u16.wrap ((IntKind.u32.wrap (carry2+(IntKind.u32.wrap ((IntKind.u32.wrap ((cap03.getD (addz uo (x3).toNat) 0)))+(IntKind.u32.wrap ((v.getD ((x3).toNat) 0)))))))))))],449⟩ (C_38 1045927) [] [] (kp [0,1,5,7,14,126,127]) (kq [0]) 449 [] trivial ?_
      refine Runs.sA 1 [.code (C_38 130740),.inLoop (C_38 130740),.inBlock 4,.code (C_38 16343),.code (C_38 511)] ?_
      exact Runs.sW hE _ [] (kp [0,1,5,7,14,126,127]) (kq [0]) 1 [] trivial (ih (cap03.set (addz uo (x3).toNat) (IntKind.u16.wrap ((IntKind.u32.wrap (carry2+(IntKind.u32.wrap ((IntKind.u32.wrap ((cap03.getD (addz uo (x3).toNat) 0)))+(IntKind.u32.wrap ((v.getD ((x3).toNat) 0)))))))))) (shrI .u32 (IntKind.u32.wrap (carry2+(IntKind.u32.wrap ((IntKind.u32.wrap ((cap03.getD (addz uo (x3).toNat) 0)))+(IntKind.u32.wrap ((v.getD ((x3).toNat) 0))))))) 16) (w64 (x3+1)) _ h E hE)
    · have h:=condF h hq6
      refine Runs.sA 1 [.code (C_38 16343),.code (C_38 511)] ?_
      obtain ⟨c16,h⟩:=ifSome h
      obtain ⟨c17,h⟩:=ifSome h
      refine Runs.sR hE ⟨[(7,(.atom (.int .u64 (IntKind.u64.wrap (q - 1)))))],[(0,aO 1 (cU .u16) 0 (cap03.set (addz uo v.length) (IntKind.u16.wrap ((cap03.getD (addz uo v.length) 0)+(IntKind.u16.wrap (carry2))))))],161⟩ (C_38 16343) [] [] (kp [7]) [(0,.arr 0 ((cap03.set (addz uo v.length) (IntKind.u16.wrap ((cap03.getD (addz uo v.length) 0)+(IntKind.u16.wrap (carry2))))).length) (fun zi=>(cU .u16) ((cap03.set (addz uo v.length) (IntKind.u16.wrap ((cap03.getD (addz uo v.length) 0)+(IntKind.u16.wrap (carry2))))).getD zi 0)))] 161 [0≤((v.length:Nat):Int)∧((v.length:Nat):Int) < ((un:Nat):Int),(addz uo v.length) < cap03.length,0≤((v.length:Nat):Int)∧((v.length:Nat):Int) < ((un:Nat):Int),(addz uo v.length) < cap03.length,cap03.length = (cap03.set (addz uo v.length) (IntKind.u16.wrap ((cap03.getD (addz uo v.length) 0)+(IntKind.u16.wrap (carry2))))).length,∀ zi,zi < (cap03.set (addz uo v.length) (IntKind.u16.wrap ((cap03.getD (addz uo v.length) 0)+(IntKind.u16.wrap (carry2))))).length→(fun zi=>(cU .u16) ((cap03.set (addz uo v.length) (IntKind.u16.wrap ((cap03.getD (addz uo v.length) 0)+(IntKind.u16.wrap (carry2))))).getD zi 0)) zi = ((fun zm=>if zm = (addz uo v.length) then [(.atom (.int .u16 (IntKind.u16.wrap ((cap03.getD (addz uo v.length) 0)+(IntKind.u16.wrap (carry2))))))] else (fun zi=>(cU .u16) (cap03.getD zi 0)) zm)) zi] ⟨c16,(by have h1:=c16; have h2:=c17; simp only [addz_eq]; omega),c16,(by have h1:=c16; have h2:=c17; simp only [addz_eq]; omega),(len_set_raw rfl),(get_set_raw (cU .u16) 0 cap03 (addz uo v.length) (IntKind.u16.wrap ((cap03.getD (addz uo v.length) 0)+(IntKind.u16.wrap (carry2)))) (fun _ _=>rfl)),trivial⟩ ?_
      refine Runs.sA 1 [.code (C_38 1022),.code (C_38 1023)] ?_
      exact Runs.sW hE _ [] (kp [7]) (kq [0]) 1 [] trivial (g_e_digit_J5_ok N (cap03.set (addz uo v.length) (IntKind.u16.wrap ((cap03.getD (addz uo v.length) 0)+(IntKind.u16.wrap (carry2))))) (IntKind.u64.wrap (q - 1)) _ h E hE)
theorem g_e_digit_L2_ok (N:Nat) (uo:Nat) (un:Nat) (v:List Int) (q:Int) (fuel:Nat):∀ (cap02:List Int) (carry:Int) (borrow:Int) (x:Int) (r:Int × (List Int)),g_e_digit_L2 N uo un v q fuel cap02 carry borrow x = some r→∀ E,EnvOk E 1→Runs Try.prog E 138 161 (SPost E [(0,aO 1 (cU .u16) 0 r.2)] (.atom (.int .u16 r.1))) [.code (C_38 2036),.inLoop (C_38 2036),.inBlock 2,.code (C_38 255)] ⟨[(0,(.os 0 uo un)),(1,(encL (cU .u16) 0 v)),(5,(aI ((v.length:Nat):Int))),(7,(.atom (.int .u64 q))),(9,(.atom (.int .u64 carry))),(10,(aI borrow)),(84,(aI (w64 (((v.length:Nat):Int)+1)))),(85,(aI x))],[(0,aO 1 (cU .u16) 0 cap02)],1⟩:=by
  induction fuel with
  | zero=>intro _ _ _ _ r h; rw [g_e_digit_L2.eq_1] at h; cases h
  | succ fuel ih =>
    intro cap02 carry borrow x r h E hE
    rw [g_e_digit_L2.eq_2] at h
    refine Runs.sA 1 [.code (C_38 4072),.code (C_38 4073),.inLoop (C_38 2036),.inBlock 2,.code (C_38 255)] ?_
    refine Runs.sR hE ⟨[(0,(.os 0 uo un)),(1,(encL (cU .u16) 0 v)),(5,(aI ((v.length:Nat):Int))),(7,(.atom (.int .u64 q))),(9,(.atom (.int .u64 carry))),(10,(aI borrow)),(84,(aI (w64 (((v.length:Nat):Int)+1)))),(85,(aI x)),(86,(aB (decide (x < (w64 (((v.length:Nat):Int)+1))))))],[(0,aO 1 (cU .u16) 0 cap02)],17⟩ (C_38 4072) [] [] (kp [0,1,5,7,9,10,84,85,86]) (kq [0]) 17 [] trivial ?_
    refine Runs.sA 1 [.code (C_38 8146),.code (C_38 8147),.inLoop (C_38 2036),.inBlock 2,.code (C_38 255)] ?_
    refine Runs.sC 86 (C_38 16292) (C_38 16293) (decide (x < (w64 (((v.length:Nat):Int)+1)))) (fun hq3=>?_) (fun hq3=>?_)
    · have h:=condT h hq3
      refine Runs.sA 4 [.code (C_38 65176),.code (C_38 65177),.inBlock 3,.code (C_38 16295),.inLoop (C_38 2036),.inBlock 2,.code (C_38 255)] ?_
      refine Runs.sR hE ⟨[(0,(.os 0 uo un)),(1,(encL (cU .u16) 0 v)),(5,(aI ((v.length:Nat):Int))),(7,(.atom (.int .u64 q))),(9,(.atom (.int .u64 carry))),(10,(aI borrow)),(11,(aI x)),(84,(aI (w64 (((v.length:Nat):Int)+1)))),(85,(aI x))],[(0,aO 1 (cU .u16) 0 cap02)],49⟩ (C_38 65176) [] [] (kp [0,1,5,7,9,10,11,84,85]) (kq [0]) 49 [] trivial ?_
      refine Runs.sA 1 [.code (C_38 130354),.code (C_38 130355),.inBlock 3,.code (C_38 16295),.inLoop (C_38 2036),.inBlock 2,.code (C_38 255)] ?_
      refine Runs.sR hE ⟨[(0,(.os 0 uo un)),(1,(encL (cU .u16) 0 v)),(5,(aI ((v.length:Nat):Int))),(7,(.atom (.int .u64 q))),(10,(aI borrow)),(11,(aI x)),(12,(.atom (.int .u64 carry))),(84,(aI (w64 (((v.length:Nat):Int)+1)))),(85,(aI x))],[(0,aO 1 (cU .u16) 0 cap02)],81⟩ (C_38 130354) [] [] (kp [0,1,5,7,10,11,12,84,85]) (kq [0]) 81 [] trivial ?_
      refine Runs.sA 2 [.code (C_38 521420),.code (C_38 521421),.code (C_38 260711),.inBlock 3,.code (C_38 16295),.inLoop (C_38 2036),.inBlock 2,.code (C_38 255)] ?_
      refine Runs.sR hE ⟨[(0,(.os 0 uo un)),(1,(encL (cU .u16) 0 v)),(5,(aI ((v.length:Nat):Int))),(7,(.atom (.int .u64 q))),(10,(aI borrow)),(11,(aI x)),(12,(.atom (.int .u64 carry))),(84,(aI (w64 (((v.length:Nat):Int)+1)))),(85,(aI x)),(91,(aB (decide (x < ((v.length:Nat):Int)))))],[(0,aO 1 (cU .u16) 0 cap02)],129⟩ (C_38 521420) [] [] (kp [0,1,5,7,10,11,12,84,85,91]) (kq [0]) 129 [] trivial ?_
      refine Runs.sC 91 (C_38 1042842) (C_38 1042843) (decide (x < ((v.length:Nat):Int))) (fun hq4=>?_) (fun hq4=>?_)
      · have h:=condT h hq4
        obtain ⟨c10,h⟩:=ifSome h
        refine Runs.sR hE ⟨[(0,(.os 0 uo un)),(1,(encL (cU .u16) 0 v)),(5,(aI ((v.length:Nat):Int))),(7,(.atom (.int .u64 q))),(10,(aI borrow)),(11,(aI x)),(12,(.atom (.int .u64 (IntKind.u64.wrap (carry+(IntKind.u64.wrap (q * (IntKind.u64.wrap ((v.getD ((x).toNat) 0)))))))))),(84,(aI (w64 (((v.length:Nat):Int)+1)))),(85,(aI x))],[(0,aO 1 (cU .u16) 0 cap02)],289⟩ (C_38 1042842) [] [] (kp [0,1,5,7,10,11,12,84,85]) (kq [0]) 289 [0≤x∧x < ((v.length:Nat):Int)] ⟨c10,trivial⟩ ?_
        refine Runs.sA 1 [.code (C_38 521422),.code (C_38 521423),.inBlock 3,.code (C_38 16295),.inLoop (C_38 2036),.inBlock 2,.code (C_38 255)] ?_
        exact Runs.sW hE _ [] (kp [0,1,5,7,10,11,12,84,85]) (kq [0]) 1 [] trivial (g_e_digit_J3_ok N uo un v q cap02 borrow x (g_e_digit_L2 N uo un v q fuel) ih (IntKind.u64.wrap (carry+(IntKind.u64.wrap (q * (IntKind.u64.wrap ((v.getD ((x).toNat) 0))))))) _ h E hE)
      · have h:=condF h hq4
        refine Runs.sA 2 [.code (C_38 521422),.code (C_38 521423),.inBlock 3,.code (C_38 16295),.inLoop (C_38 2036),.inBlock 2,.code (C_38 255)] ?_
        exact Runs.sW hE _ [] (kp [0,1,5,7,10,11,12,84,85]) (kq [0]) 1 [] trivial (g_e_digit_J3_ok N uo un v q cap02 borrow x (g_e_digit_L2 N uo un v q fuel) ih carry _ h E hE)
    · have h:=condF h hq3
      refine Runs.sA 3 [.code (C_38 1020),.code (C_38 1021),.code (C_38 511)] ?_
      refine Runs.sR hE ⟨[(0,(.os 0 uo un)),(1,(encL (cU .u16) 0 v)),(5,(aI ((v.length:Nat):Int))),(7,(.atom (.int .u64 q))),(123,(aB (decide (borrow < 0))))],[(0,aO 1 (cU .u16) 0 cap02)],49⟩ (C_38 1020) [] [] (kp [0,1,5,7,123]) (kq [0]) 49 [] trivial ?_
      refine Runs.sC 123 (C_38 2042) (C_38 2043) (decide (borrow < 0)) (fun hq5=>?_) (fun hq5=>?_)
      · have h:=condT h hq5
        refine Runs.sA 1 [.code (C_38 4084),.code (C_38 4085),.code (C_38 511)] ?_
        refine Runs.sR hE ⟨[(0,(.os 0 uo un)),(1,(encL (cU .u16) 0 v)),(5,(aI ((v.length:Nat):Int))),(7,(.atom (.int .u64 (IntKind.u64.wrap (q - 1)))))],[(0,aO 1 (cU .u16) 0 cap02)],97⟩ (C_38 4084) [] [] (kp [0,1,5,7]) (kq [0]) 97 [] trivial ?_
        refine Runs.sA 1 [.code (C_38 8170),.code (C_38 8171),.code (C_38 511)] ?_
        refine Runs.sR hE ⟨[(0,(.os 0 uo un)),(1,(encL (cU .u16) 0 v)),(5,(aI ((v.length:Nat):Int))),(7,(.atom (.int .u64 (IntKind.u64.wrap (q - 1))))),(14,(.atom (.int .u32 0)))],[(0,aO 1 (cU .u16) 0 cap02)],113⟩ (C_38 8170) [] [] (kp [0,1,5,7,14]) (kq [0]) 113 [] trivial ?_
        refine Runs.sA 2 [.code (C_38 32684),.code (C_38 32685),.code (C_38 16343),.code (C_38 511)] ?_
        refine Runs.sR hE ⟨[(0,(.os 0 uo un)),(1,(encL (cU .u16) 0 v)),(5,(aI ((v.length:Nat):Int))),(7,(.atom (.int .u64 (IntKind.u64.wrap (q - 1))))),(14,(.atom (.int .u32 0))),(126,(aI ((v.length:Nat):Int))),(127,(aI 0))],[(0,aO 1 (cU .u16) 0 cap02)],145⟩ (C_38 32684) [] [] (kp [0,1,5,7,14,126,127]) (kq [0]) 145 [] trivial ?_
        refine Runs.sA 2 [.code (C_38 130740),.inLoop (C_38 130740),.inBlock 4,.code (C_38 16343),.code (C_38 511)] ?_
        exact Runs.sW hE _ [] (kp [0,1,5,7,14,126,127]) (kq [0]) 1 [] trivial (g_e_digit_L4_ok N uo un v q N cap02 0 0 _ h E hE)
      · have h:=condF h hq5
        refine Runs.sA 2 [.code (C_38 1022),.code (C_38 1023)] ?_
        exact Runs.sW hE _ [] (kp [7]) (kq [0]) 1 [] trivial (g_e_digit_J5_ok N cap02 q _ h E hE)
theorem g_e_digit_L1_ok (N:Nat) (uo:Nat) (un:Nat) (v:List Int) (cap0:List Int) (fuel:Nat):∀ (q:Int) (rest:Int) (r:Int × (List Int)),g_e_digit_L1 N uo un v cap0 fuel q rest = some r→∀ E,EnvOk E 1→Runs Try.prog E 138 161 (SPost E [(0,aO 1 (cU .u16) 0 r.2)] (.atom (.int .u16 r.1))) [.code (C_38 248),.inLoop (C_38 248),.inBlock 0,.code (C_38 63)] ⟨[(0,(.os 0 uo un)),(1,(encL (cU .u16) 0 v)),(5,(aI ((v.length:Nat):Int))),(7,(.atom (.int .u64 q))),(8,(.atom (.int .u64 rest)))],[(0,aO 1 (cU .u16) 0 cap0)],1⟩:=by
  induction fuel with
  | zero=>intro _ _ r h; rw [g_e_digit_L1.eq_1] at h; cases h
  | succ fuel ih =>
    intro q rest r h E hE
    rw [g_e_digit_L1.eq_2] at h
    refine Runs.sA 2 [.code (C_38 992),.code (C_38 993),.code (C_38 497),.inLoop (C_38 248),.inBlock 0,.code (C_38 63)] ?_
    obtain ⟨c6,h⟩:=ifSome h
    obtain ⟨c7,h⟩:=ifSome h
    obtain ⟨c8,h⟩:=ifSome h
    refine Runs.sR hE ⟨[(0,(.os 0 uo un)),(1,(encL (cU .u16) 0 v)),(5,(aI ((v.length:Nat):Int))),(7,(.atom (.int .u64 q))),(8,(.atom (.int .u64 rest))),(72,(aB (cond (decide (rest < 65536)) (cond (decide (q > 65535)) true (decide ((IntKind.u64.wrap (q * (IntKind.u64.wrap ((v.getD ((w64 (((v.length:Nat):Int) - 2)).toNat) 0))))) > (orI .u64 (shlI .u64 rest 16) (IntKind.u64.wrap ((cap0.getD (addz uo (w64 (((v.length:Nat):Int) - 2)).toNat) 0))))))) false)))],[(0,aO 1 (cU .u16) 0 cap0)],417⟩ (C_38 992) [] [] (kp [0,1,5,7,8,72]) (kq [0]) 417 [(decide (rest < 65536)) = true→AllP [(decide (rest < 65536)) = true],((decide (rest < 65536)) && ((decide (rest < 65536)) && (!(decide (q > 65535))))) = true→AllP [((decide (rest < 65536)) && ((decide (rest < 65536)) && (!(decide (q > 65535))))) = true],((decide (rest < 65536)) && ((decide (rest < 65536)) && (!(decide (q > 65535))))) = true→AllP [((decide (rest < 65536)) && ((decide (rest < 65536)) && (!(decide (q > 65535))))) = true,((decide (rest < 65536)) && ((decide (rest < 65536)) && (!(decide (q > 65535))))) = true,0≤(w64 (((v.length:Nat):Int) - 2))∧(w64 (((v.length:Nat):Int) - 2)) < ((v.length:Nat):Int)],((decide (rest < 65536)) && ((decide (rest < 65536)) && (!(decide (q > 65535))))) = true→AllP [((decide (rest < 65536)) && ((decide (rest < 65536)) && (!(decide (q > 65535))))) = true],((decide (rest < 65536)) && ((decide (rest < 65536)) && (!(decide (q > 65535))))) = true→AllP [((decide (rest < 65536)) && ((decide (rest < 65536)) && (!(decide (q > 65535))))) = true],((decide (rest < 65536)) && ((decide (rest < 65536)) && (!(decide (q > 65535))))) = true→AllP [((decide (rest < 65536)) && ((decide (rest < 65536)) && (!(decide (q > 65535))))) = true,((decide (rest < 65536)) && ((decide (rest < 65536)) && (!(decide (q > 65535))))) = true],((decide (rest < 65536)) && ((decide (rest < 65536)) && (!(decide (q > 65535))))) = true→AllP [((decide (rest < 65536)) && ((decide (rest < 65536)) && (!(decide (q > 65535))))) = true,(0:Int)≤16],((decide (rest < 65536)) && ((decide (rest < 65536)) && (!(decide (q > 65535))))) = true→AllP [((decide (rest < 65536)) && ((decide (rest < 65536)) && (!(decide (q > 65535))))) = true],((decide (rest < 65536)) && ((decide (rest < 65536)) && (!(decide (q > 65535))))) = true→AllP [((decide (rest < 65536)) && ((decide (rest < 65536)) && (!(decide (q > 65535))))) = true,((decide (rest < 65536)) && ((decide (rest < 65536)) && (!(decide (q > 65535))))) = true,0≤(w64 (((v.length:Nat):Int) - 2))∧(w64 (((v.length:Nat):Int) - 2)) < ((un:Nat):Int)],((decide (rest < 65536)) && ((decide (rest < 65536)) && (!(decide (q > 65535))))) = true→AllP [((decide (rest < 65536)) && ((decide (rest < 65536)) && (!(decide (q > 65535))))) = true,(addz uo (w64 (((v.length:Nat):Int) - 2)).toNat) < cap0.length],((decide (rest < 65536)) && ((decide (rest < 65536)) && (!(decide (q > 65535))))) = true→AllP [((decide (rest < 65536)) && ((decide (rest < 65536)) && (!(decide (q > 65535))))) = true],((decide (rest < 65536)) && ((decide (rest < 65536)) && (!(decide (q > 65535))))) = true→AllP [((decide (rest < 65536)) && ((decide (rest < 65536)) && (!(decide (q > 65535))))) = true,((decide (rest < 65536)) && ((decide (rest < 65536)) && (!(decide (q > 65535))))) = true],((decide (rest < 65536)) && ((decide (rest < 65536)) && (!(decide (q > 65535))))) = true→AllP [((decide (rest < 65536)) && ((decide (rest < 65536)) && (!(decide (q > 65535))))) = true,((decide (rest < 65536)) && ((decide (rest < 65536)) && (!(decide (q > 65535))))) = true],(decide (rest < 65536)) = true→AllP [(decide (rest < 65536)) = true,(decide (rest < 65536)) = true,(!(decide (q > 65535))) = true→AllP [((decide (rest < 65536)) && ((decide (rest < 65536)) && (!(decide (q > 65535))))) = true]],(decide (rest < 65536)) = true→AllP [(decide (rest < 65536)) = true]] ⟨(fun hg=>⟨hg,trivial⟩),(fun hg=>⟨hg,trivial⟩),(fun hg=>⟨hg,hg,(c6 hg),trivial⟩),(fun hg=>⟨hg,trivial⟩),(fun hg=>⟨hg,trivial⟩),(fun hg=>⟨hg,hg,trivial⟩),(fun hg=>⟨hg,(by decide),trivial⟩),(fun hg=>⟨hg,trivial⟩),(fun hg=>⟨hg,hg,(c7 hg),trivial⟩),(fun hg=>⟨hg,(by have h1:=(c7 hg); have h2:=(c8 hg); simp only [addz_eq]; omega),trivial⟩),(fun hg=>⟨hg,trivial⟩),(fun hg=>⟨hg,hg,trivial⟩),(fun hg=>⟨hg,hg,trivial⟩),(fun hg=>⟨hg,hg,(fun hq=>⟨(andI' hg (andI' hg hq)),trivial⟩),trivial⟩),(fun hq=>⟨hq,trivial⟩),trivial⟩ ?_
    refine Runs.sC 72 (C_38 1986) (C_38 1987) (cond (decide (rest < 65536)) (cond (decide (q > 65535)) true (decide ((IntKind.u64.wrap (q * (IntKind.u64.wrap ((v.getD ((w64 (((v.length:Nat):Int) - 2)).toNat) 0))))) > (orI .u64 (shlI .u64 rest 16) (IntKind.u64.wrap ((cap0.getD (addz uo (w64 (((v.length:Nat):Int) - 2)).toNat) 0))))))) false) (fun hq2=>?_) (fun hq2=>?_)
    · have h:=condT h hq2
      refine Runs.sA 3 [.code (C_38 1988),.code (C_38 1989),.inBlock 1,.inLoop (C_38 248),.inBlock 0,.code (C_38 63)] ?_
      refine Runs.sR hE ⟨[(0,(.os 0 uo un)),(1,(encL (cU .u16) 0 v)),(5,(aI ((v.length:Nat):Int))),(7,(.atom (.int .u64 (IntKind.u64.wrap (q - 1))))),(8,(.atom (.int .u64 rest)))],[(0,aO 1 (cU .u16) 0 cap0)],465⟩ (C_38 1988) [] [] (kp [0,1,5,7,8]) (kq [0]) 465 [] trivial ?_
      obtain ⟨c9,h⟩:=ifSome h
      refine Runs.sR hE ⟨[(0,(.os 0 uo un)),(1,(encL (cU .u16) 0 v)),(5,(aI ((v.length:Nat):Int))),(7,(.atom (.int .u64 (IntKind.u64.wrap (q - 1))))),(8,(.atom (.int .u64 (IntKind.u64.wrap (rest+(IntKind.u64.wrap ((v.getD ((w64 (((v.length:Nat):Int) - 1)).toNat) 0))))))))],[(0,aO 1 (cU .u16) 0 cap0)],609⟩ (C_38 1989) [] [] (kp [0,1,5,7,8]) (kq [0]) 609 [0≤(w64 (((v.length:Nat):Int) - 1))∧(w64 (((v.length:Nat):Int) - 1)) < ((v.length:Nat):Int)] ⟨c9,trivial⟩ ?_
      refine Runs.sA 2 [.code (C_38 248),.inLoop (C_38 248),.inBlock 0,.code (C_38 63)] ?_
      exact Runs.sW hE _ [] (kp [0,1,5,7,8]) (kq [0]) 1 [] trivial (ih (IntKind.u64.wrap (q - 1)) (IntKind.u64.wrap (rest+(IntKind.u64.wrap ((v.getD ((w64 (((v.length:Nat):Int) - 1)).toNat) 0))))) _ h E hE)
    · have h:=condF h hq2
      refine Runs.sA 2 [.code (C_38 126),.code (C_38 127)] ?_
      refine Runs.sR hE ⟨[(0,(.os 0 uo un)),(1,(encL (cU .u16) 0 v)),(5,(aI ((v.length:Nat):Int))),(7,(.atom (.int .u64 q))),(9,(.atom (.int .u64 0))),(10,(aI 0))],[(0,aO 1 (cU .u16) 0 cap0)],449⟩ (C_38 126) [] [] (kp [0,1,5,7,9,10]) (kq [0]) 449 [] trivial ?_
      refine Runs.sA 2 [.code (C_38 508),.code (C_38 509),.code (C_38 255)] ?_
      refine Runs.sR hE ⟨[(0,(.os 0 uo un)),(1,(encL (cU .u16) 0 v)),(5,(aI ((v.length:Nat):Int))),(7,(.atom (.int .u64 q))),(9,(.atom (.int .u64 0))),(10,(aI 0)),(84,(aI (w64 (((v.length:Nat):Int)+1)))),(85,(aI 0))],[(0,aO 1 (cU .u16) 0 cap0)],497⟩ (C_38 508) [] [] (kp [0,1,5,7,9,10,84,85]) (kq [0]) 497 [] trivial ?_
      refine Runs.sA 2 [.code (C_38 2036),.inLoop (C_38 2036),.inBlock 2,.code (C_38 255)] ?_
      exact Runs.sW hE _ [] (kp [0,1,5,7,9,10,84,85]) (kq [0]) 1 [] trivial (g_e_digit_L2_ok N uo un v q N cap0 0 0 0 _ h E hE)
theorem g_e_digit_ok (N:Nat) (uo:Nat) (un:Nat) (v:List Int) (cap0:List Int) (r:Int × (List Int)) (h:g_e_digit N uo un v cap0 = some r):Sound Try.prog 138 [(.os 0 uo un),(encL (cU .u16) 0 v)] [(0,aO 1 (cU .u16) 0 cap0)] 1 (.atom (.int .u16 r.1)) [(0,aO 1 (cU .u16) 0 r.2)]:=by
  unfold g_e_digit at h
  refine Sound.of_runs (fu:=Try.f138) (c:=C_38 1) (nt:=161) (by kernel_rfl) (by kernel_rfl) (by kernel_rfl) (by kernel_rfl) (fun hm=>absurd hm (by decide)) ?_
  intro E hE
  refine Runs.sA 1 [.code (C_38 2),.code (C_38 3)] ?_
  refine Runs.sR hE ⟨[(0,(.os 0 uo un)),(1,(encL (cU .u16) 0 v))],[(0,aO 1 (cU .u16) 0 cap0)],17⟩ (C_38 2) [] [] (kp [0,1]) (kq [0]) 17 [] trivial ?_
  refine Runs.sA 1 [.code (C_38 6),.code (C_38 7)] ?_
  refine Runs.sR hE ⟨[(0,(.os 0 uo un)),(1,(encL (cU .u16) 0 v)),(5,(aI ((v.length:Nat):Int)))],[(0,aO 1 (cU .u16) 0 cap0)],65⟩ (C_38 6) [] [] (kp [0,1,5]) (kq [0]) 65 [] trivial ?_
  refine Runs.sA 1 [.code (C_38 14),.code (C_38 15)] ?_
  obtain ⟨c,h⟩:=ifSome h
  obtain ⟨c2,h⟩:=ifSome h
  obtain ⟨c3,h⟩:=ifSome h
  refine Runs.sR hE ⟨[(0,(.os 0 uo un)),(1,(encL (cU .u16) 0 v)),(5,(aI ((v.length:Nat):Int))),(6,(.atom (.int .u64 (orI .u64 (shlI .u64 (IntKind.u64.wrap ((cap0.getD (addz uo v.length) 0))) 16) (IntKind.u64.wrap ((cap0.getD (addz uo (w64 (((v.length:Nat):Int) - 1)).toNat) 0)))))))],[(0,aO 1 (cU .u16) 0 cap0)],289⟩ (C_38 14) [] [] (kp [0,1,5,6]) (kq [0]) 289 [0≤((v.length:Nat):Int)∧((v.length:Nat):Int) < ((un:Nat):Int),(addz uo v.length) < cap0.length,(0:Int)≤16,0≤(w64 (((v.length:Nat):Int) - 1))∧(w64 (((v.length:Nat):Int) - 1)) < ((un:Nat):Int),(addz uo (w64 (((v.length:Nat):Int) - 1)).toNat) < cap0.length] ⟨c,(by have h1:=c; have h2:=c2; simp only [addz_eq]; omega),(by decide),c3,(by have h1:=c3; have h2:=c2; simp only [addz_eq]; omega),trivial⟩ ?_
  refine Runs.sA 1 [.code (C_38 30),.code (C_38 31)] ?_
  obtain ⟨c4,h⟩:=ifSome h
  obtain ⟨c5,h⟩:=ifSome h
  refine Runs.sR hE ⟨[(0,(.os 0 uo un)),(1,(encL (cU .u16) 0 v)),(5,(aI ((v.length:Nat):Int))),(7,(.atom (.int .u64 (IntKind.u64.wrap ((orI .u64 (shlI .u64 (IntKind.u64.wrap ((cap0.getD (addz uo v.length) 0))) 16) (IntKind.u64.wrap ((cap0.getD (addz uo (w64 (((v.length:Nat):Int) - 1)).toNat) 0)))).tdiv (IntKind.u64.wrap ((v.getD ((w64 (((v.length:Nat):Int) - 1)).toNat) 0)))))))),(8,(.atom (.int .u64 ((orI .u64 (shlI .u64 (IntKind.u64.wrap ((cap0.getD (addz uo v.length) 0))) 16) (IntKind.u64.wrap ((cap0.getD (addz uo (w64 (((v.length:Nat):Int) - 1)).toNat) 0)))).tmod (IntKind.u64.wrap ((v.getD ((w64 (((v.length:Nat):Int) - 1)).toNat) 0)))))))],[(0,aO 1 (cU .u16) 0 cap0)],577⟩ (C_38 30) [] [] (kp [0,1,5,7,8]) (kq [0]) 577 [0≤(w64 (((v.length:Nat):Int) - 1))∧(w64 (((v.length:Nat):Int) - 1)) < ((v.length:Nat):Int),((IntKind.u64.wrap ((v.getD ((w64 (((v.length:Nat):Int) - 1)).toNat) 0))):Int) ≠ 0,0≤(w64 (((v.length:Nat):Int) - 1))∧(w64 (((v.length:Nat):Int) - 1)) < ((v.length:Nat):Int),((IntKind.u64.wrap ((v.getD ((w64 (((v.length:Nat):Int) - 1)).toNat) 0))):Int) ≠ 0] ⟨c4,c5,c4,c5,trivial⟩ ?_
  refine Runs.sA 3 [.code (C_38 248),.inLoop (C_38 248),.inBlock 0,.code (C_38 63)] ?_
  exact Runs.sW hE _ [] (kp [0,1,5,7,8]) (kq [0]) 1 [] trivial (g_e_digit_L1_ok N uo un v cap0 N (IntKind.u64.wrap ((orI .u64 (shlI .u64 (IntKind.u64.wrap ((cap0.getD (addz uo v.length) 0))) 16) (IntKind.u64.wrap ((cap0.getD (addz uo (w64 (((v.length:Nat):Int) - 1)).toNat) 0)))).tdiv (IntKind.u64.wrap ((v.getD ((w64 (((v.length:Nat):Int) - 1)).toNat) 0))))) ((orI .u64 (shlI .u64 (IntKind.u64.wrap ((cap0.getD (addz uo v.length) 0))) 16) (IntKind.u64.wrap ((cap0.getD (addz uo (w64 (((v.length:Nat):Int) - 1)).toNat) 0)))).tmod (IntKind.u64.wrap ((v.getD ((w64 (((v.length:Nat):Int) - 1)).toNat) 0)))) _ h E hE)
noncomputable def C_32 (n:Nat):Code:=cat (bodyOf Try.f114) (pth n)
theorem g_e_divide_L2_ok (N:Nat) (b:List Int) (rLeadingZeros:Int) (q:List Int) (u:List Int) (fuel:Nat):∀ (vr:List Int) (x:Int) (r:(List Int) × (List Int)),g_e_divide_L2 N b rLeadingZeros q u fuel vr x = some r→∀ E,EnvOk E 0→Runs Try.prog E 114 109 (SPost E [] (.tup [(encL (cU .u16) 0 r.1),(encL (cU .u16) 0 r.2)])) [.code (C_32 16372),.inLoop (C_32 16372),.inBlock 2,.code (C_32 2047)] ⟨[(4,(.os 0 0 q.length)),(5,(.os 1 0 vr.length)),(8,(aI rLeadingZeros)),(9,(.os 2 0 u.length)),(81,(aI (((b.length - 0):Nat):Int))),(82,(aI x))],[(0,aO 1 (cU .u16) 0 q),(1,aO 1 (cU .u16) 0 vr),(2,aO 1 (cU .u16) 0 u)],3⟩:=by
  induction fuel with
  | zero=>intro _ _ r h; rw [g_e_divide_L2.eq_1] at h; cases h
  | succ fuel ih =>
    intro vr x r h E hE
    rw [g_e_divide_L2.eq_2] at h
    refine Runs.sA 1 [.code (C_32 32744),.code (C_32 32745),.inLoop (C_32 16372),.inBlock 2,.code (C_32 2047)] ?_
    refine Runs.sR hE ⟨[(4,(.os 0 0 q.length)),(5,(.os 1 0 vr.length)),(8,(aI rLeadingZeros)),(9,(.os 2 0 u.length)),(81,(aI (((b.length - 0):Nat):Int))),(82,(aI x)),(83,(aB (decide (x < (((b.length - 0):Nat):Int)))))],[(0,aO 1 (cU .u16) 0 q),(1,aO 1 (cU .u16) 0 vr),(2,aO 1 (cU .u16) 0 u)],19⟩ (C_32 32744) [] [] (kp [4,5,8,9,81,82,83]) (kq [0,1,2]) 19 [] trivial ?_
    refine Runs.sA 1 [.code (C_32 65490),.code (C_32 65491),.inLoop (C_32 16372),.inBlock 2,.code (C_32 2047)] ?_
    refine Runs.sC 83 (C_32 130980) (C_32 130981) (decide (x < (((b.length - 0):Nat):Int))) (fun hq5=>?_) (fun hq5=>?_)
    · have h:=condT h hq5
      refine Runs.sA 4 [.code (C_32 523928),.code (C_32 523929),.inBlock 3,.code (C_32 130983),.inLoop (C_32 16372),.inBlock 2,.code (C_32 2047)] ?_
      refine Runs.sR hE ⟨[(4,(.os 0 0 q.length)),(5,(.os 1 0 vr.length)),(8,(aI rLeadingZeros)),(9,(.os 2 0 u.length)),(13,(aI x)),(81,(aI (((b.length - 0):Nat):Int))),(82,(aI x))],[(0,aO 1 (cU .u16) 0 q),(1,aO 1 (cU .u16) 0 vr),(2,aO 1 (cU .u16) 0 u)],51⟩ (C_32 523928) [] [] (kp [4,5,8,9,13,81,82]) (kq [0,1,2]) 51 [] trivial ?_
      obtain ⟨c12,h⟩:=ifSome h
      obtain ⟨c13,h⟩:=ifSome h
      obtain ⟨c14,h⟩:=ifSome h
      obtain ⟨c15,h⟩:=ifSome h
      refine Runs.sR hE ⟨[(4,(.os 0 0 q.length)),(5,(.os 1 0 ((vr.set ((x).toNat) (IntKind.u16.wrap ((shrI .u32 (orI .u32 (IntKind.u32.wrap ((u.getD ((x).toNat) 0))) (shlI .u32 (IntKind.u32.wrap ((u.getD ((w64 (x+1)).toNat) 0))) 16)) rLeadingZeros)))).length))),(8,(aI rLeadingZeros)),(9,(.os 2 0 u.length)),(81,(aI (((b.length - 0):Nat):Int))),(82,(aI x))],[(0,aO 1 (cU .u16) 0 q),(1,aO 1 (cU .u16) 0 (vr.set ((x).toNat) (IntKind.u16.wrap ((shrI .u32 (orI .u32 (IntKind.u32.wrap ((u.getD ((x).toNat) 0))) (shlI .u32 (IntKind.u32.wrap ((u.getD ((w64 (x+1)).toNat) 0))) 16)) rLeadingZeros))))),(2,aO 1 (cU .u16) 0 u)],371⟩ (C_32 523929) [] [] (kp [4] ++ [(5,.osl ((vr.set ((x).toNat) (IntKind.u16.wrap ((shrI .u32 (orI .u32 (IntKind.u32.wrap ((u.getD ((x).toNat) 0))) (shlI .u32 (IntKind.u32.wrap ((u.getD ((w64 (x+1)).toNat) 0))) 16)) rLeadingZeros)))).length))] ++ kp [8,9,81,82]) (kq [0] ++ [(1,.arr 1 ((vr.set ((x).toNat) (IntKind.u16.wrap ((shrI .u32 (orI .u32 (IntKind.u32.wrap ((u.getD ((x).toNat) 0))) (shlI .u32 (IntKind.u32.wrap ((u.getD ((w64 (x+1)).toNat) 0))) 16)) rLeadingZeros)))).length) (fun zi=>(cU .u16) ((vr.set ((x).toNat) (IntKind.u16.wrap ((shrI .u32 (orI .u32 (IntKind.u32.wrap ((u.getD ((x).toNat) 0))) (shlI .u32 (IntKind.u32.wrap ((u.getD ((w64 (x+1)).toNat) 0))) 16)) rLeadingZeros)))).getD zi 0)))] ++ kq [2]) 371 [0≤x∧x < ((u.length:Nat):Int),(x).toNat < u.length,0≤(w64 (x+1))∧(w64 (x+1)) < ((u.length:Nat):Int),(w64 (x+1)).toNat < u.length,(0:Int)≤16,(0:Int)≤rLeadingZeros,0≤x∧x < ((vr.length:Nat):Int),(x).toNat < vr.length,vr.length = (vr.set ((x).toNat) (IntKind.u16.wrap ((shrI .u32 (orI .u32 (IntKind.u32.wrap ((u.getD ((x).toNat) 0))) (shlI .u32 (IntKind.u32.wrap ((u.getD ((w64 (x+1)).toNat) 0))) 16)) rLeadingZeros)))).length,vr.length = (vr.set ((x).toNat) (IntKind.u16.wrap ((shrI .u32 (orI .u32 (IntKind.u32.wrap ((u.getD ((x).toNat) 0))) (shlI .u32 (IntKind.u32.wrap ((u.getD ((w64 (x+1)).toNat) 0))) 16)) rLeadingZeros)))).length,∀ zi,zi < (vr.set ((x).toNat) (IntKind.u16.wrap ((shrI .u32 (orI .u32 (IntKind.u32.wrap ((u.getD ((x).toNat) 0))) (shlI .u32 (IntKind.u32.wrap ((u.getD ((w64 (x+1)).toNat) 0))) 16)) rLeadingZeros)))).length→(fun zi=>(cU .u16) ((vr.set ((x).toNat) (IntKind.u16.wrap ((shrI .u32 (orI .u32 (IntKind.u32.wrap ((u.getD ((x).toNat) 0))) (shlI .u32 (IntKind.u32.wrap ((u.getD ((w64 (x+1)).toNat) 0))) 16)) rLeadingZeros)))).getD zi 0)) zi = ((fun zm=>if zm = (x).toNat then [(.atom (.int .u16 (IntKind.u16.wrap ((shrI .u32 (orI .u32 (IntKind.u32.wrap ((u.getD ((x).toNat) 0))) (shlI .u32 (IntKind.u32.wrap ((u.getD ((w64 (x+1)).toNat) 0))) 16)) rLeadingZeros)))))] else (fun zi=>(cU .u16) (vr.getD zi 0)) zm)) zi] ⟨c12,(ltOf c12),c13,(ltOf c13),(by decide),c14,c15,(ltOf c15),(len_set_raw rfl),(len_set_raw rfl),(get_set_raw (cU .u16) 0 vr ((x).toNat) (IntKind.u16.wrap ((shrI .u32 (orI .u32 (IntKind.u32.wrap ((u.getD ((x).toNat) 0))) (shlI .u32 (IntKind.u32.wrap ((u.getD ((w64 (x+1)).toNat) 0))) 16)) rLeadingZeros))) (fun _ _=>rfl)),trivial⟩ ?_
      refine Runs.sA 1 [.code (C_32 130983),.inLoop (C_32 16372),.inBlock 2,.code (C_32 2047)] ?_
      refine Runs.sR hE ⟨[(4,(.os 0 0 q.length)),(5,(.os 1 0 ((vr.set ((x).toNat) (IntKind.u16.wrap ((shrI .u32 (orI .u32 (IntKind.u32.wrap ((u.getD ((x).toNat) 0))) (shlI .u32 (IntKind.u32.wrap ((u.getD ((w64 (x+1)).toNat) 0))) 16)) rLeadingZeros)))).length))),(8,(aI rLeadingZeros)),(9,(.os 2 0 u.length)),(81,(aI (((b.length - 0):Nat):Int))),(82,(aI (w64 (x+1))))],[(0,aO 1 (cU .u16) 0 q),(1,aO 1 (cU .u16) 0 (vr.set ((x).toNat) (IntKind.u16.wrap ((shrI .u32 (orI .u32 (IntKind.u32.wrap ((u.getD ((x).toNat) 0))) (shlI .u32 (IntKind.u32.wrap ((u.getD ((w64 (x+1)).toNat) 0))) 16)) rLeadingZeros))))),(2,aO 1 (cU .u16) 0 u)],403⟩ (C_32 130983) [] [] (kp [4,5,8,9,81,82]) (kq [0,1,2]) 403 [] trivial ?_
      refine Runs.sA 1 [.code (C_32 16372),.inLoop (C_32 16372),.inBlock 2,.code (C_32 2047)] ?_
      exact Runs.sW hE _ [] (kp [4,5,8,9,81,82]) (kq [0,1,2]) 3 [] trivial (ih (vr.set ((x).toNat) (IntKind.u16.wrap ((shrI .u32 (orI .u32 (IntKind.u32.wrap ((u.getD ((x).toNat) 0))) (shlI .u32 (IntKind.u32.wrap ((u.getD ((w64 (x+1)).toNat) 0))) 16)) rLeadingZeros)))) (w64 (x+1)) _ h E hE)
    · have h:=condF h hq5
      refine Runs.sA 2 [.code (C_32 4094),.code (C_32 4095)] ?_
      obtain ⟨rtrim2,hr9,h⟩:=bindSome h
      obtain ⟨rtrim3,hr10,h⟩:=bindSome h
      refine Runs.sR hE ⟨[(4,(encL (cU .u16) 0 rtrim2)),(5,(encL (cU .u16) 0 rtrim3))],[],115⟩ (C_32 4094) [(1,⟨[],true,(encL (cU .u16) 0 rtrim2),[],0,true,none⟩),(3,⟨[],true,(encL (cU .u16) 0 rtrim3),[],0,true,none⟩)] [] (kp [4,5]) [] 115 [Sound Try.prog 112 [(encL (cU .u16) 0 q)] [] 0 (encL (cU .u16) 0 rtrim2) [],0+q.length≤q.length,Sound Try.prog 112 [(encL (cU .u16) 0 vr)] [] 0 (encL (cU .u16) 0 rtrim3) [],0+vr.length≤vr.length] ⟨(g_e_trim_ok N q rtrim2 hr9),z0,(g_e_trim_ok N vr rtrim3 hr10),z0,trivial⟩ ?_
      obtain rfl:=Option.some.inj h
      refine Runs.sW hE ⟨[(4,(encL (cU .u16) 0 rtrim2)),(5,(encL (cU .u16) 0 rtrim3))],[],115⟩ [] (kp [4,5]) [] 115 [] trivial ?_
      exact Runs.sT Try.f114 [] [] trivial
theorem g_e_divide_L1_ok (N:Nat) (b:List Int) (rLeadingZeros:Int) (rshifted2:(List Int)) (fuel:Nat):∀ (q:List Int) (u:List Int) (j:Int) (r:(List Int) × (List Int)),g_e_divide_L1 N b rLeadingZeros rshifted2 fuel q u j = some r→∀ E,EnvOk E 0→Runs Try.prog E 114 109 (SPost E [] (.tup [(encL (cU .u16) 0 r.1),(encL (cU .u16) 0 r.2)])) [.code (C_32 4084),.inLoop (C_32 4084),.inBlock 0,.code (C_32 511)] ⟨[(4,(.os 0 0 q.length)),(8,(aI rLeadingZeros)),(9,(.os 1 0 u.length)),(10,(.os 2 0 (b.length - 0))),(11,(aI (((b.length - 0):Nat):Int))),(12,(aI j))],[(0,aO 1 (cU .u16) 0 q),(1,aO 1 (cU .u16) 0 u),(2,aO 1 (cU .u16) 0 rshifted2)],3⟩:=by
  induction fuel with
  | zero=>intro _ _ _ r h; rw [g_e_divide_L1.eq_1] at h; cases h
  | succ fuel ih =>
    intro q u j r h E hE
    rw [g_e_divide_L1.eq_2] at h
    refine Runs.sA 2 [.code (C_32 16336),.code (C_32 16337),.code (C_32 8169),.inLoop (C_32 4084),.inBlock 0,.code (C_32 511)] ?_
    refine Runs.sR hE ⟨[(4,(.os 0 0 q.length)),(8,(aI rLeadingZeros)),(9,(.os 1 0 u.length)),(10,(.os 2 0 (b.length - 0))),(11,(aI (((b.length - 0):Nat):Int))),(12,(aI j)),(64,(aB (decide (j ≥ 0))))],[(0,aO 1 (cU .u16) 0 q),(1,aO 1 (cU .u16) 0 u),(2,aO 1 (cU .u16) 0 rshifted2)],35⟩ (C_32 16336) [] [] (kp [4,8,9,10,11,12,64]) (kq [0,1,2]) 35 [] trivial ?_
    refine Runs.sC 64 (C_32 32674) (C_32 32675) (decide (j ≥ 0)) (fun hq4=>?_) (fun hq4=>?_)
    · have h:=condT h hq4
      refine Runs.sA 3 [.code (C_32 32676),.inBlock 1,.code (C_32 16339),.inLoop (C_32 4084),.inBlock 0,.code (C_32 511)] ?_
      obtain ⟨c5,h⟩:=ifSome h
      obtain ⟨c6,h⟩:=ifSome h
      obtain ⟨c7,h⟩:=ifSome h
      obtain ⟨c8,h⟩:=ifSome h
      obtain ⟨rdigit,hr8,h⟩:=bindSome h
      obtain ⟨c9,h⟩:=ifSome h
      obtain ⟨c10,h⟩:=ifSome h
      refine Runs.sR hE ⟨[(4,(.os 0 0 ((q.set ((j).toNat) rdigit.1).length))),(8,(aI rLeadingZeros)),(9,(.os 1 0 rdigit.2.length)),(10,(.os 2 0 (b.length - 0))),(11,(aI (((b.length - 0):Nat):Int))),(12,(aI j))],[(0,aO 1 (cU .u16) 0 (q.set ((j).toNat) rdigit.1)),(1,aO 1 (cU .u16) 0 rdigit.2),(2,aO 1 (cU .u16) 0 rshifted2)],243⟩ (C_32 32676) [(10,⟨[1],false,(.atom (.int .u16 rdigit.1)),[(0,aO 1 (cU .u16) 0 rdigit.2)],0,false,none⟩)] [] ([(4,.osl ((q.set ((j).toNat) rdigit.1).length))] ++ kp [8] ++ [(9,.osl (rdigit.2.length))] ++ kp [10,11,12]) ([(0,.arr 0 ((q.set ((j).toNat) rdigit.1).length) (fun zi=>(cU .u16) ((q.set ((j).toNat) rdigit.1).getD zi 0)))] ++ kq [1,2]) 243 [(j).toNat≤(w64 ((w64 (j+(((b.length - 0):Nat):Int)))+1)).toNat∧(w64 ((w64 (j+(((b.length - 0):Nat):Int)))+1)).toNat≤u.length,0≤j,0≤(w64 ((w64 (j+(((b.length - 0):Nat):Int)))+1)),Sound Try.prog 138 [(.os 0 ((j).toNat) ((w64 ((w64 (j+(((b.length - 0):Nat):Int)))+1)).toNat - (j).toNat)),(.sl (b.length - 0) (fun zi=>(cU .u16) (rshifted2.getD (addz 0 zi) 0)))] [(0,aO 1 (cU .u16) 0 u)] 1 (.atom (.int .u16 rdigit.1)) [(0,aO 1 (cU .u16) 0 rdigit.2)],∀ zi,zi < rdigit.2.length→AV.flatL ((cU .u16) (rdigit.2.getD zi 0)) = true,0+(b.length - 0)≤rshifted2.length,0≤j∧j < ((q.length:Nat):Int),(j).toNat < q.length,q.length = (q.set ((j).toNat) rdigit.1).length,u.length = rdigit.2.length,q.length = (q.set ((j).toNat) rdigit.1).length,∀ zi,zi < (q.set ((j).toNat) rdigit.1).length→(fun zi=>(cU .u16) ((q.set ((j).toNat) rdigit.1).getD zi 0)) zi = ((fun zm=>if zm = (j).toNat then [(.atom (.int .u16 rdigit.1))] else (fun zi=>(cU .u16) (q.getD zi 0)) zm)) zi] ⟨c5,c6,c7,(Sound.conv (g_e_digit_ok N ((j).toNat) ((w64 ((w64 (j+(((b.length - 0):Nat):Int)))+1)).toNat - (j).toNat) ((rshifted2.take b.length).drop 0) u rdigit hr8) (.cons (Alike.refl _) (.cons (Alike.sl (len_ext' rshifted2 0 b.length c8) (fun zq hzq=>get_ext (cU .u16) 0 rshifted2 0 b.length zq hzq)) .nil))),(fun _ _=>rfl),(by have:=c8; omega),c10,(ltOf c10),(len_set_raw rfl),(Eq.symm c9),(len_set_raw rfl),(get_set_raw (cU .u16) 0 q ((j).toNat) rdigit.1 (fun _ _=>rfl)),trivial⟩ ?_
      refine Runs.sA 1 [.code (C_32 16339),.inLoop (C_32 4084),.inBlock 0,.code (C_32 511)] ?_
      refine Runs.sR hE ⟨[(4,(.os 0 0 ((q.set ((j).toNat) rdigit.1).length))),(8,(aI rLeadingZeros)),(9,(.os 1 0 rdigit.2.length)),(10,(.os 2 0 (b.length - 0))),(11,(aI (((b.length - 0):Nat):Int))),(12,(aI (w64 (j - 1))))],[(0,aO 1 (cU .u16) 0 (q.set ((j).toNat) rdigit.1)),(1,aO 1 (cU .u16) 0 rdigit.2),(2,aO 1 (cU .u16) 0 rshifted2)],291⟩ (C_32 16339) [] [] (kp [4,8,9,10,11,12]) (kq [0,1,2]) 291 [] trivial ?_
      refine Runs.sA 1 [.code (C_32 4084),.inLoop (C_32 4084),.inBlock 0,.code (C_32 511)] ?_
      exact Runs.sW hE _ [] (kp [4,8,9,10,11,12]) (kq [0,1,2]) 3 [] trivial (ih (q.set ((j).toNat) rdigit.1) rdigit.2 (w64 (j - 1)) _ h E hE)
    · have h:=condF h hq4
      refine Runs.sA 2 [.code (C_32 1022),.code (C_32 1023)] ?_
      obtain ⟨c11,h⟩:=ifSome h
      refine Runs.sR hE ⟨[(4,(.os 0 0 q.length)),(5,(.os 51 0 ((List.replicate (b.length - 0) 0:List Int).length))),(8,(aI rLeadingZeros)),(9,(.os 1 0 u.length)),(11,(aI (((b.length - 0):Nat):Int)))],[(0,aO 1 (cU .u16) 0 q),(1,aO 1 (cU .u16) 0 u),(51,aO 1 (cU .u16) 0 (List.replicate (b.length - 0) 0:List Int))],83⟩ (C_32 1022) [] [] (kp [4] ++ [(5,.osl ((List.replicate (b.length - 0) 0:List Int).length))] ++ kp [8,9,11]) (kq [0,1] ++ [(51,.arr 51 ((List.replicate (b.length - 0) 0:List Int).length) (fun zi=>(cU .u16) ((List.replicate (b.length - 0) 0:List Int).getD zi 0)))]) 83 [0≤(((b.length - 0):Nat):Int),(((b.length - 0):Nat):Int)≤(((b.length - 0):Nat):Int),(2:Int) * (((b.length - 0):Nat):Int)≤281474976710656,(((b.length - 0):Nat):Int)≤9223372036854775807,(b.length - 0) = (List.replicate (b.length - 0) 0:List Int).length,(b.length - 0) = (List.replicate (b.length - 0) 0:List Int).length,∀ zi,zi < (List.replicate (b.length - 0) 0:List Int).length→(fun zi=>(cU .u16) ((List.replicate (b.length - 0) 0:List Int).getD zi 0)) zi = (fun _=>[(.atom (.int .u16 0))]) zi] ⟨c11.1,(Int.le_refl _),c11.2.1,c11.2.2,(List.length_replicate).symm,(List.length_replicate).symm,(fun zq hzq=>get_rep (cU .u16) 0 0 (b.length - 0) zq hzq),trivial⟩ ?_
      refine Runs.sA 2 [.code (C_32 4092),.code (C_32 4093),.code (C_32 2047)] ?_
      refine Runs.sR hE ⟨[(4,(.os 0 0 q.length)),(5,(.os 51 0 ((List.replicate (b.length - 0) 0:List Int).length))),(8,(aI rLeadingZeros)),(9,(.os 1 0 u.length)),(81,(aI (((b.length - 0):Nat):Int))),(82,(aI 0))],[(0,aO 1 (cU .u16) 0 q),(1,aO 1 (cU .u16) 0 u),(51,aO 1 (cU .u16) 0 (List.replicate (b.length - 0) 0:List Int))],115⟩ (C_32 4092) [] [] (kp [4,5,8,9,81,82]) (kq [0,1,51]) 115 [] trivial ?_
      refine Runs.sA 2 [.code (C_32 16372),.inLoop (C_32 16372),.inBlock 2,.code (C_32 2047)] ?_
      exact Runs.sW hE _ [] (kp [4,5,8,9,81,82]) (kq [0] ++ [(1,.keep 51),(2,.keep 1)]) 3 [] trivial (g_e_divide_L2_ok N b rLeadingZeros q u N (List.replicate (b.length - 0) 0:List Int) 0 _ h E hE)
theorem g_e_divide_ok (N:Nat) (a:List Int) (b:List Int) (r:(List Int) × (List Int)) (h:g_e_divide N a b = some r):Sound Try.prog 114 [(encL (cU .u16) 0 a),(encL (cU .u16) 0 b)] [] 0 (.tup [(encL (cU .u16) 0 r.1),(encL (cU .u16) 0 r.2)]) []:=by
  unfold g_e_divide at h
  refine Sound.of_runs (fu:=Try.f114) (c:=C_32 1) (nt:=109) (by kernel_rfl) (by kernel_rfl) (by kernel_rfl) (by kernel_rfl) (fun hm=>rfl) ?_
  intro E hE
  refine Runs.sA 1 [.code (C_32 2),.code (C_32 3)] ?_
  refine Runs.sR hE ⟨[(0,(encL (cU .u16) 0 a)),(1,(encL (cU .u16) 0 b))],[],32⟩ (C_32 2) [] [] (kp [0,1]) [] 32 [] trivial ?_
  refine Runs.sA 2 [.code (C_32 12),.code (C_32 13),.code (C_32 7)] ?_
  obtain ⟨rcompare,hr,h⟩:=bindSome h
  refine Runs.sR hE ⟨[(0,(encL (cU .u16) 0 a)),(1,(encL (cU .u16) 0 b)),(17,(aB (decide (rcompare < 0))))],[],96⟩ (C_32 12) [(2,⟨[],true,(aI rcompare),[],0,false,none⟩)] [] (kp [0,1,17]) [] 96 [Sound Try.prog 116 [(encL (cU .u16) 0 a),(encL (cU .u16) 0 b)] [] 0 (aI rcompare) []] ⟨(g_e_compare_ok N a b rcompare hr),trivial⟩ ?_
  refine Runs.sC 17 (C_32 26) (C_32 27) (decide (rcompare < 0)) (fun hq2=>?_) (fun hq2=>?_)
  · have h:=condT h hq2
    refine Runs.sA 1 [.code (C_32 52),.code (C_32 53),.code (C_32 7)] ?_
    obtain ⟨rClone,hr2,h⟩:=bindSome h
    refine Runs.sR hE ⟨[(4,.nil),(5,(encL (cU .u16) 0 rClone))],[],160⟩ (C_32 52) [(1,⟨[],true,(encL (cU .u16) 0 rClone),[],0,false,none⟩)] [] (kp [4,5]) [] 160 [Sound Try.prog 133 [(encL (cU .u16) 0 a)] [] 0 (encL (cU .u16) 0 rClone) []] ⟨(g_slices_Clone_uint16_uint16_ok N a rClone hr2),trivial⟩ ?_
    obtain rfl:=Option.some.inj h
    refine Runs.sW hE ⟨[(4,(encL (cU .u16) 0 ([]:List Int))),(5,(encL (cU .u16) 0 rClone))],[],160⟩ [] ([(4,.sl (([]:List Int).length) (fun zi=>(cU .u16) (([]:List Int).getD zi 0)))] ++ kp [5]) [] 160 [([]:List Int).length = 0] ⟨rfl,trivial⟩ ?_
    exact Runs.sT Try.f114 [] [] trivial
  · have h:=condF h hq2
    refine Runs.sA 3 [.code (C_32 28),.code (C_32 29),.code (C_32 15)] ?_
    refine Runs.sR hE ⟨[(0,(encL (cU .u16) 0 a)),(1,(encL (cU .u16) 0 b)),(22,(aB (((b.length:Nat):Int) == 1)))],[],144⟩ (C_32 28) [] [] (kp [0,1,22]) [] 144 [] trivial ?_
    refine Runs.sC 22 (C_32 58) (C_32 59) (((b.length:Nat):Int) == 1) (fun hq3=>?_) (fun hq3=>?_)
    · have h:=condT h hq3
      refine Runs.sA 1 [.code (C_32 116),.code (C_32 117),.code (C_32 15)] ?_
      obtain ⟨c,h⟩:=ifSome h
      obtain ⟨rshort,hr3,h⟩:=bindSome h
      refine Runs.sR hE ⟨[(6,(encL (cU .u16) 0 rshort.1)),(7,(.atom (.int .u16 rshort.2)))],[],304⟩ (C_32 116) [(4,⟨[],true,(.tup [(encL (cU .u16) 0 rshort.1),(.atom (.int .u16 rshort.2))]),[],0,false,none⟩)] [] (kp [6,7]) [] 304 [0≤(0:Int)∧0 < ((b.length:Nat):Int),Sound Try.prog 135 [(encL (cU .u16) 0 a),(.atom (.int .u16 (b.getD 0 0)))] [] 0 (.tup [(encL (cU .u16) 0 rshort.1),(.atom (.int .u16 rshort.2))]) []] ⟨c,(g_e_short_ok N a (b.getD 0 0) rshort hr3),trivial⟩ ?_
      refine Runs.sA 1 [.code (C_32 234),.code (C_32 235),.code (C_32 15)] ?_
      obtain ⟨rtrim,hr4,h⟩:=bindSome h
      refine Runs.sR hE ⟨[(4,(encL (cU .u16) 0 rshort.1)),(5,(encL (cU .u16) 0 rtrim))],[],400⟩ (C_32 234) [(3,⟨[],true,(encL (cU .u16) 0 rtrim),[],0,true,none⟩)] [] (kp [4,5]) [] 400 [Sound Try.prog 112 [(.sl 1 (fun zi=>(fun zi=>([[(.atom (.int .u16 rshort.2))]]:List (List AV)).getD zi []) (addz 0 zi)))] [] 0 (encL (cU .u16) 0 rtrim) [],0+1≤1] ⟨(Sound.conv (g_e_trim_ok N ([rshort.2]:List Int) rtrim hr4) (.cons (Alike.sl rfl (fun zq hzq=>get_chunk (cU .u16) 0 ([rshort.2]:List Int) zq hzq)) .nil)),z0,trivial⟩ ?_
      obtain rfl:=Option.some.inj h
      refine Runs.sW hE ⟨[(4,(encL (cU .u16) 0 rshort.1)),(5,(encL (cU .u16) 0 rtrim))],[],400⟩ [] (kp [4,5]) [] 400 [] trivial ?_
      exact Runs.sT Try.f114 [] [] trivial
    · have h:=condF h hq3
      refine Runs.sA 2 [.code (C_32 30),.code (C_32 31)] ?_
      obtain ⟨c2,h⟩:=ifSome h
      obtain ⟨rLeadingZeros,hr5,h⟩:=bindSome h
      refine Runs.sR hE ⟨[(0,(encL (cU .u16) 0 a)),(1,(encL (cU .u16) 0 b)),(8,(aI rLeadingZeros))],[],272⟩ (C_32 30) [(6,⟨[],true,(aI rLeadingZeros),[],0,false,none⟩)] [] (kp [0,1,8]) [] 272 [0≤(w64 (((b.length:Nat):Int) - 1))∧(w64 (((b.length:Nat):Int) - 1)) < ((b.length:Nat):Int),Sound Try.prog 136 [(.atom (.int .u16 (b.getD ((w64 (((b.length:Nat):Int) - 1)).toNat) 0)))] [] 0 (aI rLeadingZeros) []] ⟨c2,(g_math_bits_LeadingZeros16_ok N (b.getD ((w64 (((b.length:Nat):Int) - 1)).toNat) 0) rLeadingZeros hr5),trivial⟩ ?_
      refine Runs.sA 1 [.code (C_32 62),.code (C_32 63)] ?_
      obtain ⟨rshifted,hr6,h⟩:=bindSome h
      obtain ⟨rshifted2,hr7,h⟩:=bindSome h
      obtain ⟨c3,h⟩:=ifSome h
      refine Runs.sR hE ⟨[(8,(aI rLeadingZeros)),(9,(.os 304 0 rshifted.length)),(10,(.os 352 0 (b.length - 0)))],[(304,aO 1 (cU .u16) 0 rshifted),(352,aO 1 (cU .u16) 0 rshifted2)],448⟩ (C_32 62) [(2,⟨[],false,(.os 0 0 rshifted.length),[(0,aO 1 (cU .u16) 0 rshifted)],0,false,none⟩),(5,⟨[],false,(.os 0 0 rshifted2.length),[(0,aO 1 (cU .u16) 0 rshifted2)],0,false,none⟩)] [] (kp [8,9,10]) (kq [304,352]) 448 [Sound Try.prog 137 [(encL (cU .u16) 0 a),(aI rLeadingZeros)] [] 0 (.os 0 0 rshifted.length) [(0,aO 1 (cU .u16) 0 rshifted)],Sound Try.prog 137 [(encL (cU .u16) 0 b),(aI rLeadingZeros)] [] 0 (.os 0 0 rshifted2.length) [(0,aO 1 (cU .u16) 0 rshifted2)],0≤b.length∧b.length≤rshifted2.length,0≤((b.length:Nat):Int)] ⟨(g_e_shifted_ok N a rLeadingZeros rshifted hr6),(g_e_shifted_ok N b rLeadingZeros rshifted2 hr7),c3,(Int.natCast_nonneg _),trivial⟩ ?_
      refine Runs.sA 1 [.code (C_32 126),.code (C_32 127)] ?_
      refine Runs.sR hE ⟨[(8,(aI rLeadingZeros)),(9,(.os 304 0 rshifted.length)),(10,(.os 352 0 (b.length - 0))),(11,(aI (((b.length - 0):Nat):Int)))],[(304,aO 1 (cU .u16) 0 rshifted),(352,aO 1 (cU .u16) 0 rshifted2)],496⟩ (C_32 126) [] [] (kp [8,9,10,11]) (kq [304,352]) 496 [] trivial ?_
      refine Runs.sA 1 [.code (C_32 254),.code (C_32 255)] ?_
      obtain ⟨c4,h⟩:=ifSome h
      refine Runs.sR hE ⟨[(4,(.os 560 0 ((List.replicate ((w64 (((rshifted.length:Nat):Int) - (((b.length - 0):Nat):Int))).toNat) 0:List Int).length))),(8,(aI rLeadingZeros)),(9,(.os 304 0 rshifted.length)),(10,(.os 352 0 (b.length - 0))),(11,(aI (((b.length - 0):Nat):Int)))],[(304,aO 1 (cU .u16) 0 rshifted),(352,aO 1 (cU .u16) 0 rshifted2),(560,aO 1 (cU .u16) 0 (List.replicate ((w64 (((rshifted.length:Nat):Int) - (((b.length - 0):Nat):Int))).toNat) 0:List Int))],592⟩ (C_32 254) [] [] ([(4,.osl ((List.replicate ((w64 (((rshifted.length:Nat):Int) - (((b.length - 0):Nat):Int))).toNat) 0:List Int).length))] ++ kp [8,9,10,11]) (kq [304,352] ++ [(560,.arr 560 ((List.replicate ((w64 (((rshifted.length:Nat):Int) - (((b.length - 0):Nat):Int))).toNat) 0:List Int).length) (fun zi=>(cU .u16) ((List.replicate ((w64 (((rshifted.length:Nat):Int) - (((b.length - 0):Nat):Int))).toNat) 0:List Int).getD zi 0)))]) 592 [0≤(w64 (((rshifted.length:Nat):Int) - (((b.length - 0):Nat):Int))),(w64 (((rshifted.length:Nat):Int) - (((b.length - 0):Nat):Int)))≤(w64 (((rshifted.length:Nat):Int) - (((b.length - 0):Nat):Int))),(2:Int) * (w64 (((rshifted.length:Nat):Int) - (((b.length - 0):Nat):Int)))≤281474976710656,(w64 (((rshifted.length:Nat):Int) - (((b.length - 0):Nat):Int)))≤9223372036854775807,(w64 (((rshifted.length:Nat):Int) - (((b.length - 0):Nat):Int))).toNat = (List.replicate ((w64 (((rshifted.length:Nat):Int) - (((b.length - 0):Nat):Int))).toNat) 0:List Int).length,(w64 (((rshifted.length:Nat):Int) - (((b.length - 0):Nat):Int))).toNat = (List.replicate ((w64 (((rshifted.length:Nat):Int) - (((b.length - 0):Nat):Int))).toNat) 0:List Int).length,∀ zi,zi < (List.replicate ((w64 (((rshifted.length:Nat):Int) - (((b.length - 0):Nat):Int))).toNat) 0:List Int).length→(fun zi=>(cU .u16) ((List.replicate ((w64 (((rshifted.length:Nat):Int) - (((b.length - 0):Nat):Int))).toNat) 0:List Int).getD zi 0)) zi = (fun _=>[(.atom (.int .u16 0))]) zi] ⟨c4.1,(Int.le_refl _),c4.2.1,c4.2.2,(List.length_replicate).symm,(List.length_replicate).symm,(fun zq hzq=>get_rep (cU .u16) 0 0 ((w64 (((rshifted.length:Nat):Int) - (((b.length - 0):Nat):Int))).toNat) zq hzq),trivial⟩ ?_
      refine Runs.sA 2 [.code (C_32 1020),.code (C_32 1021),.code (C_32 511)] ?_
      refine Runs.sR hE ⟨[(4,(.os 560 0 ((List.replicate ((w64 (((rshifted.length:Nat):Int) - (((b.length - 0):Nat):Int))).toNat) 0:List Int).length))),(8,(aI rLeadingZeros)),(9,(.os 304 0 rshifted.length)),(10,(.os 352 0 (b.length - 0))),(11,(aI (((b.length - 0):Nat):Int))),(12,(aI (w64 ((w64 (((rshifted.length:Nat):Int) - (((b.length - 0):Nat):Int))) - 1))))],[(304,aO 1 (cU .u16) 0 rshifted),(352,aO 1 (cU .u16) 0 rshifted2),(560,aO 1 (cU .u16) 0 (List.replicate ((w64 (((rshifted.length:Nat):Int) - (((b.length - 0):Nat):Int))).toNat) 0:List Int))],688⟩ (C_32 1020) [] [] (kp [4,8,9,10,11,12]) (kq [304,352,560]) 688 [] trivial ?_
      refine Runs.sA 2 [.code (C_32 4084),.inLoop (C_32 4084),.inBlock 0,.code (C_32 511)] ?_
      exact Runs.sW hE _ [] (kp [4,8,9,10,11,12]) [(0,.keep 560),(1,.keep 304),(2,.keep 352)] 3 [] trivial (g_e_divide_L1_ok N b rLeadingZeros rshifted2 N (List.replicate ((w64 (((rshifted.length:Nat):Int) - (((b.length - 0):Nat):Int))).toNat) 0:List Int) rshifted (w64 ((w64 (((rshifted.length:Nat):Int) - (((b.length - 0):Nat):Int))) - 1)) _ h E hE)
noncomputable def C_30 (n:Nat):Code:=cat (bodyOf Try.f113) (pth n)
theorem g_e_common_L2_ok (N:Nat) (K_g_e_common_L1:(List Int)→(List Int)→Option ((List Int)))
    (hK_g_e_common_L1:∀ (a2:List Int) (b2:List Int) (r:(List Int)),K_g_e_common_L1 a2 b2 = some r→∀ E,EnvOk E 0→Runs Try.prog E 113 45 (SPost E [] (encL (cU .u16) 0 r)) [.code (C_30 24),.inLoop (C_30 24),.inBlock 0,.code (C_30 7)] ⟨[(0,(encL (cU .u16) 0 a2)),(1,(encL (cU .u16) 0 b2))],[],0⟩) (fuel:Nat):∀ (x:Int) (y:Int) (r:(List Int)),g_e_common_L2 N K_g_e_common_L1 fuel x y = some r→∀ E,EnvOk E 0→Runs Try.prog E 113 45 (SPost E [] (encL (cU .u16) 0 r)) [.code (C_30 25296),.inLoop (C_30 25296),.inBlock 2,.code (C_30 6325),.code (C_30 791),.inBlock 1,.inLoop (C_30 24),.inBlock 0,.code (C_30 7)] ⟨[(5,(.atom (.int .u64 x))),(7,(.atom (.int .u64 y)))],[],0⟩:=by
  induction fuel with
  | zero=>intro _ _ r h; rw [g_e_common_L2.eq_1] at h; cases h
  | succ fuel ih =>
    intro x y r h E hE
    rw [g_e_common_L2.eq_2] at h
    refine Runs.sA 2 [.code (C_30 101184),.code (C_30 101185),.code (C_30 50593),.inLoop (C_30 25296),.inBlock 2,.code (C_30 6325),.code (C_30 791),.inBlock 1,.inLoop (C_30 24),.inBlock 0,.code (C_30 7)] ?_
    refine Runs.sR hE ⟨[(5,(.atom (.int .u64 x))),(7,(.atom (.int .u64 y))),(29,(aB (decide (y > 0))))],[],32⟩ (C_30 101184) [] [] (kp [5,7,29]) [] 32 [] trivial ?_
    refine Runs.sC 29 (C_30 202370) (C_30 202371) (decide (y > 0)) (fun hq4=>?_) (fun hq4=>?_)
    · have h:=condT h hq4
      refine Runs.sA 2 [.code (C_30 101186),.inBlock 3,.inLoop (C_30 25296),.inBlock 2,.code (C_30 6325),.code (C_30 791),.inBlock 1,.inLoop (C_30 24),.inBlock 0,.code (C_30 7)] ?_
      obtain ⟨c,h⟩:=ifSome h
      refine Runs.sR hE ⟨[(5,(.atom (.int .u64 y))),(7,(.atom (.int .u64 (x.tmod y))))],[],128⟩ (C_30 101186) [] [] (kp [5,7]) [] 128 [(y:Int) ≠ 0] ⟨c,trivial⟩ ?_
      refine Runs.sA 2 [.code (C_30 25296),.inLoop (C_30 25296),.inBlock 2,.code (C_30 6325),.code (C_30 791),.inBlock 1,.inLoop (C_30 24),.inBlock 0,.code (C_30 7)] ?_
      exact Runs.sW hE _ [] (kp [5,7]) [] 0 [] trivial (ih y (x.tmod y) _ h E hE)
    · have h:=condF h hq4
      refine Runs.sA 2 [.code (C_30 12650),.code (C_30 12651),.code (C_30 791),.inBlock 1,.inLoop (C_30 24),.inBlock 0,.code (C_30 7)] ?_
      obtain ⟨rnatural,hr3,h⟩:=bindSome h
      refine Runs.sR hE ⟨[(4,(encL (cU .u16) 0 rnatural))],[],80⟩ (C_30 12650) [(1,⟨[],true,(encL (cU .u16) 0 rnatural),[],0,false,none⟩)] [] (kp [4]) [] 80 [Sound Try.prog 111 [(.atom (.int .u64 x))] [] 0 (encL (cU .u16) 0 rnatural) []] ⟨(g_e_natural_ok N x rnatural hr3),trivial⟩ ?_
      obtain rfl:=Option.some.inj h
      refine Runs.sW hE ⟨[(4,(encL (cU .u16) 0 rnatural))],[],80⟩ [] (kp [4]) [] 80 [] trivial ?_
      exact Runs.sT Try.f113 [] [] trivial
theorem g_e_common_L1_ok (N:Nat) (fuel:Nat):∀ (a2:List Int) (b2:List Int) (r:(List Int)),g_e_common_L1 N fuel a2 b2 = some r→∀ E,EnvOk E 0→Runs Try.prog E 113 45 (SPost E [] (encL (cU .u16) 0 r)) [.code (C_30 24),.inLoop (C_30 24),.inBlock 0,.code (C_30 7)] ⟨[(0,(encL (cU .u16) 0 a2)),(1,(encL (cU .u16) 0 b2))],[],0⟩:=by
  induction fuel with
  | zero=>intro _ _ r h; rw [g_e_common_L1.eq_1] at h; cases h
  | succ fuel ih =>
    intro a2 b2 r h E hE
    rw [g_e_common_L1.eq_2] at h
    refine Runs.sA 2 [.code (C_30 96),.code (C_30 97),.code (C_30 49),.inLoop (C_30 24),.inBlock 0,.code (C_30 7)] ?_
    refine Runs.sR hE ⟨[(0,(encL (cU .u16) 0 a2)),(1,(encL (cU .u16) 0 b2)),(13,(aB (decide (((b2.length:Nat):Int) > 0))))],[],48⟩ (C_30 96) [] [] (kp [0,1,13]) [] 48 [] trivial ?_
    refine Runs.sC 13 (C_30 194) (C_30 195) (decide (((b2.length:Nat):Int) > 0)) (fun hq2=>?_) (fun hq2=>?_)
    · have h:=condT h hq2
      refine Runs.sA 3 [.code (C_30 196),.code (C_30 197),.inBlock 1,.inLoop (C_30 24),.inBlock 0,.code (C_30 7)] ?_
      obtain ⟨rword,hr,h⟩:=bindSome h
      refine Runs.sR hE ⟨[(0,(encL (cU .u16) 0 a2)),(1,(encL (cU .u16) 0 b2)),(5,(.atom (.int .u64 rword.1))),(6,(aB rword.2))],[],160⟩ (C_30 196) [(1,⟨[],true,(.tup [(.atom (.int .u64 rword.1)),(aB rword.2)]),[],0,false,none⟩)] [] (kp [0,1,5,6]) [] 160 [Sound Try.prog 134 [(encL (cU .u16) 0 a2)] [] 0 (.tup [(.atom (.int .u64 rword.1)),(aB rword.2)]) []] ⟨(g_e_word_ok N a2 rword hr),trivial⟩ ?_
      refine Runs.sA 1 [.code (C_30 394),.code (C_30 395),.inBlock 1,.inLoop (C_30 24),.inBlock 0,.code (C_30 7)] ?_
      obtain ⟨rword2,hr2,h⟩:=bindSome h
      refine Runs.sR hE ⟨[(0,(encL (cU .u16) 0 a2)),(1,(encL (cU .u16) 0 b2)),(5,(.atom (.int .u64 rword.1))),(6,(aB rword.2)),(7,(.atom (.int .u64 rword2.1))),(8,(aB rword2.2))],[],272⟩ (C_30 394) [(1,⟨[],true,(.tup [(.atom (.int .u64 rword2.1)),(aB rword2.2)]),[],0,false,none⟩)] [] (kp [0,1,5,6,7,8]) [] 272 [Sound Try.prog 134 [(encL (cU .u16) 0 b2)] [] 0 (.tup [(.atom (.int .u64 rword2.1)),(aB rword2.2)]) []] ⟨(g_e_word_ok N b2 rword2 hr2),trivial⟩ ?_
      refine Runs.sA 2 [.code (C_30 1580),.code (C_30 1581),.code (C_30 791),.inBlock 1,.inLoop (C_30 24),.inBlock 0,.code (C_30 7)] ?_
      refine Runs.sR hE ⟨[(0,(encL (cU .u16) 0 a2)),(1,(encL (cU .u16) 0 b2)),(5,(.atom (.int .u64 rword.1))),(7,(.atom (.int .u64 rword2.1))),(27,(aB (cond rword.2 rword2.2 false)))],[],336⟩ (C_30 1580) [] [] (kp [0,1,5,7,27]) [] 336 [rword.2 = true→AllP [rword.2 = true]] ⟨(fun hq=>⟨hq,trivial⟩),trivial⟩ ?_
      refine Runs.sC 27 (C_30 3162) (C_30 3163) (cond rword.2 rword2.2 false) (fun hq3=>?_) (fun hq3=>?_)
      · have h:=condT h hq3
        refine Runs.sA 3 [.code (C_30 25296),.inLoop (C_30 25296),.inBlock 2,.code (C_30 6325),.code (C_30 791),.inBlock 1,.inLoop (C_30 24),.inBlock 0,.code (C_30 7)] ?_
        exact Runs.sW hE _ [] (kp [5,7]) [] 0 [] trivial (g_e_common_L2_ok N (g_e_common_L1 N fuel) ih N rword.1 rword2.1 _ h E hE)
      · have h:=condF h hq3
        refine Runs.sA 2 [.code (C_30 1582),.code (C_30 1583),.inBlock 1,.inLoop (C_30 24),.inBlock 0,.code (C_30 7)] ?_
        obtain ⟨rdivide,hr4,h⟩:=bindSome h
        refine Runs.sR hE ⟨[(1,(encL (cU .u16) 0 b2)),(10,(encL (cU .u16) 0 rdivide.2))],[],464⟩ (C_30 1582) [(2,⟨[],true,(.tup [(encL (cU .u16) 0 rdivide.1),(encL (cU .u16) 0 rdivide.2)]),[],0,false,none⟩)] [] (kp [1,10]) [] 464 [Sound Try.prog 114 [(encL (cU .u16) 0 a2),(encL (cU .u16) 0 b2)] [] 0 (.tup [(encL (cU .u16) 0 rdivide.1),(encL (cU .u16) 0 rdivide.2)]) []] ⟨(g_e_divide_ok N a2 b2 rdivide hr4),trivial⟩ ?_
        refine Runs.sR hE ⟨[(0,(encL (cU .u16) 0 b2)),(1,(encL (cU .u16) 0 rdivide.2))],[],528⟩ (C_30 1583) [] [] (kp [0,1]) [] 528 [] trivial ?_
        refine Runs.sA 2 [.code (C_30 24),.inLoop (C_30 24),.inBlock 0,.code (C_30 7)] ?_
        exact Runs.sW hE _ [] (kp [0,1]) [] 0 [] trivial (ih b2 rdivide.2 _ h E hE)
    · have h:=condF h hq2
      refine Runs.sA 2 [.code (C_30 14),.code (C_30 15)] ?_
      refine Runs.sR hE ⟨[(4,(encL (cU .u16) 0 a2))],[],80⟩ (C_30 14) [] [] (kp [4]) [] 80 [] trivial ?_
      obtain rfl:=Option.some.inj h
      refine Runs.sW hE ⟨[(4,(encL (cU .u16) 0 a2))],[],80⟩ [] (kp [4]) [] 80 [] trivial ?_
      exact Runs.sT Try.f113 [] [] trivial
theorem g_e_common_ok (N:Nat) (a:List Int) (b:List Int) (r:(List Int)) (h:g_e_common N a b = some r):Sound Try.prog 113 [(encL (cU .u16) 0 a),(encL (cU .u16) 0 b)] [] 0 (encL (cU .u16) 0 r) []:=by
  unfold g_e_common at h
  refine Sound.of_runs (fu:=Try.f113) (c:=C_30 1) (nt:=45) (by kernel_rfl) (by kernel_rfl) (by kernel_rfl) (by kernel_rfl) (fun hm=>rfl) ?_
  intro E hE
  refine Runs.sA 1 [.code (C_30 2),.code (C_30 3)] ?_
  refine Runs.sR hE ⟨[(0,(encL (cU .u16) 0 a)),(1,(encL (cU .u16) 0 b))],[],16⟩ (C_30 2) [] [] (kp [0,1]) [] 16 [] trivial ?_
  refine Runs.sA 3 [.code (C_30 24),.inLoop (C_30 24),.inBlock 0,.code (C_30 7)] ?_
  exact Runs.sW hE _ [] (kp [0,1]) [] 0 [] trivial (g_e_common_L1_ok N N a b _ h E hE)
noncomputable def C_29 (n:Nat):Code:=cat (bodyOf Try.f86) (pth n)
theorem g_e_fraction_J1_ok (N:Nat) (a:TInt) (b:TInt) (x:List Int) (y:List Int) (r:TRat) (h:g_e_fraction_J1 N a b x y = some r):∀ E,EnvOk E 0→Runs Try.prog E 86 48 (SPost E [] (.agg (TRat.cells r))) [.code (C_29 62),.code (C_29 63)] ⟨[(2,(.op 0 0 0)),(3,(.op 1 0 0)),(4,(.op 2 0 0)),(5,(encL (cU .u16) 0 x)),(6,(encL (cU .u16) 0 y))],[(0,vO 2 (TInt.cells a)),(1,vO 2 (TInt.cells b)),(2,vO 4 [(aB false),.nil,(aB false),.nil])],3⟩:=by
  intro E hE
  unfold g_e_fraction_J1 at h
  obtain ⟨rsigned,hr6,h⟩:=bindSome h
  obtain ⟨rsigned2,hr7,h⟩:=bindSome h
  refine Runs.sR hE ⟨[(4,(.op 2 0 0))],[(2,vO 4 [(aB rsigned.f_Neg),(encL (cU .u16) 0 rsigned.f_Limbs),(aB rsigned2.f_Neg),(encL (cU .u16) 0 rsigned2.f_Limbs)])],179⟩ (C_29 62) [(6,⟨[],true,(.agg (TInt.cells rsigned)),[],0,false,none⟩),(8,⟨[],true,(.agg (TInt.cells rsigned2)),[],0,false,none⟩)] [] (kp [4]) (kq [2]) 179 [0 < 1,0 < 1,Sound Try.prog 110 [(aB (!(a.f_Neg == b.f_Neg))),(encL (cU .u16) 0 x)] [] 0 (.agg (TInt.cells rsigned)) [],Sound Try.prog 110 [(aB false),(encL (cU .u16) 0 y)] [] 0 (.agg (TInt.cells rsigned2)) [],0 < 1] ⟨o1,o1,(g_e_signed_ok N (!(a.f_Neg == b.f_Neg)) x rsigned hr6),(g_e_signed_ok N false y rsigned2 hr7),o1,trivial⟩ ?_
  obtain rfl:=Option.some.inj h
  refine Runs.sW hE ⟨[(4,(.op 16 0 0))],[(16,vO 4 [(aB rsigned.f_Neg),(encL (cU .u16) 0 rsigned.f_Limbs),(aB rsigned2.f_Neg),(encL (cU .u16) 0 rsigned2.f_Limbs)])],179⟩ [] (kp [4]) [(16,.keep 2)] 179 [] trivial ?_
  exact Runs.sT Try.f86 [16] [0 < 1] ⟨o1,trivial⟩
theorem g_e_fraction_ok (N:Nat) (a:TInt) (b:TInt) (r:TRat) (h:g_e_fraction N a b = some r):Sound Try.prog 86 [(.agg (TInt.cells a)),(.agg (TInt.cells b))] [] 0 (.agg (TRat.cells r)) []:=by
  unfold g_e_fraction at h
  refine Sound.of_runs (fu:=Try.f86) (c:=C_29 1) (nt:=48) (by kernel_rfl) (by kernel_rfl) (by kernel_rfl) (by kernel_rfl) (fun hm=>rfl) ?_
  intro E hE
  refine Runs.sA 1 [.code (C_29 2),.code (C_29 3)] ?_
  refine Runs.sR hE ⟨[(2,(.op 0 0 0)),(3,(.op 16 0 0)),(4,(.op 32 0 0))],[(0,vO 2 (TInt.cells a)),(16,vO 2 (TInt.cells b)),(32,vO 4 [(aB false),.nil,(aB false),.nil])],48⟩ (C_29 2) [] [] (kp [2,3,4]) (kq [0,16,32]) 48 [] trivial ?_
  refine Runs.sA 1 [.code (C_29 6),.code (C_29 7)] ?_
  obtain ⟨rtrim,hr,h⟩:=bindSome h
  obtain ⟨rtrim2,hr2,h⟩:=bindSome h
  refine Runs.sR hE ⟨[(2,(.op 0 0 0)),(3,(.op 16 0 0)),(4,(.op 32 0 0)),(5,(encL (cU .u16) 0 rtrim)),(6,(encL (cU .u16) 0 rtrim2))],[(0,vO 2 (TInt.cells a)),(16,vO 2 (TInt.cells b)),(32,vO 4 [(aB false),.nil,(aB false),.nil])],176⟩ (C_29 6) [(2,⟨[],true,(encL (cU .u16) 0 rtrim),[],0,false,none⟩),(5,⟨[],true,(encL (cU .u16) 0 rtrim2),[],0,false,none⟩)] [] (kp [2,3,4,5,6]) (kq [0,16,32]) 176 [0 < 1,Sound Try.prog 112 [(encL (cU .u16) 0 a.f_Limbs)] [] 0 (encL (cU .u16) 0 rtrim) [],0 < 1,Sound Try.prog 112 [(encL (cU .u16) 0 b.f_Limbs)] [] 0 (encL (cU .u16) 0 rtrim2) []] ⟨o1,(g_e_trim_ok N a.f_Limbs rtrim hr),o1,(g_e_trim_ok N b.f_Limbs rtrim2 hr2),trivial⟩ ?_
  refine Runs.sA 1 [.code (C_29 14),.code (C_29 15)] ?_
  obtain ⟨rcommon,hr3,h⟩:=bindSome h
  refine Runs.sR hE ⟨[(2,(.op 0 0 0)),(3,(.op 16 0 0)),(4,(.op 32 0 0)),(5,(encL (cU .u16) 0 rtrim)),(6,(encL (cU .u16) 0 rtrim2)),(7,(encL (cU .u16) 0 rcommon))],[(0,vO 2 (TInt.cells a)),(16,vO 2 (TInt.cells b)),(32,vO 4 [(aB false),.nil,(aB false),.nil])],240⟩ (C_29 14) [(2,⟨[],true,(encL (cU .u16) 0 rcommon),[],0,false,none⟩)] [] (kp [2,3,4,5,6,7]) (kq [0,16,32]) 240 [Sound Try.prog 113 [(encL (cU .u16) 0 rtrim),(encL (cU .u16) 0 rtrim2)] [] 0 (encL (cU .u16) 0 rcommon) []] ⟨(g_e_common_ok N rtrim rtrim2 rcommon hr3),trivial⟩ ?_
  refine Runs.sA 2 [.code (C_29 60),.code (C_29 61),.code (C_29 31)] ?_
  obtain ⟨c,h⟩:=ifSome h
  refine Runs.sR hE ⟨[(2,(.op 0 0 0)),(3,(.op 16 0 0)),(4,(.op 32 0 0)),(5,(encL (cU .u16) 0 rtrim)),(6,(encL (cU .u16) 0 rtrim2)),(7,(encL (cU .u16) 0 rcommon)),(25,(aB (cond (((rcommon.length:Nat):Int) != 1) true ((rcommon.getD 0 0) != 1))))],[(0,vO 2 (TInt.cells a)),(16,vO 2 (TInt.cells b)),(32,vO 4 [(aB false),.nil,(aB false),.nil])],384⟩ (C_29 60) [] [] (kp [2,3,4,5,6,7,25]) (kq [0,16,32]) 384 [(!(((rcommon.length:Nat):Int) != 1)) = true→AllP [(!(((rcommon.length:Nat):Int) != 1)) = true,0≤(0:Int)∧0 < ((rcommon.length:Nat):Int)],(!(((rcommon.length:Nat):Int) != 1)) = true→AllP [(!(((rcommon.length:Nat):Int) != 1)) = true],(!(((rcommon.length:Nat):Int) != 1)) = true→AllP [(!(((rcommon.length:Nat):Int) != 1)) = true],(!(((rcommon.length:Nat):Int) != 1)) = true→AllP [(!(((rcommon.length:Nat):Int) != 1)) = true]] ⟨(fun hg=>⟨hg,(c hg),trivial⟩),(fun hg=>⟨hg,trivial⟩),(fun hg=>⟨hg,trivial⟩),(fun hq=>⟨hq,trivial⟩),trivial⟩ ?_
  refine Runs.sC 25 (C_29 122) (C_29 123) (cond (((rcommon.length:Nat):Int) != 1) true ((rcommon.getD 0 0) != 1)) (fun hq2=>?_) (fun hq2=>?_)
  · have h:=condT h hq2
    refine Runs.sA 1 [.code (C_29 244),.code (C_29 245),.code (C_29 31)] ?_
    obtain ⟨rdivide,hr4,h⟩:=bindSome h
    refine Runs.sR hE ⟨[(2,(.op 0 0 0)),(3,(.op 16 0 0)),(4,(.op 32 0 0)),(5,(encL (cU .u16) 0 rdivide.1)),(6,(encL (cU .u16) 0 rtrim2)),(7,(encL (cU .u16) 0 rcommon))],[(0,vO 2 (TInt.cells a)),(16,vO 2 (TInt.cells b)),(32,vO 4 [(aB false),.nil,(aB false),.nil])],496⟩ (C_29 244) [(2,⟨[],true,(.tup [(encL (cU .u16) 0 rdivide.1),(encL (cU .u16) 0 rdivide.2)]),[],0,false,none⟩)] [] (kp [2,3,4,5,6,7]) (kq [0,16,32]) 496 [Sound Try.prog 114 [(encL (cU .u16) 0 rtrim),(encL (cU .u16) 0 rcommon)] [] 0 (.tup [(encL (cU .u16) 0 rdivide.1),(encL (cU .u16) 0 rdivide.2)]) []] ⟨(g_e_divide_ok N rtrim rcommon rdivide hr4),trivial⟩ ?_
    obtain ⟨rdivide2,hr5,h⟩:=bindSome h
    refine Runs.sR hE ⟨[(2,(.op 0 0 0)),(3,(.op 16 0 0)),(4,(.op 32 0 0)),(5,(encL (cU .u16) 0 rdivide.1)),(6,(encL (cU .u16) 0 rdivide2.1))],[(0,vO 2 (TInt.cells a)),(16,vO 2 (TInt.cells b)),(32,vO 4 [(aB false),.nil,(aB false),.nil])],608⟩ (C_29 245) [(2,⟨[],true,(.tup [(encL (cU .u16) 0 rdivide2.1),(encL (cU .u16) 0 rdivide2.2)]),[],0,false,none⟩)] [] (kp [2,3,4,5,6]) (kq [0,16,32]) 608 [Sound Try.prog 114 [(encL (cU .u16) 0 rtrim2),(encL (cU .u16) 0 rcommon)] [] 0 (.tup [(encL (cU .u16) 0 rdivide2.1),(encL (cU .u16) 0 rdivide2.2)]) []] ⟨(g_e_divide_ok N rtrim2 rcommon rdivide2 hr5),trivial⟩ ?_
    refine Runs.sA 1 [.code (C_29 62),.code (C_29 63)] ?_
    exact Runs.sW hE _ [] (kp [2,3,4,5,6]) (kq [0] ++ [(1,.keep 16),(2,.keep 32)]) 3 [] trivial (g_e_fraction_J1_ok N a b rdivide.1 rdivide2.1 _ h E hE)
  · have h:=condF h hq2
    refine Runs.sA 2 [.code (C_29 62),.code (C_29 63)] ?_
    exact Runs.sW hE _ [] (kp [2,3,4,5,6]) (kq [0] ++ [(1,.keep 16),(2,.keep 32)]) 3 [] trivial (g_e_fraction_J1_ok N a b rtrim rtrim2 _ h E hE)
noncomputable def C_28 (n:Nat):Code:=cat (bodyOf Try.f80) (pth n)
theorem g_e_Whole_ok (N:Nat) (a:TInt) (r:TRat) (h:g_e_Whole N a = some r):Sound Try.prog 80 [(.agg (TInt.cells a))] [] 0 (.agg (TRat.cells r)) []:=by
  unfold g_e_Whole at h
  refine Sound.of_runs (fu:=Try.f80) (c:=C_28 1) (nt:=7) (by kernel_rfl) (by kernel_rfl) (by kernel_rfl) (by kernel_rfl) (fun hm=>rfl) ?_
  intro E hE
  refine Runs.sA 1 [.code (C_28 2),.code (C_28 3)] ?_
  refine Runs.sR hE ⟨[(1,(.op 0 0 0)),(2,(.op 16 0 0))],[(0,vO 2 (TInt.cells a)),(16,vO 4 [(aB false),.nil,(aB false),.nil])],32⟩ (C_28 2) [] [] (kp [1,2]) (kq [0,16]) 32 [] trivial ?_
  refine Runs.sA 1 [.code (C_28 6),.code (C_28 7)] ?_
  obtain ⟨rfraction,hr,h⟩:=bindSome h
  refine Runs.sR hE ⟨[(2,(.op 16 0 0))],[(16,vO 4 (TRat.cells rfraction))],112⟩ (C_28 6) [(3,⟨[],true,(.agg (TRat.cells rfraction)),[],0,true,none⟩)] [] (kp [2]) (kq [16]) 112 [0 < 1,Sound Try.prog 86 [(.agg (TInt.cells a)),(.agg [(aB false),(.sl 1 (fun zi=>(fun zi=>([[(.atom (.int .u16 1))]]:List (List AV)).getD zi []) (addz 0 zi)))])] [] 0 (.agg (TRat.cells rfraction)) [],0+1≤1,0 < 1] ⟨o1,(Sound.conv (g_e_fraction_ok N a (⟨false,([1]:List Int)⟩:TInt) rfraction hr) (.cons (Alike.refl _) (.cons (Alike.agg (.cons (Alike.refl _) (.cons (Alike.sl rfl (fun zq hzq=>get_chunk (cU .u16) 0 ([1]:List Int) zq hzq)) .nil))) .nil))),z0,o1,trivial⟩ ?_
  obtain rfl:=Option.some.inj h
  refine Runs.sW hE ⟨[(2,(.op 16 0 0))],[(16,vO 4 (TRat.cells rfraction))],112⟩ [] (kp [2]) (kq [16]) 112 [] trivial ?_
  exact Runs.sT Try.f80 [16] [0 < 1] ⟨o1,trivial⟩
noncomputable def C_22 (n:Nat):Code:=cat (bodyOf Try.f47) (pth n)
theorem g_berth_whole_ok (N:Nat) (n:Int) (r:TRat) (h:g_berth_whole N n = some r):Sound Try.prog 47 [(aI n)] [] 0 (.agg (TRat.cells r)) []:=by
  unfold g_berth_whole at h
  refine Sound.of_runs (fu:=Try.f47) (c:=C_22 1) (nt:=6) (by kernel_rfl) (by kernel_rfl) (by kernel_rfl) (by kernel_rfl) (fun hm=>rfl) ?_
  intro E hE
  refine Runs.sA 1 [.code (C_22 2),.code (C_22 3)] ?_
  refine Runs.sR hE ⟨[(0,(aI n)),(2,(.op 0 0 0))],[(0,vO 4 [(aB false),.nil,(aB false),.nil])],16⟩ (C_22 2) [] [] (kp [0,2]) (kq [0]) 16 [] trivial ?_
  refine Runs.sA 1 [.code (C_22 6),.code (C_22 7)] ?_
  obtain ⟨rOf,hr,h⟩:=bindSome h
  obtain ⟨rWhole,hr2,h⟩:=bindSome h
  refine Runs.sR hE ⟨[(2,(.op 0 0 0))],[(0,vO 4 (TRat.cells rWhole))],80⟩ (C_22 6) [(1,⟨[],true,(.agg (TInt.cells rOf)),[],0,false,none⟩),(2,⟨[],true,(.agg (TRat.cells rWhole)),[],0,false,none⟩)] [] (kp [2]) (kq [0]) 80 [Sound Try.prog 81 [(aI n)] [] 0 (.agg (TInt.cells rOf)) [],Sound Try.prog 80 [(.agg (TInt.cells rOf))] [] 0 (.agg (TRat.cells rWhole)) [],0 < 1] ⟨(g_e_Of_ok N n rOf hr),(g_e_Whole_ok N rOf rWhole hr2),o1,trivial⟩ ?_
  obtain rfl:=Option.some.inj h
  refine Runs.sW hE ⟨[(2,(.op 16 0 0))],[(16,vO 4 (TRat.cells rWhole))],80⟩ [] (kp [2]) [(16,.keep 0)] 80 [] trivial ?_
  exact Runs.sT Try.f47 [16] [0 < 1] ⟨o1,trivial⟩
noncomputable def C_21 (n:Nat):Code:=cat (bodyOf Try.f45) (pth n)
theorem g_berth_blows_ok (N:Nat) (w:TWind) (r:TS__3_api_Rat) (h:g_berth_blows N w = some r):Sound Try.prog 45 [(.agg (TWind.cells w))] [] 0 (.agg (TS__3_api_Rat.cells r)) []:=by
  unfold g_berth_blows at h
  refine Sound.of_runs (fu:=Try.f45) (c:=C_21 1) (nt:=13) (by kernel_rfl) (by kernel_rfl) (by kernel_rfl) (by kernel_rfl) (fun hm=>rfl) ?_
  intro E hE
  refine Runs.sA 1 [.code (C_21 2),.code (C_21 3)] ?_
  refine Runs.sR hE ⟨[(1,(.op 0 0 0)),(2,(.op 16 0 0))],[(0,vO 3 (TWind.cells w)),(16,vO 12 [(aB false),.nil,(aB false),.nil,(aB false),.nil,(aB false),.nil,(aB false),.nil,(aB false),.nil])],32⟩ (C_21 2) [] [] (kp [1,2]) (kq [0,16]) 32 [] trivial ?_
  refine Runs.sA 1 [.code (C_21 6),.code (C_21 7)] ?_
  obtain ⟨rwhole,hr,h⟩:=bindSome h
  obtain ⟨rwhole2,hr2,h⟩:=bindSome h
  obtain ⟨rwhole3,hr3,h⟩:=bindSome h
  refine Runs.sR hE ⟨[(2,(.op 16 0 0))],[(16,vO 12 [(aB rwhole.f_Num.f_Neg),(encL (cU .u16) 0 rwhole.f_Num.f_Limbs),(aB rwhole.f_Den.f_Neg),(encL (cU .u16) 0 rwhole.f_Den.f_Limbs),(aB rwhole2.f_Num.f_Neg),(encL (cU .u16) 0 rwhole2.f_Num.f_Limbs),(aB rwhole2.f_Den.f_Neg),(encL (cU .u16) 0 rwhole2.f_Den.f_Limbs),(aB rwhole3.f_Num.f_Neg),(encL (cU .u16) 0 rwhole3.f_Num.f_Limbs),(aB rwhole3.f_Den.f_Neg),(encL (cU .u16) 0 rwhole3.f_Den.f_Limbs)])],208⟩ (C_21 6) [(2,⟨[],true,(.agg (TRat.cells rwhole)),[],0,false,none⟩),(5,⟨[],true,(.agg (TRat.cells rwhole2)),[],0,false,none⟩),(8,⟨[],true,(.agg (TRat.cells rwhole3)),[],0,false,none⟩)] [] (kp [2]) (kq [16]) 208 [0 < 1,Sound Try.prog 47 [(aI w.f_X)] [] 0 (.agg (TRat.cells rwhole)) [],0 < 1,Sound Try.prog 47 [(aI w.f_Y)] [] 0 (.agg (TRat.cells rwhole2)) [],0 < 1,Sound Try.prog 47 [(aI w.f_Turn)] [] 0 (.agg (TRat.cells rwhole3)) [],0 < 1] ⟨o1,(g_berth_whole_ok N w.f_X rwhole hr),o1,(g_berth_whole_ok N w.f_Y rwhole2 hr2),o1,(g_berth_whole_ok N w.f_Turn rwhole3 hr3),o1,trivial⟩ ?_
  obtain rfl:=Option.some.inj h
  refine Runs.sW hE ⟨[(2,(.op 16 0 0))],[(16,vO 12 [(aB rwhole.f_Num.f_Neg),(encL (cU .u16) 0 rwhole.f_Num.f_Limbs),(aB rwhole.f_Den.f_Neg),(encL (cU .u16) 0 rwhole.f_Den.f_Limbs),(aB rwhole2.f_Num.f_Neg),(encL (cU .u16) 0 rwhole2.f_Num.f_Limbs),(aB rwhole2.f_Den.f_Neg),(encL (cU .u16) 0 rwhole2.f_Den.f_Limbs),(aB rwhole3.f_Num.f_Neg),(encL (cU .u16) 0 rwhole3.f_Num.f_Limbs),(aB rwhole3.f_Den.f_Neg),(encL (cU .u16) 0 rwhole3.f_Den.f_Limbs)])],208⟩ [] (kp [2]) (kq [16]) 208 [] trivial ?_
  exact Runs.sT Try.f45 [16] [0 < 1] ⟨o1,trivial⟩
noncomputable def C_42 (n:Nat):Code:=cat (bodyOf Try.f130) (pth n)
theorem g_e_opposite_ok (N:Nat) (a:TInt) (r:TInt) (h:g_e_opposite N a = some r):Sound Try.prog 130 [(.agg (TInt.cells a))] [] 0 (.agg (TInt.cells r)) []:=by
  unfold g_e_opposite at h
  refine Sound.of_runs (fu:=Try.f130) (c:=C_42 1) (nt:=9) (by kernel_rfl) (by kernel_rfl) (by kernel_rfl) (by kernel_rfl) (fun hm=>rfl) ?_
  intro E hE
  refine Runs.sA 1 [.code (C_42 2),.code (C_42 3)] ?_
  refine Runs.sR hE ⟨[(1,(.op 0 0 0)),(2,(.op 16 0 0))],[(0,vO 2 (TInt.cells a)),(16,vO 2 [(aB false),.nil])],32⟩ (C_42 2) [] [] (kp [1,2]) (kq [0,16]) 32 [] trivial ?_
  refine Runs.sA 1 [.code (C_42 6),.code (C_42 7)] ?_
  refine Runs.sR hE ⟨[(2,(.op 16 0 0))],[(16,vO 2 [(aB (!a.f_Neg)),(encL (cU .u16) 0 a.f_Limbs)])],144⟩ (C_42 6) [] [] (kp [2]) (kq [16]) 144 [0 < 1,0 < 1,0 < 1] ⟨o1,o1,o1,trivial⟩ ?_
  obtain rfl:=Option.some.inj h
  refine Runs.sW hE ⟨[(2,(.op 16 0 0))],[(16,vO 2 [(aB (!a.f_Neg)),(encL (cU .u16) 0 a.f_Limbs)])],144⟩ [] (kp [2]) (kq [16]) 144 [] trivial ?_
  exact Runs.sT Try.f130 [16] [0 < 1] ⟨o1,trivial⟩
noncomputable def C_44 (n:Nat):Code:=cat (bodyOf Try.f109) (pth n)
theorem g_e_sign_ok (N:Nat) (a:TInt) (r:Int) (h:g_e_sign N a = some r):Sound Try.prog 109 [(.agg (TInt.cells a))] [] 0 (aI r) []:=by
  unfold g_e_sign at h
  refine Sound.of_runs (fu:=Try.f109) (c:=C_44 1) (nt:=12) (by kernel_rfl) (by kernel_rfl) (by kernel_rfl) (by kernel_rfl) (fun hm=>rfl) ?_
  intro E hE
  refine Runs.sA 1 [.code (C_44 2),.code (C_44 3)] ?_
  refine Runs.sR hE ⟨[(1,(.op 0 0 0))],[(0,vO 2 (TInt.cells a))],32⟩ (C_44 2) [] [] (kp [1]) (kq [0]) 32 [] trivial ?_
  refine Runs.sA 3 [.code (C_44 24),.code (C_44 25),.inBlock 0,.code (C_44 7)] ?_
  obtain ⟨rtrim,hr,h⟩:=bindSome h
  refine Runs.sR hE ⟨[(1,(.op 0 0 0)),(3,(aB (((rtrim.length:Nat):Int) == 0)))],[(0,vO 2 (TInt.cells a))],128⟩ (C_44 24) [(2,⟨[],true,(encL (cU .u16) 0 rtrim),[],0,false,none⟩)] [] (kp [1,3]) (kq [0]) 128 [0 < 1,Sound Try.prog 112 [(encL (cU .u16) 0 a.f_Limbs)] [] 0 (encL (cU .u16) 0 rtrim) []] ⟨o1,(g_e_trim_ok N a.f_Limbs rtrim hr),trivial⟩ ?_
  refine Runs.sC 3 (C_44 50) (C_44 51) (((rtrim.length:Nat):Int) == 0) (fun hq2=>?_) (fun hq2=>?_)
  · have h:=condT h hq2
    refine Runs.sA 1 [.code (C_44 100),.code (C_44 101),.inBlock 0,.code (C_44 7)] ?_
    refine Runs.sR hE ⟨[(2,(aI 0))],[],144⟩ (C_44 100) [] [] (kp [2]) [] 144 [] trivial ?_
    obtain rfl:=Option.some.inj h
    refine Runs.sW hE ⟨[(2,(aI 0))],[],144⟩ [] (kp [2]) [] 144 [] trivial ?_
    exact Runs.sT Try.f109 [] [] trivial
  · have h:=condF h hq2
    refine Runs.sA 1 [.code (C_44 102),.code (C_44 103),.inBlock 0,.code (C_44 7)] ?_
    refine Runs.sR hE ⟨[(9,(aB a.f_Neg))],[],176⟩ (C_44 102) [] [] (kp [9]) [] 176 [0 < 1] ⟨o1,trivial⟩ ?_
    refine Runs.sC 9 (C_44 206) (C_44 207) a.f_Neg (fun hq3=>?_) (fun hq3=>?_)
    · have h:=condT h hq3
      refine Runs.sA 1 [.code (C_44 412),.code (C_44 413),.inBlock 0,.code (C_44 7)] ?_
      refine Runs.sR hE ⟨[(2,(aI (-1)))],[],192⟩ (C_44 412) [] [] (kp [2]) [] 192 [] trivial ?_
      obtain rfl:=Option.some.inj h
      refine Runs.sW hE ⟨[(2,(aI (-1)))],[],192⟩ [] (kp [2]) [] 192 [] trivial ?_
      exact Runs.sT Try.f109 [] [] trivial
    · have h:=condF h hq3
      refine Runs.sA 3 [.code (C_44 14),.code (C_44 15)] ?_
      refine Runs.sR hE ⟨[(2,(aI 1))],[],192⟩ (C_44 14) [] [] (kp [2]) [] 192 [] trivial ?_
      obtain rfl:=Option.some.inj h
      refine Runs.sW hE ⟨[(2,(aI 1))],[],192⟩ [] (kp [2]) [] 192 [] trivial ?_
      exact Runs.sT Try.f109 [] [] trivial
noncomputable def C_43 (n:Nat):Code:=cat (bodyOf Try.f85) (pth n)
theorem g_e_below_ok (N:Nat) (x:TRat) (r:TInt) (h:g_e_below N x = some r):Sound Try.prog 85 [(.agg (TRat.cells x))] [] 0 (.agg (TInt.cells r)) []:=by
  unfold g_e_below at h
  refine Sound.of_runs (fu:=Try.f85) (c:=C_43 1) (nt:=11) (by kernel_rfl) (by kernel_rfl) (by kernel_rfl) (by kernel_rfl) (fun hm=>rfl) ?_
  intro E hE
  refine Runs.sA 1 [.code (C_43 2),.code (C_43 3)] ?_
  refine Runs.sR hE ⟨[(1,(.op 0 0 0)),(2,(.op 16 0 0))],[(0,vO 4 (TRat.cells x)),(16,vO 2 [(aB false),.nil])],32⟩ (C_43 2) [] [] (kp [1,2]) (kq [0,16]) 32 [] trivial ?_
  refine Runs.sA 2 [.code (C_43 12),.code (C_43 13),.code (C_43 7)] ?_
  obtain ⟨rsign,hr,h⟩:=bindSome h
  refine Runs.sR hE ⟨[(1,(.op 0 0 0)),(2,(.op 16 0 0)),(6,(aB (rsign == 0)))],[(0,vO 4 (TRat.cells x)),(16,vO 2 [(aB false),.nil])],96⟩ (C_43 12) [(2,⟨[],true,(aI rsign),[],0,false,none⟩)] [] (kp [1,2,6]) (kq [0,16]) 96 [0 < 1,Sound Try.prog 109 [(.agg (TInt.cells x.f_Den))] [] 0 (aI rsign) []] ⟨o1,(g_e_sign_ok N x.f_Den rsign hr),trivial⟩ ?_
  refine Runs.sC 6 (C_43 26) (C_43 27) (rsign == 0) (fun hq2=>?_) (fun hq2=>?_)
  · have h:=condT h hq2
    refine Runs.sA 1 [.code (C_43 52),.code (C_43 53),.code (C_43 7)] ?_
    refine Runs.sR hE ⟨[(2,(.op 16 0 0))],[(16,vN 2 [(aB false),(.os 96 0 (([1]:List Int).length))]),(96,aO 1 (cU .u16) 0 ([1]:List Int))],144⟩ (C_43 52) [] [] (kp [2]) [(16,.var 16 [.keep,.osl (([1]:List Int).length)]),(96,.arr 96 (([1]:List Int).length) (fun zi=>(cU .u16) (([1]:List Int).getD zi 0)))] 144 [0 < 1,1 = ([1]:List Int).length,1 = ([1]:List Int).length,∀ zi,zi < ([1]:List Int).length→(fun zi=>(cU .u16) (([1]:List Int).getD zi 0)) zi = (fun zi=>([[(.atom (.int .u16 1))]]:List (List AV)).getD zi []) zi] ⟨o1,rfl,rfl,(fun zq hzq=>get_chunk (cU .u16) 0 ([1]:List Int) zq hzq),trivial⟩ ?_
    obtain rfl:=Option.some.inj h
    refine Runs.sW hE ⟨[(2,(.op 16 0 0))],[(16,vO 2 [(aB false),(encL (cU .u16) 0 ([1]:List Int))])],144⟩ [96] (kp [2]) [(16,.var 16 [.keep,.sl (([1]:List Int).length) (fun zi=>(cU .u16) (([1]:List Int).getD zi 0))])] 144 [([1]:List Int).length = ([1]:List Int).length,0+([1]:List Int).length≤([1]:List Int).length,∀ zi,zi < ([1]:List Int).length→(fun zi=>(cU .u16) (([1]:List Int).getD zi 0)) zi = (fun zi=>(cU .u16) (([1]:List Int).getD zi 0)) (addz 0 zi)] ⟨rfl,z0,(fun _ _=>rfl),trivial⟩ ?_
    exact Runs.sT Try.f85 [16] [0 < 1] ⟨o1,trivial⟩
  · have h:=condF h hq2
    refine Runs.sA 2 [.code (C_43 14),.code (C_43 15)] ?_
    refine Runs.sR hE ⟨[(2,(.op 16 0 0))],[(16,vO 2 (TInt.cells x.f_Den))],144⟩ (C_43 14) [] [] (kp [2]) (kq [16]) 144 [0 < 1,0 < 1] ⟨o1,o1,trivial⟩ ?_
    obtain rfl:=Option.some.inj h
    refine Runs.sW hE ⟨[(2,(.op 16 0 0))],[(16,vO 2 (TInt.cells x.f_Den))],144⟩ [] (kp [2]) (kq [16]) 144 [] trivial ?_
    exact Runs.sT Try.f85 [16] [0 < 1] ⟨o1,trivial⟩
noncomputable def C_41 (n:Nat):Code:=cat (bodyOf Try.f104) (pth n)
theorem g_e_negative_ok (N:Nat) (x:TRat) (r:TRat) (h:g_e_negative N x = some r):Sound Try.prog 104 [(.agg (TRat.cells x))] [] 0 (.agg (TRat.cells r)) []:=by
  unfold g_e_negative at h
  refine Sound.of_runs (fu:=Try.f104) (c:=C_41 1) (nt:=9) (by kernel_rfl) (by kernel_rfl) (by kernel_rfl) (by kernel_rfl) (fun hm=>rfl) ?_
  intro E hE
  refine Runs.sA 1 [.code (C_41 2),.code (C_41 3)] ?_
  refine Runs.sR hE ⟨[(1,(.op 0 0 0)),(2,(.op 16 0 0))],[(0,vO 4 (TRat.cells x)),(16,vO 4 [(aB false),.nil,(aB false),.nil])],32⟩ (C_41 2) [] [] (kp [1,2]) (kq [0,16]) 32 [] trivial ?_
  refine Runs.sA 1 [.code (C_41 6),.code (C_41 7)] ?_
  obtain ⟨ropposite,hr,h⟩:=bindSome h
  obtain ⟨rbelow,hr2,h⟩:=bindSome h
  obtain ⟨rfraction,hr3,h⟩:=bindSome h
  refine Runs.sR hE ⟨[(2,(.op 16 0 0))],[(16,vO 4 (TRat.cells rfraction))],144⟩ (C_41 6) [(2,⟨[],true,(.agg (TInt.cells ropposite)),[],0,false,none⟩),(4,⟨[],true,(.agg (TInt.cells rbelow)),[],0,false,none⟩),(5,⟨[],true,(.agg (TRat.cells rfraction)),[],0,false,none⟩)] [] (kp [2]) (kq [16]) 144 [0 < 1,Sound Try.prog 130 [(.agg (TInt.cells x.f_Num))] [] 0 (.agg (TInt.cells ropposite)) [],0 < 1,Sound Try.prog 85 [(.agg (TRat.cells x))] [] 0 (.agg (TInt.cells rbelow)) [],Sound Try.prog 86 [(.agg (TInt.cells ropposite)),(.agg (TInt.cells rbelow))] [] 0 (.agg (TRat.cells rfraction)) [],0 < 1] ⟨o1,(g_e_opposite_ok N x.f_Num ropposite hr),o1,(g_e_below_ok N x rbelow hr2),(g_e_fraction_ok N ropposite rbelow rfraction hr3),o1,trivial⟩ ?_
  obtain rfl:=Option.some.inj h
  refine Runs.sW hE ⟨[(2,(.op 16 0 0))],[(16,vO 4 (TRat.cells rfraction))],144⟩ [] (kp [2]) (kq [16]) 144 [] trivial ?_
  exact Runs.sT Try.f104 [16] [0 < 1] ⟨o1,trivial⟩
noncomputable def C_46 (n:Nat):Code:=cat (bodyOf Try.f83) (pth n)
theorem g_e_isZero_ok (N:Nat) (x:TRat) (r:Bool) (h:g_e_isZero N x = some r):Sound Try.prog 83 [(.agg (TRat.cells x))] [] 0 (aB r) []:=by
  unfold g_e_isZero at h
  refine Sound.of_runs (fu:=Try.f83) (c:=C_46 1) (nt:=7) (by kernel_rfl) (by kernel_rfl) (by kernel_rfl) (by kernel_rfl) (fun hm=>rfl) ?_
  intro E hE
  refine Runs.sA 1 [.code (C_46 2),.code (C_46 3)] ?_
  refine Runs.sR hE ⟨[(1,(.op 0 0 0))],[(0,vO 4 (TRat.cells x))],32⟩ (C_46 2) [] [] (kp [1]) (kq [0]) 32 [] trivial ?_
  refine Runs.sA 1 [.code (C_46 6),.code (C_46 7)] ?_
  obtain ⟨rsign,hr,h⟩:=bindSome h
  refine Runs.sR hE ⟨[(2,(aB (rsign == 0)))],[],112⟩ (C_46 6) [(2,⟨[],true,(aI rsign),[],0,false,none⟩)] [] (kp [2]) [] 112 [0 < 1,Sound Try.prog 109 [(.agg (TInt.cells x.f_Num))] [] 0 (aI rsign) []] ⟨o1,(g_e_sign_ok N x.f_Num rsign hr),trivial⟩ ?_
  obtain rfl:=Option.some.inj h
  refine Runs.sW hE ⟨[(2,(aB (rsign == 0)))],[],112⟩ [] (kp [2]) [] 112 [] trivial ?_
  exact Runs.sT Try.f83 [] [] trivial
noncomputable def C_47 (n:Nat):Code:=cat (bodyOf Try.f84) (pth n)
theorem g_e_lowest_ok (N:Nat) (x:TRat) (r:TRat) (h:g_e_lowest N x = some r):Sound Try.prog 84 [(.agg (TRat.cells x))] [] 0 (.agg (TRat.cells r)) []:=by
  unfold g_e_lowest at h
  refine Sound.of_runs (fu:=Try.f84) (c:=C_47 1) (nt:=8) (by kernel_rfl) (by kernel_rfl) (by kernel_rfl) (by kernel_rfl) (fun hm=>rfl) ?_
  intro E hE
  refine Runs.sA 1 [.code (C_47 2),.code (C_47 3)] ?_
  refine Runs.sR hE ⟨[(1,(.op 0 0 0)),(2,(.op 16 0 0))],[(0,vO 4 (TRat.cells x)),(16,vO 4 [(aB false),.nil,(aB false),.nil])],32⟩ (C_47 2) [] [] (kp [1,2]) (kq [0,16]) 32 [] trivial ?_
  refine Runs.sA 1 [.code (C_47 6),.code (C_47 7)] ?_
  obtain ⟨rbelow,hr,h⟩:=bindSome h
  obtain ⟨rfraction,hr2,h⟩:=bindSome h
  refine Runs.sR hE ⟨[(2,(.op 16 0 0))],[(16,vO 4 (TRat.cells rfraction))],128⟩ (C_47 6) [(3,⟨[],true,(.agg (TInt.cells rbelow)),[],0,false,none⟩),(4,⟨[],true,(.agg (TRat.cells rfraction)),[],0,false,none⟩)] [] (kp [2]) (kq [16]) 128 [0 < 1,0 < 1,Sound Try.prog 85 [(.agg (TRat.cells x))] [] 0 (.agg (TInt.cells rbelow)) [],Sound Try.prog 86 [(.agg (TInt.cells x.f_Num)),(.agg (TInt.cells rbelow))] [] 0 (.agg (TRat.cells rfraction)) [],0 < 1] ⟨o1,o1,(g_e_below_ok N x rbelow hr),(g_e_fraction_ok N x.f_Num rbelow rfraction hr2),o1,trivial⟩ ?_
  obtain rfl:=Option.some.inj h
  refine Runs.sW hE ⟨[(2,(.op 16 0 0))],[(16,vO 4 (TRat.cells rfraction))],128⟩ [] (kp [2]) (kq [16]) 128 [] trivial ?_
  exact Runs.sT Try.f84 [16] [0 < 1] ⟨o1,trivial⟩
noncomputable def C_49 (n:Nat):Code:=cat (bodyOf Try.f118) (pth n)
theorem g_e_times_L2_ok (N:Nat) (a:List Int) (b:List Int) (x:Int) (K_g_e_times_L1:(List Int)→Int→Option ((List Int)))
    (hK_g_e_times_L1:∀ (out:List Int) (x:Int) (r:(List Int)),K_g_e_times_L1 out x = some r→∀ E,EnvOk E 0→Runs Try.prog E 118 67 (SPost E [] (encL (cU .u16) 0 r)) [.code (C_49 116),.inLoop (C_49 116),.inBlock 0,.code (C_49 15)] ⟨[(1,(encL (cU .u16) 0 b)),(5,(.os 0 0 out.length)),(17,(encL (cU .u16) 0 a)),(18,(aI ((a.length:Nat):Int))),(19,(aI x))],[(0,aO 1 (cU .u16) 0 out)],1⟩) (fuel:Nat):∀ (out2:List Int) (carry:Int) (x2:Int) (r:(List Int)),g_e_times_L2 N a b x K_g_e_times_L1 fuel out2 carry x2 = some r→∀ E,EnvOk E 0→Runs Try.prog E 118 67 (SPost E [] (encL (cU .u16) 0 r)) [.code (C_49 119604),.inLoop (C_49 119604),.inBlock 2,.code (C_49 14951),.inBlock 1,.code (C_49 935),.inLoop (C_49 116),.inBlock 0,.code (C_49 15)] ⟨[(1,(encL (cU .u16) 0 b)),(5,(.os 0 0 out2.length)),(6,(aI x)),(7,(.atom (.int .u16 (a.getD ((x).toNat) 0)))),(8,(.atom (.int .u32 carry))),(17,(encL (cU .u16) 0 a)),(18,(aI ((a.length:Nat):Int))),(19,(aI x)),(24,(encL (cU .u16) 0 b)),(25,(aI ((b.length:Nat):Int))),(26,(aI x2))],[(0,aO 1 (cU .u16) 0 out2)],1⟩:=by
  induction fuel with
  | zero=>intro _ _ _ r h; rw [g_e_times_L2.eq_1] at h; cases h
  | succ fuel ih =>
    intro out2 carry x2 r h E hE
    rw [g_e_times_L2.eq_2] at h
    refine Runs.sA 1 [.code (C_49 239208),.code (C_49 239209),.inLoop (C_49 119604),.inBlock 2,.code (C_49 14951),.inBlock 1,.code (C_49 935),.inLoop (C_49 116),.inBlock 0,.code (C_49 15)] ?_
    refine Runs.sR hE ⟨[(1,(encL (cU .u16) 0 b)),(5,(.os 0 0 out2.length)),(6,(aI x)),(7,(.atom (.int .u16 (a.getD ((x).toNat) 0)))),(8,(.atom (.int .u32 carry))),(17,(encL (cU .u16) 0 a)),(18,(aI ((a.length:Nat):Int))),(19,(aI x)),(24,(encL (cU .u16) 0 b)),(25,(aI ((b.length:Nat):Int))),(26,(aI x2)),(27,(aB (decide (x2 < ((b.length:Nat):Int)))))],[(0,aO 1 (cU .u16) 0 out2)],17⟩ (C_49 239208) [] [] (kp [1,5,6,7,8,17,18,19,24,25,26,27]) (kq [0]) 17 [] trivial ?_
    refine Runs.sA 1 [.code (C_49 478418),.code (C_49 478419),.inLoop (C_49 119604),.inBlock 2,.code (C_49 14951),.inBlock 1,.code (C_49 935),.inLoop (C_49 116),.inBlock 0,.code (C_49 15)] ?_
    refine Runs.sC 27 (C_49 956836) (C_49 956837) (decide (x2 < ((b.length:Nat):Int))) (fun hq3=>?_) (fun hq3=>?_)
    · have h:=condT h hq3
      refine Runs.sA 4 [.code (C_49 3827352),.code (C_49 3827353),.inBlock 3,.code (C_49 956839),.inLoop (C_49 119604),.inBlock 2,.code (C_49 14951),.inBlock 1,.code (C_49 935),.inLoop (C_49 116),.inBlock 0,.code (C_49 15)] ?_
      obtain ⟨c3,h⟩:=ifSome h
      refine Runs.sR hE ⟨[(1,(encL (cU .u16) 0 b)),(5,(.os 0 0 out2.length)),(6,(aI x)),(7,(.atom (.int .u16 (a.getD ((x).toNat) 0)))),(8,(.atom (.int .u32 carry))),(9,(aI x2)),(10,(.atom (.int .u16 (b.getD ((x2).toNat) 0)))),(17,(encL (cU .u16) 0 a)),(18,(aI ((a.length:Nat):Int))),(19,(aI x)),(24,(encL (cU .u16) 0 b)),(25,(aI ((b.length:Nat):Int))),(26,(aI x2))],[(0,aO 1 (cU .u16) 0 out2)],97⟩ (C_49 3827352) [] [] (kp [1,5,6,7,8,9,10,17,18,19,24,25,26]) (kq [0]) 97 [0≤x2∧x2 < ((b.length:Nat):Int)] ⟨c3,trivial⟩ ?_
      refine Runs.sA 1 [.code (C_49 7654706),.code (C_49 7654707),.inBlock 3,.code (C_49 956839),.inLoop (C_49 119604),.inBlock 2,.code (C_49 14951),.inBlock 1,.code (C_49 935),.inLoop (C_49 116),.inBlock 0,.code (C_49 15)] ?_
      obtain ⟨c4,h⟩:=ifSome h
      refine Runs.sR hE ⟨[(1,(encL (cU .u16) 0 b)),(5,(.os 0 0 out2.length)),(6,(aI x)),(7,(.atom (.int .u16 (a.getD ((x).toNat) 0)))),(8,(.atom (.int .u32 (IntKind.u32.wrap (carry+(IntKind.u32.wrap ((IntKind.u32.wrap ((IntKind.u32.wrap ((a.getD ((x).toNat) 0))) * (IntKind.u32.wrap ((b.getD ((x2).toNat) 0)))))+(IntKind.u32.wrap ((out2.getD ((w64 (x+x2)).toNat) 0)))))))))),(9,(aI x2)),(17,(encL (cU .u16) 0 a)),(18,(aI ((a.length:Nat):Int))),(19,(aI x)),(24,(encL (cU .u16) 0 b)),(25,(aI ((b.length:Nat):Int))),(26,(aI x2))],[(0,aO 1 (cU .u16) 0 out2)],353⟩ (C_49 7654706) [] [] (kp [1,5,6,7,8,9,17,18,19,24,25,26]) (kq [0]) 353 [0≤(w64 (x+x2))∧(w64 (x+x2)) < ((out2.length:Nat):Int),(w64 (x+x2)).toNat < out2.length] ⟨c4,(ltOf c4),trivial⟩ ?_
      refine Runs.sA 1 [.code (C_49 15309414),.code (C_49 15309415),.inBlock 3,.code (C_49 956839),.inLoop (C_49 119604),.inBlock 2,.code (C_49 14951),.inBlock 1,.code (C_49 935),.inLoop (C_49 116),.inBlock 0,.code (C_49 15)] ?_
      refine Runs.sR hE ⟨[(1,(encL (cU .u16) 0 b)),(5,(.os 0 0 ((out2.set ((w64 (x+x2)).toNat) (IntKind.u16.wrap ((IntKind.u32.wrap (carry+(IntKind.u32.wrap ((IntKind.u32.wrap ((IntKind.u32.wrap ((a.getD ((x).toNat) 0))) * (IntKind.u32.wrap ((b.getD ((x2).toNat) 0)))))+(IntKind.u32.wrap ((out2.getD ((w64 (x+x2)).toNat) 0)))))))))).length))),(6,(aI x)),(7,(.atom (.int .u16 (a.getD ((x).toNat) 0)))),(8,(.atom (.int .u32 (IntKind.u32.wrap (carry+(IntKind.u32.wrap ((IntKind.u32.wrap ((IntKind.u32.wrap ((a.getD ((x).toNat) 0))) * (IntKind.u32.wrap ((b.getD ((x2).toNat) 0)))))+(IntKind.u32.wrap ((out2.getD ((w64 (x+x2)).toNat) 0)))))))))),(17,(encL (cU .u16) 0 a)),(18,(aI ((a.length:Nat):Int))),(19,(aI x)),(24,(encL (cU .u16) 0 b)),(25,(aI ((b.length:Nat):Int))),(26,(aI x2))],[(0,aO 1 (cU .u16) 0 (out2.set ((w64 (x+x2)).toNat) (IntKind.u16.wrap ((IntKind.u32.wrap (carry+(IntKind.u32.wrap ((IntKind.u32.wrap ((IntKind.u32.wrap ((a.getD ((x).toNat) 0))) * (IntKind.u32.wrap ((b.getD ((x2).toNat) 0)))))+(IntKind.u32.wrap ((out2.getD ((w64 (x+x2)).toNat) 0)))))))))))],481⟩ (C_49 15309414) [] [] (kp [1] ++ [(5,.osl ((out2.set ((w64 (x+x2)).toNat) (IntKind.u16.wrap ((IntKind.u32.wrap (carry+(IntKind.u32.wrap ((IntKind.u32.wrap ((IntKind.u32.wrap ((a.getD ((x).toNat) 0))) * (IntKind.u32.wrap ((b.getD ((x2).toNat) 0)))))+(IntKind.u32.wrap ((out2.getD ((w64 (x+x2)).toNat) 0)))))))))).length))] ++ kp [6,7,8,17,18,19,24,25,26]) [(0,.arr 0 ((out2.set ((w64 (x+x2)).toNat) (IntKind.u16.wrap ((IntKind.u32.wrap (carry+(IntKind.u32.wrap ((IntKind.u32.wrap ((IntKind.u32.wrap ((a.getD ((x).toNat) 0))) * (IntKind.u32.wrap ((b.getD ((x2).toNat) 0)))))+(IntKind.u32.wrap ((out2.getD ((w64 (x+x2)).toNat) 0)))))))))).length) (fun zi=>(cU .u16) ((out2.set ((w64 (x+x2)).toNat) (IntKind.u16.wrap ((IntKind.u32.wrap (carry+(IntKind.u32.wrap ((IntKind.u32.wrap ((IntKind.u32.wrap ((a.getD ((x).toNat) 0))) * (IntKind.u32.wrap ((b.getD ((x2).toNat) 0)))))+(IntKind.u32.wrap ((out2.getD ((w64 (x+x2)).toNat) 0)))))))))).getD zi 0)))] 481 [0≤(w64 (x+x2))∧(w64 (x+x2)) < ((out2.length:Nat):Int),(w64 (x+x2)).toNat < out2.length,out2.length = (out2.set ((w64 (x+x2)).toNat) (IntKind.u16.wrap ((IntKind.u32.wrap (carry+(IntKind.u32.wrap ((IntKind.u32.wrap ((IntKind.u32.wrap ((a.getD ((x).toNat) 0))) * (IntKind.u32.wrap ((b.getD ((x2).toNat) 0)))))+(IntKind.u32.wrap ((out2.getD ((w64 (x+x2)).toNat) 0)))))))))).length,out2.length = (out2.set ((w64 (x+x2)).toNat) (IntKind.u16.wrap ((IntKind.u32.wrap (carry+(IntKind.u32.wrap ((IntKind.u32.wrap ((IntKind.u32.wrap ((a.getD ((x).toNat) 0))) * (IntKind.u32.wrap ((b.getD ((x2).toNat) 0)))))+(IntKind.u32.wrap ((out2.getD ((w64 (x+x2)).toNat) 0)))))))))).length,∀ zi,zi < (out2.set ((w64 (x+x2)).toNat) (IntKind.u16.wrap ((IntKind.u32.wrap (carry+(IntKind.u32.wrap ((IntKind.u32.wrap ((IntKind.u32.wrap ((a.getD ((x).toNat) 0))) * (IntKind.u32.wrap ((b.getD ((x2).toNat) 0)))))+(IntKind.u32.wrap ((out2.getD ((w64 (x+x2)).toNat) 0)))))))))).length→(fun zi=>(cU .u16) ((out2.set ((w64 (x+x2)).toNat) (IntKind.u16.wrap ((IntKind.u32.wrap (carry+(IntKind.u32.wrap ((IntKind.u32.wrap ((IntKind.u32.wrap ((a.getD ((x).toNat) 0))) * (IntKind.u32.wrap ((b.getD ((x2).toNat) 0)))))+(IntKind.u32.wrap ((out2.getD ((w64 (x+x2)).toNat) 0)))))))))).getD zi 0)) zi = ((fun zm=>if zm = (w64 (x+x2)).toNat then [(.atom (.int .u16 (IntKind.u16.wrap ((IntKind.u32.wrap (carry+(IntKind.u32.wrap ((IntKind.u32.wrap ((IntKind.u32.wrap ((a.getD ((x).toNat) 0))) * (IntKind.u32.wrap ((b.getD ((x2).toNat) 0)))))+(IntKind.u32.wrap ((out2.getD ((w64 (x+x2)).toNat) 0)))))))))))] else (fun zi=>(cU .u16) (out2.getD zi 0)) zm)) zi] ⟨c4,(ltOf c4),(len_set_raw rfl),(len_set_raw rfl),(get_set_raw (cU .u16) 0 out2 ((w64 (x+x2)).toNat) (IntKind.u16.wrap ((IntKind.u32.wrap (carry+(IntKind.u32.wrap ((IntKind.u32.wrap ((IntKind.u32.wrap ((a.getD ((x).toNat) 0))) * (IntKind.u32.wrap ((b.getD ((x2).toNat) 0)))))+(IntKind.u32.wrap ((out2.getD ((w64 (x+x2)).toNat) 0))))))))) (fun _ _=>rfl)),trivial⟩ ?_
      refine Runs.sR hE ⟨[(1,(encL (cU .u16) 0 b)),(5,(.os 0 0 ((out2.set ((w64 (x+x2)).toNat) (IntKind.u16.wrap ((IntKind.u32.wrap (carry+(IntKind.u32.wrap ((IntKind.u32.wrap ((IntKind.u32.wrap ((a.getD ((x).toNat) 0))) * (IntKind.u32.wrap ((b.getD ((x2).toNat) 0)))))+(IntKind.u32.wrap ((out2.getD ((w64 (x+x2)).toNat) 0)))))))))).length))),(6,(aI x)),(7,(.atom (.int .u16 (a.getD ((x).toNat) 0)))),(8,(.atom (.int .u32 (shrI .u32 (IntKind.u32.wrap (carry+(IntKind.u32.wrap ((IntKind.u32.wrap ((IntKind.u32.wrap ((a.getD ((x).toNat) 0))) * (IntKind.u32.wrap ((b.getD ((x2).toNat) 0)))))+(IntKind.u32.wrap ((out2.getD ((w64 (x+x2)).toNat) 0))))))) 16)))),(17,(encL (cU .u16) 0 a)),(18,(aI ((a.length:Nat):Int))),(19,(aI x)),(24,(encL (cU .u16) 0 b)),(25,(aI ((b.length:Nat):Int))),(26,(aI x2))],[(0,aO 1 (cU .u16) 0 (out2.set ((w64 (x+x2)).toNat) (IntKind.u16.wrap ((IntKind.u32.wrap (carry+(IntKind.u32.wrap ((IntKind.u32.wrap ((IntKind.u32.wrap ((a.getD ((x).toNat) 0))) * (IntKind.u32.wrap ((b.getD ((x2).toNat) 0)))))+(IntKind.u32.wrap ((out2.getD ((w64 (x+x2)).toNat) 0)))))))))))],529⟩ (C_49 15309415) [] [] (kp [1,5,6,7,8,17,18,19,24,25,26]) (kq [0]) 529 [(0:Int)≤16] ⟨(by decide),trivial⟩ ?_
      refine Runs.sA 1 [.code (C_49 956839),.inLoop (C_49 119604),.inBlock 2,.code (C_49 14951),.inBlock 1,.code (C_49 935),.inLoop (C_49 116),.inBlock 0,.code (C_49 15)] ?_
      refine Runs.sR hE ⟨[(1,(encL (cU .u16) 0 b)),(5,(.os 0 0 ((out2.set ((w64 (x+x2)).toNat) (IntKind.u16.wrap ((IntKind.u32.wrap (carry+(IntKind.u32.wrap ((IntKind.u32.wrap ((IntKind.u32.wrap ((a.getD ((x).toNat) 0))) * (IntKind.u32.wrap ((b.getD ((x2).toNat) 0)))))+(IntKind.u32.wrap ((out2.getD ((w64 (x+x2)).toNat) 0)))))))))).length))),(6,(aI x)),(7,(.atom (.int .u16 (a.getD ((x).toNat) 0)))),(8,(.atom (.int .u32 (shrI .u32 (IntKind.u32.wrap (carry+(IntKind.u32.wrap ((IntKind.u32.wrap ((IntKind.u32.wrap ((a.getD ((x).toNat) 0))) * (IntKind.u32.wrap ((b.getD ((x2).toNat) 0)))))+(IntKind.u32.wrap ((out2.getD ((w64 (x+x2)).toNat) 0))))))) 16)))),(17,(encL (cU .u16) 0 a)),(18,(aI ((a.length:Nat):Int))),(19,(aI x)),(24,(encL (cU .u16) 0 b)),(25,(aI ((b.length:Nat):Int))),(26,(aI (w64 (x2+1))))],[(0,aO 1 (cU .u16) 0 (out2.set ((w64 (x+x2)).toNat) (IntKind.u16.wrap ((IntKind.u32.wrap (carry+(IntKind.u32.wrap ((IntKind.u32.wrap ((IntKind.u32.wrap ((a.getD ((x).toNat) 0))) * (IntKind.u32.wrap ((b.getD ((x2).toNat) 0)))))+(IntKind.u32.wrap ((out2.getD ((w64 (x+x2)).toNat) 0)))))))))))],561⟩ (C_49 956839) [] [] (kp [1,5,6,7,8,17,18,19,24,25,26]) (kq [0]) 561 [] trivial ?_
      refine Runs.sA 1 [.code (C_49 119604),.inLoop (C_49 119604),.inBlock 2,.code (C_49 14951),.inBlock 1,.code (C_49 935),.inLoop (C_49 116),.inBlock 0,.code (C_49 15)] ?_
      exact Runs.sW hE _ [] (kp [1,5,6,7,8,17,18,19,24,25,26]) (kq [0]) 1 [] trivial (ih (out2.set ((w64 (x+x2)).toNat) (IntKind.u16.wrap ((IntKind.u32.wrap (carry+(IntKind.u32.wrap ((IntKind.u32.wrap ((IntKind.u32.wrap ((a.getD ((x).toNat) 0))) * (IntKind.u32.wrap ((b.getD ((x2).toNat) 0)))))+(IntKind.u32.wrap ((out2.getD ((w64 (x+x2)).toNat) 0)))))))))) (shrI .u32 (IntKind.u32.wrap (carry+(IntKind.u32.wrap ((IntKind.u32.wrap ((IntKind.u32.wrap ((a.getD ((x).toNat) 0))) * (IntKind.u32.wrap ((b.getD ((x2).toNat) 0)))))+(IntKind.u32.wrap ((out2.getD ((w64 (x+x2)).toNat) 0))))))) 16) (w64 (x2+1)) _ h E hE)
    · have h:=condF h hq3
      refine Runs.sA 1 [.code (C_49 14951),.inBlock 1,.code (C_49 935),.inLoop (C_49 116),.inBlock 0,.code (C_49 15)] ?_
      obtain ⟨c5,h⟩:=ifSome h
      refine Runs.sR hE ⟨[(1,(encL (cU .u16) 0 b)),(5,(.os 0 0 ((out2.set ((w64 (x+((b.length:Nat):Int))).toNat) (IntKind.u16.wrap (carry))).length))),(17,(encL (cU .u16) 0 a)),(18,(aI ((a.length:Nat):Int))),(19,(aI x))],[(0,aO 1 (cU .u16) 0 (out2.set ((w64 (x+((b.length:Nat):Int))).toNat) (IntKind.u16.wrap (carry))))],161⟩ (C_49 14951) [] [] (kp [1] ++ [(5,.osl ((out2.set ((w64 (x+((b.length:Nat):Int))).toNat) (IntKind.u16.wrap (carry))).length))] ++ kp [17,18,19]) [(0,.arr 0 ((out2.set ((w64 (x+((b.length:Nat):Int))).toNat) (IntKind.u16.wrap (carry))).length) (fun zi=>(cU .u16) ((out2.set ((w64 (x+((b.length:Nat):Int))).toNat) (IntKind.u16.wrap (carry))).getD zi 0)))] 161 [0≤(w64 (x+((b.length:Nat):Int)))∧(w64 (x+((b.length:Nat):Int))) < ((out2.length:Nat):Int),(w64 (x+((b.length:Nat):Int))).toNat < out2.length,out2.length = (out2.set ((w64 (x+((b.length:Nat):Int))).toNat) (IntKind.u16.wrap (carry))).length,out2.length = (out2.set ((w64 (x+((b.length:Nat):Int))).toNat) (IntKind.u16.wrap (carry))).length,∀ zi,zi < (out2.set ((w64 (x+((b.length:Nat):Int))).toNat) (IntKind.u16.wrap (carry))).length→(fun zi=>(cU .u16) ((out2.set ((w64 (x+((b.length:Nat):Int))).toNat) (IntKind.u16.wrap (carry))).getD zi 0)) zi = ((fun zm=>if zm = (w64 (x+((b.length:Nat):Int))).toNat then [(.atom (.int .u16 (IntKind.u16.wrap (carry))))] else (fun zi=>(cU .u16) (out2.getD zi 0)) zm)) zi] ⟨c5,(ltOf c5),(len_set_raw rfl),(len_set_raw rfl),(get_set_raw (cU .u16) 0 out2 ((w64 (x+((b.length:Nat):Int))).toNat) (IntKind.u16.wrap (carry)) (fun _ _=>rfl)),trivial⟩ ?_
      refine Runs.sA 1 [.code (C_49 935),.inLoop (C_49 116),.inBlock 0,.code (C_49 15)] ?_
      refine Runs.sR hE ⟨[(1,(encL (cU .u16) 0 b)),(5,(.os 0 0 ((out2.set ((w64 (x+((b.length:Nat):Int))).toNat) (IntKind.u16.wrap (carry))).length))),(17,(encL (cU .u16) 0 a)),(18,(aI ((a.length:Nat):Int))),(19,(aI (w64 (x+1))))],[(0,aO 1 (cU .u16) 0 (out2.set ((w64 (x+((b.length:Nat):Int))).toNat) (IntKind.u16.wrap (carry))))],193⟩ (C_49 935) [] [] (kp [1,5,17,18,19]) (kq [0]) 193 [] trivial ?_
      refine Runs.sA 1 [.code (C_49 116),.inLoop (C_49 116),.inBlock 0,.code (C_49 15)] ?_
      exact Runs.sW hE _ [] (kp [1,5,17,18,19]) (kq [0]) 1 [] trivial (hK_g_e_times_L1 (out2.set ((w64 (x+((b.length:Nat):Int))).toNat) (IntKind.u16.wrap (carry))) (w64 (x+1)) _ h E hE)
theorem g_e_times_L1_ok (N:Nat) (a:List Int) (b:List Int) (fuel:Nat):∀ (out:List Int) (x:Int) (r:(List Int)),g_e_times_L1 N a b fuel out x = some r→∀ E,EnvOk E 0→Runs Try.prog E 118 67 (SPost E [] (encL (cU .u16) 0 r)) [.code (C_49 116),.inLoop (C_49 116),.inBlock 0,.code (C_49 15)] ⟨[(1,(encL (cU .u16) 0 b)),(5,(.os 0 0 out.length)),(17,(encL (cU .u16) 0 a)),(18,(aI ((a.length:Nat):Int))),(19,(aI x))],[(0,aO 1 (cU .u16) 0 out)],1⟩:=by
  induction fuel with
  | zero=>intro _ _ r h; rw [g_e_times_L1.eq_1] at h; cases h
  | succ fuel ih =>
    intro out x r h E hE
    rw [g_e_times_L1.eq_2] at h
    refine Runs.sA 1 [.code (C_49 232),.code (C_49 233),.inLoop (C_49 116),.inBlock 0,.code (C_49 15)] ?_
    refine Runs.sR hE ⟨[(1,(encL (cU .u16) 0 b)),(5,(.os 0 0 out.length)),(17,(encL (cU .u16) 0 a)),(18,(aI ((a.length:Nat):Int))),(19,(aI x)),(20,(aB (decide (x < ((a.length:Nat):Int)))))],[(0,aO 1 (cU .u16) 0 out)],17⟩ (C_49 232) [] [] (kp [1,5,17,18,19,20]) (kq [0]) 17 [] trivial ?_
    refine Runs.sA 1 [.code (C_49 466),.code (C_49 467),.inLoop (C_49 116),.inBlock 0,.code (C_49 15)] ?_
    refine Runs.sC 20 (C_49 932) (C_49 933) (decide (x < ((a.length:Nat):Int))) (fun hq2=>?_) (fun hq2=>?_)
    · have h:=condT h hq2
      refine Runs.sA 4 [.code (C_49 3736),.code (C_49 3737),.inBlock 1,.code (C_49 935),.inLoop (C_49 116),.inBlock 0,.code (C_49 15)] ?_
      obtain ⟨c2,h⟩:=ifSome h
      refine Runs.sR hE ⟨[(1,(encL (cU .u16) 0 b)),(5,(.os 0 0 out.length)),(6,(aI x)),(7,(.atom (.int .u16 (a.getD ((x).toNat) 0)))),(17,(encL (cU .u16) 0 a)),(18,(aI ((a.length:Nat):Int))),(19,(aI x))],[(0,aO 1 (cU .u16) 0 out)],97⟩ (C_49 3736) [] [] (kp [1,5,6,7,17,18,19]) (kq [0]) 97 [0≤x∧x < ((a.length:Nat):Int)] ⟨c2,trivial⟩ ?_
      refine Runs.sA 1 [.code (C_49 7474),.code (C_49 7475),.inBlock 1,.code (C_49 935),.inLoop (C_49 116),.inBlock 0,.code (C_49 15)] ?_
      refine Runs.sR hE ⟨[(1,(encL (cU .u16) 0 b)),(5,(.os 0 0 out.length)),(6,(aI x)),(7,(.atom (.int .u16 (a.getD ((x).toNat) 0)))),(8,(.atom (.int .u32 0))),(17,(encL (cU .u16) 0 a)),(18,(aI ((a.length:Nat):Int))),(19,(aI x))],[(0,aO 1 (cU .u16) 0 out)],113⟩ (C_49 7474) [] [] (kp [1,5,6,7,8,17,18,19]) (kq [0]) 113 [] trivial ?_
      refine Runs.sA 2 [.code (C_49 29900),.code (C_49 29901),.code (C_49 14951),.inBlock 1,.code (C_49 935),.inLoop (C_49 116),.inBlock 0,.code (C_49 15)] ?_
      refine Runs.sR hE ⟨[(1,(encL (cU .u16) 0 b)),(5,(.os 0 0 out.length)),(6,(aI x)),(7,(.atom (.int .u16 (a.getD ((x).toNat) 0)))),(8,(.atom (.int .u32 0))),(17,(encL (cU .u16) 0 a)),(18,(aI ((a.length:Nat):Int))),(19,(aI x)),(24,(encL (cU .u16) 0 b)),(25,(aI ((b.length:Nat):Int))),(26,(aI 0))],[(0,aO 1 (cU .u16) 0 out)],161⟩ (C_49 29900) [] [] (kp [1,5,6,7,8,17,18,19,24,25,26]) (kq [0]) 161 [] trivial ?_
      refine Runs.sA 2 [.code (C_49 119604),.inLoop (C_49 119604),.inBlock 2,.code (C_49 14951),.inBlock 1,.code (C_49 935),.inLoop (C_49 116),.inBlock 0,.code (C_49 15)] ?_
      exact Runs.sW hE _ [] (kp [1,5,6,7,8,17,18,19,24,25,26]) (kq [0]) 1 [] trivial (g_e_times_L2_ok N a b x (g_e_times_L1 N a b fuel) ih N out 0 0 _ h E hE)
    · have h:=condF h hq2
      refine Runs.sA 2 [.code (C_49 30),.code (C_49 31)] ?_
      obtain ⟨rtrim,hr,h⟩:=bindSome h
      refine Runs.sR hE ⟨[(4,(encL (cU .u16) 0 rtrim))],[],65⟩ (C_49 30) [(1,⟨[],true,(encL (cU .u16) 0 rtrim),[],0,true,none⟩)] [] (kp [4]) [] 65 [Sound Try.prog 112 [(encL (cU .u16) 0 out)] [] 0 (encL (cU .u16) 0 rtrim) [],0+out.length≤out.length] ⟨(g_e_trim_ok N out rtrim hr),z0,trivial⟩ ?_
      obtain rfl:=Option.some.inj h
      refine Runs.sW hE ⟨[(4,(encL (cU .u16) 0 rtrim))],[],65⟩ [] (kp [4]) [] 65 [] trivial ?_
      exact Runs.sT Try.f118 [] [] trivial
theorem g_e_times_ok (N:Nat) (a:List Int) (b:List Int) (r:(List Int)) (h:g_e_times N a b = some r):Sound Try.prog 118 [(encL (cU .u16) 0 a),(encL (cU .u16) 0 b)] [] 0 (encL (cU .u16) 0 r) []:=by
  unfold g_e_times at h
  refine Sound.of_runs (fu:=Try.f118) (c:=C_49 1) (nt:=67) (by kernel_rfl) (by kernel_rfl) (by kernel_rfl) (by kernel_rfl) (fun hm=>rfl) ?_
  intro E hE
  refine Runs.sA 1 [.code (C_49 2),.code (C_49 3)] ?_
  refine Runs.sR hE ⟨[(0,(encL (cU .u16) 0 a)),(1,(encL (cU .u16) 0 b))],[],16⟩ (C_49 2) [] [] (kp [0,1]) [] 16 [] trivial ?_
  refine Runs.sA 1 [.code (C_49 6),.code (C_49 7)] ?_
  obtain ⟨c,h⟩:=ifSome h
  refine Runs.sR hE ⟨[(0,(encL (cU .u16) 0 a)),(1,(encL (cU .u16) 0 b)),(5,(.os 96 0 ((List.replicate ((w64 (((a.length:Nat):Int)+((b.length:Nat):Int))).toNat) 0:List Int).length)))],[(96,aO 1 (cU .u16) 0 (List.replicate ((w64 (((a.length:Nat):Int)+((b.length:Nat):Int))).toNat) 0:List Int))],128⟩ (C_49 6) [] [] (kp [0,1] ++ [(5,.osl ((List.replicate ((w64 (((a.length:Nat):Int)+((b.length:Nat):Int))).toNat) 0:List Int).length))]) [(96,.arr 96 ((List.replicate ((w64 (((a.length:Nat):Int)+((b.length:Nat):Int))).toNat) 0:List Int).length) (fun zi=>(cU .u16) ((List.replicate ((w64 (((a.length:Nat):Int)+((b.length:Nat):Int))).toNat) 0:List Int).getD zi 0)))] 128 [0≤(w64 (((a.length:Nat):Int)+((b.length:Nat):Int))),(w64 (((a.length:Nat):Int)+((b.length:Nat):Int)))≤(w64 (((a.length:Nat):Int)+((b.length:Nat):Int))),(2:Int) * (w64 (((a.length:Nat):Int)+((b.length:Nat):Int)))≤281474976710656,(w64 (((a.length:Nat):Int)+((b.length:Nat):Int)))≤9223372036854775807,(w64 (((a.length:Nat):Int)+((b.length:Nat):Int))).toNat = (List.replicate ((w64 (((a.length:Nat):Int)+((b.length:Nat):Int))).toNat) 0:List Int).length,(w64 (((a.length:Nat):Int)+((b.length:Nat):Int))).toNat = (List.replicate ((w64 (((a.length:Nat):Int)+((b.length:Nat):Int))).toNat) 0:List Int).length,∀ zi,zi < (List.replicate ((w64 (((a.length:Nat):Int)+((b.length:Nat):Int))).toNat) 0:List Int).length→(fun zi=>(cU .u16) ((List.replicate ((w64 (((a.length:Nat):Int)+((b.length:Nat):Int))).toNat) 0:List Int).getD zi 0)) zi = (fun _=>[(.atom (.int .u16 0))]) zi] ⟨c.1,(Int.le_refl _),c.2.1,c.2.2,(List.length_replicate).symm,(List.length_replicate).symm,(fun zq hzq=>get_rep (cU .u16) 0 0 ((w64 (((a.length:Nat):Int)+((b.length:Nat):Int))).toNat) zq hzq),trivial⟩ ?_
  refine Runs.sA 2 [.code (C_49 28),.code (C_49 29),.code (C_49 15)] ?_
  refine Runs.sR hE ⟨[(1,(encL (cU .u16) 0 b)),(5,(.os 96 0 ((List.replicate ((w64 (((a.length:Nat):Int)+((b.length:Nat):Int))).toNat) 0:List Int).length))),(17,(encL (cU .u16) 0 a)),(18,(aI ((a.length:Nat):Int))),(19,(aI 0))],[(96,aO 1 (cU .u16) 0 (List.replicate ((w64 (((a.length:Nat):Int)+((b.length:Nat):Int))).toNat) 0:List Int))],176⟩ (C_49 28) [] [] (kp [1,5,17,18,19]) (kq [96]) 176 [] trivial ?_
  refine Runs.sA 2 [.code (C_49 116),.inLoop (C_49 116),.inBlock 0,.code (C_49 15)] ?_
  exact Runs.sW hE _ [] (kp [1,5,17,18,19]) [(0,.keep 96)] 1 [] trivial (g_e_times_L1_ok N a b N (List.replicate ((w64 (((a.length:Nat):Int)+((b.length:Nat):Int))).toNat) 0:List Int) 0 _ h E hE)
noncomputable def C_48 (n:Nat):Code:=cat (bodyOf Try.f88) (pth n)
theorem g_e_Mul_ok (N:Nat) (a:TInt) (b:TInt) (r:TInt) (h:g_e_Mul N a b = some r):Sound Try.prog 88 [(.agg (TInt.cells a)),(.agg (TInt.cells b))] [] 0 (.agg (TInt.cells r)) []:=by
  unfold g_e_Mul at h
  refine Sound.of_runs (fu:=Try.f88) (c:=C_48 1) (nt:=18) (by kernel_rfl) (by kernel_rfl) (by kernel_rfl) (by kernel_rfl) (fun hm=>rfl) ?_
  intro E hE
  refine Runs.sA 1 [.code (C_48 2),.code (C_48 3)] ?_
  refine Runs.sR hE ⟨[(2,(.op 0 0 0)),(3,(.op 16 0 0)),(4,(.op 32 0 0))],[(0,vO 2 (TInt.cells a)),(16,vO 2 (TInt.cells b)),(32,vO 2 [(aB false),.nil])],48⟩ (C_48 2) [] [] (kp [2,3,4]) (kq [0,16,32]) 48 [] trivial ?_
  refine Runs.sA 1 [.code (C_48 6),.code (C_48 7)] ?_
  obtain ⟨rtrim,hr,h⟩:=bindSome h
  obtain ⟨rtrim2,hr2,h⟩:=bindSome h
  obtain ⟨rtimes,hr3,h⟩:=bindSome h
  obtain ⟨rsigned,hr4,h⟩:=bindSome h
  refine Runs.sR hE ⟨[(4,(.op 32 0 0))],[(32,vO 2 (TInt.cells rsigned))],272⟩ (C_48 6) [(7,⟨[],true,(encL (cU .u16) 0 rtrim),[],0,false,none⟩),(10,⟨[],true,(encL (cU .u16) 0 rtrim2),[],0,false,none⟩),(11,⟨[],true,(encL (cU .u16) 0 rtimes),[],0,false,none⟩),(12,⟨[],true,(.agg (TInt.cells rsigned)),[],0,false,none⟩)] [] (kp [4]) (kq [32]) 272 [0 < 1,0 < 1,0 < 1,Sound Try.prog 112 [(encL (cU .u16) 0 a.f_Limbs)] [] 0 (encL (cU .u16) 0 rtrim) [],0 < 1,Sound Try.prog 112 [(encL (cU .u16) 0 b.f_Limbs)] [] 0 (encL (cU .u16) 0 rtrim2) [],Sound Try.prog 118 [(encL (cU .u16) 0 rtrim),(encL (cU .u16) 0 rtrim2)] [] 0 (encL (cU .u16) 0 rtimes) [],Sound Try.prog 110 [(aB (!(a.f_Neg == b.f_Neg))),(encL (cU .u16) 0 rtimes)] [] 0 (.agg (TInt.cells rsigned)) [],0 < 1] ⟨o1,o1,o1,(g_e_trim_ok N a.f_Limbs rtrim hr),o1,(g_e_trim_ok N b.f_Limbs rtrim2 hr2),(g_e_times_ok N rtrim rtrim2 rtimes hr3),(g_e_signed_ok N (!(a.f_Neg == b.f_Neg)) rtimes rsigned hr4),o1,trivial⟩ ?_
  obtain rfl:=Option.some.inj h
  refine Runs.sW hE ⟨[(4,(.op 16 0 0))],[(16,vO 2 (TInt.cells rsigned))],272⟩ [] (kp [4]) [(16,.keep 32)] 272 [] trivial ?_
  exact Runs.sT Try.f88 [16] [0 < 1] ⟨o1,trivial⟩
noncomputable def C_51 (n:Nat):Code:=cat (bodyOf Try.f115) (pth n)
theorem g_e_plus_J3_ok (N:Nat) (a2:List Int) (b2:List Int) (out:List Int) (x:Int) (K_g_e_plus_L2:(List Int)→Int→Int→Option ((List Int)))
    (hK_g_e_plus_L2:∀ (out:List Int) (carry:Int) (x:Int) (r:(List Int)),K_g_e_plus_L2 out carry x = some r→∀ E,EnvOk E 0→Runs Try.prog E 115 56 (SPost E [] (encL (cU .u16) 0 r)) [.code (C_51 500),.inLoop (C_51 500),.inBlock 0,.code (C_51 63)] ⟨[(1,(encL (cU .u16) 0 b2)),(5,(.os 0 0 out.length)),(6,(.atom (.int .u32 carry))),(20,(encL (cU .u16) 0 a2)),(21,(aI ((a2.length:Nat):Int))),(22,(aI x))],[(0,aO 1 (cU .u16) 0 out)],1⟩) (carry2:Int) (r:(List Int)) (h:g_e_plus_J3 N a2 b2 out x K_g_e_plus_L2 carry2 = some r):∀ E,EnvOk E 0→Runs Try.prog E 115 56 (SPost E [] (encL (cU .u16) 0 r)) [.code (C_51 128206),.code (C_51 128207),.inBlock 1,.code (C_51 4007),.inLoop (C_51 500),.inBlock 0,.code (C_51 63)] ⟨[(1,(encL (cU .u16) 0 b2)),(5,(.os 0 0 out.length)),(6,(.atom (.int .u32 carry2))),(20,(encL (cU .u16) 0 a2)),(21,(aI ((a2.length:Nat):Int))),(22,(aI x))],[(0,aO 1 (cU .u16) 0 out)],1⟩:=by
  intro E hE
  unfold g_e_plus_J3 at h
  obtain ⟨c4,h⟩:=ifSome h
  refine Runs.sR hE ⟨[(1,(encL (cU .u16) 0 b2)),(5,(.os 65 0 ((out ++ ([(IntKind.u16.wrap (carry2))]:List Int)).length))),(6,(.atom (.int .u32 carry2))),(20,(encL (cU .u16) 0 a2)),(21,(aI ((a2.length:Nat):Int))),(22,(aI x))],[(65,aO 1 (cU .u16) 0 (out ++ ([(IntKind.u16.wrap (carry2))]:List Int)))],97⟩ (C_51 128206) [] [] (kp [1] ++ [(5,.osl ((out ++ ([(IntKind.u16.wrap (carry2))]:List Int)).length))] ++ kp [6,20,21,22]) [(65,.arr 65 ((out ++ ([(IntKind.u16.wrap (carry2))]:List Int)).length) (fun zi=>(cU .u16) ((out ++ ([(IntKind.u16.wrap (carry2))]:List Int)).getD zi 0)))] 97 [out.length = out.length,(out.length+1) * 2≤140737488355328,0+1≤1,∀ zi,zi < 1→AV.oneL ((fun zi=>([[(.atom (.int .u16 (IntKind.u16.wrap (carry2))))]]:List (List AV)).getD zi []) (addz 0 zi)) = true,(out.length+1) = (out ++ ([(IntKind.u16.wrap (carry2))]:List Int)).length,out.length+1 = (out ++ ([(IntKind.u16.wrap (carry2))]:List Int)).length,∀ zi,zi < (out ++ ([(IntKind.u16.wrap (carry2))]:List Int)).length→(fun zi=>(cU .u16) ((out ++ ([(IntKind.u16.wrap (carry2))]:List Int)).getD zi 0)) zi = ((fun zm=>if zm < out.length then (fun zi=>(cU .u16) (out.getD zi 0)) zm else (fun zi=>([[(.atom (.int .u16 (IntKind.u16.wrap (carry2))))]]:List (List AV)).getD zi []) (zm - out.length))) zi] ⟨rfl,c4,z0,(oneN rfl),(len_app_raw rfl rfl),(len_app_raw rfl rfl),(get_app_raw (cU .u16) 0 out ([(IntKind.u16.wrap (carry2))]:List Int) rfl (fun _ _=>rfl) (fun zq hzq=>get_chunk (cU .u16) 0 ([(IntKind.u16.wrap (carry2))]:List Int) zq hzq)),trivial⟩ ?_
  refine Runs.sR hE ⟨[(1,(encL (cU .u16) 0 b2)),(5,(.os 65 0 ((out ++ ([(IntKind.u16.wrap (carry2))]:List Int)).length))),(6,(.atom (.int .u32 (shrI .u32 carry2 16)))),(20,(encL (cU .u16) 0 a2)),(21,(aI ((a2.length:Nat):Int))),(22,(aI x))],[(65,aO 1 (cU .u16) 0 (out ++ ([(IntKind.u16.wrap (carry2))]:List Int)))],145⟩ (C_51 128207) [] [] (kp [1,5,6,20,21,22]) (kq [65]) 145 [(0:Int)≤16] ⟨(by decide),trivial⟩ ?_
  refine Runs.sA 1 [.code (C_51 4007),.inLoop (C_51 500),.inBlock 0,.code (C_51 63)] ?_
  refine Runs.sR hE ⟨[(1,(encL (cU .u16) 0 b2)),(5,(.os 65 0 ((out ++ ([(IntKind.u16.wrap (carry2))]:List Int)).length))),(6,(.atom (.int .u32 (shrI .u32 carry2 16)))),(20,(encL (cU .u16) 0 a2)),(21,(aI ((a2.length:Nat):Int))),(22,(aI (w64 (x+1))))],[(65,aO 1 (cU .u16) 0 (out ++ ([(IntKind.u16.wrap (carry2))]:List Int)))],177⟩ (C_51 4007) [] [] (kp [1,5,6,20,21,22]) (kq [65]) 177 [] trivial ?_
  refine Runs.sA 1 [.code (C_51 500),.inLoop (C_51 500),.inBlock 0,.code (C_51 63)] ?_
  exact Runs.sW hE _ [] (kp [1,5,6,20,21,22]) [(0,.keep 65)] 1 [] trivial (hK_g_e_plus_L2 (out ++ ([(IntKind.u16.wrap (carry2))]:List Int)) (shrI .u32 carry2 16) (w64 (x+1)) _ h E hE)
theorem g_e_plus_L2_ok (N:Nat) (a2:List Int) (b2:List Int) (fuel:Nat):∀ (out:List Int) (carry:Int) (x:Int) (r:(List Int)),g_e_plus_L2 N a2 b2 fuel out carry x = some r→∀ E,EnvOk E 0→Runs Try.prog E 115 56 (SPost E [] (encL (cU .u16) 0 r)) [.code (C_51 500),.inLoop (C_51 500),.inBlock 0,.code (C_51 63)] ⟨[(1,(encL (cU .u16) 0 b2)),(5,(.os 0 0 out.length)),(6,(.atom (.int .u32 carry))),(20,(encL (cU .u16) 0 a2)),(21,(aI ((a2.length:Nat):Int))),(22,(aI x))],[(0,aO 1 (cU .u16) 0 out)],1⟩:=by
  induction fuel with
  | zero=>intro _ _ _ r h; rw [g_e_plus_L2.eq_1] at h; cases h
  | succ fuel ih =>
    intro out carry x r h E hE
    rw [g_e_plus_L2.eq_2] at h
    refine Runs.sA 1 [.code (C_51 1000),.code (C_51 1001),.inLoop (C_51 500),.inBlock 0,.code (C_51 63)] ?_
    refine Runs.sR hE ⟨[(1,(encL (cU .u16) 0 b2)),(5,(.os 0 0 out.length)),(6,(.atom (.int .u32 carry))),(20,(encL (cU .u16) 0 a2)),(21,(aI ((a2.length:Nat):Int))),(22,(aI x)),(23,(aB (decide (x < ((a2.length:Nat):Int)))))],[(0,aO 1 (cU .u16) 0 out)],17⟩ (C_51 1000) [] [] (kp [1,5,6,20,21,22,23]) (kq [0]) 17 [] trivial ?_
    refine Runs.sA 1 [.code (C_51 2002),.code (C_51 2003),.inLoop (C_51 500),.inBlock 0,.code (C_51 63)] ?_
    refine Runs.sC 23 (C_51 4004) (C_51 4005) (decide (x < ((a2.length:Nat):Int))) (fun hq3=>?_) (fun hq3=>?_)
    · have h:=condT h hq3
      refine Runs.sA 4 [.code (C_51 16024),.code (C_51 16025),.inBlock 1,.code (C_51 4007),.inLoop (C_51 500),.inBlock 0,.code (C_51 63)] ?_
      obtain ⟨c2,h⟩:=ifSome h
      refine Runs.sR hE ⟨[(1,(encL (cU .u16) 0 b2)),(5,(.os 0 0 out.length)),(6,(.atom (.int .u32 carry))),(7,(aI x)),(8,(.atom (.int .u16 (a2.getD ((x).toNat) 0)))),(20,(encL (cU .u16) 0 a2)),(21,(aI ((a2.length:Nat):Int))),(22,(aI x))],[(0,aO 1 (cU .u16) 0 out)],97⟩ (C_51 16024) [] [] (kp [1,5,6,7,8,20,21,22]) (kq [0]) 97 [0≤x∧x < ((a2.length:Nat):Int)] ⟨c2,trivial⟩ ?_
      refine Runs.sA 1 [.code (C_51 32050),.code (C_51 32051),.inBlock 1,.code (C_51 4007),.inLoop (C_51 500),.inBlock 0,.code (C_51 63)] ?_
      refine Runs.sR hE ⟨[(1,(encL (cU .u16) 0 b2)),(5,(.os 0 0 out.length)),(6,(.atom (.int .u32 (IntKind.u32.wrap (carry+(IntKind.u32.wrap ((a2.getD ((x).toNat) 0)))))))),(7,(aI x)),(20,(encL (cU .u16) 0 a2)),(21,(aI ((a2.length:Nat):Int))),(22,(aI x))],[(0,aO 1 (cU .u16) 0 out)],177⟩ (C_51 32050) [] [] (kp [1,5,6,7,20,21,22]) (kq [0]) 177 [] trivial ?_
      refine Runs.sA 2 [.code (C_51 128204),.code (C_51 128205),.code (C_51 64103),.inBlock 1,.code (C_51 4007),.inLoop (C_51 500),.inBlock 0,.code (C_51 63)] ?_
      refine Runs.sR hE ⟨[(1,(encL (cU .u16) 0 b2)),(5,(.os 0 0 out.length)),(6,(.atom (.int .u32 (IntKind.u32.wrap (carry+(IntKind.u32.wrap ((a2.getD ((x).toNat) 0)))))))),(7,(aI x)),(20,(encL (cU .u16) 0 a2)),(21,(aI ((a2.length:Nat):Int))),(22,(aI x)),(34,(aB (decide (x < ((b2.length:Nat):Int)))))],[(0,aO 1 (cU .u16) 0 out)],241⟩ (C_51 128204) [] [] (kp [1,5,6,7,20,21,22,34]) (kq [0]) 241 [] trivial ?_
      refine Runs.sC 34 (C_51 256410) (C_51 256411) (decide (x < ((b2.length:Nat):Int))) (fun hq4=>?_) (fun hq4=>?_)
      · have h:=condT h hq4
        obtain ⟨c3,h⟩:=ifSome h
        refine Runs.sR hE ⟨[(1,(encL (cU .u16) 0 b2)),(5,(.os 0 0 out.length)),(6,(.atom (.int .u32 (IntKind.u32.wrap ((IntKind.u32.wrap (carry+(IntKind.u32.wrap ((a2.getD ((x).toNat) 0)))))+(IntKind.u32.wrap ((b2.getD ((x).toNat) 0)))))))),(20,(encL (cU .u16) 0 a2)),(21,(aI ((a2.length:Nat):Int))),(22,(aI x))],[(0,aO 1 (cU .u16) 0 out)],369⟩ (C_51 256410) [] [] (kp [1,5,6,20,21,22]) (kq [0]) 369 [0≤x∧x < ((b2.length:Nat):Int)] ⟨c3,trivial⟩ ?_
        refine Runs.sA 1 [.code (C_51 128206),.code (C_51 128207),.inBlock 1,.code (C_51 4007),.inLoop (C_51 500),.inBlock 0,.code (C_51 63)] ?_
        exact Runs.sW hE _ [] (kp [1,5,6,20,21,22]) (kq [0]) 1 [] trivial (g_e_plus_J3_ok N a2 b2 out x (g_e_plus_L2 N a2 b2 fuel) ih (IntKind.u32.wrap ((IntKind.u32.wrap (carry+(IntKind.u32.wrap ((a2.getD ((x).toNat) 0)))))+(IntKind.u32.wrap ((b2.getD ((x).toNat) 0))))) _ h E hE)
      · have h:=condF h hq4
        refine Runs.sA 2 [.code (C_51 128206),.code (C_51 128207),.inBlock 1,.code (C_51 4007),.inLoop (C_51 500),.inBlock 0,.code (C_51 63)] ?_
        exact Runs.sW hE _ [] (kp [1,5,6,20,21,22]) (kq [0]) 1 [] trivial (g_e_plus_J3_ok N a2 b2 out x (g_e_plus_L2 N a2 b2 fuel) ih (IntKind.u32.wrap (carry+(IntKind.u32.wrap ((a2.getD ((x).toNat) 0))))) _ h E hE)
    · have h:=condF h hq3
      refine Runs.sA 2 [.code (C_51 126),.code (C_51 127)] ?_
      obtain ⟨c5,h⟩:=ifSome h
      obtain ⟨rtrim,hr,h⟩:=bindSome h
      refine Runs.sR hE ⟨[(4,(encL (cU .u16) 0 rtrim))],[],129⟩ (C_51 126) [(5,⟨[],true,(encL (cU .u16) 0 rtrim),[],0,true,none⟩)] [] (kp [4]) [] 129 [out.length = out.length,(out.length+1) * 2≤140737488355328,0+1≤1,∀ zi,zi < 1→AV.oneL ((fun zi=>([[(.atom (.int .u16 (IntKind.u16.wrap (carry))))]]:List (List AV)).getD zi []) (addz 0 zi)) = true,Sound Try.prog 112 [(.sl (out.length+1) (fun zi=>((fun zm=>if zm < out.length then (fun zi=>(cU .u16) (out.getD zi 0)) zm else (fun zi=>([[(.atom (.int .u16 (IntKind.u16.wrap (carry))))]]:List (List AV)).getD zi []) (zm - out.length))) (addz 0 zi)))] [] 0 (encL (cU .u16) 0 rtrim) [],0+(out.length+1)≤out.length+1] ⟨rfl,c5,z0,(oneN rfl),(Sound.conv (g_e_trim_ok N (out ++ ([(IntKind.u16.wrap (carry))]:List Int)) rtrim hr) (.cons (Alike.sl (len_app_raw rfl rfl) (get_app_raw (cU .u16) 0 out ([(IntKind.u16.wrap (carry))]:List Int) rfl (fun _ _=>rfl) (fun zq hzq=>get_chunk (cU .u16) 0 ([(IntKind.u16.wrap (carry))]:List Int) zq hzq))) .nil)),z0,trivial⟩ ?_
      obtain rfl:=Option.some.inj h
      refine Runs.sW hE ⟨[(4,(encL (cU .u16) 0 rtrim))],[],129⟩ [] (kp [4]) [] 129 [] trivial ?_
      exact Runs.sT Try.f115 [] [] trivial
theorem g_e_plus_J1_ok (N:Nat) (a2:List Int) (b2:List Int) (r:(List Int)) (h:g_e_plus_J1 N a2 b2 = some r):∀ E,EnvOk E 0→Runs Try.prog E 115 56 (SPost E [] (encL (cU .u16) 0 r)) [.code (C_51 14),.code (C_51 15)] ⟨[(0,(encL (cU .u16) 0 a2)),(1,(encL (cU .u16) 0 b2))],[],0⟩:=by
  intro E hE
  unfold g_e_plus_J1 at h
  obtain ⟨c,h⟩:=ifSome h
  refine Runs.sR hE ⟨[(0,(encL (cU .u16) 0 a2)),(1,(encL (cU .u16) 0 b2)),(5,(.os 48 0 ((List.replicate 0 0:List Int).length)))],[(48,aO 1 (cU .u16) 0 (List.replicate 0 0:List Int))],80⟩ (C_51 14) [] [] (kp [0,1] ++ [(5,.osl ((List.replicate 0 0:List Int).length))]) [(48,.arr 48 ((List.replicate 0 0:List Int).length) (fun zi=>(cU .u16) ((List.replicate 0 0:List Int).getD zi 0)))] 80 [0≤(0:Int),(0:Int)≤(w64 (((a2.length:Nat):Int)+1)),(2:Int) * (w64 (((a2.length:Nat):Int)+1))≤281474976710656,(w64 (((a2.length:Nat):Int)+1))≤9223372036854775807,0 = (List.replicate 0 0:List Int).length,0 = (List.replicate 0 0:List Int).length,∀ zi,zi < (List.replicate 0 0:List Int).length→(fun zi=>(cU .u16) ((List.replicate 0 0:List Int).getD zi 0)) zi = (fun _=>[(.atom (.int .u16 0))]) zi] ⟨c.1,c.2.2.2,c.2.1,c.2.2.1,(List.length_replicate).symm,(List.length_replicate).symm,(fun zq hzq=>get_rep (cU .u16) 0 0 0 zq hzq),trivial⟩ ?_
  refine Runs.sA 1 [.code (C_51 30),.code (C_51 31)] ?_
  refine Runs.sR hE ⟨[(0,(encL (cU .u16) 0 a2)),(1,(encL (cU .u16) 0 b2)),(5,(.os 48 0 ((List.replicate 0 0:List Int).length))),(6,(.atom (.int .u32 0)))],[(48,aO 1 (cU .u16) 0 (List.replicate 0 0:List Int))],96⟩ (C_51 30) [] [] (kp [0,1,5,6]) (kq [48]) 96 [] trivial ?_
  refine Runs.sA 2 [.code (C_51 124),.code (C_51 125),.code (C_51 63)] ?_
  refine Runs.sR hE ⟨[(1,(encL (cU .u16) 0 b2)),(5,(.os 48 0 ((List.replicate 0 0:List Int).length))),(6,(.atom (.int .u32 0))),(20,(encL (cU .u16) 0 a2)),(21,(aI ((a2.length:Nat):Int))),(22,(aI 0))],[(48,aO 1 (cU .u16) 0 (List.replicate 0 0:List Int))],144⟩ (C_51 124) [] [] (kp [1,5,6,20,21,22]) (kq [48]) 144 [] trivial ?_
  refine Runs.sA 2 [.code (C_51 500),.inLoop (C_51 500),.inBlock 0,.code (C_51 63)] ?_
  exact Runs.sW hE _ [] (kp [1,5,6,20,21,22]) [(0,.keep 48)] 1 [] trivial (g_e_plus_L2_ok N a2 b2 N (List.replicate 0 0:List Int) 0 0 _ h E hE)
theorem g_e_plus_ok (N:Nat) (a:List Int) (b:List Int) (r:(List Int)) (h:g_e_plus N a b = some r):Sound Try.prog 115 [(encL (cU .u16) 0 a),(encL (cU .u16) 0 b)] [] 0 (encL (cU .u16) 0 r) []:=by
  unfold g_e_plus at h
  refine Sound.of_runs (fu:=Try.f115) (c:=C_51 1) (nt:=56) (by kernel_rfl) (by kernel_rfl) (by kernel_rfl) (by kernel_rfl) (fun hm=>rfl) ?_
  intro E hE
  refine Runs.sA 1 [.code (C_51 2),.code (C_51 3)] ?_
  refine Runs.sR hE ⟨[(0,(encL (cU .u16) 0 a)),(1,(encL (cU .u16) 0 b))],[],16⟩ (C_51 2) [] [] (kp [0,1]) [] 16 [] trivial ?_
  refine Runs.sA 2 [.code (C_51 12),.code (C_51 13),.code (C_51 7)] ?_
  refine Runs.sR hE ⟨[(0,(encL (cU .u16) 0 a)),(1,(encL (cU .u16) 0 b)),(13,(aB (decide (((a.length:Nat):Int) < ((b.length:Nat):Int)))))],[],96⟩ (C_51 12) [] [] (kp [0,1,13]) [] 96 [] trivial ?_
  refine Runs.sC 13 (C_51 26) (C_51 27) (decide (((a.length:Nat):Int) < ((b.length:Nat):Int))) (fun hq2=>?_) (fun hq2=>?_)
  · have h:=condT h hq2
    refine Runs.sR hE ⟨[(0,(encL (cU .u16) 0 b)),(1,(encL (cU .u16) 0 a))],[],160⟩ (C_51 26) [] [] (kp [0,1]) [] 160 [] trivial ?_
    refine Runs.sA 1 [.code (C_51 14),.code (C_51 15)] ?_
    exact Runs.sW hE _ [] (kp [0,1]) [] 0 [] trivial (g_e_plus_J1_ok N b a _ h E hE)
  · have h:=condF h hq2
    refine Runs.sA 2 [.code (C_51 14),.code (C_51 15)] ?_
    exact Runs.sW hE _ [] (kp [0,1]) [] 0 [] trivial (g_e_plus_J1_ok N a b _ h E hE)
end Go.Den
