/- The law TopShortestBallast holds: the given statement. No conditions. -/
import Derived.Test.YthnmoifahladaaaTopShortestBallastSb
import Derived.Test.YthnmoifahladaaaTopShortestBallastPl
import Derived.Test.YthnmoifahladaaaRows
set_option linter.unusedVariables false
set_option maxRecDepth 100000
namespace Go.Proofs.Ythnmoifahladaaa
open Go.Ab Go.Den Go.ChangeShapes Go.WideShapes Go.ChangeAt Go.RowKit
theorem Try.own : ownKnob Try.prog.godebug = none := by kernel_rfl
theorem Try.laidOut : laidOutB Try.prog = true := by kernel_rfl
theorem open_TPointMass : Opens Try.prog 63 TPointMass.wf TPointMass.cells := by
  intro H enc w n cs x h
  obtain ⟨hl, m, hf⟩ := struct_inv Try.underlying63 h
  obtain ⟨y0, h0, s0⟩ := fieldO hf 0 (te := 3) 0 1 (Opens.int Try.underlying3) (by kernel_rfl) (by kernel_rfl)
  obtain ⟨y1, h1, s1⟩ := fieldO hf 1 (te := 3) 1 1 (Opens.int Try.underlying3) (by kernel_rfl) (by kernel_rfl)
  obtain ⟨y2, h2, s2⟩ := fieldO hf 2 (te := 3) 2 1 (Opens.int Try.underlying3) (by kernel_rfl) (by kernel_rfl)
  have hs : Seg w (cs.drop 0) (cI y0 ++ (cI y1 ++ (cI y2 ++ []))) := .step s0 (.step s1 (.step s2 (.done (hl.trans (by kernel_rfl)))))
  exact ⟨⟨y0, y1, y2⟩, ⟨h0, h1, h2⟩, hs⟩
theorem open_TTank : Opens Try.prog 68 TTank.wf TTank.cells := by
  intro H enc w n cs x h
  obtain ⟨hl, m, hf⟩ := struct_inv Try.underlying68 h
  obtain ⟨y0, h0, s0⟩ := fieldO hf 0 (te := 9) 0 1 (Opens.str Try.underlying9) (by kernel_rfl) (by kernel_rfl)
  obtain ⟨y1, h1, s1⟩ := fieldO hf 1 (te := 3) 1 1 (Opens.int Try.underlying3) (by kernel_rfl) (by kernel_rfl)
  obtain ⟨y2, h2, s2⟩ := fieldO hf 2 (te := 3) 2 1 (Opens.int Try.underlying3) (by kernel_rfl) (by kernel_rfl)
  obtain ⟨y3, h3, s3⟩ := fieldO hf 3 (te := 3) 3 1 (Opens.int Try.underlying3) (by kernel_rfl) (by kernel_rfl)
  obtain ⟨y4, h4, s4⟩ := fieldO hf 4 (te := 3) 4 1 (Opens.int Try.underlying3) (by kernel_rfl) (by kernel_rfl)
  have hs : Seg w (cs.drop 0) (cS y0 ++ (cI y1 ++ (cI y2 ++ (cI y3 ++ (cI y4 ++ []))))) := .step s0 (.step s1 (.step s2 (.step s3 (.step s4 (.done (hl.trans (by kernel_rfl)))))))
  exact ⟨⟨y0, y1, y2, y3, y4⟩, ⟨h0, h1, h2, h3, h4⟩, hs⟩
theorem open_TPontoon : Opens Try.prog 25 TPontoon.wf TPontoon.cells := by
  intro H enc w n cs x h
  obtain ⟨hl, m, hf⟩ := struct_inv Try.underlying25 h
  obtain ⟨y0, h0, s0⟩ := fieldO hf 0 (te := 3) 0 1 (Opens.int Try.underlying3) (by kernel_rfl) (by kernel_rfl)
  obtain ⟨y1, h1, s1⟩ := fieldO hf 1 (te := 3) 1 1 (Opens.int Try.underlying3) (by kernel_rfl) (by kernel_rfl)
  obtain ⟨y2, h2, s2⟩ := fieldO hf 2 (te := 3) 2 1 (Opens.int Try.underlying3) (by kernel_rfl) (by kernel_rfl)
  obtain ⟨y3, h3, s3⟩ := fieldO hf 3 (te := 22) 3 1 (Opens.slice TPointMass.d Try.underlying22 open_TPointMass (sz := 3) (by kernel_rfl) (by decide) (fun _ => rfl)) (by kernel_rfl) (by kernel_rfl)
  obtain ⟨y4, h4, s4⟩ := fieldO hf 4 (te := 23) 4 1 (Opens.slice TTank.d Try.underlying23 open_TTank (sz := 5) (by kernel_rfl) (by decide) (fun _ => rfl)) (by kernel_rfl) (by kernel_rfl)
  have hs : Seg w (cs.drop 0) (cI y0 ++ (cI y1 ++ (cI y2 ++ ((fun x => [encL TPointMass.cells TPointMass.d x]) y3 ++ ((fun x => [encL TTank.cells TTank.d x]) y4 ++ []))))) := .step s0 (.step s1 (.step s2 (.step s3 (.step s4 (.done (hl.trans (by kernel_rfl)))))))
  exact ⟨⟨y0, y1, y2, y3, y4⟩, ⟨h0, h1, h2, h3, h4⟩, hs⟩
theorem open_TLimits : Opens Try.prog 27 TLimits.wf TLimits.cells := by
  intro H enc w n cs x h
  obtain ⟨hl, m, hf⟩ := struct_inv Try.underlying27 h
  obtain ⟨y0, h0, s0⟩ := fieldO hf 0 (te := 3) 0 1 (Opens.int Try.underlying3) (by kernel_rfl) (by kernel_rfl)
  obtain ⟨y1, h1, s1⟩ := fieldO hf 1 (te := 3) 1 1 (Opens.int Try.underlying3) (by kernel_rfl) (by kernel_rfl)
  obtain ⟨y2, h2, s2⟩ := fieldO hf 2 (te := 3) 2 1 (Opens.int Try.underlying3) (by kernel_rfl) (by kernel_rfl)
  obtain ⟨y3, h3, s3⟩ := fieldO hf 3 (te := 3) 3 1 (Opens.int Try.underlying3) (by kernel_rfl) (by kernel_rfl)
  obtain ⟨y4, h4, s4⟩ := fieldO hf 4 (te := 3) 4 1 (Opens.int Try.underlying3) (by kernel_rfl) (by kernel_rfl)
  have hs : Seg w (cs.drop 0) (cI y0 ++ (cI y1 ++ (cI y2 ++ (cI y3 ++ (cI y4 ++ []))))) := .step s0 (.step s1 (.step s2 (.step s3 (.step s4 (.done (hl.trans (by kernel_rfl)))))))
  exact ⟨⟨y0, y1, y2, y3, y4⟩, ⟨h0, h1, h2, h3, h4⟩, hs⟩
theorem open_TAim : Opens Try.prog 30 TAim.wf TAim.cells := by
  intro H enc w n cs x h
  obtain ⟨hl, m, hf⟩ := struct_inv Try.underlying30 h
  obtain ⟨y0, h0, s0⟩ := fieldO hf 0 (te := 28) 0 1 (Opens.slice 0 Try.underlying28 (Opens.int Try.underlying3) (sz := 1) (by kernel_rfl) (by decide) (fun _ => rfl)) (by kernel_rfl) (by kernel_rfl)
  obtain ⟨y1, h1, s1⟩ := fieldO hf 1 (te := 3) 1 1 (Opens.int Try.underlying3) (by kernel_rfl) (by kernel_rfl)
  obtain ⟨y2, h2, s2⟩ := fieldO hf 2 (te := 3) 2 1 (Opens.int Try.underlying3) (by kernel_rfl) (by kernel_rfl)
  have hs : Seg w (cs.drop 0) ((fun x => [encL cI 0 x]) y0 ++ (cI y1 ++ (cI y2 ++ []))) := .step s0 (.step s1 (.step s2 (.done (hl.trans (by kernel_rfl)))))
  exact ⟨⟨y0, y1, y2⟩, ⟨h0, h1, h2⟩, hs⟩
theorem open_TMove : Opens Try.prog 48 TMove.wf TMove.cells := by
  intro H enc w n cs x h
  obtain ⟨hl, m, hf⟩ := struct_inv Try.underlying48 h
  obtain ⟨y0, h0, s0⟩ := fieldO hf 0 (te := 3) 0 1 (Opens.int Try.underlying3) (by kernel_rfl) (by kernel_rfl)
  obtain ⟨y1, h1, s1⟩ := fieldO hf 1 (te := 4) 1 1 (Opens.bool Try.underlying4) (by kernel_rfl) (by kernel_rfl)
  have hs : Seg w (cs.drop 0) (cI y0 ++ (cB y1 ++ [])) := .step s0 (.step s1 (.done (hl.trans (by kernel_rfl))))
  exact ⟨⟨y0, y1⟩, ⟨h0, h1⟩, hs⟩
theorem open_Tw05_Plan : Opens Try.prog 33 Tw05_Plan.wf Tw05_Plan.cells := by
  intro H enc w n cs x h
  obtain ⟨hl, m, hf⟩ := struct_inv Try.underlying33 h
  obtain ⟨y0, h0, s0⟩ := fieldO hf 0 (te := 25) 0 5 open_TPontoon (by kernel_rfl) (by kernel_rfl)
  obtain ⟨y1, h1, s1⟩ := fieldO hf 1 (te := 27) 5 5 open_TLimits (by kernel_rfl) (by kernel_rfl)
  obtain ⟨y2, h2, s2⟩ := fieldO hf 2 (te := 30) 10 3 open_TAim (by kernel_rfl) (by kernel_rfl)
  obtain ⟨y3, h3, s3⟩ := fieldO hf 3 (te := 31) 13 1 (Opens.slice TMove.d Try.underlying31 open_TMove (sz := 2) (by kernel_rfl) (by decide) (fun _ => rfl)) (by kernel_rfl) (by kernel_rfl)
  have hs : Seg w (cs.drop 0) (TPontoon.cells y0 ++ (TLimits.cells y1 ++ (TAim.cells y2 ++ ((fun x => [encL TMove.cells TMove.d x]) y3 ++ [])))) := .step s0 (.step s1 (.step s2 (.step s3 (.done (hl.trans (by kernel_rfl))))))
  exact ⟨⟨y0, y1, y2, y3⟩, ⟨h0, h1, h2, h3⟩, hs⟩
theorem topShortestBallast_lifted (plain : ∀ (y0 : Tw05_Plan) (y1 : Int), Tw05_Plan.wf y0 → wI y1 → ∃ N, g_keelblocktop_TopShortestBallast N y0 y1 = some true) (os : Os) (started : os.Started) (H : Type) (enc : TypeId × Value → H) :
    ReturnsInHanded {} Try.checked os 4 .any (Rows.topShortestBallastSpec.pre6 enc Try.prog Try.f4 Rows.topShortestBallastRow.domain false) (Rows.topShortestBallastSpec.post enc Try.prog Try.f4 false true false false) := by
  refine returnsInHanded_of_change (C := Try.checked) Try.own started (by kernel_rfl) Try.func4
    (ChangeSpec.witness6 (enc := enc) (C := Try.checked) false ⟨#[], #[.agg #[.int .i64 0, .int .i64 0, .int .i64 0, .slice none 0 0, .slice none 0 0, .int .i64 0, .int .i64 0, .int .i64 0, .int .i64 0, .int .i64 0, .slice none 0 0, .int .i64 0, .int .i64 0, .slice none 0 0], .int .i64 0], []⟩ 16 (by kernel_rfl) (by kernel_rfl) (by kernel_rfl) (by kernel_rfl)) ?_
  intro W base args ds gs before hval0 hW _ _
  have hval : ∀ (j : Nat) t v, Try.f4.params[j]? = some t → args[j]? = some v → Value.okWide Try.prog W .any base t v := hval0
  have hW2 := hW
  obtain ⟨p, q, hA0, hV, rfl, hfz, hnd⟩ := hW2
  have hA : DataW.TrodAll enc Try.prog W 0 (fun _ => true) true Try.f4.params.toList args.toList ds p := hA0
  rw [Try.params4] at hA hval
  obtain ⟨v0, v1, d0, d1, p0, p1, rfl, rfl, rfl, h0, h1⟩ := trodAll_two hA
  obtain ⟨y0, w0, r0⟩ := argStruct (c := Tw05_Plan.cells) Try.underlying33 open_Tw05_Plan (hval 0 33 v0 rfl rfl) h0
  obtain ⟨y1, w1, r1⟩ := argInt (g := fun y => (aI y)) Try.underlying3 (Opens.int Try.underlying3) (hval 1 3 v1 rfl rfl) h1
  obtain ⟨N, hN⟩ := plain y0 y1 w0 w1
  exact law_post (tb := 4) rfl Try.laidOut (by kernel_rfl) rfl Try.underlying4 rfl hW (rl2 r0 r1) (g_keelblocktop_TopShortestBallast_ok N y0 y1 true hN)
theorem topShortestBallast_of (plain : ∀ (y0 : Tw05_Plan) (y1 : Int), Tw05_Plan.wf y0 → wI y1 → ∃ N, g_keelblocktop_TopShortestBallast N y0 y1 = some true) : Rows.TopShortestBallastSaid :=
  OpenClaim.holds_of_wide 4 Try.f4 rfl rfl rfl rfl rfl rfl rfl ⟨rfl, rfl, rfl, rfl, rfl⟩ rfl rfl rfl rfl rfl (by kernel_rfl) Try.func4 (by kernel_rfl)
    (of_decide_eq_true (by kernel_rfl)) (by unfold Func.isWrapper; first | (rw [if_pos (by decide +kernel)]; kernel_rfl) | (rw [if_neg (by decide +kernel)]; exact ⟨rfl, rfl⟩))
    (fun os started H enc _ => topShortestBallast_lifted plain os started H enc)
theorem topShortestBallast_holds : Rows.TopShortestBallastSaid := topShortestBallast_of Go.Den.topShortestBallast_plain
#print axioms topShortestBallast_holds
end Go.Proofs.Ythnmoifahladaaa
