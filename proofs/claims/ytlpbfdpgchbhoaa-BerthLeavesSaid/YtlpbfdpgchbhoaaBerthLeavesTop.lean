/- The law BerthLeaves holds: the given statement. No conditions. -/
import Derived.Test.YtlpbfdpgchbhoaaBerthLeavesSb
import Derived.Test.YtlpbfdpgchbhoaaBerthLeavesPl
import Derived.Test.YtlpbfdpgchbhoaaRows
set_option linter.unusedVariables false
set_option maxRecDepth 100000
namespace Go.Proofs.Ytlpbfdpgchbhoaa
open Go.Ab Go.Den Go.ChangeShapes Go.WideShapes Go.ChangeAt Go.RowKit

theorem Try.own : ownKnob Try.prog.godebug = none := by kernel_rfl
theorem Try.laidOut : laidOutB Try.prog = true := by kernel_rfl

theorem open_Tapi_Dock : Opens Try.prog 42 Tapi_Dock.wf Tapi_Dock.cells := by
  intro H enc w n cs x h
  obtain ⟨hl, m, hf⟩ := struct_inv Try.underlying42 h
  obtain ⟨y0, h0, s0⟩ := fieldO hf 0 (te := 9) 0 1 (Opens.str Try.underlying9) (by kernel_rfl) (by kernel_rfl)
  obtain ⟨y1, h1, s1⟩ := fieldO hf 1 (te := 3) 1 1 (Opens.int Try.underlying3) (by kernel_rfl) (by kernel_rfl)
  obtain ⟨y2, h2, s2⟩ := fieldO hf 2 (te := 3) 2 1 (Opens.int Try.underlying3) (by kernel_rfl) (by kernel_rfl)
  obtain ⟨y3, h3, s3⟩ := fieldO hf 3 (te := 3) 3 1 (Opens.int Try.underlying3) (by kernel_rfl) (by kernel_rfl)
  obtain ⟨y4, h4, s4⟩ := fieldO hf 4 (te := 3) 4 1 (Opens.int Try.underlying3) (by kernel_rfl) (by kernel_rfl)
  obtain ⟨y5, h5, s5⟩ := fieldO hf 5 (te := 3) 5 1 (Opens.int Try.underlying3) (by kernel_rfl) (by kernel_rfl)
  have hs : Seg w (cs.drop 0) (cS y0 ++ (cI y1 ++ (cI y2 ++ (cI y3 ++ (cI y4 ++ (cI y5 ++ [])))))) := .step s0 (.step s1 (.step s2 (.step s3 (.step s4 (.step s5 (.done (hl.trans (by kernel_rfl))))))))
  exact ⟨⟨y0, y1, y2, y3, y4, y5⟩, ⟨h0, h1, h2, h3, h4, h5⟩, hs⟩
theorem open_Tapi_Call : Opens Try.prog 44 Tapi_Call.wf Tapi_Call.cells := by
  intro H enc w n cs x h
  obtain ⟨hl, m, hf⟩ := struct_inv Try.underlying44 h
  obtain ⟨y0, h0, s0⟩ := fieldO hf 0 (te := 9) 0 1 (Opens.str Try.underlying9) (by kernel_rfl) (by kernel_rfl)
  obtain ⟨y1, h1, s1⟩ := fieldO hf 1 (te := 3) 1 1 (Opens.int Try.underlying3) (by kernel_rfl) (by kernel_rfl)
  obtain ⟨y2, h2, s2⟩ := fieldO hf 2 (te := 3) 2 1 (Opens.int Try.underlying3) (by kernel_rfl) (by kernel_rfl)
  obtain ⟨y3, h3, s3⟩ := fieldO hf 3 (te := 3) 3 1 (Opens.int Try.underlying3) (by kernel_rfl) (by kernel_rfl)
  obtain ⟨y4, h4, s4⟩ := fieldO hf 4 (te := 3) 4 1 (Opens.int Try.underlying3) (by kernel_rfl) (by kernel_rfl)
  obtain ⟨y5, h5, s5⟩ := fieldO hf 5 (te := 3) 5 1 (Opens.int Try.underlying3) (by kernel_rfl) (by kernel_rfl)
  obtain ⟨y6, h6, s6⟩ := fieldO hf 6 (te := 3) 6 1 (Opens.int Try.underlying3) (by kernel_rfl) (by kernel_rfl)
  obtain ⟨y7, h7, s7⟩ := fieldO hf 7 (te := 3) 7 1 (Opens.int Try.underlying3) (by kernel_rfl) (by kernel_rfl)
  obtain ⟨y8, h8, s8⟩ := fieldO hf 8 (te := 3) 8 1 (Opens.int Try.underlying3) (by kernel_rfl) (by kernel_rfl)
  have hs : Seg w (cs.drop 0) (cS y0 ++ (cI y1 ++ (cI y2 ++ (cI y3 ++ (cI y4 ++ (cI y5 ++ (cI y6 ++ (cI y7 ++ (cI y8 ++ []))))))))) := .step s0 (.step s1 (.step s2 (.step s3 (.step s4 (.step s5 (.step s6 (.step s7 (.step s8 (.done (hl.trans (by kernel_rfl)))))))))))
  exact ⟨⟨y0, y1, y2, y3, y4, y5, y6, y7, y8⟩, ⟨h0, h1, h2, h3, h4, h5, h6, h7, h8⟩, hs⟩
theorem open_Tapi_Spot : Opens Try.prog 84 Tapi_Spot.wf Tapi_Spot.cells := by
  intro H enc w n cs x h
  obtain ⟨hl, m, hf⟩ := struct_inv Try.underlying84 h
  obtain ⟨y0, h0, s0⟩ := fieldO hf 0 (te := 9) 0 1 (Opens.str Try.underlying9) (by kernel_rfl) (by kernel_rfl)
  obtain ⟨y1, h1, s1⟩ := fieldO hf 1 (te := 3) 1 1 (Opens.int Try.underlying3) (by kernel_rfl) (by kernel_rfl)
  obtain ⟨y2, h2, s2⟩ := fieldO hf 2 (te := 3) 2 1 (Opens.int Try.underlying3) (by kernel_rfl) (by kernel_rfl)
  have hs : Seg w (cs.drop 0) (cS y0 ++ (cI y1 ++ (cI y2 ++ []))) := .step s0 (.step s1 (.step s2 (.done (hl.trans (by kernel_rfl)))))
  exact ⟨⟨y0, y1, y2⟩, ⟨h0, h1, h2⟩, hs⟩
theorem open_Tkeelblocklaw06_Plan : Opens Try.prog 71 Tkeelblocklaw06_Plan.wf Tkeelblocklaw06_Plan.cells := by
  intro H enc w n cs x h
  obtain ⟨hl, m, hf⟩ := struct_inv Try.underlying71 h
  obtain ⟨y0, h0, s0⟩ := fieldO hf 0 (te := 42) 0 6 open_Tapi_Dock (by kernel_rfl) (by kernel_rfl)
  obtain ⟨y1, h1, s1⟩ := fieldO hf 1 (te := 33) 6 1 (Opens.slice Tapi_Call.d Try.underlying33 open_Tapi_Call (sz := 9) (by kernel_rfl) (by decide) (fun _ => rfl)) (by kernel_rfl) (by kernel_rfl)
  obtain ⟨y2, h2, s2⟩ := fieldO hf 2 (te := 69) 7 1 (Opens.slice Tapi_Spot.d Try.underlying69 open_Tapi_Spot (sz := 3) (by kernel_rfl) (by decide) (fun _ => rfl)) (by kernel_rfl) (by kernel_rfl)
  have hs : Seg w (cs.drop 0) (Tapi_Dock.cells y0 ++ ((fun x => [encL Tapi_Call.cells Tapi_Call.d x]) y1 ++ ((fun x => [encL Tapi_Spot.cells Tapi_Spot.d x]) y2 ++ []))) := .step s0 (.step s1 (.step s2 (.done (hl.trans (by kernel_rfl)))))
  exact ⟨⟨y0, y1, y2⟩, ⟨h0, h1, h2⟩, hs⟩

theorem berthLeaves_lifted (plain : ∀ (y0 : Tkeelblocklaw06_Plan), Tkeelblocklaw06_Plan.wf y0 → ∃ N, g_w06_BerthLeaves N y0 = some true) (os : Os) (started : os.Started) (H : Type) (enc : TypeId × Value → H) :
    ReturnsInHanded {} Try.checked os 8 .any (Rows.berthLeavesSpec.pre6 enc Try.prog Try.f8 Rows.berthLeavesRow.domain false) (Rows.berthLeavesSpec.post enc Try.prog Try.f8 false true false false) := by
  refine returnsInHanded_of_change (C := Try.checked) Try.own started (by kernel_rfl) Try.func8
    (ChangeSpec.witness6 (enc := enc) (C := Try.checked) false ⟨#[], #[.agg #[.string ⟨#[]⟩, .int .i64 0, .int .i64 0, .int .i64 0, .int .i64 0, .int .i64 0, .slice none 0 0, .slice none 0 0]], []⟩ 16 (by kernel_rfl) (by kernel_rfl) (by kernel_rfl) (by kernel_rfl)) ?_
  intro W base args ds gs before hval0 hW _ _
  have hval : ∀ (j : Nat) t v, Try.f8.params[j]? = some t → args[j]? = some v → Value.okWide Try.prog W .any base t v := hval0
  have hW2 := hW
  obtain ⟨p, q, hA0, hV, rfl, hfz, hnd⟩ := hW2
  have hA : DataW.TrodAll enc Try.prog W 0 (fun _ => true) true Try.f8.params.toList args.toList ds p := hA0
  rw [Try.params8] at hA hval
  obtain ⟨v0, d0, rfl, rfl, h0⟩ := trodAll_one hA
  obtain ⟨y0, w0, r0⟩ := argStruct (c := Tkeelblocklaw06_Plan.cells) Try.underlying71 open_Tkeelblocklaw06_Plan (hval 0 71 v0 rfl rfl) h0
  obtain ⟨N, hN⟩ := plain y0 w0
  exact law_post (tb := 4) rfl Try.laidOut (by kernel_rfl) rfl Try.underlying4 rfl hW (rl1 r0) (g_w06_BerthLeaves_ok N y0 true hN)

theorem berthLeaves_of (plain : ∀ (y0 : Tkeelblocklaw06_Plan), Tkeelblocklaw06_Plan.wf y0 → ∃ N, g_w06_BerthLeaves N y0 = some true) : Rows.BerthLeavesSaid :=
  OpenClaim.holds_of_wide 8 Try.f8 rfl rfl rfl rfl rfl rfl rfl ⟨rfl, rfl, rfl, rfl, rfl⟩ rfl rfl rfl rfl rfl (by kernel_rfl) Try.func8 (by kernel_rfl)
    (of_decide_eq_true (by kernel_rfl)) (by unfold Func.isWrapper; first | (rw [if_pos (by decide +kernel)]; kernel_rfl) | (rw [if_neg (by decide +kernel)]; exact ⟨rfl, rfl⟩))
    (fun os started H enc _ => berthLeaves_lifted plain os started H enc)

theorem berthLeaves_holds : Rows.BerthLeavesSaid := berthLeaves_of Go.Den.berthLeaves_plain
#print axioms berthLeaves_holds

end Go.Proofs.Ytlpbfdpgchbhoaa
