/- The law BerthCrossing holds: the given statement. No conditions. -/
import Derived.Test.YtlpbfdpgchbhoaaBerthCrossingSc
import Derived.Test.YtlpbfdpgchbhoaaBerthCrossingPl
import Derived.Test.YtlpbfdpgchbhoaaRows
set_option linter.unusedVariables false
set_option maxRecDepth 100000
namespace Go.Proofs.Ytlpbfdpgchbhoaa
open Go.Ab Go.Den Go.ChangeShapes Go.WideShapes Go.ChangeAt Go.RowKit

theorem Try.own : ownKnob Try.prog.godebug = none := by kernel_rfl
theorem Try.laidOut : laidOutB Try.prog = true := by kernel_rfl

theorem open_Tapi_Crane : Opens Try.prog 101 Tapi_Crane.wf Tapi_Crane.cells := by
  intro H enc w n cs x h
  obtain ⟨hl, m, hf⟩ := struct_inv Try.underlying101 h
  obtain ⟨y0, h0, s0⟩ := fieldO hf 0 (te := 9) 0 1 (Opens.str Try.underlying9) (by kernel_rfl) (by kernel_rfl)
  obtain ⟨y1, h1, s1⟩ := fieldO hf 1 (te := 3) 1 1 (Opens.int Try.underlying3) (by kernel_rfl) (by kernel_rfl)
  obtain ⟨y2, h2, s2⟩ := fieldO hf 2 (te := 3) 2 1 (Opens.int Try.underlying3) (by kernel_rfl) (by kernel_rfl)
  obtain ⟨y3, h3, s3⟩ := fieldO hf 3 (te := 3) 3 1 (Opens.int Try.underlying3) (by kernel_rfl) (by kernel_rfl)
  obtain ⟨y4, h4, s4⟩ := fieldO hf 4 (te := 3) 4 1 (Opens.int Try.underlying3) (by kernel_rfl) (by kernel_rfl)
  obtain ⟨y5, h5, s5⟩ := fieldO hf 5 (te := 3) 5 1 (Opens.int Try.underlying3) (by kernel_rfl) (by kernel_rfl)
  have hs : Seg w (cs.drop 0) (cS y0 ++ (cI y1 ++ (cI y2 ++ (cI y3 ++ (cI y4 ++ (cI y5 ++ [])))))) := .step s0 (.step s1 (.step s2 (.step s3 (.step s4 (.step s5 (.done (hl.trans (by kernel_rfl))))))))
  exact ⟨⟨y0, y1, y2, y3, y4, y5⟩, ⟨h0, h1, h2, h3, h4, h5⟩, hs⟩
theorem open_Tapi_Lift : Opens Try.prog 65 Tapi_Lift.wf Tapi_Lift.cells := by
  intro H enc w n cs x h
  obtain ⟨hl, m, hf⟩ := struct_inv Try.underlying65 h
  obtain ⟨y0, h0, s0⟩ := fieldO hf 0 (te := 9) 0 1 (Opens.str Try.underlying9) (by kernel_rfl) (by kernel_rfl)
  obtain ⟨y1, h1, s1⟩ := fieldO hf 1 (te := 3) 1 1 (Opens.int Try.underlying3) (by kernel_rfl) (by kernel_rfl)
  obtain ⟨y2, h2, s2⟩ := fieldO hf 2 (te := 3) 2 1 (Opens.int Try.underlying3) (by kernel_rfl) (by kernel_rfl)
  obtain ⟨y3, h3, s3⟩ := fieldO hf 3 (te := 3) 3 1 (Opens.int Try.underlying3) (by kernel_rfl) (by kernel_rfl)
  obtain ⟨y4, h4, s4⟩ := fieldO hf 4 (te := 3) 4 1 (Opens.int Try.underlying3) (by kernel_rfl) (by kernel_rfl)
  obtain ⟨y5, h5, s5⟩ := fieldO hf 5 (te := 3) 5 1 (Opens.int Try.underlying3) (by kernel_rfl) (by kernel_rfl)
  have hs : Seg w (cs.drop 0) (cS y0 ++ (cI y1 ++ (cI y2 ++ (cI y3 ++ (cI y4 ++ (cI y5 ++ [])))))) := .step s0 (.step s1 (.step s2 (.step s3 (.step s4 (.step s5 (.done (hl.trans (by kernel_rfl))))))))
  exact ⟨⟨y0, y1, y2, y3, y4, y5⟩, ⟨h0, h1, h2, h3, h4, h5⟩, hs⟩
theorem open_Tkeelblocklaw06_Quay : Opens Try.prog 51 Tkeelblocklaw06_Quay.wf Tkeelblocklaw06_Quay.cells := by
  intro H enc w n cs x h
  obtain ⟨hl, m, hf⟩ := struct_inv Try.underlying51 h
  obtain ⟨y0, h0, s0⟩ := fieldO hf 0 (te := 47) 0 1 (Opens.slice Tapi_Crane.d Try.underlying47 open_Tapi_Crane (sz := 6) (by kernel_rfl) (by decide) (fun _ => rfl)) (by kernel_rfl) (by kernel_rfl)
  obtain ⟨y1, h1, s1⟩ := fieldO hf 1 (te := 48) 1 1 (Opens.slice Tapi_Lift.d Try.underlying48 open_Tapi_Lift (sz := 6) (by kernel_rfl) (by decide) (fun _ => rfl)) (by kernel_rfl) (by kernel_rfl)
  obtain ⟨y2, h2, s2⟩ := fieldO hf 2 (te := 49) 2 1 (Opens.slice ByteArray.empty Try.underlying49 (Opens.str Try.underlying9) (sz := 1) (by kernel_rfl) (by decide) (fun _ => rfl)) (by kernel_rfl) (by kernel_rfl)
  have hs : Seg w (cs.drop 0) ((fun x => [encL Tapi_Crane.cells Tapi_Crane.d x]) y0 ++ ((fun x => [encL Tapi_Lift.cells Tapi_Lift.d x]) y1 ++ ((fun x => [encL cS ByteArray.empty x]) y2 ++ []))) := .step s0 (.step s1 (.step s2 (.done (hl.trans (by kernel_rfl)))))
  exact ⟨⟨y0, y1, y2⟩, ⟨h0, h1, h2⟩, hs⟩

theorem berthCrossing_lifted (plain : ∀ (y0 : Tkeelblocklaw06_Quay) (y1 : Int), Tkeelblocklaw06_Quay.wf y0 → wI y1 → ∃ N, g_keelblocklaw06_BerthCrossing N y0 y1 = some true) (os : Os) (started : os.Started) (H : Type) (enc : TypeId × Value → H) :
    ReturnsInHanded {} Try.checked os 6 .any (Rows.berthCrossingSpec.pre6 enc Try.prog Try.f6 Rows.berthCrossingRow.domain false) (Rows.berthCrossingSpec.post enc Try.prog Try.f6 false true false false) := by
  refine returnsInHanded_of_change (C := Try.checked) Try.own started (by kernel_rfl) Try.func6
    (ChangeSpec.witness6 (enc := enc) (C := Try.checked) false ⟨#[], #[.agg #[.slice none 0 0, .slice none 0 0, .slice none 0 0], .int .i64 0], []⟩ 16 (by kernel_rfl) (by kernel_rfl) (by kernel_rfl) (by kernel_rfl)) ?_
  intro W base args ds gs before hval0 hW _ _
  have hval : ∀ (j : Nat) t v, Try.f6.params[j]? = some t → args[j]? = some v → Value.okWide Try.prog W .any base t v := hval0
  have hW2 := hW
  obtain ⟨p, q, hA0, hV, rfl, hfz, hnd⟩ := hW2
  have hA : DataW.TrodAll enc Try.prog W 0 (fun _ => true) true Try.f6.params.toList args.toList ds p := hA0
  rw [Try.params6] at hA hval
  obtain ⟨v0, v1, d0, d1, p0, p1, rfl, rfl, rfl, h0, h1⟩ := trodAll_two hA
  obtain ⟨y0, w0, r0⟩ := argStruct (c := Tkeelblocklaw06_Quay.cells) Try.underlying51 open_Tkeelblocklaw06_Quay (hval 0 51 v0 rfl rfl) h0
  obtain ⟨y1, w1, r1⟩ := argInt (g := fun y => (aI y)) Try.underlying3 (Opens.int Try.underlying3) (hval 1 3 v1 rfl rfl) h1
  obtain ⟨N, hN⟩ := plain y0 y1 w0 w1
  exact law_post (tb := 4) rfl Try.laidOut (by kernel_rfl) rfl Try.underlying4 rfl hW (rl2 r0 r1) (g_keelblocklaw06_BerthCrossing_ok N y0 y1 true hN)

theorem berthCrossing_of (plain : ∀ (y0 : Tkeelblocklaw06_Quay) (y1 : Int), Tkeelblocklaw06_Quay.wf y0 → wI y1 → ∃ N, g_keelblocklaw06_BerthCrossing N y0 y1 = some true) : Rows.BerthCrossingSaid :=
  OpenClaim.holds_of_wide 6 Try.f6 rfl rfl rfl rfl rfl rfl rfl ⟨rfl, rfl, rfl, rfl, rfl⟩ rfl rfl rfl rfl rfl (by kernel_rfl) Try.func6 (by kernel_rfl)
    (of_decide_eq_true (by kernel_rfl)) (by unfold Func.isWrapper; first | (rw [if_pos (by decide +kernel)]; kernel_rfl) | (rw [if_neg (by decide +kernel)]; exact ⟨rfl, rfl⟩))
    (fun os started H enc _ => berthCrossing_lifted plain os started H enc)

theorem berthCrossing_holds : Rows.BerthCrossingSaid := berthCrossing_of Go.Den.berthCrossing_plain
#print axioms berthCrossing_holds

end Go.Proofs.Ytlpbfdpgchbhoaa
