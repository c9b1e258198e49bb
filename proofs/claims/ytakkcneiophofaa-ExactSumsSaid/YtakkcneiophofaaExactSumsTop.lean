/- The law ExactSums holds: the given statement. No conditions. -/
import Derived.Test.YtakkcneiophofaaExactSumsSc
import Derived.Test.YtakkcneiophofaaExactSumsPl
import Derived.Test.YtakkcneiophofaaRows
set_option linter.unusedVariables false
set_option maxRecDepth 100000
namespace Go.Proofs.Ytakkcneiophofaa
open Go.Ab Go.Den Go.ChangeShapes Go.WideShapes Go.ChangeAt Go.RowKit

theorem Try.own : ownKnob Try.prog.godebug = none := by kernel_rfl
theorem Try.laidOut : laidOutB Try.prog = true := by kernel_rfl

theorem open_Tapi_Int : Opens Try.prog 24 Tapi_Int.wf Tapi_Int.cells := by
  intro H enc w n cs x h
  obtain ⟨hl, m, hf⟩ := struct_inv Try.underlying24 h
  obtain ⟨y0, h0, s0⟩ := fieldO hf 0 (te := 4) 0 1 (Opens.bool Try.underlying4) (by kernel_rfl) (by kernel_rfl)
  obtain ⟨y1, h1, s1⟩ := fieldO hf 1 (te := 22) 1 1 (Opens.slice 0 Try.underlying22 (Opens.intU Try.underlying118) (sz := 1) (by kernel_rfl) (by decide) (fun _ => rfl)) (by kernel_rfl) (by kernel_rfl)
  have hs : Seg w (cs.drop 0) (cB y0 ++ ((fun x => [encL (cU .u16) 0 x]) y1 ++ [])) := .step s0 (.step s1 (.done (hl.trans (by kernel_rfl))))
  exact ⟨⟨y0, y1⟩, ⟨h0, h1⟩, hs⟩
theorem open_Tapi_Rat : Opens Try.prog 42 Tapi_Rat.wf Tapi_Rat.cells := by
  intro H enc w n cs x h
  obtain ⟨hl, m, hf⟩ := struct_inv Try.underlying42 h
  obtain ⟨y0, h0, s0⟩ := fieldO hf 0 (te := 24) 0 2 open_Tapi_Int (by kernel_rfl) (by kernel_rfl)
  obtain ⟨y1, h1, s1⟩ := fieldO hf 1 (te := 24) 2 2 open_Tapi_Int (by kernel_rfl) (by kernel_rfl)
  have hs : Seg w (cs.drop 0) (Tapi_Int.cells y0 ++ (Tapi_Int.cells y1 ++ [])) := .step s0 (.step s1 (.done (hl.trans (by kernel_rfl))))
  exact ⟨⟨y0, y1⟩, ⟨h0, h1⟩, hs⟩
theorem open_Tapi_Curve : Opens Try.prog 62 Tapi_Curve.wf Tapi_Curve.cells := by
  intro H enc w n cs x h
  obtain ⟨hl, m, hf⟩ := struct_inv Try.underlying62 h
  obtain ⟨y0, h0, s0⟩ := fieldO hf 0 (te := 59) 0 1 (Opens.slice 0 Try.underlying59 (Opens.int Try.underlying3) (sz := 1) (by kernel_rfl) (by decide) (fun _ => rfl)) (by kernel_rfl) (by kernel_rfl)
  obtain ⟨y1, h1, s1⟩ := fieldO hf 1 (te := 60) 1 1 (Opens.slice Tapi_Rat.d Try.underlying60 open_Tapi_Rat (sz := 4) (by kernel_rfl) (by decide) (fun _ => rfl)) (by kernel_rfl) (by kernel_rfl)
  have hs : Seg w (cs.drop 0) ((fun x => [encL cI 0 x]) y0 ++ ((fun x => [encL Tapi_Rat.cells Tapi_Rat.d x]) y1 ++ [])) := .step s0 (.step s1 (.done (hl.trans (by kernel_rfl))))
  exact ⟨⟨y0, y1⟩, ⟨h0, h1⟩, hs⟩

theorem exactSums_lifted (plain : ∀ (y0 : Tapi_Curve) (y1 : Tapi_Curve) (y2 : Int), Tapi_Curve.wf y0 → Tapi_Curve.wf y1 → wI y2 → ∃ N, g_w01_ExactSums N y0 y1 y2 = some true) (os : Os) (started : os.Started) (H : Type) (enc : TypeId × Value → H) :
    ReturnsInHanded {} Try.checked os 9 .any (Rows.exactSumsSpec.pre6 enc Try.prog Try.f9 Rows.exactSumsRow.domain false) (Rows.exactSumsSpec.post enc Try.prog Try.f9 false true false false) := by
  refine returnsInHanded_of_change (C := Try.checked) Try.own started (by kernel_rfl) Try.func9
    (ChangeSpec.witness6 (enc := enc) (C := Try.checked) false ⟨#[], #[.agg #[.slice none 0 0, .slice none 0 0], .agg #[.slice none 0 0, .slice none 0 0], .int .i64 0], []⟩ 16 (by kernel_rfl) (by kernel_rfl) (by kernel_rfl) (by kernel_rfl)) ?_
  intro W base args ds gs before hval0 hW _ _
  have hval : ∀ (j : Nat) t v, Try.f9.params[j]? = some t → args[j]? = some v → Value.okWide Try.prog W .any base t v := hval0
  have hW2 := hW
  obtain ⟨p, q, hA0, hV, rfl, hfz, hnd⟩ := hW2
  have hA : DataW.TrodAll enc Try.prog W 0 (fun _ => true) true Try.f9.params.toList args.toList ds p := hA0
  rw [Try.params9] at hA hval
  obtain ⟨v0, v1, v2, d0, d1, d2, p0, p1, p2, rfl, rfl, rfl, h0, h1, h2⟩ := trodAll_three hA
  obtain ⟨y0, w0, r0⟩ := argStruct (c := Tapi_Curve.cells) Try.underlying62 open_Tapi_Curve (hval 0 62 v0 rfl rfl) h0
  obtain ⟨y1, w1, r1⟩ := argStruct (c := Tapi_Curve.cells) Try.underlying62 open_Tapi_Curve (hval 1 62 v1 rfl rfl) h1
  obtain ⟨y2, w2, r2⟩ := argInt (g := fun y => (aI y)) Try.underlying3 (Opens.int Try.underlying3) (hval 2 3 v2 rfl rfl) h2
  obtain ⟨N, hN⟩ := plain y0 y1 y2 w0 w1 w2
  exact law_post (tb := 4) rfl Try.laidOut (by kernel_rfl) rfl Try.underlying4 rfl hW (rl3 r0 r1 r2) (g_w01_ExactSums_ok N y0 y1 y2 true hN)

theorem exactSums_of (plain : ∀ (y0 : Tapi_Curve) (y1 : Tapi_Curve) (y2 : Int), Tapi_Curve.wf y0 → Tapi_Curve.wf y1 → wI y2 → ∃ N, g_w01_ExactSums N y0 y1 y2 = some true) : Rows.ExactSumsSaid :=
  OpenClaim.holds_of_wide 9 Try.f9 rfl rfl rfl rfl rfl rfl rfl ⟨rfl, rfl, rfl, rfl, rfl⟩ rfl rfl rfl rfl rfl (by kernel_rfl) Try.func9 (by kernel_rfl)
    (of_decide_eq_true (by kernel_rfl)) (by unfold Func.isWrapper; first | (rw [if_pos (by decide +kernel)]; kernel_rfl) | (rw [if_neg (by decide +kernel)]; exact ⟨rfl, rfl⟩))
    (fun os started H enc _ => exactSums_lifted plain os started H enc)

theorem exactSums_holds : Rows.ExactSumsSaid := exactSums_of Go.Den.exactSums_plain
#print axioms exactSums_holds

end Go.Proofs.Ytakkcneiophofaa
