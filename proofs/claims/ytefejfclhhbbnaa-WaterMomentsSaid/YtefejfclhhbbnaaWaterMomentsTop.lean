/- The law WaterMoments holds: the given statement. No conditions. -/
import Derived.Test.YtefejfclhhbbnaaWaterMomentsSb
import Derived.Test.YtefejfclhhbbnaaWaterMomentsPl
import Derived.Test.YtefejfclhhbbnaaRows
set_option linter.unusedVariables false
set_option maxRecDepth 100000
namespace Go.Proofs.Ytefejfclhhbbnaa
open Go.Ab Go.Den Go.ChangeShapes Go.WideShapes Go.ChangeAt Go.RowKit
theorem Try.own : ownKnob Try.prog.godebug = none := by kernel_rfl
theorem Try.laidOut : laidOutB Try.prog = true := by kernel_rfl
theorem open_TPointMass : Opens Try.prog 42 TPointMass.wf TPointMass.cells := by
  intro H enc w n cs x h
  obtain ⟨hl, m, hf⟩ := struct_inv Try.underlying42 h
  obtain ⟨y0, h0, s0⟩ := fieldO hf 0 (te := 3) 0 1 (Opens.int Try.underlying3) (by kernel_rfl) (by kernel_rfl)
  obtain ⟨y1, h1, s1⟩ := fieldO hf 1 (te := 3) 1 1 (Opens.int Try.underlying3) (by kernel_rfl) (by kernel_rfl)
  obtain ⟨y2, h2, s2⟩ := fieldO hf 2 (te := 3) 2 1 (Opens.int Try.underlying3) (by kernel_rfl) (by kernel_rfl)
  have hs : Seg w (cs.drop 0) (cI y0 ++ (cI y1 ++ (cI y2 ++ []))) := .step s0 (.step s1 (.step s2 (.done (hl.trans (by kernel_rfl)))))
  exact ⟨⟨y0, y1, y2⟩, ⟨h0, h1, h2⟩, hs⟩
theorem open_TTank : Opens Try.prog 48 TTank.wf TTank.cells := by
  intro H enc w n cs x h
  obtain ⟨hl, m, hf⟩ := struct_inv Try.underlying48 h
  obtain ⟨y0, h0, s0⟩ := fieldO hf 0 (te := 9) 0 1 (Opens.str Try.underlying9) (by kernel_rfl) (by kernel_rfl)
  obtain ⟨y1, h1, s1⟩ := fieldO hf 1 (te := 3) 1 1 (Opens.int Try.underlying3) (by kernel_rfl) (by kernel_rfl)
  obtain ⟨y2, h2, s2⟩ := fieldO hf 2 (te := 3) 2 1 (Opens.int Try.underlying3) (by kernel_rfl) (by kernel_rfl)
  obtain ⟨y3, h3, s3⟩ := fieldO hf 3 (te := 3) 3 1 (Opens.int Try.underlying3) (by kernel_rfl) (by kernel_rfl)
  obtain ⟨y4, h4, s4⟩ := fieldO hf 4 (te := 3) 4 1 (Opens.int Try.underlying3) (by kernel_rfl) (by kernel_rfl)
  have hs : Seg w (cs.drop 0) (cS y0 ++ (cI y1 ++ (cI y2 ++ (cI y3 ++ (cI y4 ++ []))))) := .step s0 (.step s1 (.step s2 (.step s3 (.step s4 (.done (hl.trans (by kernel_rfl)))))))
  exact ⟨⟨y0, y1, y2, y3, y4⟩, ⟨h0, h1, h2, h3, h4⟩, hs⟩
theorem open_TPontoon : Opens Try.prog 25 TPontoon.wf TPontoon.cells := by
  intro H enc w n cs x h
  obtain ⟨hl, m, hf⟩ := struct_inv Try.underlying25 h
  obtain ⟨y0, h0, s0⟩ := fieldO hf 0 (te := 3) 0 1 (Opens.int Try.underlying3) (by kernel_rfl) (by kernel_rfl)
  obtain ⟨y1, h1, s1⟩ := fieldO hf 1 (te := 3) 1 1 (Opens.int Try.underlying3) (by kernel_rfl) (by kernel_rfl)
  obtain ⟨y2, h2, s2⟩ := fieldO hf 2 (te := 3) 2 1 (Opens.int Try.underlying3) (by kernel_rfl) (by kernel_rfl)
  obtain ⟨y3, h3, s3⟩ := fieldO hf 3 (te := 22) 3 1 (Opens.slice TPointMass.d Try.underlying22 open_TPointMass (sz := 3) (by kernel_rfl) (by decide) (fun _ => rfl)) (by kernel_rfl) (by kernel_rfl)
  obtain ⟨y4, h4, s4⟩ := fieldO hf 4 (te := 23) 4 1 (Opens.slice TTank.d Try.underlying23 open_TTank (sz := 5) (by kernel_rfl) (by decide) (fun _ => rfl)) (by kernel_rfl) (by kernel_rfl)
  have hs : Seg w (cs.drop 0) (cI y0 ++ (cI y1 ++ (cI y2 ++ ((fun x => [encL TPointMass.cells TPointMass.d x]) y3 ++ ((fun x => [encL TTank.cells TTank.d x]) y4 ++ []))))) := .step s0 (.step s1 (.step s2 (.step s3 (.step s4 (.done (hl.trans (by kernel_rfl)))))))
  exact ⟨⟨y0, y1, y2, y3, y4⟩, ⟨h0, h1, h2, h3, h4⟩, hs⟩
theorem waterMoments_lifted (plain : ∀ (y0 : TPontoon) (y1 : List TPointMass), TPontoon.wf y0 → (wL TPointMass.wf) y1 → y1.length ≤ 140737488351232 → ∃ N, g_w05_WaterMoments N y0 y1 = some true) (os : Os) (started : os.Started) (H : Type) (enc : TypeId × Value → H) :
    ReturnsInHanded {} Try.checked os 3 .any (Rows.waterMomentsSpec.pre6 enc Try.prog Try.f3 Rows.waterMomentsRow.domain false) (Rows.waterMomentsSpec.post enc Try.prog Try.f3 false true false false) := by
  refine returnsInHanded_of_change_sized (C := Try.checked) Try.own started (by kernel_rfl) Try.func3
    (ChangeSpec.witness6 (enc := enc) (C := Try.checked) false ⟨#[], #[.agg #[.int .i64 0, .int .i64 0, .int .i64 0, .slice none 0 0, .slice none 0 0], .slice none 0 0], []⟩ 16 (by kernel_rfl) (by kernel_rfl) (by kernel_rfl) (by kernel_rfl)) ?_
  intro W base args ds gs before hval0 hW _ hsz _
  have hval : ∀ (j : Nat) t v, Try.f3.params[j]? = some t → args[j]? = some v → Value.okWide Try.prog W .any base t v := hval0
  have hW2 := hW
  obtain ⟨p, q, hA0, hV, rfl, hfz, hnd⟩ := hW2
  have hA : DataW.TrodAll enc Try.prog W 0 (fun _ => true) true Try.f3.params.toList args.toList ds p := hA0
  rw [Try.params3] at hA hval
  obtain ⟨v0, v1, d0, d1, p0, p1, rfl, rfl, rfl, h0, h1⟩ := trodAll_two hA
  obtain ⟨y0, w0, r0⟩ := argStruct (c := TPontoon.cells) Try.underlying25 open_TPontoon (hval 0 25 v0 rfl rfl) h0
  obtain ⟨y1, w1, r1⟩ := argSlice (g := fun y => (encL TPointMass.cells TPointMass.d y)) Try.underlying22 (Opens.slice TPointMass.d Try.underlying22 open_TPointMass (sz := 3) (by kernel_rfl) (by decide) (fun _ => rfl)) (hval 1 22 v1 rfl rfl) h1
  have b1 := Nat.le_trans (argLen Try.underlying22 (hval 1 22 v1 rfl rfl) h1 r1) (sizedLen (j := 1) hsz (by rw [Try.params3]; rfl) rfl Try.underlying22 (by decide +kernel))
  obtain ⟨N, hN⟩ := plain y0 y1 w0 w1 b1
  exact law_post (tb := 4) rfl Try.laidOut (by kernel_rfl) rfl Try.underlying4 rfl hW (rl2 r0 r1) (g_w05_WaterMoments_ok N y0 y1 true hN)
theorem waterMoments_of (plain : ∀ (y0 : TPontoon) (y1 : List TPointMass), TPontoon.wf y0 → (wL TPointMass.wf) y1 → y1.length ≤ 140737488351232 → ∃ N, g_w05_WaterMoments N y0 y1 = some true) : Rows.WaterMomentsSaid :=
  OpenClaim.holds_of_wide 3 Try.f3 rfl rfl rfl rfl rfl rfl rfl ⟨rfl, rfl, rfl, rfl, rfl⟩ rfl rfl rfl rfl rfl (by kernel_rfl) Try.func3 (by kernel_rfl)
    (of_decide_eq_true (by kernel_rfl)) (by unfold Func.isWrapper; first | (rw [if_pos (by decide +kernel)]; kernel_rfl) | (rw [if_neg (by decide +kernel)]; exact ⟨rfl, rfl⟩))
    (fun os started H enc _ => waterMoments_lifted plain os started H enc)
theorem waterMoments_holds : Rows.WaterMomentsSaid := waterMoments_of Go.Den.waterMoments_plain
#print axioms waterMoments_holds
end Go.Proofs.Ytefejfclhhbbnaa
