/- The law BerthMoorings holds: the given statement. No conditions. -/
import Derived.Test.YtkkolmlgedjmnaaBerthMooringsSc
import Derived.Test.YtkkolmlgedjmnaaBerthMooringsPl
import Derived.Test.YtkkolmlgedjmnaaRows
set_option linter.unusedVariables false
set_option maxRecDepth 100000
namespace Go.Proofs.Ytkkolmlgedjmnaa
open Go.Ab Go.Den Go.ChangeShapes Go.WideShapes Go.ChangeAt Go.RowKit
theorem Try.own : ownKnob Try.prog.godebug = none := by kernel_rfl
theorem Try.laidOut : laidOutB Try.prog = true := by kernel_rfl
theorem open_TLine : Opens Try.prog 57 TLine.wf TLine.cells := by
  intro H enc w n cs x h
  obtain ⟨hl, m, hf⟩ := struct_inv Try.underlying57 h
  obtain ⟨y0, h0, s0⟩ := fieldO hf 0 (te := 9) 0 1 (Opens.str Try.underlying9) (by kernel_rfl) (by kernel_rfl)
  obtain ⟨y1, h1, s1⟩ := fieldO hf 1 (te := 3) 1 1 (Opens.int Try.underlying3) (by kernel_rfl) (by kernel_rfl)
  obtain ⟨y2, h2, s2⟩ := fieldO hf 2 (te := 3) 2 1 (Opens.int Try.underlying3) (by kernel_rfl) (by kernel_rfl)
  obtain ⟨y3, h3, s3⟩ := fieldO hf 3 (te := 3) 3 1 (Opens.int Try.underlying3) (by kernel_rfl) (by kernel_rfl)
  obtain ⟨y4, h4, s4⟩ := fieldO hf 4 (te := 3) 4 1 (Opens.int Try.underlying3) (by kernel_rfl) (by kernel_rfl)
  obtain ⟨y5, h5, s5⟩ := fieldO hf 5 (te := 3) 5 1 (Opens.int Try.underlying3) (by kernel_rfl) (by kernel_rfl)
  have hs : Seg w (cs.drop 0) (cS y0 ++ (cI y1 ++ (cI y2 ++ (cI y3 ++ (cI y4 ++ (cI y5 ++ [])))))) := .step s0 (.step s1 (.step s2 (.step s3 (.step s4 (.step s5 (.done (hl.trans (by kernel_rfl))))))))
  exact ⟨⟨y0, y1, y2, y3, y4, y5⟩, ⟨h0, h1, h2, h3, h4, h5⟩, hs⟩
theorem open_TWind : Opens Try.prog 24 TWind.wf TWind.cells := by
  intro H enc w n cs x h
  obtain ⟨hl, m, hf⟩ := struct_inv Try.underlying24 h
  obtain ⟨y0, h0, s0⟩ := fieldO hf 0 (te := 3) 0 1 (Opens.int Try.underlying3) (by kernel_rfl) (by kernel_rfl)
  obtain ⟨y1, h1, s1⟩ := fieldO hf 1 (te := 3) 1 1 (Opens.int Try.underlying3) (by kernel_rfl) (by kernel_rfl)
  obtain ⟨y2, h2, s2⟩ := fieldO hf 2 (te := 3) 2 1 (Opens.int Try.underlying3) (by kernel_rfl) (by kernel_rfl)
  have hs : Seg w (cs.drop 0) (cI y0 ++ (cI y1 ++ (cI y2 ++ []))) := .step s0 (.step s1 (.step s2 (.done (hl.trans (by kernel_rfl)))))
  exact ⟨⟨y0, y1, y2⟩, ⟨h0, h1, h2⟩, hs⟩
theorem open_TInt : Opens Try.prog 68 TInt.wf TInt.cells := by
  intro H enc w n cs x h
  obtain ⟨hl, m, hf⟩ := struct_inv Try.underlying68 h
  obtain ⟨y0, h0, s0⟩ := fieldO hf 0 (te := 4) 0 1 (Opens.bool Try.underlying4) (by kernel_rfl) (by kernel_rfl)
  obtain ⟨y1, h1, s1⟩ := fieldO hf 1 (te := 66) 1 1 (Opens.slice 0 Try.underlying66 (Opens.intU Try.underlying147) (sz := 1) (by kernel_rfl) (by decide) (fun _ => rfl)) (by kernel_rfl) (by kernel_rfl)
  have hs : Seg w (cs.drop 0) (cB y0 ++ ((fun x => [encL (cU .u16) 0 x]) y1 ++ [])) := .step s0 (.step s1 (.done (hl.trans (by kernel_rfl))))
  exact ⟨⟨y0, y1⟩, ⟨h0, h1⟩, hs⟩
theorem open_TRat : Opens Try.prog 70 TRat.wf TRat.cells := by
  intro H enc w n cs x h
  obtain ⟨hl, m, hf⟩ := struct_inv Try.underlying70 h
  obtain ⟨y0, h0, s0⟩ := fieldO hf 0 (te := 68) 0 2 open_TInt (by kernel_rfl) (by kernel_rfl)
  obtain ⟨y1, h1, s1⟩ := fieldO hf 1 (te := 68) 2 2 open_TInt (by kernel_rfl) (by kernel_rfl)
  have hs : Seg w (cs.drop 0) (TInt.cells y0 ++ (TInt.cells y1 ++ [])) := .step s0 (.step s1 (.done (hl.trans (by kernel_rfl))))
  exact ⟨⟨y0, y1⟩, ⟨h0, h1⟩, hs⟩
theorem open_TMooring : Opens Try.prog 27 TMooring.wf TMooring.cells := by
  intro H enc w n cs x h
  obtain ⟨hl, m, hf⟩ := struct_inv Try.underlying27 h
  obtain ⟨y0, h0, s0⟩ := fieldO hf 0 (te := 4) 0 1 (Opens.bool Try.underlying4) (by kernel_rfl) (by kernel_rfl)
  obtain ⟨y1, h1, s1⟩ := fieldO hf 1 (te := 25) 1 1 (Opens.slice TRat.d Try.underlying25 open_TRat (sz := 4) (by kernel_rfl) (by decide) (fun _ => rfl)) (by kernel_rfl) (by kernel_rfl)
  obtain ⟨y2, h2, s2⟩ := fieldO hf 2 (te := 25) 2 1 (Opens.slice TRat.d Try.underlying25 open_TRat (sz := 4) (by kernel_rfl) (by decide) (fun _ => rfl)) (by kernel_rfl) (by kernel_rfl)
  have hs : Seg w (cs.drop 0) (cB y0 ++ ((fun x => [encL TRat.cells TRat.d x]) y1 ++ ((fun x => [encL TRat.cells TRat.d x]) y2 ++ []))) := .step s0 (.step s1 (.step s2 (.done (hl.trans (by kernel_rfl)))))
  exact ⟨⟨y0, y1, y2⟩, ⟨h0, h1, h2⟩, hs⟩
theorem berthMoorings_lifted (plain : ∀ (y0 : List TLine) (y1 : TWind) (y2 : TMooring), (wL TLine.wf) y0 → TWind.wf y1 → TMooring.wf y2 → ∃ N, g_w06_BerthMoorings N y0 y1 y2 = some true) (os : Os) (started : os.Started) (H : Type) (enc : TypeId × Value → H) :
    ReturnsInHanded {} Try.checked os 3 .any (Rows.berthMooringsSpec.pre6 enc Try.prog Try.f3 Rows.berthMooringsRow.domain false) (Rows.berthMooringsSpec.post enc Try.prog Try.f3 false true false false) := by
  refine returnsInHanded_of_change (C := Try.checked) Try.own started (by kernel_rfl) Try.func3
    (ChangeSpec.witness6 (enc := enc) (C := Try.checked) false ⟨#[], #[.slice none 0 0, .agg #[.int .i64 0, .int .i64 0, .int .i64 0], .agg #[.bool false, .slice none 0 0, .slice none 0 0]], []⟩ 16 (by kernel_rfl) (by kernel_rfl) (by kernel_rfl) (by kernel_rfl)) ?_
  intro W base args ds gs before hval0 hW _ _
  have hval : ∀ (j : Nat) t v, Try.f3.params[j]? = some t → args[j]? = some v → Value.okWide Try.prog W .any base t v := hval0
  have hW2 := hW
  obtain ⟨p, q, hA0, hV, rfl, hfz, hnd⟩ := hW2
  have hA : DataW.TrodAll enc Try.prog W 0 (fun _ => true) true Try.f3.params.toList args.toList ds p := hA0
  rw [Try.params3] at hA hval
  obtain ⟨v0, v1, v2, d0, d1, d2, p0, p1, p2, rfl, rfl, rfl, h0, h1, h2⟩ := trodAll_three hA
  obtain ⟨y0, w0, r0⟩ := argSlice (g := fun y => (encL TLine.cells TLine.d y)) Try.underlying22 (Opens.slice TLine.d Try.underlying22 open_TLine (sz := 6) (by kernel_rfl) (by decide) (fun _ => rfl)) (hval 0 22 v0 rfl rfl) h0
  obtain ⟨y1, w1, r1⟩ := argStruct (c := TWind.cells) Try.underlying24 open_TWind (hval 1 24 v1 rfl rfl) h1
  obtain ⟨y2, w2, r2⟩ := argStruct (c := TMooring.cells) Try.underlying27 open_TMooring (hval 2 27 v2 rfl rfl) h2
  obtain ⟨N, hN⟩ := plain y0 y1 y2 w0 w1 w2
  exact law_post (tb := 4) rfl Try.laidOut (by kernel_rfl) rfl Try.underlying4 rfl hW (rl3 r0 r1 r2) (g_w06_BerthMoorings_ok N y0 y1 y2 true hN)
theorem berthMoorings_of (plain : ∀ (y0 : List TLine) (y1 : TWind) (y2 : TMooring), (wL TLine.wf) y0 → TWind.wf y1 → TMooring.wf y2 → ∃ N, g_w06_BerthMoorings N y0 y1 y2 = some true) : Rows.BerthMooringsSaid :=
  OpenClaim.holds_of_wide 3 Try.f3 rfl rfl rfl rfl rfl rfl rfl ⟨rfl, rfl, rfl, rfl, rfl⟩ rfl rfl rfl rfl rfl (by kernel_rfl) Try.func3 (by kernel_rfl)
    (of_decide_eq_true (by kernel_rfl)) (by unfold Func.isWrapper; first | (rw [if_pos (by decide +kernel)]; kernel_rfl) | (rw [if_neg (by decide +kernel)]; exact ⟨rfl, rfl⟩))
    (fun os started H enc _ => berthMoorings_lifted plain os started H enc)
theorem berthMoorings_holds : Rows.BerthMooringsSaid := berthMoorings_of Go.Den.berthMoorings_plain
#print axioms berthMoorings_holds
end Go.Proofs.Ytkkolmlgedjmnaa
