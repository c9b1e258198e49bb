/- The law WaterMoves holds: the given statement. No conditions. -/
import Derived.Test.YtefejfclhhbbnaaGreatWaterMovesSc
import Derived.Test.YtefejfclhhbbnaaGreatWaterMovesPl
import Derived.Test.YtefejfclhhbbnaaGreatRows
set_option linter.unusedVariables false
set_option maxRecDepth 100000
namespace Go.Proofs.YtefejfclhhbbnaaGreat
open Go.Ab Go.Den Go.ChangeShapes Go.WideShapes Go.ChangeAt Go.RowKit
theorem Tryz.own : ownKnob Tryz.prog.godebug = none := by kernel_rfl
theorem Tryz.laidOut : laidOutB Tryz.prog = true := by kernel_rfl
theorem open_TPm : Opens Tryz.prog 63 TPm.wf TPm.cells := by
  intro H enc w n cs x h
  obtain ⟨hl, m, hf⟩ := struct_inv Tryz.underlying63 h
  obtain ⟨y0, h0, s0⟩ := fieldO hf 0 (te := 3) 0 1 (Opens.int Tryz.underlying3) (by kernel_rfl) (by kernel_rfl)
  obtain ⟨y1, h1, s1⟩ := fieldO hf 1 (te := 3) 1 1 (Opens.int Tryz.underlying3) (by kernel_rfl) (by kernel_rfl)
  obtain ⟨y2, h2, s2⟩ := fieldO hf 2 (te := 3) 2 1 (Opens.int Tryz.underlying3) (by kernel_rfl) (by kernel_rfl)
  have hs : Seg w (cs.drop 0) (cI y0 ++ (cI y1 ++ (cI y2 ++ []))) := .step s0 (.step s1 (.step s2 (.done (hl.trans (by kernel_rfl)))))
  exact ⟨⟨y0, y1, y2⟩, ⟨h0, h1, h2⟩, hs⟩
theorem open_TTank : Opens Tryz.prog 67 TTank.wf TTank.cells := by
  intro H enc w n cs x h
  obtain ⟨hl, m, hf⟩ := struct_inv Tryz.underlying67 h
  obtain ⟨y0, h0, s0⟩ := fieldO hf 0 (te := 9) 0 1 (Opens.str Tryz.underlying9) (by kernel_rfl) (by kernel_rfl)
  obtain ⟨y1, h1, s1⟩ := fieldO hf 1 (te := 3) 1 1 (Opens.int Tryz.underlying3) (by kernel_rfl) (by kernel_rfl)
  obtain ⟨y2, h2, s2⟩ := fieldO hf 2 (te := 3) 2 1 (Opens.int Tryz.underlying3) (by kernel_rfl) (by kernel_rfl)
  obtain ⟨y3, h3, s3⟩ := fieldO hf 3 (te := 3) 3 1 (Opens.int Tryz.underlying3) (by kernel_rfl) (by kernel_rfl)
  obtain ⟨y4, h4, s4⟩ := fieldO hf 4 (te := 3) 4 1 (Opens.int Tryz.underlying3) (by kernel_rfl) (by kernel_rfl)
  have hs : Seg w (cs.drop 0) (cS y0 ++ (cI y1 ++ (cI y2 ++ (cI y3 ++ (cI y4 ++ []))))) := .step s0 (.step s1 (.step s2 (.step s3 (.step s4 (.done (hl.trans (by kernel_rfl)))))))
  exact ⟨⟨y0, y1, y2, y3, y4⟩, ⟨h0, h1, h2, h3, h4⟩, hs⟩
theorem open_TPn : Opens Tryz.prog 25 TPn.wf TPn.cells := by
  intro H enc w n cs x h
  obtain ⟨hl, m, hf⟩ := struct_inv Tryz.underlying25 h
  obtain ⟨y0, h0, s0⟩ := fieldO hf 0 (te := 3) 0 1 (Opens.int Tryz.underlying3) (by kernel_rfl) (by kernel_rfl)
  obtain ⟨y1, h1, s1⟩ := fieldO hf 1 (te := 3) 1 1 (Opens.int Tryz.underlying3) (by kernel_rfl) (by kernel_rfl)
  obtain ⟨y2, h2, s2⟩ := fieldO hf 2 (te := 3) 2 1 (Opens.int Tryz.underlying3) (by kernel_rfl) (by kernel_rfl)
  obtain ⟨y3, h3, s3⟩ := fieldO hf 3 (te := 22) 3 1 (Opens.slice TPm.d Tryz.underlying22 open_TPm (sz := 3) (by kernel_rfl) (by decide) (fun _ => rfl)) (by kernel_rfl) (by kernel_rfl)
  obtain ⟨y4, h4, s4⟩ := fieldO hf 4 (te := 23) 4 1 (Opens.slice TTank.d Tryz.underlying23 open_TTank (sz := 5) (by kernel_rfl) (by decide) (fun _ => rfl)) (by kernel_rfl) (by kernel_rfl)
  have hs : Seg w (cs.drop 0) (cI y0 ++ (cI y1 ++ (cI y2 ++ ((fun x => [encL TPm.cells TPm.d x]) y3 ++ ((fun x => [encL TTank.cells TTank.d x]) y4 ++ []))))) := .step s0 (.step s1 (.step s2 (.step s3 (.step s4 (.done (hl.trans (by kernel_rfl)))))))
  exact ⟨⟨y0, y1, y2, y3, y4⟩, ⟨h0, h1, h2, h3, h4⟩, hs⟩
theorem open_TLimits : Opens Tryz.prog 27 TLimits.wf TLimits.cells := by
  intro H enc w n cs x h
  obtain ⟨hl, m, hf⟩ := struct_inv Tryz.underlying27 h
  obtain ⟨y0, h0, s0⟩ := fieldO hf 0 (te := 3) 0 1 (Opens.int Tryz.underlying3) (by kernel_rfl) (by kernel_rfl)
  obtain ⟨y1, h1, s1⟩ := fieldO hf 1 (te := 3) 1 1 (Opens.int Tryz.underlying3) (by kernel_rfl) (by kernel_rfl)
  obtain ⟨y2, h2, s2⟩ := fieldO hf 2 (te := 3) 2 1 (Opens.int Tryz.underlying3) (by kernel_rfl) (by kernel_rfl)
  obtain ⟨y3, h3, s3⟩ := fieldO hf 3 (te := 3) 3 1 (Opens.int Tryz.underlying3) (by kernel_rfl) (by kernel_rfl)
  obtain ⟨y4, h4, s4⟩ := fieldO hf 4 (te := 3) 4 1 (Opens.int Tryz.underlying3) (by kernel_rfl) (by kernel_rfl)
  have hs : Seg w (cs.drop 0) (cI y0 ++ (cI y1 ++ (cI y2 ++ (cI y3 ++ (cI y4 ++ []))))) := .step s0 (.step s1 (.step s2 (.step s3 (.step s4 (.done (hl.trans (by kernel_rfl)))))))
  exact ⟨⟨y0, y1, y2, y3, y4⟩, ⟨h0, h1, h2, h3, h4⟩, hs⟩
theorem open_TAim : Opens Tryz.prog 55 TAim.wf TAim.cells := by
  intro H enc w n cs x h
  obtain ⟨hl, m, hf⟩ := struct_inv Tryz.underlying55 h
  obtain ⟨y0, h0, s0⟩ := fieldO hf 0 (te := 28) 0 1 (Opens.slice 0 Tryz.underlying28 (Opens.int Tryz.underlying3) (sz := 1) (by kernel_rfl) (by decide) (fun _ => rfl)) (by kernel_rfl) (by kernel_rfl)
  obtain ⟨y1, h1, s1⟩ := fieldO hf 1 (te := 3) 1 1 (Opens.int Tryz.underlying3) (by kernel_rfl) (by kernel_rfl)
  obtain ⟨y2, h2, s2⟩ := fieldO hf 2 (te := 3) 2 1 (Opens.int Tryz.underlying3) (by kernel_rfl) (by kernel_rfl)
  have hs : Seg w (cs.drop 0) ((fun x => [encL cI 0 x]) y0 ++ (cI y1 ++ (cI y2 ++ []))) := .step s0 (.step s1 (.step s2 (.done (hl.trans (by kernel_rfl)))))
  exact ⟨⟨y0, y1, y2⟩, ⟨h0, h1, h2⟩, hs⟩
theorem open_TMove : Opens Tryz.prog 98 TMove.wf TMove.cells := by
  intro H enc w n cs x h
  obtain ⟨hl, m, hf⟩ := struct_inv Tryz.underlying98 h
  obtain ⟨y0, h0, s0⟩ := fieldO hf 0 (te := 3) 0 1 (Opens.int Tryz.underlying3) (by kernel_rfl) (by kernel_rfl)
  obtain ⟨y1, h1, s1⟩ := fieldO hf 1 (te := 4) 1 1 (Opens.bool Tryz.underlying4) (by kernel_rfl) (by kernel_rfl)
  have hs : Seg w (cs.drop 0) (cI y0 ++ (cB y1 ++ [])) := .step s0 (.step s1 (.done (hl.trans (by kernel_rfl))))
  exact ⟨⟨y0, y1⟩, ⟨h0, h1⟩, hs⟩
theorem open_Tw05_Plan : Opens Tryz.prog 58 Tw05_Plan.wf Tw05_Plan.cells := by
  intro H enc w n cs x h
  obtain ⟨hl, m, hf⟩ := struct_inv Tryz.underlying58 h
  obtain ⟨y0, h0, s0⟩ := fieldO hf 0 (te := 25) 0 5 open_TPn (by kernel_rfl) (by kernel_rfl)
  obtain ⟨y1, h1, s1⟩ := fieldO hf 1 (te := 27) 5 5 open_TLimits (by kernel_rfl) (by kernel_rfl)
  obtain ⟨y2, h2, s2⟩ := fieldO hf 2 (te := 55) 10 3 open_TAim (by kernel_rfl) (by kernel_rfl)
  obtain ⟨y3, h3, s3⟩ := fieldO hf 3 (te := 56) 13 1 (Opens.slice TMove.d Tryz.underlying56 open_TMove (sz := 2) (by kernel_rfl) (by decide) (fun _ => rfl)) (by kernel_rfl) (by kernel_rfl)
  have hs : Seg w (cs.drop 0) (TPn.cells y0 ++ (TLimits.cells y1 ++ (TAim.cells y2 ++ ((fun x => [encL TMove.cells TMove.d x]) y3 ++ [])))) := .step s0 (.step s1 (.step s2 (.step s3 (.done (hl.trans (by kernel_rfl))))))
  exact ⟨⟨y0, y1, y2, y3⟩, ⟨h0, h1, h2, h3⟩, hs⟩
theorem waterMoves_lifted (plain : ∀ (y0 : Tw05_Plan), Tw05_Plan.wf y0 → ∃ N, g_w05_WaterMoves N y0 = some true) (os : Os) (started : os.Started) (H : Type) (enc : TypeId × Value → H) :
    ReturnsInHanded {} Tryz.checked os 4 .any (Rows.waterMovesSpec.pre6 enc Tryz.prog Tryz.f4 Rows.waterMovesRow.domain false) (Rows.waterMovesSpec.post enc Tryz.prog Tryz.f4 false true false false) := by
  refine returnsInHanded_of_change (C := Tryz.checked) Tryz.own started (by kernel_rfl) Tryz.func4
    (ChangeSpec.witness6 (enc := enc) (C := Tryz.checked) false ⟨#[], #[.agg #[.int .i64 0, .int .i64 0, .int .i64 0, .slice none 0 0, .slice none 0 0, .int .i64 0, .int .i64 0, .int .i64 0, .int .i64 0, .int .i64 0, .slice none 0 0, .int .i64 0, .int .i64 0, .slice none 0 0]], []⟩ 16 (by kernel_rfl) (by kernel_rfl) (by kernel_rfl) (by kernel_rfl)) ?_
  intro W base args ds gs before hval0 hW _ _
  have hval : ∀ (j : Nat) t v, Tryz.f4.params[j]? = some t → args[j]? = some v → Value.okWide Tryz.prog W .any base t v := hval0
  have hW2 := hW
  obtain ⟨p, q, hA0, hV, rfl, hfz, hnd⟩ := hW2
  have hA : DataW.TrodAll enc Tryz.prog W 0 (fun _ => true) true Tryz.f4.params.toList args.toList ds p := hA0
  rw [Tryz.params4] at hA hval
  obtain ⟨v0, d0, rfl, rfl, h0⟩ := trodAll_one hA
  obtain ⟨y0, w0, r0⟩ := argStruct (c := Tw05_Plan.cells) Tryz.underlying58 open_Tw05_Plan (hval 0 58 v0 rfl rfl) h0
  obtain ⟨N, hN⟩ := plain y0 w0
  exact law_post (tb := 4) rfl Tryz.laidOut (by kernel_rfl) rfl Tryz.underlying4 rfl hW (rl1 r0) (g_w05_WaterMoves_ok N y0 true hN)
theorem waterMoves_of (plain : ∀ (y0 : Tw05_Plan), Tw05_Plan.wf y0 → ∃ N, g_w05_WaterMoves N y0 = some true) : Rows.WaterMovesSaid :=
  OpenClaim.holds_of_wide 4 Tryz.f4 rfl rfl rfl rfl rfl rfl rfl ⟨rfl, rfl, rfl, rfl, rfl⟩ rfl rfl rfl rfl rfl (by kernel_rfl) Tryz.func4 (by kernel_rfl)
    (of_decide_eq_true (by kernel_rfl)) (by unfold Func.isWrapper; first | (rw [if_pos (by decide +kernel)]; kernel_rfl) | (rw [if_neg (by decide +kernel)]; exact ⟨rfl, rfl⟩))
    (fun os started H enc _ => waterMoves_lifted plain os started H enc)
theorem waterMoves_holds : Rows.WaterMovesSaid := waterMoves_of Go.Den.waterMoves_plain
#print axioms waterMoves_holds
end Go.Proofs.YtefejfclhhbbnaaGreat
