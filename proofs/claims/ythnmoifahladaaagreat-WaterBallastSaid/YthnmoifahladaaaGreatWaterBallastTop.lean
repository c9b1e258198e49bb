/- The law WaterBallast holds: the given statement. No conditions. -/
import Derived.Test.YthnmoifahladaaaGreatWaterBallastSb
import Derived.Test.YthnmoifahladaaaGreatWaterBallastPl
import Derived.Test.YthnmoifahladaaaGreatRows
set_option linter.unusedVariables false
set_option maxRecDepth 100000
namespace Go.Proofs.YthnmoifahladaaaGreat
open Go.Ab Go.Den Go.ChangeShapes Go.WideShapes Go.ChangeAt Go.RowKit
theorem Tryz.own : ownKnob Tryz.prog.godebug = none := by kernel_rfl
theorem Tryz.laidOut : laidOutB Tryz.prog = true := by kernel_rfl
theorem open_TPm : Opens Tryz.prog 64 TPm.wf TPm.cells := by
  intro H enc w n cs x h
  obtain ⟨hl, m, hf⟩ := struct_inv Tryz.underlying64 h
  obtain ⟨y0, h0, s0⟩ := fieldO hf 0 (te := 3) 0 1 (Opens.int Tryz.underlying3) (by kernel_rfl) (by kernel_rfl)
  obtain ⟨y1, h1, s1⟩ := fieldO hf 1 (te := 3) 1 1 (Opens.int Tryz.underlying3) (by kernel_rfl) (by kernel_rfl)
  obtain ⟨y2, h2, s2⟩ := fieldO hf 2 (te := 3) 2 1 (Opens.int Tryz.underlying3) (by kernel_rfl) (by kernel_rfl)
  have hs : Seg w (cs.drop 0) (cI y0 ++ (cI y1 ++ (cI y2 ++ []))) := .step s0 (.step s1 (.step s2 (.done (hl.trans (by kernel_rfl)))))
  exact ⟨⟨y0, y1, y2⟩, ⟨h0, h1, h2⟩, hs⟩
theorem open_TTank : Opens Tryz.prog 100 TTank.wf TTank.cells := by
  intro H enc w n cs x h
  obtain ⟨hl, m, hf⟩ := struct_inv Tryz.underlying100 h
  obtain ⟨y0, h0, s0⟩ := fieldO hf 0 (te := 9) 0 1 (Opens.str Tryz.underlying9) (by kernel_rfl) (by kernel_rfl)
  obtain ⟨y1, h1, s1⟩ := fieldO hf 1 (te := 3) 1 1 (Opens.int Tryz.underlying3) (by kernel_rfl) (by kernel_rfl)
  obtain ⟨y2, h2, s2⟩ := fieldO hf 2 (te := 3) 2 1 (Opens.int Tryz.underlying3) (by kernel_rfl) (by kernel_rfl)
  obtain ⟨y3, h3, s3⟩ := fieldO hf 3 (te := 3) 3 1 (Opens.int Tryz.underlying3) (by kernel_rfl) (by kernel_rfl)
  obtain ⟨y4, h4, s4⟩ := fieldO hf 4 (te := 3) 4 1 (Opens.int Tryz.underlying3) (by kernel_rfl) (by kernel_rfl)
  have hs : Seg w (cs.drop 0) (cS y0 ++ (cI y1 ++ (cI y2 ++ (cI y3 ++ (cI y4 ++ []))))) := .step s0 (.step s1 (.step s2 (.step s3 (.step s4 (.done (hl.trans (by kernel_rfl)))))))
  exact ⟨⟨y0, y1, y2, y3, y4⟩, ⟨h0, h1, h2, h3, h4⟩, hs⟩
theorem open_TPn : Opens Tryz.prog 25 TPn.wf TPn.cells := by
  intro H enc w n cs x h
  obtain ⟨hl, m, hf⟩ := struct_inv Tryz.underlying25 h
  obtain ⟨y0, h0, s0⟩ := fieldO hf 0 (te := 3) 0 1 (Opens.int Tryz.underlying3) (by kernel_rfl) (by kernel_rfl)
  obtain ⟨y1, h1, s1⟩ := fieldO hf 1 (te := 3) 1 1 (Opens.int Tryz.underlying3) (by kernel_rfl) (by kernel_rfl)
  obtain ⟨y2, h2, s2⟩ := fieldO hf 2 (te := 3) 2 1 (Opens.int Tryz.underlying3) (by kernel_rfl) (by kernel_rfl)
  obtain ⟨y3, h3, s3⟩ := fieldO hf 3 (te := 22) 3 1 (Opens.slice TPm.d Tryz.underlying22 open_TPm (sz := 3) (by kernel_rfl) (by decide) (fun _ => rfl)) (by kernel_rfl) (by kernel_rfl)
  obtain ⟨y4, h4, s4⟩ := fieldO hf 4 (te := 23) 4 1 (Opens.slice TTank.d Tryz.underlying23 open_TTank (sz := 5) (by kernel_rfl) (by decide) (fun _ => rfl)) (by kernel_rfl) (by kernel_rfl)
  have hs : Seg w (cs.drop 0) (cI y0 ++ (cI y1 ++ (cI y2 ++ ((fun x => [encL TPm.cells TPm.d x]) y3 ++ ((fun x => [encL TTank.cells TTank.d x]) y4 ++ []))))) := .step s0 (.step s1 (.step s2 (.step s3 (.step s4 (.done (hl.trans (by kernel_rfl)))))))
  exact ⟨⟨y0, y1, y2, y3, y4⟩, ⟨h0, h1, h2, h3, h4⟩, hs⟩
theorem open_TLimits : Opens Tryz.prog 27 TLimits.wf TLimits.cells := by
  intro H enc w n cs x h
  obtain ⟨hl, m, hf⟩ := struct_inv Tryz.underlying27 h
  obtain ⟨y0, h0, s0⟩ := fieldO hf 0 (te := 3) 0 1 (Opens.int Tryz.underlying3) (by kernel_rfl) (by kernel_rfl)
  obtain ⟨y1, h1, s1⟩ := fieldO hf 1 (te := 3) 1 1 (Opens.int Tryz.underlying3) (by kernel_rfl) (by kernel_rfl)
  obtain ⟨y2, h2, s2⟩ := fieldO hf 2 (te := 3) 2 1 (Opens.int Tryz.underlying3) (by kernel_rfl) (by kernel_rfl)
  obtain ⟨y3, h3, s3⟩ := fieldO hf 3 (te := 3) 3 1 (Opens.int Tryz.underlying3) (by kernel_rfl) (by kernel_rfl)
  obtain ⟨y4, h4, s4⟩ := fieldO hf 4 (te := 3) 4 1 (Opens.int Tryz.underlying3) (by kernel_rfl) (by kernel_rfl)
  have hs : Seg w (cs.drop 0) (cI y0 ++ (cI y1 ++ (cI y2 ++ (cI y3 ++ (cI y4 ++ []))))) := .step s0 (.step s1 (.step s2 (.step s3 (.step s4 (.done (hl.trans (by kernel_rfl)))))))
  exact ⟨⟨y0, y1, y2, y3, y4⟩, ⟨h0, h1, h2, h3, h4⟩, hs⟩
theorem open_TAim : Opens Tryz.prog 30 TAim.wf TAim.cells := by
  intro H enc w n cs x h
  obtain ⟨hl, m, hf⟩ := struct_inv Tryz.underlying30 h
  obtain ⟨y0, h0, s0⟩ := fieldO hf 0 (te := 28) 0 1 (Opens.slice 0 Tryz.underlying28 (Opens.int Tryz.underlying3) (sz := 1) (by kernel_rfl) (by decide) (fun _ => rfl)) (by kernel_rfl) (by kernel_rfl)
  obtain ⟨y1, h1, s1⟩ := fieldO hf 1 (te := 3) 1 1 (Opens.int Tryz.underlying3) (by kernel_rfl) (by kernel_rfl)
  obtain ⟨y2, h2, s2⟩ := fieldO hf 2 (te := 3) 2 1 (Opens.int Tryz.underlying3) (by kernel_rfl) (by kernel_rfl)
  have hs : Seg w (cs.drop 0) ((fun x => [encL cI 0 x]) y0 ++ (cI y1 ++ (cI y2 ++ []))) := .step s0 (.step s1 (.step s2 (.done (hl.trans (by kernel_rfl)))))
  exact ⟨⟨y0, y1, y2⟩, ⟨h0, h1, h2⟩, hs⟩
theorem waterBallast_lifted (plain : ∀ (y0 : TPn) (y1 : TLimits) (y2 : TAim), TPn.wf y0 → TLimits.wf y1 → TAim.wf y2 → ∃ N, g_w05_WaterBallast N y0 y1 y2 = some true) (os : Os) (started : os.Started) (H : Type) (enc : TypeId × Value → H) :
    ReturnsInHanded {} Tryz.checked os 3 .any (Rows.waterBallastSpec.pre6 enc Tryz.prog Tryz.f3 Rows.waterBallastRow.domain false) (Rows.waterBallastSpec.post enc Tryz.prog Tryz.f3 false true false false) := by
  refine returnsInHanded_of_change (C := Tryz.checked) Tryz.own started (by kernel_rfl) Tryz.func3
    (ChangeSpec.witness6 (enc := enc) (C := Tryz.checked) false ⟨#[], #[.agg #[.int .i64 0, .int .i64 0, .int .i64 0, .slice none 0 0, .slice none 0 0], .agg #[.int .i64 0, .int .i64 0, .int .i64 0, .int .i64 0, .int .i64 0], .agg #[.slice none 0 0, .int .i64 0, .int .i64 0]], []⟩ 16 (by kernel_rfl) (by kernel_rfl) (by kernel_rfl) (by kernel_rfl)) ?_
  intro W base args ds gs before hval0 hW _ _
  have hval : ∀ (j : Nat) t v, Tryz.f3.params[j]? = some t → args[j]? = some v → Value.okWide Tryz.prog W .any base t v := hval0
  have hW2 := hW
  obtain ⟨p, q, hA0, hV, rfl, hfz, hnd⟩ := hW2
  have hA : DataW.TrodAll enc Tryz.prog W 0 (fun _ => true) true Tryz.f3.params.toList args.toList ds p := hA0
  rw [Tryz.params3] at hA hval
  obtain ⟨v0, v1, v2, d0, d1, d2, p0, p1, p2, rfl, rfl, rfl, h0, h1, h2⟩ := trodAll_three hA
  obtain ⟨y0, w0, r0⟩ := argStruct (c := TPn.cells) Tryz.underlying25 open_TPn (hval 0 25 v0 rfl rfl) h0
  obtain ⟨y1, w1, r1⟩ := argStruct (c := TLimits.cells) Tryz.underlying27 open_TLimits (hval 1 27 v1 rfl rfl) h1
  obtain ⟨y2, w2, r2⟩ := argStruct (c := TAim.cells) Tryz.underlying30 open_TAim (hval 2 30 v2 rfl rfl) h2
  obtain ⟨N, hN⟩ := plain y0 y1 y2 w0 w1 w2
  exact law_post (tb := 4) rfl Tryz.laidOut (by kernel_rfl) rfl Tryz.underlying4 rfl hW (rl3 r0 r1 r2) (g_w05_WaterBallast_ok N y0 y1 y2 true hN)
theorem waterBallast_of (plain : ∀ (y0 : TPn) (y1 : TLimits) (y2 : TAim), TPn.wf y0 → TLimits.wf y1 → TAim.wf y2 → ∃ N, g_w05_WaterBallast N y0 y1 y2 = some true) : Rows.WaterBallastSaid :=
  OpenClaim.holds_of_wide 3 Tryz.f3 rfl rfl rfl rfl rfl rfl rfl ⟨rfl, rfl, rfl, rfl, rfl⟩ rfl rfl rfl rfl rfl (by kernel_rfl) Tryz.func3 (by kernel_rfl)
    (of_decide_eq_true (by kernel_rfl)) (by unfold Func.isWrapper; first | (rw [if_pos (by decide +kernel)]; kernel_rfl) | (rw [if_neg (by decide +kernel)]; exact ⟨rfl, rfl⟩))
    (fun os started H enc _ => waterBallast_lifted plain os started H enc)
theorem waterBallast_holds : Rows.WaterBallastSaid := waterBallast_of Go.Den.waterBallast_plain
#print axioms waterBallast_holds
end Go.Proofs.YthnmoifahladaaaGreat
