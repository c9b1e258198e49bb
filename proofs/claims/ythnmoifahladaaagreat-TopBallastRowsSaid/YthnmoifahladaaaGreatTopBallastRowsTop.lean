/- The law TopBallastRows holds: the given statement. No conditions. -/
import Derived.Test.YthnmoifahladaaaGreatTopBallastRowsSc
import Derived.Test.YthnmoifahladaaaGreatTopBallastRowsPl
import Derived.Test.YthnmoifahladaaaGreatRows
set_option linter.unusedVariables false
set_option maxRecDepth 100000
namespace Go.Proofs.YthnmoifahladaaaGreat
open Go.Ab Go.Den Go.ChangeShapes Go.WideShapes Go.ChangeAt Go.RowKit
theorem Tryz.own : ownKnob Tryz.prog.godebug = none := by kernel_rfl
theorem Tryz.laidOut : laidOutB Tryz.prog = true := by kernel_rfl
theorem ai9 : iz Tryz.prog 64 fy.wf fy.cells := by
  intro H enc w n cs x h
  obtain ⟨hl, m, hf⟩ := ti Tryz.underlying64 h
  obtain ⟨y0, h0, s0⟩ := j7 hf 0 (te := 3) 0 1 (iz.int Tryz.underlying3) (by kernel_rfl) (by kernel_rfl)
  obtain ⟨y1, h1, s1⟩ := j7 hf 1 (te := 3) 1 1 (iz.int Tryz.underlying3) (by kernel_rfl) (by kernel_rfl)
  obtain ⟨y2, h2, s2⟩ := j7 hf 2 (te := 3) 2 1 (iz.int Tryz.underlying3) (by kernel_rfl) (by kernel_rfl)
  have hs : JI w (cs.drop 0) (cI y0 ++ (cI y1 ++ (cI y2 ++ []))) := .step s0 (.step s1 (.step s2 (.done (hl.trans (by kernel_rfl)))))
  exact ⟨⟨y0, y1, y2⟩, ⟨h0, h1, h2⟩, hs⟩
theorem aaR : iz Tryz.prog 100 cL.wf cL.cells := by
  intro H enc w n cs x h
  obtain ⟨hl, m, hf⟩ := ti Tryz.underlying100 h
  obtain ⟨y0, h0, s0⟩ := j7 hf 0 (te := 9) 0 1 (iz.str Tryz.underlying9) (by kernel_rfl) (by kernel_rfl)
  obtain ⟨y1, h1, s1⟩ := j7 hf 1 (te := 3) 1 1 (iz.int Tryz.underlying3) (by kernel_rfl) (by kernel_rfl)
  obtain ⟨y2, h2, s2⟩ := j7 hf 2 (te := 3) 2 1 (iz.int Tryz.underlying3) (by kernel_rfl) (by kernel_rfl)
  obtain ⟨y3, h3, s3⟩ := j7 hf 3 (te := 3) 3 1 (iz.int Tryz.underlying3) (by kernel_rfl) (by kernel_rfl)
  obtain ⟨y4, h4, s4⟩ := j7 hf 4 (te := 3) 4 1 (iz.int Tryz.underlying3) (by kernel_rfl) (by kernel_rfl)
  have hs : JI w (cs.drop 0) (cS y0 ++ (cI y1 ++ (cI y2 ++ (cI y3 ++ (cI y4 ++ []))))) := .step s0 (.step s1 (.step s2 (.step s3 (.step s4 (.done (hl.trans (by kernel_rfl)))))))
  exact ⟨⟨y0, y1, y2, y3, y4⟩, ⟨h0, h1, h2, h3, h4⟩, hs⟩
theorem aja : iz Tryz.prog 25 cQ.wf cQ.cells := by
  intro H enc w n cs x h
  obtain ⟨hl, m, hf⟩ := ti Tryz.underlying25 h
  obtain ⟨y0, h0, s0⟩ := j7 hf 0 (te := 3) 0 1 (iz.int Tryz.underlying3) (by kernel_rfl) (by kernel_rfl)
  obtain ⟨y1, h1, s1⟩ := j7 hf 1 (te := 3) 1 1 (iz.int Tryz.underlying3) (by kernel_rfl) (by kernel_rfl)
  obtain ⟨y2, h2, s2⟩ := j7 hf 2 (te := 3) 2 1 (iz.int Tryz.underlying3) (by kernel_rfl) (by kernel_rfl)
  obtain ⟨y3, h3, s3⟩ := j7 hf 3 (te := 22) 3 1 (iz.slice fy.d Tryz.underlying22 ai9 (sz := 3) (by kernel_rfl) (by decide) (fun _ => rfl)) (by kernel_rfl) (by kernel_rfl)
  obtain ⟨y4, h4, s4⟩ := j7 hf 4 (te := 23) 4 1 (iz.slice cL.d Tryz.underlying23 aaR (sz := 5) (by kernel_rfl) (by decide) (fun _ => rfl)) (by kernel_rfl) (by kernel_rfl)
  have hs : JI w (cs.drop 0) (cI y0 ++ (cI y1 ++ (cI y2 ++ ((fun x => [b5 fy.cells fy.d x]) y3 ++ ((fun x => [b5 cL.cells cL.d x]) y4 ++ []))))) := .step s0 (.step s1 (.step s2 (.step s3 (.step s4 (.done (hl.trans (by kernel_rfl)))))))
  exact ⟨⟨y0, y1, y2, y3, y4⟩, ⟨h0, h1, h2, h3, h4⟩, hs⟩
theorem Ws : iz Tryz.prog 27 bF.wf bF.cells := by
  intro H enc w n cs x h
  obtain ⟨hl, m, hf⟩ := ti Tryz.underlying27 h
  obtain ⟨y0, h0, s0⟩ := j7 hf 0 (te := 3) 0 1 (iz.int Tryz.underlying3) (by kernel_rfl) (by kernel_rfl)
  obtain ⟨y1, h1, s1⟩ := j7 hf 1 (te := 3) 1 1 (iz.int Tryz.underlying3) (by kernel_rfl) (by kernel_rfl)
  obtain ⟨y2, h2, s2⟩ := j7 hf 2 (te := 3) 2 1 (iz.int Tryz.underlying3) (by kernel_rfl) (by kernel_rfl)
  obtain ⟨y3, h3, s3⟩ := j7 hf 3 (te := 3) 3 1 (iz.int Tryz.underlying3) (by kernel_rfl) (by kernel_rfl)
  obtain ⟨y4, h4, s4⟩ := j7 hf 4 (te := 3) 4 1 (iz.int Tryz.underlying3) (by kernel_rfl) (by kernel_rfl)
  have hs : JI w (cs.drop 0) (cI y0 ++ (cI y1 ++ (cI y2 ++ (cI y3 ++ (cI y4 ++ []))))) := .step s0 (.step s1 (.step s2 (.step s3 (.step s4 (.done (hl.trans (by kernel_rfl)))))))
  exact ⟨⟨y0, y1, y2, y3, y4⟩, ⟨h0, h1, h2, h3, h4⟩, hs⟩
theorem ad6 : iz Tryz.prog 30 ox.wf ox.cells := by
  intro H enc w n cs x h
  obtain ⟨hl, m, hf⟩ := ti Tryz.underlying30 h
  obtain ⟨y0, h0, s0⟩ := j7 hf 0 (te := 28) 0 1 (iz.slice 0 Tryz.underlying28 (iz.int Tryz.underlying3) (sz := 1) (by kernel_rfl) (by decide) (fun _ => rfl)) (by kernel_rfl) (by kernel_rfl)
  obtain ⟨y1, h1, s1⟩ := j7 hf 1 (te := 3) 1 1 (iz.int Tryz.underlying3) (by kernel_rfl) (by kernel_rfl)
  obtain ⟨y2, h2, s2⟩ := j7 hf 2 (te := 3) 2 1 (iz.int Tryz.underlying3) (by kernel_rfl) (by kernel_rfl)
  have hs : JI w (cs.drop 0) ((fun x => [b5 cI 0 x]) y0 ++ (cI y1 ++ (cI y2 ++ []))) := .step s0 (.step s1 (.step s2 (.done (hl.trans (by kernel_rfl)))))
  exact ⟨⟨y0, y1, y2⟩, ⟨h0, h1, h2⟩, hs⟩
theorem aaS : iz Tryz.prog 81 av.wf av.cells := by
  intro H enc w n cs x h
  obtain ⟨hl, m, hf⟩ := ti Tryz.underlying81 h
  obtain ⟨y0, h0, s0⟩ := j7 hf 0 (te := 3) 0 1 (iz.int Tryz.underlying3) (by kernel_rfl) (by kernel_rfl)
  obtain ⟨y1, h1, s1⟩ := j7 hf 1 (te := 4) 1 1 (iz.bool Tryz.underlying4) (by kernel_rfl) (by kernel_rfl)
  have hs : JI w (cs.drop 0) (cI y0 ++ (cB y1 ++ [])) := .step s0 (.step s1 (.done (hl.trans (by kernel_rfl))))
  exact ⟨⟨y0, y1⟩, ⟨h0, h1⟩, hs⟩
theorem RK : iz Tryz.prog 42 dM.wf dM.cells := by
  intro H enc w n cs x h
  obtain ⟨hl, m, hf⟩ := ti Tryz.underlying42 h
  obtain ⟨y0, h0, s0⟩ := j7 hf 0 (te := 25) 0 5 aja (by kernel_rfl) (by kernel_rfl)
  obtain ⟨y1, h1, s1⟩ := j7 hf 1 (te := 27) 5 5 Ws (by kernel_rfl) (by kernel_rfl)
  obtain ⟨y2, h2, s2⟩ := j7 hf 2 (te := 30) 10 3 ad6 (by kernel_rfl) (by kernel_rfl)
  obtain ⟨y3, h3, s3⟩ := j7 hf 3 (te := 33) 13 1 (iz.slice av.d Tryz.underlying33 aaS (sz := 2) (by kernel_rfl) (by decide) (fun _ => rfl)) (by kernel_rfl) (by kernel_rfl)
  have hs : JI w (cs.drop 0) (cQ.cells y0 ++ (bF.cells y1 ++ (ox.cells y2 ++ ((fun x => [b5 av.cells av.d x]) y3 ++ [])))) := .step s0 (.step s1 (.step s2 (.step s3 (.done (hl.trans (by kernel_rfl))))))
  exact ⟨⟨y0, y1, y2, y3⟩, ⟨h0, h1, h2, h3⟩, hs⟩
theorem Eh (plain : ∀ (y0 : dM), dM.wf y0 -> ∃ N, eh N y0 = some true) (os : Os) (started : os.Started) (H : Type) (enc : TypeId × Value -> H) :
    ReturnsInHanded {} Tryz.checked os 4 .any (Rows.topBallastRowsSpec.pre6 enc Tryz.prog Tryz.f4 Rows.topBallastRowsRow.domain false) (Rows.topBallastRowsSpec.post enc Tryz.prog Tryz.f4 false true false false) := by
  refine returnsInHanded_of_change (C := Tryz.checked) Tryz.own started (by kernel_rfl) Tryz.func4
    (ChangeSpec.witness6 (enc := enc) (C := Tryz.checked) false ⟨#[], #[.agg #[.int .i64 0, .int .i64 0, .int .i64 0, .slice none 0 0, .slice none 0 0, .int .i64 0, .int .i64 0, .int .i64 0, .int .i64 0, .int .i64 0, .slice none 0 0, .int .i64 0, .int .i64 0, .slice none 0 0]], []⟩ 16 (by kernel_rfl) (by kernel_rfl) (by kernel_rfl) (by kernel_rfl)) ?_
  intro W base args ds gs before ap9 hW _ _
  have ac8 : ∀ (j : Nat) t v, Tryz.f4.params[j]? = some t -> args[j]? = some v -> Value.okWide Tryz.prog W .any base t v := ap9
  have hW2 := hW
  obtain ⟨p, q, hA0, hV, rfl, hfz, hnd⟩ := hW2
  have hA : DataW.TrodAll enc Tryz.prog W 0 (fun _ => true) true Tryz.f4.params.toList args.toList ds p := hA0
  rw [Tryz.params4] at hA ac8
  obtain ⟨v0, d0, rfl, rfl, h0⟩ := trodAll_one hA
  obtain ⟨y0, w0, r0⟩ := adf (c := dM.cells) Tryz.underlying42 RK (ac8 0 42 v0 rfl rfl) h0
  obtain ⟨N, hN⟩ := plain y0 w0
  exact afL (tb := 4) rfl Tryz.laidOut (by kernel_rfl) rfl Tryz.underlying4 rfl hW (rl1 r0) (tA N y0 true hN)
theorem KF (plain : ∀ (y0 : dM), dM.wf y0 -> ∃ N, eh N y0 = some true) : Rows.TopBallastRowsSaid :=
  OpenClaim.holds_of_wide 4 Tryz.f4 rfl rfl rfl rfl rfl rfl rfl ⟨rfl, rfl, rfl, rfl, rfl⟩ rfl rfl rfl rfl rfl (by kernel_rfl) Tryz.func4 (by kernel_rfl)
    (xM (by kernel_rfl)) (by unfold Func.isWrapper; first | (rw [if_pos (by decide +kernel)]; kernel_rfl) | (rw [if_neg (by decide +kernel)]; exact ⟨rfl, rfl⟩))
    (fun os started H enc _ => Eh plain os started H enc)
theorem topBallastRows_holds : Rows.TopBallastRowsSaid := KF Go.Den.Gd
#print axioms topBallastRows_holds
end Go.Proofs.YthnmoifahladaaaGreat
