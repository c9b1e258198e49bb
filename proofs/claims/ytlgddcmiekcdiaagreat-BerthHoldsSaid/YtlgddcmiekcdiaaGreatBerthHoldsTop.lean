/- The law BerthHolds holds: the given statement. No conditions. -/
import Derived.Test.YtlgddcmiekcdiaaGreatBerthHoldsSc
import Derived.Test.YtlgddcmiekcdiaaGreatBerthHoldsPl
import Derived.Test.YtlgddcmiekcdiaaGreatRows
set_option linter.unusedVariables false
set_option maxRecDepth 100000
namespace Go.Proofs.YtlgddcmiekcdiaaGreat
open Go.Ab Go.Den Go.ChangeShapes Go.WideShapes Go.ChangeAt Go.RowKit
theorem Tryz.own : ownKnob Tryz.prog.godebug = none := by kernel_rfl
theorem Tryz.laidOut : laidOutB Tryz.prog = true := by kernel_rfl
theorem Mg : iY Tryz.prog 45 ai.wf ai.cells := by
  intro H enc w n cs x h
  obtain ⟨hl, m, hf⟩ := sP Tryz.underlying45 h
  obtain ⟨y0, h0, s0⟩ := n6 hf 0 (te := 9) 0 1 (iY.str Tryz.underlying9) (by kernel_rfl) (by kernel_rfl)
  obtain ⟨y1, h1, s1⟩ := n6 hf 1 (te := 3) 1 1 (iY.int Tryz.underlying3) (by kernel_rfl) (by kernel_rfl)
  obtain ⟨y2, h2, s2⟩ := n6 hf 2 (te := 3) 2 1 (iY.int Tryz.underlying3) (by kernel_rfl) (by kernel_rfl)
  obtain ⟨y3, h3, s3⟩ := n6 hf 3 (te := 3) 3 1 (iY.int Tryz.underlying3) (by kernel_rfl) (by kernel_rfl)
  obtain ⟨y4, h4, s4⟩ := n6 hf 4 (te := 3) 4 1 (iY.int Tryz.underlying3) (by kernel_rfl) (by kernel_rfl)
  obtain ⟨y5, h5, s5⟩ := n6 hf 5 (te := 3) 5 1 (iY.int Tryz.underlying3) (by kernel_rfl) (by kernel_rfl)
  have hs : B5 w (cs.drop 0) (cS y0 ++ (cI y1 ++ (cI y2 ++ (cI y3 ++ (cI y4 ++ (cI y5 ++ [])))))) := .step s0 (.step s1 (.step s2 (.step s3 (.step s4 (.step s5 (.done (hl.trans (by kernel_rfl))))))))
  exact ⟨⟨y0, y1, y2, y3, y4, y5⟩, ⟨h0, h1, h2, h3, h4, h5⟩, hs⟩
theorem Mh : iY Tryz.prog 32 dK.wf dK.cells := by
  intro H enc w n cs x h
  obtain ⟨hl, m, hf⟩ := sP Tryz.underlying32 h
  obtain ⟨y0, h0, s0⟩ := n6 hf 0 (te := 3) 0 1 (iY.int Tryz.underlying3) (by kernel_rfl) (by kernel_rfl)
  obtain ⟨y1, h1, s1⟩ := n6 hf 1 (te := 3) 1 1 (iY.int Tryz.underlying3) (by kernel_rfl) (by kernel_rfl)
  obtain ⟨y2, h2, s2⟩ := n6 hf 2 (te := 3) 2 1 (iY.int Tryz.underlying3) (by kernel_rfl) (by kernel_rfl)
  have hs : B5 w (cs.drop 0) (cI y0 ++ (cI y1 ++ (cI y2 ++ []))) := .step s0 (.step s1 (.step s2 (.done (hl.trans (by kernel_rfl)))))
  exact ⟨⟨y0, y1, y2⟩, ⟨h0, h1, h2⟩, hs⟩
theorem H7 : iY Tryz.prog 62 bG.wf lk := by
  intro H enc w n cs x h
  obtain ⟨hl, m, hf⟩ := sP Tryz.underlying62 h
  obtain ⟨y0, h0, s0⟩ := n6 hf 0 (te := 4) 0 1 (iY.bool Tryz.underlying4) (by kernel_rfl) (by kernel_rfl)
  obtain ⟨y1, h1, s1⟩ := n6 hf 1 (te := 60) 1 1 (iY.slice 0 Tryz.underlying60 (iY.Zh Tryz.underlying128) (sz := 1) (by kernel_rfl) (by decide) (fun _ => rfl)) (by kernel_rfl) (by kernel_rfl)
  have hs : B5 w (cs.drop 0) (cB y0 ++ ((fun x => [aH (cU .u16) 0 x]) y1 ++ [])) := .step s0 (.step s1 (.done (hl.trans (by kernel_rfl))))
  exact ⟨⟨y0, y1⟩, ⟨h0, h1⟩, hs⟩
theorem H8 : iY Tryz.prog 64 aa.wf aj := by
  intro H enc w n cs x h
  obtain ⟨hl, m, hf⟩ := sP Tryz.underlying64 h
  obtain ⟨y0, h0, s0⟩ := n6 hf 0 (te := 62) 0 2 H7 (by kernel_rfl) (by kernel_rfl)
  obtain ⟨y1, h1, s1⟩ := n6 hf 1 (te := 62) 2 2 H7 (by kernel_rfl) (by kernel_rfl)
  have hs : B5 w (cs.drop 0) (lk y0 ++ (lk y1 ++ [])) := .step s0 (.step s1 (.done (hl.trans (by kernel_rfl))))
  exact ⟨⟨y0, y1⟩, ⟨h0, h1⟩, hs⟩
theorem Hc : iY Tryz.prog 35 aP.wf aP.cells := by
  intro H enc w n cs x h
  obtain ⟨hl, m, hf⟩ := sP Tryz.underlying35 h
  obtain ⟨y0, h0, s0⟩ := n6 hf 0 (te := 4) 0 1 (iY.bool Tryz.underlying4) (by kernel_rfl) (by kernel_rfl)
  obtain ⟨y1, h1, s1⟩ := n6 hf 1 (te := 33) 1 1 (iY.slice aa.d Tryz.underlying33 H8 (sz := 4) (by kernel_rfl) (by decide) (fun _ => rfl)) (by kernel_rfl) (by kernel_rfl)
  obtain ⟨y2, h2, s2⟩ := n6 hf 2 (te := 33) 2 1 (iY.slice aa.d Tryz.underlying33 H8 (sz := 4) (by kernel_rfl) (by decide) (fun _ => rfl)) (by kernel_rfl) (by kernel_rfl)
  have hs : B5 w (cs.drop 0) (cB y0 ++ ((fun x => [aH aj aa.d x]) y1 ++ ((fun x => [aH aj aa.d x]) y2 ++ []))) := .step s0 (.step s1 (.step s2 (.done (hl.trans (by kernel_rfl)))))
  exact ⟨⟨y0, y1, y2⟩, ⟨h0, h1, h2⟩, hs⟩
theorem B3 (plain : ∀ (y0 : List ai) (y1 : dK) (y2 : aP), (wL ai.wf) y0 → dK.wf y1 → aP.wf y2 → ∃ N, lL N y0 y1 y2 = some true) (os : Os) (started : os.Started) (H : Type) (enc : TypeId × Value → H) :
    ReturnsInHanded {} Tryz.checked os 4 .any (Rows.berthHoldsSpec.pre6 enc Tryz.prog Tryz.f4 Rows.berthHoldsRow.domain false) (Rows.berthHoldsSpec.post enc Tryz.prog Tryz.f4 false true false false) := by
  refine returnsInHanded_of_change (C := Tryz.checked) Tryz.own started (by kernel_rfl) Tryz.func4
    (ChangeSpec.witness6 (enc := enc) (C := Tryz.checked) false ⟨#[], #[.slice none 0 0, .agg #[.int .i64 0, .int .i64 0, .int .i64 0], .agg #[.bool false, .slice none 0 0, .slice none 0 0]], []⟩ 16 (by kernel_rfl) (by kernel_rfl) (by kernel_rfl) (by kernel_rfl)) ?_
  intro W base args ds gs before XH hW _ _
  have J8 : ∀ (j : Nat) t v, Tryz.f4.params[j]? = some t → args[j]? = some v → Value.okWide Tryz.prog W .any base t v := XH
  have hW2 := hW
  obtain ⟨p, q, hA0, hV, rfl, hfz, XP⟩ := hW2
  have hA : DataW.TrodAll enc Tryz.prog W 0 (fun _ => true) true Tryz.f4.params.toList args.toList ds p := hA0
  rw [Tryz.params4] at hA J8
  obtain ⟨v0, v1, v2, d0, d1, d2, p0, p1, p2, rfl, rfl, rfl, h0, h1, h2⟩ := trodAll_three hA
  obtain ⟨y0, w0, r0⟩ := Qa (g := fun y => (aH ai.cells ai.d y)) Tryz.underlying22 (iY.slice ai.d Tryz.underlying22 Mg (sz := 6) (by kernel_rfl) (by decide) (fun _ => rfl)) (J8 0 22 v0 rfl rfl) h0
  obtain ⟨y1, w1, r1⟩ := HO (c := dK.cells) Tryz.underlying32 Mh (J8 1 32 v1 rfl rfl) h1
  obtain ⟨y2, w2, r2⟩ := HO (c := aP.cells) Tryz.underlying35 Hc (J8 2 35 v2 rfl rfl) h2
  obtain ⟨N, hN⟩ := plain y0 y1 y2 w0 w1 w2
  exact Qb (tb := 4) rfl Tryz.laidOut (by kernel_rfl) rfl Tryz.underlying4 rfl hW (rl3 r0 r1 r2) (zI N y0 y1 y2 true hN)
theorem Hd (plain : ∀ (y0 : List ai) (y1 : dK) (y2 : aP), (wL ai.wf) y0 → dK.wf y1 → aP.wf y2 → ∃ N, lL N y0 y1 y2 = some true) : Rows.BerthHoldsSaid :=
  OpenClaim.holds_of_wide 4 Tryz.f4 rfl rfl rfl rfl rfl rfl rfl ⟨rfl, rfl, rfl, rfl, rfl⟩ rfl rfl rfl rfl rfl (by kernel_rfl) Tryz.func4 (by kernel_rfl)
    (qC (by kernel_rfl)) (by unfold Func.isWrapper; first | (rw [if_pos (by decide +kernel)]; kernel_rfl) | (rw [if_neg (by decide +kernel)]; exact ⟨rfl, rfl⟩))
    (fun os started H enc _ => B3 plain os started H enc)
theorem berthHolds_holds : Rows.BerthHoldsSaid := Hd Go.Den.Dd
#print axioms berthHolds_holds
end Go.Proofs.YtlgddcmiekcdiaaGreat
