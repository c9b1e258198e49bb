/- The law BerthHolds holds: the given statement. No conditions. -/
import Derived.Test.YtlgddcmiekcdiaaGreatBerthHoldsSc
import Derived.Test.YtlgddcmiekcdiaaGreatBerthHoldsPl
import Derived.Test.YtlgddcmiekcdiaaGreatRows
set_option linter.unusedVariables false
set_option maxRecDepth 100000
namespace Go.Proofs.YtlgddcmiekcdiaaGreat
open Go.Ab Go.Den Go.ChangeShapes Go.WideShapes Go.ChangeAt Go.RowKit
theorem Tryz.own : ownKnob Tryz.prog.godebug = none := by kernel_rfl
theorem Tryz.laidOut : laidOutB Tryz.prog = true := by kernel_rfl
theorem Ib : fH Tryz.prog 45 ao.wf ao.cells := by
  intro H enc w n cs x h
  obtain ⟨hl, m, hf⟩ := p8 Tryz.underlying45 h
  obtain ⟨y0, h0, s0⟩ := l4 hf 0 (te := 9) 0 1 (fH.str Tryz.underlying9) (by kernel_rfl) (by kernel_rfl)
  obtain ⟨y1, h1, s1⟩ := l4 hf 1 (te := 3) 1 1 (fH.int Tryz.underlying3) (by kernel_rfl) (by kernel_rfl)
  obtain ⟨y2, h2, s2⟩ := l4 hf 2 (te := 3) 2 1 (fH.int Tryz.underlying3) (by kernel_rfl) (by kernel_rfl)
  obtain ⟨y3, h3, s3⟩ := l4 hf 3 (te := 3) 3 1 (fH.int Tryz.underlying3) (by kernel_rfl) (by kernel_rfl)
  obtain ⟨y4, h4, s4⟩ := l4 hf 4 (te := 3) 4 1 (fH.int Tryz.underlying3) (by kernel_rfl) (by kernel_rfl)
  obtain ⟨y5, h5, s5⟩ := l4 hf 5 (te := 3) 5 1 (fH.int Tryz.underlying3) (by kernel_rfl) (by kernel_rfl)
  have hs : zc w (cs.drop 0) (cS y0 ++ (cI y1 ++ (cI y2 ++ (cI y3 ++ (cI y4 ++ (cI y5 ++ [])))))) := .step s0 (.step s1 (.step s2 (.step s3 (.step s4 (.step s5 (.done (hl.trans (by kernel_rfl))))))))
  exact ⟨⟨y0, y1, y2, y3, y4, y5⟩, ⟨h0, h1, h2, h3, h4, h5⟩, hs⟩
theorem Ic : fH Tryz.prog 32 dE.wf dE.cells := by
  intro H enc w n cs x h
  obtain ⟨hl, m, hf⟩ := p8 Tryz.underlying32 h
  obtain ⟨y0, h0, s0⟩ := l4 hf 0 (te := 3) 0 1 (fH.int Tryz.underlying3) (by kernel_rfl) (by kernel_rfl)
  obtain ⟨y1, h1, s1⟩ := l4 hf 1 (te := 3) 1 1 (fH.int Tryz.underlying3) (by kernel_rfl) (by kernel_rfl)
  obtain ⟨y2, h2, s2⟩ := l4 hf 2 (te := 3) 2 1 (fH.int Tryz.underlying3) (by kernel_rfl) (by kernel_rfl)
  have hs : zc w (cs.drop 0) (cI y0 ++ (cI y1 ++ (cI y2 ++ []))) := .step s0 (.step s1 (.step s2 (.done (hl.trans (by kernel_rfl)))))
  exact ⟨⟨y0, y1, y2⟩, ⟨h0, h1, h2⟩, hs⟩
theorem EG : fH Tryz.prog 62 bd.wf jr := by
  intro H enc w n cs x h
  obtain ⟨hl, m, hf⟩ := p8 Tryz.underlying62 h
  obtain ⟨y0, h0, s0⟩ := l4 hf 0 (te := 4) 0 1 (fH.bool Tryz.underlying4) (by kernel_rfl) (by kernel_rfl)
  obtain ⟨y1, h1, s1⟩ := l4 hf 1 (te := 60) 1 1 (fH.slice 0 Tryz.underlying60 (fH.Te Tryz.underlying128) (sz := 1) (by kernel_rfl) (by decide) (fun _ => rfl)) (by kernel_rfl) (by kernel_rfl)
  have hs : zc w (cs.drop 0) (cB y0 ++ ((fun x => [aD (cU .u16) 0 x]) y1 ++ [])) := .step s0 (.step s1 (.done (hl.trans (by kernel_rfl))))
  exact ⟨⟨y0, y1⟩, ⟨h0, h1⟩, hs⟩
theorem EH : fH Tryz.prog 64 aa.wf ai := by
  intro H enc w n cs x h
  obtain ⟨hl, m, hf⟩ := p8 Tryz.underlying64 h
  obtain ⟨y0, h0, s0⟩ := l4 hf 0 (te := 62) 0 2 EG (by kernel_rfl) (by kernel_rfl)
  obtain ⟨y1, h1, s1⟩ := l4 hf 1 (te := 62) 2 2 EG (by kernel_rfl) (by kernel_rfl)
  have hs : zc w (cs.drop 0) (jr y0 ++ (jr y1 ++ [])) := .step s0 (.step s1 (.done (hl.trans (by kernel_rfl))))
  exact ⟨⟨y0, y1⟩, ⟨h0, h1⟩, hs⟩
theorem DR : fH Tryz.prog 35 aN.wf aN.cells := by
  intro H enc w n cs x h
  obtain ⟨hl, m, hf⟩ := p8 Tryz.underlying35 h
  obtain ⟨y0, h0, s0⟩ := l4 hf 0 (te := 4) 0 1 (fH.bool Tryz.underlying4) (by kernel_rfl) (by kernel_rfl)
  obtain ⟨y1, h1, s1⟩ := l4 hf 1 (te := 33) 1 1 (fH.slice aa.d Tryz.underlying33 EH (sz := 4) (by kernel_rfl) (by decide) (fun _ => rfl)) (by kernel_rfl) (by kernel_rfl)
  obtain ⟨y2, h2, s2⟩ := l4 hf 2 (te := 33) 2 1 (fH.slice aa.d Tryz.underlying33 EH (sz := 4) (by kernel_rfl) (by decide) (fun _ => rfl)) (by kernel_rfl) (by kernel_rfl)
  have hs : zc w (cs.drop 0) (cB y0 ++ ((fun x => [aD ai aa.d x]) y1 ++ ((fun x => [aD ai aa.d x]) y2 ++ []))) := .step s0 (.step s1 (.step s2 (.done (hl.trans (by kernel_rfl)))))
  exact ⟨⟨y0, y1, y2⟩, ⟨h0, h1, h2⟩, hs⟩
theorem y9 (plain : ∀ (y0 : List ao) (y1 : dE) (y2 : aN), (wL ao.wf) y0 → dE.wf y1 → aN.wf y2 → ∃ N, lS N y0 y1 y2 = some true) (os : Os) (started : os.Started) (H : Type) (enc : TypeId × Value → H) :
    ReturnsInHanded {} Tryz.checked os 4 .any (Rows.berthHoldsSpec.pre6 enc Tryz.prog Tryz.f4 Rows.berthHoldsRow.domain false) (Rows.berthHoldsSpec.post enc Tryz.prog Tryz.f4 false true false false) := by
  refine returnsInHanded_of_change (C := Tryz.checked) Tryz.own started (by kernel_rfl) Tryz.func4
    (ChangeSpec.witness6 (enc := enc) (C := Tryz.checked) false ⟨#[], #[.slice none 0 0, .agg #[.int .i64 0, .int .i64 0, .int .i64 0], .agg #[.bool false, .slice none 0 0, .slice none 0 0]], []⟩ 16 (by kernel_rfl) (by kernel_rfl) (by kernel_rfl) (by kernel_rfl)) ?_
  intro W base args ds gs before RC hW _ _
  have Gx : ∀ (j : Nat) t v, Tryz.f4.params[j]? = some t → args[j]? = some v → Value.okWide Tryz.prog W .any base t v := RC
  have Xe := hW
  obtain ⟨p, q, Xf, hV, rfl, U5, RJ⟩ := Xe
  have hA : DataW.TrodAll enc Tryz.prog W 0 (fun _ => true) true Tryz.f4.params.toList args.toList ds p := Xf
  rw [Tryz.params4] at hA Gx
  obtain ⟨v0, v1, v2, d0, d1, d2, p0, p1, p2, rfl, rfl, rfl, h0, h1, h2⟩ := trodAll_three hA
  obtain ⟨y0, w0, r0⟩ := Ln (g := fun y => (aD ao.cells ao.d y)) Tryz.underlying22 (fH.slice ao.d Tryz.underlying22 Ib (sz := 6) (by kernel_rfl) (by decide) (fun _ => rfl)) (Gx 0 22 v0 rfl rfl) h0
  obtain ⟨y1, w1, r1⟩ := Et (c := dE.cells) Tryz.underlying32 Ic (Gx 1 32 v1 rfl rfl) h1
  obtain ⟨y2, w2, r2⟩ := Et (c := aN.cells) Tryz.underlying35 DR (Gx 2 35 v2 rfl rfl) h2
  obtain ⟨N, hN⟩ := plain y0 y1 y2 w0 w1 w2
  exact Lo (tb := 4) rfl Tryz.laidOut (by kernel_rfl) rfl Tryz.underlying4 rfl hW (Wn r0 r1 r2) (wU N y0 y1 y2 true hN)
theorem DS (plain : ∀ (y0 : List ao) (y1 : dE) (y2 : aN), (wL ao.wf) y0 → dE.wf y1 → aN.wf y2 → ∃ N, lS N y0 y1 y2 = some true) : Rows.BerthHoldsSaid :=
  OpenClaim.holds_of_wide 4 Tryz.f4 rfl rfl rfl rfl rfl rfl rfl ⟨rfl, rfl, rfl, rfl, rfl⟩ rfl rfl rfl rfl rfl (by kernel_rfl) Tryz.func4 (by kernel_rfl)
    (pe (by kernel_rfl)) (by unfold Func.isWrapper; first | (rw [if_pos (by decide +kernel)]; kernel_rfl) | (rw [if_neg (by decide +kernel)]; exact ⟨rfl, rfl⟩))
    (fun os started H enc _ => y9 plain os started H enc)
theorem berthHolds_holds : Rows.BerthHoldsSaid := DS Go.Den.JV
#print axioms berthHolds_holds
end Go.Proofs.YtlgddcmiekcdiaaGreat
