/- The law ExactMaximize holds: the given statement. No conditions. -/
import Derived.Test.YtdigjibahkjfdaaGreatExactMaximizeSc
import Derived.Test.YtdigjibahkjfdaaGreatExactMaximizePl
import Derived.Test.YtdigjibahkjfdaaGreatRows
set_option linter.unusedVariables false
set_option maxRecDepth 100000
namespace Go.Proofs.YtdigjibahkjfdaaGreat
open Go.Ab Go.Den Go.ChangeShapes Go.WideShapes Go.ChangeAt Go.RowKit
theorem Tryz.own : ownKnob Tryz.prog.godebug = none := by kernel_rfl
theorem Tryz.laidOut : laidOutB Tryz.prog = true := by kernel_rfl
theorem IP : ox Tryz.prog 30 bM.wf im := by
  intro H enc w n cs x h
  obtain ⟨hl, m, hf⟩ := AG Tryz.underlying30 h
  obtain ⟨y0, h0, s0⟩ := CP hf 0 (te := 4) 0 1 (ox.bool Tryz.underlying4) (by kernel_rfl) (by kernel_rfl)
  obtain ⟨y1, h1, s1⟩ := CP hf 1 (te := 28) 1 1 (ox.slice 0 Tryz.underlying28 (ox.abQ Tryz.underlying93) (sz := 1) (by kernel_rfl) (by decide) (fun _ => rfl)) (by kernel_rfl) (by kernel_rfl)
  have hs : D3 w (cs.drop 0) (cB y0 ++ ((fun x => [aN (cU .u16) 0 x]) y1 ++ [])) := .step s0 (.step s1 (.done (hl.trans (by kernel_rfl))))
  exact ⟨⟨y0, y1⟩, ⟨h0, h1⟩, hs⟩
theorem DA : ox Tryz.prog 32 aa.wf ah := by
  intro H enc w n cs x h
  obtain ⟨hl, m, hf⟩ := AG Tryz.underlying32 h
  obtain ⟨y0, h0, s0⟩ := CP hf 0 (te := 30) 0 2 IP (by kernel_rfl) (by kernel_rfl)
  obtain ⟨y1, h1, s1⟩ := CP hf 1 (te := 30) 2 2 IP (by kernel_rfl) (by kernel_rfl)
  have hs : D3 w (cs.drop 0) (im y0 ++ (im y1 ++ [])) := .step s0 (.step s1 (.done (hl.trans (by kernel_rfl))))
  exact ⟨⟨y0, y1⟩, ⟨h0, h1⟩, hs⟩
theorem P2 : ox Tryz.prog 55 aH.wf Aj := by
  intro H enc w n cs x h
  obtain ⟨hl, m, hf⟩ := AG Tryz.underlying55 h
  obtain ⟨y0, h0, s0⟩ := CP hf 0 (te := 22) 0 1 (ox.slice aa.d Tryz.underlying22 DA (sz := 4) (by kernel_rfl) (by decide) (fun _ => rfl)) (by kernel_rfl) (by kernel_rfl)
  obtain ⟨y1, h1, s1⟩ := CP hf 1 (te := 32) 1 4 DA (by kernel_rfl) (by kernel_rfl)
  have hs : D3 w (cs.drop 0) ((fun x => [aN ah aa.d x]) y0 ++ (ah y1 ++ [])) := .step s0 (.step s1 (.done (hl.trans (by kernel_rfl))))
  exact ⟨⟨y0, y1⟩, ⟨h0, h1⟩, hs⟩
theorem y6 (plain : ∀ (y0 : List aa) (y1 : List aH), (wL aa.wf) y0 → (wL aH.wf) y1 → ∃ N, gP N y0 y1 = some true) (os : Os) (started : os.Started) (H : Type) (enc : TypeId × Value → H) :
    ReturnsInHanded {} Tryz.checked os 3 .any (Rows.exactMaximizeSpec.pre6 enc Tryz.prog Tryz.f3 Rows.exactMaximizeRow.domain false) (Rows.exactMaximizeSpec.post enc Tryz.prog Tryz.f3 false true false false) := by
  refine returnsInHanded_of_change (C := Tryz.checked) Tryz.own started (by kernel_rfl) Tryz.func3
    (ChangeSpec.witness6 (enc := enc) (C := Tryz.checked) false ⟨#[], #[.slice none 0 0, .slice none 0 0], []⟩ 16 (by kernel_rfl) (by kernel_rfl) (by kernel_rfl) (by kernel_rfl)) ?_
  intro W base args ds gs before aam hW _ _
  have Mz : ∀ (j : Nat) t v, Tryz.f3.params[j]? = some t → args[j]? = some v → Value.okWide Tryz.prog W .any base t v := aam
  have UJ := hW
  obtain ⟨p, q, hA0, hV, rfl, hfz, TY⟩ := UJ
  have hA : DataW.TrodAll enc Tryz.prog W 0 (fun _ => true) true Tryz.f3.params.toList args.toList ds p := hA0
  rw [Tryz.params3] at hA Mz
  obtain ⟨v0, v1, d0, d1, p0, p1, rfl, rfl, rfl, h0, h1⟩ := trodAll_two hA
  obtain ⟨y0, w0, r0⟩ := KP (g := fun y => (aN ah aa.d y)) Tryz.underlying22 (ox.slice aa.d Tryz.underlying22 DA (sz := 4) (by kernel_rfl) (by decide) (fun _ => rfl)) (Mz 0 22 v0 rfl rfl) h0
  obtain ⟨y1, w1, r1⟩ := KP (g := fun y => (aN Aj aH.d y)) Tryz.underlying23 (ox.slice aH.d Tryz.underlying23 P2 (sz := 5) (by kernel_rfl) (by decide) (fun _ => rfl)) (Mz 1 23 v1 rfl rfl) h1
  obtain ⟨N, hN⟩ := plain y0 y1 w0 w1
  exact Rv (tb := 4) rfl Tryz.laidOut (by kernel_rfl) rfl Tryz.underlying4 rfl hW (rl2 r0 r1) (xd N y0 y1 true hN)
theorem DB (plain : ∀ (y0 : List aa) (y1 : List aH), (wL aa.wf) y0 → (wL aH.wf) y1 → ∃ N, gP N y0 y1 = some true) : Rows.ExactMaximizeSaid :=
  OpenClaim.holds_of_wide 3 Tryz.f3 rfl rfl rfl rfl rfl rfl rfl ⟨rfl, rfl, rfl, rfl, rfl⟩ rfl rfl rfl rfl rfl (by kernel_rfl) Tryz.func3 (by kernel_rfl)
    (oJ (by kernel_rfl)) (by unfold Func.isWrapper; first | (rw [if_pos (by decide +kernel)]; kernel_rfl) | (rw [if_neg (by decide +kernel)]; exact ⟨rfl, rfl⟩))
    (fun os started H enc _ => y6 plain os started H enc)
theorem exactMaximize_holds : Rows.ExactMaximizeSaid := DB Go.Den.z8
#print axioms exactMaximize_holds
end Go.Proofs.YtdigjibahkjfdaaGreat
