/- The law BerthWorst holds: the given statement. No conditions. -/
import Derived.Test.YtlgddcmiekcdiaaGreatBerthWorstSc
import Derived.Test.YtlgddcmiekcdiaaGreatBerthWorstPl
import Derived.Test.YtlgddcmiekcdiaaGreatRows
set_option linter.unusedVariables false
set_option maxRecDepth 100000
namespace Go.Proofs.YtlgddcmiekcdiaaGreat
open Go.Ab Go.Den Go.ChangeShapes Go.WideShapes Go.ChangeAt Go.RowKit
theorem Tryz.own : ownKnob Tryz.prog.godebug = none := by kernel_rfl
theorem Tryz.laidOut : laidOutB Tryz.prog = true := by kernel_rfl
theorem Lz : l3 Tryz.prog 45 ai.wf ai.cells := by
  intro H enc w n cs x h
  obtain ⟨hl, m, hf⟩ := EO Tryz.underlying45 h
  obtain ⟨y0, h0, s0⟩ := vE hf 0 (te := 9) 0 1 (l3.str Tryz.underlying9) (by kernel_rfl) (by kernel_rfl)
  obtain ⟨y1, h1, s1⟩ := vE hf 1 (te := 3) 1 1 (l3.int Tryz.underlying3) (by kernel_rfl) (by kernel_rfl)
  obtain ⟨y2, h2, s2⟩ := vE hf 2 (te := 3) 2 1 (l3.int Tryz.underlying3) (by kernel_rfl) (by kernel_rfl)
  obtain ⟨y3, h3, s3⟩ := vE hf 3 (te := 3) 3 1 (l3.int Tryz.underlying3) (by kernel_rfl) (by kernel_rfl)
  obtain ⟨y4, h4, s4⟩ := vE hf 4 (te := 3) 4 1 (l3.int Tryz.underlying3) (by kernel_rfl) (by kernel_rfl)
  obtain ⟨y5, h5, s5⟩ := vE hf 5 (te := 3) 5 1 (l3.int Tryz.underlying3) (by kernel_rfl) (by kernel_rfl)
  have hs : DT w (cs.drop 0) (cS y0 ++ (cI y1 ++ (cI y2 ++ (cI y3 ++ (cI y4 ++ (cI y5 ++ [])))))) := .step s0 (.step s1 (.step s2 (.step s3 (.step s4 (.step s5 (.done (hl.trans (by kernel_rfl))))))))
  exact ⟨⟨y0, y1, y2, y3, y4, y5⟩, ⟨h0, h1, h2, h3, h4, h5⟩, hs⟩
theorem LC : l3 Tryz.prog 32 bJ.wf bJ.cells := by
  intro H enc w n cs x h
  obtain ⟨hl, m, hf⟩ := EO Tryz.underlying32 h
  obtain ⟨y0, h0, s0⟩ := vE hf 0 (te := 3) 0 1 (l3.int Tryz.underlying3) (by kernel_rfl) (by kernel_rfl)
  obtain ⟨y1, h1, s1⟩ := vE hf 1 (te := 3) 1 1 (l3.int Tryz.underlying3) (by kernel_rfl) (by kernel_rfl)
  obtain ⟨y2, h2, s2⟩ := vE hf 2 (te := 3) 2 1 (l3.int Tryz.underlying3) (by kernel_rfl) (by kernel_rfl)
  have hs : DT w (cs.drop 0) (cI y0 ++ (cI y1 ++ (cI y2 ++ []))) := .step s0 (.step s1 (.step s2 (.done (hl.trans (by kernel_rfl)))))
  exact ⟨⟨y0, y1, y2⟩, ⟨h0, h1, h2⟩, hs⟩
theorem Bv (plain : ∀ (y0 : List ai) (y1 : List bJ), (wL ai.wf) y0 → (wL bJ.wf) y1 → ∃ N, lr N y0 y1 = some true) (os : Os) (started : os.Started) (H : Type) (enc : TypeId × Value → H) :
    ReturnsInHanded {} Tryz.checked os 3 .any (Rows.berthWorstSpec.pre6 enc Tryz.prog Tryz.f3 Rows.berthWorstRow.domain false) (Rows.berthWorstSpec.post enc Tryz.prog Tryz.f3 false true false false) := by
  refine returnsInHanded_of_change (C := Tryz.checked) Tryz.own started (by kernel_rfl) Tryz.func3
    (ChangeSpec.witness6 (enc := enc) (C := Tryz.checked) false ⟨#[], #[.slice none 0 0, .slice none 0 0], []⟩ 16 (by kernel_rfl) (by kernel_rfl) (by kernel_rfl) (by kernel_rfl)) ?_
  intro W base args ds gs before Xa hW _ _
  have KO : ∀ (j : Nat) t v, Tryz.f3.params[j]? = some t → args[j]? = some v → Value.okWide Tryz.prog W .any base t v := Xa
  have hW2 := hW
  obtain ⟨p, q, hA0, hV, rfl, hfz, Xi⟩ := hW2
  have hA : DataW.TrodAll enc Tryz.prog W 0 (fun _ => true) true Tryz.f3.params.toList args.toList ds p := hA0
  rw [Tryz.params3] at hA KO
  obtain ⟨v0, v1, d0, d1, p0, p1, rfl, rfl, rfl, h0, h1⟩ := trodAll_two hA
  obtain ⟨y0, w0, r0⟩ := JA (g := fun y => (aH ai.cells ai.d y)) Tryz.underlying22 (l3.slice ai.d Tryz.underlying22 Lz (sz := 6) (by kernel_rfl) (by decide) (fun _ => rfl)) (KO 0 22 v0 rfl rfl) h0
  obtain ⟨y1, w1, r1⟩ := JA (g := fun y => (aH bJ.cells bJ.d y)) Tryz.underlying23 (l3.slice bJ.d Tryz.underlying23 LC (sz := 3) (by kernel_rfl) (by decide) (fun _ => rfl)) (KO 1 23 v1 rfl rfl) h1
  obtain ⟨N, hN⟩ := plain y0 y1 w0 w1
  exact PC (tb := 4) rfl Tryz.laidOut (by kernel_rfl) rfl Tryz.underlying4 rfl hW (rl2 r0 r1) (zc N y0 y1 true hN)
theorem GF (plain : ∀ (y0 : List ai) (y1 : List bJ), (wL ai.wf) y0 → (wL bJ.wf) y1 → ∃ N, lr N y0 y1 = some true) : Rows.BerthWorstSaid :=
  OpenClaim.holds_of_wide 3 Tryz.f3 rfl rfl rfl rfl rfl rfl rfl ⟨rfl, rfl, rfl, rfl, rfl⟩ rfl rfl rfl rfl rfl (by kernel_rfl) Tryz.func3 (by kernel_rfl)
    (rA (by kernel_rfl)) (by unfold Func.isWrapper; first | (rw [if_pos (by decide +kernel)]; kernel_rfl) | (rw [if_neg (by decide +kernel)]; exact ⟨rfl, rfl⟩))
    (fun os started H enc _ => Bv plain os started H enc)
theorem berthWorst_holds : Rows.BerthWorstSaid := GF Go.Den.CB
#print axioms berthWorst_holds
end Go.Proofs.YtlgddcmiekcdiaaGreat
