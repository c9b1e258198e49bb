/- The law TopMooringCertificate holds: the given statement. No conditions. -/
import Derived.Test.YtlgddcmiekcdiaaGreatTopMooringCertificateSc
import Derived.Test.YtlgddcmiekcdiaaGreatTopMooringCertificatePl
import Derived.Test.YtlgddcmiekcdiaaGreatRows
set_option linter.unusedVariables false
set_option maxRecDepth 100000
namespace Go.Proofs.YtlgddcmiekcdiaaGreat
open Go.Ab Go.Den Go.ChangeShapes Go.WideShapes Go.ChangeAt Go.RowKit
theorem Tryz.own : ownKnob Tryz.prog.godebug = none := by kernel_rfl
theorem Tryz.laidOut : laidOutB Tryz.prog = true := by kernel_rfl
theorem G8 : mM Tryz.prog 45 ae.wf ae.cells := by
  intro H enc w n cs x h
  obtain ⟨hl, m, hf⟩ := FX Tryz.underlying45 h
  obtain ⟨y0, h0, s0⟩ := wW hf 0 (te := 9) 0 1 (mM.str Tryz.underlying9) (by kernel_rfl) (by kernel_rfl)
  obtain ⟨y1, h1, s1⟩ := wW hf 1 (te := 3) 1 1 (mM.int Tryz.underlying3) (by kernel_rfl) (by kernel_rfl)
  obtain ⟨y2, h2, s2⟩ := wW hf 2 (te := 3) 2 1 (mM.int Tryz.underlying3) (by kernel_rfl) (by kernel_rfl)
  obtain ⟨y3, h3, s3⟩ := wW hf 3 (te := 3) 3 1 (mM.int Tryz.underlying3) (by kernel_rfl) (by kernel_rfl)
  obtain ⟨y4, h4, s4⟩ := wW hf 4 (te := 3) 4 1 (mM.int Tryz.underlying3) (by kernel_rfl) (by kernel_rfl)
  obtain ⟨y5, h5, s5⟩ := wW hf 5 (te := 3) 5 1 (mM.int Tryz.underlying3) (by kernel_rfl) (by kernel_rfl)
  have hs : EX w (cs.drop 0) (cS y0 ++ (cI y1 ++ (cI y2 ++ (cI y3 ++ (cI y4 ++ (cI y5 ++ [])))))) := .step s0 (.step s1 (.step s2 (.step s3 (.step s4 (.step s5 (.done (hl.trans (by kernel_rfl))))))))
  exact ⟨⟨y0, y1, y2, y3, y4, y5⟩, ⟨h0, h1, h2, h3, h4, h5⟩, hs⟩
theorem M6 : mM Tryz.prog 32 dE.wf dE.cells := by
  intro H enc w n cs x h
  obtain ⟨hl, m, hf⟩ := FX Tryz.underlying32 h
  obtain ⟨y0, h0, s0⟩ := wW hf 0 (te := 3) 0 1 (mM.int Tryz.underlying3) (by kernel_rfl) (by kernel_rfl)
  obtain ⟨y1, h1, s1⟩ := wW hf 1 (te := 3) 1 1 (mM.int Tryz.underlying3) (by kernel_rfl) (by kernel_rfl)
  obtain ⟨y2, h2, s2⟩ := wW hf 2 (te := 3) 2 1 (mM.int Tryz.underlying3) (by kernel_rfl) (by kernel_rfl)
  have hs : EX w (cs.drop 0) (cI y0 ++ (cI y1 ++ (cI y2 ++ []))) := .step s0 (.step s1 (.step s2 (.done (hl.trans (by kernel_rfl)))))
  exact ⟨⟨y0, y1, y2⟩, ⟨h0, h1, h2⟩, hs⟩
theorem sn (plain : ∀ (y0 : List ae) (y1 : dE) (y2 : ae), (wL ae.wf) y0 → dE.wf y1 → ae.wf y2 → ∃ N, cW N y0 y1 y2 = some true) (os : Os) (started : os.Started) (H : Type) (enc : TypeId × Value → H) :
    ReturnsInHanded {} Tryz.checked os 5 .any (Rows.topMooringCertificateSpec.pre6 enc Tryz.prog Tryz.f5 Rows.topMooringCertificateRow.domain false) (Rows.topMooringCertificateSpec.post enc Tryz.prog Tryz.f5 false true false false) := by
  refine returnsInHanded_of_change (C := Tryz.checked) Tryz.own started (by kernel_rfl) Tryz.func5
    (ChangeSpec.witness6 (enc := enc) (C := Tryz.checked) false ⟨#[], #[.slice none 0 0, .agg #[.int .i64 0, .int .i64 0, .int .i64 0], .agg #[.string ⟨#[]⟩, .int .i64 0, .int .i64 0, .int .i64 0, .int .i64 0, .int .i64 0]], []⟩ 16 (by kernel_rfl) (by kernel_rfl) (by kernel_rfl) (by kernel_rfl)) ?_
  intro W base args ds gs before Yy hW _ _
  have KJ : ∀ (j : Nat) t v, Tryz.f5.params[j]? = some t → args[j]? = some v → Value.okWide Tryz.prog W .any base t v := Yy
  have hW2 := hW
  obtain ⟨p, q, hA0, hV, rfl, hfz, YH⟩ := hW2
  have hA : DataW.TrodAll enc Tryz.prog W 0 (fun _ => true) true Tryz.f5.params.toList args.toList ds p := hA0
  rw [Tryz.params5] at hA KJ
  obtain ⟨v0, v1, v2, d0, d1, d2, p0, p1, p2, rfl, rfl, rfl, h0, h1, h2⟩ := trodAll_three hA
  obtain ⟨y0, w0, r0⟩ := QO (g := fun y => (aH ae.cells ae.d y)) Tryz.underlying22 (mM.slice ae.d Tryz.underlying22 G8 (sz := 6) (by kernel_rfl) (by decide) (fun _ => rfl)) (KJ 0 22 v0 rfl rfl) h0
  obtain ⟨y1, w1, r1⟩ := Im (c := dE.cells) Tryz.underlying32 M6 (KJ 1 32 v1 rfl rfl) h1
  obtain ⟨y2, w2, r2⟩ := Im (c := ae.cells) Tryz.underlying45 G8 (KJ 2 45 v2 rfl rfl) h2
  obtain ⟨N, hN⟩ := plain y0 y1 y2 w0 w1 w2
  exact QP (tb := 4) rfl Tryz.laidOut (by kernel_rfl) rfl Tryz.underlying4 rfl hW (rl3 r0 r1 r2) (nw N y0 y1 y2 true hN)
theorem vu (plain : ∀ (y0 : List ae) (y1 : dE) (y2 : ae), (wL ae.wf) y0 → dE.wf y1 → ae.wf y2 → ∃ N, cW N y0 y1 y2 = some true) : Rows.TopMooringCertificateSaid :=
  OpenClaim.holds_of_wide 5 Tryz.f5 rfl rfl rfl rfl rfl rfl rfl ⟨rfl, rfl, rfl, rfl, rfl⟩ rfl rfl rfl rfl rfl (by kernel_rfl) Tryz.func5 (by kernel_rfl)
    (qS (by kernel_rfl)) (by unfold Func.isWrapper; first | (rw [if_pos (by decide +kernel)]; kernel_rfl) | (rw [if_neg (by decide +kernel)]; exact ⟨rfl, rfl⟩))
    (fun os started H enc _ => sn plain os started H enc)
theorem topMooringCertificate_holds : Rows.TopMooringCertificateSaid := vu Go.Den.s8
#print axioms topMooringCertificate_holds
end Go.Proofs.YtlgddcmiekcdiaaGreat
