/- The law ExactNoBetter holds: the given statement. No conditions. -/
import Derived.Test.YtdigjibahkjfdaaGreatExactNoBetterSc
import Derived.Test.YtdigjibahkjfdaaGreatExactNoBetterPl
import Derived.Test.YtdigjibahkjfdaaGreatRows
set_option linter.unusedVariables false
set_option maxRecDepth 100000
namespace Go.Proofs.YtdigjibahkjfdaaGreat
open Go.Ab Go.Den Go.ChangeShapes Go.WideShapes Go.ChangeAt Go.RowKit
theorem Tryz.own : ownKnob Tryz.prog.godebug = none := by kernel_rfl
theorem Tryz.laidOut : laidOutB Tryz.prog = true := by kernel_rfl
theorem Jd : mf Tryz.prog 30 bR.wf iv := by
  intro H enc w n cs x h
  obtain ⟨hl, m, hf⟩ := xa Tryz.underlying30 h
  obtain ⟨y0, h0, s0⟩ := xc hf 0 (te := 4) 0 1 (mf.bool Tryz.underlying4) (by kernel_rfl) (by kernel_rfl)
  obtain ⟨y1, h1, s1⟩ := xc hf 1 (te := 28) 1 1 (mf.slice 0 Tryz.underlying28 (mf.acy Tryz.underlying93) (sz := 1) (by kernel_rfl) (by decide) (fun _ => rfl)) (by kernel_rfl) (by kernel_rfl)
  have hs : D4 w (cs.drop 0) (cB y0 ++ ((fun x => [aK (cU .u16) 0 x]) y1 ++ [])) := .step s0 (.step s1 (.done (hl.trans (by kernel_rfl))))
  exact ⟨⟨y0, y1⟩, ⟨h0, h1⟩, hs⟩
theorem tw : mf Tryz.prog 32 aa.wf ag := by
  intro H enc w n cs x h
  obtain ⟨hl, m, hf⟩ := xa Tryz.underlying32 h
  obtain ⟨y0, h0, s0⟩ := xc hf 0 (te := 30) 0 2 Jd (by kernel_rfl) (by kernel_rfl)
  obtain ⟨y1, h1, s1⟩ := xc hf 1 (te := 30) 2 2 Jd (by kernel_rfl) (by kernel_rfl)
  have hs : D4 w (cs.drop 0) (iv y0 ++ (iv y1 ++ [])) := .step s0 (.step s1 (.done (hl.trans (by kernel_rfl))))
  exact ⟨⟨y0, y1⟩, ⟨h0, h1⟩, hs⟩
theorem Qm : mf Tryz.prog 55 aE.wf zN := by
  intro H enc w n cs x h
  obtain ⟨hl, m, hf⟩ := xa Tryz.underlying55 h
  obtain ⟨y0, h0, s0⟩ := xc hf 0 (te := 22) 0 1 (mf.slice aa.d Tryz.underlying22 tw (sz := 4) (by kernel_rfl) (by decide) (fun _ => rfl)) (by kernel_rfl) (by kernel_rfl)
  obtain ⟨y1, h1, s1⟩ := xc hf 1 (te := 32) 1 4 tw (by kernel_rfl) (by kernel_rfl)
  have hs : D4 w (cs.drop 0) ((fun x => [aK ag aa.d x]) y0 ++ (ag y1 ++ [])) := .step s0 (.step s1 (.done (hl.trans (by kernel_rfl))))
  exact ⟨⟨y0, y1⟩, ⟨h0, h1⟩, hs⟩
theorem NL : mf Tryz.prog 34 j4.wf j4.cells := by
  intro H enc w n cs x h
  obtain ⟨hl, m, hf⟩ := xa Tryz.underlying34 h
  obtain ⟨y0, h0, s0⟩ := xc hf 0 (te := 32) 0 4 tw (by kernel_rfl) (by kernel_rfl)
  obtain ⟨y1, h1, s1⟩ := xc hf 1 (te := 22) 4 1 (mf.slice aa.d Tryz.underlying22 tw (sz := 4) (by kernel_rfl) (by decide) (fun _ => rfl)) (by kernel_rfl) (by kernel_rfl)
  obtain ⟨y2, h2, s2⟩ := xc hf 2 (te := 22) 5 1 (mf.slice aa.d Tryz.underlying22 tw (sz := 4) (by kernel_rfl) (by decide) (fun _ => rfl)) (by kernel_rfl) (by kernel_rfl)
  have hs : D4 w (cs.drop 0) (ag y0 ++ ((fun x => [aK ag aa.d x]) y1 ++ ((fun x => [aK ag aa.d x]) y2 ++ []))) := .step s0 (.step s1 (.step s2 (.done (hl.trans (by kernel_rfl)))))
  exact ⟨⟨y0, y1, y2⟩, ⟨h0, h1, h2⟩, hs⟩
theorem zr (plain : ∀ (y0 : List aa) (y1 : List aE) (y2 : j4), (wL aa.wf) y0 → (wL aE.wf) y1 → j4.wf y2 → ∃ N, gN N y0 y1 y2 = some true) (os : Os) (started : os.Started) (H : Type) (enc : TypeId × Value → H) :
    ReturnsInHanded {} Tryz.checked os 4 .any (Rows.exactNoBetterSpec.pre6 enc Tryz.prog Tryz.f4 Rows.exactNoBetterRow.domain false) (Rows.exactNoBetterSpec.post enc Tryz.prog Tryz.f4 false true false false) := by
  refine returnsInHanded_of_change (C := Tryz.checked) Tryz.own started (by kernel_rfl) Tryz.func4
    (ChangeSpec.witness6 (enc := enc) (C := Tryz.checked) false ⟨#[], #[.slice none 0 0, .slice none 0 0, .agg #[.bool false, .slice none 0 0, .bool false, .slice none 0 0, .slice none 0 0, .slice none 0 0]], []⟩ 16 (by kernel_rfl) (by kernel_rfl) (by kernel_rfl) (by kernel_rfl)) ?_
  intro W base args ds gs before aaZ hW _ _
  have La : ∀ (j : Nat) t v, Tryz.f4.params[j]? = some t → args[j]? = some v → Value.okWide Tryz.prog W .any base t v := aaZ
  have U8 := hW
  obtain ⟨p, q, hA0, hV, rfl, hfz, Us⟩ := U8
  have hA : DataW.TrodAll enc Tryz.prog W 0 (fun _ => true) true Tryz.f4.params.toList args.toList ds p := hA0
  rw [Tryz.params4] at hA La
  obtain ⟨v0, v1, v2, d0, d1, d2, p0, p1, p2, rfl, rfl, rfl, h0, h1, h2⟩ := trodAll_three hA
  obtain ⟨y0, w0, r0⟩ := Ld (g := fun y => (aK ag aa.d y)) Tryz.underlying22 (mf.slice aa.d Tryz.underlying22 tw (sz := 4) (by kernel_rfl) (by decide) (fun _ => rfl)) (La 0 22 v0 rfl rfl) h0
  obtain ⟨y1, w1, r1⟩ := Ld (g := fun y => (aK zN aE.d y)) Tryz.underlying23 (mf.slice aE.d Tryz.underlying23 Qm (sz := 5) (by kernel_rfl) (by decide) (fun _ => rfl)) (La 1 23 v1 rfl rfl) h1
  obtain ⟨y2, w2, r2⟩ := PR (c := j4.cells) Tryz.underlying34 NL (La 2 34 v2 rfl rfl) h2
  obtain ⟨N, hN⟩ := plain y0 y1 y2 w0 w1 w2
  exact RZ (tb := 4) rfl Tryz.laidOut (by kernel_rfl) rfl Tryz.underlying4 rfl hW (rl3 r0 r1 r2) (xx N y0 y1 y2 true hN)
theorem DT (plain : ∀ (y0 : List aa) (y1 : List aE) (y2 : j4), (wL aa.wf) y0 → (wL aE.wf) y1 → j4.wf y2 → ∃ N, gN N y0 y1 y2 = some true) : Rows.ExactNoBetterSaid :=
  OpenClaim.holds_of_wide 4 Tryz.f4 rfl rfl rfl rfl rfl rfl rfl ⟨rfl, rfl, rfl, rfl, rfl⟩ rfl rfl rfl rfl rfl (by kernel_rfl) Tryz.func4 (by kernel_rfl)
    (oG (by kernel_rfl)) (by unfold Func.isWrapper; first | (rw [if_pos (by decide +kernel)]; kernel_rfl) | (rw [if_neg (by decide +kernel)]; exact ⟨rfl, rfl⟩))
    (fun os started H enc _ => zr plain os started H enc)
theorem exactNoBetter_holds : Rows.ExactNoBetterSaid := DT Go.Den.An
#print axioms exactNoBetter_holds
end Go.Proofs.YtdigjibahkjfdaaGreat
