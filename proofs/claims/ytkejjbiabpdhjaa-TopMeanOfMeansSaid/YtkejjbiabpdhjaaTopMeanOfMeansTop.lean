/- The law TopMeanOfMeans holds: the given statement. No conditions. -/
import Derived.Test.YtkejjbiabpdhjaaTopMeanOfMeansSb
import Derived.Test.YtkejjbiabpdhjaaTopMeanOfMeansPl
import Derived.Test.YtkejjbiabpdhjaaRows
set_option linter.unusedVariables false
set_option maxRecDepth 100000
namespace Go.Proofs.Ytkejjbiabpdhjaa
open Go.Ab Go.Den Go.ChangeShapes Go.WideShapes Go.ChangeAt Go.RowKit
theorem Try.own : ownKnob Try.prog.godebug = none := by kernel_rfl
theorem Try.laidOut : laidOutB Try.prog = true := by kernel_rfl
theorem open_TS__5_int : Opens Try.prog 22 TS__5_int.wf TS__5_int.cells := by
  intro H enc w n cs x h
  obtain ⟨hl, m, hf⟩ := array_inv Try.underlying22 h
  obtain ⟨y0, h0, s0⟩ := elemO hf 0 0 1 (Opens.int Try.underlying3) (by decide) (by kernel_rfl) rfl
  obtain ⟨y1, h1, s1⟩ := elemO hf 1 1 1 (Opens.int Try.underlying3) (by decide) (by kernel_rfl) rfl
  obtain ⟨y2, h2, s2⟩ := elemO hf 2 2 1 (Opens.int Try.underlying3) (by decide) (by kernel_rfl) rfl
  obtain ⟨y3, h3, s3⟩ := elemO hf 3 3 1 (Opens.int Try.underlying3) (by decide) (by kernel_rfl) rfl
  obtain ⟨y4, h4, s4⟩ := elemO hf 4 4 1 (Opens.int Try.underlying3) (by decide) (by kernel_rfl) rfl
  have hs : Seg w (cs.drop 0) (cI y0 ++ (cI y1 ++ (cI y2 ++ (cI y3 ++ (cI y4 ++ []))))) := .step s0 (.step s1 (.step s2 (.step s3 (.step s4 (.done (hl.trans (by kernel_rfl)))))))
  exact ⟨⟨y0, y1, y2, y3, y4⟩, ⟨h0, h1, h2, h3, h4⟩, hs⟩
theorem open_Tkeelblocktop_Drift : Opens Try.prog 24 Tkeelblocktop_Drift.wf Tkeelblocktop_Drift.cells := by
  intro H enc w n cs x h
  obtain ⟨hl, m, hf⟩ := struct_inv Try.underlying24 h
  obtain ⟨y0, h0, s0⟩ := fieldO hf 0 (te := 3) 0 1 (Opens.int Try.underlying3) (by kernel_rfl) (by kernel_rfl)
  obtain ⟨y1, h1, s1⟩ := fieldO hf 1 (te := 3) 1 1 (Opens.int Try.underlying3) (by kernel_rfl) (by kernel_rfl)
  obtain ⟨y2, h2, s2⟩ := fieldO hf 2 (te := 22) 2 5 open_TS__5_int (by kernel_rfl) (by kernel_rfl)
  have hs : Seg w (cs.drop 0) (cI y0 ++ (cI y1 ++ (TS__5_int.cells y2 ++ []))) := .step s0 (.step s1 (.step s2 (.done (hl.trans (by kernel_rfl)))))
  exact ⟨⟨y0, y1, y2⟩, ⟨h0, h1, h2⟩, hs⟩
theorem topMeanOfMeans_lifted (plain : ∀ (y0 : Tkeelblocktop_Drift) (y1 : Int) (y2 : Bool), Tkeelblocktop_Drift.wf y0 → (wK .u8) y1 → wB y2 → ∃ N, g_keelblocktop_TopMeanOfMeans N y0 y1 y2 = some true) (os : Os) (started : os.Started) (H : Type) (enc : TypeId × Value → H) :
    ReturnsInHanded {} Try.checked os 3 .any (Rows.topMeanOfMeansSpec.pre6 enc Try.prog Try.f3 Rows.topMeanOfMeansRow.domain false) (Rows.topMeanOfMeansSpec.post enc Try.prog Try.f3 false true false false) := by
  refine returnsInHanded_of_change (C := Try.checked) Try.own started (by kernel_rfl) Try.func3
    (ChangeSpec.witness6 (enc := enc) (C := Try.checked) false ⟨#[], #[.agg #[.int .i64 0, .int .i64 0, .int .i64 0, .int .i64 0, .int .i64 0, .int .i64 0, .int .i64 0], .int .u8 0, .bool false], []⟩ 16 (by kernel_rfl) (by kernel_rfl) (by kernel_rfl) (by kernel_rfl)) ?_
  intro W base args ds gs before hval0 hW _ _
  have hval : ∀ (j : Nat) t v, Try.f3.params[j]? = some t → args[j]? = some v → Value.okWide Try.prog W .any base t v := hval0
  have hW2 := hW
  obtain ⟨p, q, hA0, hV, rfl, hfz, hnd⟩ := hW2
  have hA : DataW.TrodAll enc Try.prog W 0 (fun _ => true) true Try.f3.params.toList args.toList ds p := hA0
  rw [Try.params3] at hA hval
  obtain ⟨v0, v1, v2, d0, d1, d2, p0, p1, p2, rfl, rfl, rfl, h0, h1, h2⟩ := trodAll_three hA
  obtain ⟨y0, w0, r0⟩ := argStruct (c := Tkeelblocktop_Drift.cells) Try.underlying24 open_Tkeelblocktop_Drift (hval 0 24 v0 rfl rfl) h0
  obtain ⟨y1, w1, r1⟩ := argInt (g := fun y => (.atom (.int .u8 y))) Try.underlying5 (Opens.intU Try.underlying5) (hval 1 5 v1 rfl rfl) h1
  obtain ⟨y2, w2, r2⟩ := argBool (g := fun y => (aB y)) Try.underlying4 (Opens.bool Try.underlying4) (hval 2 4 v2 rfl rfl) h2
  obtain ⟨N, hN⟩ := plain y0 y1 y2 w0 w1 w2
  exact law_post (tb := 4) rfl Try.laidOut (by kernel_rfl) rfl Try.underlying4 rfl hW (rl3 r0 r1 r2) (g_keelblocktop_TopMeanOfMeans_ok N y0 y1 y2 true hN)
theorem topMeanOfMeans_of (plain : ∀ (y0 : Tkeelblocktop_Drift) (y1 : Int) (y2 : Bool), Tkeelblocktop_Drift.wf y0 → (wK .u8) y1 → wB y2 → ∃ N, g_keelblocktop_TopMeanOfMeans N y0 y1 y2 = some true) : Rows.TopMeanOfMeansSaid :=
  OpenClaim.holds_of_wide 3 Try.f3 rfl rfl rfl rfl rfl rfl rfl ⟨rfl, rfl, rfl, rfl, rfl⟩ rfl rfl rfl rfl rfl (by kernel_rfl) Try.func3 (by kernel_rfl)
    (of_decide_eq_true (by kernel_rfl)) (by unfold Func.isWrapper; first | (rw [if_pos (by decide +kernel)]; kernel_rfl) | (rw [if_neg (by decide +kernel)]; exact ⟨rfl, rfl⟩))
    (fun os started H enc _ => topMeanOfMeans_lifted plain os started H enc)
theorem topMeanOfMeans_holds : Rows.TopMeanOfMeansSaid := topMeanOfMeans_of Go.Den.topMeanOfMeans_plain
#print axioms topMeanOfMeans_holds
end Go.Proofs.Ytkejjbiabpdhjaa
