/- The law TopWaterKept holds: the given statement. No conditions. -/
import Derived.Test.YtnehpafecdmceaaTopWaterKeptSb
import Derived.Test.YtnehpafecdmceaaTopWaterKeptPl
import Derived.Test.YtnehpafecdmceaaRows
set_option linter.unusedVariables false
set_option maxRecDepth 100000
namespace Go.Proofs.Ytnehpafecdmceaa
open Go.Ab Go.Den Go.ChangeShapes Go.WideShapes Go.ChangeAt Go.RowKit

theorem Try.own : ownKnob Try.prog.godebug = none := by kernel_rfl
theorem Try.laidOut : laidOutB Try.prog = true := by kernel_rfl

theorem open_Tapi_Area : Opens Try.prog 107 Tapi_Area.wf Tapi_Area.cells := by
  intro H enc w n cs x h
  obtain ⟨hl, m, hf⟩ := struct_inv Try.underlying107 h
  obtain ⟨y0, h0, s0⟩ := fieldO hf 0 (te := 3) 0 1 (Opens.int Try.underlying3) (by kernel_rfl) (by kernel_rfl)
  obtain ⟨y1, h1, s1⟩ := fieldO hf 1 (te := 3) 1 1 (Opens.int Try.underlying3) (by kernel_rfl) (by kernel_rfl)
  have hs : Seg w (cs.drop 0) (cI y0 ++ (cI y1 ++ [])) := .step s0 (.step s1 (.done (hl.trans (by kernel_rfl))))
  exact ⟨⟨y0, y1⟩, ⟨h0, h1⟩, hs⟩
theorem open_Tapi_Basin : Opens Try.prog 24 Tapi_Basin.wf Tapi_Basin.cells := by
  intro H enc w n cs x h
  obtain ⟨hl, m, hf⟩ := struct_inv Try.underlying24 h
  obtain ⟨y0, h0, s0⟩ := fieldO hf 0 (te := 9) 0 1 (Opens.str Try.underlying9) (by kernel_rfl) (by kernel_rfl)
  obtain ⟨y1, h1, s1⟩ := fieldO hf 1 (te := 22) 1 1 (Opens.slice Tapi_Area.d Try.underlying22 open_Tapi_Area (sz := 2) (by kernel_rfl) (by decide) (fun _ => rfl)) (by kernel_rfl) (by kernel_rfl)
  obtain ⟨y2, h2, s2⟩ := fieldO hf 2 (te := 3) 2 1 (Opens.int Try.underlying3) (by kernel_rfl) (by kernel_rfl)
  have hs : Seg w (cs.drop 0) (cS y0 ++ ((fun x => [encL Tapi_Area.cells Tapi_Area.d x]) y1 ++ (cI y2 ++ []))) := .step s0 (.step s1 (.step s2 (.done (hl.trans (by kernel_rfl)))))
  exact ⟨⟨y0, y1, y2⟩, ⟨h0, h1, h2⟩, hs⟩
theorem open_Tapi_Mark : Opens Try.prog 43 Tapi_Mark.wf Tapi_Mark.cells := by
  intro H enc w n cs x h
  obtain ⟨hl, m, hf⟩ := struct_inv Try.underlying43 h
  obtain ⟨y0, h0, s0⟩ := fieldO hf 0 (te := 3) 0 1 (Opens.int Try.underlying3) (by kernel_rfl) (by kernel_rfl)
  obtain ⟨y1, h1, s1⟩ := fieldO hf 1 (te := 3) 1 1 (Opens.int Try.underlying3) (by kernel_rfl) (by kernel_rfl)
  have hs : Seg w (cs.drop 0) (cI y0 ++ (cI y1 ++ [])) := .step s0 (.step s1 (.done (hl.trans (by kernel_rfl))))
  exact ⟨⟨y0, y1⟩, ⟨h0, h1⟩, hs⟩
theorem open_Tapi_Link : Opens Try.prog 73 Tapi_Link.wf Tapi_Link.cells := by
  intro H enc w n cs x h
  obtain ⟨hl, m, hf⟩ := struct_inv Try.underlying73 h
  obtain ⟨y0, h0, s0⟩ := fieldO hf 0 (te := 9) 0 1 (Opens.str Try.underlying9) (by kernel_rfl) (by kernel_rfl)
  obtain ⟨y1, h1, s1⟩ := fieldO hf 1 (te := 3) 1 1 (Opens.int Try.underlying3) (by kernel_rfl) (by kernel_rfl)
  obtain ⟨y2, h2, s2⟩ := fieldO hf 2 (te := 9) 2 1 (Opens.str Try.underlying9) (by kernel_rfl) (by kernel_rfl)
  obtain ⟨y3, h3, s3⟩ := fieldO hf 3 (te := 9) 3 1 (Opens.str Try.underlying9) (by kernel_rfl) (by kernel_rfl)
  obtain ⟨y4, h4, s4⟩ := fieldO hf 4 (te := 3) 4 1 (Opens.int Try.underlying3) (by kernel_rfl) (by kernel_rfl)
  obtain ⟨y5, h5, s5⟩ := fieldO hf 5 (te := 3) 5 1 (Opens.int Try.underlying3) (by kernel_rfl) (by kernel_rfl)
  obtain ⟨y6, h6, s6⟩ := fieldO hf 6 (te := 3) 6 1 (Opens.int Try.underlying3) (by kernel_rfl) (by kernel_rfl)
  obtain ⟨y7, h7, s7⟩ := fieldO hf 7 (te := 3) 7 1 (Opens.int Try.underlying3) (by kernel_rfl) (by kernel_rfl)
  have hs : Seg w (cs.drop 0) (cS y0 ++ (cI y1 ++ (cS y2 ++ (cS y3 ++ (cI y4 ++ (cI y5 ++ (cI y6 ++ (cI y7 ++ [])))))))) := .step s0 (.step s1 (.step s2 (.step s3 (.step s4 (.step s5 (.step s6 (.step s7 (.done (hl.trans (by kernel_rfl))))))))))
  exact ⟨⟨y0, y1, y2, y3, y4, y5, y6, y7⟩, ⟨h0, h1, h2, h3, h4, h5, h6, h7⟩, hs⟩
theorem open_Tapi_Network : Opens Try.prog 48 Tapi_Network.wf Tapi_Network.cells := by
  intro H enc w n cs x h
  obtain ⟨hl, m, hf⟩ := struct_inv Try.underlying48 h
  obtain ⟨y0, h0, s0⟩ := fieldO hf 0 (te := 45) 0 1 (Opens.slice Tapi_Basin.d Try.underlying45 open_Tapi_Basin (sz := 3) (by kernel_rfl) (by decide) (fun _ => rfl)) (by kernel_rfl) (by kernel_rfl)
  obtain ⟨y1, h1, s1⟩ := fieldO hf 1 (te := 34) 1 1 (Opens.slice Tapi_Mark.d Try.underlying34 open_Tapi_Mark (sz := 2) (by kernel_rfl) (by decide) (fun _ => rfl)) (by kernel_rfl) (by kernel_rfl)
  obtain ⟨y2, h2, s2⟩ := fieldO hf 2 (te := 46) 2 1 (Opens.slice Tapi_Link.d Try.underlying46 open_Tapi_Link (sz := 8) (by kernel_rfl) (by decide) (fun _ => rfl)) (by kernel_rfl) (by kernel_rfl)
  have hs : Seg w (cs.drop 0) ((fun x => [encL Tapi_Basin.cells Tapi_Basin.d x]) y0 ++ ((fun x => [encL Tapi_Mark.cells Tapi_Mark.d x]) y1 ++ ((fun x => [encL Tapi_Link.cells Tapi_Link.d x]) y2 ++ []))) := .step s0 (.step s1 (.step s2 (.done (hl.trans (by kernel_rfl)))))
  exact ⟨⟨y0, y1, y2⟩, ⟨h0, h1, h2⟩, hs⟩
theorem open_Tapi_Water : Opens Try.prog 54 Tapi_Water.wf Tapi_Water.cells := by
  intro H enc w n cs x h
  obtain ⟨hl, m, hf⟩ := struct_inv Try.underlying54 h
  obtain ⟨y0, h0, s0⟩ := fieldO hf 0 (te := 3) 0 1 (Opens.int Try.underlying3) (by kernel_rfl) (by kernel_rfl)
  obtain ⟨y1, h1, s1⟩ := fieldO hf 1 (te := 49) 1 1 (Opens.slice 0 Try.underlying49 (Opens.int Try.underlying3) (sz := 1) (by kernel_rfl) (by decide) (fun _ => rfl)) (by kernel_rfl) (by kernel_rfl)
  obtain ⟨y2, h2, s2⟩ := fieldO hf 2 (te := 52) 2 1 (Opens.slice false Try.underlying52 (Opens.bool Try.underlying4) (sz := 1) (by kernel_rfl) (by decide) (fun _ => rfl)) (by kernel_rfl) (by kernel_rfl)
  have hs : Seg w (cs.drop 0) (cI y0 ++ ((fun x => [encL cI 0 x]) y1 ++ ((fun x => [encL cB false x]) y2 ++ []))) := .step s0 (.step s1 (.step s2 (.done (hl.trans (by kernel_rfl)))))
  exact ⟨⟨y0, y1, y2⟩, ⟨h0, h1, h2⟩, hs⟩
theorem open_Tapi_Turn : Opens Try.prog 118 Tapi_Turn.wf Tapi_Turn.cells := by
  intro H enc w n cs x h
  obtain ⟨hl, m, hf⟩ := struct_inv Try.underlying118 h
  obtain ⟨y0, h0, s0⟩ := fieldO hf 0 (te := 3) 0 1 (Opens.int Try.underlying3) (by kernel_rfl) (by kernel_rfl)
  obtain ⟨y1, h1, s1⟩ := fieldO hf 1 (te := 9) 1 1 (Opens.str Try.underlying9) (by kernel_rfl) (by kernel_rfl)
  obtain ⟨y2, h2, s2⟩ := fieldO hf 2 (te := 4) 2 1 (Opens.bool Try.underlying4) (by kernel_rfl) (by kernel_rfl)
  have hs : Seg w (cs.drop 0) (cI y0 ++ (cS y1 ++ (cB y2 ++ []))) := .step s0 (.step s1 (.step s2 (.done (hl.trans (by kernel_rfl)))))
  exact ⟨⟨y0, y1, y2⟩, ⟨h0, h1, h2⟩, hs⟩
theorem open_Tkeelblocklaw05_Case : Opens Try.prog 66 Tkeelblocklaw05_Case.wf Tkeelblocklaw05_Case.cells := by
  intro H enc w n cs x h
  obtain ⟨hl, m, hf⟩ := struct_inv Try.underlying66 h
  obtain ⟨y0, h0, s0⟩ := fieldO hf 0 (te := 48) 0 3 open_Tapi_Network (by kernel_rfl) (by kernel_rfl)
  obtain ⟨y1, h1, s1⟩ := fieldO hf 1 (te := 54) 3 3 open_Tapi_Water (by kernel_rfl) (by kernel_rfl)
  obtain ⟨y2, h2, s2⟩ := fieldO hf 2 (te := 64) 6 1 (Opens.slice Tapi_Turn.d Try.underlying64 open_Tapi_Turn (sz := 3) (by kernel_rfl) (by decide) (fun _ => rfl)) (by kernel_rfl) (by kernel_rfl)
  have hs : Seg w (cs.drop 0) (Tapi_Network.cells y0 ++ (Tapi_Water.cells y1 ++ ((fun x => [encL Tapi_Turn.cells Tapi_Turn.d x]) y2 ++ []))) := .step s0 (.step s1 (.step s2 (.done (hl.trans (by kernel_rfl)))))
  exact ⟨⟨y0, y1, y2⟩, ⟨h0, h1, h2⟩, hs⟩

theorem topWaterKept_lifted (plain : ∀ (y0 : Tkeelblocklaw05_Case) (y1 : Int), Tkeelblocklaw05_Case.wf y0 → wI y1 → ∃ N, g_keelblocktop_TopWaterKept N y0 y1 = some true) (os : Os) (started : os.Started) (H : Type) (enc : TypeId × Value → H) :
    ReturnsInHanded {} Try.checked os 11 .any (Rows.topWaterKeptSpec.pre6 enc Try.prog Try.f11 Rows.topWaterKeptRow.domain false) (Rows.topWaterKeptSpec.post enc Try.prog Try.f11 false true false false) := by
  refine returnsInHanded_of_change (C := Try.checked) Try.own started (by kernel_rfl) Try.func11
    (ChangeSpec.witness6 (enc := enc) (C := Try.checked) false ⟨#[], #[.agg #[.slice none 0 0, .slice none 0 0, .slice none 0 0, .int .i64 0, .slice none 0 0, .slice none 0 0, .slice none 0 0], .int .i64 0], []⟩ 16 (by kernel_rfl) (by kernel_rfl) (by kernel_rfl) (by kernel_rfl)) ?_
  intro W base args ds gs before hval0 hW _ _
  have hval : ∀ (j : Nat) t v, Try.f11.params[j]? = some t → args[j]? = some v → Value.okWide Try.prog W .any base t v := hval0
  have hW2 := hW
  obtain ⟨p, q, hA0, hV, rfl, hfz, hnd⟩ := hW2
  have hA : DataW.TrodAll enc Try.prog W 0 (fun _ => true) true Try.f11.params.toList args.toList ds p := hA0
  rw [Try.params11] at hA hval
  obtain ⟨v0, v1, d0, d1, p0, p1, rfl, rfl, rfl, h0, h1⟩ := trodAll_two hA
  obtain ⟨y0, w0, r0⟩ := argStruct (c := Tkeelblocklaw05_Case.cells) Try.underlying66 open_Tkeelblocklaw05_Case (hval 0 66 v0 rfl rfl) h0
  obtain ⟨y1, w1, r1⟩ := argInt (g := fun y => (aI y)) Try.underlying3 (Opens.int Try.underlying3) (hval 1 3 v1 rfl rfl) h1
  obtain ⟨N, hN⟩ := plain y0 y1 w0 w1
  exact law_post (tb := 4) rfl Try.laidOut (by kernel_rfl) rfl Try.underlying4 rfl hW (rl2 r0 r1) (g_keelblocktop_TopWaterKept_ok N y0 y1 true hN)

theorem topWaterKept_of (plain : ∀ (y0 : Tkeelblocklaw05_Case) (y1 : Int), Tkeelblocklaw05_Case.wf y0 → wI y1 → ∃ N, g_keelblocktop_TopWaterKept N y0 y1 = some true) : Rows.TopWaterKeptSaid :=
  OpenClaim.holds_of_wide 11 Try.f11 rfl rfl rfl rfl rfl rfl rfl ⟨rfl, rfl, rfl, rfl, rfl⟩ rfl rfl rfl rfl rfl (by kernel_rfl) Try.func11 (by kernel_rfl)
    (of_decide_eq_true (by kernel_rfl)) (by unfold Func.isWrapper; first | (rw [if_pos (by decide +kernel)]; kernel_rfl) | (rw [if_neg (by decide +kernel)]; exact ⟨rfl, rfl⟩))
    (fun os started H enc _ => topWaterKept_lifted plain os started H enc)

theorem topWaterKept_holds : Rows.TopWaterKeptSaid := topWaterKept_of Go.Den.topWaterKept_plain
#print axioms topWaterKept_holds

end Go.Proofs.Ytnehpafecdmceaa
