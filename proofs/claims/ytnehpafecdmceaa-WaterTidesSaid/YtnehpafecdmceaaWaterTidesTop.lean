/- The law WaterTides holds: the given statement. No conditions. -/
import Derived.Test.YtnehpafecdmceaaWaterTidesSb
import Derived.Test.YtnehpafecdmceaaWaterTidesPl
import Derived.Test.YtnehpafecdmceaaRows
set_option linter.unusedVariables false
set_option maxRecDepth 100000
namespace Go.Proofs.Ytnehpafecdmceaa
open Go.Ab Go.Den Go.ChangeShapes Go.WideShapes Go.ChangeAt Go.RowKit

theorem Try.own : ownKnob Try.prog.godebug = none := by kernel_rfl
theorem Try.laidOut : laidOutB Try.prog = true := by kernel_rfl

theorem open_Tapi_Mark : Opens Try.prog 43 Tapi_Mark.wf Tapi_Mark.cells := by
  intro H enc w n cs x h
  obtain ⟨hl, m, hf⟩ := struct_inv Try.underlying43 h
  obtain ⟨y0, h0, s0⟩ := fieldO hf 0 (te := 3) 0 1 (Opens.int Try.underlying3) (by kernel_rfl) (by kernel_rfl)
  obtain ⟨y1, h1, s1⟩ := fieldO hf 1 (te := 3) 1 1 (Opens.int Try.underlying3) (by kernel_rfl) (by kernel_rfl)
  have hs : Seg w (cs.drop 0) (cI y0 ++ (cI y1 ++ [])) := .step s0 (.step s1 (.done (hl.trans (by kernel_rfl))))
  exact ⟨⟨y0, y1⟩, ⟨h0, h1⟩, hs⟩

theorem waterTides_lifted (plain : ∀ (y0 : List Tapi_Mark) (y1 : Int), (wL Tapi_Mark.wf) y0 → wI y1 → ∃ N, g_keelblocklaw05_WaterTides N y0 y1 = some true) (os : Os) (started : os.Started) (H : Type) (enc : TypeId × Value → H) :
    ReturnsInHanded {} Try.checked os 5 .any (Rows.waterTidesSpec.pre6 enc Try.prog Try.f5 Rows.waterTidesRow.domain false) (Rows.waterTidesSpec.post enc Try.prog Try.f5 false true false false) := by
  refine returnsInHanded_of_change (C := Try.checked) Try.own started (by kernel_rfl) Try.func5
    (ChangeSpec.witness6 (enc := enc) (C := Try.checked) false ⟨#[], #[.slice none 0 0, .int .i64 0], []⟩ 16 (by kernel_rfl) (by kernel_rfl) (by kernel_rfl) (by kernel_rfl)) ?_
  intro W base args ds gs before hval0 hW _ _
  have hval : ∀ (j : Nat) t v, Try.f5.params[j]? = some t → args[j]? = some v → Value.okWide Try.prog W .any base t v := hval0
  have hW2 := hW
  obtain ⟨p, q, hA0, hV, rfl, hfz, hnd⟩ := hW2
  have hA : DataW.TrodAll enc Try.prog W 0 (fun _ => true) true Try.f5.params.toList args.toList ds p := hA0
  rw [Try.params5] at hA hval
  obtain ⟨v0, v1, d0, d1, p0, p1, rfl, rfl, rfl, h0, h1⟩ := trodAll_two hA
  obtain ⟨y0, w0, r0⟩ := argSlice (g := fun y => (encL Tapi_Mark.cells Tapi_Mark.d y)) Try.underlying34 (Opens.slice Tapi_Mark.d Try.underlying34 open_Tapi_Mark (sz := 2) (by kernel_rfl) (by decide) (fun _ => rfl)) (hval 0 34 v0 rfl rfl) h0
  obtain ⟨y1, w1, r1⟩ := argInt (g := fun y => (aI y)) Try.underlying3 (Opens.int Try.underlying3) (hval 1 3 v1 rfl rfl) h1
  obtain ⟨N, hN⟩ := plain y0 y1 w0 w1
  exact law_post (tb := 4) rfl Try.laidOut (by kernel_rfl) rfl Try.underlying4 rfl hW (rl2 r0 r1) (g_keelblocklaw05_WaterTides_ok N y0 y1 true hN)

theorem waterTides_of (plain : ∀ (y0 : List Tapi_Mark) (y1 : Int), (wL Tapi_Mark.wf) y0 → wI y1 → ∃ N, g_keelblocklaw05_WaterTides N y0 y1 = some true) : Rows.WaterTidesSaid :=
  OpenClaim.holds_of_wide 5 Try.f5 rfl rfl rfl rfl rfl rfl rfl ⟨rfl, rfl, rfl, rfl, rfl⟩ rfl rfl rfl rfl rfl (by kernel_rfl) Try.func5 (by kernel_rfl)
    (of_decide_eq_true (by kernel_rfl)) (by unfold Func.isWrapper; first | (rw [if_pos (by decide +kernel)]; kernel_rfl) | (rw [if_neg (by decide +kernel)]; exact ⟨rfl, rfl⟩))
    (fun os started H enc _ => waterTides_lifted plain os started H enc)

theorem waterTides_holds : Rows.WaterTidesSaid := waterTides_of Go.Den.waterTides_plain
#print axioms waterTides_holds

end Go.Proofs.Ytnehpafecdmceaa
