/- The law WaterWindows holds: the given statement. No conditions. -/
import Derived.Test.YthiklnjjabfjlaaWaterWindowsSb
import Derived.Test.YthiklnjjabfjlaaWaterWindowsPl
import Derived.Test.YthiklnjjabfjlaaRows
set_option linter.unusedVariables false
set_option maxRecDepth 100000
namespace Go.Proofs.Ythiklnjjabfjlaa
open Go.Ab Go.Den Go.ChangeShapes Go.WideShapes Go.ChangeAt Go.RowKit
theorem Try.own : ownKnob Try.prog.godebug = none := by kernel_rfl
theorem Try.laidOut : laidOutB Try.prog = true := by kernel_rfl
theorem open_TMark : Opens Try.prog 69 TMark.wf TMark.cells := by
  intro H enc w n cs x h
  obtain ⟨hl, m, hf⟩ := struct_inv Try.underlying69 h
  obtain ⟨y0, h0, s0⟩ := fieldO hf 0 (te := 3) 0 1 (Opens.int Try.underlying3) (by kernel_rfl) (by kernel_rfl)
  obtain ⟨y1, h1, s1⟩ := fieldO hf 1 (te := 3) 1 1 (Opens.int Try.underlying3) (by kernel_rfl) (by kernel_rfl)
  have hs : Seg w (cs.drop 0) (cI y0 ++ (cI y1 ++ [])) := .step s0 (.step s1 (.done (hl.trans (by kernel_rfl))))
  exact ⟨⟨y0, y1⟩, ⟨h0, h1⟩, hs⟩
theorem open_TS__2_int : Opens Try.prog 23 TS__2_int.wf TS__2_int.cells := by
  intro H enc w n cs x h
  obtain ⟨hl, m, hf⟩ := array_inv Try.underlying23 h
  obtain ⟨y0, h0, s0⟩ := elemO hf 0 0 1 (Opens.int Try.underlying3) (by decide) (by kernel_rfl) rfl
  obtain ⟨y1, h1, s1⟩ := elemO hf 1 1 1 (Opens.int Try.underlying3) (by decide) (by kernel_rfl) rfl
  have hs : Seg w (cs.drop 0) (cI y0 ++ (cI y1 ++ [])) := .step s0 (.step s1 (.done (hl.trans (by kernel_rfl))))
  exact ⟨⟨y0, y1⟩, ⟨h0, h1⟩, hs⟩
theorem waterWindows_lifted (plain : ∀ (y0 : List TMark) (y1 : Int) (y2 : TS__2_int), (wL TMark.wf) y0 → wI y1 → TS__2_int.wf y2 → ∃ N, g_w05_WaterWindows N y0 y1 y2 = some true) (os : Os) (started : os.Started) (H : Type) (enc : TypeId × Value → H) :
    ReturnsInHanded {} Try.checked os 3 .any (Rows.waterWindowsSpec.pre6 enc Try.prog Try.f3 Rows.waterWindowsRow.domain false) (Rows.waterWindowsSpec.post enc Try.prog Try.f3 false true false false) := by
  refine returnsInHanded_of_change (C := Try.checked) Try.own started (by kernel_rfl) Try.func3
    (ChangeSpec.witness6 (enc := enc) (C := Try.checked) false ⟨#[], #[.slice none 0 0, .int .i64 0, .agg #[.int .i64 0, .int .i64 0]], []⟩ 16 (by kernel_rfl) (by kernel_rfl) (by kernel_rfl) (by kernel_rfl)) ?_
  intro W base args ds gs before hval0 hW _ _
  have hval : ∀ (j : Nat) t v, Try.f3.params[j]? = some t → args[j]? = some v → Value.okWide Try.prog W .any base t v := hval0
  have hW2 := hW
  obtain ⟨p, q, hA0, hV, rfl, hfz, hnd⟩ := hW2
  have hA : DataW.TrodAll enc Try.prog W 0 (fun _ => true) true Try.f3.params.toList args.toList ds p := hA0
  rw [Try.params3] at hA hval
  obtain ⟨v0, v1, v2, d0, d1, d2, p0, p1, p2, rfl, rfl, rfl, h0, h1, h2⟩ := trodAll_three hA
  obtain ⟨y0, w0, r0⟩ := argSlice (g := fun y => (encL TMark.cells TMark.d y)) Try.underlying22 (Opens.slice TMark.d Try.underlying22 open_TMark (sz := 2) (by kernel_rfl) (by decide) (fun _ => rfl)) (hval 0 22 v0 rfl rfl) h0
  obtain ⟨y1, w1, r1⟩ := argInt (g := fun y => (aI y)) Try.underlying3 (Opens.int Try.underlying3) (hval 1 3 v1 rfl rfl) h1
  obtain ⟨y2, w2, r2⟩ := argArray (c := TS__2_int.cells) Try.underlying23 open_TS__2_int (hval 2 23 v2 rfl rfl) h2
  obtain ⟨N, hN⟩ := plain y0 y1 y2 w0 w1 w2
  exact law_post (tb := 4) rfl Try.laidOut (by kernel_rfl) rfl Try.underlying4 rfl hW (rl3 r0 r1 r2) (g_w05_WaterWindows_ok N y0 y1 y2 true hN)
theorem waterWindows_of (plain : ∀ (y0 : List TMark) (y1 : Int) (y2 : TS__2_int), (wL TMark.wf) y0 → wI y1 → TS__2_int.wf y2 → ∃ N, g_w05_WaterWindows N y0 y1 y2 = some true) : Rows.WaterWindowsSaid :=
  OpenClaim.holds_of_wide 3 Try.f3 rfl rfl rfl rfl rfl rfl rfl ⟨rfl, rfl, rfl, rfl, rfl⟩ rfl rfl rfl rfl rfl (by kernel_rfl) Try.func3 (by kernel_rfl)
    (of_decide_eq_true (by kernel_rfl)) (by unfold Func.isWrapper; first | (rw [if_pos (by decide +kernel)]; kernel_rfl) | (rw [if_neg (by decide +kernel)]; exact ⟨rfl, rfl⟩))
    (fun os started H enc _ => waterWindows_lifted plain os started H enc)
theorem waterWindows_holds : Rows.WaterWindowsSaid := waterWindows_of Go.Den.waterWindows_plain
#print axioms waterWindows_holds
end Go.Proofs.Ythiklnjjabfjlaa
