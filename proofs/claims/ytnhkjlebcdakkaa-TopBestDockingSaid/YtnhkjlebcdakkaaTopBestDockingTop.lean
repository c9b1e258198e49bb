/- The law TopBestDocking holds: the given statement. No conditions. -/
import Derived.Test.YtnhkjlebcdakkaaTopBestDockingSb
import Derived.Test.YtnhkjlebcdakkaaTopBestDockingPl
import Derived.Test.YtnhkjlebcdakkaaRows
set_option linter.unusedVariables false
set_option maxRecDepth 100000
namespace Go.Proofs.Ytnhkjlebcdakkaa
open Go.Ab Go.Den Go.ChangeShapes Go.WideShapes Go.ChangeAt Go.RowKit
theorem Try.own : ownKnob Try.prog.godebug = none := by kernel_rfl
theorem Try.laidOut : laidOutB Try.prog = true := by kernel_rfl
theorem open_TDock : Opens Try.prog 23 TDock.wf TDock.cells := by
  intro H enc w n cs x h
  obtain ⟨hl, m, hf⟩ := struct_inv Try.underlying23 h
  obtain ⟨y0, h0, s0⟩ := fieldO hf 0 (te := 9) 0 1 (Opens.str Try.underlying9) (by kernel_rfl) (by kernel_rfl)
  obtain ⟨y1, h1, s1⟩ := fieldO hf 1 (te := 3) 1 1 (Opens.int Try.underlying3) (by kernel_rfl) (by kernel_rfl)
  obtain ⟨y2, h2, s2⟩ := fieldO hf 2 (te := 3) 2 1 (Opens.int Try.underlying3) (by kernel_rfl) (by kernel_rfl)
  obtain ⟨y3, h3, s3⟩ := fieldO hf 3 (te := 3) 3 1 (Opens.int Try.underlying3) (by kernel_rfl) (by kernel_rfl)
  obtain ⟨y4, h4, s4⟩ := fieldO hf 4 (te := 3) 4 1 (Opens.int Try.underlying3) (by kernel_rfl) (by kernel_rfl)
  obtain ⟨y5, h5, s5⟩ := fieldO hf 5 (te := 3) 5 1 (Opens.int Try.underlying3) (by kernel_rfl) (by kernel_rfl)
  have hs : Seg w (cs.drop 0) (cS y0 ++ (cI y1 ++ (cI y2 ++ (cI y3 ++ (cI y4 ++ (cI y5 ++ [])))))) := .step s0 (.step s1 (.step s2 (.step s3 (.step s4 (.step s5 (.done (hl.trans (by kernel_rfl))))))))
  exact ⟨⟨y0, y1, y2, y3, y4, y5⟩, ⟨h0, h1, h2, h3, h4, h5⟩, hs⟩
theorem open_TCall : Opens Try.prog 60 TCall.wf TCall.cells := by
  intro H enc w n cs x h
  obtain ⟨hl, m, hf⟩ := struct_inv Try.underlying60 h
  obtain ⟨y0, h0, s0⟩ := fieldO hf 0 (te := 9) 0 1 (Opens.str Try.underlying9) (by kernel_rfl) (by kernel_rfl)
  obtain ⟨y1, h1, s1⟩ := fieldO hf 1 (te := 3) 1 1 (Opens.int Try.underlying3) (by kernel_rfl) (by kernel_rfl)
  obtain ⟨y2, h2, s2⟩ := fieldO hf 2 (te := 3) 2 1 (Opens.int Try.underlying3) (by kernel_rfl) (by kernel_rfl)
  obtain ⟨y3, h3, s3⟩ := fieldO hf 3 (te := 3) 3 1 (Opens.int Try.underlying3) (by kernel_rfl) (by kernel_rfl)
  obtain ⟨y4, h4, s4⟩ := fieldO hf 4 (te := 3) 4 1 (Opens.int Try.underlying3) (by kernel_rfl) (by kernel_rfl)
  obtain ⟨y5, h5, s5⟩ := fieldO hf 5 (te := 3) 5 1 (Opens.int Try.underlying3) (by kernel_rfl) (by kernel_rfl)
  obtain ⟨y6, h6, s6⟩ := fieldO hf 6 (te := 3) 6 1 (Opens.int Try.underlying3) (by kernel_rfl) (by kernel_rfl)
  obtain ⟨y7, h7, s7⟩ := fieldO hf 7 (te := 3) 7 1 (Opens.int Try.underlying3) (by kernel_rfl) (by kernel_rfl)
  obtain ⟨y8, h8, s8⟩ := fieldO hf 8 (te := 3) 8 1 (Opens.int Try.underlying3) (by kernel_rfl) (by kernel_rfl)
  have hs : Seg w (cs.drop 0) (cS y0 ++ (cI y1 ++ (cI y2 ++ (cI y3 ++ (cI y4 ++ (cI y5 ++ (cI y6 ++ (cI y7 ++ (cI y8 ++ []))))))))) := .step s0 (.step s1 (.step s2 (.step s3 (.step s4 (.step s5 (.step s6 (.step s7 (.step s8 (.done (hl.trans (by kernel_rfl)))))))))))
  exact ⟨⟨y0, y1, y2, y3, y4, y5, y6, y7, y8⟩, ⟨h0, h1, h2, h3, h4, h5, h6, h7, h8⟩, hs⟩
theorem open_TMark : Opens Try.prog 108 TMark.wf TMark.cells := by
  intro H enc w n cs x h
  obtain ⟨hl, m, hf⟩ := struct_inv Try.underlying108 h
  obtain ⟨y0, h0, s0⟩ := fieldO hf 0 (te := 3) 0 1 (Opens.int Try.underlying3) (by kernel_rfl) (by kernel_rfl)
  obtain ⟨y1, h1, s1⟩ := fieldO hf 1 (te := 3) 1 1 (Opens.int Try.underlying3) (by kernel_rfl) (by kernel_rfl)
  have hs : Seg w (cs.drop 0) (cI y0 ++ (cI y1 ++ [])) := .step s0 (.step s1 (.done (hl.trans (by kernel_rfl))))
  exact ⟨⟨y0, y1⟩, ⟨h0, h1⟩, hs⟩
theorem open_TYard : Opens Try.prog 42 TYard.wf TYard.cells := by
  intro H enc w n cs x h
  obtain ⟨hl, m, hf⟩ := struct_inv Try.underlying42 h
  obtain ⟨y0, h0, s0⟩ := fieldO hf 0 (te := 27) 0 1 (Opens.slice TDock.d Try.underlying27 open_TDock (sz := 6) (by kernel_rfl) (by decide) (fun _ => rfl)) (by kernel_rfl) (by kernel_rfl)
  obtain ⟨y1, h1, s1⟩ := fieldO hf 1 (te := 24) 1 1 (Opens.slice TCall.d Try.underlying24 open_TCall (sz := 9) (by kernel_rfl) (by decide) (fun _ => rfl)) (by kernel_rfl) (by kernel_rfl)
  obtain ⟨y2, h2, s2⟩ := fieldO hf 2 (te := 40) 2 1 (Opens.slice TMark.d Try.underlying40 open_TMark (sz := 2) (by kernel_rfl) (by decide) (fun _ => rfl)) (by kernel_rfl) (by kernel_rfl)
  obtain ⟨y3, h3, s3⟩ := fieldO hf 3 (te := 3) 3 1 (Opens.int Try.underlying3) (by kernel_rfl) (by kernel_rfl)
  have hs : Seg w (cs.drop 0) ((fun x => [encL TDock.cells TDock.d x]) y0 ++ ((fun x => [encL TCall.cells TCall.d x]) y1 ++ ((fun x => [encL TMark.cells TMark.d x]) y2 ++ (cI y3 ++ [])))) := .step s0 (.step s1 (.step s2 (.step s3 (.done (hl.trans (by kernel_rfl))))))
  exact ⟨⟨y0, y1, y2, y3⟩, ⟨h0, h1, h2, h3⟩, hs⟩
theorem topBestDocking_lifted (plain : ∀ (y0 : TYard), TYard.wf y0 → ∃ N, g_keelblocktop_TopBestDocking N y0 = some true) (os : Os) (started : os.Started) (H : Type) (enc : TypeId × Value → H) :
    ReturnsInHanded {} Try.checked os 7 .any (Rows.topBestDockingSpec.pre6 enc Try.prog Try.f7 Rows.topBestDockingRow.domain false) (Rows.topBestDockingSpec.post enc Try.prog Try.f7 false true false false) := by
  refine returnsInHanded_of_change (C := Try.checked) Try.own started (by kernel_rfl) Try.func7
    (ChangeSpec.witness6 (enc := enc) (C := Try.checked) false ⟨#[], #[.agg #[.slice none 0 0, .slice none 0 0, .slice none 0 0, .int .i64 0]], []⟩ 16 (by kernel_rfl) (by kernel_rfl) (by kernel_rfl) (by kernel_rfl)) ?_
  intro W base args ds gs before hval0 hW _ _
  have hval : ∀ (j : Nat) t v, Try.f7.params[j]? = some t → args[j]? = some v → Value.okWide Try.prog W .any base t v := hval0
  have hW2 := hW
  obtain ⟨p, q, hA0, hV, rfl, hfz, hnd⟩ := hW2
  have hA : DataW.TrodAll enc Try.prog W 0 (fun _ => true) true Try.f7.params.toList args.toList ds p := hA0
  rw [Try.params7] at hA hval
  obtain ⟨v0, d0, rfl, rfl, h0⟩ := trodAll_one hA
  obtain ⟨y0, w0, r0⟩ := argStruct (c := TYard.cells) Try.underlying42 open_TYard (hval 0 42 v0 rfl rfl) h0
  obtain ⟨N, hN⟩ := plain y0 w0
  exact law_post (tb := 4) rfl Try.laidOut (by kernel_rfl) rfl Try.underlying4 rfl hW (rl1 r0) (g_keelblocktop_TopBestDocking_ok N y0 true hN)
theorem topBestDocking_of (plain : ∀ (y0 : TYard), TYard.wf y0 → ∃ N, g_keelblocktop_TopBestDocking N y0 = some true) : Rows.TopBestDockingSaid :=
  OpenClaim.holds_of_wide 7 Try.f7 rfl rfl rfl rfl rfl rfl rfl ⟨rfl, rfl, rfl, rfl, rfl⟩ rfl rfl rfl rfl rfl (by kernel_rfl) Try.func7 (by kernel_rfl)
    (of_decide_eq_true (by kernel_rfl)) (by unfold Func.isWrapper; first | (rw [if_pos (by decide +kernel)]; kernel_rfl) | (rw [if_neg (by decide +kernel)]; exact ⟨rfl, rfl⟩))
    (fun os started H enc _ => topBestDocking_lifted plain os started H enc)
theorem topBestDocking_holds : Rows.TopBestDockingSaid := topBestDocking_of Go.Den.topBestDocking_plain
#print axioms topBestDocking_holds
end Go.Proofs.Ytnhkjlebcdakkaa
