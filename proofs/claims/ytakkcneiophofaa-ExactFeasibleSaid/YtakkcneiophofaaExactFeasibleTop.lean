/- The law ExactFeasible holds: the given statement. No conditions. -/
import Derived.Test.YtakkcneiophofaaExactFeasibleSb
import Derived.Test.YtakkcneiophofaaExactFeasiblePl
import Derived.Test.YtakkcneiophofaaRows
set_option linter.unusedVariables false
set_option maxRecDepth 100000
namespace Go.Proofs.Ytakkcneiophofaa
open Go.Ab Go.Den Go.ChangeShapes Go.WideShapes Go.ChangeAt Go.RowKit
theorem Try.own : ownKnob Try.prog.godebug = none := by kernel_rfl
theorem Try.laidOut : laidOutB Try.prog = true := by kernel_rfl
theorem open_TInt : Opens Try.prog 24 TInt.wf TInt.cells := by
  intro H enc w n cs x h
  obtain ⟨hl, m, hf⟩ := struct_inv Try.underlying24 h
  obtain ⟨y0, h0, s0⟩ := fieldO hf 0 (te := 4) 0 1 (Opens.bool Try.underlying4) (by kernel_rfl) (by kernel_rfl)
  obtain ⟨y1, h1, s1⟩ := fieldO hf 1 (te := 22) 1 1 (Opens.slice 0 Try.underlying22 (Opens.intU Try.underlying118) (sz := 1) (by kernel_rfl) (by decide) (fun _ => rfl)) (by kernel_rfl) (by kernel_rfl)
  have hs : Seg w (cs.drop 0) (cB y0 ++ ((fun x => [encL (cU .u16) 0 x]) y1 ++ [])) := .step s0 (.step s1 (.done (hl.trans (by kernel_rfl))))
  exact ⟨⟨y0, y1⟩, ⟨h0, h1⟩, hs⟩
theorem open_TRat : Opens Try.prog 42 TRat.wf TRat.cells := by
  intro H enc w n cs x h
  obtain ⟨hl, m, hf⟩ := struct_inv Try.underlying42 h
  obtain ⟨y0, h0, s0⟩ := fieldO hf 0 (te := 24) 0 2 open_TInt (by kernel_rfl) (by kernel_rfl)
  obtain ⟨y1, h1, s1⟩ := fieldO hf 1 (te := 24) 2 2 open_TInt (by kernel_rfl) (by kernel_rfl)
  have hs : Seg w (cs.drop 0) (TInt.cells y0 ++ (TInt.cells y1 ++ [])) := .step s0 (.step s1 (.done (hl.trans (by kernel_rfl))))
  exact ⟨⟨y0, y1⟩, ⟨h0, h1⟩, hs⟩
theorem open_TRow : Opens Try.prog 144 TRow.wf TRow.cells := by
  intro H enc w n cs x h
  obtain ⟨hl, m, hf⟩ := struct_inv Try.underlying144 h
  obtain ⟨y0, h0, s0⟩ := fieldO hf 0 (te := 60) 0 1 (Opens.slice TRat.d Try.underlying60 open_TRat (sz := 4) (by kernel_rfl) (by decide) (fun _ => rfl)) (by kernel_rfl) (by kernel_rfl)
  obtain ⟨y1, h1, s1⟩ := fieldO hf 1 (te := 42) 1 4 open_TRat (by kernel_rfl) (by kernel_rfl)
  have hs : Seg w (cs.drop 0) ((fun x => [encL TRat.cells TRat.d x]) y0 ++ (TRat.cells y1 ++ [])) := .step s0 (.step s1 (.done (hl.trans (by kernel_rfl))))
  exact ⟨⟨y0, y1⟩, ⟨h0, h1⟩, hs⟩
theorem open_Tw01_Problem : Opens Try.prog 95 Tw01_Problem.wf Tw01_Problem.cells := by
  intro H enc w n cs x h
  obtain ⟨hl, m, hf⟩ := struct_inv Try.underlying95 h
  obtain ⟨y0, h0, s0⟩ := fieldO hf 0 (te := 3) 0 1 (Opens.int Try.underlying3) (by kernel_rfl) (by kernel_rfl)
  obtain ⟨y1, h1, s1⟩ := fieldO hf 1 (te := 93) 1 1 (Opens.slice TRow.d Try.underlying93 open_TRow (sz := 5) (by kernel_rfl) (by decide) (fun _ => rfl)) (by kernel_rfl) (by kernel_rfl)
  have hs : Seg w (cs.drop 0) (cI y0 ++ ((fun x => [encL TRow.cells TRow.d x]) y1 ++ [])) := .step s0 (.step s1 (.done (hl.trans (by kernel_rfl))))
  exact ⟨⟨y0, y1⟩, ⟨h0, h1⟩, hs⟩
theorem exactFeasible_lifted (plain : ∀ (y0 : Tw01_Problem), Tw01_Problem.wf y0 → ∃ N, g_w01_ExactFeasible N y0 = some true) (os : Os) (started : os.Started) (H : Type) (enc : TypeId × Value → H) :
    ReturnsInHanded {} Try.checked os 12 .any (Rows.exactFeasibleSpec.pre6 enc Try.prog Try.f12 Rows.exactFeasibleRow.domain false) (Rows.exactFeasibleSpec.post enc Try.prog Try.f12 false true false false) := by
  refine returnsInHanded_of_change (C := Try.checked) Try.own started (by kernel_rfl) Try.func12
    (ChangeSpec.witness6 (enc := enc) (C := Try.checked) false ⟨#[], #[.agg #[.int .i64 0, .slice none 0 0]], []⟩ 16 (by kernel_rfl) (by kernel_rfl) (by kernel_rfl) (by kernel_rfl)) ?_
  intro W base args ds gs before hval0 hW _ _
  have hval : ∀ (j : Nat) t v, Try.f12.params[j]? = some t → args[j]? = some v → Value.okWide Try.prog W .any base t v := hval0
  have hW2 := hW
  obtain ⟨p, q, hA0, hV, rfl, hfz, hnd⟩ := hW2
  have hA : DataW.TrodAll enc Try.prog W 0 (fun _ => true) true Try.f12.params.toList args.toList ds p := hA0
  rw [Try.params12] at hA hval
  obtain ⟨v0, d0, rfl, rfl, h0⟩ := trodAll_one hA
  obtain ⟨y0, w0, r0⟩ := argStruct (c := Tw01_Problem.cells) Try.underlying95 open_Tw01_Problem (hval 0 95 v0 rfl rfl) h0
  obtain ⟨N, hN⟩ := plain y0 w0
  exact law_post (tb := 4) rfl Try.laidOut (by kernel_rfl) rfl Try.underlying4 rfl hW (rl1 r0) (g_w01_ExactFeasible_ok N y0 true hN)
theorem exactFeasible_of (plain : ∀ (y0 : Tw01_Problem), Tw01_Problem.wf y0 → ∃ N, g_w01_ExactFeasible N y0 = some true) : Rows.ExactFeasibleSaid :=
  OpenClaim.holds_of_wide 12 Try.f12 rfl rfl rfl rfl rfl rfl rfl ⟨rfl, rfl, rfl, rfl, rfl⟩ rfl rfl rfl rfl rfl (by kernel_rfl) Try.func12 (by kernel_rfl)
    (of_decide_eq_true (by kernel_rfl)) (by unfold Func.isWrapper; first | (rw [if_pos (by decide +kernel)]; kernel_rfl) | (rw [if_neg (by decide +kernel)]; exact ⟨rfl, rfl⟩))
    (fun os started H enc _ => exactFeasible_lifted plain os started H enc)
theorem exactFeasible_holds : Rows.ExactFeasibleSaid := exactFeasible_of Go.Den.exactFeasible_plain
#print axioms exactFeasible_holds
end Go.Proofs.Ytakkcneiophofaa
