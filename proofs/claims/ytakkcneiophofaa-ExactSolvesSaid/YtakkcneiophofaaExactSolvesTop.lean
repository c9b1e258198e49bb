/- The law ExactSolves holds: the given statement. No conditions. -/
import Derived.Test.YtakkcneiophofaaExactSolvesSb
import Derived.Test.YtakkcneiophofaaExactSolvesPl
import Derived.Test.YtakkcneiophofaaRows
set_option linter.unusedVariables false
set_option maxRecDepth 100000
namespace Go.Proofs.Ytakkcneiophofaa
open Go.Ab Go.Den Go.ChangeShapes Go.WideShapes Go.ChangeAt Go.RowKit
theorem Try.own : ownKnob Try.prog.godebug = none := by kernel_rfl
theorem Try.laidOut : laidOutB Try.prog = true := by kernel_rfl
theorem open_TInt : Opens Try.prog 24 TInt.wf TInt.cells := by
  intro H enc w n cs x h
  obtain ⟨hl, m, hf⟩ := struct_inv Try.underlying24 h
  obtain ⟨y0, h0, s0⟩ := fieldO hf 0 (te := 4) 0 1 (Opens.bool Try.underlying4) (by kernel_rfl) (by kernel_rfl)
  obtain ⟨y1, h1, s1⟩ := fieldO hf 1 (te := 22) 1 1 (Opens.slice 0 Try.underlying22 (Opens.intU Try.underlying118) (sz := 1) (by kernel_rfl) (by decide) (fun _ => rfl)) (by kernel_rfl) (by kernel_rfl)
  have hs : Seg w (cs.drop 0) (cB y0 ++ ((fun x => [encL (cU .u16) 0 x]) y1 ++ [])) := .step s0 (.step s1 (.done (hl.trans (by kernel_rfl))))
  exact ⟨⟨y0, y1⟩, ⟨h0, h1⟩, hs⟩
theorem open_TRat : Opens Try.prog 42 TRat.wf TRat.cells := by
  intro H enc w n cs x h
  obtain ⟨hl, m, hf⟩ := struct_inv Try.underlying42 h
  obtain ⟨y0, h0, s0⟩ := fieldO hf 0 (te := 24) 0 2 open_TInt (by kernel_rfl) (by kernel_rfl)
  obtain ⟨y1, h1, s1⟩ := fieldO hf 1 (te := 24) 2 2 open_TInt (by kernel_rfl) (by kernel_rfl)
  have hs : Seg w (cs.drop 0) (TInt.cells y0 ++ (TInt.cells y1 ++ [])) := .step s0 (.step s1 (.done (hl.trans (by kernel_rfl))))
  exact ⟨⟨y0, y1⟩, ⟨h0, h1⟩, hs⟩
theorem exactSolves_lifted (plain : ∀ (y0 : List (List TRat)) (y1 : List TRat), (wL (wL TRat.wf)) y0 → (wL TRat.wf) y1 → ∃ N, g_w01_ExactSolves N y0 y1 = some true) (os : Os) (started : os.Started) (H : Type) (enc : TypeId × Value → H) :
    ReturnsInHanded {} Try.checked os 8 .any (Rows.exactSolvesSpec.pre6 enc Try.prog Try.f8 Rows.exactSolvesRow.domain false) (Rows.exactSolvesSpec.post enc Try.prog Try.f8 false true false false) := by
  refine returnsInHanded_of_change (C := Try.checked) Try.own started (by kernel_rfl) Try.func8
    (ChangeSpec.witness6 (enc := enc) (C := Try.checked) false ⟨#[], #[.slice none 0 0, .slice none 0 0], []⟩ 16 (by kernel_rfl) (by kernel_rfl) (by kernel_rfl) (by kernel_rfl)) ?_
  intro W base args ds gs before hval0 hW _ _
  have hval : ∀ (j : Nat) t v, Try.f8.params[j]? = some t → args[j]? = some v → Value.okWide Try.prog W .any base t v := hval0
  have hW2 := hW
  obtain ⟨p, q, hA0, hV, rfl, hfz, hnd⟩ := hW2
  have hA : DataW.TrodAll enc Try.prog W 0 (fun _ => true) true Try.f8.params.toList args.toList ds p := hA0
  rw [Try.params8] at hA hval
  obtain ⟨v0, v1, d0, d1, p0, p1, rfl, rfl, rfl, h0, h1⟩ := trodAll_two hA
  obtain ⟨y0, w0, r0⟩ := argSlice (g := fun y => (encL (fun x => [encL TRat.cells TRat.d x]) [] y)) Try.underlying68 (Opens.slice [] Try.underlying68 (Opens.slice TRat.d Try.underlying60 open_TRat (sz := 4) (by kernel_rfl) (by decide) (fun _ => rfl)) (sz := 1) (by kernel_rfl) (by decide) (fun _ => rfl)) (hval 0 68 v0 rfl rfl) h0
  obtain ⟨y1, w1, r1⟩ := argSlice (g := fun y => (encL TRat.cells TRat.d y)) Try.underlying60 (Opens.slice TRat.d Try.underlying60 open_TRat (sz := 4) (by kernel_rfl) (by decide) (fun _ => rfl)) (hval 1 60 v1 rfl rfl) h1
  obtain ⟨N, hN⟩ := plain y0 y1 w0 w1
  exact law_post (tb := 4) rfl Try.laidOut (by kernel_rfl) rfl Try.underlying4 rfl hW (rl2 r0 r1) (g_w01_ExactSolves_ok N y0 y1 true hN)
theorem exactSolves_of (plain : ∀ (y0 : List (List TRat)) (y1 : List TRat), (wL (wL TRat.wf)) y0 → (wL TRat.wf) y1 → ∃ N, g_w01_ExactSolves N y0 y1 = some true) : Rows.ExactSolvesSaid :=
  OpenClaim.holds_of_wide 8 Try.f8 rfl rfl rfl rfl rfl rfl rfl ⟨rfl, rfl, rfl, rfl, rfl⟩ rfl rfl rfl rfl rfl (by kernel_rfl) Try.func8 (by kernel_rfl)
    (of_decide_eq_true (by kernel_rfl)) (by unfold Func.isWrapper; first | (rw [if_pos (by decide +kernel)]; kernel_rfl) | (rw [if_neg (by decide +kernel)]; exact ⟨rfl, rfl⟩))
    (fun os started H enc _ => exactSolves_lifted plain os started H enc)
theorem exactSolves_holds : Rows.ExactSolvesSaid := exactSolves_of Go.Den.exactSolves_plain
#print axioms exactSolves_holds
end Go.Proofs.Ytakkcneiophofaa
