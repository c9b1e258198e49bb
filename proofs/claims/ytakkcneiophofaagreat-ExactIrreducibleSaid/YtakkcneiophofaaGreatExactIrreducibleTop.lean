/- The law ExactIrreducible holds: the given statement. No conditions. -/
import Derived.Test.YtakkcneiophofaaGreatExactIrreducibleSc
import Derived.Test.YtakkcneiophofaaGreatExactIrreduciblePl
import Derived.Test.YtakkcneiophofaaGreatRows
set_option linter.unusedVariables false
set_option maxRecDepth 100000
namespace Go.Proofs.YtakkcneiophofaaGreat
open Go.Ab Go.Den Go.ChangeShapes Go.WideShapes Go.ChangeAt Go.RowKit
theorem Tryz.own : ownKnob Tryz.prog.godebug = none := by kernel_rfl
theorem Tryz.laidOut : laidOutB Tryz.prog = true := by kernel_rfl
theorem open_TInt : Opens Tryz.prog 39 TInt.wf TIc := by
  intro H enc w n cs x h
  obtain ⟨hl, m, hf⟩ := struct_inv Tryz.underlying39 h
  obtain ⟨y0, h0, s0⟩ := fieldO hf 0 (te := 4) 0 1 (Opens.bool Tryz.underlying4) (by kernel_rfl) (by kernel_rfl)
  obtain ⟨y1, h1, s1⟩ := fieldO hf 1 (te := 37) 1 1 (Opens.slice 0 Tryz.underlying37 (Opens.intU Tryz.underlying70) (sz := 1) (by kernel_rfl) (by decide) (fun _ => rfl)) (by kernel_rfl) (by kernel_rfl)
  have hs : Seg w (cs.drop 0) (cB y0 ++ ((fun x => [encL (cU .u16) 0 x]) y1 ++ [])) := .step s0 (.step s1 (.done (hl.trans (by kernel_rfl))))
  exact ⟨⟨y0, y1⟩, ⟨h0, h1⟩, hs⟩
theorem open_TRat : Opens Tryz.prog 41 TRat.wf TRc := by
  intro H enc w n cs x h
  obtain ⟨hl, m, hf⟩ := struct_inv Tryz.underlying41 h
  obtain ⟨y0, h0, s0⟩ := fieldO hf 0 (te := 39) 0 2 open_TInt (by kernel_rfl) (by kernel_rfl)
  obtain ⟨y1, h1, s1⟩ := fieldO hf 1 (te := 39) 2 2 open_TInt (by kernel_rfl) (by kernel_rfl)
  have hs : Seg w (cs.drop 0) (TIc y0 ++ (TIc y1 ++ [])) := .step s0 (.step s1 (.done (hl.trans (by kernel_rfl))))
  exact ⟨⟨y0, y1⟩, ⟨h0, h1⟩, hs⟩
theorem open_TRow : Opens Tryz.prog 43 TRow.wf TWc := by
  intro H enc w n cs x h
  obtain ⟨hl, m, hf⟩ := struct_inv Tryz.underlying43 h
  obtain ⟨y0, h0, s0⟩ := fieldO hf 0 (te := 36) 0 1 (Opens.slice TRat.d Tryz.underlying36 open_TRat (sz := 4) (by kernel_rfl) (by decide) (fun _ => rfl)) (by kernel_rfl) (by kernel_rfl)
  obtain ⟨y1, h1, s1⟩ := fieldO hf 1 (te := 41) 1 4 open_TRat (by kernel_rfl) (by kernel_rfl)
  have hs : Seg w (cs.drop 0) ((fun x => [encL TRc TRat.d x]) y0 ++ (TRc y1 ++ [])) := .step s0 (.step s1 (.done (hl.trans (by kernel_rfl))))
  exact ⟨⟨y0, y1⟩, ⟨h0, h1⟩, hs⟩
theorem open_Tw01_Problem : Opens Tryz.prog 24 Tw01_Problem.wf Tw01_Problem.cells := by
  intro H enc w n cs x h
  obtain ⟨hl, m, hf⟩ := struct_inv Tryz.underlying24 h
  obtain ⟨y0, h0, s0⟩ := fieldO hf 0 (te := 3) 0 1 (Opens.int Tryz.underlying3) (by kernel_rfl) (by kernel_rfl)
  obtain ⟨y1, h1, s1⟩ := fieldO hf 1 (te := 22) 1 1 (Opens.slice TRow.d Tryz.underlying22 open_TRow (sz := 5) (by kernel_rfl) (by decide) (fun _ => rfl)) (by kernel_rfl) (by kernel_rfl)
  have hs : Seg w (cs.drop 0) (cI y0 ++ ((fun x => [encL TWc TRow.d x]) y1 ++ [])) := .step s0 (.step s1 (.done (hl.trans (by kernel_rfl))))
  exact ⟨⟨y0, y1⟩, ⟨h0, h1⟩, hs⟩
theorem exactIrreducible_lifted (plain : ∀ (y0 : Tw01_Problem), Tw01_Problem.wf y0 → ∃ N, g_w01_ExactIrreducible N y0 = some true) (os : Os) (started : os.Started) (H : Type) (enc : TypeId × Value → H) :
    ReturnsInHanded {} Tryz.checked os 4 .any (Rows.exactIrreducibleSpec.pre6 enc Tryz.prog Tryz.f4 Rows.exactIrreducibleRow.domain false) (Rows.exactIrreducibleSpec.post enc Tryz.prog Tryz.f4 false true false false) := by
  refine returnsInHanded_of_change (C := Tryz.checked) Tryz.own started (by kernel_rfl) Tryz.func4
    (ChangeSpec.witness6 (enc := enc) (C := Tryz.checked) false ⟨#[], #[.agg #[.int .i64 0, .slice none 0 0]], []⟩ 16 (by kernel_rfl) (by kernel_rfl) (by kernel_rfl) (by kernel_rfl)) ?_
  intro W base args ds gs before hval0 hW _ _
  have hval : ∀ (j : Nat) t v, Tryz.f4.params[j]? = some t → args[j]? = some v → Value.okWide Tryz.prog W .any base t v := hval0
  have hW2 := hW
  obtain ⟨p, q, hA0, hV, rfl, hfz, hnd⟩ := hW2
  have hA : DataW.TrodAll enc Tryz.prog W 0 (fun _ => true) true Tryz.f4.params.toList args.toList ds p := hA0
  rw [Tryz.params4] at hA hval
  obtain ⟨v0, d0, rfl, rfl, h0⟩ := trodAll_one hA
  obtain ⟨y0, w0, r0⟩ := argStruct (c := Tw01_Problem.cells) Tryz.underlying24 open_Tw01_Problem (hval 0 24 v0 rfl rfl) h0
  obtain ⟨N, hN⟩ := plain y0 w0
  exact law_post (tb := 4) rfl Tryz.laidOut (by kernel_rfl) rfl Tryz.underlying4 rfl hW (rl1 r0) (g_w01_ExactIrreducible_ok N y0 true hN)
theorem exactIrreducible_of (plain : ∀ (y0 : Tw01_Problem), Tw01_Problem.wf y0 → ∃ N, g_w01_ExactIrreducible N y0 = some true) : Rows.ExactIrreducibleSaid :=
  OpenClaim.holds_of_wide 4 Tryz.f4 rfl rfl rfl rfl rfl rfl rfl ⟨rfl, rfl, rfl, rfl, rfl⟩ rfl rfl rfl rfl rfl (by kernel_rfl) Tryz.func4 (by kernel_rfl)
    (of_decide_eq_true (by kernel_rfl)) (by unfold Func.isWrapper; first | (rw [if_pos (by decide +kernel)]; kernel_rfl) | (rw [if_neg (by decide +kernel)]; exact ⟨rfl, rfl⟩))
    (fun os started H enc _ => exactIrreducible_lifted plain os started H enc)
theorem exactIrreducible_holds : Rows.ExactIrreducibleSaid := exactIrreducible_of Go.Den.exactIrreducible_plain
#print axioms exactIrreducible_holds
end Go.Proofs.YtakkcneiophofaaGreat
