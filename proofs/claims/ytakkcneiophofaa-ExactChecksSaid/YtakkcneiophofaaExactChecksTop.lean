/- The law ExactChecks holds: the given statement. No conditions. -/
import Derived.Test.YtakkcneiophofaaExactChecksSc
import Derived.Test.YtakkcneiophofaaExactChecksPl
import Derived.Test.YtakkcneiophofaaRows
set_option linter.unusedVariables false
set_option maxRecDepth 100000
namespace Go.Proofs.Ytakkcneiophofaa
open Go.Ab Go.Den Go.ChangeShapes Go.WideShapes Go.ChangeAt Go.RowKit
theorem Try.own : ownKnob Try.prog.godebug = none := by kernel_rfl
theorem Try.laidOut : laidOutB Try.prog = true := by kernel_rfl
theorem open_TInt : Opens Try.prog 24 TInt.wf TInt.cells := by
  intro H enc w n cs x h
  obtain ⟨hl, m, hf⟩ := struct_inv Try.underlying24 h
  obtain ⟨y0, h0, s0⟩ := fieldO hf 0 (te := 4) 0 1 (Opens.bool Try.underlying4) (by kernel_rfl) (by kernel_rfl)
  obtain ⟨y1, h1, s1⟩ := fieldO hf 1 (te := 22) 1 1 (Opens.slice 0 Try.underlying22 (Opens.intU Try.underlying118) (sz := 1) (by kernel_rfl) (by decide) (fun _ => rfl)) (by kernel_rfl) (by kernel_rfl)
  have hs : Seg w (cs.drop 0) (cB y0 ++ ((fun x => [encL (cU .u16) 0 x]) y1 ++ [])) := .step s0 (.step s1 (.done (hl.trans (by kernel_rfl))))
  exact ⟨⟨y0, y1⟩, ⟨h0, h1⟩, hs⟩
theorem open_TRat : Opens Try.prog 42 TRat.wf TRat.cells := by
  intro H enc w n cs x h
  obtain ⟨hl, m, hf⟩ := struct_inv Try.underlying42 h
  obtain ⟨y0, h0, s0⟩ := fieldO hf 0 (te := 24) 0 2 open_TInt (by kernel_rfl) (by kernel_rfl)
  obtain ⟨y1, h1, s1⟩ := fieldO hf 1 (te := 24) 2 2 open_TInt (by kernel_rfl) (by kernel_rfl)
  have hs : Seg w (cs.drop 0) (TInt.cells y0 ++ (TInt.cells y1 ++ [])) := .step s0 (.step s1 (.done (hl.trans (by kernel_rfl))))
  exact ⟨⟨y0, y1⟩, ⟨h0, h1⟩, hs⟩
theorem open_TRow : Opens Try.prog 144 TRow.wf TRow.cells := by
  intro H enc w n cs x h
  obtain ⟨hl, m, hf⟩ := struct_inv Try.underlying144 h
  obtain ⟨y0, h0, s0⟩ := fieldO hf 0 (te := 60) 0 1 (Opens.slice TRat.d Try.underlying60 open_TRat (sz := 4) (by kernel_rfl) (by decide) (fun _ => rfl)) (by kernel_rfl) (by kernel_rfl)
  obtain ⟨y1, h1, s1⟩ := fieldO hf 1 (te := 42) 1 4 open_TRat (by kernel_rfl) (by kernel_rfl)
  have hs : Seg w (cs.drop 0) ((fun x => [encL TRat.cells TRat.d x]) y0 ++ (TRat.cells y1 ++ [])) := .step s0 (.step s1 (.done (hl.trans (by kernel_rfl))))
  exact ⟨⟨y0, y1⟩, ⟨h0, h1⟩, hs⟩
theorem open_Tw01_Problem : Opens Try.prog 95 Tw01_Problem.wf Tw01_Problem.cells := by
  intro H enc w n cs x h
  obtain ⟨hl, m, hf⟩ := struct_inv Try.underlying95 h
  obtain ⟨y0, h0, s0⟩ := fieldO hf 0 (te := 3) 0 1 (Opens.int Try.underlying3) (by kernel_rfl) (by kernel_rfl)
  obtain ⟨y1, h1, s1⟩ := fieldO hf 1 (te := 93) 1 1 (Opens.slice TRow.d Try.underlying93 open_TRow (sz := 5) (by kernel_rfl) (by decide) (fun _ => rfl)) (by kernel_rfl) (by kernel_rfl)
  have hs : Seg w (cs.drop 0) (cI y0 ++ ((fun x => [encL TRow.cells TRow.d x]) y1 ++ [])) := .step s0 (.step s1 (.done (hl.trans (by kernel_rfl))))
  exact ⟨⟨y0, y1⟩, ⟨h0, h1⟩, hs⟩
theorem open_TBest : Opens Try.prog 97 TBest.wf TBest.cells := by
  intro H enc w n cs x h
  obtain ⟨hl, m, hf⟩ := struct_inv Try.underlying97 h
  obtain ⟨y0, h0, s0⟩ := fieldO hf 0 (te := 42) 0 4 open_TRat (by kernel_rfl) (by kernel_rfl)
  obtain ⟨y1, h1, s1⟩ := fieldO hf 1 (te := 60) 4 1 (Opens.slice TRat.d Try.underlying60 open_TRat (sz := 4) (by kernel_rfl) (by decide) (fun _ => rfl)) (by kernel_rfl) (by kernel_rfl)
  obtain ⟨y2, h2, s2⟩ := fieldO hf 2 (te := 60) 5 1 (Opens.slice TRat.d Try.underlying60 open_TRat (sz := 4) (by kernel_rfl) (by decide) (fun _ => rfl)) (by kernel_rfl) (by kernel_rfl)
  have hs : Seg w (cs.drop 0) (TRat.cells y0 ++ ((fun x => [encL TRat.cells TRat.d x]) y1 ++ ((fun x => [encL TRat.cells TRat.d x]) y2 ++ []))) := .step s0 (.step s1 (.step s2 (.done (hl.trans (by kernel_rfl)))))
  exact ⟨⟨y0, y1, y2⟩, ⟨h0, h1, h2⟩, hs⟩
theorem exactChecks_lifted (plain : ∀ (y0 : Tw01_Problem) (y1 : List TRat) (y2 : TBest), Tw01_Problem.wf y0 → (wL TRat.wf) y1 → TBest.wf y2 → ∃ N, g_w01_ExactChecks N y0 y1 y2 = some true) (os : Os) (started : os.Started) (H : Type) (enc : TypeId × Value → H) :
    ReturnsInHanded {} Try.checked os 11 .any (Rows.exactChecksSpec.pre6 enc Try.prog Try.f11 Rows.exactChecksRow.domain false) (Rows.exactChecksSpec.post enc Try.prog Try.f11 false true false false) := by
  refine returnsInHanded_of_change (C := Try.checked) Try.own started (by kernel_rfl) Try.func11
    (ChangeSpec.witness6 (enc := enc) (C := Try.checked) false ⟨#[], #[.agg #[.int .i64 0, .slice none 0 0], .slice none 0 0, .agg #[.bool false, .slice none 0 0, .bool false, .slice none 0 0, .slice none 0 0, .slice none 0 0]], []⟩ 16 (by kernel_rfl) (by kernel_rfl) (by kernel_rfl) (by kernel_rfl)) ?_
  intro W base args ds gs before hval0 hW _ _
  have hval : ∀ (j : Nat) t v, Try.f11.params[j]? = some t → args[j]? = some v → Value.okWide Try.prog W .any base t v := hval0
  have hW2 := hW
  obtain ⟨p, q, hA0, hV, rfl, hfz, hnd⟩ := hW2
  have hA : DataW.TrodAll enc Try.prog W 0 (fun _ => true) true Try.f11.params.toList args.toList ds p := hA0
  rw [Try.params11] at hA hval
  obtain ⟨v0, v1, v2, d0, d1, d2, p0, p1, p2, rfl, rfl, rfl, h0, h1, h2⟩ := trodAll_three hA
  obtain ⟨y0, w0, r0⟩ := argStruct (c := Tw01_Problem.cells) Try.underlying95 open_Tw01_Problem (hval 0 95 v0 rfl rfl) h0
  obtain ⟨y1, w1, r1⟩ := argSlice (g := fun y => (encL TRat.cells TRat.d y)) Try.underlying60 (Opens.slice TRat.d Try.underlying60 open_TRat (sz := 4) (by kernel_rfl) (by decide) (fun _ => rfl)) (hval 1 60 v1 rfl rfl) h1
  obtain ⟨y2, w2, r2⟩ := argStruct (c := TBest.cells) Try.underlying97 open_TBest (hval 2 97 v2 rfl rfl) h2
  obtain ⟨N, hN⟩ := plain y0 y1 y2 w0 w1 w2
  exact law_post (tb := 4) rfl Try.laidOut (by kernel_rfl) rfl Try.underlying4 rfl hW (rl3 r0 r1 r2) (g_w01_ExactChecks_ok N y0 y1 y2 true hN)
theorem exactChecks_of (plain : ∀ (y0 : Tw01_Problem) (y1 : List TRat) (y2 : TBest), Tw01_Problem.wf y0 → (wL TRat.wf) y1 → TBest.wf y2 → ∃ N, g_w01_ExactChecks N y0 y1 y2 = some true) : Rows.ExactChecksSaid :=
  OpenClaim.holds_of_wide 11 Try.f11 rfl rfl rfl rfl rfl rfl rfl ⟨rfl, rfl, rfl, rfl, rfl⟩ rfl rfl rfl rfl rfl (by kernel_rfl) Try.func11 (by kernel_rfl)
    (of_decide_eq_true (by kernel_rfl)) (by unfold Func.isWrapper; first | (rw [if_pos (by decide +kernel)]; kernel_rfl) | (rw [if_neg (by decide +kernel)]; exact ⟨rfl, rfl⟩))
    (fun os started H enc _ => exactChecks_lifted plain os started H enc)
theorem exactChecks_holds : Rows.ExactChecksSaid := exactChecks_of Go.Den.exactChecks_plain
#print axioms exactChecks_holds
end Go.Proofs.Ytakkcneiophofaa
