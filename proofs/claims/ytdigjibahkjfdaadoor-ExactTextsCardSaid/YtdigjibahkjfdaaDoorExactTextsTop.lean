/- The law ExactTexts holds: the given statement, whose two listed tables of Go lie in the world at the start. No conditions. -/
import Derived.Test.YtdigjibahkjfdaaDoorExactTextsSa
import Derived.Test.YtdigjibahkjfdaaDoorExactTextsPl
import Derived.Handed
import Derived.LaidLaws
import Derived.LaidHandle
import Derived.MakeChecks
import Derived.SevenTiedAt
import Derived.Test.YtdigjibahkjfdaaDoorRows
import Derived.Test.YtdigjibahkjfdaaDoorCards
import Derived.Test.YtdigjibahkjfdaaDoorTie
set_option linter.unusedVariables false
set_option maxRecDepth 100000
namespace Go.Proofs.YtdigjibahkjfdaaDoor
open Go.Ab Go.Den Go.ChangeShapes Go.WideShapes Go.ChangeAt Go.RowKit
theorem Tryd.own : ownKnob Tryd.prog.godebug = none := by kernel_rfl
theorem Tryd.laidOut : laidOutB Tryd.prog = true := by kernel_rfl
theorem open_TInt : Opens Tryd.prog 24 TInt.wf TInt.cells := by
  intro H enc w n cs x h
  obtain ⟨hl, m, hf⟩ := struct_inv Tryd.underlying24 h
  obtain ⟨y0, h0, s0⟩ := fieldO hf 0 (te := 4) 0 1 (Opens.bool Tryd.underlying4) (by kernel_rfl) (by kernel_rfl)
  obtain ⟨y1, h1, s1⟩ := fieldO hf 1 (te := 22) 1 1 (Opens.slice 0 Tryd.underlying22 (Opens.intU Tryd.underlying60) (sz := 1) (by kernel_rfl) (by decide) (fun _ => rfl)) (by kernel_rfl) (by kernel_rfl)
  have hs : Seg w (cs.drop 0) (cB y0 ++ ((fun x => [encL (cU .u16) 0 x]) y1 ++ [])) := .step s0 (.step s1 (.done (hl.trans (by kernel_rfl))))
  exact ⟨⟨y0, y1⟩, ⟨h0, h1⟩, hs⟩
theorem open_TRat : Opens Tryd.prog 26 TRat.wf TRat.cells := by
  intro H enc w n cs x h
  obtain ⟨hl, m, hf⟩ := struct_inv Tryd.underlying26 h
  obtain ⟨y0, h0, s0⟩ := fieldO hf 0 (te := 24) 0 2 open_TInt (by kernel_rfl) (by kernel_rfl)
  obtain ⟨y1, h1, s1⟩ := fieldO hf 1 (te := 24) 2 2 open_TInt (by kernel_rfl) (by kernel_rfl)
  have hs : Seg w (cs.drop 0) (TInt.cells y0 ++ (TInt.cells y1 ++ [])) := .step s0 (.step s1 (.done (hl.trans (by kernel_rfl))))
  exact ⟨⟨y0, y1⟩, ⟨h0, h1⟩, hs⟩
noncomputable def laidWorld (os : Os) : World :=
  let w0 := World.holding Tryd.prog os ⟨#[], #[], []⟩
  let put (h : Array Obj) (g : Nat) (cs : Array Value) : Array Obj := h.modify g fun
    | .cells _ t frozen => .cells cs t frozen
    | o => o
  let h1 := put w0.heap 1 (Go.Pinned.utf8FirstZ.map fun (z : Nat) => Value.int .u8 (z : Int)).toArray
  { w0 with heap := put h1 2 (([128, 191, 160, 191, 128, 159, 144, 191, 128, 143, 0, 0, 0, 0, 0, 0, 0, 0, 0, 0, 0, 0, 0, 0, 0, 0, 0, 0, 0, 0, 0, 0] : List Nat).map fun (z : Nat) => Value.int .u8 (z : Int)).toArray }
theorem globals : Tryd.prog.globalNamed "unicode/utf8.first" = some 1 ∧ Tryd.prog.globalNamed "unicode/utf8.acceptRanges" = some 2 := ⟨by kernel_rfl, by kernel_rfl⟩
theorem laid_met (os : Os) (args : Array Value) : laidMetH Tryd.prog Rows.exactTextsRow.laid ((laidWorld os).forCall (fun _ _ => 0) ⟨#[], args, []⟩).memory := by
  rw [Go.MakeChecks.laidMetH_plain _ _ _ (by kernel_rfl)]
  exact laidMet_of_run' 8 (by kernel_rfl) (by kernel_rfl)
theorem exactTexts_lifted (os : Os) (started : os.Started) (H : Type) (enc : TypeId × Value → H) :
    ReturnsInHanded {} Tryd.checked os 3 .any (fun w args => (Rows.exactTextsSpec.pre enc Tryd.prog Tryd.f3 [] false w args ∧ laidMetH Tryd.prog Rows.exactTextsRow.laid w) ∧ sizedMet enc Tryd.prog Tryd.f3 (OpenSpec.ofChange Rows.exactTextsSpec) false w args)
      (Rows.exactTextsSpec.post enc Tryd.prog Tryd.f3 false true false false) := by
  refine returnsInHanded_of_change_and (C := Tryd.checked) (X := fun w _ => laidMetH Tryd.prog Rows.exactTextsRow.laid w) (fun _ _ _ hh h => h.of_heap hh) Tryd.own started (by kernel_rfl) Tryd.func3
    (ChangeSpec.witness_at (enc := enc) (C := Tryd.checked) (os := os) (X := fun w _ => laidMetH Tryd.prog Rows.exactTextsRow.laid w) false (laidWorld os) #[.agg #[.bool false, .slice none 0 0, .bool false, .slice none 0 0], .string ⟨#[]⟩] 16 rfl (by kernel_rfl) (by kernel_rfl) (by kernel_rfl) (by kernel_rfl) (by kernel_rfl) (laid_met os _)) ?_
  intro W base args ds gs before hval0 hW _ _ _ _
  have hval : ∀ (j : Nat) t v, Tryd.f3.params[j]? = some t → args[j]? = some v → Value.okWide Tryd.prog W .any base t v := hval0
  have hW2 := hW
  obtain ⟨p, q, hA0, hV, rfl, hfz, hnd⟩ := hW2
  have hA : DataW.TrodAll enc Tryd.prog W 0 (fun _ => true) true Tryd.f3.params.toList args.toList ds p := hA0
  rw [Tryd.params3] at hA hval
  obtain ⟨v0, v1, d0, d1, p0, p1, rfl, rfl, rfl, h0, h1⟩ := trodAll_two hA
  obtain ⟨y0, w0, r0⟩ := argStruct (c := TRat.cells) Tryd.underlying26 open_TRat (hval 0 26 v0 rfl rfl) h0
  obtain ⟨y1, w1, r1⟩ := argStr (g := fun y => (aS y)) Tryd.underlying9 (Opens.str Tryd.underlying9) (hval 1 9 v1 rfl rfl) h1
  obtain ⟨N, hN⟩ := Go.Den.exactTexts_plain y0 y1 w0 w1
  exact law_post (tb := 4) rfl Tryd.laidOut (by kernel_rfl) rfl Tryd.underlying4 rfl hW (rl2 r0 r1) (g_w01_ExactTexts_ok N y0 y1 true hN)
theorem exactTexts_row : Rows.ExactTextsSaid :=
  OpenClaim.holds_of_wide 3 Tryd.f3 rfl rfl rfl rfl rfl rfl rfl ⟨rfl, rfl, rfl, rfl, rfl⟩ rfl rfl rfl rfl rfl (by kernel_rfl) Tryd.func3 (by kernel_rfl)
    (of_decide_eq_true (by kernel_rfl)) (by unfold Func.isWrapper; first | (rw [if_pos (by decide +kernel)]; kernel_rfl) | (rw [if_neg (by decide +kernel)]; exact ⟨rfl, rfl⟩))
    (fun os started H enc _ => exactTexts_lifted os started H enc)
theorem exactTexts_holds : Rows.ExactTextsCardSaid :=
  Claim7.holds_tied_plain_at .later [] [.data, .pinned] true (true, "4681e39e4387d3d66f73c22bfbcad83db168e0c82f86f8a1d45133c38f9b2dad") false
    exactTexts_row (fun _ h => by cases h) (by kernel_rfl) (fun _ h => by cases h) exactTexts_row_tie rfl ⟨rfl, rfl⟩ (by kernel_rfl) rfl
    (fun f fn hf hfn => by
      obtain rfl : f = 3 := Option.some.inj ((show Tryd.prog.funcNamed "keelblock/keelblocklaw01.ExactTexts" = some 3 by kernel_rfl).symm.trans hf) |>.symm
      obtain rfl : fn = Tryd.f3 := (Option.some.inj (Tryd.func3.symm.trans hfn)).symm
      exact ⟨by kernel_rfl, fun j t ht => by
        rw [Tryd.params3] at ht
        rcases j with _ | _ | j
        · obtain rfl : t = 26 := by simpa using ht.symm
          exact (show Tryd.prog.wantsStandIn 26 = false by kernel_rfl)
        · obtain rfl : t = 9 := by simpa using ht.symm
          exact (show Tryd.prog.wantsStandIn 9 = false by kernel_rfl)
        · simp at ht⟩)
    (by kernel_rfl)
#print axioms exactTexts_holds
end Go.Proofs.YtdigjibahkjfdaaDoor
