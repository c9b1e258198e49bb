/-
  No cell of these rows narrows 'for every input' (looked for: loops, veiled, ifaces, maps, wideKeys, modest, calm, conditions, laid).
  DERIVED. THE GIVEN ROWS OF THIS SEAT. 10 by the template 'for every input the law returns true; each argument reads behind the call as it read before'; 0 by the template 'total and deterministic' (their statements: YtakkcneiophofaaTotals.lean).
  GIVEN WITH THE SEED: the statements are not yours to turn. If you find one false, say at which input.
  Laid BY PROGRAM, IN A SANDBOX (cutbox-rows.mjs): the forced cells as the released guide's own fill.sh prints them over the translation 59a76379be1d1ca2… (all of the seat's roots in one cut). By AI agents, Wed Nov 11 2026. No macro, syntax, notation, axiom, sorry.
-/
import Derived.Test.YtakkcneiophofaaChecked
import GoSem.Claim
import GoSem.ClaimJoined
import GoSem.ClaimMapViews
import Derived.JoinedTies
import Derived.KernelRfl
namespace Go.Proofs.Ytakkcneiophofaa
/- THE CELL 'sum', in the pinned program and in every row, IS THE sha256 OF THE DUMP (.gsa) THAT YtakkcneiophofaaProg.lean LOADS. Nothing in Lean hashes anything: it is a label: what it is worth is what the hold of that sum in a sandbox is worth. -/
noncomputable def Try.pinned : Pinned := { name := "ytakkcneiophofaa", sum := "59a76379be1d1ca259d9a782744c2853e2090271899fd69a9ae1b7c675077627", checked := Try.checked }
namespace Rows
def none {H : Type} : Left H := { results := [], args := [] }

/-- 'keelblocklaw01.ExactRing': WHATEVER THE INPUT: true; the input reads as it did. -/
def exactRingSpec : ChangeSpec := { name := "exactRing", fn := fun _ => fun
  | [d1, d2, d3] => { results := [.lit (.bool true)], args := [d1, d2, d3] }
  | _ => none }
def exactRingRow : OpenClaim := { program := "ytakkcneiophofaa", sum := "59a76379be1d1ca259d9a782744c2853e2090271899fd69a9ae1b7c675077627", func := "keelblock/keelblocklaw01.ExactRing", spec := "exactRing", unfollowed := true, recurses := true, apart := false }
def ExactRingSaid : Prop := exactRingRow.holds Try.pinned (OpenSpec.ofChange exactRingSpec)

/-- ITS FALSE NEIGHBOUR: 'it returns false'. Refute it at one input. -/
def exactRingWrong : ChangeSpec := { name := "exactRing", fn := fun _ => fun
  | [d1, d2, d3] => { results := [.lit (.bool false)], args := [d1, d2, d3] }
  | _ => none }
def ExactRingWrongFalsely : Prop := exactRingRow.holds Try.pinned (OpenSpec.ofChange exactRingWrong)

/-- 'keelblocklaw01.ExactIntegers': WHATEVER THE INPUT: true; the input reads as it did. -/
def exactIntegersSpec : ChangeSpec := { name := "exactIntegers", fn := fun _ => fun
  | [d1, d2, d3] => { results := [.lit (.bool true)], args := [d1, d2, d3] }
  | _ => none }
def exactIntegersRow : OpenClaim := { program := "ytakkcneiophofaa", sum := "59a76379be1d1ca259d9a782744c2853e2090271899fd69a9ae1b7c675077627", func := "keelblock/keelblocklaw01.ExactIntegers", spec := "exactIntegers", unfollowed := true, recurses := true, apart := false }
def ExactIntegersSaid : Prop := exactIntegersRow.holds Try.pinned (OpenSpec.ofChange exactIntegersSpec)

/-- ITS FALSE NEIGHBOUR: 'it returns false'. Refute it at one input. -/
def exactIntegersWrong : ChangeSpec := { name := "exactIntegers", fn := fun _ => fun
  | [d1, d2, d3] => { results := [.lit (.bool false)], args := [d1, d2, d3] }
  | _ => none }
def ExactIntegersWrongFalsely : Prop := exactIntegersRow.holds Try.pinned (OpenSpec.ofChange exactIntegersWrong)

/-- 'keelblocklaw01.ExactField': WHATEVER THE INPUT: true; the input reads as it did. -/
def exactFieldSpec : ChangeSpec := { name := "exactField", fn := fun _ => fun
  | [d1, d2, d3] => { results := [.lit (.bool true)], args := [d1, d2, d3] }
  | _ => none }
def exactFieldRow : OpenClaim := { program := "ytakkcneiophofaa", sum := "59a76379be1d1ca259d9a782744c2853e2090271899fd69a9ae1b7c675077627", func := "keelblock/keelblocklaw01.ExactField", spec := "exactField", unfollowed := true, recurses := true, apart := false }
def ExactFieldSaid : Prop := exactFieldRow.holds Try.pinned (OpenSpec.ofChange exactFieldSpec)

/-- ITS FALSE NEIGHBOUR: 'it returns false'. Refute it at one input. -/
def exactFieldWrong : ChangeSpec := { name := "exactField", fn := fun _ => fun
  | [d1, d2, d3] => { results := [.lit (.bool false)], args := [d1, d2, d3] }
  | _ => none }
def ExactFieldWrongFalsely : Prop := exactFieldRow.holds Try.pinned (OpenSpec.ofChange exactFieldWrong)

/-- 'keelblocklaw01.ExactFractions': WHATEVER THE INPUT: true; the input reads as it did. -/
def exactFractionsSpec : ChangeSpec := { name := "exactFractions", fn := fun _ => fun
  | [d1, d2, d3] => { results := [.lit (.bool true)], args := [d1, d2, d3] }
  | _ => none }
def exactFractionsRow : OpenClaim := { program := "ytakkcneiophofaa", sum := "59a76379be1d1ca259d9a782744c2853e2090271899fd69a9ae1b7c675077627", func := "keelblock/keelblocklaw01.ExactFractions", spec := "exactFractions", unfollowed := true, recurses := true, apart := false }
def ExactFractionsSaid : Prop := exactFractionsRow.holds Try.pinned (OpenSpec.ofChange exactFractionsSpec)

/-- ITS FALSE NEIGHBOUR: 'it returns false'. Refute it at one input. -/
def exactFractionsWrong : ChangeSpec := { name := "exactFractions", fn := fun _ => fun
  | [d1, d2, d3] => { results := [.lit (.bool false)], args := [d1, d2, d3] }
  | _ => none }
def ExactFractionsWrongFalsely : Prop := exactFractionsRow.holds Try.pinned (OpenSpec.ofChange exactFractionsWrong)

/-- 'keelblocklaw01.ExactRises': WHATEVER THE INPUT: true; the input reads as it did. -/
def exactRisesSpec : ChangeSpec := { name := "exactRises", fn := fun _ => fun
  | [d1, d2, d3] => { results := [.lit (.bool true)], args := [d1, d2, d3] }
  | _ => none }
def exactRisesRow : OpenClaim := { program := "ytakkcneiophofaa", sum := "59a76379be1d1ca259d9a782744c2853e2090271899fd69a9ae1b7c675077627", func := "keelblock/keelblocklaw01.ExactRises", spec := "exactRises", unfollowed := true, recurses := true, apart := false }
def ExactRisesSaid : Prop := exactRisesRow.holds Try.pinned (OpenSpec.ofChange exactRisesSpec)

/-- ITS FALSE NEIGHBOUR: 'it returns false'. Refute it at one input. -/
def exactRisesWrong : ChangeSpec := { name := "exactRises", fn := fun _ => fun
  | [d1, d2, d3] => { results := [.lit (.bool false)], args := [d1, d2, d3] }
  | _ => none }
def ExactRisesWrongFalsely : Prop := exactRisesRow.holds Try.pinned (OpenSpec.ofChange exactRisesWrong)

/-- 'keelblocklaw01.ExactSolves': WHATEVER THE INPUT: true; the input reads as it did. -/
def exactSolvesSpec : ChangeSpec := { name := "exactSolves", fn := fun _ => fun
  | [d1, d2] => { results := [.lit (.bool true)], args := [d1, d2] }
  | _ => none }
def exactSolvesRow : OpenClaim := { program := "ytakkcneiophofaa", sum := "59a76379be1d1ca259d9a782744c2853e2090271899fd69a9ae1b7c675077627", func := "keelblock/keelblocklaw01.ExactSolves", spec := "exactSolves", unfollowed := true, recurses := true, apart := false }
def ExactSolvesSaid : Prop := exactSolvesRow.holds Try.pinned (OpenSpec.ofChange exactSolvesSpec)

/-- ITS FALSE NEIGHBOUR: 'it returns false'. Refute it at one input. -/
def exactSolvesWrong : ChangeSpec := { name := "exactSolves", fn := fun _ => fun
  | [d1, d2] => { results := [.lit (.bool false)], args := [d1, d2] }
  | _ => none }
def ExactSolvesWrongFalsely : Prop := exactSolvesRow.holds Try.pinned (OpenSpec.ofChange exactSolvesWrong)

/-- 'keelblocklaw01.ExactSums': WHATEVER THE INPUT: true; the input reads as it did. -/
def exactSumsSpec : ChangeSpec := { name := "exactSums", fn := fun _ => fun
  | [d1, d2, d3] => { results := [.lit (.bool true)], args := [d1, d2, d3] }
  | _ => none }
def exactSumsRow : OpenClaim := { program := "ytakkcneiophofaa", sum := "59a76379be1d1ca259d9a782744c2853e2090271899fd69a9ae1b7c675077627", func := "keelblock/keelblocklaw01.ExactSums", spec := "exactSums", unfollowed := true, recurses := true, apart := false }
def ExactSumsSaid : Prop := exactSumsRow.holds Try.pinned (OpenSpec.ofChange exactSumsSpec)

/-- ITS FALSE NEIGHBOUR: 'it returns false'. Refute it at one input. -/
def exactSumsWrong : ChangeSpec := { name := "exactSums", fn := fun _ => fun
  | [d1, d2, d3] => { results := [.lit (.bool false)], args := [d1, d2, d3] }
  | _ => none }
def ExactSumsWrongFalsely : Prop := exactSumsRow.holds Try.pinned (OpenSpec.ofChange exactSumsWrong)

/-- 'keelblocklaw01.ExactCurves': WHATEVER THE INPUT: true; the input reads as it did. -/
def exactCurvesSpec : ChangeSpec := { name := "exactCurves", fn := fun _ => fun
  | [d1, d2] => { results := [.lit (.bool true)], args := [d1, d2] }
  | _ => none }
def exactCurvesRow : OpenClaim := { program := "ytakkcneiophofaa", sum := "59a76379be1d1ca259d9a782744c2853e2090271899fd69a9ae1b7c675077627", func := "keelblock/keelblocklaw01.ExactCurves", spec := "exactCurves", unfollowed := true, recurses := true, apart := false }
def ExactCurvesSaid : Prop := exactCurvesRow.holds Try.pinned (OpenSpec.ofChange exactCurvesSpec)

/-- ITS FALSE NEIGHBOUR: 'it returns false'. Refute it at one input. -/
def exactCurvesWrong : ChangeSpec := { name := "exactCurves", fn := fun _ => fun
  | [d1, d2] => { results := [.lit (.bool false)], args := [d1, d2] }
  | _ => none }
def ExactCurvesWrongFalsely : Prop := exactCurvesRow.holds Try.pinned (OpenSpec.ofChange exactCurvesWrong)

/-- 'keelblocklaw01.ExactChecks': WHATEVER THE INPUT: true; the input reads as it did. -/
def exactChecksSpec : ChangeSpec := { name := "exactChecks", fn := fun _ => fun
  | [d1, d2, d3] => { results := [.lit (.bool true)], args := [d1, d2, d3] }
  | _ => none }
def exactChecksRow : OpenClaim := { program := "ytakkcneiophofaa", sum := "59a76379be1d1ca259d9a782744c2853e2090271899fd69a9ae1b7c675077627", func := "keelblock/keelblocklaw01.ExactChecks", spec := "exactChecks", unfollowed := true, recurses := true, apart := false }
def ExactChecksSaid : Prop := exactChecksRow.holds Try.pinned (OpenSpec.ofChange exactChecksSpec)

/-- ITS FALSE NEIGHBOUR: 'it returns false'. Refute it at one input. -/
def exactChecksWrong : ChangeSpec := { name := "exactChecks", fn := fun _ => fun
  | [d1, d2, d3] => { results := [.lit (.bool false)], args := [d1, d2, d3] }
  | _ => none }
def ExactChecksWrongFalsely : Prop := exactChecksRow.holds Try.pinned (OpenSpec.ofChange exactChecksWrong)

/-- 'keelblocklaw01.ExactFeasible': WHATEVER THE INPUT: true; the input reads as it did. -/
def exactFeasibleSpec : ChangeSpec := { name := "exactFeasible", fn := fun _ => fun
  | [d] => { results := [.lit (.bool true)], args := [d] }
  | _ => none }
def exactFeasibleRow : OpenClaim := { program := "ytakkcneiophofaa", sum := "59a76379be1d1ca259d9a782744c2853e2090271899fd69a9ae1b7c675077627", func := "keelblock/keelblocklaw01.ExactFeasible", spec := "exactFeasible", unfollowed := true, recurses := true, apart := false }
def ExactFeasibleSaid : Prop := exactFeasibleRow.holds Try.pinned (OpenSpec.ofChange exactFeasibleSpec)

/-- ITS FALSE NEIGHBOUR: 'it returns false'. Refute it at one input. -/
def exactFeasibleWrong : ChangeSpec := { name := "exactFeasible", fn := fun _ => fun
  | [d] => { results := [.lit (.bool false)], args := [d] }
  | _ => none }
def ExactFeasibleWrongFalsely : Prop := exactFeasibleRow.holds Try.pinned (OpenSpec.ofChange exactFeasibleWrong)

/- THE SECOND FORM. 'bulk': how many values and letters a reading holds, each counted each time it is reached (what is shared counts as often as it is met; a slice's spare places count too). A statement '..UptoSaid' is the law's where the arguments, and the package variables that the reading takes, are together of bulk at most 1048576: NARROWER than '..Said'. Prove '..Said' where nothing that the law and all that it calls make is longer than what came in: it says more and counts as full. Else prove '..UptoSaid'. A law counts once. -/
mutual
def uptoBulk {H : Type} : DataW H → Nat
  | .lit (.string bytes) => bytes.length + 1
  | .lit _ => 1
  | .nil => 1
  | .ptr d => uptoBulk d + 1
  | .slice elems spare => uptoBulkAll elems + uptoBulkAll spare + 1
  | .agg parts => uptoBulkAll parts + 1
  | .iface _ d => uptoBulk d + 1
  | .map entries => uptoBulkEntries entries + 1
  | .held _ => 1
def uptoBulkAll {H : Type} : List (DataW H) → Nat
  | [] => 0
  | d :: r => uptoBulk d + uptoBulkAll r
def uptoBulkEntries {H : Type} : List (Lit × DataW H) → Nat
  | [] => 0
  | x :: r => uptoBulkEntry x + uptoBulkEntries r
def uptoBulkEntry {H : Type} : Lit × DataW H → Nat
  | (.string bytes, d) => bytes.length + uptoBulk d + 1
  | (_, d) => uptoBulk d + 1
 end
def uptoSmall : (H : Type) → List (DataW H) → Bool := fun _ ds => decide (uptoBulkAll ds ≤ 1048576)
def OpenSpec.upto (s : _root_.Go.ChangeSpec) : _root_.Go.OpenSpec := { _root_.Go.OpenSpec.ofChange s with cond := some uptoSmall }

/-- 'keelblocklaw01.ExactRing', WHERE WHAT IT READS IS OF BULK AT MOST 1048576: true; the input reads as it did. -/
def exactRingUptoRow : OpenClaim := { program := "ytakkcneiophofaa", sum := "59a76379be1d1ca259d9a782744c2853e2090271899fd69a9ae1b7c675077627", func := "keelblock/keelblocklaw01.ExactRing", spec := "exactRing", unfollowed := true, recurses := true, apart := false, narrowed := true }
def ExactRingUptoSaid : Prop := exactRingUptoRow.holds Try.pinned (OpenSpec.upto exactRingSpec)

/-- 'keelblocklaw01.ExactIntegers', WHERE WHAT IT READS IS OF BULK AT MOST 1048576: true; the input reads as it did. -/
def exactIntegersUptoRow : OpenClaim := { program := "ytakkcneiophofaa", sum := "59a76379be1d1ca259d9a782744c2853e2090271899fd69a9ae1b7c675077627", func := "keelblock/keelblocklaw01.ExactIntegers", spec := "exactIntegers", unfollowed := true, recurses := true, apart := false, narrowed := true }
def ExactIntegersUptoSaid : Prop := exactIntegersUptoRow.holds Try.pinned (OpenSpec.upto exactIntegersSpec)

/-- 'keelblocklaw01.ExactField', WHERE WHAT IT READS IS OF BULK AT MOST 1048576: true; the input reads as it did. -/
def exactFieldUptoRow : OpenClaim := { program := "ytakkcneiophofaa", sum := "59a76379be1d1ca259d9a782744c2853e2090271899fd69a9ae1b7c675077627", func := "keelblock/keelblocklaw01.ExactField", spec := "exactField", unfollowed := true, recurses := true, apart := false, narrowed := true }
def ExactFieldUptoSaid : Prop := exactFieldUptoRow.holds Try.pinned (OpenSpec.upto exactFieldSpec)

/-- 'keelblocklaw01.ExactFractions', WHERE WHAT IT READS IS OF BULK AT MOST 1048576: true; the input reads as it did. -/
def exactFractionsUptoRow : OpenClaim := { program := "ytakkcneiophofaa", sum := "59a76379be1d1ca259d9a782744c2853e2090271899fd69a9ae1b7c675077627", func := "keelblock/keelblocklaw01.ExactFractions", spec := "exactFractions", unfollowed := true, recurses := true, apart := false, narrowed := true }
def ExactFractionsUptoSaid : Prop := exactFractionsUptoRow.holds Try.pinned (OpenSpec.upto exactFractionsSpec)

/-- 'keelblocklaw01.ExactRises', WHERE WHAT IT READS IS OF BULK AT MOST 1048576: true; the input reads as it did. -/
def exactRisesUptoRow : OpenClaim := { program := "ytakkcneiophofaa", sum := "59a76379be1d1ca259d9a782744c2853e2090271899fd69a9ae1b7c675077627", func := "keelblock/keelblocklaw01.ExactRises", spec := "exactRises", unfollowed := true, recurses := true, apart := false, narrowed := true }
def ExactRisesUptoSaid : Prop := exactRisesUptoRow.holds Try.pinned (OpenSpec.upto exactRisesSpec)

/-- 'keelblocklaw01.ExactSolves', WHERE WHAT IT READS IS OF BULK AT MOST 1048576: true; the input reads as it did. -/
def exactSolvesUptoRow : OpenClaim := { program := "ytakkcneiophofaa", sum := "59a76379be1d1ca259d9a782744c2853e2090271899fd69a9ae1b7c675077627", func := "keelblock/keelblocklaw01.ExactSolves", spec := "exactSolves", unfollowed := true, recurses := true, apart := false, narrowed := true }
def ExactSolvesUptoSaid : Prop := exactSolvesUptoRow.holds Try.pinned (OpenSpec.upto exactSolvesSpec)

/-- 'keelblocklaw01.ExactSums', WHERE WHAT IT READS IS OF BULK AT MOST 1048576: true; the input reads as it did. -/
def exactSumsUptoRow : OpenClaim := { program := "ytakkcneiophofaa", sum := "59a76379be1d1ca259d9a782744c2853e2090271899fd69a9ae1b7c675077627", func := "keelblock/keelblocklaw01.ExactSums", spec := "exactSums", unfollowed := true, recurses := true, apart := false, narrowed := true }
def ExactSumsUptoSaid : Prop := exactSumsUptoRow.holds Try.pinned (OpenSpec.upto exactSumsSpec)

/-- 'keelblocklaw01.ExactCurves', WHERE WHAT IT READS IS OF BULK AT MOST 1048576: true; the input reads as it did. -/
def exactCurvesUptoRow : OpenClaim := { program := "ytakkcneiophofaa", sum := "59a76379be1d1ca259d9a782744c2853e2090271899fd69a9ae1b7c675077627", func := "keelblock/keelblocklaw01.ExactCurves", spec := "exactCurves", unfollowed := true, recurses := true, apart := false, narrowed := true }
def ExactCurvesUptoSaid : Prop := exactCurvesUptoRow.holds Try.pinned (OpenSpec.upto exactCurvesSpec)

/-- 'keelblocklaw01.ExactChecks', WHERE WHAT IT READS IS OF BULK AT MOST 1048576: true; the input reads as it did. -/
def exactChecksUptoRow : OpenClaim := { program := "ytakkcneiophofaa", sum := "59a76379be1d1ca259d9a782744c2853e2090271899fd69a9ae1b7c675077627", func := "keelblock/keelblocklaw01.ExactChecks", spec := "exactChecks", unfollowed := true, recurses := true, apart := false, narrowed := true }
def ExactChecksUptoSaid : Prop := exactChecksUptoRow.holds Try.pinned (OpenSpec.upto exactChecksSpec)

/-- 'keelblocklaw01.ExactFeasible', WHERE WHAT IT READS IS OF BULK AT MOST 1048576: true; the input reads as it did. -/
def exactFeasibleUptoRow : OpenClaim := { program := "ytakkcneiophofaa", sum := "59a76379be1d1ca259d9a782744c2853e2090271899fd69a9ae1b7c675077627", func := "keelblock/keelblocklaw01.ExactFeasible", spec := "exactFeasible", unfollowed := true, recurses := true, apart := false, narrowed := true }
def ExactFeasibleUptoSaid : Prop := exactFeasibleUptoRow.holds Try.pinned (OpenSpec.upto exactFeasibleSpec)

end Rows
end Go.Proofs.Ytakkcneiophofaa
