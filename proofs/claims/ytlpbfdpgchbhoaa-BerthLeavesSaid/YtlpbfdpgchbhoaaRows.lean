/-
  No cell of these rows narrows 'for every input' (looked for: loops, veiled, ifaces, maps, wideKeys, modest, calm, conditions, laid).
  DERIVED. THE GIVEN ROWS OF THIS SEAT. 6 by the template 'for every input the law returns true; each argument reads behind the call as it read before'; 0 by the template 'total and deterministic' (their statements: YtlpbfdpgchbhoaaTotals.lean).
  GIVEN WITH THE SEED: the statements are not yours to turn. If you find one false, say at which input.
  Laid BY PROGRAM, IN A SANDBOX (cutbox-rows.mjs): the forced cells as the released guide's own fill.sh prints them over the translation a239c692e3580ae5… (all of the seat's roots in one cut). By AI agents, Wed Nov 11 2026. No macro, syntax, notation, axiom, sorry.
-/
import Derived.Test.YtlpbfdpgchbhoaaChecked
import GoSem.Claim
import GoSem.ClaimJoined
import GoSem.ClaimMapViews
import Derived.JoinedTies
import Derived.KernelRfl
namespace Go.Proofs.Ytlpbfdpgchbhoaa
/- THE CELL 'sum', in the pinned program and in every row, IS THE sha256 OF THE DUMP (.gsa) THAT YtlpbfdpgchbhoaaProg.lean LOADS. Nothing in Lean hashes anything: it is a label: what it is worth is what the hold of that sum in a sandbox is worth. -/
noncomputable def Try.pinned : Pinned := { name := "ytlpbfdpgchbhoaa", sum := "a239c692e3580ae5754d32bc8507fd280fad79557c5f7bed84b4f8fe1f91920b", checked := Try.checked }
namespace Rows
def none {H : Type} : Left H := { results := [], args := [] }

/-- 'keelblocklaw06.BerthLines': WHATEVER THE INPUT: true; the input reads as it did. -/
def berthLinesSpec : ChangeSpec := { name := "berthLines", fn := fun _ => fun
  | [d] => { results := [.lit (.bool true)], args := [d] }
  | _ => none }
def berthLinesRow : OpenClaim := { program := "ytlpbfdpgchbhoaa", sum := "a239c692e3580ae5754d32bc8507fd280fad79557c5f7bed84b4f8fe1f91920b", func := "keelblock/keelblocklaw06.BerthLines", spec := "berthLines", unfollowed := true, recurses := true, apart := false }
def BerthLinesSaid : Prop := berthLinesRow.holds Try.pinned (OpenSpec.ofChange berthLinesSpec)

/-- ITS FALSE NEIGHBOUR: 'it returns false'. Refute it at one input. -/
def berthLinesWrong : ChangeSpec := { name := "berthLines", fn := fun _ => fun
  | [d] => { results := [.lit (.bool false)], args := [d] }
  | _ => none }
def BerthLinesWrongFalsely : Prop := berthLinesRow.holds Try.pinned (OpenSpec.ofChange berthLinesWrong)

/-- 'keelblocklaw06.BerthDocks': WHATEVER THE INPUT: true; the input reads as it did. -/
def berthDocksSpec : ChangeSpec := { name := "berthDocks", fn := fun _ => fun
  | [d1, d2] => { results := [.lit (.bool true)], args := [d1, d2] }
  | _ => none }
def berthDocksRow : OpenClaim := { program := "ytlpbfdpgchbhoaa", sum := "a239c692e3580ae5754d32bc8507fd280fad79557c5f7bed84b4f8fe1f91920b", func := "keelblock/keelblocklaw06.BerthDocks", spec := "berthDocks", unfollowed := true, recurses := true, apart := false }
def BerthDocksSaid : Prop := berthDocksRow.holds Try.pinned (OpenSpec.ofChange berthDocksSpec)

/-- ITS FALSE NEIGHBOUR: 'it returns false'. Refute it at one input. -/
def berthDocksWrong : ChangeSpec := { name := "berthDocks", fn := fun _ => fun
  | [d1, d2] => { results := [.lit (.bool false)], args := [d1, d2] }
  | _ => none }
def BerthDocksWrongFalsely : Prop := berthDocksRow.holds Try.pinned (OpenSpec.ofChange berthDocksWrong)

/-- 'keelblocklaw06.BerthHoists': WHATEVER THE INPUT: true; the input reads as it did. -/
def berthHoistsSpec : ChangeSpec := { name := "berthHoists", fn := fun _ => fun
  | [d] => { results := [.lit (.bool true)], args := [d] }
  | _ => none }
def berthHoistsRow : OpenClaim := { program := "ytlpbfdpgchbhoaa", sum := "a239c692e3580ae5754d32bc8507fd280fad79557c5f7bed84b4f8fe1f91920b", func := "keelblock/keelblocklaw06.BerthHoists", spec := "berthHoists", unfollowed := true, recurses := true, apart := false }
def BerthHoistsSaid : Prop := berthHoistsRow.holds Try.pinned (OpenSpec.ofChange berthHoistsSpec)

/-- ITS FALSE NEIGHBOUR: 'it returns false'. Refute it at one input. -/
def berthHoistsWrong : ChangeSpec := { name := "berthHoists", fn := fun _ => fun
  | [d] => { results := [.lit (.bool false)], args := [d] }
  | _ => none }
def BerthHoistsWrongFalsely : Prop := berthHoistsRow.holds Try.pinned (OpenSpec.ofChange berthHoistsWrong)

/-- 'keelblocklaw06.BerthCrossing': WHATEVER THE INPUT: true; the input reads as it did. -/
def berthCrossingSpec : ChangeSpec := { name := "berthCrossing", fn := fun _ => fun
  | [d1, d2] => { results := [.lit (.bool true)], args := [d1, d2] }
  | _ => none }
def berthCrossingRow : OpenClaim := { program := "ytlpbfdpgchbhoaa", sum := "a239c692e3580ae5754d32bc8507fd280fad79557c5f7bed84b4f8fe1f91920b", func := "keelblock/keelblocklaw06.BerthCrossing", spec := "berthCrossing", unfollowed := true, recurses := true, apart := false }
def BerthCrossingSaid : Prop := berthCrossingRow.holds Try.pinned (OpenSpec.ofChange berthCrossingSpec)

/-- ITS FALSE NEIGHBOUR: 'it returns false'. Refute it at one input. -/
def berthCrossingWrong : ChangeSpec := { name := "berthCrossing", fn := fun _ => fun
  | [d1, d2] => { results := [.lit (.bool false)], args := [d1, d2] }
  | _ => none }
def BerthCrossingWrongFalsely : Prop := berthCrossingRow.holds Try.pinned (OpenSpec.ofChange berthCrossingWrong)

/-- 'keelblocklaw06.BerthPlans': WHATEVER THE INPUT: true; the input reads as it did. -/
def berthPlansSpec : ChangeSpec := { name := "berthPlans", fn := fun _ => fun
  | [d] => { results := [.lit (.bool true)], args := [d] }
  | _ => none }
def berthPlansRow : OpenClaim := { program := "ytlpbfdpgchbhoaa", sum := "a239c692e3580ae5754d32bc8507fd280fad79557c5f7bed84b4f8fe1f91920b", func := "keelblock/keelblocklaw06.BerthPlans", spec := "berthPlans", unfollowed := true, recurses := true, apart := false }
def BerthPlansSaid : Prop := berthPlansRow.holds Try.pinned (OpenSpec.ofChange berthPlansSpec)

/-- ITS FALSE NEIGHBOUR: 'it returns false'. Refute it at one input. -/
def berthPlansWrong : ChangeSpec := { name := "berthPlans", fn := fun _ => fun
  | [d] => { results := [.lit (.bool false)], args := [d] }
  | _ => none }
def BerthPlansWrongFalsely : Prop := berthPlansRow.holds Try.pinned (OpenSpec.ofChange berthPlansWrong)

/-- 'keelblocklaw06.BerthLeaves': WHATEVER THE INPUT: true; the input reads as it did. -/
def berthLeavesSpec : ChangeSpec := { name := "berthLeaves", fn := fun _ => fun
  | [d] => { results := [.lit (.bool true)], args := [d] }
  | _ => none }
def berthLeavesRow : OpenClaim := { program := "ytlpbfdpgchbhoaa", sum := "a239c692e3580ae5754d32bc8507fd280fad79557c5f7bed84b4f8fe1f91920b", func := "keelblock/keelblocklaw06.BerthLeaves", spec := "berthLeaves", unfollowed := true, recurses := true, apart := false }
def BerthLeavesSaid : Prop := berthLeavesRow.holds Try.pinned (OpenSpec.ofChange berthLeavesSpec)

/-- ITS FALSE NEIGHBOUR: 'it returns false'. Refute it at one input. -/
def berthLeavesWrong : ChangeSpec := { name := "berthLeaves", fn := fun _ => fun
  | [d] => { results := [.lit (.bool false)], args := [d] }
  | _ => none }
def BerthLeavesWrongFalsely : Prop := berthLeavesRow.holds Try.pinned (OpenSpec.ofChange berthLeavesWrong)

/- THE SECOND FORM. 'bulk': how many values and letters a reading holds, each counted each time it is reached (what is shared counts as often as it is met; a slice's spare places count too). A statement '..UptoSaid' is the law's where the arguments, and the package variables that the reading takes, are together of bulk at most 1048576: NARROWER than '..Said'. Prove '..Said' where nothing that the law and all that it calls make is longer than what came in: it says more and counts as full. Else prove '..UptoSaid'. A law counts once. -/
mutual
def uptoBulk {H : Type} : DataW H → Nat
  | .lit (.string bytes) => bytes.length + 1
  | .lit _ => 1
  | .nil => 1
  | .ptr d => uptoBulk d + 1
  | .slice elems spare => uptoBulkAll elems + uptoBulkAll spare + 1
  | .agg parts => uptoBulkAll parts + 1
  | .iface _ d => uptoBulk d + 1
  | .map entries => uptoBulkEntries entries + 1
  | .held _ => 1
def uptoBulkAll {H : Type} : List (DataW H) → Nat
  | [] => 0
  | d :: r => uptoBulk d + uptoBulkAll r
def uptoBulkEntries {H : Type} : List (Lit × DataW H) → Nat
  | [] => 0
  | x :: r => uptoBulkEntry x + uptoBulkEntries r
def uptoBulkEntry {H : Type} : Lit × DataW H → Nat
  | (.string bytes, d) => bytes.length + uptoBulk d + 1
  | (_, d) => uptoBulk d + 1
 end
def uptoSmall : (H : Type) → List (DataW H) → Bool := fun _ ds => decide (uptoBulkAll ds ≤ 1048576)
def OpenSpec.upto (s : _root_.Go.ChangeSpec) : _root_.Go.OpenSpec := { _root_.Go.OpenSpec.ofChange s with cond := some uptoSmall }

/-- 'keelblocklaw06.BerthLines', WHERE WHAT IT READS IS OF BULK AT MOST 1048576: true; the input reads as it did. -/
def berthLinesUptoRow : OpenClaim := { program := "ytlpbfdpgchbhoaa", sum := "a239c692e3580ae5754d32bc8507fd280fad79557c5f7bed84b4f8fe1f91920b", func := "keelblock/keelblocklaw06.BerthLines", spec := "berthLines", unfollowed := true, recurses := true, apart := false, narrowed := true }
def BerthLinesUptoSaid : Prop := berthLinesUptoRow.holds Try.pinned (OpenSpec.upto berthLinesSpec)

/-- 'keelblocklaw06.BerthDocks', WHERE WHAT IT READS IS OF BULK AT MOST 1048576: true; the input reads as it did. -/
def berthDocksUptoRow : OpenClaim := { program := "ytlpbfdpgchbhoaa", sum := "a239c692e3580ae5754d32bc8507fd280fad79557c5f7bed84b4f8fe1f91920b", func := "keelblock/keelblocklaw06.BerthDocks", spec := "berthDocks", unfollowed := true, recurses := true, apart := false, narrowed := true }
def BerthDocksUptoSaid : Prop := berthDocksUptoRow.holds Try.pinned (OpenSpec.upto berthDocksSpec)

/-- 'keelblocklaw06.BerthHoists', WHERE WHAT IT READS IS OF BULK AT MOST 1048576: true; the input reads as it did. -/
def berthHoistsUptoRow : OpenClaim := { program := "ytlpbfdpgchbhoaa", sum := "a239c692e3580ae5754d32bc8507fd280fad79557c5f7bed84b4f8fe1f91920b", func := "keelblock/keelblocklaw06.BerthHoists", spec := "berthHoists", unfollowed := true, recurses := true, apart := false, narrowed := true }
def BerthHoistsUptoSaid : Prop := berthHoistsUptoRow.holds Try.pinned (OpenSpec.upto berthHoistsSpec)

/-- 'keelblocklaw06.BerthCrossing', WHERE WHAT IT READS IS OF BULK AT MOST 1048576: true; the input reads as it did. -/
def berthCrossingUptoRow : OpenClaim := { program := "ytlpbfdpgchbhoaa", sum := "a239c692e3580ae5754d32bc8507fd280fad79557c5f7bed84b4f8fe1f91920b", func := "keelblock/keelblocklaw06.BerthCrossing", spec := "berthCrossing", unfollowed := true, recurses := true, apart := false, narrowed := true }
def BerthCrossingUptoSaid : Prop := berthCrossingUptoRow.holds Try.pinned (OpenSpec.upto berthCrossingSpec)

/-- 'keelblocklaw06.BerthPlans', WHERE WHAT IT READS IS OF BULK AT MOST 1048576: true; the input reads as it did. -/
def berthPlansUptoRow : OpenClaim := { program := "ytlpbfdpgchbhoaa", sum := "a239c692e3580ae5754d32bc8507fd280fad79557c5f7bed84b4f8fe1f91920b", func := "keelblock/keelblocklaw06.BerthPlans", spec := "berthPlans", unfollowed := true, recurses := true, apart := false, narrowed := true }
def BerthPlansUptoSaid : Prop := berthPlansUptoRow.holds Try.pinned (OpenSpec.upto berthPlansSpec)

/-- 'keelblocklaw06.BerthLeaves', WHERE WHAT IT READS IS OF BULK AT MOST 1048576: true; the input reads as it did. -/
def berthLeavesUptoRow : OpenClaim := { program := "ytlpbfdpgchbhoaa", sum := "a239c692e3580ae5754d32bc8507fd280fad79557c5f7bed84b4f8fe1f91920b", func := "keelblock/keelblocklaw06.BerthLeaves", spec := "berthLeaves", unfollowed := true, recurses := true, apart := false, narrowed := true }
def BerthLeavesUptoSaid : Prop := berthLeavesUptoRow.holds Try.pinned (OpenSpec.upto berthLeavesSpec)

end Rows
end Go.Proofs.Ytlpbfdpgchbhoaa
