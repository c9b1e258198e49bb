/-
  No cell of these rows narrows 'for every input' (looked for: loops, veiled, ifaces, maps, wideKeys, modest, calm, conditions, laid).
  DERIVED. THE GIVEN ROWS OF THIS SEAT. 3 by the template 'for every input the law returns true; each argument reads behind the call as it read before'; 0 by the template 'total and deterministic' (their statements: YthiklnjjabfjlaaTotals.lean).
  GIVEN WITH THE SEED: the statements are not yours to turn. If you find one false, say at which input.
  Laid BY PROGRAM, IN A SANDBOX (cutbox-rows.mjs): the forced cells as the released guide's own fill.sh prints them over the translation a408b7393a162ecd… (all of the seat's roots in one cut). By AI agents, Wed Nov 11 2026. No macro, syntax, notation, axiom, sorry.
-/
import Derived.Test.YthiklnjjabfjlaaChecked
import GoSem.Claim
import GoSem.ClaimJoined
import GoSem.ClaimMapViews
import Derived.JoinedTies
import Derived.KernelRfl
namespace Go.Proofs.Ythiklnjjabfjlaa
/- THE CELL 'sum', in the pinned program and in every row, IS THE sha256 OF THE DUMP (.gsa) THAT YthiklnjjabfjlaaProg.lean LOADS. Nothing in Lean hashes anything: it is a label: what it is worth is what the hold of that sum in a sandbox is worth. -/
noncomputable def Try.pinned : Pinned := { name := "ythiklnjjabfjlaa", sum := "a408b7393a162ecdf1b7ca84f19baefd73a57f1af47d68e11063cb1e8df4eb71", checked := Try.checked }
namespace Rows
def none {H : Type} : Left H := { results := [], args := [] }

/-- 'keelblocklaw05.WaterWindows': WHATEVER THE INPUT: true; the input reads as it did. -/
def waterWindowsSpec : ChangeSpec := { name := "waterWindows", fn := fun _ => fun
  | [d1, d2, d3] => { results := [.lit (.bool true)], args := [d1, d2, d3] }
  | _ => none }
def waterWindowsRow : OpenClaim := { program := "ythiklnjjabfjlaa", sum := "a408b7393a162ecdf1b7ca84f19baefd73a57f1af47d68e11063cb1e8df4eb71", func := "keelblock/keelblocklaw05.WaterWindows", spec := "waterWindows", unfollowed := true, recurses := true, apart := false }
def WaterWindowsSaid : Prop := waterWindowsRow.holds Try.pinned (OpenSpec.ofChange waterWindowsSpec)

/-- ITS FALSE NEIGHBOUR: 'it returns false'. Refute it at one input. -/
def waterWindowsWrong : ChangeSpec := { name := "waterWindows", fn := fun _ => fun
  | [d1, d2, d3] => { results := [.lit (.bool false)], args := [d1, d2, d3] }
  | _ => none }
def WaterWindowsWrongFalsely : Prop := waterWindowsRow.holds Try.pinned (OpenSpec.ofChange waterWindowsWrong)

/-- 'keelblocklaw06.BerthTides': WHATEVER THE INPUT: true; the input reads as it did. -/
def berthTidesSpec : ChangeSpec := { name := "berthTides", fn := fun _ => fun
  | [d1, d2, d3] => { results := [.lit (.bool true)], args := [d1, d2, d3] }
  | _ => none }
def berthTidesRow : OpenClaim := { program := "ythiklnjjabfjlaa", sum := "a408b7393a162ecdf1b7ca84f19baefd73a57f1af47d68e11063cb1e8df4eb71", func := "keelblock/keelblocklaw06.BerthTides", spec := "berthTides", unfollowed := true, recurses := true, apart := false }
def BerthTidesSaid : Prop := berthTidesRow.holds Try.pinned (OpenSpec.ofChange berthTidesSpec)

/-- ITS FALSE NEIGHBOUR: 'it returns false'. Refute it at one input. -/
def berthTidesWrong : ChangeSpec := { name := "berthTides", fn := fun _ => fun
  | [d1, d2, d3] => { results := [.lit (.bool false)], args := [d1, d2, d3] }
  | _ => none }
def BerthTidesWrongFalsely : Prop := berthTidesRow.holds Try.pinned (OpenSpec.ofChange berthTidesWrong)

/-- 'keelblocklaw06.BerthStays': WHATEVER THE INPUT: true; the input reads as it did. -/
def berthStaysSpec : ChangeSpec := { name := "berthStays", fn := fun _ => fun
  | [d1, d2] => { results := [.lit (.bool true)], args := [d1, d2] }
  | _ => none }
def berthStaysRow : OpenClaim := { program := "ythiklnjjabfjlaa", sum := "a408b7393a162ecdf1b7ca84f19baefd73a57f1af47d68e11063cb1e8df4eb71", func := "keelblock/keelblocklaw06.BerthStays", spec := "berthStays", unfollowed := true, recurses := true, apart := false }
def BerthStaysSaid : Prop := berthStaysRow.holds Try.pinned (OpenSpec.ofChange berthStaysSpec)

/-- ITS FALSE NEIGHBOUR: 'it returns false'. Refute it at one input. -/
def berthStaysWrong : ChangeSpec := { name := "berthStays", fn := fun _ => fun
  | [d1, d2] => { results := [.lit (.bool false)], args := [d1, d2] }
  | _ => none }
def BerthStaysWrongFalsely : Prop := berthStaysRow.holds Try.pinned (OpenSpec.ofChange berthStaysWrong)

/- THE SECOND FORM. 'bulk': how many values and letters a reading holds, each counted each time it is reached (what is shared counts as often as it is met; a slice's spare places count too). A statement '..UptoSaid' is the law's where the arguments, and the package variables that the reading takes, are together of bulk at most 1048576: NARROWER than '..Said'. Prove '..Said' where nothing that the law and all that it calls make is longer than what came in: it says more and counts as full. Else prove '..UptoSaid'. A law counts once. -/
mutual
def uptoBulk {H : Type} : DataW H → Nat
  | .lit (.string bytes) => bytes.length + 1
  | .lit _ => 1
  | .nil => 1
  | .ptr d => uptoBulk d + 1
  | .slice elems spare => uptoBulkAll elems + uptoBulkAll spare + 1
  | .agg parts => uptoBulkAll parts + 1
  | .iface _ d => uptoBulk d + 1
  | .map entries => uptoBulkEntries entries + 1
  | .held _ => 1
def uptoBulkAll {H : Type} : List (DataW H) → Nat
  | [] => 0
  | d :: r => uptoBulk d + uptoBulkAll r
def uptoBulkEntries {H : Type} : List (Lit × DataW H) → Nat
  | [] => 0
  | x :: r => uptoBulkEntry x + uptoBulkEntries r
def uptoBulkEntry {H : Type} : Lit × DataW H → Nat
  | (.string bytes, d) => bytes.length + uptoBulk d + 1
  | (_, d) => uptoBulk d + 1
 end
def uptoSmall : (H : Type) → List (DataW H) → Bool := fun _ ds => decide (uptoBulkAll ds ≤ 1048576)
def OpenSpec.upto (s : _root_.Go.ChangeSpec) : _root_.Go.OpenSpec := { _root_.Go.OpenSpec.ofChange s with cond := some uptoSmall }

/-- 'keelblocklaw05.WaterWindows', WHERE WHAT IT READS IS OF BULK AT MOST 1048576: true; the input reads as it did. -/
def waterWindowsUptoRow : OpenClaim := { program := "ythiklnjjabfjlaa", sum := "a408b7393a162ecdf1b7ca84f19baefd73a57f1af47d68e11063cb1e8df4eb71", func := "keelblock/keelblocklaw05.WaterWindows", spec := "waterWindows", unfollowed := true, recurses := true, apart := false, narrowed := true }
def WaterWindowsUptoSaid : Prop := waterWindowsUptoRow.holds Try.pinned (OpenSpec.upto waterWindowsSpec)

/-- 'keelblocklaw06.BerthTides', WHERE WHAT IT READS IS OF BULK AT MOST 1048576: true; the input reads as it did. -/
def berthTidesUptoRow : OpenClaim := { program := "ythiklnjjabfjlaa", sum := "a408b7393a162ecdf1b7ca84f19baefd73a57f1af47d68e11063cb1e8df4eb71", func := "keelblock/keelblocklaw06.BerthTides", spec := "berthTides", unfollowed := true, recurses := true, apart := false, narrowed := true }
def BerthTidesUptoSaid : Prop := berthTidesUptoRow.holds Try.pinned (OpenSpec.upto berthTidesSpec)

/-- 'keelblocklaw06.BerthStays', WHERE WHAT IT READS IS OF BULK AT MOST 1048576: true; the input reads as it did. -/
def berthStaysUptoRow : OpenClaim := { program := "ythiklnjjabfjlaa", sum := "a408b7393a162ecdf1b7ca84f19baefd73a57f1af47d68e11063cb1e8df4eb71", func := "keelblock/keelblocklaw06.BerthStays", spec := "berthStays", unfollowed := true, recurses := true, apart := false, narrowed := true }
def BerthStaysUptoSaid : Prop := berthStaysUptoRow.holds Try.pinned (OpenSpec.upto berthStaysSpec)

end Rows
end Go.Proofs.Ythiklnjjabfjlaa
