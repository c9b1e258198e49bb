/-
  No cell of these rows narrows 'for every input' (looked for: loops, veiled, ifaces, maps, wideKeys, modest, calm, conditions, laid).
  DERIVED. THE GIVEN ROWS OF THIS SEAT. 2 by the template 'for every input the law returns true; each argument reads behind the call as it read before'; 0 by the template 'total and deterministic' (their statements: YtakkcneiophofaaGreatTotals.lean).
  GIVEN WITH THE SEED: the statements are not yours to turn. If you find one false, say at which input.
  Laid BY PROGRAM, IN A SANDBOX (cutbox-rows.mjs): the forced cells as the released guide's own fill.sh prints them over the translation d3317b2af2392b7d… (all of the seat's roots in one cut). By AI agents, Wed Nov 11 2026. No macro, syntax, notation, axiom, sorry.
-/
import Derived.Test.YtakkcneiophofaaGreatChecked
import GoSem.Claim
import GoSem.ClaimJoined
import GoSem.ClaimMapViews
import Derived.JoinedTies
import Derived.KernelRfl
namespace Go.Proofs.YtakkcneiophofaaGreat
/- THE CELL 'sum', in the pinned program and in every row, IS THE sha256 OF THE DUMP (.gsa) THAT YtakkcneiophofaaGreatProg.lean LOADS. Nothing in Lean hashes anything: it is a label: what it is worth is what the hold of that sum in a sandbox is worth. -/
noncomputable def Tryz.pinned : Pinned := { name := "ytakkcneiophofaagreat", sum := "d3317b2af2392b7d22bb8e78afa822b97d7b6923f70987fd6255385183e8073e", checked := Tryz.checked }
namespace Rows
def none {H : Type} : Left H := { results := [], args := [] }

/-- 'keelblocklaw01.ExactCores': WHATEVER THE INPUT: true; the input reads as it did. -/
def exactCoresSpec : ChangeSpec := { name := "exactCores", fn := fun _ => fun
  | [d] => { results := [.lit (.bool true)], args := [d] }
  | _ => none }
def exactCoresRow : OpenClaim := { program := "ytakkcneiophofaagreat", sum := "d3317b2af2392b7d22bb8e78afa822b97d7b6923f70987fd6255385183e8073e", func := "keelblock/keelblocklaw01.ExactCores", spec := "exactCores", unfollowed := true, recurses := true, apart := false }
def ExactCoresSaid : Prop := exactCoresRow.holds Tryz.pinned (OpenSpec.ofChange exactCoresSpec)

/-- ITS FALSE NEIGHBOUR: 'it returns false'. Refute it at one input. -/
def exactCoresWrong : ChangeSpec := { name := "exactCores", fn := fun _ => fun
  | [d] => { results := [.lit (.bool false)], args := [d] }
  | _ => none }
def ExactCoresWrongFalsely : Prop := exactCoresRow.holds Tryz.pinned (OpenSpec.ofChange exactCoresWrong)

/-- 'keelblocklaw01.ExactIrreducible': WHATEVER THE INPUT: true; the input reads as it did. -/
def exactIrreducibleSpec : ChangeSpec := { name := "exactIrreducible", fn := fun _ => fun
  | [d] => { results := [.lit (.bool true)], args := [d] }
  | _ => none }
def exactIrreducibleRow : OpenClaim := { program := "ytakkcneiophofaagreat", sum := "d3317b2af2392b7d22bb8e78afa822b97d7b6923f70987fd6255385183e8073e", func := "keelblock/keelblocklaw01.ExactIrreducible", spec := "exactIrreducible", unfollowed := true, recurses := true, apart := false }
def ExactIrreducibleSaid : Prop := exactIrreducibleRow.holds Tryz.pinned (OpenSpec.ofChange exactIrreducibleSpec)

/-- ITS FALSE NEIGHBOUR: 'it returns false'. Refute it at one input. -/
def exactIrreducibleWrong : ChangeSpec := { name := "exactIrreducible", fn := fun _ => fun
  | [d] => { results := [.lit (.bool false)], args := [d] }
  | _ => none }
def ExactIrreducibleWrongFalsely : Prop := exactIrreducibleRow.holds Tryz.pinned (OpenSpec.ofChange exactIrreducibleWrong)

/- THE SECOND FORM. 'bulk': how many values and letters a reading holds, each counted each time it is reached (what is shared counts as often as it is met; a slice's spare places count too). A statement '..UptoSaid' is the law's where the arguments, and the package variables that the reading takes, are together of bulk at most 1048576: NARROWER than '..Said'. Prove '..Said' where nothing that the law and all that it calls make is longer than what came in: it says more and counts as full. Else prove '..UptoSaid'. A law counts once. -/
mutual
def uptoBulk {H : Type} : DataW H → Nat
  | .lit (.string bytes) => bytes.length + 1
  | .lit _ => 1
  | .nil => 1
  | .ptr d => uptoBulk d + 1
  | .slice elems spare => uptoBulkAll elems + uptoBulkAll spare + 1
  | .agg parts => uptoBulkAll parts + 1
  | .iface _ d => uptoBulk d + 1
  | .map entries => uptoBulkEntries entries + 1
  | .held _ => 1
def uptoBulkAll {H : Type} : List (DataW H) → Nat
  | [] => 0
  | d :: r => uptoBulk d + uptoBulkAll r
def uptoBulkEntries {H : Type} : List (Lit × DataW H) → Nat
  | [] => 0
  | x :: r => uptoBulkEntry x + uptoBulkEntries r
def uptoBulkEntry {H : Type} : Lit × DataW H → Nat
  | (.string bytes, d) => bytes.length + uptoBulk d + 1
  | (_, d) => uptoBulk d + 1
 end
def uptoSmall : (H : Type) → List (DataW H) → Bool := fun _ ds => decide (uptoBulkAll ds ≤ 1048576)
def OpenSpec.upto (s : _root_.Go.ChangeSpec) : _root_.Go.OpenSpec := { _root_.Go.OpenSpec.ofChange s with cond := some uptoSmall }

/-- 'keelblocklaw01.ExactCores', WHERE WHAT IT READS IS OF BULK AT MOST 1048576: true; the input reads as it did. -/
def exactCoresUptoRow : OpenClaim := { program := "ytakkcneiophofaagreat", sum := "d3317b2af2392b7d22bb8e78afa822b97d7b6923f70987fd6255385183e8073e", func := "keelblock/keelblocklaw01.ExactCores", spec := "exactCores", unfollowed := true, recurses := true, apart := false, narrowed := true }
def ExactCoresUptoSaid : Prop := exactCoresUptoRow.holds Tryz.pinned (OpenSpec.upto exactCoresSpec)

/-- 'keelblocklaw01.ExactIrreducible', WHERE WHAT IT READS IS OF BULK AT MOST 1048576: true; the input reads as it did. -/
def exactIrreducibleUptoRow : OpenClaim := { program := "ytakkcneiophofaagreat", sum := "d3317b2af2392b7d22bb8e78afa822b97d7b6923f70987fd6255385183e8073e", func := "keelblock/keelblocklaw01.ExactIrreducible", spec := "exactIrreducible", unfollowed := true, recurses := true, apart := false, narrowed := true }
def ExactIrreducibleUptoSaid : Prop := exactIrreducibleUptoRow.holds Tryz.pinned (OpenSpec.upto exactIrreducibleSpec)

end Rows
end Go.Proofs.YtakkcneiophofaaGreat
