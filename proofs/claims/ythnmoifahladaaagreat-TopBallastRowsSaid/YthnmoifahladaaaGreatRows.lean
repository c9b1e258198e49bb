/-
  No cell of these rows narrows 'for every input' (looked for: loops, veiled, ifaces, maps, wideKeys, modest, calm, conditions, laid).
  DERIVED. THE GIVEN ROWS OF THIS SEAT. 2 by the template 'for every input the law returns true; each argument reads behind the call as it read before'; 0 by the template 'total and deterministic' (their statements: YthnmoifahladaaaGreatTotals.lean).
  GIVEN WITH THE SEED: the statements are not yours to turn. If you find one false, say at which input.
  Laid BY PROGRAM, IN A SANDBOX (cutbox-rows.mjs): the forced cells as the released guide's own fill.sh prints them over the translation 9dc61f8ad5806d36… (all of the seat's roots in one cut). By AI agents, Wed Nov 11 2026. No macro, syntax, notation, axiom, sorry.
-/
import Derived.Test.YthnmoifahladaaaGreatChecked
import GoSem.Claim
import GoSem.ClaimJoined
import GoSem.ClaimMapViews
import Derived.JoinedTies
import Derived.KernelRfl
namespace Go.Proofs.YthnmoifahladaaaGreat
/- THE CELL 'sum', in the pinned program and in every row, IS THE sha256 OF THE DUMP (.gsa) THAT YthnmoifahladaaaGreatProg.lean LOADS. Nothing in Lean hashes anything: it is a label: what it is worth is what the hold of that sum in a sandbox is worth. -/
noncomputable def Tryz.pinned : Pinned := { name := "ythnmoifahladaaagreat", sum := "9dc61f8ad5806d363bd0a01b5c95a6b16dc60aef0c7ee5116c2552dbd98214e7", checked := Tryz.checked }
namespace Rows
def none {H : Type} : Left H := { results := [], args := [] }

/-- 'keelblocklaw05.WaterBallast': WHATEVER THE INPUT: true; the input reads as it did. -/
def waterBallastSpec : ChangeSpec := { name := "waterBallast", fn := fun _ => fun
  | [d1, d2, d3] => { results := [.lit (.bool true)], args := [d1, d2, d3] }
  | _ => none }
def waterBallastRow : OpenClaim := { program := "ythnmoifahladaaagreat", sum := "9dc61f8ad5806d363bd0a01b5c95a6b16dc60aef0c7ee5116c2552dbd98214e7", func := "keelblock/keelblocklaw05.WaterBallast", spec := "waterBallast", unfollowed := true, recurses := true, plainKeys := false, apart := false }
def WaterBallastSaid : Prop := waterBallastRow.holds Tryz.pinned (OpenSpec.ofChange waterBallastSpec)

/-- ITS FALSE NEIGHBOUR: 'it returns false'. Refute it at one input. -/
def waterBallastWrong : ChangeSpec := { name := "waterBallast", fn := fun _ => fun
  | [d1, d2, d3] => { results := [.lit (.bool false)], args := [d1, d2, d3] }
  | _ => none }
def WaterBallastWrongFalsely : Prop := waterBallastRow.holds Tryz.pinned (OpenSpec.ofChange waterBallastWrong)

/-- 'keelblocktop.TopBallastRows': WHATEVER THE INPUT: true; the input reads as it did. -/
def topBallastRowsSpec : ChangeSpec := { name := "topBallastRows", fn := fun _ => fun
  | [d] => { results := [.lit (.bool true)], args := [d] }
  | _ => none }
def topBallastRowsRow : OpenClaim := { program := "ythnmoifahladaaagreat", sum := "9dc61f8ad5806d363bd0a01b5c95a6b16dc60aef0c7ee5116c2552dbd98214e7", func := "keelblock/keelblocktop.TopBallastRows", spec := "topBallastRows", unfollowed := true, recurses := true, plainKeys := false, apart := false }
def TopBallastRowsSaid : Prop := topBallastRowsRow.holds Tryz.pinned (OpenSpec.ofChange topBallastRowsSpec)

/-- ITS FALSE NEIGHBOUR: 'it returns false'. Refute it at one input. -/
def topBallastRowsWrong : ChangeSpec := { name := "topBallastRows", fn := fun _ => fun
  | [d] => { results := [.lit (.bool false)], args := [d] }
  | _ => none }
def TopBallastRowsWrongFalsely : Prop := topBallastRowsRow.holds Tryz.pinned (OpenSpec.ofChange topBallastRowsWrong)

/- THE SECOND FORM. 'bulk': how many values and letters a reading holds, each counted each time it is reached (what is shared counts as often as it is met; a slice's spare places count too). A statement '..UptoSaid' is the law's where the arguments, and the package variables that the reading takes, are together of bulk at most 1048576: NARROWER than '..Said'. Prove '..Said' where nothing that the law and all that it calls make is longer than what came in: it says more and counts as full. Else prove '..UptoSaid'. A law counts once. -/
mutual
def uptoBulk {H : Type} : DataW H → Nat
  | .lit (.string bytes) => bytes.length + 1
  | .lit _ => 1
  | .nil => 1
  | .ptr d => uptoBulk d + 1
  | .slice elems spare => uptoBulkAll elems + uptoBulkAll spare + 1
  | .agg parts => uptoBulkAll parts + 1
  | .iface _ d => uptoBulk d + 1
  | .map entries => uptoBulkEntries entries + 1
  | .held _ => 1
def uptoBulkAll {H : Type} : List (DataW H) → Nat
  | [] => 0
  | d :: r => uptoBulk d + uptoBulkAll r
def uptoBulkEntries {H : Type} : List (Lit × DataW H) → Nat
  | [] => 0
  | x :: r => uptoBulkEntry x + uptoBulkEntries r
def uptoBulkEntry {H : Type} : Lit × DataW H → Nat
  | (.string bytes, d) => bytes.length + uptoBulk d + 1
  | (_, d) => uptoBulk d + 1
 end
def uptoSmall : (H : Type) → List (DataW H) → Bool := fun _ ds => decide (uptoBulkAll ds ≤ 1048576)
def OpenSpec.upto (s : _root_.Go.ChangeSpec) : _root_.Go.OpenSpec := { _root_.Go.OpenSpec.ofChange s with cond := some uptoSmall }

/-- 'keelblocklaw05.WaterBallast', WHERE WHAT IT READS IS OF BULK AT MOST 1048576: true; the input reads as it did. -/
def waterBallastUptoRow : OpenClaim := { program := "ythnmoifahladaaagreat", sum := "9dc61f8ad5806d363bd0a01b5c95a6b16dc60aef0c7ee5116c2552dbd98214e7", func := "keelblock/keelblocklaw05.WaterBallast", spec := "waterBallast", unfollowed := true, recurses := true, plainKeys := false, apart := false, narrowed := true }
def WaterBallastUptoSaid : Prop := waterBallastUptoRow.holds Tryz.pinned (OpenSpec.upto waterBallastSpec)

/-- 'keelblocktop.TopBallastRows', WHERE WHAT IT READS IS OF BULK AT MOST 1048576: true; the input reads as it did. -/
def topBallastRowsUptoRow : OpenClaim := { program := "ythnmoifahladaaagreat", sum := "9dc61f8ad5806d363bd0a01b5c95a6b16dc60aef0c7ee5116c2552dbd98214e7", func := "keelblock/keelblocktop.TopBallastRows", spec := "topBallastRows", unfollowed := true, recurses := true, plainKeys := false, apart := false, narrowed := true }
def TopBallastRowsUptoSaid : Prop := topBallastRowsUptoRow.holds Tryz.pinned (OpenSpec.upto topBallastRowsSpec)

end Rows
end Go.Proofs.YthnmoifahladaaaGreat
