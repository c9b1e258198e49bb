/-
  No cell of these rows narrows 'for every input' (looked for: loops, veiled, ifaces, maps, wideKeys, modest, calm, conditions, laid).
  DERIVED. THE GIVEN ROWS OF THIS SEAT. 5 by the template 'for every input the law returns true; each argument reads behind the call as it read before'; 0 by the template 'total and deterministic' (their statements: YtnhkjlebcdakkaaTotals.lean).
  GIVEN WITH THE SEED: the statements are not yours to turn. If you find one false, say at which input.
  Laid BY PROGRAM, IN A SANDBOX (cutbox-rows.mjs): the forced cells as the released guide's own fill.sh prints them over the translation 9bca34412f945fd2… (all of the seat's roots in one cut). By AI agents, Wed Nov 11 2026. No macro, syntax, notation, axiom, sorry.
-/
import Derived.Test.YtnhkjlebcdakkaaChecked
import GoSem.Claim
import GoSem.ClaimJoined
import GoSem.ClaimMapViews
import Derived.JoinedTies
import Derived.KernelRfl
namespace Go.Proofs.Ytnhkjlebcdakkaa
/- THE CELL 'sum', in the pinned program and in every row, IS THE sha256 OF THE DUMP (.gsa) THAT YtnhkjlebcdakkaaProg.lean LOADS. Nothing in Lean hashes anything: it is a label: what it is worth is what the hold of that sum in a sandbox is worth. -/
noncomputable def Try.pinned : Pinned := { name := "ytnhkjlebcdakkaa", sum := "9bca34412f945fd2fe01cf703b516eff0836e7319989a8b649a582836083d8f2", checked := Try.checked }
namespace Rows
def none {H : Type} : Left H := { results := [], args := [] }

/-- 'keelblocklaw06.BerthPlaces': WHATEVER THE INPUT: true; the input reads as it did. -/
def berthPlacesSpec : ChangeSpec := { name := "berthPlaces", fn := fun _ => fun
  | [d1, d2] => { results := [.lit (.bool true)], args := [d1, d2] }
  | _ => none }
def berthPlacesRow : OpenClaim := { program := "ytnhkjlebcdakkaa", sum := "9bca34412f945fd2fe01cf703b516eff0836e7319989a8b649a582836083d8f2", func := "keelblock/keelblocklaw06.BerthPlaces", spec := "berthPlaces", unfollowed := true, recurses := true, apart := false }
def BerthPlacesSaid : Prop := berthPlacesRow.holds Try.pinned (OpenSpec.ofChange berthPlacesSpec)

/-- ITS FALSE NEIGHBOUR: 'it returns false'. Refute it at one input. -/
def berthPlacesWrong : ChangeSpec := { name := "berthPlaces", fn := fun _ => fun
  | [d1, d2] => { results := [.lit (.bool false)], args := [d1, d2] }
  | _ => none }
def BerthPlacesWrongFalsely : Prop := berthPlacesRow.holds Try.pinned (OpenSpec.ofChange berthPlacesWrong)

/-- 'keelblocklaw06.BerthAll': WHATEVER THE INPUT: true; the input reads as it did. -/
def berthAllSpec : ChangeSpec := { name := "berthAll", fn := fun _ => fun
  | [d1, d2, d3] => { results := [.lit (.bool true)], args := [d1, d2, d3] }
  | _ => none }
def berthAllRow : OpenClaim := { program := "ytnhkjlebcdakkaa", sum := "9bca34412f945fd2fe01cf703b516eff0836e7319989a8b649a582836083d8f2", func := "keelblock/keelblocklaw06.BerthAll", spec := "berthAll", unfollowed := true, recurses := true, apart := false }
def BerthAllSaid : Prop := berthAllRow.holds Try.pinned (OpenSpec.ofChange berthAllSpec)

/-- ITS FALSE NEIGHBOUR: 'it returns false'. Refute it at one input. -/
def berthAllWrong : ChangeSpec := { name := "berthAll", fn := fun _ => fun
  | [d1, d2, d3] => { results := [.lit (.bool false)], args := [d1, d2, d3] }
  | _ => none }
def BerthAllWrongFalsely : Prop := berthAllRow.holds Try.pinned (OpenSpec.ofChange berthAllWrong)

/-- 'keelblocklaw06.BerthBest': WHATEVER THE INPUT: true; the input reads as it did. -/
def berthBestSpec : ChangeSpec := { name := "berthBest", fn := fun _ => fun
  | [d] => { results := [.lit (.bool true)], args := [d] }
  | _ => none }
def berthBestRow : OpenClaim := { program := "ytnhkjlebcdakkaa", sum := "9bca34412f945fd2fe01cf703b516eff0836e7319989a8b649a582836083d8f2", func := "keelblock/keelblocklaw06.BerthBest", spec := "berthBest", unfollowed := true, recurses := true, apart := false }
def BerthBestSaid : Prop := berthBestRow.holds Try.pinned (OpenSpec.ofChange berthBestSpec)

/-- ITS FALSE NEIGHBOUR: 'it returns false'. Refute it at one input. -/
def berthBestWrong : ChangeSpec := { name := "berthBest", fn := fun _ => fun
  | [d] => { results := [.lit (.bool false)], args := [d] }
  | _ => none }
def BerthBestWrongFalsely : Prop := berthBestRow.holds Try.pinned (OpenSpec.ofChange berthBestWrong)

/-- 'keelblocklaw06.BerthOptimal': WHATEVER THE INPUT: true; the input reads as it did. -/
def berthOptimalSpec : ChangeSpec := { name := "berthOptimal", fn := fun _ => fun
  | [d1, d2] => { results := [.lit (.bool true)], args := [d1, d2] }
  | _ => none }
def berthOptimalRow : OpenClaim := { program := "ytnhkjlebcdakkaa", sum := "9bca34412f945fd2fe01cf703b516eff0836e7319989a8b649a582836083d8f2", func := "keelblock/keelblocklaw06.BerthOptimal", spec := "berthOptimal", unfollowed := true, recurses := true, apart := false }
def BerthOptimalSaid : Prop := berthOptimalRow.holds Try.pinned (OpenSpec.ofChange berthOptimalSpec)

/-- ITS FALSE NEIGHBOUR: 'it returns false'. Refute it at one input. -/
def berthOptimalWrong : ChangeSpec := { name := "berthOptimal", fn := fun _ => fun
  | [d1, d2] => { results := [.lit (.bool false)], args := [d1, d2] }
  | _ => none }
def BerthOptimalWrongFalsely : Prop := berthOptimalRow.holds Try.pinned (OpenSpec.ofChange berthOptimalWrong)

/-- 'keelblocktop.TopBestDocking': WHATEVER THE INPUT: true; the input reads as it did. -/
def topBestDockingSpec : ChangeSpec := { name := "topBestDocking", fn := fun _ => fun
  | [d] => { results := [.lit (.bool true)], args := [d] }
  | _ => none }
def topBestDockingRow : OpenClaim := { program := "ytnhkjlebcdakkaa", sum := "9bca34412f945fd2fe01cf703b516eff0836e7319989a8b649a582836083d8f2", func := "keelblock/keelblocktop.TopBestDocking", spec := "topBestDocking", unfollowed := true, recurses := true, apart := false }
def TopBestDockingSaid : Prop := topBestDockingRow.holds Try.pinned (OpenSpec.ofChange topBestDockingSpec)

/-- ITS FALSE NEIGHBOUR: 'it returns false'. Refute it at one input. -/
def topBestDockingWrong : ChangeSpec := { name := "topBestDocking", fn := fun _ => fun
  | [d] => { results := [.lit (.bool false)], args := [d] }
  | _ => none }
def TopBestDockingWrongFalsely : Prop := topBestDockingRow.holds Try.pinned (OpenSpec.ofChange topBestDockingWrong)

/- THE SECOND FORM. 'bulk': how many values and letters a reading holds, each counted each time it is reached (what is shared counts as often as it is met; a slice's spare places count too). A statement '..UptoSaid' is the law's where the arguments, and the package variables that the reading takes, are together of bulk at most 1048576: NARROWER than '..Said'. Prove '..Said' where nothing that the law and all that it calls make is longer than what came in: it says more and counts as full. Else prove '..UptoSaid'. A law counts once. -/
mutual
def uptoBulk {H : Type} : DataW H → Nat
  | .lit (.string bytes) => bytes.length + 1
  | .lit _ => 1
  | .nil => 1
  | .ptr d => uptoBulk d + 1
  | .slice elems spare => uptoBulkAll elems + uptoBulkAll spare + 1
  | .agg parts => uptoBulkAll parts + 1
  | .iface _ d => uptoBulk d + 1
  | .map entries => uptoBulkEntries entries + 1
  | .held _ => 1
def uptoBulkAll {H : Type} : List (DataW H) → Nat
  | [] => 0
  | d :: r => uptoBulk d + uptoBulkAll r
def uptoBulkEntries {H : Type} : List (Lit × DataW H) → Nat
  | [] => 0
  | x :: r => uptoBulkEntry x + uptoBulkEntries r
def uptoBulkEntry {H : Type} : Lit × DataW H → Nat
  | (.string bytes, d) => bytes.length + uptoBulk d + 1
  | (_, d) => uptoBulk d + 1
 end
def uptoSmall : (H : Type) → List (DataW H) → Bool := fun _ ds => decide (uptoBulkAll ds ≤ 1048576)
def OpenSpec.upto (s : _root_.Go.ChangeSpec) : _root_.Go.OpenSpec := { _root_.Go.OpenSpec.ofChange s with cond := some uptoSmall }

/-- 'keelblocklaw06.BerthPlaces', WHERE WHAT IT READS IS OF BULK AT MOST 1048576: true; the input reads as it did. -/
def berthPlacesUptoRow : OpenClaim := { program := "ytnhkjlebcdakkaa", sum := "9bca34412f945fd2fe01cf703b516eff0836e7319989a8b649a582836083d8f2", func := "keelblock/keelblocklaw06.BerthPlaces", spec := "berthPlaces", unfollowed := true, recurses := true, apart := false, narrowed := true }
def BerthPlacesUptoSaid : Prop := berthPlacesUptoRow.holds Try.pinned (OpenSpec.upto berthPlacesSpec)

/-- 'keelblocklaw06.BerthAll', WHERE WHAT IT READS IS OF BULK AT MOST 1048576: true; the input reads as it did. -/
def berthAllUptoRow : OpenClaim := { program := "ytnhkjlebcdakkaa", sum := "9bca34412f945fd2fe01cf703b516eff0836e7319989a8b649a582836083d8f2", func := "keelblock/keelblocklaw06.BerthAll", spec := "berthAll", unfollowed := true, recurses := true, apart := false, narrowed := true }
def BerthAllUptoSaid : Prop := berthAllUptoRow.holds Try.pinned (OpenSpec.upto berthAllSpec)

/-- 'keelblocklaw06.BerthBest', WHERE WHAT IT READS IS OF BULK AT MOST 1048576: true; the input reads as it did. -/
def berthBestUptoRow : OpenClaim := { program := "ytnhkjlebcdakkaa", sum := "9bca34412f945fd2fe01cf703b516eff0836e7319989a8b649a582836083d8f2", func := "keelblock/keelblocklaw06.BerthBest", spec := "berthBest", unfollowed := true, recurses := true, apart := false, narrowed := true }
def BerthBestUptoSaid : Prop := berthBestUptoRow.holds Try.pinned (OpenSpec.upto berthBestSpec)

/-- 'keelblocklaw06.BerthOptimal', WHERE WHAT IT READS IS OF BULK AT MOST 1048576: true; the input reads as it did. -/
def berthOptimalUptoRow : OpenClaim := { program := "ytnhkjlebcdakkaa", sum := "9bca34412f945fd2fe01cf703b516eff0836e7319989a8b649a582836083d8f2", func := "keelblock/keelblocklaw06.BerthOptimal", spec := "berthOptimal", unfollowed := true, recurses := true, apart := false, narrowed := true }
def BerthOptimalUptoSaid : Prop := berthOptimalUptoRow.holds Try.pinned (OpenSpec.upto berthOptimalSpec)

/-- 'keelblocktop.TopBestDocking', WHERE WHAT IT READS IS OF BULK AT MOST 1048576: true; the input reads as it did. -/
def topBestDockingUptoRow : OpenClaim := { program := "ytnhkjlebcdakkaa", sum := "9bca34412f945fd2fe01cf703b516eff0836e7319989a8b649a582836083d8f2", func := "keelblock/keelblocktop.TopBestDocking", spec := "topBestDocking", unfollowed := true, recurses := true, apart := false, narrowed := true }
def TopBestDockingUptoSaid : Prop := topBestDockingUptoRow.holds Try.pinned (OpenSpec.upto topBestDockingSpec)

end Rows
end Go.Proofs.Ytnhkjlebcdakkaa
