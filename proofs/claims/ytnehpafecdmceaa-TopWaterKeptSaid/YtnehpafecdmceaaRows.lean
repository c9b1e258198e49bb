/-
  No cell of these rows narrows 'for every input' (looked for: loops, veiled, ifaces, maps, wideKeys, modest, calm, conditions, laid).
  DERIVED. THE GIVEN ROWS OF THIS SEAT. 10 by the template 'for every input the law returns true; each argument reads behind the call as it read before'; 0 by the template 'total and deterministic' (their statements: YtnehpafecdmceaaTotals.lean).
  GIVEN WITH THE SEED: the statements are not yours to turn. If you find one false, say at which input.
  Laid BY PROGRAM, IN A SANDBOX (cutbox-rows.mjs): the forced cells as the released guide's own fill.sh prints them over the translation c7eb5fc0519c80be… (all of the seat's roots in one cut). By AI agents, Wed Nov 11 2026. No macro, syntax, notation, axiom, sorry.
-/
import Derived.Test.YtnehpafecdmceaaChecked
import GoSem.Claim
import GoSem.ClaimJoined
import GoSem.ClaimMapViews
import Derived.JoinedTies
import Derived.KernelRfl
namespace Go.Proofs.Ytnehpafecdmceaa
/- THE CELL 'sum', in the pinned program and in every row, IS THE sha256 OF THE DUMP (.gsa) THAT YtnehpafecdmceaaProg.lean LOADS. Nothing in Lean hashes anything: it is a label: what it is worth is what the hold of that sum in a sandbox is worth. -/
noncomputable def Try.pinned : Pinned := { name := "ytnehpafecdmceaa", sum := "c7eb5fc0519c80beaa77f671a105bbc4f57697d258de39ede9ca8f92fc092ae4", checked := Try.checked }
namespace Rows
def none {H : Type} : Left H := { results := [], args := [] }

/-- 'keelblocklaw05.WaterBasins': WHATEVER THE INPUT: true; the input reads as it did. -/
def waterBasinsSpec : ChangeSpec := { name := "waterBasins", fn := fun _ => fun
  | [d1, d2, d3] => { results := [.lit (.bool true)], args := [d1, d2, d3] }
  | _ => none }
def waterBasinsRow : OpenClaim := { program := "ytnehpafecdmceaa", sum := "c7eb5fc0519c80beaa77f671a105bbc4f57697d258de39ede9ca8f92fc092ae4", func := "keelblock/keelblocklaw05.WaterBasins", spec := "waterBasins", apart := false }
def WaterBasinsSaid : Prop := waterBasinsRow.holds Try.pinned (OpenSpec.ofChange waterBasinsSpec)

/-- ITS FALSE NEIGHBOUR: 'it returns false'. Refute it at one input. -/
def waterBasinsWrong : ChangeSpec := { name := "waterBasins", fn := fun _ => fun
  | [d1, d2, d3] => { results := [.lit (.bool false)], args := [d1, d2, d3] }
  | _ => none }
def WaterBasinsWrongFalsely : Prop := waterBasinsRow.holds Try.pinned (OpenSpec.ofChange waterBasinsWrong)

/-- 'keelblocklaw05.WaterInverse': WHATEVER THE INPUT: true; the input reads as it did. -/
def waterInverseSpec : ChangeSpec := { name := "waterInverse", fn := fun _ => fun
  | [d1, d2, d3] => { results := [.lit (.bool true)], args := [d1, d2, d3] }
  | _ => none }
def waterInverseRow : OpenClaim := { program := "ytnehpafecdmceaa", sum := "c7eb5fc0519c80beaa77f671a105bbc4f57697d258de39ede9ca8f92fc092ae4", func := "keelblock/keelblocklaw05.WaterInverse", spec := "waterInverse", apart := false }
def WaterInverseSaid : Prop := waterInverseRow.holds Try.pinned (OpenSpec.ofChange waterInverseSpec)

/-- ITS FALSE NEIGHBOUR: 'it returns false'. Refute it at one input. -/
def waterInverseWrong : ChangeSpec := { name := "waterInverse", fn := fun _ => fun
  | [d1, d2, d3] => { results := [.lit (.bool false)], args := [d1, d2, d3] }
  | _ => none }
def WaterInverseWrongFalsely : Prop := waterInverseRow.holds Try.pinned (OpenSpec.ofChange waterInverseWrong)

/-- 'keelblocklaw05.WaterTides': WHATEVER THE INPUT: true; the input reads as it did. -/
def waterTidesSpec : ChangeSpec := { name := "waterTides", fn := fun _ => fun
  | [d1, d2] => { results := [.lit (.bool true)], args := [d1, d2] }
  | _ => none }
def waterTidesRow : OpenClaim := { program := "ytnehpafecdmceaa", sum := "c7eb5fc0519c80beaa77f671a105bbc4f57697d258de39ede9ca8f92fc092ae4", func := "keelblock/keelblocklaw05.WaterTides", spec := "waterTides", unfollowed := true, recurses := true, apart := false }
def WaterTidesSaid : Prop := waterTidesRow.holds Try.pinned (OpenSpec.ofChange waterTidesSpec)

/-- ITS FALSE NEIGHBOUR: 'it returns false'. Refute it at one input. -/
def waterTidesWrong : ChangeSpec := { name := "waterTides", fn := fun _ => fun
  | [d1, d2] => { results := [.lit (.bool false)], args := [d1, d2] }
  | _ => none }
def WaterTidesWrongFalsely : Prop := waterTidesRow.holds Try.pinned (OpenSpec.ofChange waterTidesWrong)

/-- 'keelblocklaw05.WaterNetworks': WHATEVER THE INPUT: true; the input reads as it did. -/
def waterNetworksSpec : ChangeSpec := { name := "waterNetworks", fn := fun _ => fun
  | [d1, d2, d3] => { results := [.lit (.bool true)], args := [d1, d2, d3] }
  | _ => none }
def waterNetworksRow : OpenClaim := { program := "ytnehpafecdmceaa", sum := "c7eb5fc0519c80beaa77f671a105bbc4f57697d258de39ede9ca8f92fc092ae4", func := "keelblock/keelblocklaw05.WaterNetworks", spec := "waterNetworks", unfollowed := true, recurses := true, apart := false }
def WaterNetworksSaid : Prop := waterNetworksRow.holds Try.pinned (OpenSpec.ofChange waterNetworksSpec)

/-- ITS FALSE NEIGHBOUR: 'it returns false'. Refute it at one input. -/
def waterNetworksWrong : ChangeSpec := { name := "waterNetworks", fn := fun _ => fun
  | [d1, d2, d3] => { results := [.lit (.bool false)], args := [d1, d2, d3] }
  | _ => none }
def WaterNetworksWrongFalsely : Prop := waterNetworksRow.holds Try.pinned (OpenSpec.ofChange waterNetworksWrong)

/-- 'keelblocklaw05.WaterFlows': WHATEVER THE INPUT: true; the input reads as it did. -/
def waterFlowsSpec : ChangeSpec := { name := "waterFlows", fn := fun _ => fun
  | [d1, d2] => { results := [.lit (.bool true)], args := [d1, d2] }
  | _ => none }
def waterFlowsRow : OpenClaim := { program := "ytnehpafecdmceaa", sum := "c7eb5fc0519c80beaa77f671a105bbc4f57697d258de39ede9ca8f92fc092ae4", func := "keelblock/keelblocklaw05.WaterFlows", spec := "waterFlows", unfollowed := true, recurses := true, apart := false }
def WaterFlowsSaid : Prop := waterFlowsRow.holds Try.pinned (OpenSpec.ofChange waterFlowsSpec)

/-- ITS FALSE NEIGHBOUR: 'it returns false'. Refute it at one input. -/
def waterFlowsWrong : ChangeSpec := { name := "waterFlows", fn := fun _ => fun
  | [d1, d2] => { results := [.lit (.bool false)], args := [d1, d2] }
  | _ => none }
def WaterFlowsWrongFalsely : Prop := waterFlowsRow.holds Try.pinned (OpenSpec.ofChange waterFlowsWrong)

/-- 'keelblocklaw05.WaterSteps': WHATEVER THE INPUT: true; the input reads as it did. -/
def waterStepsSpec : ChangeSpec := { name := "waterSteps", fn := fun _ => fun
  | [d1, d2] => { results := [.lit (.bool true)], args := [d1, d2] }
  | _ => none }
def waterStepsRow : OpenClaim := { program := "ytnehpafecdmceaa", sum := "c7eb5fc0519c80beaa77f671a105bbc4f57697d258de39ede9ca8f92fc092ae4", func := "keelblock/keelblocklaw05.WaterSteps", spec := "waterSteps", unfollowed := true, recurses := true, apart := false }
def WaterStepsSaid : Prop := waterStepsRow.holds Try.pinned (OpenSpec.ofChange waterStepsSpec)

/-- ITS FALSE NEIGHBOUR: 'it returns false'. Refute it at one input. -/
def waterStepsWrong : ChangeSpec := { name := "waterSteps", fn := fun _ => fun
  | [d1, d2] => { results := [.lit (.bool false)], args := [d1, d2] }
  | _ => none }
def WaterStepsWrongFalsely : Prop := waterStepsRow.holds Try.pinned (OpenSpec.ofChange waterStepsWrong)

/-- 'keelblocklaw05.WaterKept': WHATEVER THE INPUT: true; the input reads as it did. -/
def waterKeptSpec : ChangeSpec := { name := "waterKept", fn := fun _ => fun
  | [d1, d2] => { results := [.lit (.bool true)], args := [d1, d2] }
  | _ => none }
def waterKeptRow : OpenClaim := { program := "ytnehpafecdmceaa", sum := "c7eb5fc0519c80beaa77f671a105bbc4f57697d258de39ede9ca8f92fc092ae4", func := "keelblock/keelblocklaw05.WaterKept", spec := "waterKept", unfollowed := true, recurses := true, apart := false }
def WaterKeptSaid : Prop := waterKeptRow.holds Try.pinned (OpenSpec.ofChange waterKeptSpec)

/-- ITS FALSE NEIGHBOUR: 'it returns false'. Refute it at one input. -/
def waterKeptWrong : ChangeSpec := { name := "waterKept", fn := fun _ => fun
  | [d1, d2] => { results := [.lit (.bool false)], args := [d1, d2] }
  | _ => none }
def WaterKeptWrongFalsely : Prop := waterKeptRow.holds Try.pinned (OpenSpec.ofChange waterKeptWrong)

/-- 'keelblocklaw05.WaterRuns': WHATEVER THE INPUT: true; the input reads as it did. -/
def waterRunsSpec : ChangeSpec := { name := "waterRuns", fn := fun _ => fun
  | [d1, d2, d3] => { results := [.lit (.bool true)], args := [d1, d2, d3] }
  | _ => none }
def waterRunsRow : OpenClaim := { program := "ytnehpafecdmceaa", sum := "c7eb5fc0519c80beaa77f671a105bbc4f57697d258de39ede9ca8f92fc092ae4", func := "keelblock/keelblocklaw05.WaterRuns", spec := "waterRuns", unfollowed := true, recurses := true, apart := false }
def WaterRunsSaid : Prop := waterRunsRow.holds Try.pinned (OpenSpec.ofChange waterRunsSpec)

/-- ITS FALSE NEIGHBOUR: 'it returns false'. Refute it at one input. -/
def waterRunsWrong : ChangeSpec := { name := "waterRuns", fn := fun _ => fun
  | [d1, d2, d3] => { results := [.lit (.bool false)], args := [d1, d2, d3] }
  | _ => none }
def WaterRunsWrongFalsely : Prop := waterRunsRow.holds Try.pinned (OpenSpec.ofChange waterRunsWrong)

/-- 'keelblocktop.TopWaterKept': WHATEVER THE INPUT: true; the input reads as it did. -/
def topWaterKeptSpec : ChangeSpec := { name := "topWaterKept", fn := fun _ => fun
  | [d1, d2] => { results := [.lit (.bool true)], args := [d1, d2] }
  | _ => none }
def topWaterKeptRow : OpenClaim := { program := "ytnehpafecdmceaa", sum := "c7eb5fc0519c80beaa77f671a105bbc4f57697d258de39ede9ca8f92fc092ae4", func := "keelblock/keelblocktop.TopWaterKept", spec := "topWaterKept", unfollowed := true, recurses := true, apart := false }
def TopWaterKeptSaid : Prop := topWaterKeptRow.holds Try.pinned (OpenSpec.ofChange topWaterKeptSpec)

/-- ITS FALSE NEIGHBOUR: 'it returns false'. Refute it at one input. -/
def topWaterKeptWrong : ChangeSpec := { name := "topWaterKept", fn := fun _ => fun
  | [d1, d2] => { results := [.lit (.bool false)], args := [d1, d2] }
  | _ => none }
def TopWaterKeptWrongFalsely : Prop := topWaterKeptRow.holds Try.pinned (OpenSpec.ofChange topWaterKeptWrong)

/-- 'keelblocklaw05.WaterWindows': WHATEVER THE INPUT: true; the input reads as it did. -/
def waterWindowsSpec : ChangeSpec := { name := "waterWindows", fn := fun _ => fun
  | [d1, d2, d3] => { results := [.lit (.bool true)], args := [d1, d2, d3] }
  | _ => none }
def waterWindowsRow : OpenClaim := { program := "ytnehpafecdmceaa", sum := "c7eb5fc0519c80beaa77f671a105bbc4f57697d258de39ede9ca8f92fc092ae4", func := "keelblock/keelblocklaw05.WaterWindows", spec := "waterWindows", unfollowed := true, recurses := true, apart := false }
def WaterWindowsSaid : Prop := waterWindowsRow.holds Try.pinned (OpenSpec.ofChange waterWindowsSpec)

/-- ITS FALSE NEIGHBOUR: 'it returns false'. Refute it at one input. -/
def waterWindowsWrong : ChangeSpec := { name := "waterWindows", fn := fun _ => fun
  | [d1, d2, d3] => { results := [.lit (.bool false)], args := [d1, d2, d3] }
  | _ => none }
def WaterWindowsWrongFalsely : Prop := waterWindowsRow.holds Try.pinned (OpenSpec.ofChange waterWindowsWrong)

/- THE SECOND FORM. 'bulk': how many values and letters a reading holds, each counted each time it is reached (what is shared counts as often as it is met; a slice's spare places count too). A statement '..UptoSaid' is the law's where the arguments, and the package variables that the reading takes, are together of bulk at most 1048576: NARROWER than '..Said'. Prove '..Said' where nothing that the law and all that it calls make is longer than what came in: it says more and counts as full. Else prove '..UptoSaid'. A law counts once. -/
mutual
def uptoBulk {H : Type} : DataW H → Nat
  | .lit (.string bytes) => bytes.length + 1
  | .lit _ => 1
  | .nil => 1
  | .ptr d => uptoBulk d + 1
  | .slice elems spare => uptoBulkAll elems + uptoBulkAll spare + 1
  | .agg parts => uptoBulkAll parts + 1
  | .iface _ d => uptoBulk d + 1
  | .map entries => uptoBulkEntries entries + 1
  | .held _ => 1
def uptoBulkAll {H : Type} : List (DataW H) → Nat
  | [] => 0
  | d :: r => uptoBulk d + uptoBulkAll r
def uptoBulkEntries {H : Type} : List (Lit × DataW H) → Nat
  | [] => 0
  | x :: r => uptoBulkEntry x + uptoBulkEntries r
def uptoBulkEntry {H : Type} : Lit × DataW H → Nat
  | (.string bytes, d) => bytes.length + uptoBulk d + 1
  | (_, d) => uptoBulk d + 1
 end
def uptoSmall : (H : Type) → List (DataW H) → Bool := fun _ ds => decide (uptoBulkAll ds ≤ 1048576)
def OpenSpec.upto (s : _root_.Go.ChangeSpec) : _root_.Go.OpenSpec := { _root_.Go.OpenSpec.ofChange s with cond := some uptoSmall }

/-- 'keelblocklaw05.WaterBasins', WHERE WHAT IT READS IS OF BULK AT MOST 1048576: true; the input reads as it did. -/
def waterBasinsUptoRow : OpenClaim := { program := "ytnehpafecdmceaa", sum := "c7eb5fc0519c80beaa77f671a105bbc4f57697d258de39ede9ca8f92fc092ae4", func := "keelblock/keelblocklaw05.WaterBasins", spec := "waterBasins", apart := false, narrowed := true }
def WaterBasinsUptoSaid : Prop := waterBasinsUptoRow.holds Try.pinned (OpenSpec.upto waterBasinsSpec)

/-- 'keelblocklaw05.WaterInverse', WHERE WHAT IT READS IS OF BULK AT MOST 1048576: true; the input reads as it did. -/
def waterInverseUptoRow : OpenClaim := { program := "ytnehpafecdmceaa", sum := "c7eb5fc0519c80beaa77f671a105bbc4f57697d258de39ede9ca8f92fc092ae4", func := "keelblock/keelblocklaw05.WaterInverse", spec := "waterInverse", apart := false, narrowed := true }
def WaterInverseUptoSaid : Prop := waterInverseUptoRow.holds Try.pinned (OpenSpec.upto waterInverseSpec)

/-- 'keelblocklaw05.WaterTides', WHERE WHAT IT READS IS OF BULK AT MOST 1048576: true; the input reads as it did. -/
def waterTidesUptoRow : OpenClaim := { program := "ytnehpafecdmceaa", sum := "c7eb5fc0519c80beaa77f671a105bbc4f57697d258de39ede9ca8f92fc092ae4", func := "keelblock/keelblocklaw05.WaterTides", spec := "waterTides", unfollowed := true, recurses := true, apart := false, narrowed := true }
def WaterTidesUptoSaid : Prop := waterTidesUptoRow.holds Try.pinned (OpenSpec.upto waterTidesSpec)

/-- 'keelblocklaw05.WaterNetworks', WHERE WHAT IT READS IS OF BULK AT MOST 1048576: true; the input reads as it did. -/
def waterNetworksUptoRow : OpenClaim := { program := "ytnehpafecdmceaa", sum := "c7eb5fc0519c80beaa77f671a105bbc4f57697d258de39ede9ca8f92fc092ae4", func := "keelblock/keelblocklaw05.WaterNetworks", spec := "waterNetworks", unfollowed := true, recurses := true, apart := false, narrowed := true }
def WaterNetworksUptoSaid : Prop := waterNetworksUptoRow.holds Try.pinned (OpenSpec.upto waterNetworksSpec)

/-- 'keelblocklaw05.WaterFlows', WHERE WHAT IT READS IS OF BULK AT MOST 1048576: true; the input reads as it did. -/
def waterFlowsUptoRow : OpenClaim := { program := "ytnehpafecdmceaa", sum := "c7eb5fc0519c80beaa77f671a105bbc4f57697d258de39ede9ca8f92fc092ae4", func := "keelblock/keelblocklaw05.WaterFlows", spec := "waterFlows", unfollowed := true, recurses := true, apart := false, narrowed := true }
def WaterFlowsUptoSaid : Prop := waterFlowsUptoRow.holds Try.pinned (OpenSpec.upto waterFlowsSpec)

/-- 'keelblocklaw05.WaterSteps', WHERE WHAT IT READS IS OF BULK AT MOST 1048576: true; the input reads as it did. -/
def waterStepsUptoRow : OpenClaim := { program := "ytnehpafecdmceaa", sum := "c7eb5fc0519c80beaa77f671a105bbc4f57697d258de39ede9ca8f92fc092ae4", func := "keelblock/keelblocklaw05.WaterSteps", spec := "waterSteps", unfollowed := true, recurses := true, apart := false, narrowed := true }
def WaterStepsUptoSaid : Prop := waterStepsUptoRow.holds Try.pinned (OpenSpec.upto waterStepsSpec)

/-- 'keelblocklaw05.WaterKept', WHERE WHAT IT READS IS OF BULK AT MOST 1048576: true; the input reads as it did. -/
def waterKeptUptoRow : OpenClaim := { program := "ytnehpafecdmceaa", sum := "c7eb5fc0519c80beaa77f671a105bbc4f57697d258de39ede9ca8f92fc092ae4", func := "keelblock/keelblocklaw05.WaterKept", spec := "waterKept", unfollowed := true, recurses := true, apart := false, narrowed := true }
def WaterKeptUptoSaid : Prop := waterKeptUptoRow.holds Try.pinned (OpenSpec.upto waterKeptSpec)

/-- 'keelblocklaw05.WaterRuns', WHERE WHAT IT READS IS OF BULK AT MOST 1048576: true; the input reads as it did. -/
def waterRunsUptoRow : OpenClaim := { program := "ytnehpafecdmceaa", sum := "c7eb5fc0519c80beaa77f671a105bbc4f57697d258de39ede9ca8f92fc092ae4", func := "keelblock/keelblocklaw05.WaterRuns", spec := "waterRuns", unfollowed := true, recurses := true, apart := false, narrowed := true }
def WaterRunsUptoSaid : Prop := waterRunsUptoRow.holds Try.pinned (OpenSpec.upto waterRunsSpec)

/-- 'keelblocktop.TopWaterKept', WHERE WHAT IT READS IS OF BULK AT MOST 1048576: true; the input reads as it did. -/
def topWaterKeptUptoRow : OpenClaim := { program := "ytnehpafecdmceaa", sum := "c7eb5fc0519c80beaa77f671a105bbc4f57697d258de39ede9ca8f92fc092ae4", func := "keelblock/keelblocktop.TopWaterKept", spec := "topWaterKept", unfollowed := true, recurses := true, apart := false, narrowed := true }
def TopWaterKeptUptoSaid : Prop := topWaterKeptUptoRow.holds Try.pinned (OpenSpec.upto topWaterKeptSpec)

/-- 'keelblocklaw05.WaterWindows', WHERE WHAT IT READS IS OF BULK AT MOST 1048576: true; the input reads as it did. -/
def waterWindowsUptoRow : OpenClaim := { program := "ytnehpafecdmceaa", sum := "c7eb5fc0519c80beaa77f671a105bbc4f57697d258de39ede9ca8f92fc092ae4", func := "keelblock/keelblocklaw05.WaterWindows", spec := "waterWindows", unfollowed := true, recurses := true, apart := false, narrowed := true }
def WaterWindowsUptoSaid : Prop := waterWindowsUptoRow.holds Try.pinned (OpenSpec.upto waterWindowsSpec)

end Rows
end Go.Proofs.Ytnehpafecdmceaa
