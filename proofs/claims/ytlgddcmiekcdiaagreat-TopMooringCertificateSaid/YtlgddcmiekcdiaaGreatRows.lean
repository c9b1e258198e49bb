/-
  No cell of these rows narrows 'for every input' (looked for: loops, veiled, ifaces, maps, wideKeys, modest, calm, conditions, laid).
  DERIVED. THE GIVEN ROWS OF THIS SEAT. 3 by the template 'for every input the law returns true; each argument reads behind the call as it read before'; 0 by the template 'total and deterministic' (their statements: YtlgddcmiekcdiaaGreatTotals.lean).
  GIVEN WITH THE SEED: the statements are not yours to turn. If you find one false, say at which input.
  Laid BY PROGRAM, IN A SANDBOX (cutbox-rows.mjs): the forced cells as the released guide's own fill.sh prints them over the translation 0cc1a2c1ccea9689… (all of the seat's roots in one cut). By AI agents, Wed Nov 11 2026. No macro, syntax, notation, axiom, sorry.
-/
import Derived.Test.YtlgddcmiekcdiaaGreatChecked
import GoSem.Claim
import GoSem.ClaimJoined
import GoSem.ClaimMapViews
import Derived.JoinedTies
import Derived.KernelRfl
namespace Go.Proofs.YtlgddcmiekcdiaaGreat
/- THE CELL 'sum', in the pinned program and in every row, IS THE sha256 OF THE DUMP (.gsa) THAT YtlgddcmiekcdiaaGreatProg.lean LOADS. Nothing in Lean hashes anything: it is a label: what it is worth is what the hold of that sum in a sandbox is worth. -/
noncomputable def Tryz.pinned : Pinned := { name := "ytlgddcmiekcdiaagreat", sum := "0cc1a2c1ccea968950dff64012646aa77e1935d567a66a836cefa6b9f617762f", checked := Tryz.checked }
namespace Rows
def none {H : Type} : Left H := { results := [], args := [] }

/-- 'keelblocklaw06.BerthWorst': WHATEVER THE INPUT: true; the input reads as it did. -/
def berthWorstSpec : ChangeSpec := { name := "berthWorst", fn := fun _ => fun
  | [d1, d2] => { results := [.lit (.bool true)], args := [d1, d2] }
  | _ => none }
def berthWorstRow : OpenClaim := { program := "ytlgddcmiekcdiaagreat", sum := "0cc1a2c1ccea968950dff64012646aa77e1935d567a66a836cefa6b9f617762f", func := "keelblock/keelblocklaw06.BerthWorst", spec := "berthWorst", unfollowed := true, recurses := true, apart := false }
def BerthWorstSaid : Prop := berthWorstRow.holds Tryz.pinned (OpenSpec.ofChange berthWorstSpec)

/-- ITS FALSE NEIGHBOUR: 'it returns false'. Refute it at one input. -/
def berthWorstWrong : ChangeSpec := { name := "berthWorst", fn := fun _ => fun
  | [d1, d2] => { results := [.lit (.bool false)], args := [d1, d2] }
  | _ => none }
def BerthWorstWrongFalsely : Prop := berthWorstRow.holds Tryz.pinned (OpenSpec.ofChange berthWorstWrong)

/-- 'keelblocklaw06.BerthHolds': WHATEVER THE INPUT: true; the input reads as it did. -/
def berthHoldsSpec : ChangeSpec := { name := "berthHolds", fn := fun _ => fun
  | [d1, d2, d3] => { results := [.lit (.bool true)], args := [d1, d2, d3] }
  | _ => none }
def berthHoldsRow : OpenClaim := { program := "ytlgddcmiekcdiaagreat", sum := "0cc1a2c1ccea968950dff64012646aa77e1935d567a66a836cefa6b9f617762f", func := "keelblock/keelblocklaw06.BerthHolds", spec := "berthHolds", unfollowed := true, recurses := true, apart := false }
def BerthHoldsSaid : Prop := berthHoldsRow.holds Tryz.pinned (OpenSpec.ofChange berthHoldsSpec)

/-- ITS FALSE NEIGHBOUR: 'it returns false'. Refute it at one input. -/
def berthHoldsWrong : ChangeSpec := { name := "berthHolds", fn := fun _ => fun
  | [d1, d2, d3] => { results := [.lit (.bool false)], args := [d1, d2, d3] }
  | _ => none }
def BerthHoldsWrongFalsely : Prop := berthHoldsRow.holds Tryz.pinned (OpenSpec.ofChange berthHoldsWrong)

/-- 'keelblocktop.TopMooringCertificate': WHATEVER THE INPUT: true; the input reads as it did. -/
def topMooringCertificateSpec : ChangeSpec := { name := "topMooringCertificate", fn := fun _ => fun
  | [d1, d2, d3] => { results := [.lit (.bool true)], args := [d1, d2, d3] }
  | _ => none }
def topMooringCertificateRow : OpenClaim := { program := "ytlgddcmiekcdiaagreat", sum := "0cc1a2c1ccea968950dff64012646aa77e1935d567a66a836cefa6b9f617762f", func := "keelblock/keelblocktop.TopMooringCertificate", spec := "topMooringCertificate", unfollowed := true, recurses := true, apart := false }
def TopMooringCertificateSaid : Prop := topMooringCertificateRow.holds Tryz.pinned (OpenSpec.ofChange topMooringCertificateSpec)

/-- ITS FALSE NEIGHBOUR: 'it returns false'. Refute it at one input. -/
def topMooringCertificateWrong : ChangeSpec := { name := "topMooringCertificate", fn := fun _ => fun
  | [d1, d2, d3] => { results := [.lit (.bool false)], args := [d1, d2, d3] }
  | _ => none }
def TopMooringCertificateWrongFalsely : Prop := topMooringCertificateRow.holds Tryz.pinned (OpenSpec.ofChange topMooringCertificateWrong)

/- THE SECOND FORM. 'bulk': how many values and letters a reading holds, each counted each time it is reached (what is shared counts as often as it is met; a slice's spare places count too). A statement '..UptoSaid' is the law's where the arguments, and the package variables that the reading takes, are together of bulk at most 1048576: NARROWER than '..Said'. Prove '..Said' where nothing that the law and all that it calls make is longer than what came in: it says more and counts as full. Else prove '..UptoSaid'. A law counts once. -/
mutual
def uptoBulk {H : Type} : DataW H → Nat
  | .lit (.string bytes) => bytes.length + 1
  | .lit _ => 1
  | .nil => 1
  | .ptr d => uptoBulk d + 1
  | .slice elems spare => uptoBulkAll elems + uptoBulkAll spare + 1
  | .agg parts => uptoBulkAll parts + 1
  | .iface _ d => uptoBulk d + 1
  | .map entries => uptoBulkEntries entries + 1
  | .held _ => 1
def uptoBulkAll {H : Type} : List (DataW H) → Nat
  | [] => 0
  | d :: r => uptoBulk d + uptoBulkAll r
def uptoBulkEntries {H : Type} : List (Lit × DataW H) → Nat
  | [] => 0
  | x :: r => uptoBulkEntry x + uptoBulkEntries r
def uptoBulkEntry {H : Type} : Lit × DataW H → Nat
  | (.string bytes, d) => bytes.length + uptoBulk d + 1
  | (_, d) => uptoBulk d + 1
 end
def uptoSmall : (H : Type) → List (DataW H) → Bool := fun _ ds => decide (uptoBulkAll ds ≤ 1048576)
def OpenSpec.upto (s : _root_.Go.ChangeSpec) : _root_.Go.OpenSpec := { _root_.Go.OpenSpec.ofChange s with cond := some uptoSmall }

/-- 'keelblocklaw06.BerthWorst', WHERE WHAT IT READS IS OF BULK AT MOST 1048576: true; the input reads as it did. -/
def berthWorstUptoRow : OpenClaim := { program := "ytlgddcmiekcdiaagreat", sum := "0cc1a2c1ccea968950dff64012646aa77e1935d567a66a836cefa6b9f617762f", func := "keelblock/keelblocklaw06.BerthWorst", spec := "berthWorst", unfollowed := true, recurses := true, apart := false, narrowed := true }
def BerthWorstUptoSaid : Prop := berthWorstUptoRow.holds Tryz.pinned (OpenSpec.upto berthWorstSpec)

/-- 'keelblocklaw06.BerthHolds', WHERE WHAT IT READS IS OF BULK AT MOST 1048576: true; the input reads as it did. -/
def berthHoldsUptoRow : OpenClaim := { program := "ytlgddcmiekcdiaagreat", sum := "0cc1a2c1ccea968950dff64012646aa77e1935d567a66a836cefa6b9f617762f", func := "keelblock/keelblocklaw06.BerthHolds", spec := "berthHolds", unfollowed := true, recurses := true, apart := false, narrowed := true }
def BerthHoldsUptoSaid : Prop := berthHoldsUptoRow.holds Tryz.pinned (OpenSpec.upto berthHoldsSpec)

/-- 'keelblocktop.TopMooringCertificate', WHERE WHAT IT READS IS OF BULK AT MOST 1048576: true; the input reads as it did. -/
def topMooringCertificateUptoRow : OpenClaim := { program := "ytlgddcmiekcdiaagreat", sum := "0cc1a2c1ccea968950dff64012646aa77e1935d567a66a836cefa6b9f617762f", func := "keelblock/keelblocktop.TopMooringCertificate", spec := "topMooringCertificate", unfollowed := true, recurses := true, apart := false, narrowed := true }
def TopMooringCertificateUptoSaid : Prop := topMooringCertificateUptoRow.holds Tryz.pinned (OpenSpec.upto topMooringCertificateSpec)

end Rows
end Go.Proofs.YtlgddcmiekcdiaaGreat
