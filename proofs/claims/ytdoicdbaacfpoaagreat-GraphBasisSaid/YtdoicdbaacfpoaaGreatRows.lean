/-
  No cell of these rows narrows 'for every input' (looked for: loops, veiled, ifaces, maps, wideKeys, modest, calm, conditions, laid).
  DERIVED. THE GIVEN ROWS OF THIS SEAT. 6 by the template 'for every input the law returns true; each argument reads behind the call as it read before'; 0 by the template 'total and deterministic' (their statements: YtdoicdbaacfpoaaGreatTotals.lean).
  GIVEN WITH THE SEED: the statements are not yours to turn. If you find one false, say at which input.
  Laid BY PROGRAM, IN A SANDBOX (cutbox-rows.mjs): the forced cells as the released guide's own fill.sh prints them over the translation 09a438e34a2e19d3… (all of the seat's roots in one cut). By AI agents, Wed Nov 11 2026. No macro, syntax, notation, axiom, sorry.
-/
import Derived.Test.YtdoicdbaacfpoaaGreatChecked
import GoSem.Claim
import GoSem.ClaimJoined
import GoSem.ClaimMapViews
import Derived.JoinedTies
import Derived.KernelRfl
namespace Go.Proofs.YtdoicdbaacfpoaaGreat
/- THE CELL 'sum', in the pinned program and in every row, IS THE sha256 OF THE DUMP (.gsa) THAT YtdoicdbaacfpoaaGreatProg.lean LOADS. Nothing in Lean hashes anything: it is a label: what it is worth is what the hold of that sum in a sandbox is worth. -/
noncomputable def Tryz.pinned : Pinned := { name := "ytdoicdbaacfpoaagreat", sum := "09a438e34a2e19d381739dd933e14ad5398a6777a5056c7523b67b18744d1b0b", checked := Tryz.checked }
namespace Rows
def none {H : Type} : Left H := { results := [], args := [] }

/-- 'linkworklaw23.GraphBasis': WHATEVER THE INPUT: true; the input reads as it did. -/
def graphBasisSpec : ChangeSpec := { name := "graphBasis", fn := fun _ => fun
  | [d] => { results := [.lit (.bool true)], args := [d] }
  | _ => none }
def graphBasisRow : OpenClaim := { program := "ytdoicdbaacfpoaagreat", sum := "09a438e34a2e19d381739dd933e14ad5398a6777a5056c7523b67b18744d1b0b", func := "linkwork/linkworklaw23.GraphBasis", spec := "graphBasis", recurses := true, apart := false }
def GraphBasisSaid : Prop := graphBasisRow.holds Tryz.pinned (OpenSpec.ofChange graphBasisSpec)

/-- ITS FALSE NEIGHBOUR: 'it returns false'. Refute it at one input. -/
def graphBasisWrong : ChangeSpec := { name := "graphBasis", fn := fun _ => fun
  | [d] => { results := [.lit (.bool false)], args := [d] }
  | _ => none }
def GraphBasisWrongFalsely : Prop := graphBasisRow.holds Tryz.pinned (OpenSpec.ofChange graphBasisWrong)

/-- 'linkworklaw23.GraphParts': WHATEVER THE INPUT: true; the input reads as it did. -/
def graphPartsSpec : ChangeSpec := { name := "graphParts", fn := fun _ => fun
  | [d] => { results := [.lit (.bool true)], args := [d] }
  | _ => none }
def graphPartsRow : OpenClaim := { program := "ytdoicdbaacfpoaagreat", sum := "09a438e34a2e19d381739dd933e14ad5398a6777a5056c7523b67b18744d1b0b", func := "linkwork/linkworklaw23.GraphParts", spec := "graphParts", recurses := true, apart := false }
def GraphPartsSaid : Prop := graphPartsRow.holds Tryz.pinned (OpenSpec.ofChange graphPartsSpec)

/-- ITS FALSE NEIGHBOUR: 'it returns false'. Refute it at one input. -/
def graphPartsWrong : ChangeSpec := { name := "graphParts", fn := fun _ => fun
  | [d] => { results := [.lit (.bool false)], args := [d] }
  | _ => none }
def GraphPartsWrongFalsely : Prop := graphPartsRow.holds Tryz.pinned (OpenSpec.ofChange graphPartsWrong)

/-- 'linkworklaw23.GraphPaths': WHATEVER THE INPUT: true; the input reads as it did. -/
def graphPathsSpec : ChangeSpec := { name := "graphPaths", fn := fun _ => fun
  | [d1, d2, d3] => { results := [.lit (.bool true)], args := [d1, d2, d3] }
  | _ => none }
def graphPathsRow : OpenClaim := { program := "ytdoicdbaacfpoaagreat", sum := "09a438e34a2e19d381739dd933e14ad5398a6777a5056c7523b67b18744d1b0b", func := "linkwork/linkworklaw23.GraphPaths", spec := "graphPaths", recurses := true, apart := false }
def GraphPathsSaid : Prop := graphPathsRow.holds Tryz.pinned (OpenSpec.ofChange graphPathsSpec)

/-- ITS FALSE NEIGHBOUR: 'it returns false'. Refute it at one input. -/
def graphPathsWrong : ChangeSpec := { name := "graphPaths", fn := fun _ => fun
  | [d1, d2, d3] => { results := [.lit (.bool false)], args := [d1, d2, d3] }
  | _ => none }
def GraphPathsWrongFalsely : Prop := graphPathsRow.holds Tryz.pinned (OpenSpec.ofChange graphPathsWrong)

/-- 'linkworklaw23.GraphLoops': WHATEVER THE INPUT: true; the input reads as it did. -/
def graphLoopsSpec : ChangeSpec := { name := "graphLoops", fn := fun _ => fun
  | [d] => { results := [.lit (.bool true)], args := [d] }
  | _ => none }
def graphLoopsRow : OpenClaim := { program := "ytdoicdbaacfpoaagreat", sum := "09a438e34a2e19d381739dd933e14ad5398a6777a5056c7523b67b18744d1b0b", func := "linkwork/linkworklaw23.GraphLoops", spec := "graphLoops", recurses := true, apart := false }
def GraphLoopsSaid : Prop := graphLoopsRow.holds Tryz.pinned (OpenSpec.ofChange graphLoopsSpec)

/-- ITS FALSE NEIGHBOUR: 'it returns false'. Refute it at one input. -/
def graphLoopsWrong : ChangeSpec := { name := "graphLoops", fn := fun _ => fun
  | [d] => { results := [.lit (.bool false)], args := [d] }
  | _ => none }
def GraphLoopsWrongFalsely : Prop := graphLoopsRow.holds Tryz.pinned (OpenSpec.ofChange graphLoopsWrong)

/-- 'linkworklaw23.GraphWays': WHATEVER THE INPUT: true; the input reads as it did. -/
def graphWaysSpec : ChangeSpec := { name := "graphWays", fn := fun _ => fun
  | [d1, d2] => { results := [.lit (.bool true)], args := [d1, d2] }
  | _ => none }
def graphWaysRow : OpenClaim := { program := "ytdoicdbaacfpoaagreat", sum := "09a438e34a2e19d381739dd933e14ad5398a6777a5056c7523b67b18744d1b0b", func := "linkwork/linkworklaw23.GraphWays", spec := "graphWays", recurses := true, apart := false }
def GraphWaysSaid : Prop := graphWaysRow.holds Tryz.pinned (OpenSpec.ofChange graphWaysSpec)

/-- ITS FALSE NEIGHBOUR: 'it returns false'. Refute it at one input. -/
def graphWaysWrong : ChangeSpec := { name := "graphWays", fn := fun _ => fun
  | [d1, d2] => { results := [.lit (.bool false)], args := [d1, d2] }
  | _ => none }
def GraphWaysWrongFalsely : Prop := graphWaysRow.holds Tryz.pinned (OpenSpec.ofChange graphWaysWrong)

/-- 'linkworklaw23.GraphBridges': WHATEVER THE INPUT: true; the input reads as it did. -/
def graphBridgesSpec : ChangeSpec := { name := "graphBridges", fn := fun _ => fun
  | [d] => { results := [.lit (.bool true)], args := [d] }
  | _ => none }
def graphBridgesRow : OpenClaim := { program := "ytdoicdbaacfpoaagreat", sum := "09a438e34a2e19d381739dd933e14ad5398a6777a5056c7523b67b18744d1b0b", func := "linkwork/linkworklaw23.GraphBridges", spec := "graphBridges", recurses := true, apart := false }
def GraphBridgesSaid : Prop := graphBridgesRow.holds Tryz.pinned (OpenSpec.ofChange graphBridgesSpec)

/-- ITS FALSE NEIGHBOUR: 'it returns false'. Refute it at one input. -/
def graphBridgesWrong : ChangeSpec := { name := "graphBridges", fn := fun _ => fun
  | [d] => { results := [.lit (.bool false)], args := [d] }
  | _ => none }
def GraphBridgesWrongFalsely : Prop := graphBridgesRow.holds Tryz.pinned (OpenSpec.ofChange graphBridgesWrong)

/- THE SECOND FORM. 'bulk': how many values and letters a reading holds, each counted each time it is reached (what is shared counts as often as it is met; a slice's spare places count too). A statement '..UptoSaid' is the law's where the arguments, and the package variables that the reading takes, are together of bulk at most 1048576: NARROWER than '..Said'. Prove '..Said' where nothing that the law and all that it calls make is longer than what came in: it says more and counts as full. Else prove '..UptoSaid'. A law counts once. -/
mutual
def uptoBulk {H : Type} : DataW H → Nat
  | .lit (.string bytes) => bytes.length + 1
  | .lit _ => 1
  | .nil => 1
  | .ptr d => uptoBulk d + 1
  | .slice elems spare => uptoBulkAll elems + uptoBulkAll spare + 1
  | .agg parts => uptoBulkAll parts + 1
  | .iface _ d => uptoBulk d + 1
  | .map entries => uptoBulkEntries entries + 1
  | .held _ => 1
def uptoBulkAll {H : Type} : List (DataW H) → Nat
  | [] => 0
  | d :: r => uptoBulk d + uptoBulkAll r
def uptoBulkEntries {H : Type} : List (Lit × DataW H) → Nat
  | [] => 0
  | x :: r => uptoBulkEntry x + uptoBulkEntries r
def uptoBulkEntry {H : Type} : Lit × DataW H → Nat
  | (.string bytes, d) => bytes.length + uptoBulk d + 1
  | (_, d) => uptoBulk d + 1
 end
def uptoSmall : (H : Type) → List (DataW H) → Bool := fun _ ds => decide (uptoBulkAll ds ≤ 1048576)
def OpenSpec.upto (s : _root_.Go.ChangeSpec) : _root_.Go.OpenSpec := { _root_.Go.OpenSpec.ofChange s with cond := some uptoSmall }

/-- 'linkworklaw23.GraphBasis', WHERE WHAT IT READS IS OF BULK AT MOST 1048576: true; the input reads as it did. -/
def graphBasisUptoRow : OpenClaim := { program := "ytdoicdbaacfpoaagreat", sum := "09a438e34a2e19d381739dd933e14ad5398a6777a5056c7523b67b18744d1b0b", func := "linkwork/linkworklaw23.GraphBasis", spec := "graphBasis", recurses := true, apart := false, narrowed := true }
def GraphBasisUptoSaid : Prop := graphBasisUptoRow.holds Tryz.pinned (OpenSpec.upto graphBasisSpec)

/-- 'linkworklaw23.GraphParts', WHERE WHAT IT READS IS OF BULK AT MOST 1048576: true; the input reads as it did. -/
def graphPartsUptoRow : OpenClaim := { program := "ytdoicdbaacfpoaagreat", sum := "09a438e34a2e19d381739dd933e14ad5398a6777a5056c7523b67b18744d1b0b", func := "linkwork/linkworklaw23.GraphParts", spec := "graphParts", recurses := true, apart := false, narrowed := true }
def GraphPartsUptoSaid : Prop := graphPartsUptoRow.holds Tryz.pinned (OpenSpec.upto graphPartsSpec)

/-- 'linkworklaw23.GraphPaths', WHERE WHAT IT READS IS OF BULK AT MOST 1048576: true; the input reads as it did. -/
def graphPathsUptoRow : OpenClaim := { program := "ytdoicdbaacfpoaagreat", sum := "09a438e34a2e19d381739dd933e14ad5398a6777a5056c7523b67b18744d1b0b", func := "linkwork/linkworklaw23.GraphPaths", spec := "graphPaths", recurses := true, apart := false, narrowed := true }
def GraphPathsUptoSaid : Prop := graphPathsUptoRow.holds Tryz.pinned (OpenSpec.upto graphPathsSpec)

/-- 'linkworklaw23.GraphLoops', WHERE WHAT IT READS IS OF BULK AT MOST 1048576: true; the input reads as it did. -/
def graphLoopsUptoRow : OpenClaim := { program := "ytdoicdbaacfpoaagreat", sum := "09a438e34a2e19d381739dd933e14ad5398a6777a5056c7523b67b18744d1b0b", func := "linkwork/linkworklaw23.GraphLoops", spec := "graphLoops", recurses := true, apart := false, narrowed := true }
def GraphLoopsUptoSaid : Prop := graphLoopsUptoRow.holds Tryz.pinned (OpenSpec.upto graphLoopsSpec)

/-- 'linkworklaw23.GraphWays', WHERE WHAT IT READS IS OF BULK AT MOST 1048576: true; the input reads as it did. -/
def graphWaysUptoRow : OpenClaim := { program := "ytdoicdbaacfpoaagreat", sum := "09a438e34a2e19d381739dd933e14ad5398a6777a5056c7523b67b18744d1b0b", func := "linkwork/linkworklaw23.GraphWays", spec := "graphWays", recurses := true, apart := false, narrowed := true }
def GraphWaysUptoSaid : Prop := graphWaysUptoRow.holds Tryz.pinned (OpenSpec.upto graphWaysSpec)

/-- 'linkworklaw23.GraphBridges', WHERE WHAT IT READS IS OF BULK AT MOST 1048576: true; the input reads as it did. -/
def graphBridgesUptoRow : OpenClaim := { program := "ytdoicdbaacfpoaagreat", sum := "09a438e34a2e19d381739dd933e14ad5398a6777a5056c7523b67b18744d1b0b", func := "linkwork/linkworklaw23.GraphBridges", spec := "graphBridges", recurses := true, apart := false, narrowed := true }
def GraphBridgesUptoSaid : Prop := graphBridgesUptoRow.holds Tryz.pinned (OpenSpec.upto graphBridgesSpec)

end Rows
end Go.Proofs.YtdoicdbaacfpoaaGreat
