/-
  No cell of these rows narrows 'for every input' (looked for: loops, veiled, ifaces, maps, wideKeys, modest, calm, conditions, laid).
  DERIVED. THE GIVEN ROWS OF THIS SEAT. 7 by the template 'for every input the law returns true; each argument reads behind the call as it read before'; 0 by the template 'total and deterministic' (their statements: YtfakkdmfofiibaaGreatTotals.lean).
  GIVEN WITH THE SEED: the statements are not yours to turn. If you find one false, say at which input.
  Laid BY PROGRAM, IN A SANDBOX (cutbox-rows.mjs): the forced cells as the released guide's own fill.sh prints them over the translation d070e7e2fe9a6eda… (all of the seat's roots in one cut). By AI agents, Wed Nov 11 2026. No macro, syntax, notation, axiom, sorry.
-/
import Derived.Test.YtfakkdmfofiibaaGreatChecked
import GoSem.Claim
import GoSem.ClaimJoined
import GoSem.ClaimMapViews
import Derived.JoinedTies
import Derived.KernelRfl
namespace Go.Proofs.YtfakkdmfofiibaaGreat
/- THE CELL 'sum', in the pinned program and in every row, IS THE sha256 OF THE DUMP (.gsa) THAT YtfakkdmfofiibaaGreatProg.lean LOADS. Nothing in Lean hashes anything: it is a label: what it is worth is what the hold of that sum in a sandbox is worth. -/
noncomputable def Tryz.pinned : Pinned := { name := "ytfakkdmfofiibaagreat", sum := "d070e7e2fe9a6edad409fd1dd4867b9c23cb3800ba9ac9d157c3e9fc19f87529", checked := Tryz.checked }
namespace Rows
def none {H : Type} : Left H := { results := [], args := [] }

/-- 'linkworklaw10.MatrixRanks': WHATEVER THE INPUT: true; the input reads as it did. -/
def matrixRanksSpec : ChangeSpec := { name := "matrixRanks", fn := fun _ => fun
  | [d1, d2] => { results := [.lit (.bool true)], args := [d1, d2] }
  | _ => none }
def matrixRanksRow : OpenClaim := { program := "ytfakkdmfofiibaagreat", sum := "d070e7e2fe9a6edad409fd1dd4867b9c23cb3800ba9ac9d157c3e9fc19f87529", func := "linkwork/linkworklaw10.MatrixRanks", spec := "matrixRanks", recurses := true, apart := false }
def MatrixRanksSaid : Prop := matrixRanksRow.holds Tryz.pinned (OpenSpec.ofChange matrixRanksSpec)

/-- ITS FALSE NEIGHBOUR: 'it returns false'. Refute it at one input. -/
def matrixRanksWrong : ChangeSpec := { name := "matrixRanks", fn := fun _ => fun
  | [d1, d2] => { results := [.lit (.bool false)], args := [d1, d2] }
  | _ => none }
def MatrixRanksWrongFalsely : Prop := matrixRanksRow.holds Tryz.pinned (OpenSpec.ofChange matrixRanksWrong)

/-- 'linkworklaw10.MatrixBounds': WHATEVER THE INPUT: true; the input reads as it did. -/
def matrixBoundsSpec : ChangeSpec := { name := "matrixBounds", fn := fun _ => fun
  | [d1, d2] => { results := [.lit (.bool true)], args := [d1, d2] }
  | _ => none }
def matrixBoundsRow : OpenClaim := { program := "ytfakkdmfofiibaagreat", sum := "d070e7e2fe9a6edad409fd1dd4867b9c23cb3800ba9ac9d157c3e9fc19f87529", func := "linkwork/linkworklaw10.MatrixBounds", spec := "matrixBounds", recurses := true, apart := false }
def MatrixBoundsSaid : Prop := matrixBoundsRow.holds Tryz.pinned (OpenSpec.ofChange matrixBoundsSpec)

/-- ITS FALSE NEIGHBOUR: 'it returns false'. Refute it at one input. -/
def matrixBoundsWrong : ChangeSpec := { name := "matrixBounds", fn := fun _ => fun
  | [d1, d2] => { results := [.lit (.bool false)], args := [d1, d2] }
  | _ => none }
def MatrixBoundsWrongFalsely : Prop := matrixBoundsRow.holds Tryz.pinned (OpenSpec.ofChange matrixBoundsWrong)

/-- 'linkworklaw10.MatrixProducts': WHATEVER THE INPUT: true; the input reads as it did. -/
def matrixProductsSpec : ChangeSpec := { name := "matrixProducts", fn := fun _ => fun
  | [d1, d2, d3] => { results := [.lit (.bool true)], args := [d1, d2, d3] }
  | _ => none }
def matrixProductsRow : OpenClaim := { program := "ytfakkdmfofiibaagreat", sum := "d070e7e2fe9a6edad409fd1dd4867b9c23cb3800ba9ac9d157c3e9fc19f87529", func := "linkwork/linkworklaw10.MatrixProducts", spec := "matrixProducts", recurses := true, apart := false }
def MatrixProductsSaid : Prop := matrixProductsRow.holds Tryz.pinned (OpenSpec.ofChange matrixProductsSpec)

/-- ITS FALSE NEIGHBOUR: 'it returns false'. Refute it at one input. -/
def matrixProductsWrong : ChangeSpec := { name := "matrixProducts", fn := fun _ => fun
  | [d1, d2, d3] => { results := [.lit (.bool false)], args := [d1, d2, d3] }
  | _ => none }
def MatrixProductsWrongFalsely : Prop := matrixProductsRow.holds Tryz.pinned (OpenSpec.ofChange matrixProductsWrong)

/-- 'linkworklaw10.MatrixSolves': WHATEVER THE INPUT: true; the input reads as it did. -/
def matrixSolvesSpec : ChangeSpec := { name := "matrixSolves", fn := fun _ => fun
  | [d1, d2, d3] => { results := [.lit (.bool true)], args := [d1, d2, d3] }
  | _ => none }
def matrixSolvesRow : OpenClaim := { program := "ytfakkdmfofiibaagreat", sum := "d070e7e2fe9a6edad409fd1dd4867b9c23cb3800ba9ac9d157c3e9fc19f87529", func := "linkwork/linkworklaw10.MatrixSolves", spec := "matrixSolves", recurses := true, apart := false }
def MatrixSolvesSaid : Prop := matrixSolvesRow.holds Tryz.pinned (OpenSpec.ofChange matrixSolvesSpec)

/-- ITS FALSE NEIGHBOUR: 'it returns false'. Refute it at one input. -/
def matrixSolvesWrong : ChangeSpec := { name := "matrixSolves", fn := fun _ => fun
  | [d1, d2, d3] => { results := [.lit (.bool false)], args := [d1, d2, d3] }
  | _ => none }
def MatrixSolvesWrongFalsely : Prop := matrixSolvesRow.holds Tryz.pinned (OpenSpec.ofChange matrixSolvesWrong)

/-- 'linkworklaw10.MatrixSolutions': WHATEVER THE INPUT: true; the input reads as it did. -/
def matrixSolutionsSpec : ChangeSpec := { name := "matrixSolutions", fn := fun _ => fun
  | [d1, d2, d3] => { results := [.lit (.bool true)], args := [d1, d2, d3] }
  | _ => none }
def matrixSolutionsRow : OpenClaim := { program := "ytfakkdmfofiibaagreat", sum := "d070e7e2fe9a6edad409fd1dd4867b9c23cb3800ba9ac9d157c3e9fc19f87529", func := "linkwork/linkworklaw10.MatrixSolutions", spec := "matrixSolutions", recurses := true, apart := false }
def MatrixSolutionsSaid : Prop := matrixSolutionsRow.holds Tryz.pinned (OpenSpec.ofChange matrixSolutionsSpec)

/-- ITS FALSE NEIGHBOUR: 'it returns false'. Refute it at one input. -/
def matrixSolutionsWrong : ChangeSpec := { name := "matrixSolutions", fn := fun _ => fun
  | [d1, d2, d3] => { results := [.lit (.bool false)], args := [d1, d2, d3] }
  | _ => none }
def MatrixSolutionsWrongFalsely : Prop := matrixSolutionsRow.holds Tryz.pinned (OpenSpec.ofChange matrixSolutionsWrong)

/-- 'linkworklaw10.MatrixRight': WHATEVER THE INPUT: true; the input reads as it did. -/
def matrixRightSpec : ChangeSpec := { name := "matrixRight", fn := fun _ => fun
  | [d1, d2, d3] => { results := [.lit (.bool true)], args := [d1, d2, d3] }
  | _ => none }
def matrixRightRow : OpenClaim := { program := "ytfakkdmfofiibaagreat", sum := "d070e7e2fe9a6edad409fd1dd4867b9c23cb3800ba9ac9d157c3e9fc19f87529", func := "linkwork/linkworklaw10.MatrixRight", spec := "matrixRight", unfollowed := true, recurses := true, apart := false }
def MatrixRightSaid : Prop := matrixRightRow.holds Tryz.pinned (OpenSpec.ofChange matrixRightSpec)

/-- ITS FALSE NEIGHBOUR: 'it returns false'. Refute it at one input. -/
def matrixRightWrong : ChangeSpec := { name := "matrixRight", fn := fun _ => fun
  | [d1, d2, d3] => { results := [.lit (.bool false)], args := [d1, d2, d3] }
  | _ => none }
def MatrixRightWrongFalsely : Prop := matrixRightRow.holds Tryz.pinned (OpenSpec.ofChange matrixRightWrong)

/-- 'linkworklaw10.MatrixCertifies': WHATEVER THE INPUT: true; the input reads as it did. -/
def matrixCertifiesSpec : ChangeSpec := { name := "matrixCertifies", fn := fun _ => fun
  | [d1, d2, d3] => { results := [.lit (.bool true)], args := [d1, d2, d3] }
  | _ => none }
def matrixCertifiesRow : OpenClaim := { program := "ytfakkdmfofiibaagreat", sum := "d070e7e2fe9a6edad409fd1dd4867b9c23cb3800ba9ac9d157c3e9fc19f87529", func := "linkwork/linkworklaw10.MatrixCertifies", spec := "matrixCertifies", unfollowed := true, recurses := true, apart := false }
def MatrixCertifiesSaid : Prop := matrixCertifiesRow.holds Tryz.pinned (OpenSpec.ofChange matrixCertifiesSpec)

/-- ITS FALSE NEIGHBOUR: 'it returns false'. Refute it at one input. -/
def matrixCertifiesWrong : ChangeSpec := { name := "matrixCertifies", fn := fun _ => fun
  | [d1, d2, d3] => { results := [.lit (.bool false)], args := [d1, d2, d3] }
  | _ => none }
def MatrixCertifiesWrongFalsely : Prop := matrixCertifiesRow.holds Tryz.pinned (OpenSpec.ofChange matrixCertifiesWrong)

/- THE SECOND FORM. 'bulk': how many values and letters a reading holds, each counted each time it is reached (what is shared counts as often as it is met; a slice's spare places count too). A statement '..UptoSaid' is the law's where the arguments, and the package variables that the reading takes, are together of bulk at most 1048576: NARROWER than '..Said'. Prove '..Said' where nothing that the law and all that it calls make is longer than what came in: it says more and counts as full. Else prove '..UptoSaid'. A law counts once. -/
mutual
def uptoBulk {H : Type} : DataW H → Nat
  | .lit (.string bytes) => bytes.length + 1
  | .lit _ => 1
  | .nil => 1
  | .ptr d => uptoBulk d + 1
  | .slice elems spare => uptoBulkAll elems + uptoBulkAll spare + 1
  | .agg parts => uptoBulkAll parts + 1
  | .iface _ d => uptoBulk d + 1
  | .map entries => uptoBulkEntries entries + 1
  | .held _ => 1
def uptoBulkAll {H : Type} : List (DataW H) → Nat
  | [] => 0
  | d :: r => uptoBulk d + uptoBulkAll r
def uptoBulkEntries {H : Type} : List (Lit × DataW H) → Nat
  | [] => 0
  | x :: r => uptoBulkEntry x + uptoBulkEntries r
def uptoBulkEntry {H : Type} : Lit × DataW H → Nat
  | (.string bytes, d) => bytes.length + uptoBulk d + 1
  | (_, d) => uptoBulk d + 1
 end
def uptoSmall : (H : Type) → List (DataW H) → Bool := fun _ ds => decide (uptoBulkAll ds ≤ 1048576)
def OpenSpec.upto (s : _root_.Go.ChangeSpec) : _root_.Go.OpenSpec := { _root_.Go.OpenSpec.ofChange s with cond := some uptoSmall }

/-- 'linkworklaw10.MatrixRanks', WHERE WHAT IT READS IS OF BULK AT MOST 1048576: true; the input reads as it did. -/
def matrixRanksUptoRow : OpenClaim := { program := "ytfakkdmfofiibaagreat", sum := "d070e7e2fe9a6edad409fd1dd4867b9c23cb3800ba9ac9d157c3e9fc19f87529", func := "linkwork/linkworklaw10.MatrixRanks", spec := "matrixRanks", recurses := true, apart := false, narrowed := true }
def MatrixRanksUptoSaid : Prop := matrixRanksUptoRow.holds Tryz.pinned (OpenSpec.upto matrixRanksSpec)

/-- 'linkworklaw10.MatrixBounds', WHERE WHAT IT READS IS OF BULK AT MOST 1048576: true; the input reads as it did. -/
def matrixBoundsUptoRow : OpenClaim := { program := "ytfakkdmfofiibaagreat", sum := "d070e7e2fe9a6edad409fd1dd4867b9c23cb3800ba9ac9d157c3e9fc19f87529", func := "linkwork/linkworklaw10.MatrixBounds", spec := "matrixBounds", recurses := true, apart := false, narrowed := true }
def MatrixBoundsUptoSaid : Prop := matrixBoundsUptoRow.holds Tryz.pinned (OpenSpec.upto matrixBoundsSpec)

/-- 'linkworklaw10.MatrixProducts', WHERE WHAT IT READS IS OF BULK AT MOST 1048576: true; the input reads as it did. -/
def matrixProductsUptoRow : OpenClaim := { program := "ytfakkdmfofiibaagreat", sum := "d070e7e2fe9a6edad409fd1dd4867b9c23cb3800ba9ac9d157c3e9fc19f87529", func := "linkwork/linkworklaw10.MatrixProducts", spec := "matrixProducts", recurses := true, apart := false, narrowed := true }
def MatrixProductsUptoSaid : Prop := matrixProductsUptoRow.holds Tryz.pinned (OpenSpec.upto matrixProductsSpec)

/-- 'linkworklaw10.MatrixSolves', WHERE WHAT IT READS IS OF BULK AT MOST 1048576: true; the input reads as it did. -/
def matrixSolvesUptoRow : OpenClaim := { program := "ytfakkdmfofiibaagreat", sum := "d070e7e2fe9a6edad409fd1dd4867b9c23cb3800ba9ac9d157c3e9fc19f87529", func := "linkwork/linkworklaw10.MatrixSolves", spec := "matrixSolves", recurses := true, apart := false, narrowed := true }
def MatrixSolvesUptoSaid : Prop := matrixSolvesUptoRow.holds Tryz.pinned (OpenSpec.upto matrixSolvesSpec)

/-- 'linkworklaw10.MatrixSolutions', WHERE WHAT IT READS IS OF BULK AT MOST 1048576: true; the input reads as it did. -/
def matrixSolutionsUptoRow : OpenClaim := { program := "ytfakkdmfofiibaagreat", sum := "d070e7e2fe9a6edad409fd1dd4867b9c23cb3800ba9ac9d157c3e9fc19f87529", func := "linkwork/linkworklaw10.MatrixSolutions", spec := "matrixSolutions", recurses := true, apart := false, narrowed := true }
def MatrixSolutionsUptoSaid : Prop := matrixSolutionsUptoRow.holds Tryz.pinned (OpenSpec.upto matrixSolutionsSpec)

/-- 'linkworklaw10.MatrixRight', WHERE WHAT IT READS IS OF BULK AT MOST 1048576: true; the input reads as it did. -/
def matrixRightUptoRow : OpenClaim := { program := "ytfakkdmfofiibaagreat", sum := "d070e7e2fe9a6edad409fd1dd4867b9c23cb3800ba9ac9d157c3e9fc19f87529", func := "linkwork/linkworklaw10.MatrixRight", spec := "matrixRight", unfollowed := true, recurses := true, apart := false, narrowed := true }
def MatrixRightUptoSaid : Prop := matrixRightUptoRow.holds Tryz.pinned (OpenSpec.upto matrixRightSpec)

/-- 'linkworklaw10.MatrixCertifies', WHERE WHAT IT READS IS OF BULK AT MOST 1048576: true; the input reads as it did. -/
def matrixCertifiesUptoRow : OpenClaim := { program := "ytfakkdmfofiibaagreat", sum := "d070e7e2fe9a6edad409fd1dd4867b9c23cb3800ba9ac9d157c3e9fc19f87529", func := "linkwork/linkworklaw10.MatrixCertifies", spec := "matrixCertifies", unfollowed := true, recurses := true, apart := false, narrowed := true }
def MatrixCertifiesUptoSaid : Prop := matrixCertifiesUptoRow.holds Tryz.pinned (OpenSpec.upto matrixCertifiesSpec)

end Rows
end Go.Proofs.YtfakkdmfofiibaaGreat
