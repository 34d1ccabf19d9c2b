/-
  No cell of these rows narrows 'for every input' (looked for: loops, veiled, ifaces, maps, wideKeys, modest, calm, conditions, laid).
  DERIVED. THE GIVEN ROWS OF THIS SEAT. 7 by the template 'for every input the law returns true; each argument reads behind the call as it read before'; 0 by the template 'total and deterministic' (their statements: YtgednajkanfpaaaGreatTotals.lean).
  GIVEN WITH THE SEED: the statements are not yours to turn. If you find one false, say at which input.
  Laid BY PROGRAM, IN A SANDBOX (cutbox-rows.mjs): the forced cells as the released guide's own fill.sh prints them over the translation 3be2a1163dbe3434… (all of the seat's roots in one cut). By AI agents, Wed Nov 11 2026. No macro, syntax, notation, axiom, sorry.
-/
import Derived.Test.YtgednajkanfpaaaGreatChecked
import GoSem.Claim
import GoSem.ClaimJoined
import GoSem.ClaimMapViews
import Derived.JoinedTies
import Derived.KernelRfl
namespace Go.Proofs.YtgednajkanfpaaaGreat
/- THE CELL 'sum', in the pinned program and in every row, IS THE sha256 OF THE DUMP (.gsa) THAT YtgednajkanfpaaaGreatProg.lean LOADS. Nothing in Lean hashes anything: it is a label: what it is worth is what the hold of that sum in a sandbox is worth. -/
noncomputable def Tryz.pinned : Pinned := { name := "ytgednajkanfpaaagreat", sum := "3be2a1163dbe34346f7e0c3afff26a49c9aebd3b654064eaa5043da1d8cafe29", checked := Tryz.checked }
namespace Rows
def none {H : Type} : Left H := { results := [], args := [] }

/-- 'linkworklaw50.DefectsSigns': WHATEVER THE INPUT: true; the input reads as it did. -/
def defectsSignsSpec : ChangeSpec := { name := "defectsSigns", fn := fun _ => fun
  | [d1, d2] => { results := [.lit (.bool true)], args := [d1, d2] }
  | _ => none }
def defectsSignsRow : OpenClaim := { program := "ytgednajkanfpaaagreat", sum := "3be2a1163dbe34346f7e0c3afff26a49c9aebd3b654064eaa5043da1d8cafe29", func := "linkwork/linkworklaw50.DefectsSigns", spec := "defectsSigns", recurses := true, apart := false }
def DefectsSignsSaid : Prop := defectsSignsRow.holds Tryz.pinned (OpenSpec.ofChange defectsSignsSpec)

/-- ITS FALSE NEIGHBOUR: 'it returns false'. Refute it at one input. -/
def defectsSignsWrong : ChangeSpec := { name := "defectsSigns", fn := fun _ => fun
  | [d1, d2] => { results := [.lit (.bool false)], args := [d1, d2] }
  | _ => none }
def DefectsSignsWrongFalsely : Prop := defectsSignsRow.holds Tryz.pinned (OpenSpec.ofChange defectsSignsWrong)

/-- 'linkworklaw50.DefectsReports': WHATEVER THE INPUT: true; the input reads as it did. -/
def defectsReportsSpec : ChangeSpec := { name := "defectsReports", fn := fun _ => fun
  | [d1, d2] => { results := [.lit (.bool true)], args := [d1, d2] }
  | _ => none }
def defectsReportsRow : OpenClaim := { program := "ytgednajkanfpaaagreat", sum := "3be2a1163dbe34346f7e0c3afff26a49c9aebd3b654064eaa5043da1d8cafe29", func := "linkwork/linkworklaw50.DefectsReports", spec := "defectsReports", recurses := true, apart := false }
def DefectsReportsSaid : Prop := defectsReportsRow.holds Tryz.pinned (OpenSpec.ofChange defectsReportsSpec)

/-- ITS FALSE NEIGHBOUR: 'it returns false'. Refute it at one input. -/
def defectsReportsWrong : ChangeSpec := { name := "defectsReports", fn := fun _ => fun
  | [d1, d2] => { results := [.lit (.bool false)], args := [d1, d2] }
  | _ => none }
def DefectsReportsWrongFalsely : Prop := defectsReportsRow.holds Tryz.pinned (OpenSpec.ofChange defectsReportsWrong)

/-- 'linkworklaw50.DefectsReverse': WHATEVER THE INPUT: true; the input reads as it did. -/
def defectsReverseSpec : ChangeSpec := { name := "defectsReverse", fn := fun _ => fun
  | [d1, d2] => { results := [.lit (.bool true)], args := [d1, d2] }
  | _ => none }
def defectsReverseRow : OpenClaim := { program := "ytgednajkanfpaaagreat", sum := "3be2a1163dbe34346f7e0c3afff26a49c9aebd3b654064eaa5043da1d8cafe29", func := "linkwork/linkworklaw50.DefectsReverse", spec := "defectsReverse", recurses := true, apart := false }
def DefectsReverseSaid : Prop := defectsReverseRow.holds Tryz.pinned (OpenSpec.ofChange defectsReverseSpec)

/-- ITS FALSE NEIGHBOUR: 'it returns false'. Refute it at one input. -/
def defectsReverseWrong : ChangeSpec := { name := "defectsReverse", fn := fun _ => fun
  | [d1, d2] => { results := [.lit (.bool false)], args := [d1, d2] }
  | _ => none }
def DefectsReverseWrongFalsely : Prop := defectsReverseRow.holds Tryz.pinned (OpenSpec.ofChange defectsReverseWrong)

/-- 'linkworklaw50.DefectsTwo': WHATEVER THE INPUT: true; the input reads as it did. -/
def defectsTwoSpec : ChangeSpec := { name := "defectsTwo", fn := fun _ => fun
  | [d1, d2] => { results := [.lit (.bool true)], args := [d1, d2] }
  | _ => none }
def defectsTwoRow : OpenClaim := { program := "ytgednajkanfpaaagreat", sum := "3be2a1163dbe34346f7e0c3afff26a49c9aebd3b654064eaa5043da1d8cafe29", func := "linkwork/linkworklaw50.DefectsTwo", spec := "defectsTwo", recurses := true, apart := false }
def DefectsTwoSaid : Prop := defectsTwoRow.holds Tryz.pinned (OpenSpec.ofChange defectsTwoSpec)

/-- ITS FALSE NEIGHBOUR: 'it returns false'. Refute it at one input. -/
def defectsTwoWrong : ChangeSpec := { name := "defectsTwo", fn := fun _ => fun
  | [d1, d2] => { results := [.lit (.bool false)], args := [d1, d2] }
  | _ => none }
def DefectsTwoWrongFalsely : Prop := defectsTwoRow.holds Tryz.pinned (OpenSpec.ofChange defectsTwoWrong)

/-- 'linkworklaw50.DefectsWays': WHATEVER THE INPUT: true; the input reads as it did. -/
def defectsWaysSpec : ChangeSpec := { name := "defectsWays", fn := fun _ => fun
  | [d1, d2, d3] => { results := [.lit (.bool true)], args := [d1, d2, d3] }
  | _ => none }
def defectsWaysRow : OpenClaim := { program := "ytgednajkanfpaaagreat", sum := "3be2a1163dbe34346f7e0c3afff26a49c9aebd3b654064eaa5043da1d8cafe29", func := "linkwork/linkworklaw50.DefectsWays", spec := "defectsWays", recurses := true, apart := false }
def DefectsWaysSaid : Prop := defectsWaysRow.holds Tryz.pinned (OpenSpec.ofChange defectsWaysSpec)

/-- ITS FALSE NEIGHBOUR: 'it returns false'. Refute it at one input. -/
def defectsWaysWrong : ChangeSpec := { name := "defectsWays", fn := fun _ => fun
  | [d1, d2, d3] => { results := [.lit (.bool false)], args := [d1, d2, d3] }
  | _ => none }
def DefectsWaysWrongFalsely : Prop := defectsWaysRow.holds Tryz.pinned (OpenSpec.ofChange defectsWaysWrong)

/-- 'linkworklaw50.DefectsInside': WHATEVER THE INPUT: true; the input reads as it did. -/
def defectsInsideSpec : ChangeSpec := { name := "defectsInside", fn := fun _ => fun
  | [d1, d2, d3] => { results := [.lit (.bool true)], args := [d1, d2, d3] }
  | _ => none }
def defectsInsideRow : OpenClaim := { program := "ytgednajkanfpaaagreat", sum := "3be2a1163dbe34346f7e0c3afff26a49c9aebd3b654064eaa5043da1d8cafe29", func := "linkwork/linkworklaw50.DefectsInside", spec := "defectsInside", recurses := true, apart := false }
def DefectsInsideSaid : Prop := defectsInsideRow.holds Tryz.pinned (OpenSpec.ofChange defectsInsideSpec)

/-- ITS FALSE NEIGHBOUR: 'it returns false'. Refute it at one input. -/
def defectsInsideWrong : ChangeSpec := { name := "defectsInside", fn := fun _ => fun
  | [d1, d2, d3] => { results := [.lit (.bool false)], args := [d1, d2, d3] }
  | _ => none }
def DefectsInsideWrongFalsely : Prop := defectsInsideRow.holds Tryz.pinned (OpenSpec.ofChange defectsInsideWrong)

/-- 'linkworklaw50.DefectsMoved': WHATEVER THE INPUT: true; the input reads as it did. -/
def defectsMovedSpec : ChangeSpec := { name := "defectsMoved", fn := fun _ => fun
  | [d1, d2, d3] => { results := [.lit (.bool true)], args := [d1, d2, d3] }
  | _ => none }
def defectsMovedRow : OpenClaim := { program := "ytgednajkanfpaaagreat", sum := "3be2a1163dbe34346f7e0c3afff26a49c9aebd3b654064eaa5043da1d8cafe29", func := "linkwork/linkworklaw50.DefectsMoved", spec := "defectsMoved", recurses := true, apart := false }
def DefectsMovedSaid : Prop := defectsMovedRow.holds Tryz.pinned (OpenSpec.ofChange defectsMovedSpec)

/-- ITS FALSE NEIGHBOUR: 'it returns false'. Refute it at one input. -/
def defectsMovedWrong : ChangeSpec := { name := "defectsMoved", fn := fun _ => fun
  | [d1, d2, d3] => { results := [.lit (.bool false)], args := [d1, d2, d3] }
  | _ => none }
def DefectsMovedWrongFalsely : Prop := defectsMovedRow.holds Tryz.pinned (OpenSpec.ofChange defectsMovedWrong)

/- THE SECOND FORM. 'bulk': how many values and letters a reading holds, each counted each time it is reached (what is shared counts as often as it is met; a slice's spare places count too). A statement '..UptoSaid' is the law's where the arguments, and the package variables that the reading takes, are together of bulk at most 1048576: NARROWER than '..Said'. Prove '..Said' where nothing that the law and all that it calls make is longer than what came in: it says more and counts as full. Else prove '..UptoSaid'. A law counts once. -/
mutual
def uptoBulk {H : Type} : DataW H → Nat
  | .lit (.string bytes) => bytes.length + 1
  | .lit _ => 1
  | .nil => 1
  | .ptr d => uptoBulk d + 1
  | .slice elems spare => uptoBulkAll elems + uptoBulkAll spare + 1
  | .agg parts => uptoBulkAll parts + 1
  | .iface _ d => uptoBulk d + 1
  | .map entries => uptoBulkEntries entries + 1
  | .held _ => 1
def uptoBulkAll {H : Type} : List (DataW H) → Nat
  | [] => 0
  | d :: r => uptoBulk d + uptoBulkAll r
def uptoBulkEntries {H : Type} : List (Lit × DataW H) → Nat
  | [] => 0
  | x :: r => uptoBulkEntry x + uptoBulkEntries r
def uptoBulkEntry {H : Type} : Lit × DataW H → Nat
  | (.string bytes, d) => bytes.length + uptoBulk d + 1
  | (_, d) => uptoBulk d + 1
 end
def uptoSmall : (H : Type) → List (DataW H) → Bool := fun _ ds => decide (uptoBulkAll ds ≤ 1048576)
def OpenSpec.upto (s : _root_.Go.ChangeSpec) : _root_.Go.OpenSpec := { _root_.Go.OpenSpec.ofChange s with cond := some uptoSmall }

/-- 'linkworklaw50.DefectsSigns', WHERE WHAT IT READS IS OF BULK AT MOST 1048576: true; the input reads as it did. -/
def defectsSignsUptoRow : OpenClaim := { program := "ytgednajkanfpaaagreat", sum := "3be2a1163dbe34346f7e0c3afff26a49c9aebd3b654064eaa5043da1d8cafe29", func := "linkwork/linkworklaw50.DefectsSigns", spec := "defectsSigns", recurses := true, apart := false, narrowed := true }
def DefectsSignsUptoSaid : Prop := defectsSignsUptoRow.holds Tryz.pinned (OpenSpec.upto defectsSignsSpec)

/-- 'linkworklaw50.DefectsReports', WHERE WHAT IT READS IS OF BULK AT MOST 1048576: true; the input reads as it did. -/
def defectsReportsUptoRow : OpenClaim := { program := "ytgednajkanfpaaagreat", sum := "3be2a1163dbe34346f7e0c3afff26a49c9aebd3b654064eaa5043da1d8cafe29", func := "linkwork/linkworklaw50.DefectsReports", spec := "defectsReports", recurses := true, apart := false, narrowed := true }
def DefectsReportsUptoSaid : Prop := defectsReportsUptoRow.holds Tryz.pinned (OpenSpec.upto defectsReportsSpec)

/-- 'linkworklaw50.DefectsReverse', WHERE WHAT IT READS IS OF BULK AT MOST 1048576: true; the input reads as it did. -/
def defectsReverseUptoRow : OpenClaim := { program := "ytgednajkanfpaaagreat", sum := "3be2a1163dbe34346f7e0c3afff26a49c9aebd3b654064eaa5043da1d8cafe29", func := "linkwork/linkworklaw50.DefectsReverse", spec := "defectsReverse", recurses := true, apart := false, narrowed := true }
def DefectsReverseUptoSaid : Prop := defectsReverseUptoRow.holds Tryz.pinned (OpenSpec.upto defectsReverseSpec)

/-- 'linkworklaw50.DefectsTwo', WHERE WHAT IT READS IS OF BULK AT MOST 1048576: true; the input reads as it did. -/
def defectsTwoUptoRow : OpenClaim := { program := "ytgednajkanfpaaagreat", sum := "3be2a1163dbe34346f7e0c3afff26a49c9aebd3b654064eaa5043da1d8cafe29", func := "linkwork/linkworklaw50.DefectsTwo", spec := "defectsTwo", recurses := true, apart := false, narrowed := true }
def DefectsTwoUptoSaid : Prop := defectsTwoUptoRow.holds Tryz.pinned (OpenSpec.upto defectsTwoSpec)

/-- 'linkworklaw50.DefectsWays', WHERE WHAT IT READS IS OF BULK AT MOST 1048576: true; the input reads as it did. -/
def defectsWaysUptoRow : OpenClaim := { program := "ytgednajkanfpaaagreat", sum := "3be2a1163dbe34346f7e0c3afff26a49c9aebd3b654064eaa5043da1d8cafe29", func := "linkwork/linkworklaw50.DefectsWays", spec := "defectsWays", recurses := true, apart := false, narrowed := true }
def DefectsWaysUptoSaid : Prop := defectsWaysUptoRow.holds Tryz.pinned (OpenSpec.upto defectsWaysSpec)

/-- 'linkworklaw50.DefectsInside', WHERE WHAT IT READS IS OF BULK AT MOST 1048576: true; the input reads as it did. -/
def defectsInsideUptoRow : OpenClaim := { program := "ytgednajkanfpaaagreat", sum := "3be2a1163dbe34346f7e0c3afff26a49c9aebd3b654064eaa5043da1d8cafe29", func := "linkwork/linkworklaw50.DefectsInside", spec := "defectsInside", recurses := true, apart := false, narrowed := true }
def DefectsInsideUptoSaid : Prop := defectsInsideUptoRow.holds Tryz.pinned (OpenSpec.upto defectsInsideSpec)

/-- 'linkworklaw50.DefectsMoved', WHERE WHAT IT READS IS OF BULK AT MOST 1048576: true; the input reads as it did. -/
def defectsMovedUptoRow : OpenClaim := { program := "ytgednajkanfpaaagreat", sum := "3be2a1163dbe34346f7e0c3afff26a49c9aebd3b654064eaa5043da1d8cafe29", func := "linkwork/linkworklaw50.DefectsMoved", spec := "defectsMoved", recurses := true, apart := false, narrowed := true }
def DefectsMovedUptoSaid : Prop := defectsMovedUptoRow.holds Tryz.pinned (OpenSpec.upto defectsMovedSpec)

end Rows
end Go.Proofs.YtgednajkanfpaaaGreat
