/-
  No cell of these rows narrows 'for every input' (looked for: loops, veiled, ifaces, maps, wideKeys, modest, calm, conditions, laid).
  DERIVED. THE GIVEN ROWS OF THIS SEAT. 6 by the template 'for every input the law returns true; each argument reads behind the call as it read before'; 0 by the template 'total and deterministic' (their statements: YtebpenldlefgjaaGreatTotals.lean).
  GIVEN WITH THE SEED: the statements are not yours to turn. If you find one false, say at which input.
  Laid BY PROGRAM, IN A SANDBOX (cutbox-rows.mjs): the forced cells as the released guide's own fill.sh prints them over the translation cdee3d7313ad02f7… (all of the seat's roots in one cut). By AI agents, Wed Nov 11 2026. No macro, syntax, notation, axiom, sorry.
-/
import Derived.Test.YtebpenldlefgjaaGreatChecked
import GoSem.Claim
import GoSem.ClaimJoined
import GoSem.ClaimMapViews
import Derived.JoinedTies
import Derived.KernelRfl
namespace Go.Proofs.YtebpenldlefgjaaGreat
/- THE CELL 'sum', in the pinned program and in every row, IS THE sha256 OF THE DUMP (.gsa) THAT YtebpenldlefgjaaGreatProg.lean LOADS. Nothing in Lean hashes anything: it is a label: what it is worth is what the hold of that sum in a sandbox is worth. -/
noncomputable def Tryz.pinned : Pinned := { name := "ytebpenldlefgjaagreat", sum := "cdee3d7313ad02f7f912489650d84d37d2928a85dd6a72bf43c85e92e452e572", checked := Tryz.checked }
namespace Rows
def none {H : Type} : Left H := { results := [], args := [] }

/-- 'linkworklaw24.MobilityLast': WHATEVER THE INPUT: true; the input reads as it did. -/
def mobilityLastSpec : ChangeSpec := { name := "mobilityLast", fn := fun _ => fun
  | [d1, d2] => { results := [.lit (.bool true)], args := [d1, d2] }
  | _ => none }
def mobilityLastRow : OpenClaim := { program := "ytebpenldlefgjaagreat", sum := "cdee3d7313ad02f7f912489650d84d37d2928a85dd6a72bf43c85e92e452e572", func := "linkwork/linkworklaw24.MobilityLast", spec := "mobilityLast", unfollowed := true, recurses := true, apart := false }
def MobilityLastSaid : Prop := mobilityLastRow.holds Tryz.pinned (OpenSpec.ofChange mobilityLastSpec)

/-- ITS FALSE NEIGHBOUR: 'it returns false'. Refute it at one input. -/
def mobilityLastWrong : ChangeSpec := { name := "mobilityLast", fn := fun _ => fun
  | [d1, d2] => { results := [.lit (.bool false)], args := [d1, d2] }
  | _ => none }
def MobilityLastWrongFalsely : Prop := mobilityLastRow.holds Tryz.pinned (OpenSpec.ofChange mobilityLastWrong)

/-- 'linkworklaw24.MobilityMatrix': WHATEVER THE INPUT: true; the input reads as it did. -/
def mobilityMatrixSpec : ChangeSpec := { name := "mobilityMatrix", fn := fun _ => fun
  | [d1, d2] => { results := [.lit (.bool true)], args := [d1, d2] }
  | _ => none }
def mobilityMatrixRow : OpenClaim := { program := "ytebpenldlefgjaagreat", sum := "cdee3d7313ad02f7f912489650d84d37d2928a85dd6a72bf43c85e92e452e572", func := "linkwork/linkworklaw24.MobilityMatrix", spec := "mobilityMatrix", unfollowed := true, recurses := true, apart := false }
def MobilityMatrixSaid : Prop := mobilityMatrixRow.holds Tryz.pinned (OpenSpec.ofChange mobilityMatrixSpec)

/-- ITS FALSE NEIGHBOUR: 'it returns false'. Refute it at one input. -/
def mobilityMatrixWrong : ChangeSpec := { name := "mobilityMatrix", fn := fun _ => fun
  | [d1, d2] => { results := [.lit (.bool false)], args := [d1, d2] }
  | _ => none }
def MobilityMatrixWrongFalsely : Prop := mobilityMatrixRow.holds Tryz.pinned (OpenSpec.ofChange mobilityMatrixWrong)

/-- 'linkworklaw24.MobilitySums': WHATEVER THE INPUT: true; the input reads as it did. -/
def mobilitySumsSpec : ChangeSpec := { name := "mobilitySums", fn := fun _ => fun
  | [d1, d2] => { results := [.lit (.bool true)], args := [d1, d2] }
  | _ => none }
def mobilitySumsRow : OpenClaim := { program := "ytebpenldlefgjaagreat", sum := "cdee3d7313ad02f7f912489650d84d37d2928a85dd6a72bf43c85e92e452e572", func := "linkwork/linkworklaw24.MobilitySums", spec := "mobilitySums", unfollowed := true, recurses := true, apart := false }
def MobilitySumsSaid : Prop := mobilitySumsRow.holds Tryz.pinned (OpenSpec.ofChange mobilitySumsSpec)

/-- ITS FALSE NEIGHBOUR: 'it returns false'. Refute it at one input. -/
def mobilitySumsWrong : ChangeSpec := { name := "mobilitySums", fn := fun _ => fun
  | [d1, d2] => { results := [.lit (.bool false)], args := [d1, d2] }
  | _ => none }
def MobilitySumsWrongFalsely : Prop := mobilitySumsRow.holds Tryz.pinned (OpenSpec.ofChange mobilitySumsWrong)

/-- 'linkworklaw24.MobilityRanks': WHATEVER THE INPUT: true; the input reads as it did. -/
def mobilityRanksSpec : ChangeSpec := { name := "mobilityRanks", fn := fun _ => fun
  | [d1, d2] => { results := [.lit (.bool true)], args := [d1, d2] }
  | _ => none }
def mobilityRanksRow : OpenClaim := { program := "ytebpenldlefgjaagreat", sum := "cdee3d7313ad02f7f912489650d84d37d2928a85dd6a72bf43c85e92e452e572", func := "linkwork/linkworklaw24.MobilityRanks", spec := "mobilityRanks", unfollowed := true, recurses := true, apart := false }
def MobilityRanksSaid : Prop := mobilityRanksRow.holds Tryz.pinned (OpenSpec.ofChange mobilityRanksSpec)

/-- ITS FALSE NEIGHBOUR: 'it returns false'. Refute it at one input. -/
def mobilityRanksWrong : ChangeSpec := { name := "mobilityRanks", fn := fun _ => fun
  | [d1, d2] => { results := [.lit (.bool false)], args := [d1, d2] }
  | _ => none }
def MobilityRanksWrongFalsely : Prop := mobilityRanksRow.holds Tryz.pinned (OpenSpec.ofChange mobilityRanksWrong)

/-- 'linkworklaw24.MobilityBounds': WHATEVER THE INPUT: true; the input reads as it did. -/
def mobilityBoundsSpec : ChangeSpec := { name := "mobilityBounds", fn := fun _ => fun
  | [d1, d2] => { results := [.lit (.bool true)], args := [d1, d2] }
  | _ => none }
def mobilityBoundsRow : OpenClaim := { program := "ytebpenldlefgjaagreat", sum := "cdee3d7313ad02f7f912489650d84d37d2928a85dd6a72bf43c85e92e452e572", func := "linkwork/linkworklaw24.MobilityBounds", spec := "mobilityBounds", unfollowed := true, recurses := true, apart := false }
def MobilityBoundsSaid : Prop := mobilityBoundsRow.holds Tryz.pinned (OpenSpec.ofChange mobilityBoundsSpec)

/-- ITS FALSE NEIGHBOUR: 'it returns false'. Refute it at one input. -/
def mobilityBoundsWrong : ChangeSpec := { name := "mobilityBounds", fn := fun _ => fun
  | [d1, d2] => { results := [.lit (.bool false)], args := [d1, d2] }
  | _ => none }
def MobilityBoundsWrongFalsely : Prop := mobilityBoundsRow.holds Tryz.pinned (OpenSpec.ofChange mobilityBoundsWrong)

/-- 'linkworklaw24.MobilityTwice': WHATEVER THE INPUT: true; the input reads as it did. -/
def mobilityTwiceSpec : ChangeSpec := { name := "mobilityTwice", fn := fun _ => fun
  | [d1, d2, d3] => { results := [.lit (.bool true)], args := [d1, d2, d3] }
  | _ => none }
def mobilityTwiceRow : OpenClaim := { program := "ytebpenldlefgjaagreat", sum := "cdee3d7313ad02f7f912489650d84d37d2928a85dd6a72bf43c85e92e452e572", func := "linkwork/linkworklaw24.MobilityTwice", spec := "mobilityTwice", unfollowed := true, recurses := true, apart := false }
def MobilityTwiceSaid : Prop := mobilityTwiceRow.holds Tryz.pinned (OpenSpec.ofChange mobilityTwiceSpec)

/-- ITS FALSE NEIGHBOUR: 'it returns false'. Refute it at one input. -/
def mobilityTwiceWrong : ChangeSpec := { name := "mobilityTwice", fn := fun _ => fun
  | [d1, d2, d3] => { results := [.lit (.bool false)], args := [d1, d2, d3] }
  | _ => none }
def MobilityTwiceWrongFalsely : Prop := mobilityTwiceRow.holds Tryz.pinned (OpenSpec.ofChange mobilityTwiceWrong)

/- THE SECOND FORM. 'bulk': how many values and letters a reading holds, each counted each time it is reached (what is shared counts as often as it is met; a slice's spare places count too). A statement '..UptoSaid' is the law's where the arguments, and the package variables that the reading takes, are together of bulk at most 1048576: NARROWER than '..Said'. Prove '..Said' where nothing that the law and all that it calls make is longer than what came in: it says more and counts as full. Else prove '..UptoSaid'. A law counts once. -/
mutual
def uptoBulk {H : Type} : DataW H → Nat
  | .lit (.string bytes) => bytes.length + 1
  | .lit _ => 1
  | .nil => 1
  | .ptr d => uptoBulk d + 1
  | .slice elems spare => uptoBulkAll elems + uptoBulkAll spare + 1
  | .agg parts => uptoBulkAll parts + 1
  | .iface _ d => uptoBulk d + 1
  | .map entries => uptoBulkEntries entries + 1
  | .held _ => 1
def uptoBulkAll {H : Type} : List (DataW H) → Nat
  | [] => 0
  | d :: r => uptoBulk d + uptoBulkAll r
def uptoBulkEntries {H : Type} : List (Lit × DataW H) → Nat
  | [] => 0
  | x :: r => uptoBulkEntry x + uptoBulkEntries r
def uptoBulkEntry {H : Type} : Lit × DataW H → Nat
  | (.string bytes, d) => bytes.length + uptoBulk d + 1
  | (_, d) => uptoBulk d + 1
 end
def uptoSmall : (H : Type) → List (DataW H) → Bool := fun _ ds => decide (uptoBulkAll ds ≤ 1048576)
def OpenSpec.upto (s : _root_.Go.ChangeSpec) : _root_.Go.OpenSpec := { _root_.Go.OpenSpec.ofChange s with cond := some uptoSmall }

/-- 'linkworklaw24.MobilityLast', WHERE WHAT IT READS IS OF BULK AT MOST 1048576: true; the input reads as it did. -/
def mobilityLastUptoRow : OpenClaim := { program := "ytebpenldlefgjaagreat", sum := "cdee3d7313ad02f7f912489650d84d37d2928a85dd6a72bf43c85e92e452e572", func := "linkwork/linkworklaw24.MobilityLast", spec := "mobilityLast", unfollowed := true, recurses := true, apart := false, narrowed := true }
def MobilityLastUptoSaid : Prop := mobilityLastUptoRow.holds Tryz.pinned (OpenSpec.upto mobilityLastSpec)

/-- 'linkworklaw24.MobilityMatrix', WHERE WHAT IT READS IS OF BULK AT MOST 1048576: true; the input reads as it did. -/
def mobilityMatrixUptoRow : OpenClaim := { program := "ytebpenldlefgjaagreat", sum := "cdee3d7313ad02f7f912489650d84d37d2928a85dd6a72bf43c85e92e452e572", func := "linkwork/linkworklaw24.MobilityMatrix", spec := "mobilityMatrix", unfollowed := true, recurses := true, apart := false, narrowed := true }
def MobilityMatrixUptoSaid : Prop := mobilityMatrixUptoRow.holds Tryz.pinned (OpenSpec.upto mobilityMatrixSpec)

/-- 'linkworklaw24.MobilitySums', WHERE WHAT IT READS IS OF BULK AT MOST 1048576: true; the input reads as it did. -/
def mobilitySumsUptoRow : OpenClaim := { program := "ytebpenldlefgjaagreat", sum := "cdee3d7313ad02f7f912489650d84d37d2928a85dd6a72bf43c85e92e452e572", func := "linkwork/linkworklaw24.MobilitySums", spec := "mobilitySums", unfollowed := true, recurses := true, apart := false, narrowed := true }
def MobilitySumsUptoSaid : Prop := mobilitySumsUptoRow.holds Tryz.pinned (OpenSpec.upto mobilitySumsSpec)

/-- 'linkworklaw24.MobilityRanks', WHERE WHAT IT READS IS OF BULK AT MOST 1048576: true; the input reads as it did. -/
def mobilityRanksUptoRow : OpenClaim := { program := "ytebpenldlefgjaagreat", sum := "cdee3d7313ad02f7f912489650d84d37d2928a85dd6a72bf43c85e92e452e572", func := "linkwork/linkworklaw24.MobilityRanks", spec := "mobilityRanks", unfollowed := true, recurses := true, apart := false, narrowed := true }
def MobilityRanksUptoSaid : Prop := mobilityRanksUptoRow.holds Tryz.pinned (OpenSpec.upto mobilityRanksSpec)

/-- 'linkworklaw24.MobilityBounds', WHERE WHAT IT READS IS OF BULK AT MOST 1048576: true; the input reads as it did. -/
def mobilityBoundsUptoRow : OpenClaim := { program := "ytebpenldlefgjaagreat", sum := "cdee3d7313ad02f7f912489650d84d37d2928a85dd6a72bf43c85e92e452e572", func := "linkwork/linkworklaw24.MobilityBounds", spec := "mobilityBounds", unfollowed := true, recurses := true, apart := false, narrowed := true }
def MobilityBoundsUptoSaid : Prop := mobilityBoundsUptoRow.holds Tryz.pinned (OpenSpec.upto mobilityBoundsSpec)

/-- 'linkworklaw24.MobilityTwice', WHERE WHAT IT READS IS OF BULK AT MOST 1048576: true; the input reads as it did. -/
def mobilityTwiceUptoRow : OpenClaim := { program := "ytebpenldlefgjaagreat", sum := "cdee3d7313ad02f7f912489650d84d37d2928a85dd6a72bf43c85e92e452e572", func := "linkwork/linkworklaw24.MobilityTwice", spec := "mobilityTwice", unfollowed := true, recurses := true, apart := false, narrowed := true }
def MobilityTwiceUptoSaid : Prop := mobilityTwiceUptoRow.holds Tryz.pinned (OpenSpec.upto mobilityTwiceSpec)

end Rows
end Go.Proofs.YtebpenldlefgjaaGreat
