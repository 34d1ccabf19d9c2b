/-
  No cell of these rows narrows 'for every input' (looked for: loops, veiled, ifaces, maps, wideKeys, modest, calm, conditions, laid).
  DERIVED. THE GIVEN ROWS OF THIS SEAT. 4 by the template 'for every input the law returns true; each argument reads behind the call as it read before'; 0 by the template 'total and deterministic' (their statements: YtockcpjjfcdopaaTotals.lean).
  GIVEN WITH THE SEED: the statements are not yours to turn. If you find one false, say at which input.
  Laid BY PROGRAM, IN A SANDBOX (cutbox-rows.mjs): the forced cells as the released guide's own fill.sh prints them over the translation e8592ea1d5d2ede6… (all of the seat's roots in one cut). By AI agents, Wed Nov 11 2026. No macro, syntax, notation, axiom, sorry.
-/
import Derived.Test.YtockcpjjfcdopaaChecked
import GoSem.Claim
import GoSem.ClaimJoined
import GoSem.ClaimMapViews
import Derived.JoinedTies
import Derived.KernelRfl
namespace Go.Proofs.Ytockcpjjfcdopaa
/- THE CELL 'sum', in the pinned program and in every row, IS THE sha256 OF THE DUMP (.gsa) THAT YtockcpjjfcdopaaProg.lean LOADS. Nothing in Lean hashes anything: it is a label: what it is worth is what the hold of that sum in a sandbox is worth. -/
noncomputable def Try.pinned : Pinned := { name := "ytockcpjjfcdopaa", sum := "e8592ea1d5d2ede60343192e80d86c0eb16538e7bee4a828a5a13bb78237d666", checked := Try.checked }
namespace Rows
def none {H : Type} : Left H := { results := [], args := [] }

/-- 'linkworklaw51.GearScales': WHATEVER THE INPUT: true; the input reads as it did. -/
def gearScalesSpec : ChangeSpec := { name := "gearScales", fn := fun _ => fun
  | [d1, d2] => { results := [.lit (.bool true)], args := [d1, d2] }
  | _ => none }
def gearScalesRow : OpenClaim := { program := "ytockcpjjfcdopaa", sum := "e8592ea1d5d2ede60343192e80d86c0eb16538e7bee4a828a5a13bb78237d666", func := "linkwork/linkworklaw51.GearScales", spec := "gearScales", recurses := true, apart := false }
def GearScalesSaid : Prop := gearScalesRow.holds Try.pinned (OpenSpec.ofChange gearScalesSpec)

/-- ITS FALSE NEIGHBOUR: 'it returns false'. Refute it at one input. -/
def gearScalesWrong : ChangeSpec := { name := "gearScales", fn := fun _ => fun
  | [d1, d2] => { results := [.lit (.bool false)], args := [d1, d2] }
  | _ => none }
def GearScalesWrongFalsely : Prop := gearScalesRow.holds Try.pinned (OpenSpec.ofChange gearScalesWrong)

/-- 'linkworklaw51.GearTurns': WHATEVER THE INPUT: true; the input reads as it did. -/
def gearTurnsSpec : ChangeSpec := { name := "gearTurns", fn := fun _ => fun
  | [d1, d2, d3] => { results := [.lit (.bool true)], args := [d1, d2, d3] }
  | _ => none }
def gearTurnsRow : OpenClaim := { program := "ytockcpjjfcdopaa", sum := "e8592ea1d5d2ede60343192e80d86c0eb16538e7bee4a828a5a13bb78237d666", func := "linkwork/linkworklaw51.GearTurns", spec := "gearTurns", recurses := true, apart := false }
def GearTurnsSaid : Prop := gearTurnsRow.holds Try.pinned (OpenSpec.ofChange gearTurnsSpec)

/-- ITS FALSE NEIGHBOUR: 'it returns false'. Refute it at one input. -/
def gearTurnsWrong : ChangeSpec := { name := "gearTurns", fn := fun _ => fun
  | [d1, d2, d3] => { results := [.lit (.bool false)], args := [d1, d2, d3] }
  | _ => none }
def GearTurnsWrongFalsely : Prop := gearTurnsRow.holds Try.pinned (OpenSpec.ofChange gearTurnsWrong)

/-- 'linkworklaw51.GearChains': WHATEVER THE INPUT: true; the input reads as it did. -/
def gearChainsSpec : ChangeSpec := { name := "gearChains", fn := fun _ => fun
  | [d] => { results := [.lit (.bool true)], args := [d] }
  | _ => none }
def gearChainsRow : OpenClaim := { program := "ytockcpjjfcdopaa", sum := "e8592ea1d5d2ede60343192e80d86c0eb16538e7bee4a828a5a13bb78237d666", func := "linkwork/linkworklaw51.GearChains", spec := "gearChains", recurses := true, apart := false }
def GearChainsSaid : Prop := gearChainsRow.holds Try.pinned (OpenSpec.ofChange gearChainsSpec)

/-- ITS FALSE NEIGHBOUR: 'it returns false'. Refute it at one input. -/
def gearChainsWrong : ChangeSpec := { name := "gearChains", fn := fun _ => fun
  | [d] => { results := [.lit (.bool false)], args := [d] }
  | _ => none }
def GearChainsWrongFalsely : Prop := gearChainsRow.holds Try.pinned (OpenSpec.ofChange gearChainsWrong)

/-- 'linkworklaw51.GearOnly': WHATEVER THE INPUT: true; the input reads as it did. -/
def gearOnlySpec : ChangeSpec := { name := "gearOnly", fn := fun _ => fun
  | [d1, d2] => { results := [.lit (.bool true)], args := [d1, d2] }
  | _ => none }
def gearOnlyRow : OpenClaim := { program := "ytockcpjjfcdopaa", sum := "e8592ea1d5d2ede60343192e80d86c0eb16538e7bee4a828a5a13bb78237d666", func := "linkwork/linkworklaw51.GearOnly", spec := "gearOnly", recurses := true, apart := false }
def GearOnlySaid : Prop := gearOnlyRow.holds Try.pinned (OpenSpec.ofChange gearOnlySpec)

/-- ITS FALSE NEIGHBOUR: 'it returns false'. Refute it at one input. -/
def gearOnlyWrong : ChangeSpec := { name := "gearOnly", fn := fun _ => fun
  | [d1, d2] => { results := [.lit (.bool false)], args := [d1, d2] }
  | _ => none }
def GearOnlyWrongFalsely : Prop := gearOnlyRow.holds Try.pinned (OpenSpec.ofChange gearOnlyWrong)

/- THE SECOND FORM. 'bulk': how many values and letters a reading holds, each counted each time it is reached (what is shared counts as often as it is met; a slice's spare places count too). A statement '..UptoSaid' is the law's where the arguments, and the package variables that the reading takes, are together of bulk at most 1048576: NARROWER than '..Said'. Prove '..Said' where nothing that the law and all that it calls make is longer than what came in: it says more and counts as full. Else prove '..UptoSaid'. A law counts once. -/
mutual
def uptoBulk {H : Type} : DataW H → Nat
  | .lit (.string bytes) => bytes.length + 1
  | .lit _ => 1
  | .nil => 1
  | .ptr d => uptoBulk d + 1
  | .slice elems spare => uptoBulkAll elems + uptoBulkAll spare + 1
  | .agg parts => uptoBulkAll parts + 1
  | .iface _ d => uptoBulk d + 1
  | .map entries => uptoBulkEntries entries + 1
  | .held _ => 1
def uptoBulkAll {H : Type} : List (DataW H) → Nat
  | [] => 0
  | d :: r => uptoBulk d + uptoBulkAll r
def uptoBulkEntries {H : Type} : List (Lit × DataW H) → Nat
  | [] => 0
  | x :: r => uptoBulkEntry x + uptoBulkEntries r
def uptoBulkEntry {H : Type} : Lit × DataW H → Nat
  | (.string bytes, d) => bytes.length + uptoBulk d + 1
  | (_, d) => uptoBulk d + 1
 end
def uptoSmall : (H : Type) → List (DataW H) → Bool := fun _ ds => decide (uptoBulkAll ds ≤ 1048576)
def OpenSpec.upto (s : _root_.Go.ChangeSpec) : _root_.Go.OpenSpec := { _root_.Go.OpenSpec.ofChange s with cond := some uptoSmall }

/-- 'linkworklaw51.GearScales', WHERE WHAT IT READS IS OF BULK AT MOST 1048576: true; the input reads as it did. -/
def gearScalesUptoRow : OpenClaim := { program := "ytockcpjjfcdopaa", sum := "e8592ea1d5d2ede60343192e80d86c0eb16538e7bee4a828a5a13bb78237d666", func := "linkwork/linkworklaw51.GearScales", spec := "gearScales", recurses := true, apart := false, narrowed := true }
def GearScalesUptoSaid : Prop := gearScalesUptoRow.holds Try.pinned (OpenSpec.upto gearScalesSpec)

/-- 'linkworklaw51.GearTurns', WHERE WHAT IT READS IS OF BULK AT MOST 1048576: true; the input reads as it did. -/
def gearTurnsUptoRow : OpenClaim := { program := "ytockcpjjfcdopaa", sum := "e8592ea1d5d2ede60343192e80d86c0eb16538e7bee4a828a5a13bb78237d666", func := "linkwork/linkworklaw51.GearTurns", spec := "gearTurns", recurses := true, apart := false, narrowed := true }
def GearTurnsUptoSaid : Prop := gearTurnsUptoRow.holds Try.pinned (OpenSpec.upto gearTurnsSpec)

/-- 'linkworklaw51.GearChains', WHERE WHAT IT READS IS OF BULK AT MOST 1048576: true; the input reads as it did. -/
def gearChainsUptoRow : OpenClaim := { program := "ytockcpjjfcdopaa", sum := "e8592ea1d5d2ede60343192e80d86c0eb16538e7bee4a828a5a13bb78237d666", func := "linkwork/linkworklaw51.GearChains", spec := "gearChains", recurses := true, apart := false, narrowed := true }
def GearChainsUptoSaid : Prop := gearChainsUptoRow.holds Try.pinned (OpenSpec.upto gearChainsSpec)

/-- 'linkworklaw51.GearOnly', WHERE WHAT IT READS IS OF BULK AT MOST 1048576: true; the input reads as it did. -/
def gearOnlyUptoRow : OpenClaim := { program := "ytockcpjjfcdopaa", sum := "e8592ea1d5d2ede60343192e80d86c0eb16538e7bee4a828a5a13bb78237d666", func := "linkwork/linkworklaw51.GearOnly", spec := "gearOnly", recurses := true, apart := false, narrowed := true }
def GearOnlyUptoSaid : Prop := gearOnlyUptoRow.holds Try.pinned (OpenSpec.upto gearOnlySpec)

end Rows
end Go.Proofs.Ytockcpjjfcdopaa
