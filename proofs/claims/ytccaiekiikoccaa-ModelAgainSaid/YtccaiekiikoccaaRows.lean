/-
  No cell of these rows narrows 'for every input' (looked for: loops, veiled, ifaces, maps, wideKeys, modest, calm, conditions, laid).
  DERIVED. THE GIVEN ROWS OF THIS SEAT. 4 by the template 'for every input the law returns true; each argument reads behind the call as it read before'; 0 by the template 'total and deterministic' (their statements: YtccaiekiikoccaaTotals.lean).
  GIVEN WITH THE SEED: the statements are not yours to turn. If you find one false, say at which input.
  Laid BY PROGRAM, IN A SANDBOX (cutbox-rows.mjs): the forced cells as the released guide's own fill.sh prints them over the translation d940d9fb8d2f4f95… (all of the seat's roots in one cut). By AI agents, Wed Nov 11 2026. No macro, syntax, notation, axiom, sorry.
-/
import Derived.Test.YtccaiekiikoccaaChecked
import GoSem.Claim
import GoSem.ClaimJoined
import GoSem.ClaimMapViews
import Derived.JoinedTies
import Derived.KernelRfl
namespace Go.Proofs.Ytccaiekiikoccaa
/- THE CELL 'sum', in the pinned program and in every row, IS THE sha256 OF THE DUMP (.gsa) THAT YtccaiekiikoccaaProg.lean LOADS. Nothing in Lean hashes anything: it is a label: what it is worth is what the hold of that sum in a sandbox is worth. -/
noncomputable def Try.pinned : Pinned := { name := "ytccaiekiikoccaa", sum := "d940d9fb8d2f4f9500d1db1dbc516934d7466242f1cf08d93b0fdf683af5dbce", checked := Try.checked }
namespace Rows
def none {H : Type} : Left H := { results := [], args := [] }

/-- 'linkworklaw19.ModelSquares': WHATEVER THE INPUT: true; the input reads as it did. -/
def modelSquaresSpec : ChangeSpec := { name := "modelSquares", fn := fun _ => fun
  | [d1, d2] => { results := [.lit (.bool true)], args := [d1, d2] }
  | _ => none }
def modelSquaresRow : OpenClaim := { program := "ytccaiekiikoccaa", sum := "d940d9fb8d2f4f9500d1db1dbc516934d7466242f1cf08d93b0fdf683af5dbce", func := "linkwork/linkworklaw19.ModelSquares", spec := "modelSquares", apart := false }
def ModelSquaresSaid : Prop := modelSquaresRow.holds Try.pinned (OpenSpec.ofChange modelSquaresSpec)

/-- ITS FALSE NEIGHBOUR: 'it returns false'. Refute it at one input. -/
def modelSquaresWrong : ChangeSpec := { name := "modelSquares", fn := fun _ => fun
  | [d1, d2] => { results := [.lit (.bool false)], args := [d1, d2] }
  | _ => none }
def ModelSquaresWrongFalsely : Prop := modelSquaresRow.holds Try.pinned (OpenSpec.ofChange modelSquaresWrong)

/-- 'linkworklaw19.ModelAgain': WHATEVER THE INPUT: true; the input reads as it did. -/
def modelAgainSpec : ChangeSpec := { name := "modelAgain", fn := fun _ => fun
  | [d1, d2] => { results := [.lit (.bool true)], args := [d1, d2] }
  | _ => none }
def modelAgainRow : OpenClaim := { program := "ytccaiekiikoccaa", sum := "d940d9fb8d2f4f9500d1db1dbc516934d7466242f1cf08d93b0fdf683af5dbce", func := "linkwork/linkworklaw19.ModelAgain", spec := "modelAgain", apart := false }
def ModelAgainSaid : Prop := modelAgainRow.holds Try.pinned (OpenSpec.ofChange modelAgainSpec)

/-- ITS FALSE NEIGHBOUR: 'it returns false'. Refute it at one input. -/
def modelAgainWrong : ChangeSpec := { name := "modelAgain", fn := fun _ => fun
  | [d1, d2] => { results := [.lit (.bool false)], args := [d1, d2] }
  | _ => none }
def ModelAgainWrongFalsely : Prop := modelAgainRow.holds Try.pinned (OpenSpec.ofChange modelAgainWrong)

/-- 'linkworklaw19.ModelNames': WHATEVER THE INPUT: true; the input reads as it did. -/
def modelNamesSpec : ChangeSpec := { name := "modelNames", fn := fun _ => fun
  | [d] => { results := [.lit (.bool true)], args := [d] }
  | _ => none }
def modelNamesRow : OpenClaim := { program := "ytccaiekiikoccaa", sum := "d940d9fb8d2f4f9500d1db1dbc516934d7466242f1cf08d93b0fdf683af5dbce", func := "linkwork/linkworklaw19.ModelNames", spec := "modelNames", apart := false }
def ModelNamesSaid : Prop := modelNamesRow.holds Try.pinned (OpenSpec.ofChange modelNamesSpec)

/-- ITS FALSE NEIGHBOUR: 'it returns false'. Refute it at one input. -/
def modelNamesWrong : ChangeSpec := { name := "modelNames", fn := fun _ => fun
  | [d] => { results := [.lit (.bool false)], args := [d] }
  | _ => none }
def ModelNamesWrongFalsely : Prop := modelNamesRow.holds Try.pinned (OpenSpec.ofChange modelNamesWrong)

/-- 'linkworklaw19.ModelJoins': WHATEVER THE INPUT: true; the input reads as it did. -/
def modelJoinsSpec : ChangeSpec := { name := "modelJoins", fn := fun _ => fun
  | [d] => { results := [.lit (.bool true)], args := [d] }
  | _ => none }
def modelJoinsRow : OpenClaim := { program := "ytccaiekiikoccaa", sum := "d940d9fb8d2f4f9500d1db1dbc516934d7466242f1cf08d93b0fdf683af5dbce", func := "linkwork/linkworklaw19.ModelJoins", spec := "modelJoins", apart := false }
def ModelJoinsSaid : Prop := modelJoinsRow.holds Try.pinned (OpenSpec.ofChange modelJoinsSpec)

/-- ITS FALSE NEIGHBOUR: 'it returns false'. Refute it at one input. -/
def modelJoinsWrong : ChangeSpec := { name := "modelJoins", fn := fun _ => fun
  | [d] => { results := [.lit (.bool false)], args := [d] }
  | _ => none }
def ModelJoinsWrongFalsely : Prop := modelJoinsRow.holds Try.pinned (OpenSpec.ofChange modelJoinsWrong)

/- THE SECOND FORM. 'bulk': how many values and letters a reading holds, each counted each time it is reached (what is shared counts as often as it is met; a slice's spare places count too). A statement '..UptoSaid' is the law's where the arguments, and the package variables that the reading takes, are together of bulk at most 1048576: NARROWER than '..Said'. Prove '..Said' where nothing that the law and all that it calls make is longer than what came in: it says more and counts as full. Else prove '..UptoSaid'. A law counts once. -/
mutual
def uptoBulk {H : Type} : DataW H → Nat
  | .lit (.string bytes) => bytes.length + 1
  | .lit _ => 1
  | .nil => 1
  | .ptr d => uptoBulk d + 1
  | .slice elems spare => uptoBulkAll elems + uptoBulkAll spare + 1
  | .agg parts => uptoBulkAll parts + 1
  | .iface _ d => uptoBulk d + 1
  | .map entries => uptoBulkEntries entries + 1
  | .held _ => 1
def uptoBulkAll {H : Type} : List (DataW H) → Nat
  | [] => 0
  | d :: r => uptoBulk d + uptoBulkAll r
def uptoBulkEntries {H : Type} : List (Lit × DataW H) → Nat
  | [] => 0
  | x :: r => uptoBulkEntry x + uptoBulkEntries r
def uptoBulkEntry {H : Type} : Lit × DataW H → Nat
  | (.string bytes, d) => bytes.length + uptoBulk d + 1
  | (_, d) => uptoBulk d + 1
 end
def uptoSmall : (H : Type) → List (DataW H) → Bool := fun _ ds => decide (uptoBulkAll ds ≤ 1048576)
def OpenSpec.upto (s : _root_.Go.ChangeSpec) : _root_.Go.OpenSpec := { _root_.Go.OpenSpec.ofChange s with cond := some uptoSmall }

/-- 'linkworklaw19.ModelSquares', WHERE WHAT IT READS IS OF BULK AT MOST 1048576: true; the input reads as it did. -/
def modelSquaresUptoRow : OpenClaim := { program := "ytccaiekiikoccaa", sum := "d940d9fb8d2f4f9500d1db1dbc516934d7466242f1cf08d93b0fdf683af5dbce", func := "linkwork/linkworklaw19.ModelSquares", spec := "modelSquares", apart := false, narrowed := true }
def ModelSquaresUptoSaid : Prop := modelSquaresUptoRow.holds Try.pinned (OpenSpec.upto modelSquaresSpec)

/-- 'linkworklaw19.ModelAgain', WHERE WHAT IT READS IS OF BULK AT MOST 1048576: true; the input reads as it did. -/
def modelAgainUptoRow : OpenClaim := { program := "ytccaiekiikoccaa", sum := "d940d9fb8d2f4f9500d1db1dbc516934d7466242f1cf08d93b0fdf683af5dbce", func := "linkwork/linkworklaw19.ModelAgain", spec := "modelAgain", apart := false, narrowed := true }
def ModelAgainUptoSaid : Prop := modelAgainUptoRow.holds Try.pinned (OpenSpec.upto modelAgainSpec)

/-- 'linkworklaw19.ModelNames', WHERE WHAT IT READS IS OF BULK AT MOST 1048576: true; the input reads as it did. -/
def modelNamesUptoRow : OpenClaim := { program := "ytccaiekiikoccaa", sum := "d940d9fb8d2f4f9500d1db1dbc516934d7466242f1cf08d93b0fdf683af5dbce", func := "linkwork/linkworklaw19.ModelNames", spec := "modelNames", apart := false, narrowed := true }
def ModelNamesUptoSaid : Prop := modelNamesUptoRow.holds Try.pinned (OpenSpec.upto modelNamesSpec)

/-- 'linkworklaw19.ModelJoins', WHERE WHAT IT READS IS OF BULK AT MOST 1048576: true; the input reads as it did. -/
def modelJoinsUptoRow : OpenClaim := { program := "ytccaiekiikoccaa", sum := "d940d9fb8d2f4f9500d1db1dbc516934d7466242f1cf08d93b0fdf683af5dbce", func := "linkwork/linkworklaw19.ModelJoins", spec := "modelJoins", apart := false, narrowed := true }
def ModelJoinsUptoSaid : Prop := modelJoinsUptoRow.holds Try.pinned (OpenSpec.upto modelJoinsSpec)

end Rows
end Go.Proofs.Ytccaiekiikoccaa
