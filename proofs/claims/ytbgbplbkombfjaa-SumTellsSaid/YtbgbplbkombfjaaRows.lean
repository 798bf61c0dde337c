/-
  No cell of these rows narrows 'for every input' (looked for: loops, veiled, ifaces, maps, wideKeys, modest, calm, conditions, laid).
  DERIVED. THE GIVEN ROWS OF THIS SEAT. 5 by the template 'for every input the law returns true; each argument reads behind the call as it read before'; 0 by the template 'total and deterministic' (their statements: YtbgbplbkombfjaaTotals.lean).
  GIVEN WITH THE SEED: the statements are not yours to turn. If you find one false, say at which input.
  Laid BY PROGRAM, IN A SANDBOX (cutbox-rows.mjs): the forced cells as the released guide's own fill.sh prints them over the translation 7b948fcc4c8efa69… (all of the seat's roots in one cut). By AI agents, Wed Nov 11 2026. No macro, syntax, notation, axiom, sorry.
-/
import Derived.Test.YtbgbplbkombfjaaChecked
import GoSem.Claim
import GoSem.ClaimJoined
import GoSem.ClaimMapViews
import Derived.JoinedTies
import Derived.KernelRfl
namespace Go.Proofs.Ytbgbplbkombfjaa
/- THE CELL 'sum', in the pinned program and in every row, IS THE sha256 OF THE DUMP (.gsa) THAT YtbgbplbkombfjaaProg.lean LOADS. Nothing in Lean hashes anything: it is a label: what it is worth is what the hold of that sum in a sandbox is worth. -/
noncomputable def Try.pinned : Pinned := { name := "ytbgbplbkombfjaa", sum := "7b948fcc4c8efa69ee222ae00eaa7878bb395d46becb357f2679e3a5e33a8bbf", checked := Try.checked }
namespace Rows
def none {H : Type} : Left H := { results := [], args := [] }

/-- 'rivuletlaw2.SumMoves': WHATEVER THE INPUT: true; the input reads as it did. -/
def sumMovesSpec : ChangeSpec := { name := "sumMoves", fn := fun _ => fun
  | [d1, d2] => { results := [.lit (.bool true)], args := [d1, d2] }
  | _ => none }
def sumMovesRow : OpenClaim := { program := "ytbgbplbkombfjaa", sum := "7b948fcc4c8efa69ee222ae00eaa7878bb395d46becb357f2679e3a5e33a8bbf", func := "rivulet/rivuletlaw2.SumMoves", spec := "sumMoves", apart := false }
def SumMovesSaid : Prop := sumMovesRow.holds Try.pinned (OpenSpec.ofChange sumMovesSpec)

/-- ITS FALSE NEIGHBOUR: 'it returns false'. Refute it at one input. -/
def sumMovesWrong : ChangeSpec := { name := "sumMoves", fn := fun _ => fun
  | [d1, d2] => { results := [.lit (.bool false)], args := [d1, d2] }
  | _ => none }
def SumMovesWrongFalsely : Prop := sumMovesRow.holds Try.pinned (OpenSpec.ofChange sumMovesWrong)

/-- 'rivuletlaw2.SumOdd': WHATEVER THE INPUT: true; the input reads as it did. -/
def sumOddSpec : ChangeSpec := { name := "sumOdd", fn := fun _ => fun
  | [d1, d2] => { results := [.lit (.bool true)], args := [d1, d2] }
  | _ => none }
def sumOddRow : OpenClaim := { program := "ytbgbplbkombfjaa", sum := "7b948fcc4c8efa69ee222ae00eaa7878bb395d46becb357f2679e3a5e33a8bbf", func := "rivulet/rivuletlaw2.SumOdd", spec := "sumOdd", apart := false }
def SumOddSaid : Prop := sumOddRow.holds Try.pinned (OpenSpec.ofChange sumOddSpec)

/-- ITS FALSE NEIGHBOUR: 'it returns false'. Refute it at one input. -/
def sumOddWrong : ChangeSpec := { name := "sumOdd", fn := fun _ => fun
  | [d1, d2] => { results := [.lit (.bool false)], args := [d1, d2] }
  | _ => none }
def SumOddWrongFalsely : Prop := sumOddRow.holds Try.pinned (OpenSpec.ofChange sumOddWrong)

/-- 'rivuletlaw2.SumOwn': WHATEVER THE INPUT: true; the input reads as it did. -/
def sumOwnSpec : ChangeSpec := { name := "sumOwn", fn := fun _ => fun
  | [d1, d2] => { results := [.lit (.bool true)], args := [d1, d2] }
  | _ => none }
def sumOwnRow : OpenClaim := { program := "ytbgbplbkombfjaa", sum := "7b948fcc4c8efa69ee222ae00eaa7878bb395d46becb357f2679e3a5e33a8bbf", func := "rivulet/rivuletlaw2.SumOwn", spec := "sumOwn", apart := false }
def SumOwnSaid : Prop := sumOwnRow.holds Try.pinned (OpenSpec.ofChange sumOwnSpec)

/-- ITS FALSE NEIGHBOUR: 'it returns false'. Refute it at one input. -/
def sumOwnWrong : ChangeSpec := { name := "sumOwn", fn := fun _ => fun
  | [d1, d2] => { results := [.lit (.bool false)], args := [d1, d2] }
  | _ => none }
def SumOwnWrongFalsely : Prop := sumOwnRow.holds Try.pinned (OpenSpec.ofChange sumOwnWrong)

/-- 'rivuletlaw2.SumSays': WHATEVER THE INPUT: true; the input reads as it did. -/
def sumSaysSpec : ChangeSpec := { name := "sumSays", fn := fun _ => fun
  | [d1, d2] => { results := [.lit (.bool true)], args := [d1, d2] }
  | _ => none }
def sumSaysRow : OpenClaim := { program := "ytbgbplbkombfjaa", sum := "7b948fcc4c8efa69ee222ae00eaa7878bb395d46becb357f2679e3a5e33a8bbf", func := "rivulet/rivuletlaw2.SumSays", spec := "sumSays", apart := false }
def SumSaysSaid : Prop := sumSaysRow.holds Try.pinned (OpenSpec.ofChange sumSaysSpec)

/-- ITS FALSE NEIGHBOUR: 'it returns false'. Refute it at one input. -/
def sumSaysWrong : ChangeSpec := { name := "sumSays", fn := fun _ => fun
  | [d1, d2] => { results := [.lit (.bool false)], args := [d1, d2] }
  | _ => none }
def SumSaysWrongFalsely : Prop := sumSaysRow.holds Try.pinned (OpenSpec.ofChange sumSaysWrong)

/-- 'rivuletlaw2.SumTells': WHATEVER THE INPUT: true; the input reads as it did. -/
def sumTellsSpec : ChangeSpec := { name := "sumTells", fn := fun _ => fun
  | [d1, d2, d3] => { results := [.lit (.bool true)], args := [d1, d2, d3] }
  | _ => none }
def sumTellsRow : OpenClaim := { program := "ytbgbplbkombfjaa", sum := "7b948fcc4c8efa69ee222ae00eaa7878bb395d46becb357f2679e3a5e33a8bbf", func := "rivulet/rivuletlaw2.SumTells", spec := "sumTells", apart := false }
def SumTellsSaid : Prop := sumTellsRow.holds Try.pinned (OpenSpec.ofChange sumTellsSpec)

/-- ITS FALSE NEIGHBOUR: 'it returns false'. Refute it at one input. -/
def sumTellsWrong : ChangeSpec := { name := "sumTells", fn := fun _ => fun
  | [d1, d2, d3] => { results := [.lit (.bool false)], args := [d1, d2, d3] }
  | _ => none }
def SumTellsWrongFalsely : Prop := sumTellsRow.holds Try.pinned (OpenSpec.ofChange sumTellsWrong)

/- THE SECOND FORM. 'bulk': how many values and letters a reading holds, each counted each time it is reached (what is shared counts as often as it is met; a slice's spare places count too). A statement '..UptoSaid' is the law's where the arguments, and the package variables that the reading takes, are together of bulk at most 1048576: NARROWER than '..Said'. Prove '..Said' where nothing that the law and all that it calls make is longer than what came in: it says more and counts as full. Else prove '..UptoSaid'. A law counts once. -/
mutual
def uptoBulk {H : Type} : DataW H → Nat
  | .lit (.string bytes) => bytes.length + 1
  | .lit _ => 1
  | .nil => 1
  | .ptr d => uptoBulk d + 1
  | .slice elems spare => uptoBulkAll elems + uptoBulkAll spare + 1
  | .agg parts => uptoBulkAll parts + 1
  | .iface _ d => uptoBulk d + 1
  | .map entries => uptoBulkEntries entries + 1
  | .held _ => 1
def uptoBulkAll {H : Type} : List (DataW H) → Nat
  | [] => 0
  | d :: r => uptoBulk d + uptoBulkAll r
def uptoBulkEntries {H : Type} : List (Lit × DataW H) → Nat
  | [] => 0
  | x :: r => uptoBulkEntry x + uptoBulkEntries r
def uptoBulkEntry {H : Type} : Lit × DataW H → Nat
  | (.string bytes, d) => bytes.length + uptoBulk d + 1
  | (_, d) => uptoBulk d + 1
 end
def uptoSmall : (H : Type) → List (DataW H) → Bool := fun _ ds => decide (uptoBulkAll ds ≤ 1048576)
def OpenSpec.upto (s : _root_.Go.ChangeSpec) : _root_.Go.OpenSpec := { _root_.Go.OpenSpec.ofChange s with cond := some uptoSmall }

/-- 'rivuletlaw2.SumMoves', WHERE WHAT IT READS IS OF BULK AT MOST 1048576: true; the input reads as it did. -/
def sumMovesUptoRow : OpenClaim := { program := "ytbgbplbkombfjaa", sum := "7b948fcc4c8efa69ee222ae00eaa7878bb395d46becb357f2679e3a5e33a8bbf", func := "rivulet/rivuletlaw2.SumMoves", spec := "sumMoves", apart := false, narrowed := true }
def SumMovesUptoSaid : Prop := sumMovesUptoRow.holds Try.pinned (OpenSpec.upto sumMovesSpec)

/-- 'rivuletlaw2.SumOdd', WHERE WHAT IT READS IS OF BULK AT MOST 1048576: true; the input reads as it did. -/
def sumOddUptoRow : OpenClaim := { program := "ytbgbplbkombfjaa", sum := "7b948fcc4c8efa69ee222ae00eaa7878bb395d46becb357f2679e3a5e33a8bbf", func := "rivulet/rivuletlaw2.SumOdd", spec := "sumOdd", apart := false, narrowed := true }
def SumOddUptoSaid : Prop := sumOddUptoRow.holds Try.pinned (OpenSpec.upto sumOddSpec)

/-- 'rivuletlaw2.SumOwn', WHERE WHAT IT READS IS OF BULK AT MOST 1048576: true; the input reads as it did. -/
def sumOwnUptoRow : OpenClaim := { program := "ytbgbplbkombfjaa", sum := "7b948fcc4c8efa69ee222ae00eaa7878bb395d46becb357f2679e3a5e33a8bbf", func := "rivulet/rivuletlaw2.SumOwn", spec := "sumOwn", apart := false, narrowed := true }
def SumOwnUptoSaid : Prop := sumOwnUptoRow.holds Try.pinned (OpenSpec.upto sumOwnSpec)

/-- 'rivuletlaw2.SumSays', WHERE WHAT IT READS IS OF BULK AT MOST 1048576: true; the input reads as it did. -/
def sumSaysUptoRow : OpenClaim := { program := "ytbgbplbkombfjaa", sum := "7b948fcc4c8efa69ee222ae00eaa7878bb395d46becb357f2679e3a5e33a8bbf", func := "rivulet/rivuletlaw2.SumSays", spec := "sumSays", apart := false, narrowed := true }
def SumSaysUptoSaid : Prop := sumSaysUptoRow.holds Try.pinned (OpenSpec.upto sumSaysSpec)

/-- 'rivuletlaw2.SumTells', WHERE WHAT IT READS IS OF BULK AT MOST 1048576: true; the input reads as it did. -/
def sumTellsUptoRow : OpenClaim := { program := "ytbgbplbkombfjaa", sum := "7b948fcc4c8efa69ee222ae00eaa7878bb395d46becb357f2679e3a5e33a8bbf", func := "rivulet/rivuletlaw2.SumTells", spec := "sumTells", apart := false, narrowed := true }
def SumTellsUptoSaid : Prop := sumTellsUptoRow.holds Try.pinned (OpenSpec.upto sumTellsSpec)

end Rows
end Go.Proofs.Ytbgbplbkombfjaa
