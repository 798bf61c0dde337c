/-
  No cell of these rows narrows 'for every input' (looked for: loops, veiled, ifaces, maps, wideKeys, modest, calm, conditions, laid).
  DERIVED. THE GIVEN ROWS OF THIS SEAT. 11 by the template 'for every input the law returns true; each argument reads behind the call as it read before'; 0 by the template 'total and deterministic' (their statements: YtjcihhkeehjgdaaTotals.lean).
  GIVEN WITH THE SEED: the statements are not yours to turn. If you find one false, say at which input.
  Laid BY PROGRAM, IN A SANDBOX (cutbox-rows.mjs): the forced cells as the released guide's own fill.sh prints them over the translation efdcfb2e68dd2655… (all of the seat's roots in one cut). By AI agents, Wed Nov 11 2026. No macro, syntax, notation, axiom, sorry.
-/
import Derived.Test.YtjcihhkeehjgdaaChecked
import GoSem.Claim
import GoSem.ClaimJoined
import GoSem.ClaimMapViews
import Derived.JoinedTies
import Derived.KernelRfl
namespace Go.Proofs.Ytjcihhkeehjgdaa
/- THE CELL 'sum', in the pinned program and in every row, IS THE sha256 OF THE DUMP (.gsa) THAT YtjcihhkeehjgdaaProg.lean LOADS. Nothing in Lean hashes anything: it is a label: what it is worth is what the hold of that sum in a sandbox is worth. -/
noncomputable def Try.pinned : Pinned := { name := "ytjcihhkeehjgdaa", sum := "efdcfb2e68dd26556ffd5e4baf3ed1e06a46e1cf88cdda9b35346308072f6eae", checked := Try.checked }
namespace Rows
def none {H : Type} : Left H := { results := [], args := [] }

/-- 'rivuletlaw18.BestLost': WHATEVER THE INPUT: true; the input reads as it did. -/
def bestLostSpec : ChangeSpec := { name := "bestLost", fn := fun _ => fun
  | [d1, d2] => { results := [.lit (.bool true)], args := [d1, d2] }
  | _ => none }
def bestLostRow : OpenClaim := { program := "ytjcihhkeehjgdaa", sum := "efdcfb2e68dd26556ffd5e4baf3ed1e06a46e1cf88cdda9b35346308072f6eae", func := "rivulet/rivuletlaw18.BestLost", spec := "bestLost", unfollowed := true, recurses := true, apart := false }
def BestLostSaid : Prop := bestLostRow.holds Try.pinned (OpenSpec.ofChange bestLostSpec)

/-- ITS FALSE NEIGHBOUR: 'it returns false'. Refute it at one input. -/
def bestLostWrong : ChangeSpec := { name := "bestLost", fn := fun _ => fun
  | [d1, d2] => { results := [.lit (.bool false)], args := [d1, d2] }
  | _ => none }
def BestLostWrongFalsely : Prop := bestLostRow.holds Try.pinned (OpenSpec.ofChange bestLostWrong)

/-- 'rivuletlaw18.BestSays': WHATEVER THE INPUT: true; the input reads as it did. -/
def bestSaysSpec : ChangeSpec := { name := "bestSays", fn := fun _ => fun
  | [d1, d2, d3, d4] => { results := [.lit (.bool true)], args := [d1, d2, d3, d4] }
  | _ => none }
def bestSaysRow : OpenClaim := { program := "ytjcihhkeehjgdaa", sum := "efdcfb2e68dd26556ffd5e4baf3ed1e06a46e1cf88cdda9b35346308072f6eae", func := "rivulet/rivuletlaw18.BestSays", spec := "bestSays", unfollowed := true, recurses := true, apart := false }
def BestSaysSaid : Prop := bestSaysRow.holds Try.pinned (OpenSpec.ofChange bestSaysSpec)

/-- ITS FALSE NEIGHBOUR: 'it returns false'. Refute it at one input. -/
def bestSaysWrong : ChangeSpec := { name := "bestSays", fn := fun _ => fun
  | [d1, d2, d3, d4] => { results := [.lit (.bool false)], args := [d1, d2, d3, d4] }
  | _ => none }
def BestSaysWrongFalsely : Prop := bestSaysRow.holds Try.pinned (OpenSpec.ofChange bestSaysWrong)

/-- 'rivuletlaw18.BestOne': WHATEVER THE INPUT: true; the input reads as it did. -/
def bestOneSpec : ChangeSpec := { name := "bestOne", fn := fun _ => fun
  | [d1, d2, d3] => { results := [.lit (.bool true)], args := [d1, d2, d3] }
  | _ => none }
def bestOneRow : OpenClaim := { program := "ytjcihhkeehjgdaa", sum := "efdcfb2e68dd26556ffd5e4baf3ed1e06a46e1cf88cdda9b35346308072f6eae", func := "rivulet/rivuletlaw18.BestOne", spec := "bestOne", unfollowed := true, recurses := true, apart := false }
def BestOneSaid : Prop := bestOneRow.holds Try.pinned (OpenSpec.ofChange bestOneSpec)

/-- ITS FALSE NEIGHBOUR: 'it returns false'. Refute it at one input. -/
def bestOneWrong : ChangeSpec := { name := "bestOne", fn := fun _ => fun
  | [d1, d2, d3] => { results := [.lit (.bool false)], args := [d1, d2, d3] }
  | _ => none }
def BestOneWrongFalsely : Prop := bestOneRow.holds Try.pinned (OpenSpec.ofChange bestOneWrong)

/-- 'rivuletlaw18.BestOrder': WHATEVER THE INPUT: true; the input reads as it did. -/
def bestOrderSpec : ChangeSpec := { name := "bestOrder", fn := fun _ => fun
  | [d1, d2, d3] => { results := [.lit (.bool true)], args := [d1, d2, d3] }
  | _ => none }
def bestOrderRow : OpenClaim := { program := "ytjcihhkeehjgdaa", sum := "efdcfb2e68dd26556ffd5e4baf3ed1e06a46e1cf88cdda9b35346308072f6eae", func := "rivulet/rivuletlaw18.BestOrder", spec := "bestOrder", unfollowed := true, recurses := true, apart := false }
def BestOrderSaid : Prop := bestOrderRow.holds Try.pinned (OpenSpec.ofChange bestOrderSpec)

/-- ITS FALSE NEIGHBOUR: 'it returns false'. Refute it at one input. -/
def bestOrderWrong : ChangeSpec := { name := "bestOrder", fn := fun _ => fun
  | [d1, d2, d3] => { results := [.lit (.bool false)], args := [d1, d2, d3] }
  | _ => none }
def BestOrderWrongFalsely : Prop := bestOrderRow.holds Try.pinned (OpenSpec.ofChange bestOrderWrong)

/-- 'rivuletlaw24.QueueOrder': WHATEVER THE INPUT: true; the input reads as it did. -/
def queueOrderSpec : ChangeSpec := { name := "queueOrder", fn := fun _ => fun
  | [d1, d2] => { results := [.lit (.bool true)], args := [d1, d2] }
  | _ => none }
def queueOrderRow : OpenClaim := { program := "ytjcihhkeehjgdaa", sum := "efdcfb2e68dd26556ffd5e4baf3ed1e06a46e1cf88cdda9b35346308072f6eae", func := "rivulet/rivuletlaw24.QueueOrder", spec := "queueOrder", apart := false }
def QueueOrderSaid : Prop := queueOrderRow.holds Try.pinned (OpenSpec.ofChange queueOrderSpec)

/-- ITS FALSE NEIGHBOUR: 'it returns false'. Refute it at one input. -/
def queueOrderWrong : ChangeSpec := { name := "queueOrder", fn := fun _ => fun
  | [d1, d2] => { results := [.lit (.bool false)], args := [d1, d2] }
  | _ => none }
def QueueOrderWrongFalsely : Prop := queueOrderRow.holds Try.pinned (OpenSpec.ofChange queueOrderWrong)

/-- 'rivuletlaw24.QueueFull': WHATEVER THE INPUT: true; the input reads as it did. -/
def queueFullSpec : ChangeSpec := { name := "queueFull", fn := fun _ => fun
  | [d1, d2] => { results := [.lit (.bool true)], args := [d1, d2] }
  | _ => none }
def queueFullRow : OpenClaim := { program := "ytjcihhkeehjgdaa", sum := "efdcfb2e68dd26556ffd5e4baf3ed1e06a46e1cf88cdda9b35346308072f6eae", func := "rivulet/rivuletlaw24.QueueFull", spec := "queueFull", apart := false }
def QueueFullSaid : Prop := queueFullRow.holds Try.pinned (OpenSpec.ofChange queueFullSpec)

/-- ITS FALSE NEIGHBOUR: 'it returns false'. Refute it at one input. -/
def queueFullWrong : ChangeSpec := { name := "queueFull", fn := fun _ => fun
  | [d1, d2] => { results := [.lit (.bool false)], args := [d1, d2] }
  | _ => none }
def QueueFullWrongFalsely : Prop := queueFullRow.holds Try.pinned (OpenSpec.ofChange queueFullWrong)

/-- 'rivuletlaw24.QueueFlips': WHATEVER THE INPUT: true; the input reads as it did. -/
def queueFlipsSpec : ChangeSpec := { name := "queueFlips", fn := fun _ => fun
  | [d1, d2] => { results := [.lit (.bool true)], args := [d1, d2] }
  | _ => none }
def queueFlipsRow : OpenClaim := { program := "ytjcihhkeehjgdaa", sum := "efdcfb2e68dd26556ffd5e4baf3ed1e06a46e1cf88cdda9b35346308072f6eae", func := "rivulet/rivuletlaw24.QueueFlips", spec := "queueFlips", apart := false }
def QueueFlipsSaid : Prop := queueFlipsRow.holds Try.pinned (OpenSpec.ofChange queueFlipsSpec)

/-- ITS FALSE NEIGHBOUR: 'it returns false'. Refute it at one input. -/
def queueFlipsWrong : ChangeSpec := { name := "queueFlips", fn := fun _ => fun
  | [d1, d2] => { results := [.lit (.bool false)], args := [d1, d2] }
  | _ => none }
def QueueFlipsWrongFalsely : Prop := queueFlipsRow.holds Try.pinned (OpenSpec.ofChange queueFlipsWrong)

/-- 'rivuletlaw24.QueuePlays': WHATEVER THE INPUT: true; the input reads as it did. -/
def queuePlaysSpec : ChangeSpec := { name := "queuePlays", fn := fun _ => fun
  | [d] => { results := [.lit (.bool true)], args := [d] }
  | _ => none }
def queuePlaysRow : OpenClaim := { program := "ytjcihhkeehjgdaa", sum := "efdcfb2e68dd26556ffd5e4baf3ed1e06a46e1cf88cdda9b35346308072f6eae", func := "rivulet/rivuletlaw24.QueuePlays", spec := "queuePlays", apart := false }
def QueuePlaysSaid : Prop := queuePlaysRow.holds Try.pinned (OpenSpec.ofChange queuePlaysSpec)

/-- ITS FALSE NEIGHBOUR: 'it returns false'. Refute it at one input. -/
def queuePlaysWrong : ChangeSpec := { name := "queuePlays", fn := fun _ => fun
  | [d] => { results := [.lit (.bool false)], args := [d] }
  | _ => none }
def QueuePlaysWrongFalsely : Prop := queuePlaysRow.holds Try.pinned (OpenSpec.ofChange queuePlaysWrong)

/-- 'rivuletlaw19.FwdBack': WHATEVER THE INPUT: true; the input reads as it did. -/
def fwdBackSpec : ChangeSpec := { name := "fwdBack", fn := fun _ => fun
  | [d1, d2, d3, d4] => { results := [.lit (.bool true)], args := [d1, d2, d3, d4] }
  | _ => none }
def fwdBackRow : OpenClaim := { program := "ytjcihhkeehjgdaa", sum := "efdcfb2e68dd26556ffd5e4baf3ed1e06a46e1cf88cdda9b35346308072f6eae", func := "rivulet/rivuletlaw19.FwdBack", spec := "fwdBack", unfollowed := true, recurses := true, apart := false }
def FwdBackSaid : Prop := fwdBackRow.holds Try.pinned (OpenSpec.ofChange fwdBackSpec)

/-- ITS FALSE NEIGHBOUR: 'it returns false'. Refute it at one input. -/
def fwdBackWrong : ChangeSpec := { name := "fwdBack", fn := fun _ => fun
  | [d1, d2, d3, d4] => { results := [.lit (.bool false)], args := [d1, d2, d3, d4] }
  | _ => none }
def FwdBackWrongFalsely : Prop := fwdBackRow.holds Try.pinned (OpenSpec.ofChange fwdBackWrong)

/-- 'rivuletlaw19.FwdLost': WHATEVER THE INPUT: true; the input reads as it did. -/
def fwdLostSpec : ChangeSpec := { name := "fwdLost", fn := fun _ => fun
  | [d1, d2, d3, d4] => { results := [.lit (.bool true)], args := [d1, d2, d3, d4] }
  | _ => none }
def fwdLostRow : OpenClaim := { program := "ytjcihhkeehjgdaa", sum := "efdcfb2e68dd26556ffd5e4baf3ed1e06a46e1cf88cdda9b35346308072f6eae", func := "rivulet/rivuletlaw19.FwdLost", spec := "fwdLost", unfollowed := true, recurses := true, apart := false }
def FwdLostSaid : Prop := fwdLostRow.holds Try.pinned (OpenSpec.ofChange fwdLostSpec)

/-- ITS FALSE NEIGHBOUR: 'it returns false'. Refute it at one input. -/
def fwdLostWrong : ChangeSpec := { name := "fwdLost", fn := fun _ => fun
  | [d1, d2, d3, d4] => { results := [.lit (.bool false)], args := [d1, d2, d3, d4] }
  | _ => none }
def FwdLostWrongFalsely : Prop := fwdLostRow.holds Try.pinned (OpenSpec.ofChange fwdLostWrong)

/-- 'rivuletlaw19.FwdSays': WHATEVER THE INPUT: true; the input reads as it did. -/
def fwdSaysSpec : ChangeSpec := { name := "fwdSays", fn := fun _ => fun
  | [d1, d2, d3, d4] => { results := [.lit (.bool true)], args := [d1, d2, d3, d4] }
  | _ => none }
def fwdSaysRow : OpenClaim := { program := "ytjcihhkeehjgdaa", sum := "efdcfb2e68dd26556ffd5e4baf3ed1e06a46e1cf88cdda9b35346308072f6eae", func := "rivulet/rivuletlaw19.FwdSays", spec := "fwdSays", unfollowed := true, recurses := true, apart := false }
def FwdSaysSaid : Prop := fwdSaysRow.holds Try.pinned (OpenSpec.ofChange fwdSaysSpec)

/-- ITS FALSE NEIGHBOUR: 'it returns false'. Refute it at one input. -/
def fwdSaysWrong : ChangeSpec := { name := "fwdSays", fn := fun _ => fun
  | [d1, d2, d3, d4] => { results := [.lit (.bool false)], args := [d1, d2, d3, d4] }
  | _ => none }
def FwdSaysWrongFalsely : Prop := fwdSaysRow.holds Try.pinned (OpenSpec.ofChange fwdSaysWrong)

/- THE SECOND FORM. 'bulk': how many values and letters a reading holds, each counted each time it is reached (what is shared counts as often as it is met; a slice's spare places count too). A statement '..UptoSaid' is the law's where the arguments, and the package variables that the reading takes, are together of bulk at most 1048576: NARROWER than '..Said'. Prove '..Said' where nothing that the law and all that it calls make is longer than what came in: it says more and counts as full. Else prove '..UptoSaid'. A law counts once. -/
mutual
def uptoBulk {H : Type} : DataW H → Nat
  | .lit (.string bytes) => bytes.length + 1
  | .lit _ => 1
  | .nil => 1
  | .ptr d => uptoBulk d + 1
  | .slice elems spare => uptoBulkAll elems + uptoBulkAll spare + 1
  | .agg parts => uptoBulkAll parts + 1
  | .iface _ d => uptoBulk d + 1
  | .map entries => uptoBulkEntries entries + 1
  | .held _ => 1
def uptoBulkAll {H : Type} : List (DataW H) → Nat
  | [] => 0
  | d :: r => uptoBulk d + uptoBulkAll r
def uptoBulkEntries {H : Type} : List (Lit × DataW H) → Nat
  | [] => 0
  | x :: r => uptoBulkEntry x + uptoBulkEntries r
def uptoBulkEntry {H : Type} : Lit × DataW H → Nat
  | (.string bytes, d) => bytes.length + uptoBulk d + 1
  | (_, d) => uptoBulk d + 1
 end
def uptoSmall : (H : Type) → List (DataW H) → Bool := fun _ ds => decide (uptoBulkAll ds ≤ 1048576)
def OpenSpec.upto (s : _root_.Go.ChangeSpec) : _root_.Go.OpenSpec := { _root_.Go.OpenSpec.ofChange s with cond := some uptoSmall }

/-- 'rivuletlaw18.BestLost', WHERE WHAT IT READS IS OF BULK AT MOST 1048576: true; the input reads as it did. -/
def bestLostUptoRow : OpenClaim := { program := "ytjcihhkeehjgdaa", sum := "efdcfb2e68dd26556ffd5e4baf3ed1e06a46e1cf88cdda9b35346308072f6eae", func := "rivulet/rivuletlaw18.BestLost", spec := "bestLost", unfollowed := true, recurses := true, apart := false, narrowed := true }
def BestLostUptoSaid : Prop := bestLostUptoRow.holds Try.pinned (OpenSpec.upto bestLostSpec)

/-- 'rivuletlaw18.BestSays', WHERE WHAT IT READS IS OF BULK AT MOST 1048576: true; the input reads as it did. -/
def bestSaysUptoRow : OpenClaim := { program := "ytjcihhkeehjgdaa", sum := "efdcfb2e68dd26556ffd5e4baf3ed1e06a46e1cf88cdda9b35346308072f6eae", func := "rivulet/rivuletlaw18.BestSays", spec := "bestSays", unfollowed := true, recurses := true, apart := false, narrowed := true }
def BestSaysUptoSaid : Prop := bestSaysUptoRow.holds Try.pinned (OpenSpec.upto bestSaysSpec)

/-- 'rivuletlaw18.BestOne', WHERE WHAT IT READS IS OF BULK AT MOST 1048576: true; the input reads as it did. -/
def bestOneUptoRow : OpenClaim := { program := "ytjcihhkeehjgdaa", sum := "efdcfb2e68dd26556ffd5e4baf3ed1e06a46e1cf88cdda9b35346308072f6eae", func := "rivulet/rivuletlaw18.BestOne", spec := "bestOne", unfollowed := true, recurses := true, apart := false, narrowed := true }
def BestOneUptoSaid : Prop := bestOneUptoRow.holds Try.pinned (OpenSpec.upto bestOneSpec)

/-- 'rivuletlaw18.BestOrder', WHERE WHAT IT READS IS OF BULK AT MOST 1048576: true; the input reads as it did. -/
def bestOrderUptoRow : OpenClaim := { program := "ytjcihhkeehjgdaa", sum := "efdcfb2e68dd26556ffd5e4baf3ed1e06a46e1cf88cdda9b35346308072f6eae", func := "rivulet/rivuletlaw18.BestOrder", spec := "bestOrder", unfollowed := true, recurses := true, apart := false, narrowed := true }
def BestOrderUptoSaid : Prop := bestOrderUptoRow.holds Try.pinned (OpenSpec.upto bestOrderSpec)

/-- 'rivuletlaw24.QueueOrder', WHERE WHAT IT READS IS OF BULK AT MOST 1048576: true; the input reads as it did. -/
def queueOrderUptoRow : OpenClaim := { program := "ytjcihhkeehjgdaa", sum := "efdcfb2e68dd26556ffd5e4baf3ed1e06a46e1cf88cdda9b35346308072f6eae", func := "rivulet/rivuletlaw24.QueueOrder", spec := "queueOrder", apart := false, narrowed := true }
def QueueOrderUptoSaid : Prop := queueOrderUptoRow.holds Try.pinned (OpenSpec.upto queueOrderSpec)

/-- 'rivuletlaw24.QueueFull', WHERE WHAT IT READS IS OF BULK AT MOST 1048576: true; the input reads as it did. -/
def queueFullUptoRow : OpenClaim := { program := "ytjcihhkeehjgdaa", sum := "efdcfb2e68dd26556ffd5e4baf3ed1e06a46e1cf88cdda9b35346308072f6eae", func := "rivulet/rivuletlaw24.QueueFull", spec := "queueFull", apart := false, narrowed := true }
def QueueFullUptoSaid : Prop := queueFullUptoRow.holds Try.pinned (OpenSpec.upto queueFullSpec)

/-- 'rivuletlaw24.QueueFlips', WHERE WHAT IT READS IS OF BULK AT MOST 1048576: true; the input reads as it did. -/
def queueFlipsUptoRow : OpenClaim := { program := "ytjcihhkeehjgdaa", sum := "efdcfb2e68dd26556ffd5e4baf3ed1e06a46e1cf88cdda9b35346308072f6eae", func := "rivulet/rivuletlaw24.QueueFlips", spec := "queueFlips", apart := false, narrowed := true }
def QueueFlipsUptoSaid : Prop := queueFlipsUptoRow.holds Try.pinned (OpenSpec.upto queueFlipsSpec)

/-- 'rivuletlaw24.QueuePlays', WHERE WHAT IT READS IS OF BULK AT MOST 1048576: true; the input reads as it did. -/
def queuePlaysUptoRow : OpenClaim := { program := "ytjcihhkeehjgdaa", sum := "efdcfb2e68dd26556ffd5e4baf3ed1e06a46e1cf88cdda9b35346308072f6eae", func := "rivulet/rivuletlaw24.QueuePlays", spec := "queuePlays", apart := false, narrowed := true }
def QueuePlaysUptoSaid : Prop := queuePlaysUptoRow.holds Try.pinned (OpenSpec.upto queuePlaysSpec)

/-- 'rivuletlaw19.FwdBack', WHERE WHAT IT READS IS OF BULK AT MOST 1048576: true; the input reads as it did. -/
def fwdBackUptoRow : OpenClaim := { program := "ytjcihhkeehjgdaa", sum := "efdcfb2e68dd26556ffd5e4baf3ed1e06a46e1cf88cdda9b35346308072f6eae", func := "rivulet/rivuletlaw19.FwdBack", spec := "fwdBack", unfollowed := true, recurses := true, apart := false, narrowed := true }
def FwdBackUptoSaid : Prop := fwdBackUptoRow.holds Try.pinned (OpenSpec.upto fwdBackSpec)

/-- 'rivuletlaw19.FwdLost', WHERE WHAT IT READS IS OF BULK AT MOST 1048576: true; the input reads as it did. -/
def fwdLostUptoRow : OpenClaim := { program := "ytjcihhkeehjgdaa", sum := "efdcfb2e68dd26556ffd5e4baf3ed1e06a46e1cf88cdda9b35346308072f6eae", func := "rivulet/rivuletlaw19.FwdLost", spec := "fwdLost", unfollowed := true, recurses := true, apart := false, narrowed := true }
def FwdLostUptoSaid : Prop := fwdLostUptoRow.holds Try.pinned (OpenSpec.upto fwdLostSpec)

/-- 'rivuletlaw19.FwdSays', WHERE WHAT IT READS IS OF BULK AT MOST 1048576: true; the input reads as it did. -/
def fwdSaysUptoRow : OpenClaim := { program := "ytjcihhkeehjgdaa", sum := "efdcfb2e68dd26556ffd5e4baf3ed1e06a46e1cf88cdda9b35346308072f6eae", func := "rivulet/rivuletlaw19.FwdSays", spec := "fwdSays", unfollowed := true, recurses := true, apart := false, narrowed := true }
def FwdSaysUptoSaid : Prop := fwdSaysUptoRow.holds Try.pinned (OpenSpec.upto fwdSaysSpec)

end Rows
end Go.Proofs.Ytjcihhkeehjgdaa
