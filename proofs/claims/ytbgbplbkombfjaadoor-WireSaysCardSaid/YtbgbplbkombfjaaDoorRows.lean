/-
  NARROWER THAN 'FOR EVERY INPUT', by the rows' own cells (each row's printed sentence says how): IpSays: laid · IpBack: laid · IpFields: laid · IpCut: laid · WireFields: laid · WireTwins: laid · WireSays: laid · WireBack: laid · WireReads: laid.
  DERIVED. THE GIVEN ROWS OF THIS SEAT. 9 by the template 'for every input the law returns true; each argument reads behind the call as it read before'; 0 by the template 'total and deterministic' (their statements: YtbgbplbkombfjaaDoorTotals.lean).
  GIVEN WITH THE SEED: the statements are not yours to turn. If you find one false, say at which input.
  Laid BY PROGRAM, IN A SANDBOX (cutbox-rows.mjs): the forced cells as the released guide's own fill.sh prints them over the translation 5c656f21e53ab187… (all of the seat's roots in one cut). By AI agents, Wed Nov 11 2026. No macro, syntax, notation, axiom, sorry.
-/
import Derived.Test.YtbgbplbkombfjaaDoorChecked
import GoSem.Claim
import GoSem.ClaimJoined
import GoSem.ClaimMapViews
import Derived.JoinedTies
import Derived.KernelRfl
namespace Go.Proofs.YtbgbplbkombfjaaDoor
/- THE CELL 'sum', in the pinned program and in every row, IS THE sha256 OF THE DUMP (.gsa) THAT YtbgbplbkombfjaaDoorProg.lean LOADS. Nothing in Lean hashes anything: it is a label: what it is worth is what the hold of that sum in a sandbox is worth. -/
noncomputable def Tryd.pinned : Pinned := { name := "ytbgbplbkombfjaadoor", sum := "5c656f21e53ab187cf3603337b50a544253a2e95c6eef9cb2f80ddb5d7830920", checked := Tryd.checked }
namespace Rows
def none {H : Type} : Left H := { results := [], args := [] }

/- WHAT THE LISTED PACKAGE-LEVEL VARIABLES READ AS WHEN THE CALL BEGINS. Each datum BY PROGRAM (the guide's laid-datum.mjs) off the statement by which the dump's own 'gosem.cut.vars' lays the variable. In a bare row this is a premise. The card (YtbgbplbkombfjaaDoorCards.lean) ties it to the program's text. -/
def laid_rivulet_api_ErrEnd {H : Type} : DataW H := .iface "*errors.errorString" (.ptr (.agg [.lit (.string [105, 116, 32, 101, 110, 100, 115, 32, 116, 111, 111, 32, 101, 97, 114, 108, 121])]))
def laid_rivulet_api_ErrShape {H : Type} : DataW H := .iface "*errors.errorString" (.ptr (.agg [.lit (.string [110, 111, 116, 32, 97, 115, 32, 105, 116, 32, 104, 97, 115, 32, 116, 111, 32, 98, 101])]))
def laid_rivulet_api_ErrRange {H : Type} : DataW H := .iface "*errors.errorString" (.ptr (.agg [.lit (.string [97, 32, 110, 117, 109, 98, 101, 114, 32, 111, 117, 116, 32, 111, 102, 32, 105, 116, 115, 32, 114, 97, 110, 103, 101])]))
def laid_rivulet_api_ErrMany {H : Type} : DataW H := .iface "*errors.errorString" (.ptr (.agg [.lit (.string [116, 111, 111, 32, 109, 97, 110, 121])]))
def laid_rivulet_api_ErrSum {H : Type} : DataW H := .iface "*errors.errorString" (.ptr (.agg [.lit (.string [116, 104, 101, 32, 115, 117, 109, 32, 105, 115, 32, 97, 110, 111, 116, 104, 101, 114, 32, 111, 110, 101])]))
def laid_rivulet_api_ErrWord {H : Type} : DataW H := .iface "*errors.errorString" (.ptr (.agg [.lit (.string [110, 111, 32, 115, 117, 99, 104, 32, 119, 111, 114, 100])]))
def laid_rivulet_api_ErrNumber {H : Type} : DataW H := .iface "*errors.errorString" (.ptr (.agg [.lit (.string [110, 111, 116, 32, 97, 32, 110, 117, 109, 98, 101, 114])]))
def laid_rivulet_api_ErrAddr {H : Type} : DataW H := .iface "*errors.errorString" (.ptr (.agg [.lit (.string [110, 111, 116, 32, 97, 110, 32, 97, 100, 100, 114, 101, 115, 115])]))
def laid_rivulet_api_ErrName {H : Type} : DataW H := .iface "*errors.errorString" (.ptr (.agg [.lit (.string [110, 111, 116, 32, 97, 32, 110, 97, 109, 101])]))
def laid_rivulet_api_ErrTwice {H : Type} : DataW H := .iface "*errors.errorString" (.ptr (.agg [.lit (.string [116, 104, 101, 114, 101, 32, 105, 115, 32, 111, 110, 101])]))
def laid_rivulet_api_ErrNone {H : Type} : DataW H := .iface "*errors.errorString" (.ptr (.agg [.lit (.string [116, 104, 101, 114, 101, 32, 105, 115, 32, 110, 111, 110, 101])]))
def laid_rivulet_api_ErrAway {H : Type} : DataW H := .iface "*errors.errorString" (.ptr (.agg [.lit (.string [110, 111, 116, 32, 111, 110, 32, 116, 104, 97, 116, 32, 108, 105, 110, 107])]))
def laid_rivulet_api_ErrKind {H : Type} : DataW H := .iface "*errors.errorString" (.ptr (.agg [.lit (.string [110, 111, 116, 32, 111, 102, 32, 116, 104, 97, 116, 32, 107, 105, 110, 100])]))
def laid_rivulet_api_ErrDeep {H : Type} : DataW H := .iface "*errors.errorString" (.ptr (.agg [.lit (.string [116, 111, 111, 32, 109, 97, 110, 121, 32, 98, 101, 104, 105, 110, 100, 32, 111, 110, 101, 32, 97, 110, 111, 116, 104, 101, 114])]))

/-- 'rivuletlaw3.IpSays': WHATEVER THE INPUT: true; the input reads as it did. -/
def ipSaysSpec : ChangeSpec := { name := "ipSays", fn := fun _ => fun
  | [d1, d2] => { results := [.lit (.bool true)], args := [d1, d2] }
  | _ => none }
def ipSaysRow : OpenClaim := { program := "ytbgbplbkombfjaadoor", sum := "5c656f21e53ab187cf3603337b50a544253a2e95c6eef9cb2f80ddb5d7830920", func := "rivulet/rivuletlaw3.IpSays", spec := "ipSays", named := ["rivulet/api.ErrRange", "rivulet/api.ErrEnd", "rivulet/api.ErrShape", "rivulet/api.ErrSum", "rivulet/api.ErrMany", "rivulet/api.ErrWord", "rivulet/api.ErrNumber", "rivulet/api.ErrAddr", "rivulet/api.ErrName", "rivulet/api.ErrTwice", "rivulet/api.ErrNone", "rivulet/api.ErrAway", "rivulet/api.ErrKind", "rivulet/api.ErrDeep"], apart := false, laid := [("rivulet/api.ErrEnd", laid_rivulet_api_ErrEnd), ("rivulet/api.ErrShape", laid_rivulet_api_ErrShape), ("rivulet/api.ErrRange", laid_rivulet_api_ErrRange), ("rivulet/api.ErrMany", laid_rivulet_api_ErrMany), ("rivulet/api.ErrSum", laid_rivulet_api_ErrSum), ("rivulet/api.ErrWord", laid_rivulet_api_ErrWord), ("rivulet/api.ErrNumber", laid_rivulet_api_ErrNumber), ("rivulet/api.ErrAddr", laid_rivulet_api_ErrAddr), ("rivulet/api.ErrName", laid_rivulet_api_ErrName), ("rivulet/api.ErrTwice", laid_rivulet_api_ErrTwice), ("rivulet/api.ErrNone", laid_rivulet_api_ErrNone), ("rivulet/api.ErrAway", laid_rivulet_api_ErrAway), ("rivulet/api.ErrKind", laid_rivulet_api_ErrKind), ("rivulet/api.ErrDeep", laid_rivulet_api_ErrDeep)] }
def IpSaysSaid : Prop := ipSaysRow.holds Tryd.pinned (OpenSpec.ofChange ipSaysSpec)

/-- ITS FALSE NEIGHBOUR: 'it returns false'. Refute it at one input. -/
def ipSaysWrong : ChangeSpec := { name := "ipSays", fn := fun _ => fun
  | [d1, d2] => { results := [.lit (.bool false)], args := [d1, d2] }
  | _ => none }
def IpSaysWrongFalsely : Prop := ipSaysRow.holds Tryd.pinned (OpenSpec.ofChange ipSaysWrong)

/-- 'rivuletlaw3.IpBack': WHATEVER THE INPUT: true; the input reads as it did. -/
def ipBackSpec : ChangeSpec := { name := "ipBack", fn := fun _ => fun
  | [d1, d2, d3] => { results := [.lit (.bool true)], args := [d1, d2, d3] }
  | _ => none }
def ipBackRow : OpenClaim := { program := "ytbgbplbkombfjaadoor", sum := "5c656f21e53ab187cf3603337b50a544253a2e95c6eef9cb2f80ddb5d7830920", func := "rivulet/rivuletlaw3.IpBack", spec := "ipBack", named := ["rivulet/api.ErrRange", "rivulet/api.ErrEnd", "rivulet/api.ErrShape", "rivulet/api.ErrSum", "rivulet/api.ErrMany", "rivulet/api.ErrWord", "rivulet/api.ErrNumber", "rivulet/api.ErrAddr", "rivulet/api.ErrName", "rivulet/api.ErrTwice", "rivulet/api.ErrNone", "rivulet/api.ErrAway", "rivulet/api.ErrKind", "rivulet/api.ErrDeep"], apart := false, laid := [("rivulet/api.ErrEnd", laid_rivulet_api_ErrEnd), ("rivulet/api.ErrShape", laid_rivulet_api_ErrShape), ("rivulet/api.ErrRange", laid_rivulet_api_ErrRange), ("rivulet/api.ErrMany", laid_rivulet_api_ErrMany), ("rivulet/api.ErrSum", laid_rivulet_api_ErrSum), ("rivulet/api.ErrWord", laid_rivulet_api_ErrWord), ("rivulet/api.ErrNumber", laid_rivulet_api_ErrNumber), ("rivulet/api.ErrAddr", laid_rivulet_api_ErrAddr), ("rivulet/api.ErrName", laid_rivulet_api_ErrName), ("rivulet/api.ErrTwice", laid_rivulet_api_ErrTwice), ("rivulet/api.ErrNone", laid_rivulet_api_ErrNone), ("rivulet/api.ErrAway", laid_rivulet_api_ErrAway), ("rivulet/api.ErrKind", laid_rivulet_api_ErrKind), ("rivulet/api.ErrDeep", laid_rivulet_api_ErrDeep)] }
def IpBackSaid : Prop := ipBackRow.holds Tryd.pinned (OpenSpec.ofChange ipBackSpec)

/-- ITS FALSE NEIGHBOUR: 'it returns false'. Refute it at one input. -/
def ipBackWrong : ChangeSpec := { name := "ipBack", fn := fun _ => fun
  | [d1, d2, d3] => { results := [.lit (.bool false)], args := [d1, d2, d3] }
  | _ => none }
def IpBackWrongFalsely : Prop := ipBackRow.holds Tryd.pinned (OpenSpec.ofChange ipBackWrong)

/-- 'rivuletlaw3.IpFields': WHATEVER THE INPUT: true; the input reads as it did. -/
def ipFieldsSpec : ChangeSpec := { name := "ipFields", fn := fun _ => fun
  | [d1, d2] => { results := [.lit (.bool true)], args := [d1, d2] }
  | _ => none }
def ipFieldsRow : OpenClaim := { program := "ytbgbplbkombfjaadoor", sum := "5c656f21e53ab187cf3603337b50a544253a2e95c6eef9cb2f80ddb5d7830920", func := "rivulet/rivuletlaw3.IpFields", spec := "ipFields", named := ["rivulet/api.ErrRange", "rivulet/api.ErrEnd", "rivulet/api.ErrShape", "rivulet/api.ErrSum"], apart := false, laid := [("rivulet/api.ErrEnd", laid_rivulet_api_ErrEnd), ("rivulet/api.ErrShape", laid_rivulet_api_ErrShape), ("rivulet/api.ErrRange", laid_rivulet_api_ErrRange), ("rivulet/api.ErrSum", laid_rivulet_api_ErrSum)] }
def IpFieldsSaid : Prop := ipFieldsRow.holds Tryd.pinned (OpenSpec.ofChange ipFieldsSpec)

/-- ITS FALSE NEIGHBOUR: 'it returns false'. Refute it at one input. -/
def ipFieldsWrong : ChangeSpec := { name := "ipFields", fn := fun _ => fun
  | [d1, d2] => { results := [.lit (.bool false)], args := [d1, d2] }
  | _ => none }
def IpFieldsWrongFalsely : Prop := ipFieldsRow.holds Tryd.pinned (OpenSpec.ofChange ipFieldsWrong)

/-- 'rivuletlaw3.IpCut': WHATEVER THE INPUT: true; the input reads as it did. -/
def ipCutSpec : ChangeSpec := { name := "ipCut", fn := fun _ => fun
  | [d1, d2, d3] => { results := [.lit (.bool true)], args := [d1, d2, d3] }
  | _ => none }
def ipCutRow : OpenClaim := { program := "ytbgbplbkombfjaadoor", sum := "5c656f21e53ab187cf3603337b50a544253a2e95c6eef9cb2f80ddb5d7830920", func := "rivulet/rivuletlaw3.IpCut", spec := "ipCut", named := ["rivulet/api.ErrRange", "rivulet/api.ErrEnd", "rivulet/api.ErrShape", "rivulet/api.ErrSum"], apart := false, laid := [("rivulet/api.ErrEnd", laid_rivulet_api_ErrEnd), ("rivulet/api.ErrShape", laid_rivulet_api_ErrShape), ("rivulet/api.ErrRange", laid_rivulet_api_ErrRange), ("rivulet/api.ErrSum", laid_rivulet_api_ErrSum)] }
def IpCutSaid : Prop := ipCutRow.holds Tryd.pinned (OpenSpec.ofChange ipCutSpec)

/-- ITS FALSE NEIGHBOUR: 'it returns false'. Refute it at one input. -/
def ipCutWrong : ChangeSpec := { name := "ipCut", fn := fun _ => fun
  | [d1, d2, d3] => { results := [.lit (.bool false)], args := [d1, d2, d3] }
  | _ => none }
def IpCutWrongFalsely : Prop := ipCutRow.holds Tryd.pinned (OpenSpec.ofChange ipCutWrong)

/-- 'rivuletlaw4.WireFields': WHATEVER THE INPUT: true; the input reads as it did. -/
def wireFieldsSpec : ChangeSpec := { name := "wireFields", fn := fun _ => fun
  | [d1, d2, d3] => { results := [.lit (.bool true)], args := [d1, d2, d3] }
  | _ => none }
def wireFieldsRow : OpenClaim := { program := "ytbgbplbkombfjaadoor", sum := "5c656f21e53ab187cf3603337b50a544253a2e95c6eef9cb2f80ddb5d7830920", func := "rivulet/rivuletlaw4.WireFields", spec := "wireFields", named := ["rivulet/api.ErrKind", "rivulet/api.ErrMany", "rivulet/api.ErrRange"], apart := false, laid := [("rivulet/api.ErrRange", laid_rivulet_api_ErrRange), ("rivulet/api.ErrMany", laid_rivulet_api_ErrMany), ("rivulet/api.ErrKind", laid_rivulet_api_ErrKind)] }
def WireFieldsSaid : Prop := wireFieldsRow.holds Tryd.pinned (OpenSpec.ofChange wireFieldsSpec)

/-- ITS FALSE NEIGHBOUR: 'it returns false'. Refute it at one input. -/
def wireFieldsWrong : ChangeSpec := { name := "wireFields", fn := fun _ => fun
  | [d1, d2, d3] => { results := [.lit (.bool false)], args := [d1, d2, d3] }
  | _ => none }
def WireFieldsWrongFalsely : Prop := wireFieldsRow.holds Tryd.pinned (OpenSpec.ofChange wireFieldsWrong)

/-- 'rivuletlaw4.WireTwins': WHATEVER THE INPUT: true; the input reads as it did. -/
def wireTwinsSpec : ChangeSpec := { name := "wireTwins", fn := fun _ => fun
  | [d1, d2] => { results := [.lit (.bool true)], args := [d1, d2] }
  | _ => none }
def wireTwinsRow : OpenClaim := { program := "ytbgbplbkombfjaadoor", sum := "5c656f21e53ab187cf3603337b50a544253a2e95c6eef9cb2f80ddb5d7830920", func := "rivulet/rivuletlaw4.WireTwins", spec := "wireTwins", named := ["rivulet/api.ErrKind", "rivulet/api.ErrMany", "rivulet/api.ErrRange"], apart := false, laid := [("rivulet/api.ErrRange", laid_rivulet_api_ErrRange), ("rivulet/api.ErrMany", laid_rivulet_api_ErrMany), ("rivulet/api.ErrKind", laid_rivulet_api_ErrKind)] }
def WireTwinsSaid : Prop := wireTwinsRow.holds Tryd.pinned (OpenSpec.ofChange wireTwinsSpec)

/-- ITS FALSE NEIGHBOUR: 'it returns false'. Refute it at one input. -/
def wireTwinsWrong : ChangeSpec := { name := "wireTwins", fn := fun _ => fun
  | [d1, d2] => { results := [.lit (.bool false)], args := [d1, d2] }
  | _ => none }
def WireTwinsWrongFalsely : Prop := wireTwinsRow.holds Tryd.pinned (OpenSpec.ofChange wireTwinsWrong)

/-- 'rivuletlaw4.WireSays': WHATEVER THE INPUT: true; the input reads as it did. -/
def wireSaysSpec : ChangeSpec := { name := "wireSays", fn := fun _ => fun
  | [d1, d2, d3] => { results := [.lit (.bool true)], args := [d1, d2, d3] }
  | _ => none }
def wireSaysRow : OpenClaim := { program := "ytbgbplbkombfjaadoor", sum := "5c656f21e53ab187cf3603337b50a544253a2e95c6eef9cb2f80ddb5d7830920", func := "rivulet/rivuletlaw4.WireSays", spec := "wireSays", named := ["rivulet/api.ErrKind", "rivulet/api.ErrMany", "rivulet/api.ErrRange", "rivulet/api.ErrEnd", "rivulet/api.ErrShape", "rivulet/api.ErrSum", "rivulet/api.ErrWord", "rivulet/api.ErrNumber", "rivulet/api.ErrAddr", "rivulet/api.ErrName", "rivulet/api.ErrTwice", "rivulet/api.ErrNone", "rivulet/api.ErrAway", "rivulet/api.ErrDeep"], apart := false, laid := [("rivulet/api.ErrEnd", laid_rivulet_api_ErrEnd), ("rivulet/api.ErrShape", laid_rivulet_api_ErrShape), ("rivulet/api.ErrRange", laid_rivulet_api_ErrRange), ("rivulet/api.ErrMany", laid_rivulet_api_ErrMany), ("rivulet/api.ErrSum", laid_rivulet_api_ErrSum), ("rivulet/api.ErrWord", laid_rivulet_api_ErrWord), ("rivulet/api.ErrNumber", laid_rivulet_api_ErrNumber), ("rivulet/api.ErrAddr", laid_rivulet_api_ErrAddr), ("rivulet/api.ErrName", laid_rivulet_api_ErrName), ("rivulet/api.ErrTwice", laid_rivulet_api_ErrTwice), ("rivulet/api.ErrNone", laid_rivulet_api_ErrNone), ("rivulet/api.ErrAway", laid_rivulet_api_ErrAway), ("rivulet/api.ErrKind", laid_rivulet_api_ErrKind), ("rivulet/api.ErrDeep", laid_rivulet_api_ErrDeep)] }
def WireSaysSaid : Prop := wireSaysRow.holds Tryd.pinned (OpenSpec.ofChange wireSaysSpec)

/-- ITS FALSE NEIGHBOUR: 'it returns false'. Refute it at one input. -/
def wireSaysWrong : ChangeSpec := { name := "wireSays", fn := fun _ => fun
  | [d1, d2, d3] => { results := [.lit (.bool false)], args := [d1, d2, d3] }
  | _ => none }
def WireSaysWrongFalsely : Prop := wireSaysRow.holds Tryd.pinned (OpenSpec.ofChange wireSaysWrong)

/-- 'rivuletlaw4.WireBack': WHATEVER THE INPUT: true; the input reads as it did. -/
def wireBackSpec : ChangeSpec := { name := "wireBack", fn := fun _ => fun
  | [d1, d2, d3, d4] => { results := [.lit (.bool true)], args := [d1, d2, d3, d4] }
  | _ => none }
def wireBackRow : OpenClaim := { program := "ytbgbplbkombfjaadoor", sum := "5c656f21e53ab187cf3603337b50a544253a2e95c6eef9cb2f80ddb5d7830920", func := "rivulet/rivuletlaw4.WireBack", spec := "wireBack", named := ["rivulet/api.ErrKind", "rivulet/api.ErrMany", "rivulet/api.ErrRange", "rivulet/api.ErrEnd", "rivulet/api.ErrSum", "rivulet/api.ErrShape", "rivulet/api.ErrWord", "rivulet/api.ErrNumber", "rivulet/api.ErrAddr", "rivulet/api.ErrName", "rivulet/api.ErrTwice", "rivulet/api.ErrNone", "rivulet/api.ErrAway", "rivulet/api.ErrDeep"], apart := false, laid := [("rivulet/api.ErrEnd", laid_rivulet_api_ErrEnd), ("rivulet/api.ErrShape", laid_rivulet_api_ErrShape), ("rivulet/api.ErrRange", laid_rivulet_api_ErrRange), ("rivulet/api.ErrMany", laid_rivulet_api_ErrMany), ("rivulet/api.ErrSum", laid_rivulet_api_ErrSum), ("rivulet/api.ErrWord", laid_rivulet_api_ErrWord), ("rivulet/api.ErrNumber", laid_rivulet_api_ErrNumber), ("rivulet/api.ErrAddr", laid_rivulet_api_ErrAddr), ("rivulet/api.ErrName", laid_rivulet_api_ErrName), ("rivulet/api.ErrTwice", laid_rivulet_api_ErrTwice), ("rivulet/api.ErrNone", laid_rivulet_api_ErrNone), ("rivulet/api.ErrAway", laid_rivulet_api_ErrAway), ("rivulet/api.ErrKind", laid_rivulet_api_ErrKind), ("rivulet/api.ErrDeep", laid_rivulet_api_ErrDeep)] }
def WireBackSaid : Prop := wireBackRow.holds Tryd.pinned (OpenSpec.ofChange wireBackSpec)

/-- ITS FALSE NEIGHBOUR: 'it returns false'. Refute it at one input. -/
def wireBackWrong : ChangeSpec := { name := "wireBack", fn := fun _ => fun
  | [d1, d2, d3, d4] => { results := [.lit (.bool false)], args := [d1, d2, d3, d4] }
  | _ => none }
def WireBackWrongFalsely : Prop := wireBackRow.holds Tryd.pinned (OpenSpec.ofChange wireBackWrong)

/-- 'rivuletlaw4.WireReads': WHATEVER THE INPUT: true; the input reads as it did. -/
def wireReadsSpec : ChangeSpec := { name := "wireReads", fn := fun _ => fun
  | [d] => { results := [.lit (.bool true)], args := [d] }
  | _ => none }
def wireReadsRow : OpenClaim := { program := "ytbgbplbkombfjaadoor", sum := "5c656f21e53ab187cf3603337b50a544253a2e95c6eef9cb2f80ddb5d7830920", func := "rivulet/rivuletlaw4.WireReads", spec := "wireReads", named := ["rivulet/api.ErrKind", "rivulet/api.ErrMany", "rivulet/api.ErrRange", "rivulet/api.ErrEnd", "rivulet/api.ErrSum", "rivulet/api.ErrShape"], apart := false, laid := [("rivulet/api.ErrEnd", laid_rivulet_api_ErrEnd), ("rivulet/api.ErrShape", laid_rivulet_api_ErrShape), ("rivulet/api.ErrRange", laid_rivulet_api_ErrRange), ("rivulet/api.ErrMany", laid_rivulet_api_ErrMany), ("rivulet/api.ErrSum", laid_rivulet_api_ErrSum), ("rivulet/api.ErrKind", laid_rivulet_api_ErrKind)] }
def WireReadsSaid : Prop := wireReadsRow.holds Tryd.pinned (OpenSpec.ofChange wireReadsSpec)

/-- ITS FALSE NEIGHBOUR: 'it returns false'. Refute it at one input. -/
def wireReadsWrong : ChangeSpec := { name := "wireReads", fn := fun _ => fun
  | [d] => { results := [.lit (.bool false)], args := [d] }
  | _ => none }
def WireReadsWrongFalsely : Prop := wireReadsRow.holds Tryd.pinned (OpenSpec.ofChange wireReadsWrong)

/- THE SECOND FORM. 'bulk': how many values and letters a reading holds, each counted each time it is reached (what is shared counts as often as it is met; a slice's spare places count too). A statement '..UptoSaid' is the law's where the arguments, and the package variables that the reading takes, are together of bulk at most 1048576: NARROWER than '..Said'. Prove '..Said' where nothing that the law and all that it calls make is longer than what came in: it says more and counts as full. Else prove '..UptoSaid'. A law counts once. -/
mutual
def uptoBulk {H : Type} : DataW H → Nat
  | .lit (.string bytes) => bytes.length + 1
  | .lit _ => 1
  | .nil => 1
  | .ptr d => uptoBulk d + 1
  | .slice elems spare => uptoBulkAll elems + uptoBulkAll spare + 1
  | .agg parts => uptoBulkAll parts + 1
  | .iface _ d => uptoBulk d + 1
  | .map entries => uptoBulkEntries entries + 1
  | .held _ => 1
def uptoBulkAll {H : Type} : List (DataW H) → Nat
  | [] => 0
  | d :: r => uptoBulk d + uptoBulkAll r
def uptoBulkEntries {H : Type} : List (Lit × DataW H) → Nat
  | [] => 0
  | x :: r => uptoBulkEntry x + uptoBulkEntries r
def uptoBulkEntry {H : Type} : Lit × DataW H → Nat
  | (.string bytes, d) => bytes.length + uptoBulk d + 1
  | (_, d) => uptoBulk d + 1
 end
def uptoSmall : (H : Type) → List (DataW H) → Bool := fun _ ds => decide (uptoBulkAll ds ≤ 1048576)
def OpenSpec.upto (s : _root_.Go.ChangeSpec) : _root_.Go.OpenSpec := { _root_.Go.OpenSpec.ofChange s with cond := some uptoSmall }

/-- 'rivuletlaw3.IpSays', WHERE WHAT IT READS IS OF BULK AT MOST 1048576: true; the input reads as it did. -/
def ipSaysUptoRow : OpenClaim := { program := "ytbgbplbkombfjaadoor", sum := "5c656f21e53ab187cf3603337b50a544253a2e95c6eef9cb2f80ddb5d7830920", func := "rivulet/rivuletlaw3.IpSays", spec := "ipSays", named := ["rivulet/api.ErrRange", "rivulet/api.ErrEnd", "rivulet/api.ErrShape", "rivulet/api.ErrSum", "rivulet/api.ErrMany", "rivulet/api.ErrWord", "rivulet/api.ErrNumber", "rivulet/api.ErrAddr", "rivulet/api.ErrName", "rivulet/api.ErrTwice", "rivulet/api.ErrNone", "rivulet/api.ErrAway", "rivulet/api.ErrKind", "rivulet/api.ErrDeep"], apart := false, laid := [("rivulet/api.ErrEnd", laid_rivulet_api_ErrEnd), ("rivulet/api.ErrShape", laid_rivulet_api_ErrShape), ("rivulet/api.ErrRange", laid_rivulet_api_ErrRange), ("rivulet/api.ErrMany", laid_rivulet_api_ErrMany), ("rivulet/api.ErrSum", laid_rivulet_api_ErrSum), ("rivulet/api.ErrWord", laid_rivulet_api_ErrWord), ("rivulet/api.ErrNumber", laid_rivulet_api_ErrNumber), ("rivulet/api.ErrAddr", laid_rivulet_api_ErrAddr), ("rivulet/api.ErrName", laid_rivulet_api_ErrName), ("rivulet/api.ErrTwice", laid_rivulet_api_ErrTwice), ("rivulet/api.ErrNone", laid_rivulet_api_ErrNone), ("rivulet/api.ErrAway", laid_rivulet_api_ErrAway), ("rivulet/api.ErrKind", laid_rivulet_api_ErrKind), ("rivulet/api.ErrDeep", laid_rivulet_api_ErrDeep)], narrowed := true }
def IpSaysUptoSaid : Prop := ipSaysUptoRow.holds Tryd.pinned (OpenSpec.upto ipSaysSpec)

/-- 'rivuletlaw3.IpBack', WHERE WHAT IT READS IS OF BULK AT MOST 1048576: true; the input reads as it did. -/
def ipBackUptoRow : OpenClaim := { program := "ytbgbplbkombfjaadoor", sum := "5c656f21e53ab187cf3603337b50a544253a2e95c6eef9cb2f80ddb5d7830920", func := "rivulet/rivuletlaw3.IpBack", spec := "ipBack", named := ["rivulet/api.ErrRange", "rivulet/api.ErrEnd", "rivulet/api.ErrShape", "rivulet/api.ErrSum", "rivulet/api.ErrMany", "rivulet/api.ErrWord", "rivulet/api.ErrNumber", "rivulet/api.ErrAddr", "rivulet/api.ErrName", "rivulet/api.ErrTwice", "rivulet/api.ErrNone", "rivulet/api.ErrAway", "rivulet/api.ErrKind", "rivulet/api.ErrDeep"], apart := false, laid := [("rivulet/api.ErrEnd", laid_rivulet_api_ErrEnd), ("rivulet/api.ErrShape", laid_rivulet_api_ErrShape), ("rivulet/api.ErrRange", laid_rivulet_api_ErrRange), ("rivulet/api.ErrMany", laid_rivulet_api_ErrMany), ("rivulet/api.ErrSum", laid_rivulet_api_ErrSum), ("rivulet/api.ErrWord", laid_rivulet_api_ErrWord), ("rivulet/api.ErrNumber", laid_rivulet_api_ErrNumber), ("rivulet/api.ErrAddr", laid_rivulet_api_ErrAddr), ("rivulet/api.ErrName", laid_rivulet_api_ErrName), ("rivulet/api.ErrTwice", laid_rivulet_api_ErrTwice), ("rivulet/api.ErrNone", laid_rivulet_api_ErrNone), ("rivulet/api.ErrAway", laid_rivulet_api_ErrAway), ("rivulet/api.ErrKind", laid_rivulet_api_ErrKind), ("rivulet/api.ErrDeep", laid_rivulet_api_ErrDeep)], narrowed := true }
def IpBackUptoSaid : Prop := ipBackUptoRow.holds Tryd.pinned (OpenSpec.upto ipBackSpec)

/-- 'rivuletlaw3.IpFields', WHERE WHAT IT READS IS OF BULK AT MOST 1048576: true; the input reads as it did. -/
def ipFieldsUptoRow : OpenClaim := { program := "ytbgbplbkombfjaadoor", sum := "5c656f21e53ab187cf3603337b50a544253a2e95c6eef9cb2f80ddb5d7830920", func := "rivulet/rivuletlaw3.IpFields", spec := "ipFields", named := ["rivulet/api.ErrRange", "rivulet/api.ErrEnd", "rivulet/api.ErrShape", "rivulet/api.ErrSum"], apart := false, laid := [("rivulet/api.ErrEnd", laid_rivulet_api_ErrEnd), ("rivulet/api.ErrShape", laid_rivulet_api_ErrShape), ("rivulet/api.ErrRange", laid_rivulet_api_ErrRange), ("rivulet/api.ErrSum", laid_rivulet_api_ErrSum)], narrowed := true }
def IpFieldsUptoSaid : Prop := ipFieldsUptoRow.holds Tryd.pinned (OpenSpec.upto ipFieldsSpec)

/-- 'rivuletlaw3.IpCut', WHERE WHAT IT READS IS OF BULK AT MOST 1048576: true; the input reads as it did. -/
def ipCutUptoRow : OpenClaim := { program := "ytbgbplbkombfjaadoor", sum := "5c656f21e53ab187cf3603337b50a544253a2e95c6eef9cb2f80ddb5d7830920", func := "rivulet/rivuletlaw3.IpCut", spec := "ipCut", named := ["rivulet/api.ErrRange", "rivulet/api.ErrEnd", "rivulet/api.ErrShape", "rivulet/api.ErrSum"], apart := false, laid := [("rivulet/api.ErrEnd", laid_rivulet_api_ErrEnd), ("rivulet/api.ErrShape", laid_rivulet_api_ErrShape), ("rivulet/api.ErrRange", laid_rivulet_api_ErrRange), ("rivulet/api.ErrSum", laid_rivulet_api_ErrSum)], narrowed := true }
def IpCutUptoSaid : Prop := ipCutUptoRow.holds Tryd.pinned (OpenSpec.upto ipCutSpec)

/-- 'rivuletlaw4.WireFields', WHERE WHAT IT READS IS OF BULK AT MOST 1048576: true; the input reads as it did. -/
def wireFieldsUptoRow : OpenClaim := { program := "ytbgbplbkombfjaadoor", sum := "5c656f21e53ab187cf3603337b50a544253a2e95c6eef9cb2f80ddb5d7830920", func := "rivulet/rivuletlaw4.WireFields", spec := "wireFields", named := ["rivulet/api.ErrKind", "rivulet/api.ErrMany", "rivulet/api.ErrRange"], apart := false, laid := [("rivulet/api.ErrRange", laid_rivulet_api_ErrRange), ("rivulet/api.ErrMany", laid_rivulet_api_ErrMany), ("rivulet/api.ErrKind", laid_rivulet_api_ErrKind)], narrowed := true }
def WireFieldsUptoSaid : Prop := wireFieldsUptoRow.holds Tryd.pinned (OpenSpec.upto wireFieldsSpec)

/-- 'rivuletlaw4.WireTwins', WHERE WHAT IT READS IS OF BULK AT MOST 1048576: true; the input reads as it did. -/
def wireTwinsUptoRow : OpenClaim := { program := "ytbgbplbkombfjaadoor", sum := "5c656f21e53ab187cf3603337b50a544253a2e95c6eef9cb2f80ddb5d7830920", func := "rivulet/rivuletlaw4.WireTwins", spec := "wireTwins", named := ["rivulet/api.ErrKind", "rivulet/api.ErrMany", "rivulet/api.ErrRange"], apart := false, laid := [("rivulet/api.ErrRange", laid_rivulet_api_ErrRange), ("rivulet/api.ErrMany", laid_rivulet_api_ErrMany), ("rivulet/api.ErrKind", laid_rivulet_api_ErrKind)], narrowed := true }
def WireTwinsUptoSaid : Prop := wireTwinsUptoRow.holds Tryd.pinned (OpenSpec.upto wireTwinsSpec)

/-- 'rivuletlaw4.WireSays', WHERE WHAT IT READS IS OF BULK AT MOST 1048576: true; the input reads as it did. -/
def wireSaysUptoRow : OpenClaim := { program := "ytbgbplbkombfjaadoor", sum := "5c656f21e53ab187cf3603337b50a544253a2e95c6eef9cb2f80ddb5d7830920", func := "rivulet/rivuletlaw4.WireSays", spec := "wireSays", named := ["rivulet/api.ErrKind", "rivulet/api.ErrMany", "rivulet/api.ErrRange", "rivulet/api.ErrEnd", "rivulet/api.ErrShape", "rivulet/api.ErrSum", "rivulet/api.ErrWord", "rivulet/api.ErrNumber", "rivulet/api.ErrAddr", "rivulet/api.ErrName", "rivulet/api.ErrTwice", "rivulet/api.ErrNone", "rivulet/api.ErrAway", "rivulet/api.ErrDeep"], apart := false, laid := [("rivulet/api.ErrEnd", laid_rivulet_api_ErrEnd), ("rivulet/api.ErrShape", laid_rivulet_api_ErrShape), ("rivulet/api.ErrRange", laid_rivulet_api_ErrRange), ("rivulet/api.ErrMany", laid_rivulet_api_ErrMany), ("rivulet/api.ErrSum", laid_rivulet_api_ErrSum), ("rivulet/api.ErrWord", laid_rivulet_api_ErrWord), ("rivulet/api.ErrNumber", laid_rivulet_api_ErrNumber), ("rivulet/api.ErrAddr", laid_rivulet_api_ErrAddr), ("rivulet/api.ErrName", laid_rivulet_api_ErrName), ("rivulet/api.ErrTwice", laid_rivulet_api_ErrTwice), ("rivulet/api.ErrNone", laid_rivulet_api_ErrNone), ("rivulet/api.ErrAway", laid_rivulet_api_ErrAway), ("rivulet/api.ErrKind", laid_rivulet_api_ErrKind), ("rivulet/api.ErrDeep", laid_rivulet_api_ErrDeep)], narrowed := true }
def WireSaysUptoSaid : Prop := wireSaysUptoRow.holds Tryd.pinned (OpenSpec.upto wireSaysSpec)

/-- 'rivuletlaw4.WireBack', WHERE WHAT IT READS IS OF BULK AT MOST 1048576: true; the input reads as it did. -/
def wireBackUptoRow : OpenClaim := { program := "ytbgbplbkombfjaadoor", sum := "5c656f21e53ab187cf3603337b50a544253a2e95c6eef9cb2f80ddb5d7830920", func := "rivulet/rivuletlaw4.WireBack", spec := "wireBack", named := ["rivulet/api.ErrKind", "rivulet/api.ErrMany", "rivulet/api.ErrRange", "rivulet/api.ErrEnd", "rivulet/api.ErrSum", "rivulet/api.ErrShape", "rivulet/api.ErrWord", "rivulet/api.ErrNumber", "rivulet/api.ErrAddr", "rivulet/api.ErrName", "rivulet/api.ErrTwice", "rivulet/api.ErrNone", "rivulet/api.ErrAway", "rivulet/api.ErrDeep"], apart := false, laid := [("rivulet/api.ErrEnd", laid_rivulet_api_ErrEnd), ("rivulet/api.ErrShape", laid_rivulet_api_ErrShape), ("rivulet/api.ErrRange", laid_rivulet_api_ErrRange), ("rivulet/api.ErrMany", laid_rivulet_api_ErrMany), ("rivulet/api.ErrSum", laid_rivulet_api_ErrSum), ("rivulet/api.ErrWord", laid_rivulet_api_ErrWord), ("rivulet/api.ErrNumber", laid_rivulet_api_ErrNumber), ("rivulet/api.ErrAddr", laid_rivulet_api_ErrAddr), ("rivulet/api.ErrName", laid_rivulet_api_ErrName), ("rivulet/api.ErrTwice", laid_rivulet_api_ErrTwice), ("rivulet/api.ErrNone", laid_rivulet_api_ErrNone), ("rivulet/api.ErrAway", laid_rivulet_api_ErrAway), ("rivulet/api.ErrKind", laid_rivulet_api_ErrKind), ("rivulet/api.ErrDeep", laid_rivulet_api_ErrDeep)], narrowed := true }
def WireBackUptoSaid : Prop := wireBackUptoRow.holds Tryd.pinned (OpenSpec.upto wireBackSpec)

/-- 'rivuletlaw4.WireReads', WHERE WHAT IT READS IS OF BULK AT MOST 1048576: true; the input reads as it did. -/
def wireReadsUptoRow : OpenClaim := { program := "ytbgbplbkombfjaadoor", sum := "5c656f21e53ab187cf3603337b50a544253a2e95c6eef9cb2f80ddb5d7830920", func := "rivulet/rivuletlaw4.WireReads", spec := "wireReads", named := ["rivulet/api.ErrKind", "rivulet/api.ErrMany", "rivulet/api.ErrRange", "rivulet/api.ErrEnd", "rivulet/api.ErrSum", "rivulet/api.ErrShape"], apart := false, laid := [("rivulet/api.ErrEnd", laid_rivulet_api_ErrEnd), ("rivulet/api.ErrShape", laid_rivulet_api_ErrShape), ("rivulet/api.ErrRange", laid_rivulet_api_ErrRange), ("rivulet/api.ErrMany", laid_rivulet_api_ErrMany), ("rivulet/api.ErrSum", laid_rivulet_api_ErrSum), ("rivulet/api.ErrKind", laid_rivulet_api_ErrKind)], narrowed := true }
def WireReadsUptoSaid : Prop := wireReadsUptoRow.holds Tryd.pinned (OpenSpec.upto wireReadsSpec)

end Rows
end Go.Proofs.YtbgbplbkombfjaaDoor
