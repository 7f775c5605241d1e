/-
  No cell of these rows narrows 'for every input' (looked for: loops, veiled, ifaces, maps, wideKeys, modest, calm, conditions, laid).
  DERIVED. THE GIVEN ROWS OF THIS SEAT. 5 by the template 'for every input the law returns true; each argument reads behind the call as it read before'; 0 by the template 'total and deterministic' (their statements: YtocnbpbbmleahaaTotals.lean).
  GIVEN WITH THE SEED: the statements are not yours to turn. If you find one false, say at which input.
  Laid BY PROGRAM, IN A SANDBOX (cutbox-rows.mjs): the forced cells as the released guide's own fill.sh prints them over the translation 87152be10f41fdbf… (all of the seat's roots in one cut). By AI agents, Wed Nov 11 2026. No macro, syntax, notation, axiom, sorry.
-/
import Derived.Test.YtocnbpbbmleahaaChecked
import GoSem.Claim
import GoSem.ClaimJoined
import GoSem.ClaimMapViews
import Derived.JoinedTies
import Derived.KernelRfl
namespace Go.Proofs.Ytocnbpbbmleahaa
/- THE CELL 'sum', in the pinned program and in every row, IS THE sha256 OF THE DUMP (.gsa) THAT YtocnbpbbmleahaaProg.lean LOADS. Nothing in Lean hashes anything: it is a label: what it is worth is what the hold of that sum in a sandbox is worth. -/
noncomputable def Try.pinned : Pinned := { name := "ytocnbpbbmleahaa", sum := "87152be10f41fdbf1b478d5fb479e0de5e477ea322a29d9c987d7e5c2b655761", checked := Try.checked }
namespace Rows
def none {H : Type} : Left H := { results := [], args := [] }

/-- 'rillmeterlaw08.PortTakes': WHATEVER THE INPUT: true; the input reads as it did. -/
def portTakesSpec : ChangeSpec := { name := "portTakes", fn := fun _ => fun
  | [d1, d2] => { results := [.lit (.bool true)], args := [d1, d2] }
  | _ => none }
def portTakesRow : OpenClaim := { program := "ytocnbpbbmleahaa", sum := "87152be10f41fdbf1b478d5fb479e0de5e477ea322a29d9c987d7e5c2b655761", func := "rillmeter/rillmeterlaw08.PortTakes", spec := "portTakes", apart := false }
def PortTakesSaid : Prop := portTakesRow.holds Try.pinned (OpenSpec.ofChange portTakesSpec)

/-- ITS FALSE NEIGHBOUR: 'it returns false'. Refute it at one input. -/
def portTakesWrong : ChangeSpec := { name := "portTakes", fn := fun _ => fun
  | [d1, d2] => { results := [.lit (.bool false)], args := [d1, d2] }
  | _ => none }
def PortTakesWrongFalsely : Prop := portTakesRow.holds Try.pinned (OpenSpec.ofChange portTakesWrong)

/-- 'rillmeterlaw08.PortDatagrams': WHATEVER THE INPUT: true; the input reads as it did. -/
def portDatagramsSpec : ChangeSpec := { name := "portDatagrams", fn := fun _ => fun
  | [d1, d2, d3, d4] => { results := [.lit (.bool true)], args := [d1, d2, d3, d4] }
  | _ => none }
def portDatagramsRow : OpenClaim := { program := "ytocnbpbbmleahaa", sum := "87152be10f41fdbf1b478d5fb479e0de5e477ea322a29d9c987d7e5c2b655761", func := "rillmeter/rillmeterlaw08.PortDatagrams", spec := "portDatagrams", apart := false }
def PortDatagramsSaid : Prop := portDatagramsRow.holds Try.pinned (OpenSpec.ofChange portDatagramsSpec)

/-- ITS FALSE NEIGHBOUR: 'it returns false'. Refute it at one input. -/
def portDatagramsWrong : ChangeSpec := { name := "portDatagrams", fn := fun _ => fun
  | [d1, d2, d3, d4] => { results := [.lit (.bool false)], args := [d1, d2, d3, d4] }
  | _ => none }
def PortDatagramsWrongFalsely : Prop := portDatagramsRow.holds Try.pinned (OpenSpec.ofChange portDatagramsWrong)

/-- 'rillmeterlaw08.PortLong': WHATEVER THE INPUT: true; the input reads as it did. -/
def portLongSpec : ChangeSpec := { name := "portLong", fn := fun _ => fun
  | [d] => { results := [.lit (.bool true)], args := [d] }
  | _ => none }
def portLongRow : OpenClaim := { program := "ytocnbpbbmleahaa", sum := "87152be10f41fdbf1b478d5fb479e0de5e477ea322a29d9c987d7e5c2b655761", func := "rillmeter/rillmeterlaw08.PortLong", spec := "portLong", apart := false }
def PortLongSaid : Prop := portLongRow.holds Try.pinned (OpenSpec.ofChange portLongSpec)

/-- ITS FALSE NEIGHBOUR: 'it returns false'. Refute it at one input. -/
def portLongWrong : ChangeSpec := { name := "portLong", fn := fun _ => fun
  | [d] => { results := [.lit (.bool false)], args := [d] }
  | _ => none }
def PortLongWrongFalsely : Prop := portLongRow.holds Try.pinned (OpenSpec.ofChange portLongWrong)

/-- 'rillmeterlaw08.PortShort': WHATEVER THE INPUT: true; the input reads as it did. -/
def portShortSpec : ChangeSpec := { name := "portShort", fn := fun _ => fun
  | [d1, d2, d3] => { results := [.lit (.bool true)], args := [d1, d2, d3] }
  | _ => none }
def portShortRow : OpenClaim := { program := "ytocnbpbbmleahaa", sum := "87152be10f41fdbf1b478d5fb479e0de5e477ea322a29d9c987d7e5c2b655761", func := "rillmeter/rillmeterlaw08.PortShort", spec := "portShort", apart := false }
def PortShortSaid : Prop := portShortRow.holds Try.pinned (OpenSpec.ofChange portShortSpec)

/-- ITS FALSE NEIGHBOUR: 'it returns false'. Refute it at one input. -/
def portShortWrong : ChangeSpec := { name := "portShort", fn := fun _ => fun
  | [d1, d2, d3] => { results := [.lit (.bool false)], args := [d1, d2, d3] }
  | _ => none }
def PortShortWrongFalsely : Prop := portShortRow.holds Try.pinned (OpenSpec.ofChange portShortWrong)

/-- 'rillmeterlaw08.PortSegments': WHATEVER THE INPUT: true; the input reads as it did. -/
def portSegmentsSpec : ChangeSpec := { name := "portSegments", fn := fun _ => fun
  | [d1, d2, d3, d4] => { results := [.lit (.bool true)], args := [d1, d2, d3, d4] }
  | _ => none }
def portSegmentsRow : OpenClaim := { program := "ytocnbpbbmleahaa", sum := "87152be10f41fdbf1b478d5fb479e0de5e477ea322a29d9c987d7e5c2b655761", func := "rillmeter/rillmeterlaw08.PortSegments", spec := "portSegments", inPlace := ["internal/abi.NoEscape", "internal/bytealg.MakeNoZero"], apart := false }
def PortSegmentsSaid : Prop := portSegmentsRow.holds Try.pinned (OpenSpec.ofChange portSegmentsSpec)

/-- ITS FALSE NEIGHBOUR: 'it returns false'. Refute it at one input. -/
def portSegmentsWrong : ChangeSpec := { name := "portSegments", fn := fun _ => fun
  | [d1, d2, d3, d4] => { results := [.lit (.bool false)], args := [d1, d2, d3, d4] }
  | _ => none }
def PortSegmentsWrongFalsely : Prop := portSegmentsRow.holds Try.pinned (OpenSpec.ofChange portSegmentsWrong)

/- THE SECOND FORM. 'bulk': how many values and letters a reading holds, each counted each time it is reached (what is shared counts as often as it is met; a slice's spare places count too). A statement '..UptoSaid' is the law's where the arguments, and the package variables that the reading takes, are together of bulk at most 1048576: NARROWER than '..Said'. Prove '..Said' where nothing that the law and all that it calls make is longer than what came in: it says more and counts as full. Else prove '..UptoSaid'. A law counts once. -/
mutual
def uptoBulk {H : Type} : DataW H → Nat
  | .lit (.string bytes) => bytes.length + 1
  | .lit _ => 1
  | .nil => 1
  | .ptr d => uptoBulk d + 1
  | .slice elems spare => uptoBulkAll elems + uptoBulkAll spare + 1
  | .agg parts => uptoBulkAll parts + 1
  | .iface _ d => uptoBulk d + 1
  | .map entries => uptoBulkEntries entries + 1
  | .held _ => 1
def uptoBulkAll {H : Type} : List (DataW H) → Nat
  | [] => 0
  | d :: r => uptoBulk d + uptoBulkAll r
def uptoBulkEntries {H : Type} : List (Lit × DataW H) → Nat
  | [] => 0
  | x :: r => uptoBulkEntry x + uptoBulkEntries r
def uptoBulkEntry {H : Type} : Lit × DataW H → Nat
  | (.string bytes, d) => bytes.length + uptoBulk d + 1
  | (_, d) => uptoBulk d + 1
 end
def uptoSmall : (H : Type) → List (DataW H) → Bool := fun _ ds => decide (uptoBulkAll ds ≤ 1048576)
def OpenSpec.upto (s : _root_.Go.ChangeSpec) : _root_.Go.OpenSpec := { _root_.Go.OpenSpec.ofChange s with cond := some uptoSmall }

/-- 'rillmeterlaw08.PortTakes', WHERE WHAT IT READS IS OF BULK AT MOST 1048576: true; the input reads as it did. -/
def portTakesUptoRow : OpenClaim := { program := "ytocnbpbbmleahaa", sum := "87152be10f41fdbf1b478d5fb479e0de5e477ea322a29d9c987d7e5c2b655761", func := "rillmeter/rillmeterlaw08.PortTakes", spec := "portTakes", apart := false, narrowed := true }
def PortTakesUptoSaid : Prop := portTakesUptoRow.holds Try.pinned (OpenSpec.upto portTakesSpec)

/-- 'rillmeterlaw08.PortDatagrams', WHERE WHAT IT READS IS OF BULK AT MOST 1048576: true; the input reads as it did. -/
def portDatagramsUptoRow : OpenClaim := { program := "ytocnbpbbmleahaa", sum := "87152be10f41fdbf1b478d5fb479e0de5e477ea322a29d9c987d7e5c2b655761", func := "rillmeter/rillmeterlaw08.PortDatagrams", spec := "portDatagrams", apart := false, narrowed := true }
def PortDatagramsUptoSaid : Prop := portDatagramsUptoRow.holds Try.pinned (OpenSpec.upto portDatagramsSpec)

/-- 'rillmeterlaw08.PortLong', WHERE WHAT IT READS IS OF BULK AT MOST 1048576: true; the input reads as it did. -/
def portLongUptoRow : OpenClaim := { program := "ytocnbpbbmleahaa", sum := "87152be10f41fdbf1b478d5fb479e0de5e477ea322a29d9c987d7e5c2b655761", func := "rillmeter/rillmeterlaw08.PortLong", spec := "portLong", apart := false, narrowed := true }
def PortLongUptoSaid : Prop := portLongUptoRow.holds Try.pinned (OpenSpec.upto portLongSpec)

/-- 'rillmeterlaw08.PortShort', WHERE WHAT IT READS IS OF BULK AT MOST 1048576: true; the input reads as it did. -/
def portShortUptoRow : OpenClaim := { program := "ytocnbpbbmleahaa", sum := "87152be10f41fdbf1b478d5fb479e0de5e477ea322a29d9c987d7e5c2b655761", func := "rillmeter/rillmeterlaw08.PortShort", spec := "portShort", apart := false, narrowed := true }
def PortShortUptoSaid : Prop := portShortUptoRow.holds Try.pinned (OpenSpec.upto portShortSpec)

/-- 'rillmeterlaw08.PortSegments', WHERE WHAT IT READS IS OF BULK AT MOST 1048576: true; the input reads as it did. -/
def portSegmentsUptoRow : OpenClaim := { program := "ytocnbpbbmleahaa", sum := "87152be10f41fdbf1b478d5fb479e0de5e477ea322a29d9c987d7e5c2b655761", func := "rillmeter/rillmeterlaw08.PortSegments", spec := "portSegments", inPlace := ["internal/abi.NoEscape", "internal/bytealg.MakeNoZero"], apart := false, narrowed := true }
def PortSegmentsUptoSaid : Prop := portSegmentsUptoRow.holds Try.pinned (OpenSpec.upto portSegmentsSpec)

end Rows
end Go.Proofs.Ytocnbpbbmleahaa
