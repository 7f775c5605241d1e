/-
  No cell of these rows narrows 'for every input' (looked for: loops, veiled, ifaces, maps, wideKeys, modest, calm, conditions, laid).
  DERIVED. THE GIVEN ROWS OF THIS SEAT. 5 by the template 'for every input the law returns true; each argument reads behind the call as it read before'; 0 by the template 'total and deterministic' (their statements: YtdmofjhncdkofaaTotals.lean).
  GIVEN WITH THE SEED: the statements are not yours to turn. If you find one false, say at which input.
  Laid BY PROGRAM, IN A SANDBOX (cutbox-rows.mjs): the forced cells as the released guide's own fill.sh prints them over the translation c2991cb251f75276… (all of the seat's roots in one cut). By AI agents, Wed Nov 11 2026. No macro, syntax, notation, axiom, sorry.
-/
import Derived.Test.YtdmofjhncdkofaaChecked
import GoSem.Claim
import GoSem.ClaimJoined
import GoSem.ClaimMapViews
import Derived.JoinedTies
import Derived.KernelRfl
namespace Go.Proofs.Ytdmofjhncdkofaa
/- THE CELL 'sum', in the pinned program and in every row, IS THE sha256 OF THE DUMP (.gsa) THAT YtdmofjhncdkofaaProg.lean LOADS. Nothing in Lean hashes anything: it is a label: what it is worth is what the hold of that sum in a sandbox is worth. -/
noncomputable def Try.pinned : Pinned := { name := "ytdmofjhncdkofaa", sum := "c2991cb251f7527649a8c8dd13e394cd2b2f2c5c60cce8af35a19bcdfdab5c3d", checked := Try.checked }
namespace Rows
def none {H : Type} : Left H := { results := [], args := [] }

/-- 'rillmeterlaw06.IpfourLong': WHATEVER THE INPUT: true; the input reads as it did. -/
def ipfourLongSpec : ChangeSpec := { name := "ipfourLong", fn := fun _ => fun
  | [d] => { results := [.lit (.bool true)], args := [d] }
  | _ => none }
def ipfourLongRow : OpenClaim := { program := "ytdmofjhncdkofaa", sum := "c2991cb251f7527649a8c8dd13e394cd2b2f2c5c60cce8af35a19bcdfdab5c3d", func := "rillmeter/rillmeterlaw06.IpfourLong", spec := "ipfourLong", apart := false }
def IpfourLongSaid : Prop := ipfourLongRow.holds Try.pinned (OpenSpec.ofChange ipfourLongSpec)

/-- ITS FALSE NEIGHBOUR: 'it returns false'. Refute it at one input. -/
def ipfourLongWrong : ChangeSpec := { name := "ipfourLong", fn := fun _ => fun
  | [d] => { results := [.lit (.bool false)], args := [d] }
  | _ => none }
def IpfourLongWrongFalsely : Prop := ipfourLongRow.holds Try.pinned (OpenSpec.ofChange ipfourLongWrong)

/-- 'rillmeterlaw06.IpfourTakes': WHATEVER THE INPUT: true; the input reads as it did. -/
def ipfourTakesSpec : ChangeSpec := { name := "ipfourTakes", fn := fun _ => fun
  | [d] => { results := [.lit (.bool true)], args := [d] }
  | _ => none }
def ipfourTakesRow : OpenClaim := { program := "ytdmofjhncdkofaa", sum := "c2991cb251f7527649a8c8dd13e394cd2b2f2c5c60cce8af35a19bcdfdab5c3d", func := "rillmeter/rillmeterlaw06.IpfourTakes", spec := "ipfourTakes", apart := false }
def IpfourTakesSaid : Prop := ipfourTakesRow.holds Try.pinned (OpenSpec.ofChange ipfourTakesSpec)

/-- ITS FALSE NEIGHBOUR: 'it returns false'. Refute it at one input. -/
def ipfourTakesWrong : ChangeSpec := { name := "ipfourTakes", fn := fun _ => fun
  | [d] => { results := [.lit (.bool false)], args := [d] }
  | _ => none }
def IpfourTakesWrongFalsely : Prop := ipfourTakesRow.holds Try.pinned (OpenSpec.ofChange ipfourTakesWrong)

/-- 'rillmeterlaw06.IpfourPuts': WHATEVER THE INPUT: true; the input reads as it did. -/
def ipfourPutsSpec : ChangeSpec := { name := "ipfourPuts", fn := fun _ => fun
  | [d1, d2, d3] => { results := [.lit (.bool true)], args := [d1, d2, d3] }
  | _ => none }
def ipfourPutsRow : OpenClaim := { program := "ytdmofjhncdkofaa", sum := "c2991cb251f7527649a8c8dd13e394cd2b2f2c5c60cce8af35a19bcdfdab5c3d", func := "rillmeter/rillmeterlaw06.IpfourPuts", spec := "ipfourPuts", apart := false }
def IpfourPutsSaid : Prop := ipfourPutsRow.holds Try.pinned (OpenSpec.ofChange ipfourPutsSpec)

/-- ITS FALSE NEIGHBOUR: 'it returns false'. Refute it at one input. -/
def ipfourPutsWrong : ChangeSpec := { name := "ipfourPuts", fn := fun _ => fun
  | [d1, d2, d3] => { results := [.lit (.bool false)], args := [d1, d2, d3] }
  | _ => none }
def IpfourPutsWrongFalsely : Prop := ipfourPutsRow.holds Try.pinned (OpenSpec.ofChange ipfourPutsWrong)

/-- 'rillmeterlaw06.IpfourTurned': WHATEVER THE INPUT: true; the input reads as it did. -/
def ipfourTurnedSpec : ChangeSpec := { name := "ipfourTurned", fn := fun _ => fun
  | [d1, d2, d3, d4] => { results := [.lit (.bool true)], args := [d1, d2, d3, d4] }
  | _ => none }
def ipfourTurnedRow : OpenClaim := { program := "ytdmofjhncdkofaa", sum := "c2991cb251f7527649a8c8dd13e394cd2b2f2c5c60cce8af35a19bcdfdab5c3d", func := "rillmeter/rillmeterlaw06.IpfourTurned", spec := "ipfourTurned", apart := false }
def IpfourTurnedSaid : Prop := ipfourTurnedRow.holds Try.pinned (OpenSpec.ofChange ipfourTurnedSpec)

/-- ITS FALSE NEIGHBOUR: 'it returns false'. Refute it at one input. -/
def ipfourTurnedWrong : ChangeSpec := { name := "ipfourTurned", fn := fun _ => fun
  | [d1, d2, d3, d4] => { results := [.lit (.bool false)], args := [d1, d2, d3, d4] }
  | _ => none }
def IpfourTurnedWrongFalsely : Prop := ipfourTurnedRow.holds Try.pinned (OpenSpec.ofChange ipfourTurnedWrong)

/-- 'rillmeterlaw06.IpfourTrail': WHATEVER THE INPUT: true; the input reads as it did. -/
def ipfourTrailSpec : ChangeSpec := { name := "ipfourTrail", fn := fun _ => fun
  | [d1, d2] => { results := [.lit (.bool true)], args := [d1, d2] }
  | _ => none }
def ipfourTrailRow : OpenClaim := { program := "ytdmofjhncdkofaa", sum := "c2991cb251f7527649a8c8dd13e394cd2b2f2c5c60cce8af35a19bcdfdab5c3d", func := "rillmeter/rillmeterlaw06.IpfourTrail", spec := "ipfourTrail", apart := false }
def IpfourTrailSaid : Prop := ipfourTrailRow.holds Try.pinned (OpenSpec.ofChange ipfourTrailSpec)

/-- ITS FALSE NEIGHBOUR: 'it returns false'. Refute it at one input. -/
def ipfourTrailWrong : ChangeSpec := { name := "ipfourTrail", fn := fun _ => fun
  | [d1, d2] => { results := [.lit (.bool false)], args := [d1, d2] }
  | _ => none }
def IpfourTrailWrongFalsely : Prop := ipfourTrailRow.holds Try.pinned (OpenSpec.ofChange ipfourTrailWrong)

/- THE SECOND FORM. 'bulk': how many values and letters a reading holds, each counted each time it is reached (what is shared counts as often as it is met; a slice's spare places count too). A statement '..UptoSaid' is the law's where the arguments, and the package variables that the reading takes, are together of bulk at most 1048576: NARROWER than '..Said'. Prove '..Said' where nothing that the law and all that it calls make is longer than what came in: it says more and counts as full. Else prove '..UptoSaid'. A law counts once. -/
mutual
def uptoBulk {H : Type} : DataW H → Nat
  | .lit (.string bytes) => bytes.length + 1
  | .lit _ => 1
  | .nil => 1
  | .ptr d => uptoBulk d + 1
  | .slice elems spare => uptoBulkAll elems + uptoBulkAll spare + 1
  | .agg parts => uptoBulkAll parts + 1
  | .iface _ d => uptoBulk d + 1
  | .map entries => uptoBulkEntries entries + 1
  | .held _ => 1
def uptoBulkAll {H : Type} : List (DataW H) → Nat
  | [] => 0
  | d :: r => uptoBulk d + uptoBulkAll r
def uptoBulkEntries {H : Type} : List (Lit × DataW H) → Nat
  | [] => 0
  | x :: r => uptoBulkEntry x + uptoBulkEntries r
def uptoBulkEntry {H : Type} : Lit × DataW H → Nat
  | (.string bytes, d) => bytes.length + uptoBulk d + 1
  | (_, d) => uptoBulk d + 1
 end
def uptoSmall : (H : Type) → List (DataW H) → Bool := fun _ ds => decide (uptoBulkAll ds ≤ 1048576)
def OpenSpec.upto (s : _root_.Go.ChangeSpec) : _root_.Go.OpenSpec := { _root_.Go.OpenSpec.ofChange s with cond := some uptoSmall }

/-- 'rillmeterlaw06.IpfourLong', WHERE WHAT IT READS IS OF BULK AT MOST 1048576: true; the input reads as it did. -/
def ipfourLongUptoRow : OpenClaim := { program := "ytdmofjhncdkofaa", sum := "c2991cb251f7527649a8c8dd13e394cd2b2f2c5c60cce8af35a19bcdfdab5c3d", func := "rillmeter/rillmeterlaw06.IpfourLong", spec := "ipfourLong", apart := false, narrowed := true }
def IpfourLongUptoSaid : Prop := ipfourLongUptoRow.holds Try.pinned (OpenSpec.upto ipfourLongSpec)

/-- 'rillmeterlaw06.IpfourTakes', WHERE WHAT IT READS IS OF BULK AT MOST 1048576: true; the input reads as it did. -/
def ipfourTakesUptoRow : OpenClaim := { program := "ytdmofjhncdkofaa", sum := "c2991cb251f7527649a8c8dd13e394cd2b2f2c5c60cce8af35a19bcdfdab5c3d", func := "rillmeter/rillmeterlaw06.IpfourTakes", spec := "ipfourTakes", apart := false, narrowed := true }
def IpfourTakesUptoSaid : Prop := ipfourTakesUptoRow.holds Try.pinned (OpenSpec.upto ipfourTakesSpec)

/-- 'rillmeterlaw06.IpfourPuts', WHERE WHAT IT READS IS OF BULK AT MOST 1048576: true; the input reads as it did. -/
def ipfourPutsUptoRow : OpenClaim := { program := "ytdmofjhncdkofaa", sum := "c2991cb251f7527649a8c8dd13e394cd2b2f2c5c60cce8af35a19bcdfdab5c3d", func := "rillmeter/rillmeterlaw06.IpfourPuts", spec := "ipfourPuts", apart := false, narrowed := true }
def IpfourPutsUptoSaid : Prop := ipfourPutsUptoRow.holds Try.pinned (OpenSpec.upto ipfourPutsSpec)

/-- 'rillmeterlaw06.IpfourTurned', WHERE WHAT IT READS IS OF BULK AT MOST 1048576: true; the input reads as it did. -/
def ipfourTurnedUptoRow : OpenClaim := { program := "ytdmofjhncdkofaa", sum := "c2991cb251f7527649a8c8dd13e394cd2b2f2c5c60cce8af35a19bcdfdab5c3d", func := "rillmeter/rillmeterlaw06.IpfourTurned", spec := "ipfourTurned", apart := false, narrowed := true }
def IpfourTurnedUptoSaid : Prop := ipfourTurnedUptoRow.holds Try.pinned (OpenSpec.upto ipfourTurnedSpec)

/-- 'rillmeterlaw06.IpfourTrail', WHERE WHAT IT READS IS OF BULK AT MOST 1048576: true; the input reads as it did. -/
def ipfourTrailUptoRow : OpenClaim := { program := "ytdmofjhncdkofaa", sum := "c2991cb251f7527649a8c8dd13e394cd2b2f2c5c60cce8af35a19bcdfdab5c3d", func := "rillmeter/rillmeterlaw06.IpfourTrail", spec := "ipfourTrail", apart := false, narrowed := true }
def IpfourTrailUptoSaid : Prop := ipfourTrailUptoRow.holds Try.pinned (OpenSpec.upto ipfourTrailSpec)

end Rows
end Go.Proofs.Ytdmofjhncdkofaa
