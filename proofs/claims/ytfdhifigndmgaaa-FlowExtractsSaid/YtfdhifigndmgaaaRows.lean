/-
  No cell of these rows narrows 'for every input' (looked for: loops, veiled, ifaces, maps, wideKeys, modest, calm, conditions, laid).
  DERIVED. THE GIVEN ROWS OF THIS SEAT. 6 by the template 'for every input the law returns true; each argument reads behind the call as it read before'; 0 by the template 'total and deterministic' (their statements: YtfdhifigndmgaaaTotals.lean).
  GIVEN WITH THE SEED: the statements are not yours to turn. If you find one false, say at which input.
  Laid BY PROGRAM, IN A SANDBOX (cutbox-rows.mjs): the forced cells as the released guide's own fill.sh prints them over the translation a2d77b595227185b… (all of the seat's roots in one cut). By AI agents, Wed Nov 11 2026. No macro, syntax, notation, axiom, sorry.
-/
import Derived.Test.YtfdhifigndmgaaaChecked
import GoSem.Claim
import GoSem.ClaimJoined
import GoSem.ClaimMapViews
import Derived.JoinedTies
import Derived.KernelRfl
namespace Go.Proofs.Ytfdhifigndmgaaa
/- THE CELL 'sum', in the pinned program and in every row, IS THE sha256 OF THE DUMP (.gsa) THAT YtfdhifigndmgaaaProg.lean LOADS. Nothing in Lean hashes anything: it is a label: what it is worth is what the hold of that sum in a sandbox is worth. -/
noncomputable def Try.pinned : Pinned := { name := "ytfdhifigndmgaaa", sum := "a2d77b595227185bfd22788009053b6cc94716bb3974e7502746679159a68952", checked := Try.checked }
namespace Rows
def none {H : Type} : Left H := { results := [], args := [] }

/-- 'rillmeterlaw09.FlowKeys': WHATEVER THE INPUT: true; the input reads as it did. -/
def flowKeysSpec : ChangeSpec := { name := "flowKeys", fn := fun _ => fun
  | [d] => { results := [.lit (.bool true)], args := [d] }
  | _ => none }
def flowKeysRow : OpenClaim := { program := "ytfdhifigndmgaaa", sum := "a2d77b595227185bfd22788009053b6cc94716bb3974e7502746679159a68952", func := "rillmeter/rillmeterlaw09.FlowKeys", spec := "flowKeys", apart := false }
def FlowKeysSaid : Prop := flowKeysRow.holds Try.pinned (OpenSpec.ofChange flowKeysSpec)

/-- ITS FALSE NEIGHBOUR: 'it returns false'. Refute it at one input. -/
def flowKeysWrong : ChangeSpec := { name := "flowKeys", fn := fun _ => fun
  | [d] => { results := [.lit (.bool false)], args := [d] }
  | _ => none }
def FlowKeysWrongFalsely : Prop := flowKeysRow.holds Try.pinned (OpenSpec.ofChange flowKeysWrong)

/-- 'rillmeterlaw09.FlowBack': WHATEVER THE INPUT: true; the input reads as it did. -/
def flowBackSpec : ChangeSpec := { name := "flowBack", fn := fun _ => fun
  | [d] => { results := [.lit (.bool true)], args := [d] }
  | _ => none }
def flowBackRow : OpenClaim := { program := "ytfdhifigndmgaaa", sum := "a2d77b595227185bfd22788009053b6cc94716bb3974e7502746679159a68952", func := "rillmeter/rillmeterlaw09.FlowBack", spec := "flowBack", apart := false }
def FlowBackSaid : Prop := flowBackRow.holds Try.pinned (OpenSpec.ofChange flowBackSpec)

/-- ITS FALSE NEIGHBOUR: 'it returns false'. Refute it at one input. -/
def flowBackWrong : ChangeSpec := { name := "flowBack", fn := fun _ => fun
  | [d] => { results := [.lit (.bool false)], args := [d] }
  | _ => none }
def FlowBackWrongFalsely : Prop := flowBackRow.holds Try.pinned (OpenSpec.ofChange flowBackWrong)

/-- 'rillmeterlaw09.FlowExtracts': WHATEVER THE INPUT: true; the input reads as it did. -/
def flowExtractsSpec : ChangeSpec := { name := "flowExtracts", fn := fun _ => fun
  | [d] => { results := [.lit (.bool true)], args := [d] }
  | _ => none }
def flowExtractsRow : OpenClaim := { program := "ytfdhifigndmgaaa", sum := "a2d77b595227185bfd22788009053b6cc94716bb3974e7502746679159a68952", func := "rillmeter/rillmeterlaw09.FlowExtracts", spec := "flowExtracts", unfollowed := true, recurses := true, apart := false }
def FlowExtractsSaid : Prop := flowExtractsRow.holds Try.pinned (OpenSpec.ofChange flowExtractsSpec)

/-- ITS FALSE NEIGHBOUR: 'it returns false'. Refute it at one input. -/
def flowExtractsWrong : ChangeSpec := { name := "flowExtracts", fn := fun _ => fun
  | [d] => { results := [.lit (.bool false)], args := [d] }
  | _ => none }
def FlowExtractsWrongFalsely : Prop := flowExtractsRow.holds Try.pinned (OpenSpec.ofChange flowExtractsWrong)

/-- 'rillmeterlaw09.FlowTags': WHATEVER THE INPUT: true; the input reads as it did. -/
def flowTagsSpec : ChangeSpec := { name := "flowTags", fn := fun _ => fun
  | [d1, d2, d3] => { results := [.lit (.bool true)], args := [d1, d2, d3] }
  | _ => none }
def flowTagsRow : OpenClaim := { program := "ytfdhifigndmgaaa", sum := "a2d77b595227185bfd22788009053b6cc94716bb3974e7502746679159a68952", func := "rillmeter/rillmeterlaw09.FlowTags", spec := "flowTags", unfollowed := true, recurses := true, apart := false }
def FlowTagsSaid : Prop := flowTagsRow.holds Try.pinned (OpenSpec.ofChange flowTagsSpec)

/-- ITS FALSE NEIGHBOUR: 'it returns false'. Refute it at one input. -/
def flowTagsWrong : ChangeSpec := { name := "flowTags", fn := fun _ => fun
  | [d1, d2, d3] => { results := [.lit (.bool false)], args := [d1, d2, d3] }
  | _ => none }
def FlowTagsWrongFalsely : Prop := flowTagsRow.holds Try.pinned (OpenSpec.ofChange flowTagsWrong)

/-- 'rillmeterlaw09.FlowSound': WHATEVER THE INPUT: true; the input reads as it did. -/
def flowSoundSpec : ChangeSpec := { name := "flowSound", fn := fun _ => fun
  | [d] => { results := [.lit (.bool true)], args := [d] }
  | _ => none }
def flowSoundRow : OpenClaim := { program := "ytfdhifigndmgaaa", sum := "a2d77b595227185bfd22788009053b6cc94716bb3974e7502746679159a68952", func := "rillmeter/rillmeterlaw09.FlowSound", spec := "flowSound", unfollowed := true, recurses := true, apart := false }
def FlowSoundSaid : Prop := flowSoundRow.holds Try.pinned (OpenSpec.ofChange flowSoundSpec)

/-- ITS FALSE NEIGHBOUR: 'it returns false'. Refute it at one input. -/
def flowSoundWrong : ChangeSpec := { name := "flowSound", fn := fun _ => fun
  | [d] => { results := [.lit (.bool false)], args := [d] }
  | _ => none }
def FlowSoundWrongFalsely : Prop := flowSoundRow.holds Try.pinned (OpenSpec.ofChange flowSoundWrong)

/-- 'rillmeterlaw09.FlowWritten': WHATEVER THE INPUT: true; the input reads as it did. -/
def flowWrittenSpec : ChangeSpec := { name := "flowWritten", fn := fun _ => fun
  | [d1, d2, d3, d4, d5, d6] => { results := [.lit (.bool true)], args := [d1, d2, d3, d4, d5, d6] }
  | _ => none }
def flowWrittenRow : OpenClaim := { program := "ytfdhifigndmgaaa", sum := "a2d77b595227185bfd22788009053b6cc94716bb3974e7502746679159a68952", func := "rillmeter/rillmeterlaw09.FlowWritten", spec := "flowWritten", unfollowed := true, recurses := true, apart := false }
def FlowWrittenSaid : Prop := flowWrittenRow.holds Try.pinned (OpenSpec.ofChange flowWrittenSpec)

/-- ITS FALSE NEIGHBOUR: 'it returns false'. Refute it at one input. -/
def flowWrittenWrong : ChangeSpec := { name := "flowWritten", fn := fun _ => fun
  | [d1, d2, d3, d4, d5, d6] => { results := [.lit (.bool false)], args := [d1, d2, d3, d4, d5, d6] }
  | _ => none }
def FlowWrittenWrongFalsely : Prop := flowWrittenRow.holds Try.pinned (OpenSpec.ofChange flowWrittenWrong)

/- THE SECOND FORM. 'bulk': how many values and letters a reading holds, each counted each time it is reached (what is shared counts as often as it is met; a slice's spare places count too). A statement '..UptoSaid' is the law's where the arguments, and the package variables that the reading takes, are together of bulk at most 1048576: NARROWER than '..Said'. Prove '..Said' where nothing that the law and all that it calls make is longer than what came in: it says more and counts as full. Else prove '..UptoSaid'. A law counts once. -/
mutual
def uptoBulk {H : Type} : DataW H → Nat
  | .lit (.string bytes) => bytes.length + 1
  | .lit _ => 1
  | .nil => 1
  | .ptr d => uptoBulk d + 1
  | .slice elems spare => uptoBulkAll elems + uptoBulkAll spare + 1
  | .agg parts => uptoBulkAll parts + 1
  | .iface _ d => uptoBulk d + 1
  | .map entries => uptoBulkEntries entries + 1
  | .held _ => 1
def uptoBulkAll {H : Type} : List (DataW H) → Nat
  | [] => 0
  | d :: r => uptoBulk d + uptoBulkAll r
def uptoBulkEntries {H : Type} : List (Lit × DataW H) → Nat
  | [] => 0
  | x :: r => uptoBulkEntry x + uptoBulkEntries r
def uptoBulkEntry {H : Type} : Lit × DataW H → Nat
  | (.string bytes, d) => bytes.length + uptoBulk d + 1
  | (_, d) => uptoBulk d + 1
 end
def uptoSmall : (H : Type) → List (DataW H) → Bool := fun _ ds => decide (uptoBulkAll ds ≤ 1048576)
def OpenSpec.upto (s : _root_.Go.ChangeSpec) : _root_.Go.OpenSpec := { _root_.Go.OpenSpec.ofChange s with cond := some uptoSmall }

/-- 'rillmeterlaw09.FlowKeys', WHERE WHAT IT READS IS OF BULK AT MOST 1048576: true; the input reads as it did. -/
def flowKeysUptoRow : OpenClaim := { program := "ytfdhifigndmgaaa", sum := "a2d77b595227185bfd22788009053b6cc94716bb3974e7502746679159a68952", func := "rillmeter/rillmeterlaw09.FlowKeys", spec := "flowKeys", apart := false, narrowed := true }
def FlowKeysUptoSaid : Prop := flowKeysUptoRow.holds Try.pinned (OpenSpec.upto flowKeysSpec)

/-- 'rillmeterlaw09.FlowBack', WHERE WHAT IT READS IS OF BULK AT MOST 1048576: true; the input reads as it did. -/
def flowBackUptoRow : OpenClaim := { program := "ytfdhifigndmgaaa", sum := "a2d77b595227185bfd22788009053b6cc94716bb3974e7502746679159a68952", func := "rillmeter/rillmeterlaw09.FlowBack", spec := "flowBack", apart := false, narrowed := true }
def FlowBackUptoSaid : Prop := flowBackUptoRow.holds Try.pinned (OpenSpec.upto flowBackSpec)

/-- 'rillmeterlaw09.FlowExtracts', WHERE WHAT IT READS IS OF BULK AT MOST 1048576: true; the input reads as it did. -/
def flowExtractsUptoRow : OpenClaim := { program := "ytfdhifigndmgaaa", sum := "a2d77b595227185bfd22788009053b6cc94716bb3974e7502746679159a68952", func := "rillmeter/rillmeterlaw09.FlowExtracts", spec := "flowExtracts", unfollowed := true, recurses := true, apart := false, narrowed := true }
def FlowExtractsUptoSaid : Prop := flowExtractsUptoRow.holds Try.pinned (OpenSpec.upto flowExtractsSpec)

/-- 'rillmeterlaw09.FlowTags', WHERE WHAT IT READS IS OF BULK AT MOST 1048576: true; the input reads as it did. -/
def flowTagsUptoRow : OpenClaim := { program := "ytfdhifigndmgaaa", sum := "a2d77b595227185bfd22788009053b6cc94716bb3974e7502746679159a68952", func := "rillmeter/rillmeterlaw09.FlowTags", spec := "flowTags", unfollowed := true, recurses := true, apart := false, narrowed := true }
def FlowTagsUptoSaid : Prop := flowTagsUptoRow.holds Try.pinned (OpenSpec.upto flowTagsSpec)

/-- 'rillmeterlaw09.FlowSound', WHERE WHAT IT READS IS OF BULK AT MOST 1048576: true; the input reads as it did. -/
def flowSoundUptoRow : OpenClaim := { program := "ytfdhifigndmgaaa", sum := "a2d77b595227185bfd22788009053b6cc94716bb3974e7502746679159a68952", func := "rillmeter/rillmeterlaw09.FlowSound", spec := "flowSound", unfollowed := true, recurses := true, apart := false, narrowed := true }
def FlowSoundUptoSaid : Prop := flowSoundUptoRow.holds Try.pinned (OpenSpec.upto flowSoundSpec)

/-- 'rillmeterlaw09.FlowWritten', WHERE WHAT IT READS IS OF BULK AT MOST 1048576: true; the input reads as it did. -/
def flowWrittenUptoRow : OpenClaim := { program := "ytfdhifigndmgaaa", sum := "a2d77b595227185bfd22788009053b6cc94716bb3974e7502746679159a68952", func := "rillmeter/rillmeterlaw09.FlowWritten", spec := "flowWritten", unfollowed := true, recurses := true, apart := false, narrowed := true }
def FlowWrittenUptoSaid : Prop := flowWrittenUptoRow.holds Try.pinned (OpenSpec.upto flowWrittenSpec)

end Rows
end Go.Proofs.Ytfdhifigndmgaaa
