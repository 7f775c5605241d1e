/-
  No cell of these rows narrows 'for every input' (looked for: loops, veiled, ifaces, maps, wideKeys, modest, calm, conditions, laid).
  DERIVED. THE GIVEN ROWS OF THIS SEAT. 5 by the template 'for every input the law returns true; each argument reads behind the call as it read before'; 0 by the template 'total and deterministic' (their statements: YtmjpemnlilcpkaaTotals.lean).
  GIVEN WITH THE SEED: the statements are not yours to turn. If you find one false, say at which input.
  Laid BY PROGRAM, IN A SANDBOX (cutbox-rows.mjs): the forced cells as the released guide's own fill.sh prints them over the translation d13919a93d922f2e… (all of the seat's roots in one cut). By AI agents, Wed Nov 11 2026. No macro, syntax, notation, axiom, sorry.
-/
import Derived.Test.YtmjpemnlilcpkaaChecked
import GoSem.Claim
import GoSem.ClaimJoined
import GoSem.ClaimMapViews
import Derived.JoinedTies
import Derived.KernelRfl
namespace Go.Proofs.Ytmjpemnlilcpkaa
/- THE CELL 'sum', in the pinned program and in every row, IS THE sha256 OF THE DUMP (.gsa) THAT YtmjpemnlilcpkaaProg.lean LOADS. Nothing in Lean hashes anything: it is a label: what it is worth is what the hold of that sum in a sandbox is worth. -/
noncomputable def Try.pinned : Pinned := { name := "ytmjpemnlilcpkaa", sum := "d13919a93d922f2eb6bb397066a99984ab5b24bbeb360d41d9c434c28adb1b0d", checked := Try.checked }
namespace Rows
def none {H : Type} : Left H := { results := [], args := [] }

/-- 'rillmeterlaw07.IpsixTakes': WHATEVER THE INPUT: true; the input reads as it did. -/
def ipsixTakesSpec : ChangeSpec := { name := "ipsixTakes", fn := fun _ => fun
  | [d] => { results := [.lit (.bool true)], args := [d] }
  | _ => none }
def ipsixTakesRow : OpenClaim := { program := "ytmjpemnlilcpkaa", sum := "d13919a93d922f2eb6bb397066a99984ab5b24bbeb360d41d9c434c28adb1b0d", func := "rillmeter/rillmeterlaw07.IpsixTakes", spec := "ipsixTakes", unfollowed := true, recurses := true, apart := false }
def IpsixTakesSaid : Prop := ipsixTakesRow.holds Try.pinned (OpenSpec.ofChange ipsixTakesSpec)

/-- ITS FALSE NEIGHBOUR: 'it returns false'. Refute it at one input. -/
def ipsixTakesWrong : ChangeSpec := { name := "ipsixTakes", fn := fun _ => fun
  | [d] => { results := [.lit (.bool false)], args := [d] }
  | _ => none }
def IpsixTakesWrongFalsely : Prop := ipsixTakesRow.holds Try.pinned (OpenSpec.ofChange ipsixTakesWrong)

/-- 'rillmeterlaw07.IpsixPuts': WHATEVER THE INPUT: true; the input reads as it did. -/
def ipsixPutsSpec : ChangeSpec := { name := "ipsixPuts", fn := fun _ => fun
  | [d1, d2, d3] => { results := [.lit (.bool true)], args := [d1, d2, d3] }
  | _ => none }
def ipsixPutsRow : OpenClaim := { program := "ytmjpemnlilcpkaa", sum := "d13919a93d922f2eb6bb397066a99984ab5b24bbeb360d41d9c434c28adb1b0d", func := "rillmeter/rillmeterlaw07.IpsixPuts", spec := "ipsixPuts", unfollowed := true, recurses := true, apart := false }
def IpsixPutsSaid : Prop := ipsixPutsRow.holds Try.pinned (OpenSpec.ofChange ipsixPutsSpec)

/-- ITS FALSE NEIGHBOUR: 'it returns false'. Refute it at one input. -/
def ipsixPutsWrong : ChangeSpec := { name := "ipsixPuts", fn := fun _ => fun
  | [d1, d2, d3] => { results := [.lit (.bool false)], args := [d1, d2, d3] }
  | _ => none }
def IpsixPutsWrongFalsely : Prop := ipsixPutsRow.holds Try.pinned (OpenSpec.ofChange ipsixPutsWrong)

/-- 'rillmeterlaw07.IpsixLong': WHATEVER THE INPUT: true; the input reads as it did. -/
def ipsixLongSpec : ChangeSpec := { name := "ipsixLong", fn := fun _ => fun
  | [d] => { results := [.lit (.bool true)], args := [d] }
  | _ => none }
def ipsixLongRow : OpenClaim := { program := "ytmjpemnlilcpkaa", sum := "d13919a93d922f2eb6bb397066a99984ab5b24bbeb360d41d9c434c28adb1b0d", func := "rillmeter/rillmeterlaw07.IpsixLong", spec := "ipsixLong", unfollowed := true, recurses := true, apart := false }
def IpsixLongSaid : Prop := ipsixLongRow.holds Try.pinned (OpenSpec.ofChange ipsixLongSpec)

/-- ITS FALSE NEIGHBOUR: 'it returns false'. Refute it at one input. -/
def ipsixLongWrong : ChangeSpec := { name := "ipsixLong", fn := fun _ => fun
  | [d] => { results := [.lit (.bool false)], args := [d] }
  | _ => none }
def IpsixLongWrongFalsely : Prop := ipsixLongRow.holds Try.pinned (OpenSpec.ofChange ipsixLongWrong)

/-- 'rillmeterlaw07.IpsixBack': WHATEVER THE INPUT: true; the input reads as it did. -/
def ipsixBackSpec : ChangeSpec := { name := "ipsixBack", fn := fun _ => fun
  | [d] => { results := [.lit (.bool true)], args := [d] }
  | _ => none }
def ipsixBackRow : OpenClaim := { program := "ytmjpemnlilcpkaa", sum := "d13919a93d922f2eb6bb397066a99984ab5b24bbeb360d41d9c434c28adb1b0d", func := "rillmeter/rillmeterlaw07.IpsixBack", spec := "ipsixBack", unfollowed := true, recurses := true, apart := false }
def IpsixBackSaid : Prop := ipsixBackRow.holds Try.pinned (OpenSpec.ofChange ipsixBackSpec)

/-- ITS FALSE NEIGHBOUR: 'it returns false'. Refute it at one input. -/
def ipsixBackWrong : ChangeSpec := { name := "ipsixBack", fn := fun _ => fun
  | [d] => { results := [.lit (.bool false)], args := [d] }
  | _ => none }
def IpsixBackWrongFalsely : Prop := ipsixBackRow.holds Try.pinned (OpenSpec.ofChange ipsixBackWrong)

/-- 'rillmeterlaw07.IpsixTrail': WHATEVER THE INPUT: true; the input reads as it did. -/
def ipsixTrailSpec : ChangeSpec := { name := "ipsixTrail", fn := fun _ => fun
  | [d1, d2, d3] => { results := [.lit (.bool true)], args := [d1, d2, d3] }
  | _ => none }
def ipsixTrailRow : OpenClaim := { program := "ytmjpemnlilcpkaa", sum := "d13919a93d922f2eb6bb397066a99984ab5b24bbeb360d41d9c434c28adb1b0d", func := "rillmeter/rillmeterlaw07.IpsixTrail", spec := "ipsixTrail", unfollowed := true, recurses := true, apart := false }
def IpsixTrailSaid : Prop := ipsixTrailRow.holds Try.pinned (OpenSpec.ofChange ipsixTrailSpec)

/-- ITS FALSE NEIGHBOUR: 'it returns false'. Refute it at one input. -/
def ipsixTrailWrong : ChangeSpec := { name := "ipsixTrail", fn := fun _ => fun
  | [d1, d2, d3] => { results := [.lit (.bool false)], args := [d1, d2, d3] }
  | _ => none }
def IpsixTrailWrongFalsely : Prop := ipsixTrailRow.holds Try.pinned (OpenSpec.ofChange ipsixTrailWrong)

/- THE SECOND FORM. 'bulk': how many values and letters a reading holds, each counted each time it is reached (what is shared counts as often as it is met; a slice's spare places count too). A statement '..UptoSaid' is the law's where the arguments, and the package variables that the reading takes, are together of bulk at most 1048576: NARROWER than '..Said'. Prove '..Said' where nothing that the law and all that it calls make is longer than what came in: it says more and counts as full. Else prove '..UptoSaid'. A law counts once. -/
mutual
def uptoBulk {H : Type} : DataW H → Nat
  | .lit (.string bytes) => bytes.length + 1
  | .lit _ => 1
  | .nil => 1
  | .ptr d => uptoBulk d + 1
  | .slice elems spare => uptoBulkAll elems + uptoBulkAll spare + 1
  | .agg parts => uptoBulkAll parts + 1
  | .iface _ d => uptoBulk d + 1
  | .map entries => uptoBulkEntries entries + 1
  | .held _ => 1
def uptoBulkAll {H : Type} : List (DataW H) → Nat
  | [] => 0
  | d :: r => uptoBulk d + uptoBulkAll r
def uptoBulkEntries {H : Type} : List (Lit × DataW H) → Nat
  | [] => 0
  | x :: r => uptoBulkEntry x + uptoBulkEntries r
def uptoBulkEntry {H : Type} : Lit × DataW H → Nat
  | (.string bytes, d) => bytes.length + uptoBulk d + 1
  | (_, d) => uptoBulk d + 1
 end
def uptoSmall : (H : Type) → List (DataW H) → Bool := fun _ ds => decide (uptoBulkAll ds ≤ 1048576)
def OpenSpec.upto (s : _root_.Go.ChangeSpec) : _root_.Go.OpenSpec := { _root_.Go.OpenSpec.ofChange s with cond := some uptoSmall }

/-- 'rillmeterlaw07.IpsixTakes', WHERE WHAT IT READS IS OF BULK AT MOST 1048576: true; the input reads as it did. -/
def ipsixTakesUptoRow : OpenClaim := { program := "ytmjpemnlilcpkaa", sum := "d13919a93d922f2eb6bb397066a99984ab5b24bbeb360d41d9c434c28adb1b0d", func := "rillmeter/rillmeterlaw07.IpsixTakes", spec := "ipsixTakes", unfollowed := true, recurses := true, apart := false, narrowed := true }
def IpsixTakesUptoSaid : Prop := ipsixTakesUptoRow.holds Try.pinned (OpenSpec.upto ipsixTakesSpec)

/-- 'rillmeterlaw07.IpsixPuts', WHERE WHAT IT READS IS OF BULK AT MOST 1048576: true; the input reads as it did. -/
def ipsixPutsUptoRow : OpenClaim := { program := "ytmjpemnlilcpkaa", sum := "d13919a93d922f2eb6bb397066a99984ab5b24bbeb360d41d9c434c28adb1b0d", func := "rillmeter/rillmeterlaw07.IpsixPuts", spec := "ipsixPuts", unfollowed := true, recurses := true, apart := false, narrowed := true }
def IpsixPutsUptoSaid : Prop := ipsixPutsUptoRow.holds Try.pinned (OpenSpec.upto ipsixPutsSpec)

/-- 'rillmeterlaw07.IpsixLong', WHERE WHAT IT READS IS OF BULK AT MOST 1048576: true; the input reads as it did. -/
def ipsixLongUptoRow : OpenClaim := { program := "ytmjpemnlilcpkaa", sum := "d13919a93d922f2eb6bb397066a99984ab5b24bbeb360d41d9c434c28adb1b0d", func := "rillmeter/rillmeterlaw07.IpsixLong", spec := "ipsixLong", unfollowed := true, recurses := true, apart := false, narrowed := true }
def IpsixLongUptoSaid : Prop := ipsixLongUptoRow.holds Try.pinned (OpenSpec.upto ipsixLongSpec)

/-- 'rillmeterlaw07.IpsixBack', WHERE WHAT IT READS IS OF BULK AT MOST 1048576: true; the input reads as it did. -/
def ipsixBackUptoRow : OpenClaim := { program := "ytmjpemnlilcpkaa", sum := "d13919a93d922f2eb6bb397066a99984ab5b24bbeb360d41d9c434c28adb1b0d", func := "rillmeter/rillmeterlaw07.IpsixBack", spec := "ipsixBack", unfollowed := true, recurses := true, apart := false, narrowed := true }
def IpsixBackUptoSaid : Prop := ipsixBackUptoRow.holds Try.pinned (OpenSpec.upto ipsixBackSpec)

/-- 'rillmeterlaw07.IpsixTrail', WHERE WHAT IT READS IS OF BULK AT MOST 1048576: true; the input reads as it did. -/
def ipsixTrailUptoRow : OpenClaim := { program := "ytmjpemnlilcpkaa", sum := "d13919a93d922f2eb6bb397066a99984ab5b24bbeb360d41d9c434c28adb1b0d", func := "rillmeter/rillmeterlaw07.IpsixTrail", spec := "ipsixTrail", unfollowed := true, recurses := true, apart := false, narrowed := true }
def IpsixTrailUptoSaid : Prop := ipsixTrailUptoRow.holds Try.pinned (OpenSpec.upto ipsixTrailSpec)

end Rows
end Go.Proofs.Ytmjpemnlilcpkaa
