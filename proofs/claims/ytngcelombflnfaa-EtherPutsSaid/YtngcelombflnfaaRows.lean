/-
  No cell of these rows narrows 'for every input' (looked for: loops, veiled, ifaces, maps, wideKeys, modest, calm, conditions, laid).
  DERIVED. THE GIVEN ROWS OF THIS SEAT. 5 by the template 'for every input the law returns true; each argument reads behind the call as it read before'; 0 by the template 'total and deterministic' (their statements: YtngcelombflnfaaTotals.lean).
  GIVEN WITH THE SEED: the statements are not yours to turn. If you find one false, say at which input.
  Laid BY PROGRAM, IN A SANDBOX (cutbox-rows.mjs): the forced cells as the released guide's own fill.sh prints them over the translation f9a125b63c605ba9… (all of the seat's roots in one cut). By AI agents, Wed Nov 11 2026. No macro, syntax, notation, axiom, sorry.
-/
import Derived.Test.YtngcelombflnfaaChecked
import GoSem.Claim
import GoSem.ClaimJoined
import GoSem.ClaimMapViews
import Derived.JoinedTies
import Derived.KernelRfl
namespace Go.Proofs.Ytngcelombflnfaa
/- THE CELL 'sum', in the pinned program and in every row, IS THE sha256 OF THE DUMP (.gsa) THAT YtngcelombflnfaaProg.lean LOADS. Nothing in Lean hashes anything: it is a label: what it is worth is what the hold of that sum in a sandbox is worth. -/
noncomputable def Try.pinned : Pinned := { name := "ytngcelombflnfaa", sum := "f9a125b63c605ba92712d5332ed5489198645739bfc803514557846e64cb9a7f", checked := Try.checked }
namespace Rows
def none {H : Type} : Left H := { results := [], args := [] }

/-- 'rillmeterlaw05.EtherTakes': WHATEVER THE INPUT: true; the input reads as it did. -/
def etherTakesSpec : ChangeSpec := { name := "etherTakes", fn := fun _ => fun
  | [d] => { results := [.lit (.bool true)], args := [d] }
  | _ => none }
def etherTakesRow : OpenClaim := { program := "ytngcelombflnfaa", sum := "f9a125b63c605ba92712d5332ed5489198645739bfc803514557846e64cb9a7f", func := "rillmeter/rillmeterlaw05.EtherTakes", spec := "etherTakes", unfollowed := true, recurses := true, apart := false }
def EtherTakesSaid : Prop := etherTakesRow.holds Try.pinned (OpenSpec.ofChange etherTakesSpec)

/-- ITS FALSE NEIGHBOUR: 'it returns false'. Refute it at one input. -/
def etherTakesWrong : ChangeSpec := { name := "etherTakes", fn := fun _ => fun
  | [d] => { results := [.lit (.bool false)], args := [d] }
  | _ => none }
def EtherTakesWrongFalsely : Prop := etherTakesRow.holds Try.pinned (OpenSpec.ofChange etherTakesWrong)

/-- 'rillmeterlaw05.EtherIDs': WHATEVER THE INPUT: true; the input reads as it did. -/
def etherIDsSpec : ChangeSpec := { name := "etherIDs", fn := fun _ => fun
  | [d1, d2] => { results := [.lit (.bool true)], args := [d1, d2] }
  | _ => none }
def etherIDsRow : OpenClaim := { program := "ytngcelombflnfaa", sum := "f9a125b63c605ba92712d5332ed5489198645739bfc803514557846e64cb9a7f", func := "rillmeter/rillmeterlaw05.EtherIDs", spec := "etherIDs", unfollowed := true, recurses := true, apart := false }
def EtherIDsSaid : Prop := etherIDsRow.holds Try.pinned (OpenSpec.ofChange etherIDsSpec)

/-- ITS FALSE NEIGHBOUR: 'it returns false'. Refute it at one input. -/
def etherIDsWrong : ChangeSpec := { name := "etherIDs", fn := fun _ => fun
  | [d1, d2] => { results := [.lit (.bool false)], args := [d1, d2] }
  | _ => none }
def EtherIDsWrongFalsely : Prop := etherIDsRow.holds Try.pinned (OpenSpec.ofChange etherIDsWrong)

/-- 'rillmeterlaw05.EtherShort': WHATEVER THE INPUT: true; the input reads as it did. -/
def etherShortSpec : ChangeSpec := { name := "etherShort", fn := fun _ => fun
  | [d1, d2] => { results := [.lit (.bool true)], args := [d1, d2] }
  | _ => none }
def etherShortRow : OpenClaim := { program := "ytngcelombflnfaa", sum := "f9a125b63c605ba92712d5332ed5489198645739bfc803514557846e64cb9a7f", func := "rillmeter/rillmeterlaw05.EtherShort", spec := "etherShort", unfollowed := true, recurses := true, apart := false }
def EtherShortSaid : Prop := etherShortRow.holds Try.pinned (OpenSpec.ofChange etherShortSpec)

/-- ITS FALSE NEIGHBOUR: 'it returns false'. Refute it at one input. -/
def etherShortWrong : ChangeSpec := { name := "etherShort", fn := fun _ => fun
  | [d1, d2] => { results := [.lit (.bool false)], args := [d1, d2] }
  | _ => none }
def EtherShortWrongFalsely : Prop := etherShortRow.holds Try.pinned (OpenSpec.ofChange etherShortWrong)

/-- 'rillmeterlaw05.EtherPuts': WHATEVER THE INPUT: true; the input reads as it did. -/
def etherPutsSpec : ChangeSpec := { name := "etherPuts", fn := fun _ => fun
  | [d1, d2] => { results := [.lit (.bool true)], args := [d1, d2] }
  | _ => none }
def etherPutsRow : OpenClaim := { program := "ytngcelombflnfaa", sum := "f9a125b63c605ba92712d5332ed5489198645739bfc803514557846e64cb9a7f", func := "rillmeter/rillmeterlaw05.EtherPuts", spec := "etherPuts", unfollowed := true, recurses := true, apart := false }
def EtherPutsSaid : Prop := etherPutsRow.holds Try.pinned (OpenSpec.ofChange etherPutsSpec)

/-- ITS FALSE NEIGHBOUR: 'it returns false'. Refute it at one input. -/
def etherPutsWrong : ChangeSpec := { name := "etherPuts", fn := fun _ => fun
  | [d1, d2] => { results := [.lit (.bool false)], args := [d1, d2] }
  | _ => none }
def EtherPutsWrongFalsely : Prop := etherPutsRow.holds Try.pinned (OpenSpec.ofChange etherPutsWrong)

/-- 'rillmeterlaw05.EtherBack': WHATEVER THE INPUT: true; the input reads as it did. -/
def etherBackSpec : ChangeSpec := { name := "etherBack", fn := fun _ => fun
  | [d] => { results := [.lit (.bool true)], args := [d] }
  | _ => none }
def etherBackRow : OpenClaim := { program := "ytngcelombflnfaa", sum := "f9a125b63c605ba92712d5332ed5489198645739bfc803514557846e64cb9a7f", func := "rillmeter/rillmeterlaw05.EtherBack", spec := "etherBack", unfollowed := true, recurses := true, apart := false }
def EtherBackSaid : Prop := etherBackRow.holds Try.pinned (OpenSpec.ofChange etherBackSpec)

/-- ITS FALSE NEIGHBOUR: 'it returns false'. Refute it at one input. -/
def etherBackWrong : ChangeSpec := { name := "etherBack", fn := fun _ => fun
  | [d] => { results := [.lit (.bool false)], args := [d] }
  | _ => none }
def EtherBackWrongFalsely : Prop := etherBackRow.holds Try.pinned (OpenSpec.ofChange etherBackWrong)

/- THE SECOND FORM. 'bulk': how many values and letters a reading holds, each counted each time it is reached (what is shared counts as often as it is met; a slice's spare places count too). A statement '..UptoSaid' is the law's where the arguments, and the package variables that the reading takes, are together of bulk at most 1048576: NARROWER than '..Said'. Prove '..Said' where nothing that the law and all that it calls make is longer than what came in: it says more and counts as full. Else prove '..UptoSaid'. A law counts once. -/
mutual
def uptoBulk {H : Type} : DataW H → Nat
  | .lit (.string bytes) => bytes.length + 1
  | .lit _ => 1
  | .nil => 1
  | .ptr d => uptoBulk d + 1
  | .slice elems spare => uptoBulkAll elems + uptoBulkAll spare + 1
  | .agg parts => uptoBulkAll parts + 1
  | .iface _ d => uptoBulk d + 1
  | .map entries => uptoBulkEntries entries + 1
  | .held _ => 1
def uptoBulkAll {H : Type} : List (DataW H) → Nat
  | [] => 0
  | d :: r => uptoBulk d + uptoBulkAll r
def uptoBulkEntries {H : Type} : List (Lit × DataW H) → Nat
  | [] => 0
  | x :: r => uptoBulkEntry x + uptoBulkEntries r
def uptoBulkEntry {H : Type} : Lit × DataW H → Nat
  | (.string bytes, d) => bytes.length + uptoBulk d + 1
  | (_, d) => uptoBulk d + 1
 end
def uptoSmall : (H : Type) → List (DataW H) → Bool := fun _ ds => decide (uptoBulkAll ds ≤ 1048576)
def OpenSpec.upto (s : _root_.Go.ChangeSpec) : _root_.Go.OpenSpec := { _root_.Go.OpenSpec.ofChange s with cond := some uptoSmall }

/-- 'rillmeterlaw05.EtherTakes', WHERE WHAT IT READS IS OF BULK AT MOST 1048576: true; the input reads as it did. -/
def etherTakesUptoRow : OpenClaim := { program := "ytngcelombflnfaa", sum := "f9a125b63c605ba92712d5332ed5489198645739bfc803514557846e64cb9a7f", func := "rillmeter/rillmeterlaw05.EtherTakes", spec := "etherTakes", unfollowed := true, recurses := true, apart := false, narrowed := true }
def EtherTakesUptoSaid : Prop := etherTakesUptoRow.holds Try.pinned (OpenSpec.upto etherTakesSpec)

/-- 'rillmeterlaw05.EtherIDs', WHERE WHAT IT READS IS OF BULK AT MOST 1048576: true; the input reads as it did. -/
def etherIDsUptoRow : OpenClaim := { program := "ytngcelombflnfaa", sum := "f9a125b63c605ba92712d5332ed5489198645739bfc803514557846e64cb9a7f", func := "rillmeter/rillmeterlaw05.EtherIDs", spec := "etherIDs", unfollowed := true, recurses := true, apart := false, narrowed := true }
def EtherIDsUptoSaid : Prop := etherIDsUptoRow.holds Try.pinned (OpenSpec.upto etherIDsSpec)

/-- 'rillmeterlaw05.EtherShort', WHERE WHAT IT READS IS OF BULK AT MOST 1048576: true; the input reads as it did. -/
def etherShortUptoRow : OpenClaim := { program := "ytngcelombflnfaa", sum := "f9a125b63c605ba92712d5332ed5489198645739bfc803514557846e64cb9a7f", func := "rillmeter/rillmeterlaw05.EtherShort", spec := "etherShort", unfollowed := true, recurses := true, apart := false, narrowed := true }
def EtherShortUptoSaid : Prop := etherShortUptoRow.holds Try.pinned (OpenSpec.upto etherShortSpec)

/-- 'rillmeterlaw05.EtherPuts', WHERE WHAT IT READS IS OF BULK AT MOST 1048576: true; the input reads as it did. -/
def etherPutsUptoRow : OpenClaim := { program := "ytngcelombflnfaa", sum := "f9a125b63c605ba92712d5332ed5489198645739bfc803514557846e64cb9a7f", func := "rillmeter/rillmeterlaw05.EtherPuts", spec := "etherPuts", unfollowed := true, recurses := true, apart := false, narrowed := true }
def EtherPutsUptoSaid : Prop := etherPutsUptoRow.holds Try.pinned (OpenSpec.upto etherPutsSpec)

/-- 'rillmeterlaw05.EtherBack', WHERE WHAT IT READS IS OF BULK AT MOST 1048576: true; the input reads as it did. -/
def etherBackUptoRow : OpenClaim := { program := "ytngcelombflnfaa", sum := "f9a125b63c605ba92712d5332ed5489198645739bfc803514557846e64cb9a7f", func := "rillmeter/rillmeterlaw05.EtherBack", spec := "etherBack", unfollowed := true, recurses := true, apart := false, narrowed := true }
def EtherBackUptoSaid : Prop := etherBackUptoRow.holds Try.pinned (OpenSpec.upto etherBackSpec)

end Rows
end Go.Proofs.Ytngcelombflnfaa
