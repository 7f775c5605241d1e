/-
  NARROWER THAN 'FOR EVERY INPUT', by the rows' own cells (each row's printed sentence says how): MeterClock: laid · MeterPieces: laid · MeterFrames: laid · MeterPlays: laid · MeterNone: laid · MeterTells: laid.
  DERIVED. THE GIVEN ROWS OF THIS SEAT. 6 by the template 'for every input the law returns true; each argument reads behind the call as it read before'; 0 by the template 'total and deterministic' (their statements: YtkikpolmfaiabaaGreatDoorTotals.lean).
  GIVEN WITH THE SEED: the statements are not yours to turn. If you find one false, say at which input.
  Laid BY PROGRAM, IN A SANDBOX (cutbox-rows.mjs): the forced cells as the released guide's own fill.sh prints them over the translation fdf85f36499bc6ff… (all of the seat's roots in one cut). By AI agents, Wed Nov 11 2026. No macro, syntax, notation, axiom, sorry.
-/
import Derived.Test.YtkikpolmfaiabaaGreatDoorChecked
import GoSem.Claim
import GoSem.ClaimJoined
import GoSem.ClaimMapViews
import Derived.JoinedTies
import Derived.KernelRfl
namespace Go.Proofs.YtkikpolmfaiabaaGreatDoor
/- THE CELL 'sum', in the pinned program and in every row, IS THE sha256 OF THE DUMP (.gsa) THAT YtkikpolmfaiabaaGreatDoorProg.lean LOADS. Nothing in Lean hashes anything: it is a label: what it is worth is what the hold of that sum in a sandbox is worth. -/
noncomputable def Tryz.pinned : Pinned := { name := "ytkikpolmfaiabaagreatdoor", sum := "fdf85f36499bc6fff816a3a55a791ce655b28c25fb9421da050af264a36e1c10", checked := Tryz.checked }
namespace Rows
def none {H : Type} : Left H := { results := [], args := [] }

/- WHAT THE LISTED PACKAGE-LEVEL VARIABLES READ AS WHEN THE CALL BEGINS. Each datum BY PROGRAM (the guide's laid-datum.mjs) off the statement by which the dump's own 'gosem.cut.vars' lays the variable. In a bare row this is a premise. The card (YtkikpolmfaiabaaGreatDoorCards.lean) ties it to the program's text. -/
def laid_math_bits_deBruijn64tab {H : Type} : DataW H := .agg [.lit (.int .u8 0), .lit (.int .u8 1), .lit (.int .u8 56), .lit (.int .u8 2), .lit (.int .u8 57), .lit (.int .u8 49), .lit (.int .u8 28), .lit (.int .u8 3), .lit (.int .u8 61), .lit (.int .u8 58), .lit (.int .u8 42), .lit (.int .u8 50), .lit (.int .u8 38), .lit (.int .u8 29), .lit (.int .u8 17), .lit (.int .u8 4), .lit (.int .u8 62), .lit (.int .u8 47), .lit (.int .u8 59), .lit (.int .u8 36), .lit (.int .u8 45), .lit (.int .u8 43), .lit (.int .u8 51), .lit (.int .u8 22), .lit (.int .u8 53), .lit (.int .u8 39), .lit (.int .u8 33), .lit (.int .u8 30), .lit (.int .u8 24), .lit (.int .u8 18), .lit (.int .u8 12), .lit (.int .u8 5), .lit (.int .u8 63), .lit (.int .u8 55), .lit (.int .u8 48), .lit (.int .u8 27), .lit (.int .u8 60), .lit (.int .u8 41), .lit (.int .u8 37), .lit (.int .u8 16), .lit (.int .u8 46), .lit (.int .u8 35), .lit (.int .u8 44), .lit (.int .u8 21), .lit (.int .u8 52), .lit (.int .u8 32), .lit (.int .u8 23), .lit (.int .u8 11), .lit (.int .u8 54), .lit (.int .u8 26), .lit (.int .u8 40), .lit (.int .u8 15), .lit (.int .u8 34), .lit (.int .u8 20), .lit (.int .u8 31), .lit (.int .u8 10), .lit (.int .u8 25), .lit (.int .u8 14), .lit (.int .u8 19), .lit (.int .u8 9), .lit (.int .u8 13), .lit (.int .u8 8), .lit (.int .u8 7), .lit (.int .u8 6)]

/-- 'rillmeterlaw21.MeterClock': WHATEVER THE INPUT: true; the input reads as it did. -/
def meterClockSpec : ChangeSpec := { name := "meterClock", fn := fun _ => fun
  | [d1, d2] => { results := [.lit (.bool true)], args := [d1, d2] }
  | _ => none }
def meterClockRow : OpenClaim := { program := "ytkikpolmfaiabaagreatdoor", sum := "fdf85f36499bc6fff816a3a55a791ce655b28c25fb9421da050af264a36e1c10", func := "rillmeter/rillmeterlaw21.MeterClock", spec := "meterClock", inPlace := ["internal/bytealg.abigen_runtime_cmpstring", "internal/abi.NoEscape", "sync/atomic.AddInt64", "sync/atomic.LoadInt64"], unfollowed := true, recurses := true, named := ["math/bits.deBruijn64tab"], apart := false, laid := [("math/bits.deBruijn64tab", laid_math_bits_deBruijn64tab)] }
def MeterClockSaid : Prop := meterClockRow.holds Tryz.pinned (OpenSpec.ofChange meterClockSpec)

/-- ITS FALSE NEIGHBOUR: 'it returns false'. Refute it at one input. -/
def meterClockWrong : ChangeSpec := { name := "meterClock", fn := fun _ => fun
  | [d1, d2] => { results := [.lit (.bool false)], args := [d1, d2] }
  | _ => none }
def MeterClockWrongFalsely : Prop := meterClockRow.holds Tryz.pinned (OpenSpec.ofChange meterClockWrong)

/-- 'rillmeterlaw21.MeterPieces': WHATEVER THE INPUT: true; the input reads as it did. -/
def meterPiecesSpec : ChangeSpec := { name := "meterPieces", fn := fun _ => fun
  | [d1, d2, d3, d4] => { results := [.lit (.bool true)], args := [d1, d2, d3, d4] }
  | _ => none }
def meterPiecesRow : OpenClaim := { program := "ytkikpolmfaiabaagreatdoor", sum := "fdf85f36499bc6fff816a3a55a791ce655b28c25fb9421da050af264a36e1c10", func := "rillmeter/rillmeterlaw21.MeterPieces", spec := "meterPieces", inPlace := ["internal/bytealg.abigen_runtime_cmpstring", "internal/abi.NoEscape", "sync/atomic.AddInt64", "sync/atomic.LoadInt64"], unfollowed := true, recurses := true, named := ["math/bits.deBruijn64tab"], apart := false, laid := [("math/bits.deBruijn64tab", laid_math_bits_deBruijn64tab)] }
def MeterPiecesSaid : Prop := meterPiecesRow.holds Tryz.pinned (OpenSpec.ofChange meterPiecesSpec)

/-- ITS FALSE NEIGHBOUR: 'it returns false'. Refute it at one input. -/
def meterPiecesWrong : ChangeSpec := { name := "meterPieces", fn := fun _ => fun
  | [d1, d2, d3, d4] => { results := [.lit (.bool false)], args := [d1, d2, d3, d4] }
  | _ => none }
def MeterPiecesWrongFalsely : Prop := meterPiecesRow.holds Tryz.pinned (OpenSpec.ofChange meterPiecesWrong)

/-- 'rillmeterlaw21.MeterFrames': WHATEVER THE INPUT: true; the input reads as it did. -/
def meterFramesSpec : ChangeSpec := { name := "meterFrames", fn := fun _ => fun
  | [d1, d2, d3] => { results := [.lit (.bool true)], args := [d1, d2, d3] }
  | _ => none }
def meterFramesRow : OpenClaim := { program := "ytkikpolmfaiabaagreatdoor", sum := "fdf85f36499bc6fff816a3a55a791ce655b28c25fb9421da050af264a36e1c10", func := "rillmeter/rillmeterlaw21.MeterFrames", spec := "meterFrames", inPlace := ["internal/bytealg.abigen_runtime_cmpstring", "internal/abi.NoEscape", "sync/atomic.AddInt64", "sync/atomic.LoadInt64"], unfollowed := true, recurses := true, named := ["math/bits.deBruijn64tab"], apart := false, laid := [("math/bits.deBruijn64tab", laid_math_bits_deBruijn64tab)] }
def MeterFramesSaid : Prop := meterFramesRow.holds Tryz.pinned (OpenSpec.ofChange meterFramesSpec)

/-- ITS FALSE NEIGHBOUR: 'it returns false'. Refute it at one input. -/
def meterFramesWrong : ChangeSpec := { name := "meterFrames", fn := fun _ => fun
  | [d1, d2, d3] => { results := [.lit (.bool false)], args := [d1, d2, d3] }
  | _ => none }
def MeterFramesWrongFalsely : Prop := meterFramesRow.holds Tryz.pinned (OpenSpec.ofChange meterFramesWrong)

/-- 'rillmeterlaw21.MeterPlays': WHATEVER THE INPUT: true; the input reads as it did. -/
def meterPlaysSpec : ChangeSpec := { name := "meterPlays", fn := fun _ => fun
  | [d1, d2, d3, d4] => { results := [.lit (.bool true)], args := [d1, d2, d3, d4] }
  | _ => none }
def meterPlaysRow : OpenClaim := { program := "ytkikpolmfaiabaagreatdoor", sum := "fdf85f36499bc6fff816a3a55a791ce655b28c25fb9421da050af264a36e1c10", func := "rillmeter/rillmeterlaw21.MeterPlays", spec := "meterPlays", inPlace := ["internal/bytealg.abigen_runtime_cmpstring", "internal/abi.NoEscape", "sync/atomic.AddInt64", "sync/atomic.LoadInt64"], unfollowed := true, recurses := true, named := ["math/bits.deBruijn64tab"], apart := false, laid := [("math/bits.deBruijn64tab", laid_math_bits_deBruijn64tab)] }
def MeterPlaysSaid : Prop := meterPlaysRow.holds Tryz.pinned (OpenSpec.ofChange meterPlaysSpec)

/-- ITS FALSE NEIGHBOUR: 'it returns false'. Refute it at one input. -/
def meterPlaysWrong : ChangeSpec := { name := "meterPlays", fn := fun _ => fun
  | [d1, d2, d3, d4] => { results := [.lit (.bool false)], args := [d1, d2, d3, d4] }
  | _ => none }
def MeterPlaysWrongFalsely : Prop := meterPlaysRow.holds Tryz.pinned (OpenSpec.ofChange meterPlaysWrong)

/-- 'rillmeterlaw21.MeterNone': WHATEVER THE INPUT: true; the input reads as it did. -/
def meterNoneSpec : ChangeSpec := { name := "meterNone", fn := fun _ => fun
  | [d1, d2] => { results := [.lit (.bool true)], args := [d1, d2] }
  | _ => none }
def meterNoneRow : OpenClaim := { program := "ytkikpolmfaiabaagreatdoor", sum := "fdf85f36499bc6fff816a3a55a791ce655b28c25fb9421da050af264a36e1c10", func := "rillmeter/rillmeterlaw21.MeterNone", spec := "meterNone", inPlace := ["internal/bytealg.abigen_runtime_cmpstring", "internal/abi.NoEscape", "sync/atomic.AddInt64", "sync/atomic.LoadInt64"], unfollowed := true, recurses := true, named := ["math/bits.deBruijn64tab"], apart := false, laid := [("math/bits.deBruijn64tab", laid_math_bits_deBruijn64tab)] }
def MeterNoneSaid : Prop := meterNoneRow.holds Tryz.pinned (OpenSpec.ofChange meterNoneSpec)

/-- ITS FALSE NEIGHBOUR: 'it returns false'. Refute it at one input. -/
def meterNoneWrong : ChangeSpec := { name := "meterNone", fn := fun _ => fun
  | [d1, d2] => { results := [.lit (.bool false)], args := [d1, d2] }
  | _ => none }
def MeterNoneWrongFalsely : Prop := meterNoneRow.holds Tryz.pinned (OpenSpec.ofChange meterNoneWrong)

/-- 'rillmeterlaw21.MeterTells': WHATEVER THE INPUT: true; the input reads as it did. -/
def meterTellsSpec : ChangeSpec := { name := "meterTells", fn := fun _ => fun
  | [d1, d2, d3, d4] => { results := [.lit (.bool true)], args := [d1, d2, d3, d4] }
  | _ => none }
def meterTellsRow : OpenClaim := { program := "ytkikpolmfaiabaagreatdoor", sum := "fdf85f36499bc6fff816a3a55a791ce655b28c25fb9421da050af264a36e1c10", func := "rillmeter/rillmeterlaw21.MeterTells", spec := "meterTells", inPlace := ["internal/bytealg.abigen_runtime_cmpstring", "internal/abi.NoEscape", "sync/atomic.AddInt64", "sync/atomic.LoadInt64"], unfollowed := true, recurses := true, named := ["math/bits.deBruijn64tab"], apart := false, laid := [("math/bits.deBruijn64tab", laid_math_bits_deBruijn64tab)] }
def MeterTellsSaid : Prop := meterTellsRow.holds Tryz.pinned (OpenSpec.ofChange meterTellsSpec)

/-- ITS FALSE NEIGHBOUR: 'it returns false'. Refute it at one input. -/
def meterTellsWrong : ChangeSpec := { name := "meterTells", fn := fun _ => fun
  | [d1, d2, d3, d4] => { results := [.lit (.bool false)], args := [d1, d2, d3, d4] }
  | _ => none }
def MeterTellsWrongFalsely : Prop := meterTellsRow.holds Tryz.pinned (OpenSpec.ofChange meterTellsWrong)

/- THE SECOND FORM. 'bulk': how many values and letters a reading holds, each counted each time it is reached (what is shared counts as often as it is met; a slice's spare places count too). A statement '..UptoSaid' is the law's where the arguments, and the package variables that the reading takes, are together of bulk at most 1048576: NARROWER than '..Said'. Prove '..Said' where nothing that the law and all that it calls make is longer than what came in: it says more and counts as full. Else prove '..UptoSaid'. A law counts once. -/
mutual
def uptoBulk {H : Type} : DataW H → Nat
  | .lit (.string bytes) => bytes.length + 1
  | .lit _ => 1
  | .nil => 1
  | .ptr d => uptoBulk d + 1
  | .slice elems spare => uptoBulkAll elems + uptoBulkAll spare + 1
  | .agg parts => uptoBulkAll parts + 1
  | .iface _ d => uptoBulk d + 1
  | .map entries => uptoBulkEntries entries + 1
  | .held _ => 1
def uptoBulkAll {H : Type} : List (DataW H) → Nat
  | [] => 0
  | d :: r => uptoBulk d + uptoBulkAll r
def uptoBulkEntries {H : Type} : List (Lit × DataW H) → Nat
  | [] => 0
  | x :: r => uptoBulkEntry x + uptoBulkEntries r
def uptoBulkEntry {H : Type} : Lit × DataW H → Nat
  | (.string bytes, d) => bytes.length + uptoBulk d + 1
  | (_, d) => uptoBulk d + 1
 end
def uptoSmall : (H : Type) → List (DataW H) → Bool := fun _ ds => decide (uptoBulkAll ds ≤ 1048576)
def OpenSpec.upto (s : _root_.Go.ChangeSpec) : _root_.Go.OpenSpec := { _root_.Go.OpenSpec.ofChange s with cond := some uptoSmall }

/-- 'rillmeterlaw21.MeterClock', WHERE WHAT IT READS IS OF BULK AT MOST 1048576: true; the input reads as it did. -/
def meterClockUptoRow : OpenClaim := { program := "ytkikpolmfaiabaagreatdoor", sum := "fdf85f36499bc6fff816a3a55a791ce655b28c25fb9421da050af264a36e1c10", func := "rillmeter/rillmeterlaw21.MeterClock", spec := "meterClock", inPlace := ["internal/bytealg.abigen_runtime_cmpstring", "internal/abi.NoEscape", "sync/atomic.AddInt64", "sync/atomic.LoadInt64"], unfollowed := true, recurses := true, named := ["math/bits.deBruijn64tab"], apart := false, laid := [("math/bits.deBruijn64tab", laid_math_bits_deBruijn64tab)], narrowed := true }
def MeterClockUptoSaid : Prop := meterClockUptoRow.holds Tryz.pinned (OpenSpec.upto meterClockSpec)

/-- 'rillmeterlaw21.MeterPieces', WHERE WHAT IT READS IS OF BULK AT MOST 1048576: true; the input reads as it did. -/
def meterPiecesUptoRow : OpenClaim := { program := "ytkikpolmfaiabaagreatdoor", sum := "fdf85f36499bc6fff816a3a55a791ce655b28c25fb9421da050af264a36e1c10", func := "rillmeter/rillmeterlaw21.MeterPieces", spec := "meterPieces", inPlace := ["internal/bytealg.abigen_runtime_cmpstring", "internal/abi.NoEscape", "sync/atomic.AddInt64", "sync/atomic.LoadInt64"], unfollowed := true, recurses := true, named := ["math/bits.deBruijn64tab"], apart := false, laid := [("math/bits.deBruijn64tab", laid_math_bits_deBruijn64tab)], narrowed := true }
def MeterPiecesUptoSaid : Prop := meterPiecesUptoRow.holds Tryz.pinned (OpenSpec.upto meterPiecesSpec)

/-- 'rillmeterlaw21.MeterFrames', WHERE WHAT IT READS IS OF BULK AT MOST 1048576: true; the input reads as it did. -/
def meterFramesUptoRow : OpenClaim := { program := "ytkikpolmfaiabaagreatdoor", sum := "fdf85f36499bc6fff816a3a55a791ce655b28c25fb9421da050af264a36e1c10", func := "rillmeter/rillmeterlaw21.MeterFrames", spec := "meterFrames", inPlace := ["internal/bytealg.abigen_runtime_cmpstring", "internal/abi.NoEscape", "sync/atomic.AddInt64", "sync/atomic.LoadInt64"], unfollowed := true, recurses := true, named := ["math/bits.deBruijn64tab"], apart := false, laid := [("math/bits.deBruijn64tab", laid_math_bits_deBruijn64tab)], narrowed := true }
def MeterFramesUptoSaid : Prop := meterFramesUptoRow.holds Tryz.pinned (OpenSpec.upto meterFramesSpec)

/-- 'rillmeterlaw21.MeterPlays', WHERE WHAT IT READS IS OF BULK AT MOST 1048576: true; the input reads as it did. -/
def meterPlaysUptoRow : OpenClaim := { program := "ytkikpolmfaiabaagreatdoor", sum := "fdf85f36499bc6fff816a3a55a791ce655b28c25fb9421da050af264a36e1c10", func := "rillmeter/rillmeterlaw21.MeterPlays", spec := "meterPlays", inPlace := ["internal/bytealg.abigen_runtime_cmpstring", "internal/abi.NoEscape", "sync/atomic.AddInt64", "sync/atomic.LoadInt64"], unfollowed := true, recurses := true, named := ["math/bits.deBruijn64tab"], apart := false, laid := [("math/bits.deBruijn64tab", laid_math_bits_deBruijn64tab)], narrowed := true }
def MeterPlaysUptoSaid : Prop := meterPlaysUptoRow.holds Tryz.pinned (OpenSpec.upto meterPlaysSpec)

/-- 'rillmeterlaw21.MeterNone', WHERE WHAT IT READS IS OF BULK AT MOST 1048576: true; the input reads as it did. -/
def meterNoneUptoRow : OpenClaim := { program := "ytkikpolmfaiabaagreatdoor", sum := "fdf85f36499bc6fff816a3a55a791ce655b28c25fb9421da050af264a36e1c10", func := "rillmeter/rillmeterlaw21.MeterNone", spec := "meterNone", inPlace := ["internal/bytealg.abigen_runtime_cmpstring", "internal/abi.NoEscape", "sync/atomic.AddInt64", "sync/atomic.LoadInt64"], unfollowed := true, recurses := true, named := ["math/bits.deBruijn64tab"], apart := false, laid := [("math/bits.deBruijn64tab", laid_math_bits_deBruijn64tab)], narrowed := true }
def MeterNoneUptoSaid : Prop := meterNoneUptoRow.holds Tryz.pinned (OpenSpec.upto meterNoneSpec)

/-- 'rillmeterlaw21.MeterTells', WHERE WHAT IT READS IS OF BULK AT MOST 1048576: true; the input reads as it did. -/
def meterTellsUptoRow : OpenClaim := { program := "ytkikpolmfaiabaagreatdoor", sum := "fdf85f36499bc6fff816a3a55a791ce655b28c25fb9421da050af264a36e1c10", func := "rillmeter/rillmeterlaw21.MeterTells", spec := "meterTells", inPlace := ["internal/bytealg.abigen_runtime_cmpstring", "internal/abi.NoEscape", "sync/atomic.AddInt64", "sync/atomic.LoadInt64"], unfollowed := true, recurses := true, named := ["math/bits.deBruijn64tab"], apart := false, laid := [("math/bits.deBruijn64tab", laid_math_bits_deBruijn64tab)], narrowed := true }
def MeterTellsUptoSaid : Prop := meterTellsUptoRow.holds Tryz.pinned (OpenSpec.upto meterTellsSpec)

end Rows
end Go.Proofs.YtkikpolmfaiabaaGreatDoor
