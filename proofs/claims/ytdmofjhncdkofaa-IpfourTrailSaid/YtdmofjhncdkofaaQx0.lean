-- made by a program of this session (wip/print-patch.py, over the kit's print)
import Derived.Test.YtdmofjhncdkofaaProg
import Derived.Below
import Derived.Deep.Draws
import Derived.Deep.AppendLies
import Derived.Maps.AppendAt
import Derived.OwnWalk
import Derived.Laws.BytesArg
import Derived.Laws.MakeOwn
import Derived.Laws.OwnMore
import Derived.Deep.OwnRows
import Derived.Tactics
import Derived.Lib.ConvBytes
import Derived.Laws.Slices
import Derived.WalkKit
import Derived.KernelRfl
import Derived.RowKit3
import Derived.Deep.LoopGhost
import Derived.Deep.QuietTactic
import Derived.BigQuiet
import Derived.WideLaws
import Derived.Deep.DeepCutAuto
import Derived.Deep.CutBlock
import Derived.Deep.RegionHeld3
import Derived.Laws.Rows
import Derived.Lib.AppendStr
import Derived.ArgAppend
import Derived.Laws.IdiomCopy
import Derived.OrdersHeld
import Derived.Laws.BitsLemmas
import Derived.RowKit
import Derived.Test.YtdmofjhncdkofaaWWords
import Derived.Test.YtdmofjhncdkofaaWLast
import Derived.Test.YtdmofjhncdkofaaWTab
import Derived.Test.YtdmofjhncdkofaaWFour
import Derived.Test.YtdmofjhncdkofaaWQPut
import Derived.Test.YtdmofjhncdkofaaWApart
import Derived.Test.YtdmofjhncdkofaaWArr
import Derived.Test.YtdmofjhncdkofaaWZeros
import Derived.Test.YtdmofjhncdkofaaWFoot
import Derived.Test.YtdmofjhncdkofaaWKept
import Derived.Test.YtdmofjhncdkofaaWShare
import Derived.Test.YtdmofjhncdkofaaWN
import Derived.Test.YtdmofjhncdkofaaWFootNe
import Derived.Test.YtdmofjhncdkofaaWAt
import Derived.Test.YtdmofjhncdkofaaWEqStruct
import Derived.Test.YtdmofjhncdkofaaWRepsOne
import Derived.Test.YtdmofjhncdkofaaWInv
import Derived.Test.YtdmofjhncdkofaaWInvWords
import Derived.Test.YtdmofjhncdkofaaWGuard
import Derived.Test.YtdmofjhncdkofaaWNEv
import Derived.Test.YtdmofjhncdkofaaWMore
namespace Go.Proofs.Ytdmofjhncdkofaa.Q
open Go.RowKit Go.Proofs.YtdmofjhncdkofaaW.PrintWords Go.Proofs.YtdmofjhncdkofaaW.PrintLast Go.Proofs.YtdmofjhncdkofaaW.PrintMore
attribute [local go_sem] max2_int min2_int max_two min_two max_three min_three max_four min_four   -- for this text's walks alone
set_option linter.unusedVariables false
set_option linter.unusedSimpArgs false



def errW : Option Int → Value
  | none => .nilIface
  | some c => .iface 0 (.int .i64 c)
theorem errW_none : errW none = .nilIface := rfl
theorem errW_some (c : Int) : errW (some c) = .iface 0 (.int .i64 c) := rfl

theorem cell_twice_ (w : World) (a : Addr) (u v : Value) (h : (w.cell? a).isSome = true) : ((w.setCell a u).setCell a v).cell? a = some v :=
  World.cell?_setCell_same' _ _ _ (by rw [World.cell?_setCell_same' _ _ _ h]; rfl)
theorem cell_twiceN_ (w : World) (a : Addr) (u v : Value) (n : Nat) (h : (w.cell? a).isSome = true) : (((w.setCell a u).drewN n).setCell a v).cell? a = some v :=
  World.cell?_setCell_same' _ _ _ (by rw [World.cell?_drewN, World.cell?_setCell_same' _ _ _ h]; rfl)
theorem info3 : (Try.prog.info? 3).map (fun i => (i.zero, i.size, i.bytes)) = some (some (.int .i64 0), 1, 8) := by kernel_rfl
theorem info5 : (Try.prog.info? 5).map (fun i => (i.zero, i.size, i.bytes)) = some (some (.int .u8 0), 1, 1) := by kernel_rfl
-- the values' own types

end Go.Proofs.Ytdmofjhncdkofaa.Q
