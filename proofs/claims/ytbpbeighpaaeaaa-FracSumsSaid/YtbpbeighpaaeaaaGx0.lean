-- Written by the kit's print.py for this seat over wip/F/doctor.py, then turned by wip/F/fix.py.
import Derived.Test.YtbpbeighpaaeaaaProg
import Derived.Below
import Derived.Deep.Draws
import Derived.Deep.AppendLies
import Derived.Maps.AppendAt
import Derived.OwnWalk
import Derived.Laws.BytesArg
import Derived.Laws.MakeOwn
import Derived.Laws.OwnMore
import Derived.Deep.OwnRows
import Derived.Tactics
import Derived.Lib.ConvBytes
import Derived.Laws.Slices
import Derived.WalkKit
import Derived.KernelRfl
import Derived.RowKit3
import Derived.Deep.LoopGhost
import Derived.Deep.QuietTactic
import Derived.BigQuiet
import Derived.WideLaws
import Derived.Deep.DeepCutAuto
import Derived.Deep.CutBlock
import Derived.Deep.RegionHeld3
import Derived.Laws.Rows
import Derived.Lib.AppendStr
import Derived.ArgAppend
import Derived.Laws.IdiomCopy
import Derived.OrdersHeld
import Derived.Laws.BitsLemmas
import Derived.RowKit
import Derived.Test.YtbpbeighpaaeaaaWWords
import Derived.Test.YtbpbeighpaaeaaaWLast
import Derived.Test.YtbpbeighpaaeaaaWTab
import Derived.Test.YtbpbeighpaaeaaaWFour
import Derived.Test.YtbpbeighpaaeaaaWQPut
import Derived.Test.YtbpbeighpaaeaaaWApart
import Derived.Test.YtbpbeighpaaeaaaWArr
import Derived.Test.YtbpbeighpaaeaaaWZeros
import Derived.Test.YtbpbeighpaaeaaaWFoot
import Derived.Test.YtbpbeighpaaeaaaWKept
import Derived.Test.YtbpbeighpaaeaaaWShare
import Derived.Test.YtbpbeighpaaeaaaWN
import Derived.Test.YtbpbeighpaaeaaaWFootNe
import Derived.Test.YtbpbeighpaaeaaaWAt
import Derived.Test.YtbpbeighpaaeaaaWEqStruct
import Derived.Test.YtbpbeighpaaeaaaWRepsOne
import Derived.Test.YtbpbeighpaaeaaaWInv
import Derived.Test.YtbpbeighpaaeaaaWInvWords
import Derived.Test.YtbpbeighpaaeaaaWGuard
import Derived.Test.YtbpbeighpaaeaaaWNEv
import Derived.Test.YtbpbeighpaaeaaaWMore
namespace Go.Proofs.Ytbpbeighpaaeaaa.G
open Go.RowKit Go.Proofs.YtbpbeighpaaeaaaW.PrintWords Go.Proofs.YtbpbeighpaaeaaaW.PrintLast Go.Proofs.YtbpbeighpaaeaaaW.PrintMore
attribute [local go_sem] max2_int min2_int max_two min_two max_three min_three max_four min_four   -- for this text's walks alone
set_option linter.unusedVariables false
set_option linter.unusedSimpArgs false



def errW : Option Int → Value
  | none => .nilIface
  | some c => .iface 0 (.int .i64 c)
theorem errW_none : errW none = .nilIface := rfl
theorem errW_some (c : Int) : errW (some c) = .iface 0 (.int .i64 c) := rfl

theorem info3 : (Try.prog.info? 3).map (fun i => (i.zero, i.size, i.bytes)) = some (some (.int .i64 0), 1, 8) := by kernel_rfl
-- the values' own types

end Go.Proofs.Ytbpbeighpaaeaaa.G
