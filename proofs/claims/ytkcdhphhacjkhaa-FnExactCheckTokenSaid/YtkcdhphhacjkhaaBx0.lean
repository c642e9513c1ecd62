-- Written by a program of this session (wip/xprint.py).
import Derived.Test.YtkcdhphhacjkhaaProg
import Derived.Below
import Derived.Deep.Draws
import Derived.Deep.AppendLies
import Derived.Maps.AppendAt
import Derived.OwnWalk
import Derived.Laws.BytesArg
import Derived.Laws.MakeOwn
import Derived.Laws.OwnMore
import Derived.Deep.OwnRows
import Derived.Tactics
import Derived.Lib.ConvBytes
import Derived.Laws.Slices
import Derived.WalkKit
import Derived.KernelRfl
import Derived.RowKit3
import Derived.Deep.LoopGhost
import Derived.Deep.QuietTactic
import Derived.BigQuiet
import Derived.WideLaws
import Derived.Deep.DeepCutAuto
import Derived.Deep.CutBlock
import Derived.Deep.RegionHeld3
import Derived.Laws.Rows
import Derived.Lib.AppendStr
import Derived.ArgAppend
import Derived.Laws.IdiomCopy
import Derived.OrdersHeld
import Derived.Laws.BitsLemmas
import Derived.RowKit
import Derived.Test.YtkcdhphhacjkhaaStoreK
import Derived.Test.YtkcdhphhacjkhaaShortK
import Derived.Laws.Cover1
import Derived.Test.YtkcdhphhacjkhaaWWords
import Derived.Test.YtkcdhphhacjkhaaWLast
import Derived.Test.YtkcdhphhacjkhaaWTab
import Derived.Test.YtkcdhphhacjkhaaWQPut
import Derived.Test.YtkcdhphhacjkhaaWApart
import Derived.Test.YtkcdhphhacjkhaaWArr
import Derived.Test.YtkcdhphhacjkhaaWZeros
import Derived.Test.YtkcdhphhacjkhaaWFoot
import Derived.Test.YtkcdhphhacjkhaaWKept
import Derived.Test.YtkcdhphhacjkhaaWShare
import Derived.Test.YtkcdhphhacjkhaaWN
import Derived.Test.YtkcdhphhacjkhaaWRepsOne
import Derived.Test.YtkcdhphhacjkhaaWNEv
import Derived.Test.YtkcdhphhacjkhaaWMore
namespace Go.Proofs.Ytkcdhphhacjkhaa.B
open Go.RowKit Go.Proofs.YtkcdhphhacjkhaaW.PrintWords Go.Proofs.YtkcdhphhacjkhaaW.PrintLast Go.Proofs.YtkcdhphhacjkhaaW.PrintMore
attribute [local go_sem] Go.Proofs.Ytkcdhphhacjkhaa.StoreK.isSome_setCell max2_int min2_int max_two min_two max_three min_three max_four min_four   -- for this text's walks alone
set_option linter.unusedVariables false
set_option linter.unusedSimpArgs false



def errW : Option Int → Value
  | none => .nilIface
  | some c => .iface 0 (.int .i64 c)
theorem errW_none : errW none = .nilIface := rfl
theorem errW_some (c : Int) : errW (some c) = .iface 0 (.int .i64 c) := rfl

theorem info5 : (Try.prog.info? 5).map (fun i => (i.zero, i.size, i.bytes)) = some (some (.int .u8 0), 1, 1) := by kernel_rfl
-- the values' own types

end Go.Proofs.Ytkcdhphhacjkhaa.B
