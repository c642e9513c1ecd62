-- PRINTED BY print.sh 35421559b90ae4d0a3588c463048766b98c2df88dd9212a6774a882060cdf62d: not written by this session
import Derived.Test.YtoifedpioonnnaaProg
import Derived.Below
import Derived.Deep.Draws
import Derived.Deep.AppendLies
import Derived.Maps.AppendAt
import Derived.OwnWalk
import Derived.Laws.BytesArg
import Derived.Laws.MakeOwn
import Derived.Laws.OwnMore
import Derived.Deep.OwnRows
import Derived.Tactics
import Derived.Lib.ConvBytes
import Derived.Laws.Slices
import Derived.WalkKit
import Derived.KernelRfl
import Derived.RowKit3
import Derived.Deep.LoopGhost
import Derived.Deep.QuietTactic
import Derived.BigQuiet
import Derived.WideLaws
import Derived.Deep.DeepCutAuto
import Derived.Deep.CutBlock
import Derived.Deep.RegionHeld3
import Derived.Laws.Rows
import Derived.Lib.AppendStr
import Derived.ArgAppend
import Derived.Laws.IdiomCopy
import Derived.OrdersHeld
import Derived.Laws.BitsLemmas
import Derived.RowKit
import Derived.Test.YtoifedpioonnnaaWWords
import Derived.Test.YtoifedpioonnnaaWLast
import Derived.Test.YtoifedpioonnnaaWTab
import Derived.Test.YtoifedpioonnnaaWFour
import Derived.Test.YtoifedpioonnnaaWQPut
import Derived.Test.YtoifedpioonnnaaWApart
import Derived.Test.YtoifedpioonnnaaWArr
import Derived.Test.YtoifedpioonnnaaWZeros
import Derived.Test.YtoifedpioonnnaaWFoot
import Derived.Test.YtoifedpioonnnaaWKept
import Derived.Test.YtoifedpioonnnaaWShare
import Derived.Test.YtoifedpioonnnaaWN
import Derived.Test.YtoifedpioonnnaaWFootNe
import Derived.Test.YtoifedpioonnnaaWAt
import Derived.Test.YtoifedpioonnnaaWEqStruct
import Derived.Test.YtoifedpioonnnaaWRepsOne
import Derived.Test.YtoifedpioonnnaaWInv
import Derived.Test.YtoifedpioonnnaaWInvWords
import Derived.Test.YtoifedpioonnnaaWGuard
import Derived.Test.YtoifedpioonnnaaWNEv
import Derived.Test.YtoifedpioonnnaaWMore
namespace Go.Proofs.Ytoifedpioonnnaa.PFnExactSentBytes
open Go.RowKit Go.Proofs.YtoifedpioonnnaaW.PrintWords Go.Proofs.YtoifedpioonnnaaW.PrintLast Go.Proofs.YtoifedpioonnnaaW.PrintMore
attribute [local go_sem] max2_int min2_int max_two min_two max_three min_three max_four min_four   -- for this text's walks alone
set_option linter.unusedVariables false
set_option linter.unusedSimpArgs false



def errW : Option Int → Value
  | none => .nilIface
  | some c => .iface 0 (.int .i64 c)
theorem errW_none : errW none = .nilIface := rfl
theorem errW_some (c : Int) : errW (some c) = .iface 0 (.int .i64 c) := rfl

-- the values' own types

end Go.Proofs.Ytoifedpioonnnaa.PFnExactSentBytes
