-- PRINTED BY print.sh 35421559b90ae4d0a3588c463048766b98c2df88dd9212a6774a882060cdf62d: not written by this session
import Derived.Test.YtkpaibkkigfahaaProg
import Derived.Below
import Derived.Deep.Draws
import Derived.Deep.AppendLies
import Derived.Maps.AppendAt
import Derived.OwnWalk
import Derived.Laws.BytesArg
import Derived.Laws.MakeOwn
import Derived.Laws.OwnMore
import Derived.Deep.OwnRows
import Derived.Tactics
import Derived.Lib.ConvBytes
import Derived.Laws.Slices
import Derived.WalkKit
import Derived.KernelRfl
import Derived.RowKit3
import Derived.Deep.LoopGhost
import Derived.Deep.QuietTactic
import Derived.BigQuiet
import Derived.WideLaws
import Derived.Deep.DeepCutAuto
import Derived.Deep.CutBlock
import Derived.Deep.RegionHeld3
import Derived.Laws.Rows
import Derived.Lib.AppendStr
import Derived.ArgAppend
import Derived.Laws.IdiomCopy
import Derived.OrdersHeld
import Derived.Laws.BitsLemmas
import Derived.RowKit
import Derived.Test.YtkpaibkkigfahaaWWords
import Derived.Test.YtkpaibkkigfahaaWLast
import Derived.Test.YtkpaibkkigfahaaWTab
import Derived.Test.YtkpaibkkigfahaaWFour
import Derived.Test.YtkpaibkkigfahaaWQPut
import Derived.Test.YtkpaibkkigfahaaWApart
import Derived.Test.YtkpaibkkigfahaaWArr
import Derived.Test.YtkpaibkkigfahaaWZeros
import Derived.Test.YtkpaibkkigfahaaWFoot
import Derived.Test.YtkpaibkkigfahaaWKept
import Derived.Test.YtkpaibkkigfahaaWShare
import Derived.Test.YtkpaibkkigfahaaWN
import Derived.Test.YtkpaibkkigfahaaWFootNe
import Derived.Test.YtkpaibkkigfahaaWAt
import Derived.Test.YtkpaibkkigfahaaWEqStruct
import Derived.Test.YtkpaibkkigfahaaWRepsOne
import Derived.Test.YtkpaibkkigfahaaWInv
import Derived.Test.YtkpaibkkigfahaaWInvWords
import Derived.Test.YtkpaibkkigfahaaWGuard
import Derived.Test.YtkpaibkkigfahaaWNEv
import Derived.Test.YtkpaibkkigfahaaWMore
namespace Go.Proofs.Ytkpaibkkigfahaa.PBindLets
open Go.RowKit Go.Proofs.YtkpaibkkigfahaaW.PrintWords Go.Proofs.YtkpaibkkigfahaaW.PrintLast Go.Proofs.YtkpaibkkigfahaaW.PrintMore
attribute [local go_sem] max2_int min2_int max_two min_two max_three min_three max_four min_four   -- for this text's walks alone
set_option linter.unusedVariables false
set_option linter.unusedSimpArgs false



def errW : Option Int → Value
  | none => .nilIface
  | some c => .iface 0 (.int .i64 c)
theorem errW_none : errW none = .nilIface := rfl
theorem errW_some (c : Int) : errW (some c) = .iface 0 (.int .i64 c) := rfl

-- the values' own types

end Go.Proofs.Ytkpaibkkigfahaa.PBindLets
