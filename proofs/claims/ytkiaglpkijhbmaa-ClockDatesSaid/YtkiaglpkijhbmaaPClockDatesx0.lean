-- PRINTED BY print.sh 35421559b90ae4d0a3588c463048766b98c2df88dd9212a6774a882060cdf62d: not written by this session
import Derived.Test.YtkiaglpkijhbmaaProg
import Derived.Below
import Derived.Deep.Draws
import Derived.Deep.AppendLies
import Derived.Maps.AppendAt
import Derived.OwnWalk
import Derived.Laws.BytesArg
import Derived.Laws.MakeOwn
import Derived.Laws.OwnMore
import Derived.Deep.OwnRows
import Derived.Tactics
import Derived.Lib.ConvBytes
import Derived.Laws.Slices
import Derived.WalkKit
import Derived.KernelRfl
import Derived.RowKit3
import Derived.Deep.LoopGhost
import Derived.Deep.QuietTactic
import Derived.BigQuiet
import Derived.WideLaws
import Derived.Deep.DeepCutAuto
import Derived.Deep.CutBlock
import Derived.Deep.RegionHeld3
import Derived.Laws.Rows
import Derived.Lib.AppendStr
import Derived.ArgAppend
import Derived.Laws.IdiomCopy
import Derived.OrdersHeld
import Derived.Laws.BitsLemmas
import Derived.RowKit
import Derived.Test.YtkiaglpkijhbmaaWWords
import Derived.Test.YtkiaglpkijhbmaaWLast
import Derived.Test.YtkiaglpkijhbmaaWTab
import Derived.Test.YtkiaglpkijhbmaaWFour
import Derived.Test.YtkiaglpkijhbmaaWQPut
import Derived.Test.YtkiaglpkijhbmaaWApart
import Derived.Test.YtkiaglpkijhbmaaWArr
import Derived.Test.YtkiaglpkijhbmaaWZeros
import Derived.Test.YtkiaglpkijhbmaaWFoot
import Derived.Test.YtkiaglpkijhbmaaWKept
import Derived.Test.YtkiaglpkijhbmaaWShare
import Derived.Test.YtkiaglpkijhbmaaWN
import Derived.Test.YtkiaglpkijhbmaaWFootNe
import Derived.Test.YtkiaglpkijhbmaaWAt
import Derived.Test.YtkiaglpkijhbmaaWEqStruct
import Derived.Test.YtkiaglpkijhbmaaWRepsOne
import Derived.Test.YtkiaglpkijhbmaaWInv
import Derived.Test.YtkiaglpkijhbmaaWInvWords
import Derived.Test.YtkiaglpkijhbmaaWGuard
import Derived.Test.YtkiaglpkijhbmaaWNEv
import Derived.Test.YtkiaglpkijhbmaaWMore
namespace Go.Proofs.Ytkiaglpkijhbmaa.PClockDates
open Go.RowKit Go.Proofs.YtkiaglpkijhbmaaW.PrintWords Go.Proofs.YtkiaglpkijhbmaaW.PrintLast Go.Proofs.YtkiaglpkijhbmaaW.PrintMore
attribute [local go_sem] max2_int min2_int max_two min_two max_three min_three max_four min_four   -- for this text's walks alone
set_option linter.unusedVariables false
set_option linter.unusedSimpArgs false



def errW : Option Int → Value
  | none => .nilIface
  | some c => .iface 0 (.int .i64 c)
theorem errW_none : errW none = .nilIface := rfl
theorem errW_some (c : Int) : errW (some c) = .iface 0 (.int .i64 c) := rfl

-- the values' own types

end Go.Proofs.Ytkiaglpkijhbmaa.PClockDates
