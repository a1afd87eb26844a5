-- PRINTED BY print.sh 35421559b90ae4d0a3588c463048766b98c2df88dd9212a6774a882060cdf62d: not written by this session
import Derived.Test.YthninollljphoaaProg
import Derived.Below
import Derived.Deep.Draws
import Derived.Deep.AppendLies
import Derived.Maps.AppendAt
import Derived.OwnWalk
import Derived.Laws.BytesArg
import Derived.Laws.MakeOwn
import Derived.Laws.OwnMore
import Derived.Deep.OwnRows
import Derived.Tactics
import Derived.Lib.ConvBytes
import Derived.Laws.Slices
import Derived.WalkKit
import Derived.KernelRfl
import Derived.RowKit3
import Derived.Deep.LoopGhost
import Derived.Deep.QuietTactic
import Derived.BigQuiet
import Derived.WideLaws
import Derived.Deep.DeepCutAuto
import Derived.Deep.CutBlock
import Derived.Deep.RegionHeld3
import Derived.Laws.Rows
import Derived.Lib.AppendStr
import Derived.ArgAppend
import Derived.Laws.IdiomCopy
import Derived.OrdersHeld
import Derived.Laws.BitsLemmas
import Derived.RowKit
import Derived.Test.YthninollljphoaaWWords
import Derived.Test.YthninollljphoaaWLast
import Derived.Test.YthninollljphoaaWTab
import Derived.Test.YthninollljphoaaWFour
import Derived.Test.YthninollljphoaaWQPut
import Derived.Test.YthninollljphoaaWApart
import Derived.Test.YthninollljphoaaWArr
import Derived.Test.YthninollljphoaaWZeros
import Derived.Test.YthninollljphoaaWFoot
import Derived.Test.YthninollljphoaaWKept
import Derived.Test.YthninollljphoaaWShare
import Derived.Test.YthninollljphoaaWN
import Derived.Test.YthninollljphoaaWFootNe
import Derived.Test.YthninollljphoaaWAt
import Derived.Test.YthninollljphoaaWEqStruct
import Derived.Test.YthninollljphoaaWRepsOne
import Derived.Test.YthninollljphoaaWInv
import Derived.Test.YthninollljphoaaWInvWords
import Derived.Test.YthninollljphoaaWGuard
import Derived.Test.YthninollljphoaaWNEv
import Derived.Test.YthninollljphoaaWMore
namespace Go.Proofs.Ythninollljphoaa.PSpan
open Go.RowKit Go.Proofs.YthninollljphoaaW.PrintWords Go.Proofs.YthninollljphoaaW.PrintLast Go.Proofs.YthninollljphoaaW.PrintMore
attribute [local go_sem] max2_int min2_int max_two min_two max_three min_three max_four min_four   -- for this text's walks alone
set_option linter.unusedVariables false
set_option linter.unusedSimpArgs false



def errW : Option Int → Value
  | none => .nilIface
  | some c => .iface 0 (.int .i64 c)
theorem errW_none : errW none = .nilIface := rfl
theorem errW_some (c : Int) : errW (some c) = .iface 0 (.int .i64 c) := rfl

-- the values' own types

end Go.Proofs.Ythninollljphoaa.PSpan
