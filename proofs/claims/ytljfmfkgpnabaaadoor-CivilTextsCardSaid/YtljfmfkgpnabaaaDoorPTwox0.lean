-- PRINTED BY print.sh 35421559b90ae4d0a3588c463048766b98c2df88dd9212a6774a882060cdf62d: not written by this session
import Derived.Test.YtljfmfkgpnabaaaDoorProg
import Derived.Below
import Derived.Deep.Draws
import Derived.Deep.AppendLies
import Derived.Maps.AppendAt
import Derived.OwnWalk
import Derived.Laws.BytesArg
import Derived.Laws.MakeOwn
import Derived.Laws.OwnMore
import Derived.Deep.OwnRows
import Derived.Tactics
import Derived.Lib.ConvBytes
import Derived.Laws.Slices
import Derived.WalkKit
import Derived.KernelRfl
import Derived.RowKit3
import Derived.Deep.LoopGhost
import Derived.Deep.QuietTactic
import Derived.BigQuiet
import Derived.WideLaws
import Derived.Deep.DeepCutAuto
import Derived.Deep.CutBlock
import Derived.Deep.RegionHeld3
import Derived.Laws.Rows
import Derived.Lib.AppendStr
import Derived.ArgAppend
import Derived.Laws.IdiomCopy
import Derived.OrdersHeld
import Derived.Laws.BitsLemmas
import Derived.RowKit
import Derived.Test.YtljfmfkgpnabaaaDoorWWords
import Derived.Test.YtljfmfkgpnabaaaDoorWLast
import Derived.Test.YtljfmfkgpnabaaaDoorWTab
import Derived.Test.YtljfmfkgpnabaaaDoorWFour
import Derived.Test.YtljfmfkgpnabaaaDoorWQPut
import Derived.Test.YtljfmfkgpnabaaaDoorWApart
import Derived.Test.YtljfmfkgpnabaaaDoorWArr
import Derived.Test.YtljfmfkgpnabaaaDoorWZeros
import Derived.Test.YtljfmfkgpnabaaaDoorWFoot
import Derived.Test.YtljfmfkgpnabaaaDoorWKept
import Derived.Test.YtljfmfkgpnabaaaDoorWShare
import Derived.Test.YtljfmfkgpnabaaaDoorWN
import Derived.Test.YtljfmfkgpnabaaaDoorWFootNe
import Derived.Test.YtljfmfkgpnabaaaDoorWAt
import Derived.Test.YtljfmfkgpnabaaaDoorWEqStruct
import Derived.Test.YtljfmfkgpnabaaaDoorWRepsOne
import Derived.Test.YtljfmfkgpnabaaaDoorWInv
import Derived.Test.YtljfmfkgpnabaaaDoorWInvWords
import Derived.Test.YtljfmfkgpnabaaaDoorWGuard
import Derived.Test.YtljfmfkgpnabaaaDoorWNEv
import Derived.Test.YtljfmfkgpnabaaaDoorWMore
namespace Go.Proofs.YtljfmfkgpnabaaaDoor.PTwo
open Go.RowKit Go.Proofs.YtljfmfkgpnabaaaDoorW.PrintWords Go.Proofs.YtljfmfkgpnabaaaDoorW.PrintLast Go.Proofs.YtljfmfkgpnabaaaDoorW.PrintMore
attribute [local go_sem] max2_int min2_int max_two min_two max_three min_three max_four min_four   -- for this text's walks alone
set_option linter.unusedVariables false
set_option linter.unusedSimpArgs false



def errW : Option Int → Value
  | none => .nilIface
  | some c => .iface 0 (.int .i64 c)
theorem errW_none : errW none = .nilIface := rfl
theorem errW_some (c : Int) : errW (some c) = .iface 0 (.int .i64 c) := rfl

theorem info5 : (Tryd.prog.info? 5).map (fun i => (i.zero, i.size, i.bytes)) = some (some (.int .u8 0), 1, 1) := by kernel_rfl
-- the values' own types

end Go.Proofs.YtljfmfkgpnabaaaDoor.PTwo
