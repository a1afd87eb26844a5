-- Laid by wip/prt.py over the kit's print (Mny).
import Derived.Test.YtnpcodfeggcdbaaDoorProg
import Derived.Below
import Derived.Deep.Draws
import Derived.Deep.AppendLies
import Derived.Maps.AppendAt
import Derived.OwnWalk
import Derived.Laws.BytesArg
import Derived.Laws.MakeOwn
import Derived.Laws.OwnMore
import Derived.Deep.OwnRows
import Derived.Tactics
import Derived.Lib.ConvBytes
import Derived.Laws.Slices
import Derived.WalkKit
import Derived.KernelRfl
import Derived.RowKit3
import Derived.Deep.LoopGhost
import Derived.Deep.QuietTactic
import Derived.BigQuiet
import Derived.WideLaws
import Derived.Deep.DeepCutAuto
import Derived.Deep.CutBlock
import Derived.Deep.RegionHeld3
import Derived.Laws.Rows
import Derived.Lib.AppendStr
import Derived.ArgAppend
import Derived.Laws.IdiomCopy
import Derived.OrdersHeld
import Derived.Laws.BitsLemmas
import Derived.RowKit
import Derived.Lib.SliceRun
import Derived.Test.YtnpcodfeggcdbaaDoorWWords
import Derived.Test.YtnpcodfeggcdbaaDoorWLast
import Derived.Test.YtnpcodfeggcdbaaDoorWTab
import Derived.Test.YtnpcodfeggcdbaaDoorWFour
import Derived.Test.YtnpcodfeggcdbaaDoorWQPut
import Derived.Test.YtnpcodfeggcdbaaDoorWApart
import Derived.Test.YtnpcodfeggcdbaaDoorWArr
import Derived.Test.YtnpcodfeggcdbaaDoorWZeros
import Derived.Test.YtnpcodfeggcdbaaDoorWFoot
import Derived.Test.YtnpcodfeggcdbaaDoorWKept
import Derived.Test.YtnpcodfeggcdbaaDoorWShare
import Derived.Test.YtnpcodfeggcdbaaDoorWN
import Derived.Test.YtnpcodfeggcdbaaDoorWFootNe
import Derived.Test.YtnpcodfeggcdbaaDoorWAt
import Derived.Test.YtnpcodfeggcdbaaDoorWEqStruct
import Derived.Test.YtnpcodfeggcdbaaDoorWRepsOne
import Derived.Test.YtnpcodfeggcdbaaDoorWInv
import Derived.Test.YtnpcodfeggcdbaaDoorWInvWords
import Derived.Test.YtnpcodfeggcdbaaDoorWGuard
import Derived.Test.YtnpcodfeggcdbaaDoorWNEv
import Derived.Test.YtnpcodfeggcdbaaDoorWMore
namespace Go.Proofs.YtnpcodfeggcdbaaDoor.PMny
open Go.RowKit Go.Proofs.YtnpcodfeggcdbaaDoorW.PrintWords Go.Proofs.YtnpcodfeggcdbaaDoorW.PrintLast Go.Proofs.YtnpcodfeggcdbaaDoorW.PrintMore
attribute [local go_sem] max2_int min2_int max_two min_two max_three min_three max_four min_four   -- for this text's walks alone
set_option linter.unusedVariables false
set_option linter.unusedSimpArgs false



def errW : Option Int → Value
  | none => .nilIface
  | some c => .iface 0 (.int .i64 c)
theorem errW_none : errW none = .nilIface := rfl
theorem errW_some (c : Int) : errW (some c) = .iface 0 (.int .i64 c) := rfl

theorem info5 : (Tryd.prog.info? 5).map (fun i => (i.zero, i.size, i.bytes)) = some (some (.int .u8 0), 1, 1) := by kernel_rfl
-- the values' own types

end Go.Proofs.YtnpcodfeggcdbaaDoor.PMny
