-- Laid by wip/prt.py over the kit's print (Day).
import Derived.Test.YtnpcodfeggcdbaaDoorProg
import Derived.Below
import Derived.Deep.Draws
import Derived.Deep.AppendLies
import Derived.Maps.AppendAt
import Derived.OwnWalk
import Derived.Laws.BytesArg
import Derived.Laws.MakeOwn
import Derived.Laws.OwnMore
import Derived.Deep.OwnRows
import Derived.Tactics
import Derived.Lib.ConvBytes
import Derived.Laws.Slices
import Derived.WalkKit
import Derived.KernelRfl
import Derived.RowKit3
import Derived.Deep.LoopGhost
import Derived.Deep.QuietTactic
import Derived.BigQuiet
import Derived.WideLaws
import Derived.Deep.DeepCutAuto
import Derived.Deep.CutBlock
import Derived.Deep.RegionHeld3
import Derived.Laws.Rows
import Derived.Lib.AppendStr
import Derived.ArgAppend
import Derived.Laws.IdiomCopy
import Derived.OrdersHeld
import Derived.Laws.BitsLemmas
import Derived.RowKit
import Derived.Lib.SliceRun
import Derived.Test.YtnpcodfeggcdbaaDoorWWords
import Derived.Test.YtnpcodfeggcdbaaDoorWLast
import Derived.Test.YtnpcodfeggcdbaaDoorWTab
import Derived.Test.YtnpcodfeggcdbaaDoorWFour
import Derived.Test.YtnpcodfeggcdbaaDoorWQPut
import Derived.Test.YtnpcodfeggcdbaaDoorWApart
import Derived.Test.YtnpcodfeggcdbaaDoorWArr
import Derived.Test.YtnpcodfeggcdbaaDoorWZeros
import Derived.Test.YtnpcodfeggcdbaaDoorWFoot
import Derived.Test.YtnpcodfeggcdbaaDoorWKept
import Derived.Test.YtnpcodfeggcdbaaDoorWShare
import Derived.Test.YtnpcodfeggcdbaaDoorWN
import Derived.Test.YtnpcodfeggcdbaaDoorWFootNe
import Derived.Test.YtnpcodfeggcdbaaDoorWAt
import Derived.Test.YtnpcodfeggcdbaaDoorWEqStruct
import Derived.Test.YtnpcodfeggcdbaaDoorWRepsOne
import Derived.Test.YtnpcodfeggcdbaaDoorWInv
import Derived.Test.YtnpcodfeggcdbaaDoorWInvWords
import Derived.Test.YtnpcodfeggcdbaaDoorWGuard
import Derived.Test.YtnpcodfeggcdbaaDoorWNEv
import Derived.Test.YtnpcodfeggcdbaaDoorWMore
namespace Go.Proofs.YtnpcodfeggcdbaaDoor.PDay
open Go.RowKit Go.Proofs.YtnpcodfeggcdbaaDoorW.PrintWords Go.Proofs.YtnpcodfeggcdbaaDoorW.PrintLast Go.Proofs.YtnpcodfeggcdbaaDoorW.PrintMore
attribute [local go_sem] max2_int min2_int max_two min_two max_three min_three max_four min_four   -- for this text's walks alone
set_option linter.unusedVariables false
set_option linter.unusedSimpArgs false



def errW : Option Int → Value
  | none => .nilIface
  | some c => .iface 0 (.int .i64 c)
theorem errW_none : errW none = .nilIface := rfl
theorem errW_some (c : Int) : errW (some c) = .iface 0 (.int .i64 c) := rfl

theorem info3 : (Tryd.prog.info? 3).map (fun i => (i.zero, i.size, i.bytes)) = some (some (.int .i64 0), 1, 8) := by kernel_rfl
-- the values' own types

theorem bc3 {w : World} {g : Nat} {t : TypeId} {c0 c1 c2 : Value} (h : w.heap[g]? = some (.cells #[c0, c1, c2] t (0, 0))) : w.cell? ⟨g, 0, none⟩ = some c0 ∧ w.cell? ⟨g, 1, none⟩ = some c1 ∧ w.cell? ⟨g, 2, none⟩ = some c2 := ⟨blk_cell h 0, blk_cell h 1, blk_cell h 2⟩
theorem bf3 {w : World} {g : Nat} {t : TypeId} {c : Array Value} (h : w.heap[g]? = some (.cells c t (0, 0))) : w.frozen? ⟨g, 0, none⟩ = false ∧ w.frozen? ⟨g, 1, none⟩ = false ∧ w.frozen? ⟨g, 2, none⟩ = false := ⟨blk_frozen h 0, blk_frozen h 1, blk_frozen h 2⟩
theorem bp3 {w : World} {g : Nat} {t : TypeId} (c0 c1 c2 : Value) {v0 v1 v2 : Value} (h : w.heap[g]? = some (.cells #[c0, c1, c2] t (0, 0))) : (((w.setCell ⟨g, 0, none⟩ v0).setCell ⟨g, 1, none⟩ v1).setCell ⟨g, 2, none⟩ v2).heap[g]? = some (.cells #[v0, v1, v2] t (0, 0)) := by 
  have h1 : (w.setCell ⟨g, 0, none⟩ v0).heap[g]? = some (.cells #[v0, c1, c2] t (0, 0)) := blk_put h 0 v0 rfl
  have h2 : ((w.setCell ⟨g, 0, none⟩ v0).setCell ⟨g, 1, none⟩ v1).heap[g]? = some (.cells #[v0, v1, c2] t (0, 0)) := blk_put h1 1 v1 rfl
  have h3 : (((w.setCell ⟨g, 0, none⟩ v0).setCell ⟨g, 1, none⟩ v1).setCell ⟨g, 2, none⟩ v2).heap[g]? = some (.cells #[v0, v1, v2] t (0, 0)) := blk_put h2 2 v2 rfl
  exact h3
theorem setCell_map (w : World) (a : Addr) (v : Value) : (w.setCell a v).cell? a = (w.cell? a).map fun _ => v := by
  simp only [World.setCell, World.cell?, Array.getElem?_modify, ↓reduceIte]
  cases hb : w.heap[a.block]? with
  | none => rfl
  | some o =>
    cases o with
    | cells c e f =>
      simp only [Option.map_some]
      cases hs : a.spot.isSome
      · simp only [Bool.false_eq_true, if_false, Array.getElem?_setIfInBounds_self]
        by_cases h : a.off < c.size
        · simp [h]
        · simp [h]
      · simp
    | _ => rfl

end Go.Proofs.YtnpcodfeggcdbaaDoor.PDay
