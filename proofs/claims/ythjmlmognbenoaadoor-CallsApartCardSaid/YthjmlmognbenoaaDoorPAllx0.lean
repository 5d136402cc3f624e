-- Written by myprint.py: the kit's print.py over this seat's translation, with contracts of my own.
import Derived.Test.YthjmlmognbenoaaDoorProg
import Derived.Lib.BufferMore
import Derived.Deep.LoopGhost
import Derived.RangeFuncBox
import Derived.Deep.RegionHeld
import Derived.WalkMore
import Derived.Below
import Derived.Deep.Draws
import Derived.Deep.AppendLies
import Derived.Maps.AppendAt
import Derived.OwnWalk
import Derived.Laws.BytesArg
import Derived.Laws.MakeOwn
import Derived.Laws.OwnMore
import Derived.Deep.OwnRows
import Derived.Tactics
import Derived.Lib.ConvBytes
import Derived.Laws.Slices
import Derived.WalkKit
import Derived.KernelRfl
import Derived.RowKit3
import Derived.Deep.LoopGhost
import Derived.Deep.QuietTactic
import Derived.BigQuiet
import Derived.WideLaws
import Derived.Deep.DeepCutAuto
import Derived.Deep.CutBlock
import Derived.Deep.RegionHeld3
import Derived.Laws.Rows
import Derived.Lib.AppendStr
import Derived.ArgAppend
import Derived.Laws.IdiomCopy
import Derived.OrdersHeld
import Derived.Laws.BitsLemmas
import Derived.RowKit
import Derived.Test.YthjmlmognbenoaaDoorWWords
import Derived.Test.YthjmlmognbenoaaDoorWLast
import Derived.Test.YthjmlmognbenoaaDoorWTab
import Derived.Test.YthjmlmognbenoaaDoorWFour
import Derived.Test.YthjmlmognbenoaaDoorWQPut
import Derived.Test.YthjmlmognbenoaaDoorWApart
import Derived.Test.YthjmlmognbenoaaDoorWArr
import Derived.Test.YthjmlmognbenoaaDoorWZeros
import Derived.Test.YthjmlmognbenoaaDoorWFoot
import Derived.Test.YthjmlmognbenoaaDoorWKept
import Derived.Test.YthjmlmognbenoaaDoorWShare
import Derived.Test.YthjmlmognbenoaaDoorWN
import Derived.Test.YthjmlmognbenoaaDoorWFootNe
import Derived.Test.YthjmlmognbenoaaDoorWAt
import Derived.Test.YthjmlmognbenoaaDoorWEqStruct
import Derived.Test.YthjmlmognbenoaaDoorWRepsOne
import Derived.Test.YthjmlmognbenoaaDoorWInv
import Derived.Test.YthjmlmognbenoaaDoorWInvWords
import Derived.Test.YthjmlmognbenoaaDoorWGuard
import Derived.Test.YthjmlmognbenoaaDoorWNEv
import Derived.Test.YthjmlmognbenoaaDoorWMore
namespace Go.Proofs.YthjmlmognbenoaaDoor.PAll
open Go.RowKit Go.Proofs.YthjmlmognbenoaaDoorW.PrintWords Go.Proofs.YthjmlmognbenoaaDoorW.PrintLast Go.Proofs.YthjmlmognbenoaaDoorW.PrintMore
attribute [local go_sem] max2_int min2_int max_two min_two max_three min_three max_four min_four   -- for this text's walks alone
set_option linter.unusedVariables false
set_option linter.unusedSimpArgs false



def errW : Option Int → Value
  | none => .nilIface
  | some c => .iface 0 (.int .i64 c)
theorem errW_none : errW none = .nilIface := rfl
theorem errW_some (c : Int) : errW (some c) = .iface 0 (.int .i64 c) := rfl

theorem info23 : (Tryd.prog.info? 23).map (fun i => (i.zero, i.size, i.bytes)) = some (some (.int .u32 0), 1, 4) := by kernel_rfl
-- the values' own types

end Go.Proofs.YthjmlmognbenoaaDoor.PAll
