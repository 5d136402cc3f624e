-- PRINTED BY print.sh 35421559b90ae4d0a3588c463048766b98c2df88dd9212a6774a882060cdf62d: not written by this session
import Derived.Test.YtjabjihbefikkaaProg
import Derived.Below
import Derived.Deep.Draws
import Derived.Deep.AppendLies
import Derived.Maps.AppendAt
import Derived.OwnWalk
import Derived.Laws.BytesArg
import Derived.Laws.MakeOwn
import Derived.Laws.OwnMore
import Derived.Deep.OwnRows
import Derived.Tactics
import Derived.Lib.ConvBytes
import Derived.Laws.Slices
import Derived.WalkKit
import Derived.KernelRfl
import Derived.RowKit3
import Derived.Deep.LoopGhost
import Derived.Deep.QuietTactic
import Derived.BigQuiet
import Derived.WideLaws
import Derived.Deep.DeepCutAuto
import Derived.Deep.CutBlock
import Derived.Deep.RegionHeld3
import Derived.Laws.Rows
import Derived.Lib.AppendStr
import Derived.ArgAppend
import Derived.Laws.IdiomCopy
import Derived.OrdersHeld
import Derived.Laws.BitsLemmas
import Derived.RowKit
import Derived.Test.YtjabjihbefikkaaWWords
import Derived.Test.YtjabjihbefikkaaWLast
import Derived.Test.YtjabjihbefikkaaWTab
import Derived.Test.YtjabjihbefikkaaWFour
import Derived.Test.YtjabjihbefikkaaWQPut
import Derived.Test.YtjabjihbefikkaaWApart
import Derived.Test.YtjabjihbefikkaaWArr
import Derived.Test.YtjabjihbefikkaaWZeros
import Derived.Test.YtjabjihbefikkaaWFoot
import Derived.Test.YtjabjihbefikkaaWKept
import Derived.Test.YtjabjihbefikkaaWShare
import Derived.Test.YtjabjihbefikkaaWN
import Derived.Test.YtjabjihbefikkaaWFootNe
import Derived.Test.YtjabjihbefikkaaWAt
import Derived.Test.YtjabjihbefikkaaWEqStruct
import Derived.Test.YtjabjihbefikkaaWRepsOne
import Derived.Test.YtjabjihbefikkaaWInv
import Derived.Test.YtjabjihbefikkaaWInvWords
import Derived.Test.YtjabjihbefikkaaWGuard
import Derived.Test.YtjabjihbefikkaaWNEv
import Derived.Test.YtjabjihbefikkaaWMore
namespace Go.Proofs.Ytjabjihbefikkaa.PSenseTells
open Go.RowKit Go.Proofs.YtjabjihbefikkaaW.PrintWords Go.Proofs.YtjabjihbefikkaaW.PrintLast Go.Proofs.YtjabjihbefikkaaW.PrintMore
attribute [local go_sem] max2_int min2_int max_two min_two max_three min_three max_four min_four   -- for this text's walks alone
set_option linter.unusedVariables false
set_option linter.unusedSimpArgs false



def errW : Option Int → Value
  | none => .nilIface
  | some c => .iface 0 (.int .i64 c)
theorem errW_none : errW none = .nilIface := rfl
theorem errW_some (c : Int) : errW (some c) = .iface 0 (.int .i64 c) := rfl

theorem info4 : (Try.prog.info? 4).map (fun i => (i.zero, i.size, i.bytes)) = some (some (.bool false), 1, 1) := by kernel_rfl
-- the values' own types

end Go.Proofs.Ytjabjihbefikkaa.PSenseTells
