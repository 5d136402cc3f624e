/- Texts of mine, put together (no statement stands here). -/
import Derived.Test.YtbcijmpkmmcdeaaDoorCJTurns18
section
namespace Go.Proofs.YtbcijmpkmmcdeaaDoor.SF
open Go.RowKit Go.Sx Go.Proofs.YtbcijmpkmmcdeaaDoor.PAll Go.Proofs.YtbcijmpkmmcdeaaDoorW.PrintWords Go.Proofs.YtbcijmpkmmcdeaaDoorW.PrintLast Go.Proofs.YtbcijmpkmmcdeaaDoorW.PrintMore
set_option linter.unusedVariables false
set_option linter.unusedSimpArgs false
set_option maxRecDepth 100000
theorem CheckL (a b c : Int) (q : Gh) (l : List S51) (w : World) (hr : RowP w q l) : Calls Tryd.prog 35 #[.agg #[.int .i64 a, .int .i64 b, .int .i64 c, .slice q.1 l.length q.2]] w fun e w' => e = .returned (.bool (PChk.chkB a b c l)) ∧ Below w.heap.size w w' := PChk.CheckL_calls a b c q.1 q.2 l w hr.2 hr.1
end Go.Proofs.YtbcijmpkmmcdeaaDoor.SF
end
