/- Texts of mine, put together (no statement stands here). -/
import Derived.Test.YtbcijmpkmmcdeaaDoorCJTurns18
section
namespace Go.Proofs.YtbcijmpkmmcdeaaDoor.SF
open Go.RowKit Go.Sx Go.Proofs.YtbcijmpkmmcdeaaDoor.PAll Go.Proofs.YtbcijmpkmmcdeaaDoorW.PrintWords Go.Proofs.YtbcijmpkmmcdeaaDoorW.PrintLast Go.Proofs.YtbcijmpkmmcdeaaDoorW.PrintMore
set_option linter.unusedVariables false
set_option linter.unusedSimpArgs false
set_option maxRecDepth 100000
theorem WriteE (J : Jn) (p0 p1 p2 : Gh) (bu ma cr : Int) (q : Gh) (l : List S51) (w : World) (hJ : Jn.ok w J p0 p1 p2) (hB0 : Bytes J.s0) (hB1 : Bytes J.s1) (hr : RowP w q l) (hl : l.length ≤ 1000) (hh : Half w) {J2 : Jn} (hW : J.write bu ma l = J2) :
    Calls Tryd.prog 33 #[.agg (J.cells p0 p1 p2).toArray, .agg #[.int .i64 bu, .int .i64 ma, .int .i64 cr, .slice q.1 l.length q.2]] w fun e w' => ∃ i : Gh × Gh × Gh, Jn.ok w' J2 i.1 i.2.1 i.2.2 ∧ e = .returned (.agg (J2.cells i.1 i.2.1 i.2.2).toArray) ∧ Below w.heap.size w w' := by
  subst hW
  exact WriteK J p0 p1 p2 bu ma cr q l w hJ hB0 hB1 hr hl hh
end Go.Proofs.YtbcijmpkmmcdeaaDoor.SF
end
