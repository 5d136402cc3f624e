/- Texts of mine, put together (no statement stands here). -/
import Derived.Test.YtbcijmpkmmcdeaaDoorCJPlays15
section
namespace Go.Proofs.YtbcijmpkmmcdeaaDoor.SF
open Go.RowKit Go.Sx Go.Proofs.YtbcijmpkmmcdeaaDoor.PAll Go.Proofs.YtbcijmpkmmcdeaaDoorW.PrintWords Go.Proofs.YtbcijmpkmmcdeaaDoorW.PrintLast Go.Proofs.YtbcijmpkmmcdeaaDoorW.PrintMore
set_option linter.unusedVariables false
set_option linter.unusedSimpArgs false
set_option maxRecDepth 100000
theorem same_of {base : Nat} (bu ma cr : Int) (qa qb : Gh) (l : List S51) (w : World) (ha : w.ownsRow base 91 2 (.slice qa.1 l.length qa.2) l.length ((l.map to91).flatMap pc91)) (hb : RowR w qb (l.map to91)) (hl : l.length ≤ 100000) :
    Calls Tryd.prog 18 #[.agg #[.int .i64 bu, .int .i64 ma, .int .i64 cr, .slice qa.1 l.length qa.2], .agg #[.int .i64 bu, .int .i64 ma, .int .i64 cr, .slice qb.1 l.length qb.2]] w fun e w' => e = .returned (.bool true) ∧ Below w.heap.size w w' := by
  have h := same_calls bu ma cr qa qb (l.map to91) w (own91 ha hl) hb (by rw [List.length_map]; exact hl)
  rw [List.length_map] at h
  exact h
end Go.Proofs.YtbcijmpkmmcdeaaDoor.SF
end
