/- What a row of acts that comes in holds (no statement stands here). -/
import Derived.Test.YthjmlmognbenoaaDoorPTwox0
import Derived.Test.YthjmlmognbenoaaDoorOpens
import Derived.ChangeSame
namespace Go.Proofs.YthjmlmognbenoaaDoor.PTwo
open Go.RowKit Go.Proofs.YthjmlmognbenoaaDoorW.PrintWords Go.Proofs.YthjmlmognbenoaaDoorW.PrintLast Go.Proofs.YthjmlmognbenoaaDoorW.PrintMore
open Go.ChangeShapes Go.WideShapes
set_option linter.unusedVariables false
set_option linter.unusedSimpArgs false
theorem opens30 : Op.Opens k30 Tryd.prog 30 (fun _ => True) := by
  refine ⟨by kernel_rfl, fun {H enc w base spare held fuel cs x} h => ?_⟩
  obtain ⟨xs, n, _, _, hl, hlen, hf⟩ := DataW.trod_struct Tryd.underlying30 h
  have hc3 : Tryd.prog.cellsOf 3 = 1 := by kernel_rfl
  have hc4 : Tryd.prog.cellsOf 4 = 1 := by kernel_rfl
  have hc30 : Tryd.prog.cellsOf 30 = 4 := by kernel_rfl
  rw [hc30] at hl
  match cs, hl, xs, hlen with
  | [u, v, y, z], _, [x0, x1, x2, x3], _ =>
    have f0 : DataW.trod enc Tryd.prog w base spare held n 3 (([u, v, y, z].drop 0).take (Tryd.prog.cellsOf 3)) = some x0 := hf 0 _ rfl
    have f1 : DataW.trod enc Tryd.prog w base spare held n 3 (([u, v, y, z].drop 1).take (Tryd.prog.cellsOf 3)) = some x1 := hf 1 _ rfl
    have f2 : DataW.trod enc Tryd.prog w base spare held n 3 (([u, v, y, z].drop 2).take (Tryd.prog.cellsOf 3)) = some x2 := hf 2 _ rfl
    have f3 : DataW.trod enc Tryd.prog w base spare held n 4 (([u, v, y, z].drop 3).take (Tryd.prog.cellsOf 4)) = some x3 := hf 3 _ rfl
    rw [hc3] at f0 f1 f2
    rw [hc4] at f3
    obtain ⟨a, ea, _, _⟩ := DataW.trod_int Tryd.underlying3 (show DataW.trod enc Tryd.prog w base spare held n 3 [u] = some x0 from f0)
    obtain ⟨b, eb, _, _⟩ := DataW.trod_int Tryd.underlying3 (show DataW.trod enc Tryd.prog w base spare held n 3 [v] = some x1 from f1)
    obtain ⟨c, ec, _, _⟩ := DataW.trod_int Tryd.underlying3 (show DataW.trod enc Tryd.prog w base spare held n 3 [y] = some x2 from f2)
    obtain ⟨d, ed, _, _⟩ := DataW.trod_bool Tryd.underlying4 (show DataW.trod enc Tryd.prog w base spare held n 4 [z] = some x3 from f3)
    simp only [List.cons.injEq, and_true] at ea eb ec ed
    subst ea; subst eb; subst ec; subst ed
    exact ⟨⟨a, b, c, d⟩, ⟨_, _, rfl, rfl, _, _, rfl, rfl, _, _, rfl, rfl, rfl⟩, trivial⟩
end Go.Proofs.YthjmlmognbenoaaDoor.PTwo
