/- What a row of facts that comes in holds (no statement stands here). -/
import Derived.Test.YthpfhglncbkinaaDoorPAllx0
import Derived.Test.YthpfhglncbkinaaDoorOpens
import Derived.ChangeSame
namespace Go.Proofs.YthpfhglncbkinaaDoor.PAll
open Go.RowKit Go.Proofs.YthpfhglncbkinaaDoorW.PrintWords Go.Proofs.YthpfhglncbkinaaDoorW.PrintLast Go.Proofs.YthpfhglncbkinaaDoorW.PrintMore
open Go.ChangeShapes Go.WideShapes
set_option linter.unusedVariables false
set_option linter.unusedSimpArgs false
theorem opens37 : Op.Opens (Kd.slice 3 (Kd.int .i64)) Tryd.prog 37 (fun xs => xs.length ≤ maxLen ∧ ∀ x ∈ xs, (Lit.int .i64 x).wf = true) :=
  Op.Opens.slice (K := Kd.int .i64) Tryd.underlying37 (by kernel_rfl) (Op.Opens.int .i64 Tryd.underlying3 (by kernel_rfl))
theorem opens40 : Op.Opens k40 Tryd.prog 40 (fun x => (Lit.int .u64 x.f4).wf = true) := by
  refine ⟨by kernel_rfl, fun {H enc w base spare held fuel cs x} h => ?_⟩
  obtain ⟨xs, n, _, _, hl, hlen, hf⟩ := DataW.trod_struct Tryd.underlying40 h
  have hc3 : Tryd.prog.cellsOf 3 = 1 := by kernel_rfl
  have hc37 : Tryd.prog.cellsOf 37 = 1 := by kernel_rfl
  have hc38 : Tryd.prog.cellsOf 38 = 1 := by kernel_rfl
  have hc40 : Tryd.prog.cellsOf 40 = 5 := by kernel_rfl
  rw [hc40] at hl
  match cs, hl, xs, hlen with
  | [u, v, y, s, z], _, [x0, x1, x2, x3, x4], _ =>
    have f0 : DataW.trod enc Tryd.prog w base spare held n 3 (([u, v, y, s, z].drop 0).take (Tryd.prog.cellsOf 3)) = some x0 := hf 0 _ rfl
    have f1 : DataW.trod enc Tryd.prog w base spare held n 3 (([u, v, y, s, z].drop 1).take (Tryd.prog.cellsOf 3)) = some x1 := hf 1 _ rfl
    have f2 : DataW.trod enc Tryd.prog w base spare held n 3 (([u, v, y, s, z].drop 2).take (Tryd.prog.cellsOf 3)) = some x2 := hf 2 _ rfl
    have f3 : DataW.trod enc Tryd.prog w base spare held n 37 (([u, v, y, s, z].drop 3).take (Tryd.prog.cellsOf 37)) = some x3 := hf 3 _ rfl
    have f4 : DataW.trod enc Tryd.prog w base spare held n 38 (([u, v, y, s, z].drop 4).take (Tryd.prog.cellsOf 38)) = some x4 := hf 4 _ rfl
    rw [hc3] at f0 f1 f2
    rw [hc37] at f3
    rw [hc38] at f4
    obtain ⟨a, ea, _, _⟩ := DataW.trod_int Tryd.underlying3 (show DataW.trod enc Tryd.prog w base spare held n 3 [u] = some x0 from f0)
    obtain ⟨b, eb, _, _⟩ := DataW.trod_int Tryd.underlying3 (show DataW.trod enc Tryd.prog w base spare held n 3 [v] = some x1 from f1)
    obtain ⟨c, ec, _, _⟩ := DataW.trod_int Tryd.underlying3 (show DataW.trod enc Tryd.prog w base spare held n 3 [y] = some x2 from f2)
    obtain ⟨l, ⟨A3, c3, es, l3, g3⟩, _⟩ := opens37.op (show DataW.trod enc Tryd.prog w base spare held n 37 [s] = some x3 from f3)
    obtain ⟨d, ed, _, wd⟩ := DataW.trod_int Tryd.underlying38 (show DataW.trod enc Tryd.prog w base spare held n 38 [z] = some x4 from f4)
    simp only [List.cons.injEq, and_true] at ea eb ec ed es
    subst ea; subst eb; subst ec; subst ed; subst es
    exact ⟨⟨a, b, c, l, d⟩, k40_mk w ⟨a, b, c, l, d⟩ l3 g3, wd⟩
end Go.Proofs.YthpfhglncbkinaaDoor.PAll
