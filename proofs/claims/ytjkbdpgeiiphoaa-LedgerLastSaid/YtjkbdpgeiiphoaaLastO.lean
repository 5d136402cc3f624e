/- LedgerLast, whole, and what a ledger that comes in holds (no statement stands here). -/
import Derived.Test.YtjkbdpgeiiphoaaLastW
import Derived.Test.YtjkbdpgeiiphoaaOpens
import Derived.ChangeSame
namespace Go.Proofs.Ytjkbdpgeiiphoaa.PAll
open Go.RowKit Go.Proofs.YtjkbdpgeiiphoaaW.PrintWords Go.Proofs.YtjkbdpgeiiphoaaW.PrintLast Go.Proofs.YtjkbdpgeiiphoaaW.PrintMore
open Go.ChangeShapes Go.WideShapes
set_option linter.unusedVariables false
set_option linter.unusedSimpArgs false
theorem opens37 : Op.Opens k37 Try.prog 37 (fun _ => True) := by
  refine ⟨by kernel_rfl, fun {H enc w base spare held fuel cs x} hx => ?_⟩
  obtain ⟨y0, y1, n, _, hl, h0, h1⟩ := trod_struct2 Try.underlying37 hx
  have hc3 : Try.prog.cellsOf 3 = 1 := by kernel_rfl
  have hc37 : Try.prog.cellsOf 37 = 2 := by kernel_rfl
  rw [hc37] at hl
  match cs, hl with
  | [u, v], _ =>
    simp only [hc3, List.drop_zero, List.take_succ_cons, List.take_zero, List.drop_succ_cons] at h0 h1
    obtain ⟨a, ea, _, _⟩ := DataW.trod_int Try.underlying3 h0
    obtain ⟨b, eb, _, _⟩ := DataW.trod_int Try.underlying3 h1
    simp only [List.cons.injEq, and_true] at ea eb
    subst ea; subst eb
    exact ⟨⟨a, b⟩, ⟨_, _, rfl, rfl, rfl⟩, trivial⟩
theorem ledger_open {H : Type} {enc : TypeId × Value → H} {w : World} {base : Nat} {spare : Nat → Bool} {held : Bool} {fuel : Nat} {cs : List Value} {x : DataW H × List MemPlace} (h : DataW.trod enc Try.prog w base spare held fuel 26 cs = some x) :
    ∃ (b m cr : Int) (A : Option Addr) (c : Nat) (l : List S37), cs = [.int .i64 b, .int .i64 m, .int .i64 cr, .slice A l.length c] ∧ l.length ≤ c ∧ Kd.C k37 w A l.length l := by
  obtain ⟨xs, n, _, _, hl, hlen, hf⟩ := DataW.trod_struct Try.underlying26 h
  have hc3 : Try.prog.cellsOf 3 = 1 := by kernel_rfl
  have hc24 : Try.prog.cellsOf 24 = 1 := by kernel_rfl
  have hc26 : Try.prog.cellsOf 26 = 4 := by kernel_rfl
  rw [hc26] at hl
  match cs, hl, xs, hlen with
  | [u, v, y, z], _, [x0, x1, x2, x3], _ =>
    have f0 : DataW.trod enc Try.prog w base spare held n 3 (([u, v, y, z].drop 0).take (Try.prog.cellsOf 3)) = some x0 := hf 0 _ rfl
    have f1 : DataW.trod enc Try.prog w base spare held n 3 (([u, v, y, z].drop 1).take (Try.prog.cellsOf 3)) = some x1 := hf 1 _ rfl
    have f2 : DataW.trod enc Try.prog w base spare held n 3 (([u, v, y, z].drop 2).take (Try.prog.cellsOf 3)) = some x2 := hf 2 _ rfl
    have f3 : DataW.trod enc Try.prog w base spare held n 24 (([u, v, y, z].drop 3).take (Try.prog.cellsOf 24)) = some x3 := hf 3 _ rfl
    rw [hc3] at f0 f1 f2
    rw [hc24] at f3
    obtain ⟨a, ea, _, _⟩ := DataW.trod_int Try.underlying3 (show DataW.trod enc Try.prog w base spare held n 3 [u] = some x0 from f0)
    obtain ⟨b, eb, _, _⟩ := DataW.trod_int Try.underlying3 (show DataW.trod enc Try.prog w base spare held n 3 [v] = some x1 from f1)
    obtain ⟨c, ec, _, _⟩ := DataW.trod_int Try.underlying3 (show DataW.trod enc Try.prog w base spare held n 3 [y] = some x2 from f2)
    simp only [List.cons.injEq, and_true] at ea eb ec
    subst ea; subst eb; subst ec
    obtain ⟨l, ⟨A, cc, ez, hlc, hC⟩, _⟩ := (Op.Opens.slice (K := k37) Try.underlying24 hc24 opens37).op (show DataW.trod enc Try.prog w base spare held n 24 [z] = some x3 from f3)
    simp only [List.cons.injEq, and_true] at ez
    subst ez
    exact ⟨a, b, c, A, cc, l, rfl, hlc, hC⟩
theorem Last_all (b m cr bud : Int) (A0 : Option Addr) (c0 : Nat) (l0 : List S37) (w : World) (hr0 : Kd.C k37 w A0 l0.length l0) (hc0 : l0.length ≤ c0) :
    Calls Try.prog 4 #[.agg #[.int .i64 b, .int .i64 m, .int .i64 cr, .slice A0 l0.length c0], .int .i64 bud] w fun e w' => e = .returned (.bool true) ∧ Below w.heap.size w w' := by
  by_cases h : 64 < l0.length
  · exact Last_long b m cr bud A0 c0 l0 w h
  · exact Last_short b m cr bud A0 c0 l0 w hr0 hc0 (by omega)
end Go.Proofs.Ytjkbdpgeiiphoaa.PAll
