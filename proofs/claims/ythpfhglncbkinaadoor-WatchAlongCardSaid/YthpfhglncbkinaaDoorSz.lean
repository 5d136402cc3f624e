/- Steps over a named state: rows of numbers (no statement stands here). -/
import Derived.Test.YthpfhglncbkinaaDoorSy
import Derived.Test.YthpfhglncbkinaaDoorWMore
import Derived.Test.YthpfhglncbkinaaDoorWLast
namespace Go.Sx
open Go.RowKit Go.Proofs.YthpfhglncbkinaaDoorW.PrintWords Go.Proofs.YthpfhglncbkinaaDoorW.PrintLast Go.Proofs.YthpfhglncbkinaaDoorW.PrintMore
set_option linter.unusedVariables false
set_option linter.unusedSimpArgs false
theorem own_of_R {k : IntKind} {e base : Nat} {ok : Nat → Prop} {w : World} {v : Value} {xs : List Int} (h : (Kd.int k).R e w base ok v xs) : w.ownsRow base e 1 v xs.length (nums k xs) := by
  obtain ⟨_, inner, ho, hr⟩ := h
  have : inner = nums k xs := by
    obtain ⟨h1, h2⟩ := hr
    apply List.ext_getElem?
    intro j
    unfold nums
    rw [List.getElem?_map]
    cases hx : xs[j]? with
    | none =>
      have : xs.length ≤ j := by simpa using hx
      rw [List.getElem?_eq_none (by rw [h1]; simpa [Kd.int, Kd.scalar] using this)]
      rfl
    | some x =>
      have hM : (inner.drop (j * 1)).take 1 = [.int k x] := h2 j x hx
      have := congrArg (fun l => l[0]?) hM
      simpa using this
  rw [← this]
  exact ho
theorem C_of_own {k : IntKind} {e base c : Nat} {w : World} {A : Option Addr} {xs : List Int} (h : w.ownsRow base e 1 (.slice A xs.length c) xs.length (nums k xs)) (hn : xs.length ≤ 9223372036854775807) : (Kd.int k).C w A xs.length xs := by
  obtain ⟨ad, hA, hc⟩ := own_cell h (by decide)
  refine ⟨rfl, hn, fun h0 => ⟨ad, hA h0, fun j p hp => ⟨[.int k p], rfl, rfl, fun i u hu => ?_⟩⟩⟩
  cases i with
  | zero =>
    cases hu
    have := hc j (.int k p) (by unfold nums; rw [List.getElem?_map, hp]; rfl)
    simpa [Kd.int, Kd.scalar] using this
  | succ i => simp at hu
theorem OpQ.to {P : Program} {o : Oper} {env : Env} {w0 : World} {hp : List Item} {v v' : Value} (h : OpQ P o env w0 hp v) (e : v = v') : OpQ P o env w0 hp v' := e ▸ h
end Go.Sx
