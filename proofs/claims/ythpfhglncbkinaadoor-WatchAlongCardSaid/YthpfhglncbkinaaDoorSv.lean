/- Steps over a named state, more (no statement stands here). -/
import Derived.Test.YthpfhglncbkinaaDoorSy
namespace Go.Sx
open Go.RowKit
set_option linter.unusedVariables false
set_option linter.unusedSimpArgs false
section
variable {P : Program} {ops : Array Oper} {Q : Exit → Act → World → Prop} {w0 : World} {N : Nat} {l : List Oper} {env : Env} {hp : List Item} {o : Oper}
/-- An operation whose guard itself wasn't reached. -/
theorem wl_skipU {d j tj : Nat} {b : Bool} (hg : o.guard = some (j, b)) (hj : (ops[j]?).bind (·.dst) = some tj) (hb : look tj env = some undef) (hd : o.dst = some d) (hN : d < N) (k : WL P ops Q w0 N l ((d, undef) :: env) hp) : WL P ops Q w0 N (o :: l) env hp := by
  intro a w h
  have hw : Region.wanted o (yielded ops a.tmps) = false := by
    have h1 := h.env tj _ hb
    have h2 : a.tmps[tj]?.getD undef = undef := by rw [← Array.getD_eq_getD_getElem?]; exact h1
    simp only [Region.wanted, hg, yielded, hj]
    cases hx : a.tmps[tj]? with
    | none => simp [hx]
    | some x => rw [hx] at h2; simp at h2; subst h2; simp [hx, undef]
  unfold wpList
  rw [hw]
  simp only [Bool.false_eq_true, if_false]
  rw [hd]
  exact k _ _ (h.put d undef hN h.heap)
end
end Go.Sx
