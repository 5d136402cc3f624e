/- The table that is laid: what its cells hold, and a world in which it is laid. -/
import Derived.Test.YthpfhglncbkinaaDoorRows
import Derived.Test.YthpfhglncbkinaaDoorSw4
import Derived.ProofKit
import Derived.LaidLaws
import Derived.JoinedOf
import Derived.ChangeVars
import Derived.Handed
namespace Go.Proofs.YthpfhglncbkinaaDoor.Laid
open Go.ChangeShapes Go.WideShapes Go.ChangeAt Go.RowKit

theorem tab_no : Tryd.prog.globalNamed "paternoster/phase.next" = some 0 := by kernel_rfl
theorem tab_type : (Tryd.prog.globals[0]?).map (·.type) = some 71 := by kernel_rfl
theorem cellsA : Tryd.prog.cellsOf 71 = 6 := by kernel_rfl
theorem cellsE : Tryd.prog.cellsOf 3 = 1 := by kernel_rfl
theorem int_of_trod {H : Type} {enc : TypeId × Value → H} {P : Program} {w : World} {base : Nat} {sp : Nat → Bool} {held : Bool} {fuel : Nat} {t : TypeId} {k : IntKind} {c : Value} {y : DataW H × List MemPlace}
    (ht : P.underlying t = some (.int k)) (h : DataW.trod enc P w base sp held fuel t [c] = some y) : ∃ n, c = .int k n ∧ y = (.lit (.int k n), []) := by
  cases fuel with
  | zero => simp [DataW.trod] at h
  | succ fuel =>
    cases c <;> simp [DataW.trod, ht] at h
    rename_i k' n
    obtain ⟨⟨rfl, _⟩, rfl⟩ := h
    exact ⟨n, rfl, rfl⟩
def cells : Array Value := (SF.nextL.map (Value.int .i64)).toArray
set_option maxRecDepth 100000 in
set_option maxHeartbeats 4000000 in
theorem cells_of_laid {W : World} (h : laidMet Tryd.prog [("paternoster/phase.next", Rows.laid_paternoster_phase_next)] W) : W.var? Tryd.prog "paternoster/phase.next" = some cells := by
  obtain ⟨ps, ⟨g, t, cs, fuel, p, q, hg, ht, hvar, hd, _, _⟩, _⟩ := h
  obtain rfl := Option.some.inj (tab_no.symm.trans hg)
  obtain rfl := Option.some.inj (tab_type.symm.trans ht)
  rw [hvar]
  congr 1
  obtain ⟨l⟩ := cs
  cases fuel with
  | zero => simp [DataW.trod] at hd
  | succ fuel =>
    simp only [DataW.trod, Tryd.underlying71, cellsA, cellsE] at hd
    split at hd
    · rename_i hl
      obtain ⟨c0, c1, c2, c3, c4, c5, rfl⟩ : ∃ c0 c1 c2 c3 c4 c5, l = [c0, c1, c2, c3, c4, c5] := by
        match l, hl with
        | [a0, a1, a2, a3, a4, a5], _ => exact ⟨a0, a1, a2, a3, a4, a5, rfl⟩
      have e : List.range 6 = [0, 1, 2, 3, 4, 5] := rfl
      rw [e] at hd
      simp only [Option.map_eq_some_iff, List.mapM_cons, List.mapM_nil, Option.bind_eq_bind, Option.bind_eq_some_iff, Option.pure_def, Option.some.injEq] at hd
      obtain ⟨xs, ⟨y0, h0, _, ⟨y1, h1, _, ⟨y2, h2, _, ⟨y3, h3, _, ⟨y4, h4, _, ⟨y5, h5, _, rfl, rfl⟩, rfl⟩, rfl⟩, rfl⟩, rfl⟩, rfl⟩, hx⟩ := hd
      obtain ⟨n0, rfl, rfl⟩ := int_of_trod Tryd.underlying3 h0
      obtain ⟨n1, rfl, rfl⟩ := int_of_trod Tryd.underlying3 h1
      obtain ⟨n2, rfl, rfl⟩ := int_of_trod Tryd.underlying3 h2
      obtain ⟨n3, rfl, rfl⟩ := int_of_trod Tryd.underlying3 h3
      obtain ⟨n4, rfl, rfl⟩ := int_of_trod Tryd.underlying3 h4
      obtain ⟨n5, rfl, rfl⟩ := int_of_trod Tryd.underlying3 h5
      simp [Rows.laid_paternoster_phase_next] at hx
      obtain ⟨⟨rfl, rfl, rfl, rfl, rfl, rfl⟩, _⟩ := hx
      rfl
    · cases hd
set_option maxRecDepth 100000 in
theorem half_of_laid {W : World} (h : laidMet Tryd.prog [("paternoster/phase.next", Rows.laid_paternoster_phase_next)] W) : SF.NextL W := by
  intro i hi
  have hc := World.var?_cell tab_no (cells_of_laid h) i
  rw [hc]
  have hl : SF.nextL.length = 6 := rfl
  unfold cells
  rw [List.getElem?_toArray, List.getElem?_map, List.getElem?_eq_getElem (by omega), List.getD_eq_getElem?_getD, List.getElem?_eq_getElem (by omega)]
  rfl
/-- A world in which it is laid. -/
noncomputable def laidWorld (os : Os) : World :=
  { World.holding Tryd.prog os ⟨#[], #[], []⟩ with heap := (World.holding Tryd.prog os ⟨#[], #[], []⟩).heap.modify 0 fun
      | .cells _ t frozen => .cells cells t frozen
      | o => o }
theorem laid_met (os : Os) (args : Array Value) : laidMet Tryd.prog [("paternoster/phase.next", Rows.laid_paternoster_phase_next)] ((laidWorld os).forCall (fun _ _ => 0) ⟨#[], args, []⟩).memory :=
  laidMet_of_run' 8 (by kernel_rfl) (by kernel_rfl)
end Go.Proofs.YthpfhglncbkinaaDoor.Laid
