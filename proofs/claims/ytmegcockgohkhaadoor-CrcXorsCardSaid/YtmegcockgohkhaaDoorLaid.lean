/- The table that is laid: what its cells hold, and a world in which it is laid. -/
import Derived.Test.YtmegcockgohkhaaDoorRows
import Derived.Test.YtmegcockgohkhaaDoorPAllx1
import Derived.ProofKit
import Derived.LaidLaws
import Derived.JoinedOf
import Derived.ChangeVars
import Derived.Handed
namespace Go.Proofs.YtmegcockgohkhaaDoor.Laid
open Go.ChangeShapes Go.WideShapes Go.ChangeAt Go.RowKit
open Go.Proofs.YtmegcockgohkhaaDoor.PAll (Half halfL)

theorem half_no : Tryd.prog.globalNamed "paternoster/crc.half" = some 0 := by kernel_rfl
theorem half_type : (Tryd.prog.globals[0]?).map (·.type) = some 41 := by kernel_rfl
theorem cellsA : Tryd.prog.cellsOf 41 = 16 := by kernel_rfl
theorem cellsE : Tryd.prog.cellsOf 25 = 1 := by kernel_rfl
theorem int_of_trod {H : Type} {enc : TypeId × Value → H} {P : Program} {w : World} {base : Nat} {sp : Nat → Bool} {held : Bool} {fuel : Nat} {t : TypeId} {k : IntKind} {c : Value} {y : DataW H × List MemPlace}
    (ht : P.underlying t = some (.int k)) (h : DataW.trod enc P w base sp held fuel t [c] = some y) : ∃ n, c = .int k n ∧ y = (.lit (.int k n), []) := by
  cases fuel with
  | zero => simp [DataW.trod] at h
  | succ fuel =>
    cases c <;> simp [DataW.trod, ht] at h
    rename_i k' n
    obtain ⟨⟨rfl, _⟩, rfl⟩ := h
    exact ⟨n, rfl, rfl⟩
def cells : Array Value := (halfL.map (Value.int .u32)).toArray
theorem cells_of_laid {W : World} (h : laidMet Tryd.prog [("paternoster/crc.half", Rows.laid_paternoster_crc_half)] W) : W.var? Tryd.prog "paternoster/crc.half" = some cells := by
  obtain ⟨ps, ⟨g, t, cs, fuel, p, q, hg, ht, hvar, hd, _, _⟩, _⟩ := h
  obtain rfl := Option.some.inj (half_no.symm.trans hg)
  obtain rfl := Option.some.inj (half_type.symm.trans ht)
  rw [hvar]
  congr 1
  obtain ⟨l⟩ := cs
  cases fuel with
  | zero => simp [DataW.trod] at hd
  | succ fuel =>
    simp only [DataW.trod, Tryd.underlying41, cellsA, cellsE] at hd
    split at hd
    · rename_i hl
      obtain ⟨c0, c1, c2, c3, c4, c5, c6, c7, c8, c9, c10, c11, c12, c13, c14, c15, rfl⟩ : ∃ c0 c1 c2 c3 c4 c5 c6 c7 c8 c9 c10 c11 c12 c13 c14 c15, l = [c0, c1, c2, c3, c4, c5, c6, c7, c8, c9, c10, c11, c12, c13, c14, c15] := by
        match l, hl with
        | [a, b, c, d, e, f, g, h, i, j, k, l, m, n, o, p], _ => exact ⟨a, b, c, d, e, f, g, h, i, j, k, l, m, n, o, p, rfl⟩
      have e : List.range 16 = [0, 1, 2, 3, 4, 5, 6, 7, 8, 9, 10, 11, 12, 13, 14, 15] := rfl
      rw [e] at hd
      simp only [Option.map_eq_some_iff, List.mapM_cons, List.mapM_nil, Option.bind_eq_bind, Option.bind_eq_some_iff, Option.pure_def, Option.some.injEq] at hd
      obtain ⟨xs, ⟨y0, h0, _, ⟨y1, h1, _, ⟨y2, h2, _, ⟨y3, h3, _, ⟨y4, h4, _, ⟨y5, h5, _, ⟨y6, h6, _, ⟨y7, h7, _, ⟨y8, h8, _, ⟨y9, h9, _, ⟨y10, h10, _, ⟨y11, h11, _, ⟨y12, h12, _, ⟨y13, h13, _, ⟨y14, h14, _, ⟨y15, h15, _, rfl, rfl⟩, rfl⟩, rfl⟩, rfl⟩, rfl⟩, rfl⟩, rfl⟩, rfl⟩, rfl⟩, rfl⟩, rfl⟩, rfl⟩, rfl⟩, rfl⟩, rfl⟩, rfl⟩, hx⟩ := hd
      obtain ⟨n0, rfl, rfl⟩ := int_of_trod Tryd.underlying25 h0
      obtain ⟨n1, rfl, rfl⟩ := int_of_trod Tryd.underlying25 h1
      obtain ⟨n2, rfl, rfl⟩ := int_of_trod Tryd.underlying25 h2
      obtain ⟨n3, rfl, rfl⟩ := int_of_trod Tryd.underlying25 h3
      obtain ⟨n4, rfl, rfl⟩ := int_of_trod Tryd.underlying25 h4
      obtain ⟨n5, rfl, rfl⟩ := int_of_trod Tryd.underlying25 h5
      obtain ⟨n6, rfl, rfl⟩ := int_of_trod Tryd.underlying25 h6
      obtain ⟨n7, rfl, rfl⟩ := int_of_trod Tryd.underlying25 h7
      obtain ⟨n8, rfl, rfl⟩ := int_of_trod Tryd.underlying25 h8
      obtain ⟨n9, rfl, rfl⟩ := int_of_trod Tryd.underlying25 h9
      obtain ⟨n10, rfl, rfl⟩ := int_of_trod Tryd.underlying25 h10
      obtain ⟨n11, rfl, rfl⟩ := int_of_trod Tryd.underlying25 h11
      obtain ⟨n12, rfl, rfl⟩ := int_of_trod Tryd.underlying25 h12
      obtain ⟨n13, rfl, rfl⟩ := int_of_trod Tryd.underlying25 h13
      obtain ⟨n14, rfl, rfl⟩ := int_of_trod Tryd.underlying25 h14
      obtain ⟨n15, rfl, rfl⟩ := int_of_trod Tryd.underlying25 h15
      simp [Rows.laid_paternoster_crc_half] at hx
      obtain ⟨⟨rfl, rfl, rfl, rfl, rfl, rfl, rfl, rfl, rfl, rfl, rfl, rfl, rfl, rfl, rfl, rfl⟩, _⟩ := hx
      rfl
    · cases hd
theorem half_of_laid {W : World} (h : laidMet Tryd.prog [("paternoster/crc.half", Rows.laid_paternoster_crc_half)] W) : Half W := by
  intro i hi
  have hc := World.var?_cell half_no (cells_of_laid h) i
  rw [hc]
  rcases (show i = 0 ∨ i = 1 ∨ i = 2 ∨ i = 3 ∨ i = 4 ∨ i = 5 ∨ i = 6 ∨ i = 7 ∨ i = 8 ∨ i = 9 ∨ i = 10 ∨ i = 11 ∨ i = 12 ∨ i = 13 ∨ i = 14 ∨ i = 15 by omega) with rfl | rfl | rfl | rfl | rfl | rfl | rfl | rfl | rfl | rfl | rfl | rfl | rfl | rfl | rfl | rfl <;> rfl
/-- A world in which it is laid. -/
noncomputable def laidWorld (os : Os) : World :=
  { World.holding Tryd.prog os ⟨#[], #[], []⟩ with heap := (World.holding Tryd.prog os ⟨#[], #[], []⟩).heap.modify 0 fun
      | .cells _ t frozen => .cells cells t frozen
      | o => o }
theorem laid_met (os : Os) (args : Array Value) : laidMet Tryd.prog [("paternoster/crc.half", Rows.laid_paternoster_crc_half)] ((laidWorld os).forCall (fun _ _ => 0) ⟨#[], args, []⟩).memory :=
  laidMet_of_run' 8 (by kernel_rfl) (by kernel_rfl)
end Go.Proofs.YtmegcockgohkhaaDoor.Laid
