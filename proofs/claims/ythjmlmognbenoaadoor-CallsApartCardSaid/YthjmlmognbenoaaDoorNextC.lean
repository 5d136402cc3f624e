/- (Calls).Next, both walks in one contract, in the print's own form (no statement stands here). -/
import Derived.Test.YthjmlmognbenoaaDoorNextW
namespace Go.Proofs.YthjmlmognbenoaaDoor.PAll
open Go.RowKit Go.Shelf Go.Proofs.YthjmlmognbenoaaDoorW.PrintWords Go.Proofs.YthjmlmognbenoaaDoorW.PrintLast Go.Proofs.YthjmlmognbenoaaDoorW.PrintMore
set_option linter.unusedVariables false
theorem Deb.pos {w : World} (h : Deb w) : 0 < w.heap.size := by
  have := World.block_lt_of_cell? w _ (h 0 (by omega))
  simpa using this
theorem Deb.keep {w w' : World} (h : Deb w) (hb : Below w.heap.size w w') : Deb w' := h.below h.pos hb
theorem has_yes (h : Int) (l : List Int) (car : Int) (hc : 0 ≤ car ∧ car < (l.length : Int)) : calls_Calls_has.f h l car = some true := by
  unfold calls_Calls_has.f
  rw [if_pos (by omega), decide_eq_true (by omega)]
theorem has_not (h : Int) (l : List Int) (car : Int) (hc : ¬ (0 ≤ car ∧ car < (l.length : Int))) : calls_Calls_has.f h l car = some false := by
  unfold calls_Calls_has.f
  by_cases h0 : 0 ≤ car
  · rw [if_pos (by omega), decide_eq_false (by omega)]
  · rw [if_neg (by omega)]
def nextF (h : Int) (l : List Int) (car pos halls : Int) : Option Int :=
  if l.length ≤ 1000000 then (if 0 ≤ car ∧ car < (l.length : Int) then (if (0 ≤ pos ∧ pos ≤ 1000000) ∧ (0 ≤ rd l car ∧ rd l car < 4294967296) then some (nextI (rd l car).toNat (Go.bits .and .u32 h halls).toNat pos) else none) else some (-1)) else none
theorem and_range (x y : Int) : 0 ≤ Go.bits .and .u32 x y ∧ Go.bits .and .u32 x y < 4294967296 := by
  rw [bits_and32, IntKind.wrap_u32]
  omega
theorem Next_calls (h : Int) (A0 : Option Addr) (c0 : Nat) (l0 : List Int) (car pos halls r : Int) (w : World) (hr0 : Kd.C (Kd.int .u32) w A0 l0.length l0) (hc : l0.length ≤ c0) (hf : nextF h l0 car pos halls = some r) (hD : Deb w) :
    Calls Tryd.prog 16 #[.agg #[.int .u32 h, .slice A0 l0.length c0], .int .i64 car, .int .i64 pos, .int .u32 halls] w fun e w' => e = .returned (.int .i64 r) ∧ Below w.heap.size w w' := by
  unfold nextF at hf
  split at hf
  · rename_i hl
    split at hf
    · rename_i hcar
      split at hf
      · rename_i hp
        simp only [Option.some.injEq] at hf
        subst hf
        obtain ⟨k, rfl⟩ := Int.eq_ofNat_of_zero_le hcar.1
        have ha := and_range h halls
        exact callsIn_wide.1 (Next_in 5 (Nat.le_refl _) h halls pos k (rd l0 (k : Int)).toNat (Go.bits .and .u32 h halls).toNat A0 c0 l0 w hD hr0 hc hl (by omega) (by omega) (by omega) (by omega) (by omega) hp.1)
      · exact absurd hf (by simp)
    · rename_i hcar
      simp only [Option.some.injEq] at hf
      subst hf
      exact Next_none h car pos halls A0 c0 l0 w hr0 hc (has_not h l0 car hcar)
  · exact absurd hf (by simp)
end Go.Proofs.YthjmlmognbenoaaDoor.PAll
namespace Go.Proofs.YthjmlmognbenoaaDoor
open Go.RowKit
/-- What the walk has put in a temporary's place is told in its own words again. -/
theorem meet_at {Q : Exit → Act → World → Prop} {e : Exit} {l : List Value} {df : List Deferred} {w : World} (i : Nat) (v : Value) (h : l[i]? = some v) (k : Q e { tmps := (l.set i v).toArray, defers := df } w) : Q e { tmps := l.toArray, defers := df } w := by
  have e : l.set i v = l := by
    apply List.ext_getElem?
    intro j
    rw [List.getElem?_set]
    split
    · rename_i hj
      subst hj
      rw [h]
      split
      · rfl
      · rename_i h2
        rw [List.getElem?_eq_none (by omega)] at h
        exact h
    · rfl
  rwa [e] at k
end Go.Proofs.YthjmlmognbenoaaDoor
