-- Written by myprint.py: the kit's print.py over this seat's translation, with contracts of my own.
import Derived.Test.YthjmlmognbenoaaDoorPTwox0
namespace Go.Proofs.YthjmlmognbenoaaDoor.PTwo
open Go.RowKit Go.Proofs.YthjmlmognbenoaaDoorW.PrintWords Go.Proofs.YthjmlmognbenoaaDoorW.PrintLast Go.Proofs.YthjmlmognbenoaaDoorW.PrintMore
attribute [local go_sem] max2_int min2_int max_two min_two max_three min_three max_four min_four   -- for this text's walks alone
set_option linter.unusedVariables false
set_option linter.unusedSimpArgs false

/-! ### calls_Calls_Hall: function 11 -/
def calls_Calls_Hall.f (a0_0 : Int) (l0_1 : List Int) (a1 : Int) (a2 : Int) : Option (Int × List Int × Bool) := if l0_1.length ≤ 1000000 then (PAll.calls_bit.f a1 a2).bind fun b => some (Go.bits .or .u32 a0_0 b, l0_1, b != 0) else none
theorem calls_Calls_Hall.calls (a0_0 : Int) (A0_1 : Option Addr) (c0_1 : Nat) (l0_1 : List Int) (a1 : Int) (a2 : Int) (r1 : Int) (r2 : List Int) (r3 : Bool) (w : World) (hr0_1 : Kd.C (Kd.int .u32) w A0_1 l0_1.length l0_1) (hc0_1 : l0_1.length ≤ c0_1) (h : calls_Calls_Hall.f a0_0 l0_1 a1 a2 = some (r1, r2, r3)) :
    Calls Tryd.prog 11 #[.agg #[.int .u32 a0_0, .slice A0_1 l0_1.length c0_1], .int .i64 a1, .int .i64 a2] w fun e w' => ∃ v1_ : Value, e = .returned (.tuple #[.agg #[.int .u32 r1, v1_], .bool r3]) ∧ Kd.R (Kd.int .u32) 23 w' w.heap.size (fun _ => True) v1_ r2 ∧ Below w.heap.size w w' := by
  unfold calls_Calls_Hall.f at h
  split at h
  · rename_i hl
    obtain ⟨b, hb, h⟩ := Option.bind_eq_some_iff.1 h
    simp only [Option.some.injEq, Prod.mk.injEq] at h
    obtain ⟨rfl, rfl, rfl⟩ := h
    refine (PAll.Hall_calls a0_0 a1 a2 b A0_1 c0_1 l0_1 w hr0_1 hl hb).mono ?_
    rintro e w' ⟨A, c, he, h1, h2⟩
    exact ⟨_, he, h1, h2⟩
  · exact absurd h (by simp)

end Go.Proofs.YthjmlmognbenoaaDoor.PTwo
