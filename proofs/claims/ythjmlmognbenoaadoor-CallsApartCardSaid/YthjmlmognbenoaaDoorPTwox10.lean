-- Written by myprint.py: the kit's print.py over this seat's translation, with contracts of my own.
import Derived.Test.YthjmlmognbenoaaDoorPTwox0
namespace Go.Proofs.YthjmlmognbenoaaDoor.PTwo
open Go.RowKit Go.Proofs.YthjmlmognbenoaaDoorW.PrintWords Go.Proofs.YthjmlmognbenoaaDoorW.PrintLast Go.Proofs.YthjmlmognbenoaaDoorW.PrintMore
attribute [local go_sem] max2_int min2_int max_two min_two max_three min_three max_four min_four   -- for this text's walks alone
set_option linter.unusedVariables false
set_option linter.unusedSimpArgs false

/-! ### calls_Calls_Many: function 18 -/
def calls_Calls_Many.f (a0_0 : Int) (l0_1 : List Int) : Option Int := if l0_1.length ≤ 1000000 ∧ (0 ≤ a0_0 ∧ a0_0 < 4294967296) ∧ (∀ x ∈ l0_1, 0 ≤ x ∧ x < 4294967296) then some (PAll.onesI a0_0 + PAll.onesL l0_1) else none
theorem calls_Calls_Many.calls (a0_0 : Int) (A0_1 : Option Addr) (c0_1 : Nat) (l0_1 : List Int) (r : Int) (w : World) (hr0_1 : Kd.C (Kd.int .u32) w A0_1 l0_1.length l0_1) (hc0_1 : l0_1.length ≤ c0_1) (h : calls_Calls_Many.f a0_0 l0_1 = some r) :
    Calls Tryd.prog 18 #[.agg #[.int .u32 a0_0, .slice A0_1 l0_1.length c0_1]] w fun e w' => e = .returned (.int .i64 r) ∧ Below w.heap.size w w' := by
  unfold calls_Calls_Many.f at h
  split at h
  · rename_i hl
    simp only [Option.some.injEq] at h
    subst h
    exact PAll.Many_calls a0_0 A0_1 c0_1 l0_1 w hr0_1 hl.1 hl.2.1 hl.2.2
  · exact absurd h (by simp)

end Go.Proofs.YthjmlmognbenoaaDoor.PTwo
