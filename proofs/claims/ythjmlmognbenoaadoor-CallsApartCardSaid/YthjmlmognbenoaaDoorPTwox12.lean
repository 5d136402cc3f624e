-- Written by myprint.py: the kit's print.py over this seat's translation, with contracts of my own.
import Derived.Test.YthjmlmognbenoaaDoorPTwox0
namespace Go.Proofs.YthjmlmognbenoaaDoor.PTwo
open Go.RowKit Go.Proofs.YthjmlmognbenoaaDoorW.PrintWords Go.Proofs.YthjmlmognbenoaaDoorW.PrintLast Go.Proofs.YthjmlmognbenoaaDoorW.PrintMore
attribute [local go_sem] max2_int min2_int max_two min_two max_three min_three max_four min_four   -- for this text's walks alone
set_option linter.unusedVariables false
set_option linter.unusedSimpArgs false

/-! ### calls_Calls_Done: function 14 -/
def calls_Calls_Done.f (a0_0 : Int) (l0_1 : List Int) (a1 : Int) (a2 : Int) (a3 : Bool) : Option (Int × List Int) := if l0_1.length ≤ 1000000 then (PAll.calls_bit.f a2 32).bind fun b => (if 0 ≤ a1 ∧ a1 < (l0_1.length : Int) then some (PAll.hallsD a0_0 b a3, l0_1.set a1.toNat (Go.bits .andNot .u32 (rdOf 0 l0_1 a1) b)) else some (PAll.hallsD a0_0 b a3, l0_1)) else none
theorem calls_Calls_Done.calls (a0_0 : Int) (A0_1 : Option Addr) (c0_1 : Nat) (l0_1 : List Int) (a1 : Int) (a2 : Int) (a3 : Bool) (r1 : Int) (r2 : List Int) (w : World) (hr0_1 : Kd.C (Kd.int .u32) w A0_1 l0_1.length l0_1) (hc0_1 : l0_1.length ≤ c0_1) (h : calls_Calls_Done.f a0_0 l0_1 a1 a2 a3 = some (r1, r2)) :
    Calls Tryd.prog 14 #[.agg #[.int .u32 a0_0, .slice A0_1 l0_1.length c0_1], .int .i64 a1, .int .i64 a2, .bool a3] w fun e w' => ∃ v1_ : Value, e = .returned (.agg #[.int .u32 r1, v1_]) ∧ Kd.R (Kd.int .u32) 23 w' w.heap.size (fun _ => True) v1_ r2 ∧ Below w.heap.size w w' := by
  unfold calls_Calls_Done.f at h
  split at h
  · rename_i hl
    obtain ⟨b, hb, h⟩ := Option.bind_eq_some_iff.1 h
    split at h
    · rename_i hc
      simp only [Option.some.injEq, Prod.mk.injEq] at h
      obtain ⟨rfl, rfl⟩ := h
      refine (PAll.Done_has a0_0 a1 a2 b a3 A0_1 c0_1 l0_1 w hr0_1 hl hb (PAll.has_yes a0_0 l0_1 a1 hc) hc).mono ?_
      rintro e w' ⟨A, c, he, h1, h2⟩
      exact ⟨_, he, h1, h2⟩
    · rename_i hc
      simp only [Option.some.injEq, Prod.mk.injEq] at h
      obtain ⟨rfl, rfl⟩ := h
      refine (PAll.Done_not a0_0 a1 a2 b a3 A0_1 c0_1 l0_1 w hr0_1 hl hb (PAll.has_not a0_0 l0_1 a1 hc)).mono ?_
      rintro e w' ⟨A, c, he, h1, h2⟩
      exact ⟨_, he, h1, h2⟩
  · exact absurd h (by simp)

end Go.Proofs.YthjmlmognbenoaaDoor.PTwo
