/- Texts of mine, put together (no statement stands here). -/
import Derived.Test.YthjmlmognbenoaaDoorPlayB2
section
-- Written by myprint.py: the kit's print.py over this seat's translation, with contracts of my own.
namespace Go.Proofs.YthjmlmognbenoaaDoor.PThree
open Go.RowKit Go.Proofs.YthjmlmognbenoaaDoorW.PrintWords Go.Proofs.YthjmlmognbenoaaDoorW.PrintLast Go.Proofs.YthjmlmognbenoaaDoorW.PrintMore
attribute [local go_sem] max2_int min2_int max_two min_two max_three min_three max_four min_four   -- for this text's walks alone
set_option linter.unusedVariables false
set_option linter.unusedSimpArgs false

/-! ### paternosterref22_With: function 10 -/
def paternosterref22_With.f (k : Nat) (a0 : Int) (a1 : Int) (a2 : Int) : Option (Int × Bool) := PAll.paternosterref22_With.f k a0 a1 a2
theorem paternosterref22_With.mono : ∀ a0 a1 a2 k, LeO (paternosterref22_With.f k a0 a1 a2) (paternosterref22_With.f (k + 1) a0 a1 a2) := PAll.paternosterref22_With.mono
theorem paternosterref22_With.calls (k : Nat) (a0 : Int) (a1 : Int) (a2 : Int) (r1 : Int) (r2 : Bool) (w : World) (h : paternosterref22_With.f k a0 a1 a2 = some (r1, r2)) :
    Calls Tryd.prog 10 #[.int .u32 a0, .int .i64 a1, .int .i64 a2] w fun e w' => e = .returned (.tuple #[.int .u32 r1, .bool r2]) ∧ Below w.heap.size w w' :=
  (PAll.paternosterref22_With.calls k a0 a1 a2 r1 r2 w h).mono fun e w' h1 => ⟨h1.1, by obtain ⟨n_, rfl⟩ := h1.2; exact pw_below_drewN (Below.refl _ _) n_⟩

end Go.Proofs.YthjmlmognbenoaaDoor.PThree
end

section
-- Written by myprint.py: the kit's print.py over this seat's translation, with contracts of my own.
namespace Go.Proofs.YthjmlmognbenoaaDoor.PThree
open Go.RowKit Go.Proofs.YthjmlmognbenoaaDoorW.PrintWords Go.Proofs.YthjmlmognbenoaaDoorW.PrintLast Go.Proofs.YthjmlmognbenoaaDoorW.PrintMore
attribute [local go_sem] max2_int min2_int max_two min_two max_three min_three max_four min_four   -- for this text's walks alone
set_option linter.unusedVariables false
set_option linter.unusedSimpArgs false

/-! ### paternosterref22_Without: function 13 -/
def paternosterref22_Without.f (k : Nat) (a0 : Int) (a1 : Int) : Option (Int) := PAll.paternosterref22_Without.f k a0 a1
theorem paternosterref22_Without.mono : ∀ a0 a1 k, LeO (paternosterref22_Without.f k a0 a1) (paternosterref22_Without.f (k + 1) a0 a1) := PAll.paternosterref22_Without.mono
theorem paternosterref22_Without.calls (k : Nat) (a0 : Int) (a1 : Int) (r : Int) (w : World) (h : paternosterref22_Without.f k a0 a1 = some r) :
    Calls Tryd.prog 13 #[.int .u32 a0, .int .i64 a1] w fun e w' => e = .returned (.int .u32 r) ∧ Below w.heap.size w w' :=
  (PAll.paternosterref22_Without.calls k a0 a1 r w h).mono fun e w' h1 => ⟨h1.1, by obtain ⟨n_, rfl⟩ := h1.2; exact pw_below_drewN (Below.refl _ _) n_⟩

end Go.Proofs.YthjmlmognbenoaaDoor.PThree
end

section
-- Written by myprint.py: the kit's print.py over this seat's translation, with contracts of my own.
namespace Go.Proofs.YthjmlmognbenoaaDoor.PThree
open Go.RowKit Go.Proofs.YthjmlmognbenoaaDoorW.PrintWords Go.Proofs.YthjmlmognbenoaaDoorW.PrintLast Go.Proofs.YthjmlmognbenoaaDoorW.PrintMore
attribute [local go_sem] max2_int min2_int max_two min_two max_three min_three max_four min_four   -- for this text's walks alone
set_option linter.unusedVariables false
set_option linter.unusedSimpArgs false

/-! ### calls_Calls_Done: function 14 -/
def calls_Calls_Done.f (a0_0 : Int) (l0_1 : List Int) (a1 : Int) (a2 : Int) (a3 : Bool) : Option (Int × List Int) := if l0_1.length ≤ 1000000 then (PAll.calls_bit.f a2 32).bind fun b => (if 0 ≤ a1 ∧ a1 < (l0_1.length : Int) then some (PAll.hallsD a0_0 b a3, l0_1.set a1.toNat (Go.bits .andNot .u32 (rdOf 0 l0_1 a1) b)) else some (PAll.hallsD a0_0 b a3, l0_1)) else none
theorem calls_Calls_Done.calls (a0_0 : Int) (A0_1 : Option Addr) (c0_1 : Nat) (l0_1 : List Int) (a1 : Int) (a2 : Int) (a3 : Bool) (r1 : Int) (r2 : List Int) (w : World) (hr0_1 : Kd.C (Kd.int .u32) w A0_1 l0_1.length l0_1) (hc0_1 : l0_1.length ≤ c0_1) (h : calls_Calls_Done.f a0_0 l0_1 a1 a2 a3 = some (r1, r2)) :
    Calls Tryd.prog 14 #[.agg #[.int .u32 a0_0, .slice A0_1 l0_1.length c0_1], .int .i64 a1, .int .i64 a2, .bool a3] w fun e w' => ∃ v1_ : Value, e = .returned (.agg #[.int .u32 r1, v1_]) ∧ Kd.R (Kd.int .u32) 23 w' w.heap.size (fun _ => True) v1_ r2 ∧ Below w.heap.size w w' := by
  unfold calls_Calls_Done.f at h
  split at h
  · rename_i hl
    obtain ⟨b, hb, h⟩ := Option.bind_eq_some_iff.1 h
    split at h
    · rename_i hc
      simp only [Option.some.injEq, Prod.mk.injEq] at h
      obtain ⟨rfl, rfl⟩ := h
      refine (PAll.Done_has a0_0 a1 a2 b a3 A0_1 c0_1 l0_1 w hr0_1 hl hb (PAll.has_yes a0_0 l0_1 a1 hc) hc).mono ?_
      rintro e w' ⟨A, c, he, h1, h2⟩
      exact ⟨_, he, h1, h2⟩
    · rename_i hc
      simp only [Option.some.injEq, Prod.mk.injEq] at h
      obtain ⟨rfl, rfl⟩ := h
      refine (PAll.Done_not a0_0 a1 a2 b a3 A0_1 c0_1 l0_1 w hr0_1 hl hb (PAll.has_not a0_0 l0_1 a1 hc)).mono ?_
      rintro e w' ⟨A, c, he, h1, h2⟩
      exact ⟨_, he, h1, h2⟩
  · exact absurd h (by simp)

end Go.Proofs.YthjmlmognbenoaaDoor.PThree
end

section
-- Written by myprint.py: the kit's print.py over this seat's translation, with contracts of my own.
namespace Go.Proofs.YthjmlmognbenoaaDoor.PThree
open Go.RowKit Go.Proofs.YthjmlmognbenoaaDoorW.PrintWords Go.Proofs.YthjmlmognbenoaaDoorW.PrintLast Go.Proofs.YthjmlmognbenoaaDoorW.PrintMore
attribute [local go_sem] max2_int min2_int max_two min_two max_three min_three max_four min_four   -- for this text's walks alone
set_option linter.unusedVariables false
set_option linter.unusedSimpArgs false

/-! ### paternosterref22_Many: function 15 -/
def paternosterref22_Many.f (k : Nat) (a0 : Int) : Option (Int) := PAll.paternosterref22_Many.f k a0
theorem paternosterref22_Many.mono : ∀ a0 k, LeO (paternosterref22_Many.f k a0) (paternosterref22_Many.f (k + 1) a0) := PAll.paternosterref22_Many.mono
theorem paternosterref22_Many.calls (k : Nat) (a0 : Int) (r : Int) (w : World) (h : paternosterref22_Many.f k a0 = some r) :
    Calls Tryd.prog 15 #[.int .u32 a0] w fun e w' => e = .returned (.int .i64 r) ∧ Below w.heap.size w w' :=
  (PAll.paternosterref22_Many.calls k a0 r w h).mono fun e w' h1 => ⟨h1.1, by obtain ⟨n_, rfl⟩ := h1.2; exact pw_below_drewN (Below.refl _ _) n_⟩

end Go.Proofs.YthjmlmognbenoaaDoor.PThree
end

section
-- Written by myprint.py: the kit's print.py over this seat's translation, with contracts of my own.
namespace Go.Proofs.YthjmlmognbenoaaDoor.PThree
open Go.RowKit Go.Proofs.YthjmlmognbenoaaDoorW.PrintWords Go.Proofs.YthjmlmognbenoaaDoorW.PrintLast Go.Proofs.YthjmlmognbenoaaDoorW.PrintMore
attribute [local go_sem] max2_int min2_int max_two min_two max_three min_three max_four min_four   -- for this text's walks alone
set_option linter.unusedVariables false
set_option linter.unusedSimpArgs false

/-! ### paternosterref22_Next: function 17 -/
def paternosterref22_Next.f (k : Nat) (a0 : Int) (a1 : Int) (a2 : Int) : Option (Int) := PAll.paternosterref22_Next.f k a0 a1 a2
theorem paternosterref22_Next.mono : ∀ a0 a1 a2 k, LeO (paternosterref22_Next.f k a0 a1 a2) (paternosterref22_Next.f (k + 1) a0 a1 a2) := PAll.paternosterref22_Next.mono
theorem paternosterref22_Next.calls (k : Nat) (a0 : Int) (a1 : Int) (a2 : Int) (r : Int) (w : World) (h : paternosterref22_Next.f k a0 a1 a2 = some r) :
    Calls Tryd.prog 17 #[.int .u32 a0, .int .u32 a1, .int .i64 a2] w fun e w' => e = .returned (.int .i64 r) ∧ Below w.heap.size w w' :=
  (PAll.paternosterref22_Next.calls k a0 a1 a2 r w h).mono fun e w' h1 => ⟨h1.1, by obtain ⟨n_, rfl⟩ := h1.2; exact pw_below_drewN (Below.refl _ _) n_⟩

end Go.Proofs.YthjmlmognbenoaaDoor.PThree
end
