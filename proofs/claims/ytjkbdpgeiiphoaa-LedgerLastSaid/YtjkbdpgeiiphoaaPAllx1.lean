-- Written by myprint.py: the kit's print.py over this seat's translation, with contracts of my own.
import Derived.Test.YtjkbdpgeiiphoaaPAllx0
namespace Go.Proofs.Ytjkbdpgeiiphoaa.PAll
open Go.RowKit Go.Proofs.YtjkbdpgeiiphoaaW.PrintWords Go.Proofs.YtjkbdpgeiiphoaaW.PrintLast Go.Proofs.YtjkbdpgeiiphoaaW.PrintMore
attribute [local go_sem] max2_int min2_int max_two min_two max_three min_three max_four min_four   -- for this text's walks alone
set_option linter.unusedVariables false
set_option linter.unusedSimpArgs false

/-! ### sat_bound: function 23 -/
def sat_bound.f (a0 : Int) : Option (Int × Bool) := some (mx (mn a0 1099511627776) (-1099511627776), (a0 != (mx (mn a0 1099511627776) (-1099511627776))))
set_option maxHeartbeats 8000000 in
set_option maxRecDepth 100000 in
theorem sat_bound.calls (a0 : Int) (r1 : Int) (r2 : Bool) (w : World) (h : sat_bound.f a0 = some (r1, r2)) :
    Calls Try.prog 23 #[.int .i64 a0] w fun e w' => e = .returned (.tuple #[.int .i64 r1, .bool r2]) ∧ Below w.heap.size w w' := by
  have HB := Aside0.mk (Below.refl w.heap.size w)
  have H : (some (mx (mn a0 1099511627776) (-1099511627776), (a0 != (mx (mn a0 1099511627776) (-1099511627776))))) = some (r1, r2) := h
  clear h
  obtain ⟨ji2, hji2⟩ : ∃ j_ : Int, (mn a0 1099511627776) = j_ := ⟨_, rfl⟩
  replace H : (some (mx (ji2) (-1099511627776), (a0 != (mx (ji2) (-1099511627776))))) = some (r1, r2) := by first | (rw [hji2] at H; exact H) | (simp only [hji2] at H ⊢; exact H)
  (try (have hji2h : ji2 ≤ 1099511627776 := by (rw [← hji2]; unfold mn; (repeat' split) <;> omega)))
  (try (have hji2g : ji2 ≤ 64 := by omega))
  have hji2_ : (if 1099511627776 < a0 then 1099511627776 else a0) = ji2 := hji2
  obtain ⟨ji3, hji3⟩ : ∃ j_ : Int, (mx (ji2) (-1099511627776)) = j_ := ⟨_, rfl⟩
  replace H : (some (ji3, (a0 != (ji3)))) = some (r1, r2) := by first | (rw [hji3] at H; exact H) | (simp only [hji3] at H ⊢; exact H)
  have hji3_ : (if (ji2) < (-1099511627776) then (-1099511627776) else (ji2)) = ji3 := hji3
  simp only [Option.some.injEq, Prod.mk.injEq] at H
  obtain ⟨rfl, rfl⟩ := H
  go_enter Try.func23, Try.ntmps23
  go_wp2
  go_ret2
  exact ⟨by first | rfl | (simp [errW_none, errW_some] <;> rfl) | (simp only [← hji2, ← hji3]; first | rfl | (simp [errW_none, errW_some] <;> rfl)) | (simp [*, errW_none, errW_some] <;> rfl), by repeat (first | (with_reducible first | exact HB.out | apply below_alloc | apply pw_below_drewN | apply below_drew1) | exact HB.out)⟩

end Go.Proofs.Ytjkbdpgeiiphoaa.PAll
