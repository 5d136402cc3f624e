-- Written by myprint.py: the kit's print.py over this seat's translation, with contracts of my own.
import Derived.Test.YtjkbdpgeiiphoaaPAllx0
import Derived.Test.YtjkbdpgeiiphoaaPAllx1
namespace Go.Proofs.Ytjkbdpgeiiphoaa.PAll
open Go.RowKit Go.Proofs.YtjkbdpgeiiphoaaW.PrintWords Go.Proofs.YtjkbdpgeiiphoaaW.PrintLast Go.Proofs.YtjkbdpgeiiphoaaW.PrintMore
attribute [local go_sem] max2_int min2_int max_two min_two max_three min_three max_four min_four   -- for this text's walks alone
set_option linter.unusedVariables false
set_option linter.unusedSimpArgs false

/-! ### sat_Add: function 20 -/
theorem sat_add1.calls (a0 a1 : Int) (w : World) : Calls Try.prog 22 #[.int .i64 a0, .int .i64 a1] w fun e w' => e = .returned (.int .i64 (wrap64 (a0 + a1))) ∧ Below w.heap.size w w' := by
  go_enter Try.func22, Try.ntmps22
  go_wp2
  go_ret
  exact ⟨rfl, by repeat (first | exact Below.refl _ _ | apply below_drew1 | apply pw_below_drewN)⟩
def bnd (x : Int) : Int := mx (mn x 1099511627776) (-1099511627776)
set_option maxHeartbeats 4000000 in
set_option maxRecDepth 100000 in
theorem sat_both.calls (a0 a1 : Int) (w : World) : Calls Try.prog 21 #[.int .i64 a0, .int .i64 a1, .func (.func 22) #[] #[]] w fun e w' => e = .returned (.tuple #[.int .i64 (bnd (wrap64 (bnd a0 + bnd a1))), .bool ((a0 != bnd a0) || (a1 != bnd a1) || (wrap64 (bnd a0 + bnd a1) != bnd (wrap64 (bnd a0 + bnd a1))))]) ∧ Below w.heap.size w w' := by
  have hb : ∀ (x : Int) (W : World), Calls Try.prog 23 #[.int .i64 x] W fun e w' => e = .returned (.tuple #[.int .i64 (bnd x), .bool (x != bnd x)]) ∧ Below W.heap.size W w' := fun x W => sat_bound.calls x _ _ W rfl
  have HB := Aside0.mk hb
  clear hb
  generalize hx : bnd a0 = x at *
  generalize hy : bnd a1 = y at *
  generalize hs : wrap64 (x + y) = s at *
  generalize hz : bnd s = z at *
  have HX := Aside0.mk hx
  have HY := Aside0.mk hy
  have HS := Aside0.mk hs
  have HZ := Aside0.mk hz
  clear hx hy hs hz
  go_enter Try.func21, Try.ntmps21
  go_wp2_with (first
    | (go_at_call 23; (have h2_ := hc_); refine (HB.out s _).mono ?_; rintro e w4 ⟨rfl, hb4⟩; rw [HZ.out])
    | (go_at_call 23; (have h2_ := hq2); refine (HB.out a1 _).mono ?_; rintro e w3 ⟨rfl, hb3⟩; rw [HY.out])
    | (go_at_call 23; refine (HB.out a0 _).mono ?_; rintro e w2 ⟨rfl, hb2⟩; rw [HX.out]; have hq2 := Aside0.mk True.intro)
    | (go_at_call 22; refine (sat_add1.calls _ _ _).mono ?_; rintro e w5 ⟨rfl, hb5⟩; rw [HS.out]; have hc_ := Aside0.mk True.intro))
  all_goals go_ret2
  all_goals exact ⟨by first | rfl | (simp_all; done) | (simp [*]), below_step (below_step (below_step hb2 hb3) hb5) hb4⟩
def sat_Add.f (a0 a1 : Int) : Option (Int × Bool) := some (bnd (wrap64 (bnd a0 + bnd a1)), (a0 != bnd a0) || (a1 != bnd a1) || (wrap64 (bnd a0 + bnd a1) != bnd (wrap64 (bnd a0 + bnd a1))))
theorem sat_Add.calls (a0 : Int) (a1 : Int) (r1 : Int) (r2 : Bool) (w : World) (h : sat_Add.f a0 a1 = some (r1, r2)) :
    Calls Try.prog 20 #[.int .i64 a0, .int .i64 a1] w fun e w' => e = .returned (.tuple #[.int .i64 r1, .bool r2]) ∧ Below w.heap.size w w' := by
  unfold sat_Add.f at h
  simp only [Option.some.injEq, Prod.mk.injEq] at h
  obtain ⟨rfl, rfl⟩ := h
  go_enter Try.func20, Try.ntmps20
  go_wp2_with (first | (go_at_call 21; refine (sat_both.calls _ _ _).mono ?_; rintro e w2 ⟨rfl, hb2⟩))
  go_ret2
  exact ⟨rfl, hb2⟩

end Go.Proofs.Ytjkbdpgeiiphoaa.PAll
