-- Written by myprint.py: the kit's print.py over this seat's translation, with contracts of my own.
import Derived.Test.YtdlmnaoaninkaaaPAllx0
import Derived.Test.YtdlmnaoaninkaaaPAllx4
import Derived.Test.YtdlmnaoaninkaaaPAllx8
import Derived.Test.YtdlmnaoaninkaaaPAllx11
namespace Go.Proofs.Ytdlmnaoaninkaaa.PAll
open Go.RowKit Go.Proofs.YtdlmnaoaninkaaaW.PrintWords Go.Proofs.YtdlmnaoaninkaaaW.PrintLast Go.Proofs.YtdlmnaoaninkaaaW.PrintMore
attribute [local go_sem] max2_int min2_int max_two min_two max_three min_three max_four min_four   -- for this text's walks alone
set_option linter.unusedVariables false
set_option linter.unusedSimpArgs false

/-! ### paternosterlaw01_OctetGets: function 4 -/
mutual
def paternosterlaw01_OctetGets.j0 : Nat → List Int → List Int → Bool → Option (Bool)
  | 0, _, _, _ => none
  | k + 1, x6, x8, x39 => if x39 = true then (some false) else (paternosterlaw01_OctetGets.l0 k x6 x8 0)
def paternosterlaw01_OctetGets.l0 : Nat → List Int → List Int → Int → Option (Bool)
  | 0, _, _, _ => none
  | k + 1, x6, x8, x10 => if x10 < (x6.length : Int) then (if 0 ≤ x10 then (if x10 < (x8.length : Int) then (if (rd x6 x10) = (rd x8 x10) then (paternosterlaw01_OctetGets.l0 k x6 x8 (wrap64 (x10 + 1))) else (some false)) else (none)) else (none)) else (some true)
end
def paternosterlaw01_OctetGets.f (k : Nat) (a0 : Int) (l1 : List Int) : Option (Bool) := (paternosterlaw01_awake.f).bind fun t138 => (if t138 = true then (if (l1.length : Int) > 300 then (some true) else ((octet_Get.f a0 l1).bind fun bt139 => ((paternosterref01_Get.f k a0 (strOfNums l1)).bind fun bt143 => (if (bt139.1.length : Int) = (bt143.1.length : Int) then (paternosterlaw01_OctetGets.j0 k bt139.1 bt143.1 (bt139.2 != bt143.2)) else (paternosterlaw01_OctetGets.j0 k bt139.1 bt143.1 true))))) else (some false))
theorem paternosterlaw01_OctetGets.mono_l : ∀ k, (∀ y0 y1 y2, LeO (paternosterlaw01_OctetGets.j0 k y0 y1 y2) (paternosterlaw01_OctetGets.j0 (k + 1) y0 y1 y2)) ∧ (∀ y0 y1 y2, LeO (paternosterlaw01_OctetGets.l0 k y0 y1 y2) (paternosterlaw01_OctetGets.l0 (k + 1) y0 y1 y2))
  | 0 => ⟨fun _ _ _ r h => by simp [paternosterlaw01_OctetGets.j0] at h, fun _ _ _ r h => by simp [paternosterlaw01_OctetGets.l0] at h⟩
  | k + 1 => by
    obtain ⟨ih0, ih1⟩ := paternosterlaw01_OctetGets.mono_l k
    refine ⟨?_, ?_⟩
    · intro y0 y1 y2
      unfold paternosterlaw01_OctetGets.j0
      repeat' first
      | (with_reducible exact ih0 _ _ _)
      | (with_reducible exact ih1 _ _ _)
      | (with_reducible exact paternosterref01_Get.mono _ _ _)
      | (with_reducible exact LeO.refl _)
      | (with_reducible exact LeO.none _)
      | (with_reducible refine LeO.ite ?_ ?_)
      | (with_reducible refine LeO.bind ?_ (fun _ => ?_))
      | exact ih0 _ _ _
      | exact ih1 _ _ _
      | exact paternosterref01_Get.mono _ _ _
      | exact LeO.none _
      | refine LeO.ite ?_ ?_
      | refine LeO.bind ?_ (fun _ => ?_)
    · intro y0 y1 y2
      unfold paternosterlaw01_OctetGets.l0
      repeat' first
      | (with_reducible exact ih0 _ _ _)
      | (with_reducible exact ih1 _ _ _)
      | (with_reducible exact paternosterref01_Get.mono _ _ _)
      | (with_reducible exact LeO.refl _)
      | (with_reducible exact LeO.none _)
      | (with_reducible refine LeO.ite ?_ ?_)
      | (with_reducible refine LeO.bind ?_ (fun _ => ?_))
      | exact ih0 _ _ _
      | exact ih1 _ _ _
      | exact paternosterref01_Get.mono _ _ _
      | exact LeO.none _
      | refine LeO.ite ?_ ?_
      | refine LeO.bind ?_ (fun _ => ?_)
theorem paternosterlaw01_OctetGets.mono : ∀ a0 a1 k, LeO (paternosterlaw01_OctetGets.f k a0 a1) (paternosterlaw01_OctetGets.f (k + 1) a0 a1) := by
  intro a0 a1 k
  obtain ⟨ih0, ih1⟩ := paternosterlaw01_OctetGets.mono_l k
  unfold paternosterlaw01_OctetGets.f
  repeat' first
      | (with_reducible exact ih0 _ _ _)
      | (with_reducible exact ih1 _ _ _)
      | (with_reducible exact paternosterref01_Get.mono _ _ _)
      | (with_reducible exact LeO.refl _)
      | (with_reducible exact LeO.none _)
      | (with_reducible refine LeO.ite ?_ ?_)
      | (with_reducible refine LeO.bind ?_ (fun _ => ?_))
      | exact ih0 _ _ _
      | exact ih1 _ _ _
      | exact paternosterref01_Get.mono _ _ _
      | exact LeO.none _
      | refine LeO.ite ?_ ?_
      | refine LeO.bind ?_ (fun _ => ?_)
set_option maxHeartbeats 8000000 in
set_option maxRecDepth 100000 in
theorem paternosterlaw01_OctetGets.calls (k : Nat) (a0 : Int) (A1 : Option Addr) (c1 : Nat) (l1 : List Int) (r : Bool) (w : World) (hr1 : Kd.C (Kd.int .u8) w A1 l1.length l1) (hc1 : l1.length ≤ c1) (h : paternosterlaw01_OctetGets.f k a0 l1 = some r) :
    Calls Try.prog 4 #[.int .i64 a0, .slice A1 l1.length c1] w fun e w' => e = .returned (.bool r) ∧ Below w.heap.size w w' := by
  have HR1 := Aside0.mk hr1
  have HC1 := Aside0.mk hc1
  clear hr1 hc1
  have HB := Aside0.mk (Below.refl w.heap.size w)
  have H : ((paternosterlaw01_awake.f).bind fun t138 => (if t138 = true then (if (l1.length : Int) > 300 then (some true) else ((octet_Get.f a0 l1).bind fun bt139 => ((paternosterref01_Get.f k a0 (strOfNums l1)).bind fun bt143 => (if (bt139.1.length : Int) = (bt143.1.length : Int) then (paternosterlaw01_OctetGets.j0 k bt139.1 bt143.1 (bt139.2 != bt143.2)) else (paternosterlaw01_OctetGets.j0 k bt139.1 bt143.1 true))))) else (some false))) = some r := h
  clear h
  replace H := Option.bind_eq_some_iff.mp H
  obtain ⟨t138, A30, H⟩ := H
  replace H : (if t138 = true then (if (l1.length : Int) > 300 then (some true) else ((octet_Get.f a0 l1).bind fun bt139 => ((paternosterref01_Get.f k a0 (strOfNums l1)).bind fun bt143 => (if (bt139.1.length : Int) = (bt143.1.length : Int) then (paternosterlaw01_OctetGets.j0 k bt139.1 bt143.1 (bt139.2 != bt143.2)) else (paternosterlaw01_OctetGets.j0 k bt139.1 bt143.1 true))))) else (some false)) = some r := H
  have A3 := Aside0.mk A30
  clear A30
  by_cases c4 : t138 = true
  · subst c4
    have H1 : (if (l1.length : Int) > 300 then (some true) else ((octet_Get.f a0 l1).bind fun bt139 => ((paternosterref01_Get.f k a0 (strOfNums l1)).bind fun bt143 => (if (bt139.1.length : Int) = (bt143.1.length : Int) then (paternosterlaw01_OctetGets.j0 k bt139.1 bt143.1 (bt139.2 != bt143.2)) else (paternosterlaw01_OctetGets.j0 k bt139.1 bt143.1 true))))) = some r := by rw [if_pos rfl] at H; exact H
    clear H
    have H := H1
    clear H1
    by_cases c5 : (l1.length : Int) > 300
    · rw [if_pos c5] at H
      have c5b0 : decide (300 < (l1.length : Int)) = true := decide_eq_true c5
      have c5b1 : decide (300 < l1.length) = true := decide_eq_true (by omega)
      clear c5
      obtain rfl := Option.some.inj H
      go_enter Try.func4, Try.ntmps4
      go_wp2_with (first | (go_at_call 12; (with_reducible refine (paternosterlaw01_awake.calls  true _ A3.out).mono ?_); rintro e w6 ⟨rfl, hb⟩; have n0_ := Aside0.mk (below_step (by repeat (first | (with_reducible first | exact HB.out | apply below_alloc | apply pw_below_drewN | apply below_drew1) | exact HB.out)) hb); clear HB; have HB := n0_; clear n0_; (try clear hb); (try clear hb2); (try clear hk); (try clear hi)))
      repeat (go_quiet (first | (go_at_call 12; (with_reducible refine (paternosterlaw01_awake.calls  true _ A3.out).mono ?_); rintro e w6 ⟨rfl, hb⟩; have n0_ := Aside0.mk (below_step (by repeat (first | (with_reducible first | exact HB.out | apply below_alloc | apply pw_below_drewN | apply below_drew1) | exact HB.out)) hb); clear HB; have HB := n0_; clear n0_; (try clear hb); (try clear hb2); (try clear hk); (try clear hi))); try go_wp2_with (first | (go_at_call 12; (with_reducible refine (paternosterlaw01_awake.calls  true _ A3.out).mono ?_); rintro e w6 ⟨rfl, hb⟩; have n0_ := Aside0.mk (below_step (by repeat (first | (with_reducible first | exact HB.out | apply below_alloc | apply pw_below_drewN | apply below_drew1) | exact HB.out)) hb); clear HB; have HB := n0_; clear n0_; (try clear hb); (try clear hb2); (try clear hk); (try clear hi))))
      go_ret
      exact ⟨by first | rfl | (simp [errW_none, errW_some] <;> rfl) | (simp [*, errW_none, errW_some] <;> rfl), by repeat (first | (with_reducible first | exact HB.out | apply below_alloc | apply pw_below_drewN | apply below_drew1) | exact HB.out)⟩
    · rw [if_neg c5] at H
      have c5b0 : decide (300 < (l1.length : Int)) = false := decide_eq_false c5
      have c5b1 : decide (300 < l1.length) = false := decide_eq_false (by omega)
      clear c5
      replace H := Option.bind_eq_some_iff.mp H
      obtain ⟨⟨t139, t140⟩, A70, H⟩ := H
      replace H : ((paternosterref01_Get.f k a0 (strOfNums l1)).bind fun bt143 => (if (t139.length : Int) = (bt143.1.length : Int) then (paternosterlaw01_OctetGets.j0 k t139 bt143.1 (t140 != bt143.2)) else (paternosterlaw01_OctetGets.j0 k t139 bt143.1 true))) = some r := H
      have A7 := Aside0.mk A70
      clear A70
      replace H := Option.bind_eq_some_iff.mp H
      obtain ⟨⟨t143, t144⟩, A80, H⟩ := H
      replace H : (if (t139.length : Int) = (t143.length : Int) then (paternosterlaw01_OctetGets.j0 k t139 t143 (t140 != t144)) else (paternosterlaw01_OctetGets.j0 k t139 t143 true)) = some r := H
      have A8 := Aside0.mk A80
      clear A80
      have HC9 := Aside0.mk H
      clear H
      go_enter Try.func4, Try.ntmps4
      go_upto_region 8 with (first | (go_at_call 12; (with_reducible refine (paternosterlaw01_awake.calls  true _ A3.out).mono ?_); rintro e w10 ⟨rfl, hb⟩; have n0_ := Aside0.mk (below_step (by repeat (first | (with_reducible first | exact HB.out | apply below_alloc | apply pw_below_drewN | apply below_drew1) | exact HB.out)) hb); clear HB; have HB := n0_; clear n0_; (try clear hb); (try clear hb2); (try clear hk); (try clear hi)) | (go_at_call 15; (with_reducible refine (octet_Get.calls a0 _ _ l1 t139 t140 _ ?side1 ?side2 A7.out).mono ?_); (case side1 => repeat (first | exact (Kd.C_below HR1.out HB.out) | (with_reducible refine Kd.C_alloc ?_ _) | (with_reducible refine Kd.C_drewN ?_ _) | (with_reducible refine Kd.C_drew ?_))); (case side2 => exact HC1.out); rintro e w11 ⟨v141, rfl, ho0, hb⟩; have n0_ := Aside0.mk (Kd.R_lower ho0 (below_size (by repeat (first | (with_reducible first | exact HB.out | apply below_alloc | apply pw_below_drewN | apply below_drew1) | exact HB.out)))); have n1_ := Aside0.mk (below_step (by repeat (first | (with_reducible first | exact HB.out | apply below_alloc | apply pw_below_drewN | apply below_drew1) | exact HB.out)) hb); clear HB; have HO142 := n0_; have HB := n1_; clear n0_ n1_; (try clear hb); (try clear hb2); (try clear hk); (try clear hi); (try clear ho0); have hcv12 := Kd.C_string (P := Try.prog) (A := A1) (c := c1) Try.underlying26 Try.underlying5 Try.underlying9 (Kd.C_below HR1.out HB.out)) | (go_at_call 16; (with_reducible refine (paternosterref01_Get.calls k a0 (strOfNums l1) t143 t144 _ A8.out).mono ?_); rintro e w13 ⟨v145, rfl, ho0, hb⟩; have n0_ := Aside0.mk (Kd.R_elder' (by (with_reducible repeat (first | apply Kd.R_alloc | apply Kd.R_drewN | apply Kd.R_drew)); exact HO142.out) (Kd.R_base ho0) hb); have n1_ := Aside0.mk (Kd.R_lower (Kd.R_new' ho0 (Kd.R_lt (by (with_reducible repeat (first | apply Kd.R_alloc | apply Kd.R_drewN | apply Kd.R_drew)); exact HO142.out))) (below_size (by repeat (first | (with_reducible first | exact HB.out | apply below_alloc | apply pw_below_drewN | apply below_drew1) | exact HB.out)))); have n2_ := Aside0.mk (below_step (by repeat (first | (with_reducible first | exact HB.out | apply below_alloc | apply pw_below_drewN | apply below_drew1) | exact HB.out)) hb); clear HO142; clear HB; have HO142 := n0_; have HO146 := n1_; have HB := n2_; clear n0_ n1_ n2_; (try clear hb); (try clear hb2); (try clear hk); (try clear hi); (try clear ho0)))
      repeat (go_quiet (first | (go_at_call 12; (with_reducible refine (paternosterlaw01_awake.calls  true _ A3.out).mono ?_); rintro e w10 ⟨rfl, hb⟩; have n0_ := Aside0.mk (below_step (by repeat (first | (with_reducible first | exact HB.out | apply below_alloc | apply pw_below_drewN | apply below_drew1) | exact HB.out)) hb); clear HB; have HB := n0_; clear n0_; (try clear hb); (try clear hb2); (try clear hk); (try clear hi)) | (go_at_call 15; (with_reducible refine (octet_Get.calls a0 _ _ l1 t139 t140 _ ?side1 ?side2 A7.out).mono ?_); (case side1 => repeat (first | exact (Kd.C_below HR1.out HB.out) | (with_reducible refine Kd.C_alloc ?_ _) | (with_reducible refine Kd.C_drewN ?_ _) | (with_reducible refine Kd.C_drew ?_))); (case side2 => exact HC1.out); rintro e w11 ⟨v141, rfl, ho0, hb⟩; have n0_ := Aside0.mk (Kd.R_lower ho0 (below_size (by repeat (first | (with_reducible first | exact HB.out | apply below_alloc | apply pw_below_drewN | apply below_drew1) | exact HB.out)))); have n1_ := Aside0.mk (below_step (by repeat (first | (with_reducible first | exact HB.out | apply below_alloc | apply pw_below_drewN | apply below_drew1) | exact HB.out)) hb); clear HB; have HO142 := n0_; have HB := n1_; clear n0_ n1_; (try clear hb); (try clear hb2); (try clear hk); (try clear hi); (try clear ho0); have hcv12 := Kd.C_string (P := Try.prog) (A := A1) (c := c1) Try.underlying26 Try.underlying5 Try.underlying9 (Kd.C_below HR1.out HB.out)) | (go_at_call 16; (with_reducible refine (paternosterref01_Get.calls k a0 (strOfNums l1) t143 t144 _ A8.out).mono ?_); rintro e w13 ⟨v145, rfl, ho0, hb⟩; have n0_ := Aside0.mk (Kd.R_elder' (by (with_reducible repeat (first | apply Kd.R_alloc | apply Kd.R_drewN | apply Kd.R_drew)); exact HO142.out) (Kd.R_base ho0) hb); have n1_ := Aside0.mk (Kd.R_lower (Kd.R_new' ho0 (Kd.R_lt (by (with_reducible repeat (first | apply Kd.R_alloc | apply Kd.R_drewN | apply Kd.R_drew)); exact HO142.out))) (below_size (by repeat (first | (with_reducible first | exact HB.out | apply below_alloc | apply pw_below_drewN | apply below_drew1) | exact HB.out)))); have n2_ := Aside0.mk (below_step (by repeat (first | (with_reducible first | exact HB.out | apply below_alloc | apply pw_below_drewN | apply below_drew1) | exact HB.out)) hb); clear HO142; clear HB; have HO142 := n0_; have HO146 := n1_; have HB := n2_; clear n0_ n1_ n2_; (try clear hb); (try clear hb2); (try clear hk); (try clear hi); (try clear ho0))); go_upto_region 8 with (first | (go_at_call 12; (with_reducible refine (paternosterlaw01_awake.calls  true _ A3.out).mono ?_); rintro e w10 ⟨rfl, hb⟩; have n0_ := Aside0.mk (below_step (by repeat (first | (with_reducible first | exact HB.out | apply below_alloc | apply pw_below_drewN | apply below_drew1) | exact HB.out)) hb); clear HB; have HB := n0_; clear n0_; (try clear hb); (try clear hb2); (try clear hk); (try clear hi)) | (go_at_call 15; (with_reducible refine (octet_Get.calls a0 _ _ l1 t139 t140 _ ?side1 ?side2 A7.out).mono ?_); (case side1 => repeat (first | exact (Kd.C_below HR1.out HB.out) | (with_reducible refine Kd.C_alloc ?_ _) | (with_reducible refine Kd.C_drewN ?_ _) | (with_reducible refine Kd.C_drew ?_))); (case side2 => exact HC1.out); rintro e w11 ⟨v141, rfl, ho0, hb⟩; have n0_ := Aside0.mk (Kd.R_lower ho0 (below_size (by repeat (first | (with_reducible first | exact HB.out | apply below_alloc | apply pw_below_drewN | apply below_drew1) | exact HB.out)))); have n1_ := Aside0.mk (below_step (by repeat (first | (with_reducible first | exact HB.out | apply below_alloc | apply pw_below_drewN | apply below_drew1) | exact HB.out)) hb); clear HB; have HO142 := n0_; have HB := n1_; clear n0_ n1_; (try clear hb); (try clear hb2); (try clear hk); (try clear hi); (try clear ho0); have hcv12 := Kd.C_string (P := Try.prog) (A := A1) (c := c1) Try.underlying26 Try.underlying5 Try.underlying9 (Kd.C_below HR1.out HB.out)) | (go_at_call 16; (with_reducible refine (paternosterref01_Get.calls k a0 (strOfNums l1) t143 t144 _ A8.out).mono ?_); rintro e w13 ⟨v145, rfl, ho0, hb⟩; have n0_ := Aside0.mk (Kd.R_elder' (by (with_reducible repeat (first | apply Kd.R_alloc | apply Kd.R_drewN | apply Kd.R_drew)); exact HO142.out) (Kd.R_base ho0) hb); have n1_ := Aside0.mk (Kd.R_lower (Kd.R_new' ho0 (Kd.R_lt (by (with_reducible repeat (first | apply Kd.R_alloc | apply Kd.R_drewN | apply Kd.R_drew)); exact HO142.out))) (below_size (by repeat (first | (with_reducible first | exact HB.out | apply below_alloc | apply pw_below_drewN | apply below_drew1) | exact HB.out)))); have n2_ := Aside0.mk (below_step (by repeat (first | (with_reducible first | exact HB.out | apply below_alloc | apply pw_below_drewN | apply below_drew1) | exact HB.out)) hb); clear HO142; clear HB; have HO142 := n0_; have HO146 := n1_; have HB := n2_; clear n0_ n1_ n2_; (try clear hb); (try clear hb2); (try clear hk); (try clear hi); (try clear ho0))))
      (try simp only [Act.put, List.setIfInBounds_toArray, List.set_cons_zero, List.set_cons_succ])
      go_cut [39] (fun v39 wc => ∃ (kq : Nat) (x39_8 : Bool), v39 = .bool x39_8 ∧ Aside0 (paternosterlaw01_OctetGets.j0 kq t139 t143 x39_8 = some r) ∧ Aside0 (kq ≤ k) ∧ Aside0 (Kd.R (Kd.int .u64) 25 wc w.heap.size (fun k_ => some k_ ≠ (v145 : Value).ownBlock) v141 t139) ∧ Aside0 (Kd.R (Kd.int .u64) 25 wc w.heap.size (fun k_ => some k_ ≠ (v141 : Value).ownBlock) v145 t143) ∧ Aside0 (Below w.heap.size w wc))
      case first =>
        have H := HC9.out
        clear HC9
        by_cases c14 : (t139.length : Int) = (t143.length : Int)
        · rw [if_pos c14] at H
          have c14b0 : ((t139.length : Int) == (t143.length : Int)) = true := beq_iff_eq.mpr c14
          have c14b1 : ((t139.length : Int) != (t143.length : Int)) = false := bne_eq_false_iff_eq.mpr c14
          have c14b2 : (t139.length == t143.length) = true := by first | simpa using c14 | (simp at c14 ⊢; omega)
          clear c14
          (first | rw [c14b0] | (simp only [i64_w, i32_w]; rw [c14b0]) | skip)
          have H' := Aside0.mk H
          clear H
          obtain ⟨Ao15, co15, eo15⟩ := Kd.R_slice HO142.out
          subst eo15
          obtain ⟨Ao16, co16, eo16⟩ := Kd.R_slice HO146.out
          subst eo16
          go_wp2
          repeat (go_quiet (fail); try go_wp2)
          go_meet
          case rel => exact ⟨_, ((t140 != t144)), (by first | rfl | (simp; done) | (simp [*]; done)), H', ⟨by first | omega | exact Nat.le_refl _⟩, ⟨by (with_reducible repeat (first | apply Kd.R_alloc | apply Kd.R_drewN | apply Kd.R_drew)); exact Kd.R_mono HO142.out (fun _ hk => hk.2)⟩, ⟨by (with_reducible repeat (first | apply Kd.R_alloc | apply Kd.R_drewN | apply Kd.R_drew)); exact Kd.R_mono HO146.out (fun _ hk => hk.2)⟩, ⟨by repeat (first | (with_reducible first | exact HB.out | apply below_alloc | apply pw_below_drewN | apply below_drew1) | exact HB.out)⟩⟩
        · rw [if_neg c14] at H
          have c14b0 : ((t139.length : Int) == (t143.length : Int)) = false := beq_eq_false_iff_ne.mpr c14
          have c14b1 : ((t139.length : Int) != (t143.length : Int)) = true := bne_iff_ne.mpr c14
          have c14b2 : (t139.length == t143.length) = false := by first | simpa using c14 | (simp at c14 ⊢; omega)
          (first | rw [c14b0] | (simp only [i64_w, i32_w]; rw [c14b0]) | skip)
          have H' := Aside0.mk H
          clear H
          obtain ⟨Ao17, co17, eo17⟩ := Kd.R_slice HO142.out
          subst eo17
          obtain ⟨Ao18, co18, eo18⟩ := Kd.R_slice HO146.out
          subst eo18
          go_wp2
          repeat (go_quiet (fail); try go_wp2)
          go_meet
          case rel => exact ⟨_, (true), (by first | rfl | (simp; done) | (simp [*]; done)), H', ⟨by first | omega | exact Nat.le_refl _⟩, ⟨by (with_reducible repeat (first | apply Kd.R_alloc | apply Kd.R_drewN | apply Kd.R_drew)); exact Kd.R_mono HO142.out (fun _ hk => hk.2)⟩, ⟨by (with_reducible repeat (first | apply Kd.R_alloc | apply Kd.R_drewN | apply Kd.R_drew)); exact Kd.R_mono HO146.out (fun _ hk => hk.2)⟩, ⟨by repeat (first | (with_reducible first | exact HB.out | apply below_alloc | apply pw_below_drewN | apply below_drew1) | exact HB.out)⟩⟩
      case rest =>
        clear HC9
        try clear c1
        try clear hcv1
        try clear p2
        try clear c4
        try clear c5
        try clear c5b0
        try clear c5b1
        try clear hcv12
        try clear c14
        try clear c14b0
        try clear c14b1
        try clear c14b2
        obtain ⟨kq, x39_8, rfl, HA, HJ8, HO_6, HO_8, HB⟩ := hcut
        cases kq with
        | zero => exact absurd HA.out (by simp [paternosterlaw01_OctetGets.j0])
        | succ kj8 =>
          have H := HA.out
          clear HA
          simp only [paternosterlaw01_OctetGets.j0] at H
          by_cases c19 : x39_8 = true
          · subst c19
            have H1 : (some false) = some r := by rw [if_pos rfl] at H; exact H
            clear H
            have H := H1
            clear H1
            obtain rfl := Option.some.inj H
            go_wp2
            repeat (go_quiet (fail); try go_wp2)
            go_ret
            exact ⟨by first | rfl | (simp [errW_none, errW_some] <;> rfl) | (simp [*, errW_none, errW_some] <;> rfl), by repeat (first | (with_reducible first | exact HB.out | apply below_alloc | apply pw_below_drewN | apply below_drew1) | exact HB.out)⟩
          · replace c19 := Bool.eq_false_iff.mpr c19
            subst c19
            have H1 : (paternosterlaw01_OctetGets.l0 kj8 t139 t143 0) = some r := by rw [if_neg (show ¬ (false = true) by decide)] at H; exact H
            clear H
            have H := H1
            clear H1
            have H' := Aside0.mk H
            clear H
            go_wp2
            repeat (go_quiet (fail); try go_wp2)
            go_loopg [10] kj8 (fun kq v10 w' => ∃ (x10_2 : Int), v10 = .int .i64 x10_2 ∧ Aside0 (paternosterlaw01_OctetGets.l0 kq t139 t143 x10_2 = some r) ∧ Aside0 (kq ≤ kj8) ∧ Aside0 (Kd.R (Kd.int .u64) 25 w' w.heap.size (fun k_ => some k_ ≠ (v145 : Value).ownBlock) v141 t139) ∧ Aside0 (Kd.R (Kd.int .u64) 25 w' w.heap.size (fun k_ => some k_ ≠ (v141 : Value).ownBlock) v145 t143) ∧ Aside0 (Below w.heap.size w w'))
            case atStart => exact ⟨(0), (by first | rfl | (simp; done) | (simp [*]; done)), H', ⟨Nat.le_refl _⟩, ⟨by (with_reducible repeat (first | apply Kd.R_alloc | apply Kd.R_drewN | apply Kd.R_drew)); exact HO_6.out⟩, ⟨by (with_reducible repeat (first | apply Kd.R_alloc | apply Kd.R_drewN | apply Kd.R_drew)); exact HO_8.out⟩, ⟨by repeat (first | (with_reducible first | exact HB.out | apply below_alloc | apply pw_below_drewN | apply below_drew1) | exact HB.out)⟩⟩
            case round =>
              clear H'
              try clear c1
              try clear hcv1
              try clear p2
              try clear c4
              try clear c5
              try clear c5b0
              try clear c5b1
              try clear hcv12
              try clear c14
              try clear c14b0
              try clear c14b1
              try clear c14b2
              try clear c19
              try clear p2
              obtain ⟨x10_2, rfl, HA, HK2, HO_6, HO_8, HB⟩ := hrel
              cases gk with
              | zero => exact absurd HA.out (by simp [paternosterlaw01_OctetGets.l0])
              | succ k2 =>
                have H := HA.out
                clear HA
                simp only [paternosterlaw01_OctetGets.l0] at H
                by_cases c20 : x10_2 < (t139.length : Int)
                · rw [if_pos c20] at H
                  have c20b0 : decide (x10_2 < (t139.length : Int)) = true := decide_eq_true c20
                  clear c20
                  by_cases c21 : 0 ≤ x10_2
                  · rw [if_pos c21] at H
                    have c21b0 : decide (0 ≤ x10_2) = true := decide_eq_true c21
                    clear c21
                    by_cases c22 : x10_2 < (t143.length : Int)
                    · rw [if_pos c22] at H
                      have c22b0 : decide (x10_2 < (t143.length : Int)) = true := decide_eq_true c22
                      clear c22
                      by_cases c23 : (rd t139 x10_2) = (rd t143 x10_2)
                      · rw [if_pos c23] at H
                        have c23b0 : ((rd t139 x10_2) == (rd t143 x10_2)) = true := beq_iff_eq.mpr c23
                        have c23b1 : ((rd t139 x10_2) != (rd t143 x10_2)) = false := bne_eq_false_iff_eq.mpr c23
                        clear c23
                        have H' := Aside0.mk H
                        clear H
                        obtain ⟨Ao24, co24, eo24⟩ := Kd.R_slice HO_6.out
                        subst eo24
                        have p147 : 0 ≤ (x10_2 : Int) := of_decide_eq_true (by first | (with_reducible assumption) | assumption)
                        have q147 : x10_2 < (t139.length : Int) := of_decide_eq_true (by first | (with_reducible assumption) | assumption)
                        obtain ⟨ad147, e147, hx147_0⟩ := Kd.at_int (Kd.R_reads' HO_6.out).2.2 x10_2 p147 q147
                        cases e147
                        replace p147 := eq_true p147
                        replace q147 := eq_true q147
                        obtain ⟨Ao25, co25, eo25⟩ := Kd.R_slice HO_8.out
                        subst eo25
                        have p148 : 0 ≤ (x10_2 : Int) := of_decide_eq_true (by first | (with_reducible assumption) | assumption)
                        have q148 : x10_2 < (t143.length : Int) := of_decide_eq_true (by first | (with_reducible assumption) | assumption)
                        obtain ⟨ad148, e148, hx148_0⟩ := Kd.at_int (Kd.R_reads' HO_8.out).2.2 x10_2 p148 q148
                        cases e148
                        replace p148 := eq_true p148
                        replace q148 := eq_true q148
                        go_wp2
                        repeat (go_quiet (fail); try go_wp2)
                        go_roundg k2
                        case measure => have := HJ8.out; have := HK2.out; omega
                        case rel => exact ⟨(wrap64 (x10_2 + 1)), (by first | rfl | (simp; done) | (simp [*]; done)), H', ⟨by have := HJ8.out; have := HK2.out; omega⟩, ⟨by (with_reducible repeat (first | apply Kd.R_alloc | apply Kd.R_drewN | apply Kd.R_drew)); exact HO_6.out⟩, ⟨by (with_reducible repeat (first | apply Kd.R_alloc | apply Kd.R_drewN | apply Kd.R_drew)); exact HO_8.out⟩, ⟨by repeat (first | (with_reducible first | exact HB.out | apply below_alloc | apply pw_below_drewN | apply below_drew1) | exact HB.out)⟩⟩
                      · rw [if_neg c23] at H
                        have c23b0 : ((rd t139 x10_2) == (rd t143 x10_2)) = false := beq_eq_false_iff_ne.mpr c23
                        have c23b1 : ((rd t139 x10_2) != (rd t143 x10_2)) = true := bne_iff_ne.mpr c23
                        obtain rfl := Option.some.inj H
                        obtain ⟨Ao26, co26, eo26⟩ := Kd.R_slice HO_6.out
                        subst eo26
                        have p147 : 0 ≤ (x10_2 : Int) := of_decide_eq_true (by first | (with_reducible assumption) | assumption)
                        have q147 : x10_2 < (t139.length : Int) := of_decide_eq_true (by first | (with_reducible assumption) | assumption)
                        obtain ⟨ad147, e147, hx147_0⟩ := Kd.at_int (Kd.R_reads' HO_6.out).2.2 x10_2 p147 q147
                        cases e147
                        replace p147 := eq_true p147
                        replace q147 := eq_true q147
                        obtain ⟨Ao27, co27, eo27⟩ := Kd.R_slice HO_8.out
                        subst eo27
                        have p148 : 0 ≤ (x10_2 : Int) := of_decide_eq_true (by first | (with_reducible assumption) | assumption)
                        have q148 : x10_2 < (t143.length : Int) := of_decide_eq_true (by first | (with_reducible assumption) | assumption)
                        obtain ⟨ad148, e148, hx148_0⟩ := Kd.at_int (Kd.R_reads' HO_8.out).2.2 x10_2 p148 q148
                        cases e148
                        replace p148 := eq_true p148
                        replace q148 := eq_true q148
                        go_wp2
                        repeat (go_quiet (fail); try go_wp2)
                        go_ret
                        exact ⟨by first | rfl | (simp [errW_none, errW_some] <;> rfl) | (simp [*, errW_none, errW_some] <;> rfl), by repeat (first | (with_reducible first | exact HB.out | apply below_alloc | apply pw_below_drewN | apply below_drew1) | exact HB.out)⟩
                    · rw [if_neg c22] at H
                      exact absurd H (by simp)
                  · rw [if_neg c21] at H
                    exact absurd H (by simp)
                · rw [if_neg c20] at H
                  have c20b0 : decide (x10_2 < (t139.length : Int)) = false := decide_eq_false c20
                  clear c20
                  obtain rfl := Option.some.inj H
                  obtain ⟨Ao28, co28, eo28⟩ := Kd.R_slice HO_6.out
                  subst eo28
                  go_wp2
                  repeat (go_quiet (fail); try go_wp2)
                  go_ret
                  exact ⟨by first | rfl | (simp [errW_none, errW_some] <;> rfl) | (simp [*, errW_none, errW_some] <;> rfl), by repeat (first | (with_reducible first | exact HB.out | apply below_alloc | apply pw_below_drewN | apply below_drew1) | exact HB.out)⟩
  · replace c4 := Bool.eq_false_iff.mpr c4
    subst c4
    have H1 : (some false) = some r := by rw [if_neg (show ¬ (false = true) by decide)] at H; exact H
    clear H
    have H := H1
    clear H1
    obtain rfl := Option.some.inj H
    go_enter Try.func4, Try.ntmps4
    go_wp2_with (first | (go_at_call 12; (with_reducible refine (paternosterlaw01_awake.calls  false _ A3.out).mono ?_); rintro e w29 ⟨rfl, hb⟩; have n0_ := Aside0.mk (below_step (by repeat (first | (with_reducible first | exact HB.out | apply below_alloc | apply pw_below_drewN | apply below_drew1) | exact HB.out)) hb); clear HB; have HB := n0_; clear n0_; (try clear hb); (try clear hb2); (try clear hk); (try clear hi)))
    repeat (go_quiet (first | (go_at_call 12; (with_reducible refine (paternosterlaw01_awake.calls  false _ A3.out).mono ?_); rintro e w29 ⟨rfl, hb⟩; have n0_ := Aside0.mk (below_step (by repeat (first | (with_reducible first | exact HB.out | apply below_alloc | apply pw_below_drewN | apply below_drew1) | exact HB.out)) hb); clear HB; have HB := n0_; clear n0_; (try clear hb); (try clear hb2); (try clear hk); (try clear hi))); try go_wp2_with (first | (go_at_call 12; (with_reducible refine (paternosterlaw01_awake.calls  false _ A3.out).mono ?_); rintro e w29 ⟨rfl, hb⟩; have n0_ := Aside0.mk (below_step (by repeat (first | (with_reducible first | exact HB.out | apply below_alloc | apply pw_below_drewN | apply below_drew1) | exact HB.out)) hb); clear HB; have HB := n0_; clear n0_; (try clear hb); (try clear hb2); (try clear hk); (try clear hi))))
    go_ret
    exact ⟨by first | rfl | (simp [errW_none, errW_some] <;> rfl) | (simp [*, errW_none, errW_some] <;> rfl), by repeat (first | (with_reducible first | exact HB.out | apply below_alloc | apply pw_below_drewN | apply below_drew1) | exact HB.out)⟩

/-- THE ONE PURE STATEMENT of paternosterlaw01_OctetGets: yours. -/
def paternosterlaw01_OctetGets.Pure : Prop := ∀ (a0 : Int) (l1 : List Int), (Lit.int .i64 a0).wf = true → l1.length ≤ maxLen → l1.length * 1 ≤ 140737488351232 → (∀ x ∈ l1, (Lit.int .u8 x).wf = true) → ∃ k, paternosterlaw01_OctetGets.f k a0 l1 = some true
theorem paternosterlaw01_OctetGets.walk (P : paternosterlaw01_OctetGets.Pure) (a0 : Int) (a1 : Option Addr) (len1 cap1 : Nat) (z1 : List Int) (w : World) (w0 : (Lit.int .i64 a0).wf = true) (w1 : (a1 = none ∧ len1 = 0 ∧ cap1 = 0 ∧ z1 = []) ∨ ∃ x, a1 = some x ∧ len1 ≤ cap1 ∧ cap1 ≤ maxLen ∧ z1.length = cap1 ∧ (∀ i, i < z1.length → w.cell? (x.add i) = some (.int .u8 (z1.getD i 0))) ∧ ∀ n ∈ z1, (Lit.int .u8 n).wf = true) (y1 : len1 * 1 ≤ 140737488351232) :
    Calls Try.prog 4 #[.int .i64 a0, .slice a1 len1 cap1] w fun e w' => e = .returned (.bool true) ∧ Below w.heap.size w w' := by
  obtain ⟨l1, rfl, hr1, hm1, hw1, hc1⟩ := ReadsInt.ofRowC w1
  obtain ⟨k, h⟩ := P a0 l1 w0 hm1 y1 hw1
  refine (paternosterlaw01_OctetGets.calls k a0 _ _ l1 true w (Kd.C_of_reads (d := (0 : Int)) (h1 := fun _ => rfl) hr1) hc1 h).mono ?_
  rintro e w' ⟨rfl, hd⟩
  exact ⟨rfl, hd⟩

end Go.Proofs.Ytdlmnaoaninkaaa.PAll
