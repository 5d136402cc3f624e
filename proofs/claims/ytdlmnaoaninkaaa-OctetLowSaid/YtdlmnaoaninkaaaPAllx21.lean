-- Written by myprint.py: the kit's print.py over this seat's translation, with contracts of my own.
import Derived.Test.YtdlmnaoaninkaaaPAllx0
import Derived.Test.YtdlmnaoaninkaaaPAllx2
import Derived.Test.YtdlmnaoaninkaaaPAllx4
import Derived.Test.YtdlmnaoaninkaaaPAllx8
namespace Go.Proofs.Ytdlmnaoaninkaaa.PAll
open Go.RowKit Go.Proofs.YtdlmnaoaninkaaaW.PrintWords Go.Proofs.YtdlmnaoaninkaaaW.PrintLast Go.Proofs.YtdlmnaoaninkaaaW.PrintMore
attribute [local go_sem] max2_int min2_int max_two min_two max_three min_three max_four min_four   -- for this text's walks alone
set_option linter.unusedVariables false
set_option linter.unusedSimpArgs false

/-! ### paternosterlaw01_OctetLow: function 11 -/
mutual
def paternosterlaw01_OctetLow.l0 : Nat → Int → List Int → Int → Int → Int → Option (Bool)
  | 0, _, _, _, _, _ => none
  | k + 1, x6, x7, x8, x9, x10 => if x10 < 8 then (paternosterlaw01_OctetLow.l0 k x6 x7 x8 (IntKind.u64.wrap (x9 * 256)) (wrap64 (x10 + 1))) else (paternosterlaw01_OctetLow.l1 k x7 x8 x9 x6)
def paternosterlaw01_OctetLow.l1 : Nat → List Int → Int → Int → Int → Option (Bool)
  | 0, _, _, _, _ => none
  | k + 1, x7, x8, x9, x11 => if x11 < 8 then (paternosterlaw01_OctetLow.l1 k x7 x8 (x9 / 256) (wrap64 (x11 + 1))) else (if x8 = 0 then (if (x7.length : Int) = 1 then (if 0 < (x7.length : Int) then (some ((rd x7 0) == x9)) else (none)) else (some false)) else (some false))
end
def paternosterlaw01_OctetLow.f (k : Nat) (a0 : Int) (a1 : Int) : Option (Bool) := (paternosterlaw01_awake.f).bind fun t249 => (if t249 = true then ((octet_Put.f k (wrap64 ((wrap64 (Int.tmod a0 7)) + 1)) (([a1] : List Int))).bind fun t253 => ((octet_Get.f (wrap64 ((wrap64 (Int.tmod a0 7)) + 1)) t253).bind fun bt256 => (paternosterlaw01_OctetLow.l0 k (wrap64 ((wrap64 (Int.tmod a0 7)) + 1)) bt256.1 bt256.2 a1 (wrap64 ((wrap64 (Int.tmod a0 7)) + 1))))) else (some false))
theorem paternosterlaw01_OctetLow.mono_l : ∀ k, (∀ y0 y1 y2 y3 y4, LeO (paternosterlaw01_OctetLow.l0 k y0 y1 y2 y3 y4) (paternosterlaw01_OctetLow.l0 (k + 1) y0 y1 y2 y3 y4)) ∧ (∀ y0 y1 y2 y3, LeO (paternosterlaw01_OctetLow.l1 k y0 y1 y2 y3) (paternosterlaw01_OctetLow.l1 (k + 1) y0 y1 y2 y3))
  | 0 => ⟨fun _ _ _ _ _ r h => by simp [paternosterlaw01_OctetLow.l0] at h, fun _ _ _ _ r h => by simp [paternosterlaw01_OctetLow.l1] at h⟩
  | k + 1 => by
    obtain ⟨ih0, ih1⟩ := paternosterlaw01_OctetLow.mono_l k
    refine ⟨?_, ?_⟩
    · intro y0 y1 y2 y3 y4
      unfold paternosterlaw01_OctetLow.l0
      repeat' first
      | (with_reducible exact ih0 _ _ _ _ _)
      | (with_reducible exact ih1 _ _ _ _)
      | (with_reducible exact octet_Put.mono _ _ _)
      | (with_reducible exact LeO.refl _)
      | (with_reducible exact LeO.none _)
      | (with_reducible refine LeO.ite ?_ ?_)
      | (with_reducible refine LeO.bind ?_ (fun _ => ?_))
      | exact ih0 _ _ _ _ _
      | exact ih1 _ _ _ _
      | exact octet_Put.mono _ _ _
      | exact LeO.none _
      | refine LeO.ite ?_ ?_
      | refine LeO.bind ?_ (fun _ => ?_)
    · intro y0 y1 y2 y3
      unfold paternosterlaw01_OctetLow.l1
      repeat' first
      | (with_reducible exact ih0 _ _ _ _ _)
      | (with_reducible exact ih1 _ _ _ _)
      | (with_reducible exact octet_Put.mono _ _ _)
      | (with_reducible exact LeO.refl _)
      | (with_reducible exact LeO.none _)
      | (with_reducible refine LeO.ite ?_ ?_)
      | (with_reducible refine LeO.bind ?_ (fun _ => ?_))
      | exact ih0 _ _ _ _ _
      | exact ih1 _ _ _ _
      | exact octet_Put.mono _ _ _
      | exact LeO.none _
      | refine LeO.ite ?_ ?_
      | refine LeO.bind ?_ (fun _ => ?_)
theorem paternosterlaw01_OctetLow.mono : ∀ a0 a1 k, LeO (paternosterlaw01_OctetLow.f k a0 a1) (paternosterlaw01_OctetLow.f (k + 1) a0 a1) := by
  intro a0 a1 k
  obtain ⟨ih0, ih1⟩ := paternosterlaw01_OctetLow.mono_l k
  unfold paternosterlaw01_OctetLow.f
  repeat' first
      | (with_reducible exact ih0 _ _ _ _ _)
      | (with_reducible exact ih1 _ _ _ _)
      | (with_reducible exact octet_Put.mono _ _ _)
      | (with_reducible exact LeO.refl _)
      | (with_reducible exact LeO.none _)
      | (with_reducible refine LeO.ite ?_ ?_)
      | (with_reducible refine LeO.bind ?_ (fun _ => ?_))
      | exact ih0 _ _ _ _ _
      | exact ih1 _ _ _ _
      | exact octet_Put.mono _ _ _
      | exact LeO.none _
      | refine LeO.ite ?_ ?_
      | refine LeO.bind ?_ (fun _ => ?_)
set_option maxHeartbeats 8000000 in
set_option maxRecDepth 100000 in
theorem paternosterlaw01_OctetLow.calls (k : Nat) (a0 : Int) (a1 : Int) (r : Bool) (w : World) (h : paternosterlaw01_OctetLow.f k a0 a1 = some r) :
    Calls Try.prog 11 #[.int .u8 a0, .int .u64 a1] w fun e w' => e = .returned (.bool r) ∧ Below w.heap.size w w' := by
  have HB := Aside0.mk (Below.refl w.heap.size w)
  have H : ((paternosterlaw01_awake.f).bind fun t249 => (if t249 = true then ((octet_Put.f k (wrap64 ((wrap64 (Int.tmod a0 7)) + 1)) (([a1] : List Int))).bind fun t253 => ((octet_Get.f (wrap64 ((wrap64 (Int.tmod a0 7)) + 1)) t253).bind fun bt256 => (paternosterlaw01_OctetLow.l0 k (wrap64 ((wrap64 (Int.tmod a0 7)) + 1)) bt256.1 bt256.2 a1 (wrap64 ((wrap64 (Int.tmod a0 7)) + 1))))) else (some false))) = some r := h
  clear h
  replace H := Option.bind_eq_some_iff.mp H
  obtain ⟨t249, A30, H⟩ := H
  replace H : (if t249 = true then ((octet_Put.f k (wrap64 ((wrap64 (Int.tmod a0 7)) + 1)) (([a1] : List Int))).bind fun t253 => ((octet_Get.f (wrap64 ((wrap64 (Int.tmod a0 7)) + 1)) t253).bind fun bt256 => (paternosterlaw01_OctetLow.l0 k (wrap64 ((wrap64 (Int.tmod a0 7)) + 1)) bt256.1 bt256.2 a1 (wrap64 ((wrap64 (Int.tmod a0 7)) + 1))))) else (some false)) = some r := H
  have A3 := Aside0.mk A30
  clear A30
  by_cases c4 : t249 = true
  · subst c4
    have H1 : ((octet_Put.f k (wrap64 ((wrap64 (Int.tmod a0 7)) + 1)) (([a1] : List Int))).bind fun t253 => ((octet_Get.f (wrap64 ((wrap64 (Int.tmod a0 7)) + 1)) t253).bind fun bt256 => (paternosterlaw01_OctetLow.l0 k (wrap64 ((wrap64 (Int.tmod a0 7)) + 1)) bt256.1 bt256.2 a1 (wrap64 ((wrap64 (Int.tmod a0 7)) + 1))))) = some r := by rw [if_pos rfl] at H; exact H
    clear H
    have H := H1
    clear H1
    obtain ⟨y250, hy250⟩ : ∃ y_ : List Int, y_ = (([a1] : List Int)) := ⟨_, rfl⟩
    replace H : ((octet_Put.f k (wrap64 ((wrap64 (Int.tmod a0 7)) + 1)) y250).bind fun t253 => ((octet_Get.f (wrap64 ((wrap64 (Int.tmod a0 7)) + 1)) t253).bind fun bt256 => (paternosterlaw01_OctetLow.l0 k (wrap64 ((wrap64 (Int.tmod a0 7)) + 1)) bt256.1 bt256.2 a1 (wrap64 ((wrap64 (Int.tmod a0 7)) + 1))))) = some r := by first | (rw [hy250]; with_reducible exact H) | (have H2_ := (Option.bind_some _ _).symm.trans H; rw [hy250]; with_reducible exact H2_) | (have H2_ := (Option.bind_some _ _).symm.trans H; with_reducible exact H2_) | with_reducible exact H | (rw [hy250]; exact H) | exact H
    have Ny250 := Aside0.mk hy250
    clear hy250
    replace H := Option.bind_eq_some_iff.mp H
    obtain ⟨t253, A50, H⟩ := H
    replace H : ((octet_Get.f (wrap64 ((wrap64 (Int.tmod a0 7)) + 1)) t253).bind fun bt256 => (paternosterlaw01_OctetLow.l0 k (wrap64 ((wrap64 (Int.tmod a0 7)) + 1)) bt256.1 bt256.2 a1 (wrap64 ((wrap64 (Int.tmod a0 7)) + 1)))) = some r := H
    have A5 := Aside0.mk A50
    clear A50
    replace H := Option.bind_eq_some_iff.mp H
    obtain ⟨⟨t256, t257⟩, A60, H⟩ := H
    replace H : (paternosterlaw01_OctetLow.l0 k (wrap64 ((wrap64 (Int.tmod a0 7)) + 1)) t256 t257 a1 (wrap64 ((wrap64 (Int.tmod a0 7)) + 1))) = some r := H
    have A6 := Aside0.mk A60
    clear A60
    have H' := Aside0.mk H
    clear H
    go_enter Try.func11, Try.ntmps11
    go_wp2_with (first | ((with_reducible refine gate_callee (f := 12) rfl ?_); refine goesL_ (some 12) rfl rfl Try.func12 (by kernel_rfl) rfl #[] rfl (by (try simp only [List.map_toArray, List.map_cons, List.map_nil]); first | done | rfl | (simp only [List.length_drop, List.length_take]; rfl)) ?_; (with_reducible refine (paternosterlaw01_awake.calls  true _ A3.out).mono ?_); rintro e w7 ⟨rfl, hb⟩; refine ⟨_, rfl, ?_⟩; have n0_ := Aside0.mk (below_step (by repeat (first | (with_reducible first | exact HB.out | apply below_alloc | apply pw_below_drewN | apply below_drew1) | exact HB.out)) hb); clear HB; have HB := n0_; clear n0_; (try clear hb); (try clear hb2); (try clear hk); (try clear hi)) | ((with_reducible refine gate_dst (N := 23) rfl ?_); (try (refine gate_guard (by rfl) ?_; dsimp only)); refine Kd.R_lit (Kd.int .u64) _ 25 ?hg (N := 23) ?hd (xs := ([a1] : List Int)) (inner := [.int .u64 a1]) (ok := fun _ => True) (okp := fun _ => True) ?hr ?hp (fun _ hk => hk) trivial (Below.refl _ _) (Nat.le_refl _) (by simp) ?_; (case hd => rfl); (case hg => rfl); (case hr => first | (go_simp; done) | (go_simp; rfl)); (case hp => exact (Reps.one (show Kd.M (Kd.int .u64) _ _ _ a1 [.int .u64 a1] from rfl) (Reps.none _ _))); intro v251 w8 ho9 hb hg_ hnew_; clear hg_ hnew_; (first | rw [← Ny250.out] at ho9 | (simp only [Int.reduceToNat] at ho9; rw [← Ny250.out] at ho9)); have n0_ := Aside0.mk (Kd.R_lower ho9 (below_size (by repeat (first | (with_reducible first | exact HB.out | apply below_alloc | apply pw_below_drewN | apply below_drew1) | exact HB.out)))); have n1_ := Aside0.mk (below_step (by repeat (first | (with_reducible first | exact HB.out | apply below_alloc | apply pw_below_drewN | apply below_drew1) | exact HB.out)) hb); clear HB; have HO252 := n0_; have HB := n1_; clear n0_ n1_; clear hb ho9; obtain ⟨Ao10, co10, eo10⟩ := Kd.R_slice HO252.out; subst eo10) | ((with_reducible refine gate_callee (f := 14) rfl ?_); refine goesL_ (some 24) rfl rfl Try.func14 (by kernel_rfl) rfl #[.int .i64 (wrap64 ((wrap64 (Int.tmod a0 7)) + 1)), .slice Ao10 y250.length co10] rfl (by (try simp only [List.map_toArray, List.map_cons, List.map_nil]); first | done | rfl | (simp only [List.length_drop, List.length_take]; rfl)) ?_; (with_reducible refine (octet_Put.calls k (wrap64 ((wrap64 (Int.tmod a0 7)) + 1)) _ _ y250 t253 _ ?side1 ?side2 A5.out).mono ?_); (case side1 => repeat (first | exact (Kd.R_reads' HO252.out).2.2 | (with_reducible refine Kd.C_alloc ?_ _) | (with_reducible refine Kd.C_drewN ?_ _) | (with_reducible refine Kd.C_drew ?_))); (case side2 => exact (Kd.R_reads' HO252.out).2.1); rintro e w11 ⟨v254, rfl, ho0, hb⟩; refine ⟨_, rfl, ?_⟩; have n0_ := Aside0.mk (Kd.R_below (by (with_reducible repeat (first | apply Kd.R_alloc | apply Kd.R_drewN | apply Kd.R_drew)); exact HO252.out) hb); have n1_ := Aside0.mk (Kd.R_lower ho0 (below_size (by repeat (first | (with_reducible first | exact HB.out | apply below_alloc | apply pw_below_drewN | apply below_drew1) | exact HB.out)))); have n2_ := Aside0.mk (below_step (by repeat (first | (with_reducible first | exact HB.out | apply below_alloc | apply pw_below_drewN | apply below_drew1) | exact HB.out)) hb); clear HO252; clear HB; have HO252 := n0_; have HO255 := n1_; have HB := n2_; clear n0_ n1_ n2_; (try clear hb); (try clear hb2); (try clear hk); (try clear hi); (try clear ho0); obtain ⟨Ao12, co12, eo12⟩ := Kd.R_slice HO255.out; subst eo12) | ((with_reducible refine gate_callee (f := 15) rfl ?_); refine goesL_ (some 25) rfl rfl Try.func15 (by kernel_rfl) rfl #[.int .i64 (wrap64 ((wrap64 (Int.tmod a0 7)) + 1)), .slice Ao12 t253.length co12] rfl (by (try simp only [List.map_toArray, List.map_cons, List.map_nil]); first | done | rfl | (simp only [List.length_drop, List.length_take]; rfl)) ?_; (with_reducible refine (octet_Get.calls (wrap64 ((wrap64 (Int.tmod a0 7)) + 1)) _ _ t253 t256 t257 _ ?side1 ?side2 A6.out).mono ?_); (case side1 => repeat (first | exact (Kd.R_reads' HO255.out).2.2 | (with_reducible refine Kd.C_alloc ?_ _) | (with_reducible refine Kd.C_drewN ?_ _) | (with_reducible refine Kd.C_drew ?_))); (case side2 => exact (Kd.R_reads' HO255.out).2.1); rintro e w13 ⟨v258, rfl, ho0, hb⟩; refine ⟨_, rfl, ?_⟩; have n0_ := Aside0.mk (Kd.R_elder' (by (with_reducible repeat (first | apply Kd.R_alloc | apply Kd.R_drewN | apply Kd.R_drew)); exact HO252.out) (Kd.R_base ho0) hb); have n1_ := Aside0.mk (Kd.R_below (by (with_reducible repeat (first | apply Kd.R_alloc | apply Kd.R_drewN | apply Kd.R_drew)); exact HO255.out) hb); have n2_ := Aside0.mk (Kd.R_lower (Kd.R_new' ho0 (Kd.R_lt (by (with_reducible repeat (first | apply Kd.R_alloc | apply Kd.R_drewN | apply Kd.R_drew)); exact HO252.out))) (below_size (by repeat (first | (with_reducible first | exact HB.out | apply below_alloc | apply pw_below_drewN | apply below_drew1) | exact HB.out)))); have n3_ := Aside0.mk (below_step (by repeat (first | (with_reducible first | exact HB.out | apply below_alloc | apply pw_below_drewN | apply below_drew1) | exact HB.out)) hb); clear HO252; clear HO255; clear HB; have HO252 := n0_; have HO255 := n1_; have HO259 := n2_; have HB := n3_; clear n0_ n1_ n2_ n3_; (try clear hb); (try clear hb2); (try clear hk); (try clear hi); (try clear ho0)))
    go_loopg [9, 10] k (fun kq v9 v10 w' => ∃ (x9_1 : Int) (x10_1 : Int), v9 = .int .u64 x9_1 ∧ v10 = .int .i64 x10_1 ∧ Aside0 (paternosterlaw01_OctetLow.l0 kq (wrap64 ((wrap64 (Int.tmod a0 7)) + 1)) t256 t257 x9_1 x10_1 = some r) ∧ Aside0 (kq ≤ k) ∧ Aside0 (Kd.R (Kd.int .u64) 25 w' w.heap.size (fun _ => True) v258 t256) ∧ Aside0 (Below w.heap.size w w'))
    case atStart => exact ⟨(a1), (wrap64 ((wrap64 (Int.tmod a0 7)) + 1)), (by first | rfl | (simp; done) | (simp [*]; done)), (by first | rfl | (simp; done) | (simp [*]; done)), H', ⟨Nat.le_refl _⟩, ⟨by (with_reducible repeat (first | apply Kd.R_alloc | apply Kd.R_drewN | apply Kd.R_drew)); exact Kd.R_mono HO259.out (fun _ hk => trivial)⟩, ⟨by repeat (first | (with_reducible first | exact HB.out | apply below_alloc | apply pw_below_drewN | apply below_drew1) | exact HB.out)⟩⟩
    case round =>
      clear H'
      try clear c1
      try clear p2
      try clear c4
      try clear p6
      try clear c11
      try clear c12
      obtain ⟨x9_1, x10_1, rfl, rfl, HA, HK1, HO_7, HB⟩ := hrel
      cases gk with
      | zero => exact absurd HA.out (by simp [paternosterlaw01_OctetLow.l0])
      | succ k1 =>
        have H := HA.out
        clear HA
        simp only [paternosterlaw01_OctetLow.l0] at H
        by_cases c14 : x10_1 < 8
        · rw [if_pos c14] at H
          have c14b0 : decide (x10_1 < 8) = true := decide_eq_true c14
          clear c14
          have H' := Aside0.mk H
          clear H
          go_wp2
          go_roundg k1
          case measure => have := HK1.out; omega
          case rel => exact ⟨(IntKind.u64.wrap (x9_1 * 256)), (wrap64 (x10_1 + 1)), (by first | rfl | (simp; done) | (simp [*]; done)), (by first | rfl | (simp; done) | (simp [*]; done)), H', ⟨by have := HK1.out; omega⟩, ⟨by (with_reducible repeat (first | apply Kd.R_alloc | apply Kd.R_drewN | apply Kd.R_drew)); exact HO_7.out⟩, ⟨by repeat (first | (with_reducible first | exact HB.out | apply below_alloc | apply pw_below_drewN | apply below_drew1) | exact HB.out)⟩⟩
        · rw [if_neg c14] at H
          have c14b0 : decide (x10_1 < 8) = false := decide_eq_false c14
          clear c14
          have H' := Aside0.mk H
          clear H
          go_wp2
          go_loopg [9, 11] k1 (fun kq v9 v11 w' => ∃ (x9_2 : Int) (x11_2 : Int), v9 = .int .u64 x9_2 ∧ v11 = .int .i64 x11_2 ∧ Aside0 (paternosterlaw01_OctetLow.l1 kq t256 t257 x9_2 x11_2 = some r) ∧ Aside0 (kq ≤ k1) ∧ Aside0 (Kd.R (Kd.int .u64) 25 w' w.heap.size (fun _ => True) v258 t256) ∧ Aside0 (Below w.heap.size w w'))
          case atStart => exact ⟨(x9_1), ((wrap64 ((wrap64 (Int.tmod a0 7)) + 1))), (by first | rfl | (simp; done) | (simp [*]; done)), (by first | rfl | (simp; done) | (simp [*]; done)), H', ⟨Nat.le_refl _⟩, ⟨by (with_reducible repeat (first | apply Kd.R_alloc | apply Kd.R_drewN | apply Kd.R_drew)); exact HO_7.out⟩, ⟨by repeat (first | (with_reducible first | exact HB.out | apply below_alloc | apply pw_below_drewN | apply below_drew1) | exact HB.out)⟩⟩
          case round =>
            clear H'
            try clear c1
            try clear p2
            try clear c4
            try clear p6
            try clear c11
            try clear c12
            try clear c14
            try clear c14b0
            try clear p2
            try clear p6
            obtain ⟨x9_2, x11_2, rfl, rfl, HA, HK2, HO_7, HB⟩ := hrel
            cases gk with
            | zero => exact absurd HA.out (by simp [paternosterlaw01_OctetLow.l1])
            | succ k2 =>
              have H := HA.out
              clear HA
              simp only [paternosterlaw01_OctetLow.l1] at H
              by_cases c15 : x11_2 < 8
              · rw [if_pos c15] at H
                have c15b0 : decide (x11_2 < 8) = true := decide_eq_true c15
                clear c15
                have H' := Aside0.mk H
                clear H
                go_wp2
                go_roundg k2
                case measure => have := HK1.out; have := HK2.out; omega
                case rel => exact ⟨(x9_2 / 256), (wrap64 (x11_2 + 1)), (by first | rfl | (simp; done) | (simp [*]; done)), (by first | rfl | (simp; done) | (simp [*]; done)), H', ⟨by have := HK1.out; have := HK2.out; omega⟩, ⟨by (with_reducible repeat (first | apply Kd.R_alloc | apply Kd.R_drewN | apply Kd.R_drew)); exact HO_7.out⟩, ⟨by repeat (first | (with_reducible first | exact HB.out | apply below_alloc | apply pw_below_drewN | apply below_drew1) | exact HB.out)⟩⟩
              · rw [if_neg c15] at H
                have c15b0 : decide (x11_2 < 8) = false := decide_eq_false c15
                clear c15
                by_cases c16 : t257 = 0
                · rw [if_pos c16] at H
                  have c16b0 : (t257 == 0) = true := beq_iff_eq.mpr c16
                  have c16b1 : (t257 != 0) = false := bne_eq_false_iff_eq.mpr c16
                  clear c16
                  by_cases c17 : (t256.length : Int) = 1
                  · rw [if_pos c17] at H
                    have c17b0 : ((t256.length : Int) == 1) = true := beq_iff_eq.mpr c17
                    have c17b1 : ((t256.length : Int) != 1) = false := bne_eq_false_iff_eq.mpr c17
                    clear c17
                    by_cases c18 : 0 < (t256.length : Int)
                    · rw [if_pos c18] at H
                      have c18b0 : decide (0 < (t256.length : Int)) = true := decide_eq_true c18
                      have c18b1 : decide (0 < t256.length) = true := decide_eq_true (by omega)
                      clear c18
                      obtain rfl := Option.some.inj H
                      obtain ⟨Ao19, co19, eo19⟩ := Kd.R_slice HO_7.out
                      subst eo19
                      have p260 : 0 ≤ (0 : Int) := (by omega)
                      have q260 : 0 < (t256.length : Int) := of_decide_eq_true (by first | (with_reducible assumption) | assumption)
                      obtain ⟨ad260, e260, hx260_0⟩ := Kd.at_int (Kd.R_reads' HO_7.out).2.2 0 p260 q260
                      cases e260
                      have qi260 : (0 < t256.length) = True := eq_true (by omega)
                      (try rw [show ((0 : Int)).toNat = 0 from rfl] at hx260_0)
                      (try rw [Addr.add_zero'] at hx260_0)
                      replace p260 := eq_true p260
                      replace q260 := eq_true q260
                      go_wp2
                      go_ret
                      exact ⟨by first | rfl | (simp [errW_none, errW_some] <;> rfl) | (simp [*, errW_none, errW_some] <;> rfl), by repeat (first | (with_reducible first | exact HB.out | apply below_alloc | apply pw_below_drewN | apply below_drew1) | exact HB.out)⟩
                    · rw [if_neg c18] at H
                      exact absurd H (by simp)
                  · rw [if_neg c17] at H
                    have c17b0 : ((t256.length : Int) == 1) = false := beq_eq_false_iff_ne.mpr c17
                    have c17b1 : ((t256.length : Int) != 1) = true := bne_iff_ne.mpr c17
                    obtain rfl := Option.some.inj H
                    obtain ⟨Ao20, co20, eo20⟩ := Kd.R_slice HO_7.out
                    subst eo20
                    go_wp2
                    go_ret
                    exact ⟨by first | rfl | (simp [errW_none, errW_some] <;> rfl) | (simp [*, errW_none, errW_some] <;> rfl), by repeat (first | (with_reducible first | exact HB.out | apply below_alloc | apply pw_below_drewN | apply below_drew1) | exact HB.out)⟩
                · rw [if_neg c16] at H
                  have c16b0 : (t257 == 0) = false := beq_eq_false_iff_ne.mpr c16
                  have c16b1 : (t257 != 0) = true := bne_iff_ne.mpr c16
                  obtain rfl := Option.some.inj H
                  go_wp2
                  go_ret
                  exact ⟨by first | rfl | (simp [errW_none, errW_some] <;> rfl) | (simp [*, errW_none, errW_some] <;> rfl), by repeat (first | (with_reducible first | exact HB.out | apply below_alloc | apply pw_below_drewN | apply below_drew1) | exact HB.out)⟩
  · replace c4 := Bool.eq_false_iff.mpr c4
    subst c4
    have H1 : (some false) = some r := by rw [if_neg (show ¬ (false = true) by decide)] at H; exact H
    clear H
    have H := H1
    clear H1
    obtain rfl := Option.some.inj H
    go_enter Try.func11, Try.ntmps11
    go_wp2_with (first | ((with_reducible refine gate_callee (f := 12) rfl ?_); refine goesL_ (some 12) rfl rfl Try.func12 (by kernel_rfl) rfl #[] rfl (by (try simp only [List.map_toArray, List.map_cons, List.map_nil]); first | done | rfl | (simp only [List.length_drop, List.length_take]; rfl)) ?_; (with_reducible refine (paternosterlaw01_awake.calls  false _ A3.out).mono ?_); rintro e w21 ⟨rfl, hb⟩; refine ⟨_, rfl, ?_⟩; have n0_ := Aside0.mk (below_step (by repeat (first | (with_reducible first | exact HB.out | apply below_alloc | apply pw_below_drewN | apply below_drew1) | exact HB.out)) hb); clear HB; have HB := n0_; clear n0_; (try clear hb); (try clear hb2); (try clear hk); (try clear hi)))
    go_ret
    exact ⟨by first | rfl | (simp [errW_none, errW_some] <;> rfl) | (simp [*, errW_none, errW_some] <;> rfl), by repeat (first | (with_reducible first | exact HB.out | apply below_alloc | apply pw_below_drewN | apply below_drew1) | exact HB.out)⟩

/-- THE ONE PURE STATEMENT of paternosterlaw01_OctetLow: yours. -/
def paternosterlaw01_OctetLow.Pure : Prop := ∀ (a0 : Int) (a1 : Int), (Lit.int .u8 a0).wf = true → (Lit.int .u64 a1).wf = true → ∃ k, paternosterlaw01_OctetLow.f k a0 a1 = some true
theorem paternosterlaw01_OctetLow.walk (P : paternosterlaw01_OctetLow.Pure) (a0 : Int) (a1 : Int) (w : World) (w0 : (Lit.int .u8 a0).wf = true) (w1 : (Lit.int .u64 a1).wf = true) :
    Calls Try.prog 11 #[.int .u8 a0, .int .u64 a1] w fun e w' => e = .returned (.bool true) ∧ Below w.heap.size w w' := by
  obtain ⟨k, h⟩ := P a0 a1 w0 w1
  refine (paternosterlaw01_OctetLow.calls k a0 a1 true w h).mono ?_
  rintro e w' ⟨rfl, hd⟩
  exact ⟨rfl, hd⟩

end Go.Proofs.Ytdlmnaoaninkaaa.PAll
