-- Written by myprint.py: the kit's print.py over this seat's translation, with contracts of my own.
import Derived.Test.YtmegcockgohkhaaDoorPAllx0
import Derived.Test.YtmegcockgohkhaaDoorPAllx1
import Derived.Test.YtmegcockgohkhaaDoorPAllx5
import Derived.Test.YtmegcockgohkhaaDoorPAllx7
import Derived.Test.YtmegcockgohkhaaDoorPAllx8
namespace Go.Proofs.YtmegcockgohkhaaDoor.PAll
open Go.RowKit Go.Proofs.YtmegcockgohkhaaDoorW.PrintWords Go.Proofs.YtmegcockgohkhaaDoorW.PrintLast Go.Proofs.YtmegcockgohkhaaDoorW.PrintMore
attribute [local go_sem] max2_int min2_int max_two min_two max_three min_three max_four min_four   -- for this text's walks alone
set_option linter.unusedVariables false
set_option linter.unusedSimpArgs false

/-! ### paternosterlaw02_CrcTurns: function 5 -/
mutual
def paternosterlaw02_CrcTurns.j0 : Nat → List Int → Int → Int → Bool → Option (Bool)
  | 0, _, _, _, _ => none
  | k + 1, x0, x1, x2, x26 => if x26 = true then (some true) else ((crc_Seal.f k x0).bind fun t159 => (if (t159.length : Int) = (wrap64 ((x0.length : Int) + 4)) then ((crc_Open.f k t159).bind fun bt162 => (if (strOfNums bt162.1).toList = (strOfNums x0).toList then (paternosterlaw02_CrcTurns.j1 k x1 x2 t159 (!bt162.2)) else (paternosterlaw02_CrcTurns.j1 k x1 x2 t159 true))) else (some false)))
def paternosterlaw02_CrcTurns.j1 : Nat → Int → Int → List Int → Bool → Option (Bool)
  | 0, _, _, _, _ => none
  | k + 1, x1, x2, x8, x48 => if x48 = true then (some false) else (if (wrap64 ((wrap64 (8 * (x8.length : Int))) - 31)) = 0 then (none) else (paternosterlaw02_CrcTurns.l0 k x2 x8 (Int.tmod (wrap64 (x1)) (wrap64 ((wrap64 (8 * (x8.length : Int))) - 31))) 0))
def paternosterlaw02_CrcTurns.l0 : Nat → Int → List Int → Int → Int → Option (Bool)
  | 0, _, _, _, _ => none
  | k + 1, x2, x8, x11, x12 => if x12 < 32 then (if (Int.tmod x2 2) = 1 then (paternosterlaw02_CrcTurns.l1 k x2 x8 x11 x12 1 0) else (paternosterlaw02_CrcTurns.l0 k ((Int.tdiv x2 2) % 4294967296) x8 x11 (wrap64 (x12 + 1)))) else ((crc_Open.f k x8).bind fun bt166 => (some (!bt166.2)))
def paternosterlaw02_CrcTurns.l1 : Nat → Int → List Int → Int → Int → Int → Int → Option (Bool)
  | 0, _, _, _, _, _, _ => none
  | k + 1, x2, x8, x11, x12, x13, x14 => if x14 < (Int.tmod (wrap64 (x11 + x12)) 8) then (paternosterlaw02_CrcTurns.l1 k x2 x8 x11 x12 ((x13 * 2) % 256) (wrap64 (x14 + 1))) else (if 0 ≤ (wrap64 (Int.tdiv (wrap64 (x11 + x12)) 8)) then (if (wrap64 (Int.tdiv (wrap64 (x11 + x12)) 8)) < (x8.length : Int) then (paternosterlaw02_CrcTurns.l0 k ((Int.tdiv x2 2) % 4294967296) (x8.set ((wrap64 (Int.tdiv (wrap64 (x11 + x12)) 8)) : Int).toNat (Go.bits .xor .u8 (rd x8 (wrap64 (Int.tdiv (wrap64 (x11 + x12)) 8))) x13)) x11 (wrap64 (x12 + 1))) else (none)) else (none))
end
def paternosterlaw02_CrcTurns.f (k : Nat) (l0 : List Int) (a1 : Int) (a2 : Int) : Option (Bool) := (paternosterlaw02_awake.f).bind fun t158 => (if t158 = true then (if (l0.length : Int) > 1000 then (paternosterlaw02_CrcTurns.j0 k l0 a1 a2 true) else (paternosterlaw02_CrcTurns.j0 k l0 a1 a2 (a2 == 0))) else (some false))
theorem paternosterlaw02_CrcTurns.mono_l : ∀ k, (∀ y0 y1 y2 y3, LeO (paternosterlaw02_CrcTurns.j0 k y0 y1 y2 y3) (paternosterlaw02_CrcTurns.j0 (k + 1) y0 y1 y2 y3)) ∧ (∀ y0 y1 y2 y3, LeO (paternosterlaw02_CrcTurns.j1 k y0 y1 y2 y3) (paternosterlaw02_CrcTurns.j1 (k + 1) y0 y1 y2 y3)) ∧ (∀ y0 y1 y2 y3, LeO (paternosterlaw02_CrcTurns.l0 k y0 y1 y2 y3) (paternosterlaw02_CrcTurns.l0 (k + 1) y0 y1 y2 y3)) ∧ (∀ y0 y1 y2 y3 y4 y5, LeO (paternosterlaw02_CrcTurns.l1 k y0 y1 y2 y3 y4 y5) (paternosterlaw02_CrcTurns.l1 (k + 1) y0 y1 y2 y3 y4 y5))
  | 0 => ⟨fun _ _ _ _ r h => by simp [paternosterlaw02_CrcTurns.j0] at h, fun _ _ _ _ r h => by simp [paternosterlaw02_CrcTurns.j1] at h, fun _ _ _ _ r h => by simp [paternosterlaw02_CrcTurns.l0] at h, fun _ _ _ _ _ _ r h => by simp [paternosterlaw02_CrcTurns.l1] at h⟩
  | k + 1 => by
    obtain ⟨ih0, ih1, ih2, ih3⟩ := paternosterlaw02_CrcTurns.mono_l k
    refine ⟨?_, ?_, ?_, ?_⟩
    · intro y0 y1 y2 y3
      unfold paternosterlaw02_CrcTurns.j0
      repeat' first
      | (with_reducible exact ih0 _ _ _ _)
      | (with_reducible exact ih1 _ _ _ _)
      | (with_reducible exact ih2 _ _ _ _)
      | (with_reducible exact ih3 _ _ _ _ _ _)
      | (with_reducible exact crc_Open.mono _ _)
      | (with_reducible exact crc_Seal.mono _ _)
      | (with_reducible exact LeO.refl _)
      | (with_reducible exact LeO.none _)
      | (with_reducible refine LeO.ite ?_ ?_)
      | (with_reducible refine LeO.bind ?_ (fun _ => ?_))
      | exact ih0 _ _ _ _
      | exact ih1 _ _ _ _
      | exact ih2 _ _ _ _
      | exact ih3 _ _ _ _ _ _
      | exact crc_Open.mono _ _
      | exact crc_Seal.mono _ _
      | exact LeO.none _
      | refine LeO.ite ?_ ?_
      | refine LeO.bind ?_ (fun _ => ?_)
    · intro y0 y1 y2 y3
      unfold paternosterlaw02_CrcTurns.j1
      repeat' first
      | (with_reducible exact ih0 _ _ _ _)
      | (with_reducible exact ih1 _ _ _ _)
      | (with_reducible exact ih2 _ _ _ _)
      | (with_reducible exact ih3 _ _ _ _ _ _)
      | (with_reducible exact crc_Open.mono _ _)
      | (with_reducible exact crc_Seal.mono _ _)
      | (with_reducible exact LeO.refl _)
      | (with_reducible exact LeO.none _)
      | (with_reducible refine LeO.ite ?_ ?_)
      | (with_reducible refine LeO.bind ?_ (fun _ => ?_))
      | exact ih0 _ _ _ _
      | exact ih1 _ _ _ _
      | exact ih2 _ _ _ _
      | exact ih3 _ _ _ _ _ _
      | exact crc_Open.mono _ _
      | exact crc_Seal.mono _ _
      | exact LeO.none _
      | refine LeO.ite ?_ ?_
      | refine LeO.bind ?_ (fun _ => ?_)
    · intro y0 y1 y2 y3
      unfold paternosterlaw02_CrcTurns.l0
      repeat' first
      | (with_reducible exact ih0 _ _ _ _)
      | (with_reducible exact ih1 _ _ _ _)
      | (with_reducible exact ih2 _ _ _ _)
      | (with_reducible exact ih3 _ _ _ _ _ _)
      | (with_reducible exact crc_Open.mono _ _)
      | (with_reducible exact crc_Seal.mono _ _)
      | (with_reducible exact LeO.refl _)
      | (with_reducible exact LeO.none _)
      | (with_reducible refine LeO.ite ?_ ?_)
      | (with_reducible refine LeO.bind ?_ (fun _ => ?_))
      | exact ih0 _ _ _ _
      | exact ih1 _ _ _ _
      | exact ih2 _ _ _ _
      | exact ih3 _ _ _ _ _ _
      | exact crc_Open.mono _ _
      | exact crc_Seal.mono _ _
      | exact LeO.none _
      | refine LeO.ite ?_ ?_
      | refine LeO.bind ?_ (fun _ => ?_)
    · intro y0 y1 y2 y3 y4 y5
      unfold paternosterlaw02_CrcTurns.l1
      repeat' first
      | (with_reducible exact ih0 _ _ _ _)
      | (with_reducible exact ih1 _ _ _ _)
      | (with_reducible exact ih2 _ _ _ _)
      | (with_reducible exact ih3 _ _ _ _ _ _)
      | (with_reducible exact crc_Open.mono _ _)
      | (with_reducible exact crc_Seal.mono _ _)
      | (with_reducible exact LeO.refl _)
      | (with_reducible exact LeO.none _)
      | (with_reducible refine LeO.ite ?_ ?_)
      | (with_reducible refine LeO.bind ?_ (fun _ => ?_))
      | exact ih0 _ _ _ _
      | exact ih1 _ _ _ _
      | exact ih2 _ _ _ _
      | exact ih3 _ _ _ _ _ _
      | exact crc_Open.mono _ _
      | exact crc_Seal.mono _ _
      | exact LeO.none _
      | refine LeO.ite ?_ ?_
      | refine LeO.bind ?_ (fun _ => ?_)
theorem paternosterlaw02_CrcTurns.mono : ∀ a0 a1 a2 k, LeO (paternosterlaw02_CrcTurns.f k a0 a1 a2) (paternosterlaw02_CrcTurns.f (k + 1) a0 a1 a2) := by
  intro a0 a1 a2 k
  obtain ⟨ih0, ih1, ih2, ih3⟩ := paternosterlaw02_CrcTurns.mono_l k
  unfold paternosterlaw02_CrcTurns.f
  repeat' first
      | (with_reducible exact ih0 _ _ _ _)
      | (with_reducible exact ih1 _ _ _ _)
      | (with_reducible exact ih2 _ _ _ _)
      | (with_reducible exact ih3 _ _ _ _ _ _)
      | (with_reducible exact crc_Open.mono _ _)
      | (with_reducible exact crc_Seal.mono _ _)
      | (with_reducible exact LeO.refl _)
      | (with_reducible exact LeO.none _)
      | (with_reducible refine LeO.ite ?_ ?_)
      | (with_reducible refine LeO.bind ?_ (fun _ => ?_))
      | exact ih0 _ _ _ _
      | exact ih1 _ _ _ _
      | exact ih2 _ _ _ _
      | exact ih3 _ _ _ _ _ _
      | exact crc_Open.mono _ _
      | exact crc_Seal.mono _ _
      | exact LeO.none _
      | refine LeO.ite ?_ ?_
      | refine LeO.bind ?_ (fun _ => ?_)
set_option maxHeartbeats 8000000 in
set_option maxRecDepth 100000 in
theorem paternosterlaw02_CrcTurns.calls (k : Nat) (A0 : Option Addr) (c0 : Nat) (l0 : List Int) (a1 : Int) (a2 : Int) (r : Bool) (w : World) (hr0 : Kd.C (Kd.int .u8) w A0 l0.length l0) (hc0 : l0.length ≤ c0) (h : paternosterlaw02_CrcTurns.f k l0 a1 a2 = some r) (hl_ : Half w) :
    Calls Tryd.prog 5 #[.slice A0 l0.length c0, .int .u16 a1, .int .u32 a2] w fun e w' => e = .returned (.bool r) ∧ Below w.heap.size w w' := by
  have HLAID := Aside0.mk hl_
  clear hl_
  have HR0 := Aside0.mk hr0
  have HC0 := Aside0.mk hc0
  clear hr0 hc0
  have HB := Aside0.mk (Below.refl w.heap.size w)
  have H : ((paternosterlaw02_awake.f).bind fun t158 => (if t158 = true then (if (l0.length : Int) > 1000 then (paternosterlaw02_CrcTurns.j0 k l0 a1 a2 true) else (paternosterlaw02_CrcTurns.j0 k l0 a1 a2 (a2 == 0))) else (some false))) = some r := h
  clear h
  replace H := Option.bind_eq_some_iff.mp H
  obtain ⟨t158, A40, H⟩ := H
  replace H : (if t158 = true then (if (l0.length : Int) > 1000 then (paternosterlaw02_CrcTurns.j0 k l0 a1 a2 true) else (paternosterlaw02_CrcTurns.j0 k l0 a1 a2 (a2 == 0))) else (some false)) = some r := H
  have A4 := Aside0.mk A40
  clear A40
  by_cases c5 : t158 = true
  · subst c5
    have H1 : (if (l0.length : Int) > 1000 then (paternosterlaw02_CrcTurns.j0 k l0 a1 a2 true) else (paternosterlaw02_CrcTurns.j0 k l0 a1 a2 (a2 == 0))) = some r := by rw [if_pos rfl] at H; exact H
    clear H
    have H := H1
    clear H1
    have HC6 := Aside0.mk H
    clear H
    go_enter Tryd.func5, Tryd.ntmps5
    go_upto_region 4 with (first | ((with_reducible refine gate_callee (f := 9) rfl ?_); refine goesL_ (some 17) rfl rfl Tryd.func9 (by kernel_rfl) rfl #[] rfl (by (try simp only [List.map_toArray, List.map_cons, List.map_nil]); first | done | rfl | (simp only [List.length_drop, List.length_take]; rfl)) ?_; (with_reducible refine (paternosterlaw02_awake.calls  true _ A4.out (Half.keep HLAID.out (by repeat (first | (with_reducible first | exact HB.out | apply below_alloc | apply pw_below_drewN | apply below_drew1) | exact HB.out)))).mono ?_); rintro e w7 ⟨rfl, hb⟩; refine ⟨_, rfl, ?_⟩; have n0_ := Aside0.mk (below_step (by repeat (first | (with_reducible first | exact HB.out | apply below_alloc | apply pw_below_drewN | apply below_drew1) | exact HB.out)) hb); clear HB; have HB := n0_; clear n0_; (try clear hb); (try clear hb2); (try clear hk); (try clear hi)))
    (try simp only [Act.put, List.setIfInBounds_toArray, List.set_cons_zero, List.set_cons_succ])
    go_cut [26] (fun v26 wc => ∃ (kq : Nat) (x26_5 : Bool), v26 = .bool x26_5 ∧ Aside0 (paternosterlaw02_CrcTurns.j0 kq l0 a1 a2 x26_5 = some r) ∧ Aside0 (kq ≤ k) ∧ Aside0 (Below w.heap.size w wc))
    case first =>
      have H := HC6.out
      clear HC6
      by_cases c8 : (l0.length : Int) > 1000
      · rw [if_pos c8] at H
        have c8b0 : decide (1000 < (l0.length : Int)) = true := decide_eq_true c8
        have c8b1 : decide (1000 < l0.length) = true := decide_eq_true (by omega)
        clear c8
        (first | rw [c8b0] | (simp only [i64_w, i32_w]; rw [c8b0]) | skip)
        have H' := Aside0.mk H
        clear H
        go_wp2
        go_meet
        case rel => exact ⟨_, (true), (by first | rfl | (simp; done) | (simp [*]; done)), H', ⟨by first | omega | exact Nat.le_refl _⟩, ⟨by repeat (first | (with_reducible first | exact HB.out | apply below_alloc | apply pw_below_drewN | apply below_drew1) | exact HB.out)⟩⟩
      · rw [if_neg c8] at H
        have c8b0 : decide (1000 < (l0.length : Int)) = false := decide_eq_false c8
        have c8b1 : decide (1000 < l0.length) = false := decide_eq_false (by omega)
        clear c8
        (first | rw [c8b0] | (simp only [i64_w, i32_w]; rw [c8b0]) | skip)
        have H' := Aside0.mk H
        clear H
        go_wp2
        go_meet
        case rel => exact ⟨_, ((a2 == 0)), (by first | rfl | (simp; done) | (simp [*]; done)), H', ⟨by first | omega | exact Nat.le_refl _⟩, ⟨by repeat (first | (with_reducible first | exact HB.out | apply below_alloc | apply pw_below_drewN | apply below_drew1) | exact HB.out)⟩⟩
    case rest =>
      clear HC6
      try clear p2
      try clear c5
      try clear c8
      try clear c8b0
      try clear c8b1
      obtain ⟨kq, x26_5, rfl, HA, HJ5, HB⟩ := hcut
      cases kq with
      | zero => exact absurd HA.out (by simp [paternosterlaw02_CrcTurns.j0])
      | succ kj5 =>
        have H := HA.out
        clear HA
        simp only [paternosterlaw02_CrcTurns.j0] at H
        by_cases c9 : x26_5 = true
        · subst c9
          have H1 : (some true) = some r := by rw [if_pos rfl] at H; exact H
          clear H
          have H := H1
          clear H1
          obtain rfl := Option.some.inj H
          go_wp2
          go_ret
          exact ⟨by first | rfl | (simp [errW_none, errW_some] <;> rfl) | (simp [*, errW_none, errW_some] <;> rfl), by repeat (first | (with_reducible first | exact HB.out | apply below_alloc | apply pw_below_drewN | apply below_drew1) | exact HB.out)⟩
        · replace c9 := Bool.eq_false_iff.mpr c9
          subst c9
          have H1 : ((crc_Seal.f kj5 l0).bind fun t159 => (if (t159.length : Int) = (wrap64 ((l0.length : Int) + 4)) then ((crc_Open.f kj5 t159).bind fun bt162 => (if (strOfNums bt162.1).toList = (strOfNums l0).toList then (paternosterlaw02_CrcTurns.j1 kj5 a1 a2 t159 (!bt162.2)) else (paternosterlaw02_CrcTurns.j1 kj5 a1 a2 t159 true))) else (some false))) = some r := by rw [if_neg (show ¬ (false = true) by decide)] at H; exact H
          clear H
          have H := H1
          clear H1
          replace H := Option.bind_eq_some_iff.mp H
          obtain ⟨t159, A100, H⟩ := H
          replace H : (if (t159.length : Int) = (wrap64 ((l0.length : Int) + 4)) then ((crc_Open.f kj5 t159).bind fun bt162 => (if (strOfNums bt162.1).toList = (strOfNums l0).toList then (paternosterlaw02_CrcTurns.j1 kj5 a1 a2 t159 (!bt162.2)) else (paternosterlaw02_CrcTurns.j1 kj5 a1 a2 t159 true))) else (some false)) = some r := H
          have A10 := Aside0.mk A100
          clear A100
          by_cases c11 : (t159.length : Int) = (wrap64 ((l0.length : Int) + 4))
          · rw [if_pos c11] at H
            have c11b0 : ((t159.length : Int) == (wrap64 ((l0.length : Int) + 4))) = true := beq_iff_eq.mpr c11
            have c11b1 : ((t159.length : Int) != (wrap64 ((l0.length : Int) + 4))) = false := bne_eq_false_iff_eq.mpr c11
            clear c11
            replace H := Option.bind_eq_some_iff.mp H
            obtain ⟨⟨t162, t163⟩, A120, H⟩ := H
            replace H : (if (strOfNums t162).toList = (strOfNums l0).toList then (paternosterlaw02_CrcTurns.j1 kj5 a1 a2 t159 (!t163)) else (paternosterlaw02_CrcTurns.j1 kj5 a1 a2 t159 true)) = some r := H
            have A12 := Aside0.mk A120
            clear A120
            have HC13 := Aside0.mk H
            clear H
            go_upto_region 10 with (first | ((with_reducible refine gate_callee (f := 14) rfl ?_); refine goesL_ (some 28) rfl rfl Tryd.func14 (by kernel_rfl) rfl #[.slice A0 l0.length c0] rfl (by (try simp only [List.map_toArray, List.map_cons, List.map_nil]); first | done | rfl | (simp only [List.length_drop, List.length_take]; rfl)) ?_; (with_reducible refine (crc_Seal.calls kj5 (fun k_ => k_ < w.heap.size) _ _ l0 t159 _ ?side1 A10.out (Half.keep HLAID.out (by repeat (first | (with_reducible first | exact HB.out | apply below_alloc | apply pw_below_drewN | apply below_drew1) | exact HB.out)))).mono ?_); (case side1 => exact Kd.V_mk HC0.out (Kd.F_below (Kd.C_F (Kd.heap_int .u8) HR0.out) (by repeat (first | (with_reducible first | exact HB.out | apply below_alloc | apply pw_below_drewN | apply below_drew1) | exact HB.out)))); rintro e w14 ⟨v160, rfl, ho0, hb⟩; refine ⟨_, rfl, ?_⟩; have n0_ := Aside0.mk (Kd.R_lower (Kd.R_mono (ok' := fun k_ => True) ho0 (fun _ hk_ => trivial)) (below_size (by repeat (first | (with_reducible first | exact HB.out | apply below_alloc | apply pw_below_drewN | apply below_drew1) | exact HB.out)))); have n1_ := Aside0.mk (below_step (by repeat (first | (with_reducible first | exact HB.out | apply below_alloc | apply pw_below_drewN | apply below_drew1) | exact HB.out)) hb); clear HB; have HO161 := n0_; have HB := n1_; clear n0_ n1_; (try clear hb); (try clear hb2); (try clear hk); (try clear hi); (try clear ho0); obtain ⟨Ao15, co15, eo15⟩ := Kd.R_slice HO161.out; subst eo15) | ((with_reducible refine gate_callee (f := 12) rfl ?_); refine goesL_ (some 37) rfl rfl Tryd.func12 (by kernel_rfl) rfl #[.slice Ao15 t159.length co15] rfl (by (try simp only [List.map_toArray, List.map_cons, List.map_nil]); first | done | rfl | (simp only [List.length_drop, List.length_take]; rfl)) ?_; (with_reducible refine (crc_Open.calls kj5 _ _ t159 t162 t163 _ ?side1 ?side2 A12.out (Half.keep HLAID.out (by repeat (first | (with_reducible first | exact HB.out | apply below_alloc | apply pw_below_drewN | apply below_drew1) | exact HB.out)))).mono ?_); (case side1 => repeat (first | exact (Kd.R_reads' HO161.out).2.2 | (with_reducible refine Kd.C_alloc ?_ _) | (with_reducible refine Kd.C_drewN ?_ _) | (with_reducible refine Kd.C_drew ?_))); (case side2 => exact (Kd.R_reads' HO161.out).2.1); rintro e w16 ⟨v164, rfl, ho0, hb⟩; refine ⟨_, rfl, ?_⟩; have n0_ := Aside0.mk (Kd.R_elder' (by (with_reducible repeat (first | apply Kd.R_alloc | apply Kd.R_drewN | apply Kd.R_drew)); exact HO161.out) (Kd.R_base ho0) hb); have n1_ := Aside0.mk (Kd.R_lower (Kd.R_new' ho0 (Kd.R_lt (by (with_reducible repeat (first | apply Kd.R_alloc | apply Kd.R_drewN | apply Kd.R_drew)); exact HO161.out))) (below_size (by repeat (first | (with_reducible first | exact HB.out | apply below_alloc | apply pw_below_drewN | apply below_drew1) | exact HB.out)))); have n2_ := Aside0.mk (below_step (by repeat (first | (with_reducible first | exact HB.out | apply below_alloc | apply pw_below_drewN | apply below_drew1) | exact HB.out)) hb); clear HO161; clear HB; have HO161 := n0_; have HO165 := n1_; have HB := n2_; clear n0_ n1_ n2_; (try clear hb); (try clear hb2); (try clear hk); (try clear hi); (try clear ho0)))
            (try simp only [Act.put, List.setIfInBounds_toArray, List.set_cons_zero, List.set_cons_succ])
            go_cut [48] (fun v48 wc => ∃ (kq : Nat) (x48_12 : Bool), v48 = .bool x48_12 ∧ Aside0 (paternosterlaw02_CrcTurns.j1 kq a1 a2 t159 x48_12 = some r) ∧ Aside0 (kq ≤ kj5) ∧ Aside0 (Kd.R (Kd.int .u8) 5 wc w.heap.size (fun _ => True) (.slice Ao15 t159.length co15) t159) ∧ Aside0 (Below w.heap.size w wc))
            case first =>
              have H := HC13.out
              clear HC13
              by_cases c17 : (strOfNums t162).toList = (strOfNums l0).toList
              · rw [if_pos c17] at H
                have c17b0 : ((strOfNums t162).toList == (strOfNums l0).toList) = true := beq_iff_eq.mpr c17
                have c17b1 : ((strOfNums t162).toList != (strOfNums l0).toList) = false := bne_eq_false_iff_eq.mpr c17
                clear c17
                (first | rw [c17b0] | (simp only [i64_w, i32_w]; rw [c17b0]) | skip)
                have H' := Aside0.mk H
                clear H
                have hcv18 := own_string (P := Tryd.prog) Tryd.underlying22 Tryd.underlying5 Tryd.underlying9 (Kd.own_of_R HO165.out)
                have hcv19 := Kd.C_string (P := Tryd.prog) (A := A0) (c := c0) Tryd.underlying22 Tryd.underlying5 Tryd.underlying9 (Kd.C_below HR0.out HB.out)
                have hcvq19 := fun n_ : Nat => Kd.C_string (P := Tryd.prog) (A := A0) (c := c0) Tryd.underlying22 Tryd.underlying5 Tryd.underlying9 (Kd.C_drewN (Kd.C_below HR0.out HB.out) n_)
                go_wp2
                go_meet
                case rel => exact ⟨_, (!t163), (by first | rfl | (simp; done) | (simp [*]; done)), H', ⟨by have := HJ5.out; first | omega | exact Nat.le_refl _⟩, ⟨by (with_reducible repeat (first | apply Kd.R_alloc | apply Kd.R_drewN | apply Kd.R_drew)); exact Kd.R_mono HO161.out (fun _ hk => trivial)⟩, ⟨by repeat (first | (with_reducible first | exact HB.out | apply below_alloc | apply pw_below_drewN | apply below_drew1) | exact HB.out)⟩⟩
              · rw [if_neg c17] at H
                have c17b0 : ((strOfNums t162).toList == (strOfNums l0).toList) = false := beq_eq_false_iff_ne.mpr c17
                have c17b1 : ((strOfNums t162).toList != (strOfNums l0).toList) = true := bne_iff_ne.mpr c17
                (first | rw [c17b0] | (simp only [i64_w, i32_w]; rw [c17b0]) | skip)
                have H' := Aside0.mk H
                clear H
                have hcv20 := own_string (P := Tryd.prog) Tryd.underlying22 Tryd.underlying5 Tryd.underlying9 (Kd.own_of_R HO165.out)
                have hcv21 := Kd.C_string (P := Tryd.prog) (A := A0) (c := c0) Tryd.underlying22 Tryd.underlying5 Tryd.underlying9 (Kd.C_below HR0.out HB.out)
                have hcvq21 := fun n_ : Nat => Kd.C_string (P := Tryd.prog) (A := A0) (c := c0) Tryd.underlying22 Tryd.underlying5 Tryd.underlying9 (Kd.C_drewN (Kd.C_below HR0.out HB.out) n_)
                go_wp2
                go_meet
                case rel => exact ⟨_, (true), (by first | rfl | (simp; done) | (simp [*]; done)), H', ⟨by have := HJ5.out; first | omega | exact Nat.le_refl _⟩, ⟨by (with_reducible repeat (first | apply Kd.R_alloc | apply Kd.R_drewN | apply Kd.R_drew)); exact Kd.R_mono HO161.out (fun _ hk => trivial)⟩, ⟨by repeat (first | (with_reducible first | exact HB.out | apply below_alloc | apply pw_below_drewN | apply below_drew1) | exact HB.out)⟩⟩
            case rest =>
              clear HC13
              try clear c1
              try clear hcv1
              try clear p2
              try clear hcv2
              try clear c5
              try clear p6
              try clear c8
              try clear c8b0
              try clear c8b1
              try clear c9
              try clear c11
              try clear c11b0
              try clear c11b1
              try clear c12
              try clear c14
              try clear c17
              try clear c17b0
              try clear c17b1
              try clear hcv18
              try clear hcv19
              try clear hcv20
              try clear hcv21
              try clear p2
              obtain ⟨kq, x48_12, rfl, HA, HJ12, HO_8, HB⟩ := hcut
              cases kq with
              | zero => exact absurd HA.out (by simp [paternosterlaw02_CrcTurns.j1])
              | succ kj12 =>
                have H := HA.out
                clear HA
                simp only [paternosterlaw02_CrcTurns.j1] at H
                by_cases c22 : x48_12 = true
                · subst c22
                  have H1 : (some false) = some r := by rw [if_pos rfl] at H; exact H
                  clear H
                  have H := H1
                  clear H1
                  obtain rfl := Option.some.inj H
                  go_wp2
                  go_ret
                  exact ⟨by first | rfl | (simp [errW_none, errW_some] <;> rfl) | (simp [*, errW_none, errW_some] <;> rfl), by repeat (first | (with_reducible first | exact HB.out | apply below_alloc | apply pw_below_drewN | apply below_drew1) | exact HB.out)⟩
                · replace c22 := Bool.eq_false_iff.mpr c22
                  subst c22
                  have H1 : (if (wrap64 ((wrap64 (8 * (t159.length : Int))) - 31)) = 0 then (none) else (paternosterlaw02_CrcTurns.l0 kj12 a2 t159 (Int.tmod (wrap64 (a1)) (wrap64 ((wrap64 (8 * (t159.length : Int))) - 31))) 0)) = some r := by rw [if_neg (show ¬ (false = true) by decide)] at H; exact H
                  clear H
                  have H := H1
                  clear H1
                  by_cases c23 : (wrap64 ((wrap64 (8 * (t159.length : Int))) - 31)) = 0
                  · rw [if_pos c23] at H
                    exact absurd H (by simp)
                  · rw [if_neg c23] at H
                    have c23b0 : ((wrap64 ((wrap64 (8 * (t159.length : Int))) - 31)) == 0) = false := beq_eq_false_iff_ne.mpr c23
                    have c23b1 : ((wrap64 ((wrap64 (8 * (t159.length : Int))) - 31)) != 0) = true := bne_iff_ne.mpr c23
                    have H' := Aside0.mk H
                    clear H
                    go_wp2
                    generalize hbit_ : (Int.tmod (wrap64 (a1)) (wrap64 ((wrap64 (8 * (t159.length : Int))) - 31))) = bit_ at H' ⊢
                    clear hbit_
                    go_loopg [2, 12] kj12 (fun kq v2 v12 w' => ∃ (x2_3 : Int) (x8_3 : List Int) (x12_3 : Int), v2 = .int .u32 x2_3 ∧ v12 = .int .i64 x12_3 ∧ Aside0 (paternosterlaw02_CrcTurns.l0 kq x2_3 x8_3 bit_ x12_3 = some r) ∧ Aside0 (kq ≤ kj12) ∧ Aside0 (Kd.R (Kd.int .u8) 5 w' w.heap.size (fun _ => True) (.slice Ao15 t159.length co15) x8_3) ∧ Aside0 (Below w.heap.size w w'))
                    case atStart => exact ⟨(a2), (t159), (0), (by first | rfl | (simp; done) | (simp [*]; done)), (by first | rfl | (simp; done) | (simp [*]; done)), H', ⟨Nat.le_refl _⟩, ⟨by (with_reducible repeat (first | apply Kd.R_alloc | apply Kd.R_drewN | apply Kd.R_drew)); exact HO_8.out⟩, ⟨by repeat (first | (with_reducible first | exact HB.out | apply below_alloc | apply pw_below_drewN | apply below_drew1) | exact HB.out)⟩⟩
                    case round =>
                      clear H'
                      try clear c1
                      try clear hcv1
                      try clear c2
                      try clear p2
                      try clear hcv2
                      try clear c5
                      try clear p6
                      try clear c8
                      try clear c8b0
                      try clear c8b1
                      try clear c9
                      try clear c11
                      try clear c11b0
                      try clear c11b1
                      try clear c12
                      try clear c14
                      try clear c17
                      try clear c17b0
                      try clear c17b1
                      try clear hcv18
                      try clear hcv19
                      try clear hcv20
                      try clear hcv21
                      try clear c22
                      try clear c23
                      try clear c23b0
                      try clear c23b1
                      try clear p2
                      try clear p6
                      obtain ⟨x2_3, x8_3, x12_3, rfl, rfl, HA, HK3, HO_8, HB⟩ := hrel
                      have hl8_3 := (Kd.R_reads' HO_8.out).1
                      rw [hl8_3] at HO_8
                      (try simp only [hl8_3])
                      cases gk with
                      | zero => exact absurd HA.out (by simp [paternosterlaw02_CrcTurns.l0])
                      | succ k3 =>
                        have H := HA.out
                        clear HA
                        simp only [paternosterlaw02_CrcTurns.l0] at H
                        by_cases c24 : x12_3 < 32
                        · rw [if_pos c24] at H
                          have c24b0 : decide (x12_3 < 32) = true := decide_eq_true c24
                          clear c24
                          by_cases c25 : (Int.tmod x2_3 2) = 1
                          · rw [if_pos c25] at H
                            have c25b0 : ((Int.tmod x2_3 2) == 1) = true := beq_iff_eq.mpr c25
                            have c25b1 : ((Int.tmod x2_3 2) != 1) = false := bne_eq_false_iff_eq.mpr c25
                            clear c25
                            have H' := Aside0.mk H
                            clear H
                            go_wp2
                            go_loopg [13, 14] k3 (fun kq v13 v14 w' => ∃ (x13_4 : Int) (x14_4 : Int), v13 = .int .u8 x13_4 ∧ v14 = .int .i64 x14_4 ∧ Aside0 (paternosterlaw02_CrcTurns.l1 kq x2_3 x8_3 bit_ x12_3 x13_4 x14_4 = some r) ∧ Aside0 (kq ≤ k3) ∧ Aside0 (Kd.R (Kd.int .u8) 5 w' w.heap.size (fun _ => True) (.slice Ao15 x8_3.length co15) x8_3) ∧ Aside0 (Below w.heap.size w w'))
                            case atStart => exact ⟨(1), (0), (by first | rfl | (simp; done) | (simp [*]; done)), (by first | rfl | (simp; done) | (simp [*]; done)), H', ⟨Nat.le_refl _⟩, ⟨by (try simp only [hl8_3]); (with_reducible repeat (first | apply Kd.R_alloc | apply Kd.R_drewN | apply Kd.R_drew)); exact HO_8.out⟩, ⟨by repeat (first | (with_reducible first | exact HB.out | apply below_alloc | apply pw_below_drewN | apply below_drew1) | exact HB.out)⟩⟩
                            case round =>
                              clear H'
                              try clear c1
                              try clear hcv1
                              try clear c2
                              try clear p2
                              try clear hcv2
                              try clear c5
                              try clear p6
                              try clear c8
                              try clear c8b0
                              try clear c8b1
                              try clear c9
                              try clear c11
                              try clear c11b0
                              try clear c11b1
                              try clear c12
                              try clear c14
                              try clear c17
                              try clear c17b0
                              try clear c17b1
                              try clear hcv18
                              try clear hcv19
                              try clear hcv20
                              try clear hcv21
                              try clear c22
                              try clear c23
                              try clear c23b0
                              try clear c23b1
                              try clear c24
                              try clear c24b0
                              try clear c25
                              try clear c25b0
                              try clear c25b1
                              try clear p2
                              try clear p6
                              obtain ⟨x13_4, x14_4, rfl, rfl, HA, HK4, HO_8, HB⟩ := hrel
                              cases gk with
                              | zero => exact absurd HA.out (by simp [paternosterlaw02_CrcTurns.l1])
                              | succ k4 =>
                                have H := HA.out
                                clear HA
                                simp only [paternosterlaw02_CrcTurns.l1] at H
                                by_cases c26 : x14_4 < (Int.tmod (wrap64 (bit_ + x12_3)) 8)
                                · rw [if_pos c26] at H
                                  have c26b0 : decide (x14_4 < (Int.tmod (wrap64 (bit_ + x12_3)) 8)) = true := decide_eq_true c26
                                  clear c26
                                  have H' := Aside0.mk H
                                  clear H
                                  go_wp2
                                  go_roundg k4
                                  case measure => have := HJ5.out; have := HJ12.out; have := HK3.out; have := HK4.out; omega
                                  case rel => exact ⟨((x13_4 * 2) % 256), (wrap64 (x14_4 + 1)), (by first | rfl | (simp; done) | (simp [*]; done)), (by first | rfl | (simp; done) | (simp [*]; done)), H', ⟨by have := HJ5.out; have := HJ12.out; have := HK3.out; have := HK4.out; omega⟩, ⟨by (try simp only [hl8_3]); (with_reducible repeat (first | apply Kd.R_alloc | apply Kd.R_drewN | apply Kd.R_drew)); exact HO_8.out⟩, ⟨by repeat (first | (with_reducible first | exact HB.out | apply below_alloc | apply pw_below_drewN | apply below_drew1) | exact HB.out)⟩⟩
                                · rw [if_neg c26] at H
                                  have c26b0 : decide (x14_4 < (Int.tmod (wrap64 (bit_ + x12_3)) 8)) = false := decide_eq_false c26
                                  clear c26
                                  obtain ⟨ji27, hji27⟩ : ∃ j_ : Int, (wrap64 (Int.tdiv (wrap64 (bit_ + x12_3)) 8)) = j_ := ⟨_, rfl⟩
                                  replace H : (if 0 ≤ (ji27) then (if (ji27) < (x8_3.length : Int) then (paternosterlaw02_CrcTurns.l0 k4 ((Int.tdiv x2_3 2) % 4294967296) (x8_3.set ((ji27) : Int).toNat (Go.bits .xor .u8 (rd x8_3 (ji27)) x13_4)) bit_ (wrap64 (x12_3 + 1))) else (none)) else (none)) = some r := by first | (rw [hji27] at H; exact H) | (simp only [hji27] at H ⊢; exact H)
                                  have hji27w : (IntKind.i64.wrap (Int.tdiv (wrap64 (bit_ + x12_3)) 8)) = ji27 := (i64_w _).trans hji27
                                  by_cases c28 : 0 ≤ (ji27)
                                  · rw [if_pos c28] at H
                                    have c28b0 : decide (0 ≤ (ji27)) = true := decide_eq_true c28
                                    clear c28
                                    by_cases c29 : (ji27) < (x8_3.length : Int)
                                    · rw [if_pos c29] at H
                                      have c29b0 : decide ((ji27) < (x8_3.length : Int)) = true := decide_eq_true c29
                                      clear c29
                                      obtain ⟨y171, hy171⟩ : ∃ y_ : List Int, y_ = (x8_3.set ((ji27) : Int).toNat (Go.bits .xor .u8 (rd x8_3 (ji27)) x13_4)) := ⟨_, rfl⟩
                                      replace H : (paternosterlaw02_CrcTurns.l0 k4 ((Int.tdiv x2_3 2) % 4294967296) y171 bit_ (wrap64 (x12_3 + 1))) = some r := by first | (rw [hy171]; with_reducible exact H) | (have H2_ := (Option.bind_some _ _).symm.trans H; rw [hy171]; with_reducible exact H2_) | (have H2_ := (Option.bind_some _ _).symm.trans H; with_reducible exact H2_) | with_reducible exact H | (rw [hy171]; exact H) | exact H
                                      have Ny171 := Aside0.mk hy171
                                      clear hy171
                                      have H' := Aside0.mk H
                                      clear H
                                      have p170 : 0 ≤ ((ji27) : Int) := of_decide_eq_true (by first | (with_reducible assumption) | assumption)
                                      have q170 : (ji27) < (x8_3.length : Int) := of_decide_eq_true (by first | (with_reducible assumption) | assumption)
                                      obtain ⟨ad170, e170, hx170_0⟩ := Kd.at_int (Kd.R_reads' HO_8.out).2.2 (ji27) p170 q170
                                      cases e170
                                      replace p170 := eq_true p170
                                      replace q170 := eq_true q170
                                      have p30 : 0 ≤ ((ji27) : Int) := of_decide_eq_true (by first | (with_reducible assumption) | assumption)
                                      have q30 : ((ji27) : Int) < ((x8_3.length : Int) : Int) := of_decide_eq_true (by first | (with_reducible assumption) | assumption)
                                      obtain ⟨go30, co30, eo30, gb30, gl30, cl30, HG30⟩ := Kd.R_form HO_8.out (by omega)
                                      (first | cases eo30 | (injection eo30 with ea_ en_ ec_; (first | subst ea_ | (injection ea_ with ea_; subst ea_)); subst ec_; clear en_))
                                      have GB30 := Aside0.mk gb30
                                      have GG30 := Aside0.mk HG30
                                      clear gb30 gl30 HG30
                                      (first | simp only [add_plain] at hx170_0 | skip)
                                      obtain ⟨hx30_0, hf30_0⟩ := Kd.R_celln 0 HO_8.out ((ji27) : Int) p30 q30
                                      replace p30 := eq_true p30
                                      replace q30 := eq_true q30
                                      have HP31 := Kd.R_putg HO_8.out ((ji27) : Int) (Go.bits .xor .u8 (rd x8_3 (ji27)) x13_4)
                                      go_wp2_with (first | ((with_reducible refine gate_store (t := 5) (p := 87) rfl ?_); refine store_event (t := 5) (p := 87) (v := ?vo_w32) (w1 := (wr.setCell ⟨go30, ((ji27) : Int).toNat, none⟩ (.int .u8 (Go.bits .xor .u8 (rd x8_3 (ji27)) x13_4)))) ?hg ?ho ?hn ?hr ?_; (case ho => rfl); (case hg => rfl); (case hn => rfl); (case hr => first | (go_simp; done) | (go_simp; rfl)); intro w32 hw; have hg : wr.grownBy w32 (some go30) := (by rw [hw]; exact HP31.2); have hp_ : Kd.R (Kd.int .u8) 5 w32 w.heap.size (fun _ => True) (.slice (some ⟨go30, 0, none⟩) x8_3.length co15) y171 := (by rw [hw, Ny171.out]; exact HP31.1); clear HP31; have n0_ := Aside0.mk (hp_); have n1_ := Aside0.mk ((by rw [hw]; exact below_set (HB.out) GB30.out : Below w.heap.size w w32)); clear HO_8; clear HB; have HO_8 := n0_; have HB := n1_; clear n0_ n1_; clear hg hw hp_))
                                      (try simp only [← hl8_3])
                                      go_roundg k4
                                      case measure => have := HJ5.out; have := HJ12.out; have := HK3.out; have := HK4.out; omega
                                      case rel => exact ⟨((Int.tdiv x2_3 2) % 4294967296), (y171), (wrap64 (x12_3 + 1)), (by first | rfl | (simp; done) | (simp [*]; done)), (by first | rfl | (simp; done) | (simp [*]; done)), H', ⟨by have := HJ5.out; have := HJ12.out; have := HK3.out; have := HK4.out; omega⟩, ⟨by (try simp only [hl8_3]); (with_reducible repeat (first | apply Kd.R_alloc | apply Kd.R_drewN | apply Kd.R_drew)); exact HO_8.out⟩, ⟨by repeat (first | (with_reducible first | exact HB.out | apply below_alloc | apply pw_below_drewN | apply below_drew1) | exact HB.out)⟩⟩
                                    · rw [if_neg c29] at H
                                      exact absurd H (by simp)
                                  · rw [if_neg c28] at H
                                    exact absurd H (by simp)
                          · rw [if_neg c25] at H
                            have c25b0 : ((Int.tmod x2_3 2) == 1) = false := beq_eq_false_iff_ne.mpr c25
                            have c25b1 : ((Int.tmod x2_3 2) != 1) = true := bne_iff_ne.mpr c25
                            have H' := Aside0.mk H
                            clear H
                            go_wp2
                            (try simp only [← hl8_3])
                            go_roundg k3
                            case measure => have := HJ5.out; have := HJ12.out; have := HK3.out; omega
                            case rel => exact ⟨((Int.tdiv x2_3 2) % 4294967296), (x8_3), (wrap64 (x12_3 + 1)), (by first | rfl | (simp; done) | (simp [*]; done)), (by first | rfl | (simp; done) | (simp [*]; done)), H', ⟨by have := HJ5.out; have := HJ12.out; have := HK3.out; omega⟩, ⟨by (try simp only [hl8_3]); (with_reducible repeat (first | apply Kd.R_alloc | apply Kd.R_drewN | apply Kd.R_drew)); exact HO_8.out⟩, ⟨by repeat (first | (with_reducible first | exact HB.out | apply below_alloc | apply pw_below_drewN | apply below_drew1) | exact HB.out)⟩⟩
                        · rw [if_neg c24] at H
                          have c24b0 : decide (x12_3 < 32) = false := decide_eq_false c24
                          clear c24
                          replace H := Option.bind_eq_some_iff.mp H
                          obtain ⟨⟨t166, t167⟩, A330, H⟩ := H
                          replace H : (some (!t167)) = some r := H
                          have A33 := Aside0.mk A330
                          clear A330
                          obtain rfl := Option.some.inj H
                          go_wp2_with (first | ((with_reducible refine gate_callee (f := 12) rfl ?_); refine goesL_ (some 92) rfl rfl Tryd.func12 (by kernel_rfl) rfl #[.slice Ao15 x8_3.length co15] rfl (by (try simp only [List.map_toArray, List.map_cons, List.map_nil]); first | done | rfl | (simp only [List.length_drop, List.length_take]; rfl)) ?_; (with_reducible refine (crc_Open.calls k3 _ _ x8_3 t166 t167 _ ?side1 ?side2 A33.out (Half.keep HLAID.out (by repeat (first | (with_reducible first | exact HB.out | apply below_alloc | apply pw_below_drewN | apply below_drew1) | exact HB.out)))).mono ?_); (case side1 => repeat (first | exact (Kd.R_reads' HO_8.out).2.2 | (with_reducible refine Kd.C_alloc ?_ _) | (with_reducible refine Kd.C_drewN ?_ _) | (with_reducible refine Kd.C_drew ?_))); (case side2 => exact (Kd.R_reads' HO_8.out).2.1); rintro e w34 ⟨v168, rfl, ho0, hb⟩; refine ⟨_, rfl, ?_⟩; have n0_ := Aside0.mk (Kd.R_elder' (by (with_reducible repeat (first | apply Kd.R_alloc | apply Kd.R_drewN | apply Kd.R_drew)); exact HO_8.out) (Kd.R_base ho0) hb); have n1_ := Aside0.mk (Kd.R_lower (Kd.R_new' ho0 (Kd.R_lt (by (with_reducible repeat (first | apply Kd.R_alloc | apply Kd.R_drewN | apply Kd.R_drew)); exact HO_8.out))) (below_size (by repeat (first | (with_reducible first | exact HB.out | apply below_alloc | apply pw_below_drewN | apply below_drew1) | exact HB.out)))); have n2_ := Aside0.mk (below_step (by repeat (first | (with_reducible first | exact HB.out | apply below_alloc | apply pw_below_drewN | apply below_drew1) | exact HB.out)) hb); clear HO_8; clear HB; have HO_8 := n0_; have HO169 := n1_; have HB := n2_; clear n0_ n1_ n2_; (try clear hb); (try clear hb2); (try clear hk); (try clear hi); (try clear ho0)))
                          go_ret
                          exact ⟨by first | rfl | (simp [errW_none, errW_some] <;> rfl) | (simp [*, errW_none, errW_some] <;> rfl), by repeat (first | (with_reducible first | exact HB.out | apply below_alloc | apply pw_below_drewN | apply below_drew1) | exact HB.out)⟩
          · rw [if_neg c11] at H
            have c11b0 : ((t159.length : Int) == (wrap64 ((l0.length : Int) + 4))) = false := beq_eq_false_iff_ne.mpr c11
            have c11b1 : ((t159.length : Int) != (wrap64 ((l0.length : Int) + 4))) = true := bne_iff_ne.mpr c11
            obtain rfl := Option.some.inj H
            go_wp2_with (first | ((with_reducible refine gate_callee (f := 14) rfl ?_); refine goesL_ (some 28) rfl rfl Tryd.func14 (by kernel_rfl) rfl #[.slice A0 l0.length c0] rfl (by (try simp only [List.map_toArray, List.map_cons, List.map_nil]); first | done | rfl | (simp only [List.length_drop, List.length_take]; rfl)) ?_; (with_reducible refine (crc_Seal.calls kj5 (fun k_ => k_ < w.heap.size) _ _ l0 t159 _ ?side1 A10.out (Half.keep HLAID.out (by repeat (first | (with_reducible first | exact HB.out | apply below_alloc | apply pw_below_drewN | apply below_drew1) | exact HB.out)))).mono ?_); (case side1 => exact Kd.V_mk HC0.out (Kd.F_below (Kd.C_F (Kd.heap_int .u8) HR0.out) (by repeat (first | (with_reducible first | exact HB.out | apply below_alloc | apply pw_below_drewN | apply below_drew1) | exact HB.out)))); rintro e w35 ⟨v160, rfl, ho0, hb⟩; refine ⟨_, rfl, ?_⟩; have n0_ := Aside0.mk (Kd.R_lower (Kd.R_mono (ok' := fun k_ => True) ho0 (fun _ hk_ => trivial)) (below_size (by repeat (first | (with_reducible first | exact HB.out | apply below_alloc | apply pw_below_drewN | apply below_drew1) | exact HB.out)))); have n1_ := Aside0.mk (below_step (by repeat (first | (with_reducible first | exact HB.out | apply below_alloc | apply pw_below_drewN | apply below_drew1) | exact HB.out)) hb); clear HB; have HO161 := n0_; have HB := n1_; clear n0_ n1_; (try clear hb); (try clear hb2); (try clear hk); (try clear hi); (try clear ho0); obtain ⟨Ao36, co36, eo36⟩ := Kd.R_slice HO161.out; subst eo36))
            go_ret
            exact ⟨by first | rfl | (simp [errW_none, errW_some] <;> rfl) | (simp [*, errW_none, errW_some] <;> rfl), by repeat (first | (with_reducible first | exact HB.out | apply below_alloc | apply pw_below_drewN | apply below_drew1) | exact HB.out)⟩
  · replace c5 := Bool.eq_false_iff.mpr c5
    subst c5
    have H1 : (some false) = some r := by rw [if_neg (show ¬ (false = true) by decide)] at H; exact H
    clear H
    have H := H1
    clear H1
    obtain rfl := Option.some.inj H
    go_enter Tryd.func5, Tryd.ntmps5
    go_wp2_with (first | ((with_reducible refine gate_callee (f := 9) rfl ?_); refine goesL_ (some 17) rfl rfl Tryd.func9 (by kernel_rfl) rfl #[] rfl (by (try simp only [List.map_toArray, List.map_cons, List.map_nil]); first | done | rfl | (simp only [List.length_drop, List.length_take]; rfl)) ?_; (with_reducible refine (paternosterlaw02_awake.calls  false _ A4.out (Half.keep HLAID.out (by repeat (first | (with_reducible first | exact HB.out | apply below_alloc | apply pw_below_drewN | apply below_drew1) | exact HB.out)))).mono ?_); rintro e w37 ⟨rfl, hb⟩; refine ⟨_, rfl, ?_⟩; have n0_ := Aside0.mk (below_step (by repeat (first | (with_reducible first | exact HB.out | apply below_alloc | apply pw_below_drewN | apply below_drew1) | exact HB.out)) hb); clear HB; have HB := n0_; clear n0_; (try clear hb); (try clear hb2); (try clear hk); (try clear hi)))
    go_ret
    exact ⟨by first | rfl | (simp [errW_none, errW_some] <;> rfl) | (simp [*, errW_none, errW_some] <;> rfl), by repeat (first | (with_reducible first | exact HB.out | apply below_alloc | apply pw_below_drewN | apply below_drew1) | exact HB.out)⟩

/-- THE ONE PURE STATEMENT of paternosterlaw02_CrcTurns: yours. -/
def paternosterlaw02_CrcTurns.Pure : Prop := ∀ (l0 : List Int) (a1 : Int) (a2 : Int), l0.length ≤ maxLen → l0.length * 1 ≤ 140737488351232 → (∀ x ∈ l0, (Lit.int .u8 x).wf = true) → (Lit.int .u16 a1).wf = true → (Lit.int .u32 a2).wf = true → ∃ k, paternosterlaw02_CrcTurns.f k l0 a1 a2 = some true
theorem paternosterlaw02_CrcTurns.walk : True := trivial

end Go.Proofs.YtmegcockgohkhaaDoor.PAll
