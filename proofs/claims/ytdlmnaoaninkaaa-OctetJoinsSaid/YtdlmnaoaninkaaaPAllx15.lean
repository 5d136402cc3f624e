-- Written by myprint.py: the kit's print.py over this seat's translation, with contracts of my own.
import Derived.Test.YtdlmnaoaninkaaaPAllx0
import Derived.Test.YtdlmnaoaninkaaaPAllx6
import Derived.Test.YtdlmnaoaninkaaaPAllx7
import Derived.Test.YtdlmnaoaninkaaaPAllx8
import Derived.Test.YtdlmnaoaninkaaaPAllx13
import Derived.Test.YtdlmnaoaninkaaaPAllx14
namespace Go.Proofs.Ytdlmnaoaninkaaa.PAll
open Go.RowKit Go.Proofs.YtdlmnaoaninkaaaW.PrintWords Go.Proofs.YtdlmnaoaninkaaaW.PrintLast Go.Proofs.YtdlmnaoaninkaaaW.PrintMore
attribute [local go_sem] max2_int min2_int max_two min_two max_three min_three max_four min_four   -- for this text's walks alone
set_option linter.unusedVariables false
set_option linter.unusedSimpArgs false

/-! ### paternosterlaw01_OctetJoins: function 5 -/
mutual
def paternosterlaw01_OctetJoins.j0 : Nat → List (List Int) → List Int → Bool → Option (Bool)
  | 0, _, _, _ => none
  | k + 1, x0, x1, x23 => if x23 = true then (some true) else (paternosterlaw01_OctetJoins.l0 k x0 x1 (⟨#[]⟩ : ByteArray) 0)
def paternosterlaw01_OctetJoins.l0 : Nat → List (List Int) → List Int → ByteArray → Int → Option (Bool)
  | 0, _, _, _, _ => none
  | k + 1, x0, x1, x6, x7 => if x7 < (x0.length : Int) then (if 0 ≤ x7 then (if ((rd_L2 x0 x7).length : Int) > 600 then (some true) else ((paternosterref01_Row.f (strOfNums (rd_L2 x0 x7))).bind fun t161 => (if x6.size + t161.size ≤ 9223372036854775807 then (paternosterlaw01_OctetJoins.l0 k x0 x1 (x6 ++ t161) (wrap64 (x7 + 1))) else (none)))) else (none)) else ((octet_Part.f x1).bind fun bt162 => ((paternosterref01_Part.f k (strOfNums x1)).bind fun bt166 => (if (bt162.1.length : Int) = (bt166.1.length : Int) then (paternosterlaw01_OctetJoins.j2 k x0 x6 bt162.1 bt166.1 (bt162.2 != bt166.2)) else (paternosterlaw01_OctetJoins.j2 k x0 x6 bt162.1 bt166.1 true))))
def paternosterlaw01_OctetJoins.j2 : Nat → List (List Int) → ByteArray → List (List Int) → List ByteArray → Bool → Option (Bool)
  | 0, _, _, _, _, _ => none
  | k + 1, x0, x6, x8, x10, x64 => if x64 = true then (some false) else (paternosterlaw01_OctetJoins.l1 k x0 x6 x8 x10 0)
def paternosterlaw01_OctetJoins.l1 : Nat → List (List Int) → ByteArray → List (List Int) → List ByteArray → Int → Option (Bool)
  | 0, _, _, _, _, _ => none
  | k + 1, x0, x6, x8, x10, x12 => if x12 < (x8.length : Int) then (if 0 ≤ x12 then (if x12 < (x10.length : Int) then (if (strOfNums (rd_L2 x8 x12)).toList = (rdOf ByteArray.empty x10 x12).toList then (paternosterlaw01_OctetJoins.l1 k x0 x6 x8 x10 (wrap64 (x12 + 1))) else (some false)) else (none)) else (none)) else ((octet_Join.f k x0).bind fun t172 => (some ((strOfNums t172).toList == x6.toList)))
end
def paternosterlaw01_OctetJoins.f (k : Nat) (l0 : List (List Int)) (l1 : List Int) : Option (Bool) := (paternosterlaw01_awake.f).bind fun t158 => (if t158 = true then (if (l0.length : Int) > 20 then (paternosterlaw01_OctetJoins.j0 k l0 l1 true) else (paternosterlaw01_OctetJoins.j0 k l0 l1 (decide ((l1.length : Int) > 600)))) else (some false))
theorem paternosterlaw01_OctetJoins.mono_l : ∀ k, (∀ y0 y1 y2, LeO (paternosterlaw01_OctetJoins.j0 k y0 y1 y2) (paternosterlaw01_OctetJoins.j0 (k + 1) y0 y1 y2)) ∧ (∀ y0 y1 y2 y3, LeO (paternosterlaw01_OctetJoins.l0 k y0 y1 y2 y3) (paternosterlaw01_OctetJoins.l0 (k + 1) y0 y1 y2 y3)) ∧ (∀ y0 y1 y2 y3 y4, LeO (paternosterlaw01_OctetJoins.j2 k y0 y1 y2 y3 y4) (paternosterlaw01_OctetJoins.j2 (k + 1) y0 y1 y2 y3 y4)) ∧ (∀ y0 y1 y2 y3 y4, LeO (paternosterlaw01_OctetJoins.l1 k y0 y1 y2 y3 y4) (paternosterlaw01_OctetJoins.l1 (k + 1) y0 y1 y2 y3 y4))
  | 0 => ⟨fun _ _ _ r h => by simp [paternosterlaw01_OctetJoins.j0] at h, fun _ _ _ _ r h => by simp [paternosterlaw01_OctetJoins.l0] at h, fun _ _ _ _ _ r h => by simp [paternosterlaw01_OctetJoins.j2] at h, fun _ _ _ _ _ r h => by simp [paternosterlaw01_OctetJoins.l1] at h⟩
  | k + 1 => by
    obtain ⟨ih0, ih1, ih2, ih3⟩ := paternosterlaw01_OctetJoins.mono_l k
    refine ⟨?_, ?_, ?_, ?_⟩
    · intro y0 y1 y2
      unfold paternosterlaw01_OctetJoins.j0
      repeat' first
      | (with_reducible exact ih0 _ _ _)
      | (with_reducible exact ih1 _ _ _ _)
      | (with_reducible exact ih2 _ _ _ _ _)
      | (with_reducible exact ih3 _ _ _ _ _)
      | (with_reducible exact octet_Join.mono _ _)
      | (with_reducible exact paternosterref01_Part.mono _ _)
      | (with_reducible exact LeO.refl _)
      | (with_reducible exact LeO.none _)
      | (with_reducible refine LeO.ite ?_ ?_)
      | (with_reducible refine LeO.bind ?_ (fun _ => ?_))
      | exact ih0 _ _ _
      | exact ih1 _ _ _ _
      | exact ih2 _ _ _ _ _
      | exact ih3 _ _ _ _ _
      | exact octet_Join.mono _ _
      | exact paternosterref01_Part.mono _ _
      | exact LeO.none _
      | refine LeO.ite ?_ ?_
      | refine LeO.bind ?_ (fun _ => ?_)
    · intro y0 y1 y2 y3
      unfold paternosterlaw01_OctetJoins.l0
      repeat' first
      | (with_reducible exact ih0 _ _ _)
      | (with_reducible exact ih1 _ _ _ _)
      | (with_reducible exact ih2 _ _ _ _ _)
      | (with_reducible exact ih3 _ _ _ _ _)
      | (with_reducible exact octet_Join.mono _ _)
      | (with_reducible exact paternosterref01_Part.mono _ _)
      | (with_reducible exact LeO.refl _)
      | (with_reducible exact LeO.none _)
      | (with_reducible refine LeO.ite ?_ ?_)
      | (with_reducible refine LeO.bind ?_ (fun _ => ?_))
      | exact ih0 _ _ _
      | exact ih1 _ _ _ _
      | exact ih2 _ _ _ _ _
      | exact ih3 _ _ _ _ _
      | exact octet_Join.mono _ _
      | exact paternosterref01_Part.mono _ _
      | exact LeO.none _
      | refine LeO.ite ?_ ?_
      | refine LeO.bind ?_ (fun _ => ?_)
    · intro y0 y1 y2 y3 y4
      unfold paternosterlaw01_OctetJoins.j2
      repeat' first
      | (with_reducible exact ih0 _ _ _)
      | (with_reducible exact ih1 _ _ _ _)
      | (with_reducible exact ih2 _ _ _ _ _)
      | (with_reducible exact ih3 _ _ _ _ _)
      | (with_reducible exact octet_Join.mono _ _)
      | (with_reducible exact paternosterref01_Part.mono _ _)
      | (with_reducible exact LeO.refl _)
      | (with_reducible exact LeO.none _)
      | (with_reducible refine LeO.ite ?_ ?_)
      | (with_reducible refine LeO.bind ?_ (fun _ => ?_))
      | exact ih0 _ _ _
      | exact ih1 _ _ _ _
      | exact ih2 _ _ _ _ _
      | exact ih3 _ _ _ _ _
      | exact octet_Join.mono _ _
      | exact paternosterref01_Part.mono _ _
      | exact LeO.none _
      | refine LeO.ite ?_ ?_
      | refine LeO.bind ?_ (fun _ => ?_)
    · intro y0 y1 y2 y3 y4
      unfold paternosterlaw01_OctetJoins.l1
      repeat' first
      | (with_reducible exact ih0 _ _ _)
      | (with_reducible exact ih1 _ _ _ _)
      | (with_reducible exact ih2 _ _ _ _ _)
      | (with_reducible exact ih3 _ _ _ _ _)
      | (with_reducible exact octet_Join.mono _ _)
      | (with_reducible exact paternosterref01_Part.mono _ _)
      | (with_reducible exact LeO.refl _)
      | (with_reducible exact LeO.none _)
      | (with_reducible refine LeO.ite ?_ ?_)
      | (with_reducible refine LeO.bind ?_ (fun _ => ?_))
      | exact ih0 _ _ _
      | exact ih1 _ _ _ _
      | exact ih2 _ _ _ _ _
      | exact ih3 _ _ _ _ _
      | exact octet_Join.mono _ _
      | exact paternosterref01_Part.mono _ _
      | exact LeO.none _
      | refine LeO.ite ?_ ?_
      | refine LeO.bind ?_ (fun _ => ?_)
theorem paternosterlaw01_OctetJoins.mono : ∀ a0 a1 k, LeO (paternosterlaw01_OctetJoins.f k a0 a1) (paternosterlaw01_OctetJoins.f (k + 1) a0 a1) := by
  intro a0 a1 k
  obtain ⟨ih0, ih1, ih2, ih3⟩ := paternosterlaw01_OctetJoins.mono_l k
  unfold paternosterlaw01_OctetJoins.f
  repeat' first
      | (with_reducible exact ih0 _ _ _)
      | (with_reducible exact ih1 _ _ _ _)
      | (with_reducible exact ih2 _ _ _ _ _)
      | (with_reducible exact ih3 _ _ _ _ _)
      | (with_reducible exact octet_Join.mono _ _)
      | (with_reducible exact paternosterref01_Part.mono _ _)
      | (with_reducible exact LeO.refl _)
      | (with_reducible exact LeO.none _)
      | (with_reducible refine LeO.ite ?_ ?_)
      | (with_reducible refine LeO.bind ?_ (fun _ => ?_))
      | exact ih0 _ _ _
      | exact ih1 _ _ _ _
      | exact ih2 _ _ _ _ _
      | exact ih3 _ _ _ _ _
      | exact octet_Join.mono _ _
      | exact paternosterref01_Part.mono _ _
      | exact LeO.none _
      | refine LeO.ite ?_ ?_
      | refine LeO.bind ?_ (fun _ => ?_)
set_option maxHeartbeats 8000000 in
set_option maxRecDepth 100000 in
theorem paternosterlaw01_OctetJoins.calls (k : Nat) (A0 : Option Addr) (c0 : Nat) (l0 : List (List Int)) (A1 : Option Addr) (c1 : Nat) (l1 : List Int) (r : Bool) (w : World) (hr0 : Kd.C (Kd.slice 5 (Kd.int .u8)) w A0 l0.length l0) (hc0 : l0.length ≤ c0) (hr1 : Kd.C (Kd.int .u8) w A1 l1.length l1) (hc1 : l1.length ≤ c1) (h : paternosterlaw01_OctetJoins.f k l0 l1 = some r) :
    Calls Try.prog 5 #[.slice A0 l0.length c0, .slice A1 l1.length c1] w fun e w' => e = .returned (.bool r) ∧ Below w.heap.size w w' := by
  have HR0 := Aside0.mk hr0
  have HC0 := Aside0.mk hc0
  clear hr0 hc0
  have HR1 := Aside0.mk hr1
  have HC1 := Aside0.mk hc1
  clear hr1 hc1
  have HB := Aside0.mk (Below.refl w.heap.size w)
  have H : ((paternosterlaw01_awake.f).bind fun t158 => (if t158 = true then (if (l0.length : Int) > 20 then (paternosterlaw01_OctetJoins.j0 k l0 l1 true) else (paternosterlaw01_OctetJoins.j0 k l0 l1 (decide ((l1.length : Int) > 600)))) else (some false))) = some r := h
  clear h
  replace H := Option.bind_eq_some_iff.mp H
  obtain ⟨t158, A30, H⟩ := H
  replace H : (if t158 = true then (if (l0.length : Int) > 20 then (paternosterlaw01_OctetJoins.j0 k l0 l1 true) else (paternosterlaw01_OctetJoins.j0 k l0 l1 (decide ((l1.length : Int) > 600)))) else (some false)) = some r := H
  have A3 := Aside0.mk A30
  clear A30
  by_cases c4 : t158 = true
  · subst c4
    have H1 : (if (l0.length : Int) > 20 then (paternosterlaw01_OctetJoins.j0 k l0 l1 true) else (paternosterlaw01_OctetJoins.j0 k l0 l1 (decide ((l1.length : Int) > 600)))) = some r := by rw [if_pos rfl] at H; exact H
    clear H
    have H := H1
    clear H1
    have HC5 := Aside0.mk H
    clear H
    go_enter Try.func5, Try.ntmps5
    go_upto_region 4 with (first | (go_at_call 12; (with_reducible refine (paternosterlaw01_awake.calls  true _ A3.out).mono ?_); rintro e w6 ⟨rfl, hb⟩; have n0_ := Aside0.mk (below_step (by repeat (first | (with_reducible first | exact HB.out | apply below_alloc | apply pw_below_drewN | apply below_drew1) | exact HB.out)) hb); clear HB; have HB := n0_; clear n0_; (try clear hb); (try clear hb2); (try clear hk); (try clear hi)))
    repeat (go_quiet (first | (go_at_call 12; (with_reducible refine (paternosterlaw01_awake.calls  true _ A3.out).mono ?_); rintro e w6 ⟨rfl, hb⟩; have n0_ := Aside0.mk (below_step (by repeat (first | (with_reducible first | exact HB.out | apply below_alloc | apply pw_below_drewN | apply below_drew1) | exact HB.out)) hb); clear HB; have HB := n0_; clear n0_; (try clear hb); (try clear hb2); (try clear hk); (try clear hi))); go_upto_region 4 with (first | (go_at_call 12; (with_reducible refine (paternosterlaw01_awake.calls  true _ A3.out).mono ?_); rintro e w6 ⟨rfl, hb⟩; have n0_ := Aside0.mk (below_step (by repeat (first | (with_reducible first | exact HB.out | apply below_alloc | apply pw_below_drewN | apply below_drew1) | exact HB.out)) hb); clear HB; have HB := n0_; clear n0_; (try clear hb); (try clear hb2); (try clear hk); (try clear hi))))
    (try simp only [Act.put, List.setIfInBounds_toArray, List.set_cons_zero, List.set_cons_succ])
    go_cut [23] (fun v23 wc => ∃ (kq : Nat) (x23_4 : Bool), v23 = .bool x23_4 ∧ Aside0 (paternosterlaw01_OctetJoins.j0 kq l0 l1 x23_4 = some r) ∧ Aside0 (kq ≤ k) ∧ Aside0 (Below w.heap.size w wc))
    case first =>
      have H := HC5.out
      clear HC5
      by_cases c7 : (l0.length : Int) > 20
      · rw [if_pos c7] at H
        have c7b0 : decide (20 < (l0.length : Int)) = true := decide_eq_true c7
        have c7b1 : decide (20 < l0.length) = true := decide_eq_true (by omega)
        clear c7
        (first | rw [c7b0] | (simp only [i64_w, i32_w]; rw [c7b0]) | skip)
        have H' := Aside0.mk H
        clear H
        go_wp2
        repeat (go_quiet (fail); try go_wp2)
        go_meet
        case rel => exact ⟨_, (true), (by first | rfl | (simp; done) | (simp [*]; done)), H', ⟨by first | omega | exact Nat.le_refl _⟩, ⟨by repeat (first | (with_reducible first | exact HB.out | apply below_alloc | apply pw_below_drewN | apply below_drew1) | exact HB.out)⟩⟩
      · rw [if_neg c7] at H
        have c7b0 : decide (20 < (l0.length : Int)) = false := decide_eq_false c7
        have c7b1 : decide (20 < l0.length) = false := decide_eq_false (by omega)
        clear c7
        (first | rw [c7b0] | (simp only [i64_w, i32_w]; rw [c7b0]) | skip)
        have H' := Aside0.mk H
        clear H
        go_wp2
        repeat (go_quiet (fail); try go_wp2)
        go_meet
        case rel => exact ⟨_, (decide ((l1.length : Int) > 600)), (by first | rfl | (simp; done) | (simp [*]; done)), H', ⟨by first | omega | exact Nat.le_refl _⟩, ⟨by repeat (first | (with_reducible first | exact HB.out | apply below_alloc | apply pw_below_drewN | apply below_drew1) | exact HB.out)⟩⟩
    case rest =>
      clear HC5
      try clear c1
      try clear p2
      try clear c4
      try clear c5
      try clear c7
      try clear c7b0
      try clear c7b1
      obtain ⟨kq, x23_4, rfl, HA, HJ4, HB⟩ := hcut
      cases kq with
      | zero => exact absurd HA.out (by simp [paternosterlaw01_OctetJoins.j0])
      | succ kj4 =>
        have H := HA.out
        clear HA
        simp only [paternosterlaw01_OctetJoins.j0] at H
        by_cases c8 : x23_4 = true
        · subst c8
          have H1 : (some true) = some r := by rw [if_pos rfl] at H; exact H
          clear H
          have H := H1
          clear H1
          obtain rfl := Option.some.inj H
          go_wp2
          repeat (go_quiet (fail); try go_wp2)
          go_ret
          exact ⟨by first | rfl | (simp [errW_none, errW_some] <;> rfl) | (simp [*, errW_none, errW_some] <;> rfl), by repeat (first | (with_reducible first | exact HB.out | apply below_alloc | apply pw_below_drewN | apply below_drew1) | exact HB.out)⟩
        · replace c8 := Bool.eq_false_iff.mpr c8
          subst c8
          have H1 : (paternosterlaw01_OctetJoins.l0 kj4 l0 l1 (⟨#[]⟩ : ByteArray) 0) = some r := by rw [if_neg (show ¬ (false = true) by decide)] at H; exact H
          clear H
          have H := H1
          clear H1
          have H' := Aside0.mk H
          clear H
          go_wp2
          repeat (go_quiet (fail); try go_wp2)
          go_loopg [6, 7] kj4 (fun kq v6 v7 w' => ∃ (x6_2 : ByteArray) (x7_2 : Int), v6 = .string x6_2 ∧ v7 = .int .i64 x7_2 ∧ Aside0 (paternosterlaw01_OctetJoins.l0 kq l0 l1 x6_2 x7_2 = some r) ∧ Aside0 (kq ≤ kj4) ∧ Aside0 (Below w.heap.size w w'))
          case atStart => exact ⟨((⟨#[]⟩ : ByteArray)), (0), (by first | rfl | (simp; done) | (simp [*]; done)), (by first | rfl | (simp; done) | (simp [*]; done)), H', ⟨Nat.le_refl _⟩, ⟨by repeat (first | (with_reducible first | exact HB.out | apply below_alloc | apply pw_below_drewN | apply below_drew1) | exact HB.out)⟩⟩
          case round =>
            clear H'
            try clear c1
            try clear p2
            try clear c4
            try clear c5
            try clear c7
            try clear c7b0
            try clear c7b1
            try clear c8
            try clear p2
            obtain ⟨x6_2, x7_2, rfl, rfl, HA, HK2, HB⟩ := hrel
            cases gk with
            | zero => exact absurd HA.out (by simp [paternosterlaw01_OctetJoins.l0])
            | succ k2 =>
              have H := HA.out
              clear HA
              simp only [paternosterlaw01_OctetJoins.l0] at H
              by_cases c9 : x7_2 < (l0.length : Int)
              · rw [if_pos c9] at H
                have c9b0 : decide (x7_2 < (l0.length : Int)) = true := decide_eq_true c9
                clear c9
                by_cases c10 : 0 ≤ x7_2
                · rw [if_pos c10] at H
                  have c10b0 : decide (0 ≤ x7_2) = true := decide_eq_true c10
                  clear c10
                  by_cases c11 : ((rd_L2 l0 x7_2).length : Int) > 600
                  · rw [if_pos c11] at H
                    have c11b0 : decide (600 < ((rd_L2 l0 x7_2).length : Int)) = true := decide_eq_true c11
                    have c11b1 : decide (600 < (rd_L2 l0 x7_2).length) = true := decide_eq_true (by omega)
                    clear c11
                    obtain rfl := Option.some.inj H
                    have p159 : 0 ≤ (x7_2 : Int) := of_decide_eq_true (by first | (with_reducible assumption) | assumption)
                    have q159 : x7_2 < (l0.length : Int) := of_decide_eq_true (by first | (with_reducible assumption) | assumption)
                    obtain ⟨ad159, A159_0, c159_0, e159, hx159_0, hl159_0, hi159_0⟩ := at_L2 HR0.out x7_2 p159 q159
                    cases e159
                    replace hx159_0 := (HB.out.cell (World.block_lt_of_cell? w _ hx159_0)).trans hx159_0
                    have HR159_0 := Aside0.mk hi159_0
                    have HC159_0 := Aside0.mk hl159_0
                    clear hi159_0 hl159_0
                    replace p159 := eq_true p159
                    replace q159 := eq_true q159
                    go_wp2
                    repeat (go_quiet (fail); try go_wp2)
                    go_ret
                    exact ⟨by first | rfl | (simp [errW_none, errW_some] <;> rfl) | (simp [*, errW_none, errW_some] <;> rfl), by repeat (first | (with_reducible first | exact HB.out | apply below_alloc | apply pw_below_drewN | apply below_drew1) | exact HB.out)⟩
                  · rw [if_neg c11] at H
                    have c11b0 : decide (600 < ((rd_L2 l0 x7_2).length : Int)) = false := decide_eq_false c11
                    have c11b1 : decide (600 < (rd_L2 l0 x7_2).length) = false := decide_eq_false (by omega)
                    clear c11
                    replace H := Option.bind_eq_some_iff.mp H
                    obtain ⟨t161, A120, H⟩ := H
                    replace H : (if x6_2.size + t161.size ≤ 9223372036854775807 then (paternosterlaw01_OctetJoins.l0 k2 l0 l1 (x6_2 ++ t161) (wrap64 (x7_2 + 1))) else (none)) = some r := H
                    have A12 := Aside0.mk A120
                    clear A120
                    by_cases c13 : x6_2.size + t161.size ≤ 9223372036854775807
                    · rw [if_pos c13] at H
                      have c13b0 := eq_true c13
                      have c13b1 : decide (x6_2.size + t161.size ≤ 9223372036854775807) = true := decide_eq_true c13
                      try have c13b2 : (9223372036854775807 < x6_2.size + t161.size) = False := eq_false (Nat.not_lt.2 c13)
                      have H' := Aside0.mk H
                      clear H
                      have p159 : 0 ≤ (x7_2 : Int) := of_decide_eq_true (by first | (with_reducible assumption) | assumption)
                      have q159 : x7_2 < (l0.length : Int) := of_decide_eq_true (by first | (with_reducible assumption) | assumption)
                      obtain ⟨ad159, A159_0, c159_0, e159, hx159_0, hl159_0, hi159_0⟩ := at_L2 HR0.out x7_2 p159 q159
                      cases e159
                      replace hx159_0 := (HB.out.cell (World.block_lt_of_cell? w _ hx159_0)).trans hx159_0
                      have HR159_0 := Aside0.mk hi159_0
                      have HC159_0 := Aside0.mk hl159_0
                      clear hi159_0 hl159_0
                      replace p159 := eq_true p159
                      replace q159 := eq_true q159
                      have p160 : 0 ≤ (x7_2 : Int) := of_decide_eq_true (by first | (with_reducible assumption) | assumption)
                      have q160 : x7_2 < (l0.length : Int) := of_decide_eq_true (by first | (with_reducible assumption) | assumption)
                      obtain ⟨ad160, A160_0, c160_0, e160, hx160_0, hl160_0, hi160_0⟩ := at_L2 HR0.out x7_2 p160 q160
                      obtain rfl : ad159 = ad160 := (by injection e160)
                      replace hx160_0 := (HB.out.cell (World.block_lt_of_cell? w _ hx160_0)).trans hx160_0
                      have HR160_0 := Aside0.mk hi160_0
                      have HC160_0 := Aside0.mk hl160_0
                      clear hi160_0 hl160_0
                      replace p160 := eq_true p160
                      replace q160 := eq_true q160
                      have ea_ := Option.some.inj (hx159_0.symm.trans hx160_0)
                      injection ea_ with ea_ en_ ec_
                      subst ea_
                      subst ec_
                      clear en_
                      have hcv14 := Kd.C_string (P := Try.prog) (A := A159_0) (c := c159_0) Try.underlying26 Try.underlying5 Try.underlying9 (Kd.C_below HR160_0.out HB.out)
                      have hcvq14 := fun n_ : Nat => Kd.C_string (P := Try.prog) (A := A159_0) (c := c159_0) Try.underlying26 Try.underlying5 Try.underlying9 (Kd.C_drewN (Kd.C_below HR160_0.out HB.out) n_)
                      go_wp2_with (first | (go_at_call 17; (with_reducible refine (paternosterref01_Row.calls (strOfNums (rd_L2 l0 x7_2)) t161 _ A12.out).mono ?_); rintro e w15 ⟨rfl, hb⟩; have n0_ := Aside0.mk (below_step (by repeat (first | (with_reducible first | exact HB.out | apply below_alloc | apply pw_below_drewN | apply below_drew1) | exact HB.out)) hb); clear HB; have HB := n0_; clear n0_; (try clear hb); (try clear hb2); (try clear hk); (try clear hi)))
                      repeat (go_quiet (first | (go_at_call 17; (with_reducible refine (paternosterref01_Row.calls (strOfNums (rd_L2 l0 x7_2)) t161 _ A12.out).mono ?_); rintro e w15 ⟨rfl, hb⟩; have n0_ := Aside0.mk (below_step (by repeat (first | (with_reducible first | exact HB.out | apply below_alloc | apply pw_below_drewN | apply below_drew1) | exact HB.out)) hb); clear HB; have HB := n0_; clear n0_; (try clear hb); (try clear hb2); (try clear hk); (try clear hi))); try go_wp2_with (first | (go_at_call 17; (with_reducible refine (paternosterref01_Row.calls (strOfNums (rd_L2 l0 x7_2)) t161 _ A12.out).mono ?_); rintro e w15 ⟨rfl, hb⟩; have n0_ := Aside0.mk (below_step (by repeat (first | (with_reducible first | exact HB.out | apply below_alloc | apply pw_below_drewN | apply below_drew1) | exact HB.out)) hb); clear HB; have HB := n0_; clear n0_; (try clear hb); (try clear hb2); (try clear hk); (try clear hi))))
                      go_roundg k2
                      case measure => have := HJ4.out; have := HK2.out; omega
                      case rel => exact ⟨(x6_2 ++ t161), (wrap64 (x7_2 + 1)), (by first | rfl | (simp; done) | (simp [*]; done)), (by first | rfl | (simp; done) | (simp [*]; done)), H', ⟨by have := HJ4.out; have := HK2.out; omega⟩, ⟨by repeat (first | (with_reducible first | exact HB.out | apply below_alloc | apply pw_below_drewN | apply below_drew1) | exact HB.out)⟩⟩
                    · rw [if_neg c13] at H
                      exact absurd H (by simp)
                · rw [if_neg c10] at H
                  exact absurd H (by simp)
              · rw [if_neg c9] at H
                have c9b0 : decide (x7_2 < (l0.length : Int)) = false := decide_eq_false c9
                clear c9
                replace H := Option.bind_eq_some_iff.mp H
                obtain ⟨⟨t162, t165⟩, A160, H⟩ := H
                replace H : ((paternosterref01_Part.f k2 (strOfNums l1)).bind fun bt166 => (if (t162.length : Int) = (bt166.1.length : Int) then (paternosterlaw01_OctetJoins.j2 k2 l0 x6_2 t162 bt166.1 (t165 != bt166.2)) else (paternosterlaw01_OctetJoins.j2 k2 l0 x6_2 t162 bt166.1 true))) = some r := H
                have A16 := Aside0.mk A160
                clear A160
                replace H := Option.bind_eq_some_iff.mp H
                obtain ⟨⟨t166, t167⟩, A170, H⟩ := H
                replace H : (if (t162.length : Int) = (t166.length : Int) then (paternosterlaw01_OctetJoins.j2 k2 l0 x6_2 t162 t166 (t165 != t167)) else (paternosterlaw01_OctetJoins.j2 k2 l0 x6_2 t162 t166 true)) = some r := H
                have A17 := Aside0.mk A170
                clear A170
                have HC18 := Aside0.mk H
                clear H
                go_upto_region 15 with (first | (go_at_call 18; (with_reducible refine (octet_Part.calls _ _ l1 t162 t165 _ ?side1 ?side2 A16.out).mono ?_); (case side1 => repeat (first | exact (Kd.C_below HR1.out HB.out) | (with_reducible refine Kd.C_alloc ?_ _) | (with_reducible refine Kd.C_drewN ?_ _) | (with_reducible refine Kd.C_drew ?_))); (case side2 => exact HC1.out); rintro e w19 ⟨v163, rfl, ho0, hb⟩; have n0_ := Aside0.mk (Kd.N_lower (Kd.N_mono (ok' := fun k_ => True) ho0 (fun k_ hk_ => trivial)) (below_size (by repeat (first | (with_reducible first | exact HB.out | apply below_alloc | apply pw_below_drewN | apply below_drew1) | exact HB.out)))); have n1_ := Aside0.mk (below_step (by repeat (first | (with_reducible first | exact HB.out | apply below_alloc | apply pw_below_drewN | apply below_drew1) | exact HB.out)) hb); clear HB; have HO164 := n0_; have HB := n1_; clear n0_ n1_; (try clear hb); (try clear hb2); (try clear hk); (try clear hi); (try clear ho0); have hcv20 := Kd.C_string (P := Try.prog) (A := A1) (c := c1) Try.underlying26 Try.underlying5 Try.underlying9 (Kd.C_below HR1.out HB.out)) | (go_at_call 19; (with_reducible refine (paternosterref01_Part.calls k2 (strOfNums l1) t166 t167 _ A17.out).mono ?_); rintro e w21 ⟨v168, rfl, ho0, hb⟩; have n0_ := Aside0.mk (Kd.N_elder' (by (with_reducible repeat (first | apply Kd.N_alloc | apply Kd.N_drewN | apply Kd.N_drew)); exact HO164.out) (Kd.R_base ho0) hb); have n1_ := Aside0.mk (Kd.R_lower ho0 (below_size (by repeat (first | (with_reducible first | exact HB.out | apply below_alloc | apply pw_below_drewN | apply below_drew1) | exact HB.out)))); have n2_ := Aside0.mk (below_step (by repeat (first | (with_reducible first | exact HB.out | apply below_alloc | apply pw_below_drewN | apply below_drew1) | exact HB.out)) hb); clear HO164; clear HB; have HO164 := n0_; have HO169 := n1_; have HB := n2_; clear n0_ n1_ n2_; (try clear hb); (try clear hb2); (try clear hk); (try clear hi); (try clear ho0)))
                repeat (go_quiet (first | (go_at_call 18; (with_reducible refine (octet_Part.calls _ _ l1 t162 t165 _ ?side1 ?side2 A16.out).mono ?_); (case side1 => repeat (first | exact (Kd.C_below HR1.out HB.out) | (with_reducible refine Kd.C_alloc ?_ _) | (with_reducible refine Kd.C_drewN ?_ _) | (with_reducible refine Kd.C_drew ?_))); (case side2 => exact HC1.out); rintro e w19 ⟨v163, rfl, ho0, hb⟩; have n0_ := Aside0.mk (Kd.N_lower (Kd.N_mono (ok' := fun k_ => True) ho0 (fun k_ hk_ => trivial)) (below_size (by repeat (first | (with_reducible first | exact HB.out | apply below_alloc | apply pw_below_drewN | apply below_drew1) | exact HB.out)))); have n1_ := Aside0.mk (below_step (by repeat (first | (with_reducible first | exact HB.out | apply below_alloc | apply pw_below_drewN | apply below_drew1) | exact HB.out)) hb); clear HB; have HO164 := n0_; have HB := n1_; clear n0_ n1_; (try clear hb); (try clear hb2); (try clear hk); (try clear hi); (try clear ho0); have hcv20 := Kd.C_string (P := Try.prog) (A := A1) (c := c1) Try.underlying26 Try.underlying5 Try.underlying9 (Kd.C_below HR1.out HB.out)) | (go_at_call 19; (with_reducible refine (paternosterref01_Part.calls k2 (strOfNums l1) t166 t167 _ A17.out).mono ?_); rintro e w21 ⟨v168, rfl, ho0, hb⟩; have n0_ := Aside0.mk (Kd.N_elder' (by (with_reducible repeat (first | apply Kd.N_alloc | apply Kd.N_drewN | apply Kd.N_drew)); exact HO164.out) (Kd.R_base ho0) hb); have n1_ := Aside0.mk (Kd.R_lower ho0 (below_size (by repeat (first | (with_reducible first | exact HB.out | apply below_alloc | apply pw_below_drewN | apply below_drew1) | exact HB.out)))); have n2_ := Aside0.mk (below_step (by repeat (first | (with_reducible first | exact HB.out | apply below_alloc | apply pw_below_drewN | apply below_drew1) | exact HB.out)) hb); clear HO164; clear HB; have HO164 := n0_; have HO169 := n1_; have HB := n2_; clear n0_ n1_ n2_; (try clear hb); (try clear hb2); (try clear hk); (try clear hi); (try clear ho0))); go_upto_region 15 with (first | (go_at_call 18; (with_reducible refine (octet_Part.calls _ _ l1 t162 t165 _ ?side1 ?side2 A16.out).mono ?_); (case side1 => repeat (first | exact (Kd.C_below HR1.out HB.out) | (with_reducible refine Kd.C_alloc ?_ _) | (with_reducible refine Kd.C_drewN ?_ _) | (with_reducible refine Kd.C_drew ?_))); (case side2 => exact HC1.out); rintro e w19 ⟨v163, rfl, ho0, hb⟩; have n0_ := Aside0.mk (Kd.N_lower (Kd.N_mono (ok' := fun k_ => True) ho0 (fun k_ hk_ => trivial)) (below_size (by repeat (first | (with_reducible first | exact HB.out | apply below_alloc | apply pw_below_drewN | apply below_drew1) | exact HB.out)))); have n1_ := Aside0.mk (below_step (by repeat (first | (with_reducible first | exact HB.out | apply below_alloc | apply pw_below_drewN | apply below_drew1) | exact HB.out)) hb); clear HB; have HO164 := n0_; have HB := n1_; clear n0_ n1_; (try clear hb); (try clear hb2); (try clear hk); (try clear hi); (try clear ho0); have hcv20 := Kd.C_string (P := Try.prog) (A := A1) (c := c1) Try.underlying26 Try.underlying5 Try.underlying9 (Kd.C_below HR1.out HB.out)) | (go_at_call 19; (with_reducible refine (paternosterref01_Part.calls k2 (strOfNums l1) t166 t167 _ A17.out).mono ?_); rintro e w21 ⟨v168, rfl, ho0, hb⟩; have n0_ := Aside0.mk (Kd.N_elder' (by (with_reducible repeat (first | apply Kd.N_alloc | apply Kd.N_drewN | apply Kd.N_drew)); exact HO164.out) (Kd.R_base ho0) hb); have n1_ := Aside0.mk (Kd.R_lower ho0 (below_size (by repeat (first | (with_reducible first | exact HB.out | apply below_alloc | apply pw_below_drewN | apply below_drew1) | exact HB.out)))); have n2_ := Aside0.mk (below_step (by repeat (first | (with_reducible first | exact HB.out | apply below_alloc | apply pw_below_drewN | apply below_drew1) | exact HB.out)) hb); clear HO164; clear HB; have HO164 := n0_; have HO169 := n1_; have HB := n2_; clear n0_ n1_ n2_; (try clear hb); (try clear hb2); (try clear hk); (try clear hi); (try clear ho0))))
                (try simp only [Act.put, List.setIfInBounds_toArray, List.set_cons_zero, List.set_cons_succ])
                go_cut [64] (fun v64 wc => ∃ (kq : Nat) (x64_17 : Bool), v64 = .bool x64_17 ∧ Aside0 (paternosterlaw01_OctetJoins.j2 kq l0 x6_2 t162 t166 x64_17 = some r) ∧ Aside0 (kq ≤ k2) ∧ Aside0 (Kd.N (Kd.slice 5 (Kd.int .u8)) 26 wc w.heap.size (fun k_ => some k_ ≠ (v168 : Value).ownBlock) v163 t162) ∧ Aside0 (Kd.R Kd.string 9 wc w.heap.size (fun _ => True) v168 t166) ∧ Aside0 (Below w.heap.size w wc))
                case first =>
                  have H := HC18.out
                  clear HC18
                  by_cases c22 : (t162.length : Int) = (t166.length : Int)
                  · rw [if_pos c22] at H
                    have c22b0 : ((t162.length : Int) == (t166.length : Int)) = true := beq_iff_eq.mpr c22
                    have c22b1 : ((t162.length : Int) != (t166.length : Int)) = false := bne_eq_false_iff_eq.mpr c22
                    have c22b2 : (t162.length == t166.length) = true := by first | simpa using c22 | (simp at c22 ⊢; omega)
                    clear c22
                    (first | rw [c22b0] | (simp only [i64_w, i32_w]; rw [c22b0]) | skip)
                    have H' := Aside0.mk H
                    clear H
                    obtain ⟨Ao23, co23, eo23⟩ := Kd.N_slice HO164.out
                    subst eo23
                    obtain ⟨Ao24, co24, eo24⟩ := Kd.R_slice HO169.out
                    subst eo24
                    go_wp2
                    repeat (go_quiet (fail); try go_wp2)
                    go_meet
                    case rel => exact ⟨_, ((t165 != t167)), (by first | rfl | (simp; done) | (simp [*]; done)), H', ⟨by have := HJ4.out; have := HK2.out; first | omega | exact Nat.le_refl _⟩, ⟨by (with_reducible repeat (first | apply Kd.N_alloc | apply Kd.N_drewN | apply Kd.N_drew)); exact Kd.N_mono HO164.out (fun _ hk => hk.2)⟩, ⟨by (with_reducible repeat (first | apply Kd.R_alloc | apply Kd.R_drewN | apply Kd.R_drew)); exact HO169.out⟩, ⟨by repeat (first | (with_reducible first | exact HB.out | apply below_alloc | apply pw_below_drewN | apply below_drew1) | exact HB.out)⟩⟩
                  · rw [if_neg c22] at H
                    have c22b0 : ((t162.length : Int) == (t166.length : Int)) = false := beq_eq_false_iff_ne.mpr c22
                    have c22b1 : ((t162.length : Int) != (t166.length : Int)) = true := bne_iff_ne.mpr c22
                    have c22b2 : (t162.length == t166.length) = false := by first | simpa using c22 | (simp at c22 ⊢; omega)
                    (first | rw [c22b0] | (simp only [i64_w, i32_w]; rw [c22b0]) | skip)
                    have H' := Aside0.mk H
                    clear H
                    obtain ⟨Ao25, co25, eo25⟩ := Kd.N_slice HO164.out
                    subst eo25
                    obtain ⟨Ao26, co26, eo26⟩ := Kd.R_slice HO169.out
                    subst eo26
                    go_wp2
                    repeat (go_quiet (fail); try go_wp2)
                    go_meet
                    case rel => exact ⟨_, (true), (by first | rfl | (simp; done) | (simp [*]; done)), H', ⟨by have := HJ4.out; have := HK2.out; first | omega | exact Nat.le_refl _⟩, ⟨by (with_reducible repeat (first | apply Kd.N_alloc | apply Kd.N_drewN | apply Kd.N_drew)); exact Kd.N_mono HO164.out (fun _ hk => hk.2)⟩, ⟨by (with_reducible repeat (first | apply Kd.R_alloc | apply Kd.R_drewN | apply Kd.R_drew)); exact HO169.out⟩, ⟨by repeat (first | (with_reducible first | exact HB.out | apply below_alloc | apply pw_below_drewN | apply below_drew1) | exact HB.out)⟩⟩
                case rest =>
                  clear HC18
                  try clear c1
                  try clear p1
                  try clear q1
                  try clear hx1
                  try clear hcv1
                  try clear c2
                  try clear p2
                  try clear hcv2
                  try clear c4
                  try clear c5
                  try clear p6
                  try clear c7
                  try clear c7b0
                  try clear c7b1
                  try clear c8
                  try clear c9
                  try clear c9b0
                  try clear c10
                  try clear c10b0
                  try clear c11
                  try clear c11b0
                  try clear c11b1
                  try clear c13
                  try clear c13b0
                  try clear c13b1
                  try clear c13b2
                  try clear hcv14
                  try clear c15
                  try clear p15
                  try clear q15
                  try clear hx15
                  try clear c16
                  try clear p16
                  try clear q16
                  try clear hx16
                  try clear hcv20
                  try clear c22
                  try clear c22b0
                  try clear c22b1
                  try clear c22b2
                  try clear hx159_0
                  try clear hx160_0
                  try clear p159
                  try clear p160
                  try clear p2
                  try clear q159
                  try clear q160
                  obtain ⟨kq, x64_17, rfl, HA, HJ17, HO_8, HO_10, HB⟩ := hcut
                  cases kq with
                  | zero => exact absurd HA.out (by simp [paternosterlaw01_OctetJoins.j2])
                  | succ kj17 =>
                    have H := HA.out
                    clear HA
                    simp only [paternosterlaw01_OctetJoins.j2] at H
                    by_cases c27 : x64_17 = true
                    · subst c27
                      have H1 : (some false) = some r := by rw [if_pos rfl] at H; exact H
                      clear H
                      have H := H1
                      clear H1
                      obtain rfl := Option.some.inj H
                      go_wp2
                      repeat (go_quiet (fail); try go_wp2)
                      go_ret
                      exact ⟨by first | rfl | (simp [errW_none, errW_some] <;> rfl) | (simp [*, errW_none, errW_some] <;> rfl), by repeat (first | (with_reducible first | exact HB.out | apply below_alloc | apply pw_below_drewN | apply below_drew1) | exact HB.out)⟩
                    · replace c27 := Bool.eq_false_iff.mpr c27
                      subst c27
                      have H1 : (paternosterlaw01_OctetJoins.l1 kj17 l0 x6_2 t162 t166 0) = some r := by rw [if_neg (show ¬ (false = true) by decide)] at H; exact H
                      clear H
                      have H := H1
                      clear H1
                      have H' := Aside0.mk H
                      clear H
                      go_wp2
                      repeat (go_quiet (fail); try go_wp2)
                      go_loopg [12] kj17 (fun kq v12 w' => ∃ (x12_4 : Int), v12 = .int .i64 x12_4 ∧ Aside0 (paternosterlaw01_OctetJoins.l1 kq l0 x6_2 t162 t166 x12_4 = some r) ∧ Aside0 (kq ≤ kj17) ∧ Aside0 (Kd.N (Kd.slice 5 (Kd.int .u8)) 26 w' w.heap.size (fun k_ => some k_ ≠ (v168 : Value).ownBlock) v163 t162) ∧ Aside0 (Kd.R Kd.string 9 w' w.heap.size (fun _ => True) v168 t166) ∧ Aside0 (Below w.heap.size w w'))
                      case atStart => exact ⟨(0), (by first | rfl | (simp; done) | (simp [*]; done)), H', ⟨Nat.le_refl _⟩, ⟨by (with_reducible repeat (first | apply Kd.N_alloc | apply Kd.N_drewN | apply Kd.N_drew)); exact HO_8.out⟩, ⟨by (with_reducible repeat (first | apply Kd.R_alloc | apply Kd.R_drewN | apply Kd.R_drew)); exact HO_10.out⟩, ⟨by repeat (first | (with_reducible first | exact HB.out | apply below_alloc | apply pw_below_drewN | apply below_drew1) | exact HB.out)⟩⟩
                      case round =>
                        clear H'
                        try clear c1
                        try clear p1
                        try clear q1
                        try clear hx1
                        try clear hcv1
                        try clear c2
                        try clear p2
                        try clear hcv2
                        try clear c4
                        try clear c5
                        try clear p6
                        try clear c7
                        try clear c7b0
                        try clear c7b1
                        try clear c8
                        try clear c9
                        try clear c9b0
                        try clear c10
                        try clear c10b0
                        try clear c11
                        try clear c11b0
                        try clear c11b1
                        try clear c13
                        try clear c13b0
                        try clear c13b1
                        try clear c13b2
                        try clear hcv14
                        try clear c15
                        try clear p15
                        try clear q15
                        try clear hx15
                        try clear c16
                        try clear p16
                        try clear q16
                        try clear hx16
                        try clear hcv20
                        try clear c22
                        try clear c22b0
                        try clear c22b1
                        try clear c22b2
                        try clear c27
                        try clear hx159_0
                        try clear hx160_0
                        try clear p1
                        try clear p15
                        try clear p159
                        try clear p16
                        try clear p160
                        try clear p2
                        try clear p6
                        try clear q1
                        try clear q15
                        try clear q159
                        try clear q16
                        try clear q160
                        obtain ⟨x12_4, rfl, HA, HK4, HO_8, HO_10, HB⟩ := hrel
                        cases gk with
                        | zero => exact absurd HA.out (by simp [paternosterlaw01_OctetJoins.l1])
                        | succ k4 =>
                          have H := HA.out
                          clear HA
                          simp only [paternosterlaw01_OctetJoins.l1] at H
                          by_cases c28 : x12_4 < (t162.length : Int)
                          · rw [if_pos c28] at H
                            have c28b0 : decide (x12_4 < (t162.length : Int)) = true := decide_eq_true c28
                            clear c28
                            by_cases c29 : 0 ≤ x12_4
                            · rw [if_pos c29] at H
                              have c29b0 : decide (0 ≤ x12_4) = true := decide_eq_true c29
                              clear c29
                              by_cases c30 : x12_4 < (t166.length : Int)
                              · rw [if_pos c30] at H
                                have c30b0 : decide (x12_4 < (t166.length : Int)) = true := decide_eq_true c30
                                clear c30
                                by_cases c31 : (strOfNums (rd_L2 t162 x12_4)).toList = (rdOf ByteArray.empty t166 x12_4).toList
                                · rw [if_pos c31] at H
                                  have c31b0 : ((strOfNums (rd_L2 t162 x12_4)).toList == (rdOf ByteArray.empty t166 x12_4).toList) = true := beq_iff_eq.mpr c31
                                  have c31b1 : ((strOfNums (rd_L2 t162 x12_4)).toList != (rdOf ByteArray.empty t166 x12_4).toList) = false := bne_eq_false_iff_eq.mpr c31
                                  clear c31
                                  have H' := Aside0.mk H
                                  clear H
                                  obtain ⟨Ao32, co32, eo32⟩ := Kd.N_slice HO_8.out
                                  subst eo32
                                  have p170 : 0 ≤ (x12_4 : Int) := of_decide_eq_true (by first | (with_reducible assumption) | assumption)
                                  have q170 : x12_4 < (t162.length : Int) := of_decide_eq_true (by first | (with_reducible assumption) | assumption)
                                  obtain ⟨ad170, A170_0, c170_0, e170, hx170_0, hl170_0, hi170_0⟩ := at_L2 (Kd.N_reads' HO_8.out).2.2 x12_4 p170 q170
                                  cases e170
                                  obtain ⟨ce170, hce170, hMe170, hcc170⟩ := Kd.N_get HO_8.out [] x12_4 p170 (by first | exact q170 | exact of_decide_eq_true (by first | (with_reducible assumption) | assumption) | (have e_ := (Kd.N_reads' HO_8.out).1; omega))
                                  obtain ⟨ua170_0, uc170_0, rfl, ul170_0, ge170_0⟩ := Kd.FK_slice_open hMe170
                                  have hv170_0 := hcc170 0 _ rfl
                                  rw [Nat.add_zero, show ((Kd.slice 5 (Kd.int .u8))).sz = 1 from rfl, Nat.mul_one] at hv170_0
                                  replace hv170_0 := Option.some.inj (hv170_0.symm.trans hx170_0)
                                  injection hv170_0 with hva_ hvn_ hvc_
                                  rw [hva_] at ge170_0
                                  rw [hvc_] at ul170_0
                                  have HL170_0 := Aside0.mk (show Kd.V (Kd.int .u8) 5 _ w.heap.size _ _ (rd_L2 t162 x12_4) from Kd.V_mk ul170_0 ge170_0)
                                  clear hva_ hvn_ hvc_ ge170_0 ul170_0
                                  clear hcc170 hce170
                                  have HR170_0 := Aside0.mk hi170_0
                                  have HC170_0 := Aside0.mk hl170_0
                                  clear hi170_0 hl170_0
                                  replace p170 := eq_true p170
                                  replace q170 := eq_true q170
                                  have hcv33 := Kd.C_string (P := Try.prog) (A := A170_0) (c := c170_0) Try.underlying26 Try.underlying5 Try.underlying9 (by repeat (first | (with_reducible exact HR170_0.out) | (with_reducible refine Kd.C_alloc ?_ _) | (with_reducible refine Kd.C_drewN ?_ _) | (with_reducible refine Kd.C_drew ?_) | exact HR170_0.out))
                                  have hcvq33 := fun n_ : Nat => Kd.C_string (P := Try.prog) (A := A170_0) (c := c170_0) Try.underlying26 Try.underlying5 Try.underlying9 (Kd.C_drewN HR170_0.out n_)
                                  obtain ⟨Ao34, co34, eo34⟩ := Kd.R_slice HO_10.out
                                  subst eo34
                                  have p171 : 0 ≤ (x12_4 : Int) := of_decide_eq_true (by first | (with_reducible assumption) | assumption)
                                  have q171 : x12_4 < (t166.length : Int) := of_decide_eq_true (by first | (with_reducible assumption) | assumption)
                                  obtain ⟨ad171, e171, hx171_0⟩ := Kd.at_string (Kd.R_reads' HO_10.out).2.2 x12_4 p171 q171
                                  cases e171
                                  replace p171 := eq_true p171
                                  replace q171 := eq_true q171
                                  go_wp2
                                  repeat (go_quiet (fail); try go_wp2)
                                  go_roundg k4
                                  case measure => have := HJ4.out; have := HK2.out; have := HJ17.out; have := HK4.out; omega
                                  case rel => exact ⟨(wrap64 (x12_4 + 1)), (by first | rfl | (simp; done) | (simp [*]; done)), H', ⟨by have := HJ4.out; have := HK2.out; have := HJ17.out; have := HK4.out; omega⟩, ⟨by (with_reducible repeat (first | apply Kd.N_alloc | apply Kd.N_drewN | apply Kd.N_drew)); exact HO_8.out⟩, ⟨by (with_reducible repeat (first | apply Kd.R_alloc | apply Kd.R_drewN | apply Kd.R_drew)); exact HO_10.out⟩, ⟨by repeat (first | (with_reducible first | exact HB.out | apply below_alloc | apply pw_below_drewN | apply below_drew1) | exact HB.out)⟩⟩
                                · rw [if_neg c31] at H
                                  have c31b0 : ((strOfNums (rd_L2 t162 x12_4)).toList == (rdOf ByteArray.empty t166 x12_4).toList) = false := beq_eq_false_iff_ne.mpr c31
                                  have c31b1 : ((strOfNums (rd_L2 t162 x12_4)).toList != (rdOf ByteArray.empty t166 x12_4).toList) = true := bne_iff_ne.mpr c31
                                  obtain rfl := Option.some.inj H
                                  obtain ⟨Ao35, co35, eo35⟩ := Kd.N_slice HO_8.out
                                  subst eo35
                                  have p170 : 0 ≤ (x12_4 : Int) := of_decide_eq_true (by first | (with_reducible assumption) | assumption)
                                  have q170 : x12_4 < (t162.length : Int) := of_decide_eq_true (by first | (with_reducible assumption) | assumption)
                                  obtain ⟨ad170, A170_0, c170_0, e170, hx170_0, hl170_0, hi170_0⟩ := at_L2 (Kd.N_reads' HO_8.out).2.2 x12_4 p170 q170
                                  cases e170
                                  obtain ⟨ce170, hce170, hMe170, hcc170⟩ := Kd.N_get HO_8.out [] x12_4 p170 (by first | exact q170 | exact of_decide_eq_true (by first | (with_reducible assumption) | assumption) | (have e_ := (Kd.N_reads' HO_8.out).1; omega))
                                  obtain ⟨ua170_0, uc170_0, rfl, ul170_0, ge170_0⟩ := Kd.FK_slice_open hMe170
                                  have hv170_0 := hcc170 0 _ rfl
                                  rw [Nat.add_zero, show ((Kd.slice 5 (Kd.int .u8))).sz = 1 from rfl, Nat.mul_one] at hv170_0
                                  replace hv170_0 := Option.some.inj (hv170_0.symm.trans hx170_0)
                                  injection hv170_0 with hva_ hvn_ hvc_
                                  rw [hva_] at ge170_0
                                  rw [hvc_] at ul170_0
                                  have HL170_0 := Aside0.mk (show Kd.V (Kd.int .u8) 5 _ w.heap.size _ _ (rd_L2 t162 x12_4) from Kd.V_mk ul170_0 ge170_0)
                                  clear hva_ hvn_ hvc_ ge170_0 ul170_0
                                  clear hcc170 hce170
                                  have HR170_0 := Aside0.mk hi170_0
                                  have HC170_0 := Aside0.mk hl170_0
                                  clear hi170_0 hl170_0
                                  replace p170 := eq_true p170
                                  replace q170 := eq_true q170
                                  have hcv36 := Kd.C_string (P := Try.prog) (A := A170_0) (c := c170_0) Try.underlying26 Try.underlying5 Try.underlying9 (by repeat (first | (with_reducible exact HR170_0.out) | (with_reducible refine Kd.C_alloc ?_ _) | (with_reducible refine Kd.C_drewN ?_ _) | (with_reducible refine Kd.C_drew ?_) | exact HR170_0.out))
                                  have hcvq36 := fun n_ : Nat => Kd.C_string (P := Try.prog) (A := A170_0) (c := c170_0) Try.underlying26 Try.underlying5 Try.underlying9 (Kd.C_drewN HR170_0.out n_)
                                  obtain ⟨Ao37, co37, eo37⟩ := Kd.R_slice HO_10.out
                                  subst eo37
                                  have p171 : 0 ≤ (x12_4 : Int) := of_decide_eq_true (by first | (with_reducible assumption) | assumption)
                                  have q171 : x12_4 < (t166.length : Int) := of_decide_eq_true (by first | (with_reducible assumption) | assumption)
                                  obtain ⟨ad171, e171, hx171_0⟩ := Kd.at_string (Kd.R_reads' HO_10.out).2.2 x12_4 p171 q171
                                  cases e171
                                  replace p171 := eq_true p171
                                  replace q171 := eq_true q171
                                  go_wp2
                                  repeat (go_quiet (fail); try go_wp2)
                                  go_ret
                                  exact ⟨by first | rfl | (simp [errW_none, errW_some] <;> rfl) | (simp [*, errW_none, errW_some] <;> rfl), by repeat (first | (with_reducible first | exact HB.out | apply below_alloc | apply pw_below_drewN | apply below_drew1) | exact HB.out)⟩
                              · rw [if_neg c30] at H
                                exact absurd H (by simp)
                            · rw [if_neg c29] at H
                              exact absurd H (by simp)
                          · rw [if_neg c28] at H
                            have c28b0 : decide (x12_4 < (t162.length : Int)) = false := decide_eq_false c28
                            clear c28
                            replace H := Option.bind_eq_some_iff.mp H
                            obtain ⟨t172, A380, H⟩ := H
                            replace H : (some ((strOfNums t172).toList == x6_2.toList)) = some r := H
                            have A38 := Aside0.mk A380
                            clear A380
                            obtain rfl := Option.some.inj H
                            obtain ⟨Ao39, co39, eo39⟩ := Kd.N_slice HO_8.out
                            subst eo39
                            go_wp2_with (first | (go_at_call 20; (with_reducible refine (octet_Join.calls k4 _ _ l0 t172 _ ?side1 ?side2 A38.out).mono ?_); (case side1 => repeat (first | exact (Kd.C_below HR0.out HB.out) | (with_reducible refine Kd.C_alloc ?_ _) | (with_reducible refine Kd.C_drewN ?_ _) | (with_reducible refine Kd.C_drew ?_))); (case side2 => exact HC0.out); rintro e w40 ⟨v173, rfl, ho0, hb⟩; have n0_ := Aside0.mk (Kd.N_elder' (by (with_reducible repeat (first | apply Kd.N_alloc | apply Kd.N_drewN | apply Kd.N_drew)); exact HO_8.out) (Kd.R_base ho0) hb); have n1_ := Aside0.mk (Kd.R_below (by (with_reducible repeat (first | apply Kd.R_alloc | apply Kd.R_drewN | apply Kd.R_drew)); exact HO_10.out) hb); have n2_ := Aside0.mk (Kd.R_lower ho0 (below_size (by repeat (first | (with_reducible first | exact HB.out | apply below_alloc | apply pw_below_drewN | apply below_drew1) | exact HB.out)))); have n3_ := Aside0.mk (below_step (by repeat (first | (with_reducible first | exact HB.out | apply below_alloc | apply pw_below_drewN | apply below_drew1) | exact HB.out)) hb); clear HO_8; clear HO_10; clear HB; have HO_8 := n0_; have HO_10 := n1_; have HO174 := n2_; have HB := n3_; clear n0_ n1_ n2_ n3_; (try clear hb); (try clear hb2); (try clear hk); (try clear hi); (try clear ho0); have hcv41 := own_string (P := Try.prog) Try.underlying26 Try.underlying5 Try.underlying9 (Kd.own_of_R HO174.out)))
                            repeat (go_quiet (first | (go_at_call 20; (with_reducible refine (octet_Join.calls k4 _ _ l0 t172 _ ?side1 ?side2 A38.out).mono ?_); (case side1 => repeat (first | exact (Kd.C_below HR0.out HB.out) | (with_reducible refine Kd.C_alloc ?_ _) | (with_reducible refine Kd.C_drewN ?_ _) | (with_reducible refine Kd.C_drew ?_))); (case side2 => exact HC0.out); rintro e w40 ⟨v173, rfl, ho0, hb⟩; have n0_ := Aside0.mk (Kd.N_elder' (by (with_reducible repeat (first | apply Kd.N_alloc | apply Kd.N_drewN | apply Kd.N_drew)); exact HO_8.out) (Kd.R_base ho0) hb); have n1_ := Aside0.mk (Kd.R_below (by (with_reducible repeat (first | apply Kd.R_alloc | apply Kd.R_drewN | apply Kd.R_drew)); exact HO_10.out) hb); have n2_ := Aside0.mk (Kd.R_lower ho0 (below_size (by repeat (first | (with_reducible first | exact HB.out | apply below_alloc | apply pw_below_drewN | apply below_drew1) | exact HB.out)))); have n3_ := Aside0.mk (below_step (by repeat (first | (with_reducible first | exact HB.out | apply below_alloc | apply pw_below_drewN | apply below_drew1) | exact HB.out)) hb); clear HO_8; clear HO_10; clear HB; have HO_8 := n0_; have HO_10 := n1_; have HO174 := n2_; have HB := n3_; clear n0_ n1_ n2_ n3_; (try clear hb); (try clear hb2); (try clear hk); (try clear hi); (try clear ho0); have hcv41 := own_string (P := Try.prog) Try.underlying26 Try.underlying5 Try.underlying9 (Kd.own_of_R HO174.out))); try go_wp2_with (first | (go_at_call 20; (with_reducible refine (octet_Join.calls k4 _ _ l0 t172 _ ?side1 ?side2 A38.out).mono ?_); (case side1 => repeat (first | exact (Kd.C_below HR0.out HB.out) | (with_reducible refine Kd.C_alloc ?_ _) | (with_reducible refine Kd.C_drewN ?_ _) | (with_reducible refine Kd.C_drew ?_))); (case side2 => exact HC0.out); rintro e w40 ⟨v173, rfl, ho0, hb⟩; have n0_ := Aside0.mk (Kd.N_elder' (by (with_reducible repeat (first | apply Kd.N_alloc | apply Kd.N_drewN | apply Kd.N_drew)); exact HO_8.out) (Kd.R_base ho0) hb); have n1_ := Aside0.mk (Kd.R_below (by (with_reducible repeat (first | apply Kd.R_alloc | apply Kd.R_drewN | apply Kd.R_drew)); exact HO_10.out) hb); have n2_ := Aside0.mk (Kd.R_lower ho0 (below_size (by repeat (first | (with_reducible first | exact HB.out | apply below_alloc | apply pw_below_drewN | apply below_drew1) | exact HB.out)))); have n3_ := Aside0.mk (below_step (by repeat (first | (with_reducible first | exact HB.out | apply below_alloc | apply pw_below_drewN | apply below_drew1) | exact HB.out)) hb); clear HO_8; clear HO_10; clear HB; have HO_8 := n0_; have HO_10 := n1_; have HO174 := n2_; have HB := n3_; clear n0_ n1_ n2_ n3_; (try clear hb); (try clear hb2); (try clear hk); (try clear hi); (try clear ho0); have hcv41 := own_string (P := Try.prog) Try.underlying26 Try.underlying5 Try.underlying9 (Kd.own_of_R HO174.out))))
                            go_ret
                            exact ⟨by first | rfl | (simp [errW_none, errW_some] <;> rfl) | (simp [*, errW_none, errW_some] <;> rfl), by repeat (first | (with_reducible first | exact HB.out | apply below_alloc | apply pw_below_drewN | apply below_drew1) | exact HB.out)⟩
  · replace c4 := Bool.eq_false_iff.mpr c4
    subst c4
    have H1 : (some false) = some r := by rw [if_neg (show ¬ (false = true) by decide)] at H; exact H
    clear H
    have H := H1
    clear H1
    obtain rfl := Option.some.inj H
    go_enter Try.func5, Try.ntmps5
    go_wp2_with (first | (go_at_call 12; (with_reducible refine (paternosterlaw01_awake.calls  false _ A3.out).mono ?_); rintro e w42 ⟨rfl, hb⟩; have n0_ := Aside0.mk (below_step (by repeat (first | (with_reducible first | exact HB.out | apply below_alloc | apply pw_below_drewN | apply below_drew1) | exact HB.out)) hb); clear HB; have HB := n0_; clear n0_; (try clear hb); (try clear hb2); (try clear hk); (try clear hi)))
    repeat (go_quiet (first | (go_at_call 12; (with_reducible refine (paternosterlaw01_awake.calls  false _ A3.out).mono ?_); rintro e w42 ⟨rfl, hb⟩; have n0_ := Aside0.mk (below_step (by repeat (first | (with_reducible first | exact HB.out | apply below_alloc | apply pw_below_drewN | apply below_drew1) | exact HB.out)) hb); clear HB; have HB := n0_; clear n0_; (try clear hb); (try clear hb2); (try clear hk); (try clear hi))); try go_wp2_with (first | (go_at_call 12; (with_reducible refine (paternosterlaw01_awake.calls  false _ A3.out).mono ?_); rintro e w42 ⟨rfl, hb⟩; have n0_ := Aside0.mk (below_step (by repeat (first | (with_reducible first | exact HB.out | apply below_alloc | apply pw_below_drewN | apply below_drew1) | exact HB.out)) hb); clear HB; have HB := n0_; clear n0_; (try clear hb); (try clear hb2); (try clear hk); (try clear hi))))
    go_ret
    exact ⟨by first | rfl | (simp [errW_none, errW_some] <;> rfl) | (simp [*, errW_none, errW_some] <;> rfl), by repeat (first | (with_reducible first | exact HB.out | apply below_alloc | apply pw_below_drewN | apply below_drew1) | exact HB.out)⟩

end Go.Proofs.Ytdlmnaoaninkaaa.PAll
