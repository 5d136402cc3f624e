-- Written by myprint.py: the kit's print.py over this seat's translation, with contracts of my own.
import Derived.Test.YthjmlmognbenoaaDoorPTwox0
import Derived.Test.YthjmlmognbenoaaDoorPTwox8
import Derived.Test.YthjmlmognbenoaaDoorPTwox10
import Derived.Test.YthjmlmognbenoaaDoorPTwox11
import Derived.Test.YthjmlmognbenoaaDoorPTwox12
namespace Go.Proofs.YthjmlmognbenoaaDoor.PTwo
open Go.RowKit Go.Proofs.YthjmlmognbenoaaDoorW.PrintWords Go.Proofs.YthjmlmognbenoaaDoorW.PrintLast Go.Proofs.YthjmlmognbenoaaDoorW.PrintMore
attribute [local go_sem] max2_int min2_int max_two min_two max_three min_three max_four min_four   -- for this text's walks alone
set_option linter.unusedVariables false
set_option linter.unusedSimpArgs false

/-! ### paternosterlaw22_CallsWait: function 4 -/
mutual
def paternosterlaw22_CallsWait.j0 : Nat → List Int → Int → Int → Int → Int → Bool → Option (Bool)
  | 0, _, _, _, _, _, _ => none
  | k + 1, x0, x1, x2, x3, x4, x31 => if x31 = true then (some true) else (if (x0.length : Int) = 0 then (none) else ((calls_Calls_Next.f x1 x0 (Int.tmod (wrap64 (x2)) (x0.length : Int)) (Int.tmod (wrap64 (x3)) 249) x4).bind fun t266 => ((calls_Calls_Many.f x1 x0).bind fun t267 => (if t266 < 0 then (if 0 ≤ (Int.tmod (wrap64 (x2)) (x0.length : Int)) then (if (Int.tmod (wrap64 (x2)) (x0.length : Int)) < (x0.length : Int) then (if (rd x0 (Int.tmod (wrap64 (x2)) (x0.length : Int))) = 0 then (some ((Go.bits .and .u32 x1 x4) == 0)) else (some false)) else (none)) else (none)) else (if t266 > 31 then (paternosterlaw22_CallsWait.j1 k x0 x1 x4 (Int.tmod (wrap64 (x2)) (x0.length : Int)) (Int.tmod (wrap64 (x3)) 249) t266 t267 true x1 x0) else (if 0 ≤ (Int.tmod (wrap64 (x2)) (x0.length : Int)) then (if (Int.tmod (wrap64 (x2)) (x0.length : Int)) < (x0.length : Int) then (if 0 ≤ (IntKind.u64.wrap (t266)) then (if (Go.bits .and .u32 (shr .u32 (rd x0 (Int.tmod (wrap64 (x2)) (x0.length : Int))) (IntKind.u64.wrap (t266))) 1) = 0 then (if (rd x0 (Int.tmod (wrap64 (x2)) (x0.length : Int))) = 0 then (paternosterlaw22_CallsWait.j1 k x0 x1 x4 (Int.tmod (wrap64 (x2)) (x0.length : Int)) (Int.tmod (wrap64 (x3)) 249) t266 t267 ((Go.bits .and .u32 (shr .u32 x1 (IntKind.u64.wrap (t266))) 1) == 0) x1 x0) else (paternosterlaw22_CallsWait.j1 k x0 x1 x4 (Int.tmod (wrap64 (x2)) (x0.length : Int)) (Int.tmod (wrap64 (x3)) 249) t266 t267 true x1 x0)) else (paternosterlaw22_CallsWait.j1 k x0 x1 x4 (Int.tmod (wrap64 (x2)) (x0.length : Int)) (Int.tmod (wrap64 (x3)) 249) t266 t267 false x1 x0)) else (none)) else (none)) else (none)))))))
def paternosterlaw22_CallsWait.j1 : Nat → List Int → Int → Int → Int → Int → Int → Int → Bool → Int → List Int → Option (Bool)
  | 0, _, _, _, _, _, _, _, _, _, _ => none
  | k + 1, x0, x1, x4, x13, x14, x15, x16, x90, x266000, x266001 => if x90 = true then (some false) else (paternosterlaw22_CallsWait.l0 k x0 x1 x4 x13 x14 x15 x16 (mx (wrap64 ((wrap64 (8 * x15)) - x14)) (wrap64 (x14 - (wrap64 (8 * x15))))) 0 x266000 x266001)
def paternosterlaw22_CallsWait.l0 : Nat → List Int → Int → Int → Int → Int → Int → Int → Int → Int → Int → List Int → Option (Bool)
  | 0, _, _, _, _, _, _, _, _, _, _, _ => none
  | k + 1, x0, x1, x4, x13, x14, x15, x16, x17, x18, x266000, x266001 => if x18 < 32 then (if 0 ≤ x13 then (if x13 < (x0.length : Int) then (paternosterlaw22_CallsWait.j3 k x0 x1 x4 x13 x14 x15 x16 x17 x18 ((rd x0 x13) != 0) x266000 x266001) else (none)) else (none)) else (paternosterlaw22_CallsWait.j3 k x0 x1 x4 x13 x14 x15 x16 x17 x18 false x266000 x266001)
def paternosterlaw22_CallsWait.j3 : Nat → List Int → Int → Int → Int → Int → Int → Int → Int → Int → Bool → Int → List Int → Option (Bool)
  | 0, _, _, _, _, _, _, _, _, _, _, _, _ => none
  | k + 1, x0, x1, x4, x13, x14, x15, x16, x17, x18, x108, x266000, x266001 => if x108 = true then (if 0 ≤ x13 then (if x13 < (x0.length : Int) then (if 0 ≤ (IntKind.u64.wrap (x18)) then (if (Go.bits .and .u32 (shr .u32 (rd x0 x13) (IntKind.u64.wrap (x18))) 1) = 1 then (if (mx (wrap64 ((wrap64 (8 * x18)) - x14)) (wrap64 (x14 - (wrap64 (8 * x18))))) < x17 then (some false) else (paternosterlaw22_CallsWait.l0 k x0 x1 x4 x13 x14 x15 x16 x17 (wrap64 (x18 + 1)) x266000 x266001)) else (paternosterlaw22_CallsWait.l0 k x0 x1 x4 x13 x14 x15 x16 x17 (wrap64 (x18 + 1)) x266000 x266001)) else (none)) else (none)) else (none)) else ((calls_Calls_Done.f x266000 x266001 x13 x15 true).bind fun bt273 => ((calls_Calls_Done.f x266000 x266001 x13 x15 false).bind fun bt278 => ((calls_Calls_Many.f bt273.1 bt273.2).bind fun t283 => (if t283 < x16 then ((calls_Calls_Next.f bt273.1 bt273.2 x13 x14 x4).bind fun t284 => (if t284 = x15 then (some false) else (if bt278.1 = x1 then ((calls_Calls_Many.f x266000 x266001).bind fun t285 => (some (t285 == x16))) else (some false)))) else (some false)))))
end
def paternosterlaw22_CallsWait.f (k : Nat) (l0 : List Int) (a1 : Int) (a2 : Int) (a3 : Int) (a4 : Int) : Option (Bool) := (paternosterlaw22_awake.f).bind fun t264 => (if t264 = true then (if (l0.length : Int) > 64 then (paternosterlaw22_CallsWait.j0 k l0 a1 a2 a3 a4 true) else (paternosterlaw22_CallsWait.j0 k l0 a1 a2 a3 a4 ((l0.length : Int) == 0))) else (some false))
theorem paternosterlaw22_CallsWait.mono_l : ∀ k, (∀ y0 y1 y2 y3 y4 y5, LeO (paternosterlaw22_CallsWait.j0 k y0 y1 y2 y3 y4 y5) (paternosterlaw22_CallsWait.j0 (k + 1) y0 y1 y2 y3 y4 y5)) ∧ (∀ y0 y1 y2 y3 y4 y5 y6 y7 y8 y9, LeO (paternosterlaw22_CallsWait.j1 k y0 y1 y2 y3 y4 y5 y6 y7 y8 y9) (paternosterlaw22_CallsWait.j1 (k + 1) y0 y1 y2 y3 y4 y5 y6 y7 y8 y9)) ∧ (∀ y0 y1 y2 y3 y4 y5 y6 y7 y8 y9 y10, LeO (paternosterlaw22_CallsWait.l0 k y0 y1 y2 y3 y4 y5 y6 y7 y8 y9 y10) (paternosterlaw22_CallsWait.l0 (k + 1) y0 y1 y2 y3 y4 y5 y6 y7 y8 y9 y10)) ∧ (∀ y0 y1 y2 y3 y4 y5 y6 y7 y8 y9 y10 y11, LeO (paternosterlaw22_CallsWait.j3 k y0 y1 y2 y3 y4 y5 y6 y7 y8 y9 y10 y11) (paternosterlaw22_CallsWait.j3 (k + 1) y0 y1 y2 y3 y4 y5 y6 y7 y8 y9 y10 y11))
  | 0 => ⟨fun _ _ _ _ _ _ r h => by simp [paternosterlaw22_CallsWait.j0] at h, fun _ _ _ _ _ _ _ _ _ _ r h => by simp [paternosterlaw22_CallsWait.j1] at h, fun _ _ _ _ _ _ _ _ _ _ _ r h => by simp [paternosterlaw22_CallsWait.l0] at h, fun _ _ _ _ _ _ _ _ _ _ _ _ r h => by simp [paternosterlaw22_CallsWait.j3] at h⟩
  | k + 1 => by
    obtain ⟨ih0, ih1, ih2, ih3⟩ := paternosterlaw22_CallsWait.mono_l k
    refine ⟨?_, ?_, ?_, ?_⟩
    · intro y0 y1 y2 y3 y4 y5
      unfold paternosterlaw22_CallsWait.j0
      repeat' first
      | (with_reducible exact ih0 _ _ _ _ _ _)
      | (with_reducible exact ih1 _ _ _ _ _ _ _ _ _ _)
      | (with_reducible exact ih2 _ _ _ _ _ _ _ _ _ _ _)
      | (with_reducible exact ih3 _ _ _ _ _ _ _ _ _ _ _ _)
      | (with_reducible exact LeO.refl _)
      | (with_reducible exact LeO.none _)
      | (with_reducible refine LeO.ite ?_ ?_)
      | (with_reducible refine LeO.bind ?_ (fun _ => ?_))
      | exact ih0 _ _ _ _ _ _
      | exact ih1 _ _ _ _ _ _ _ _ _ _
      | exact ih2 _ _ _ _ _ _ _ _ _ _ _
      | exact ih3 _ _ _ _ _ _ _ _ _ _ _ _
      | exact LeO.none _
      | refine LeO.ite ?_ ?_
      | refine LeO.bind ?_ (fun _ => ?_)
    · intro y0 y1 y2 y3 y4 y5 y6 y7 y8 y9
      unfold paternosterlaw22_CallsWait.j1
      repeat' first
      | (with_reducible exact ih0 _ _ _ _ _ _)
      | (with_reducible exact ih1 _ _ _ _ _ _ _ _ _ _)
      | (with_reducible exact ih2 _ _ _ _ _ _ _ _ _ _ _)
      | (with_reducible exact ih3 _ _ _ _ _ _ _ _ _ _ _ _)
      | (with_reducible exact LeO.refl _)
      | (with_reducible exact LeO.none _)
      | (with_reducible refine LeO.ite ?_ ?_)
      | (with_reducible refine LeO.bind ?_ (fun _ => ?_))
      | exact ih0 _ _ _ _ _ _
      | exact ih1 _ _ _ _ _ _ _ _ _ _
      | exact ih2 _ _ _ _ _ _ _ _ _ _ _
      | exact ih3 _ _ _ _ _ _ _ _ _ _ _ _
      | exact LeO.none _
      | refine LeO.ite ?_ ?_
      | refine LeO.bind ?_ (fun _ => ?_)
    · intro y0 y1 y2 y3 y4 y5 y6 y7 y8 y9 y10
      unfold paternosterlaw22_CallsWait.l0
      repeat' first
      | (with_reducible exact ih0 _ _ _ _ _ _)
      | (with_reducible exact ih1 _ _ _ _ _ _ _ _ _ _)
      | (with_reducible exact ih2 _ _ _ _ _ _ _ _ _ _ _)
      | (with_reducible exact ih3 _ _ _ _ _ _ _ _ _ _ _ _)
      | (with_reducible exact LeO.refl _)
      | (with_reducible exact LeO.none _)
      | (with_reducible refine LeO.ite ?_ ?_)
      | (with_reducible refine LeO.bind ?_ (fun _ => ?_))
      | exact ih0 _ _ _ _ _ _
      | exact ih1 _ _ _ _ _ _ _ _ _ _
      | exact ih2 _ _ _ _ _ _ _ _ _ _ _
      | exact ih3 _ _ _ _ _ _ _ _ _ _ _ _
      | exact LeO.none _
      | refine LeO.ite ?_ ?_
      | refine LeO.bind ?_ (fun _ => ?_)
    · intro y0 y1 y2 y3 y4 y5 y6 y7 y8 y9 y10 y11
      unfold paternosterlaw22_CallsWait.j3
      repeat' first
      | (with_reducible exact ih0 _ _ _ _ _ _)
      | (with_reducible exact ih1 _ _ _ _ _ _ _ _ _ _)
      | (with_reducible exact ih2 _ _ _ _ _ _ _ _ _ _ _)
      | (with_reducible exact ih3 _ _ _ _ _ _ _ _ _ _ _ _)
      | (with_reducible exact LeO.refl _)
      | (with_reducible exact LeO.none _)
      | (with_reducible refine LeO.ite ?_ ?_)
      | (with_reducible refine LeO.bind ?_ (fun _ => ?_))
      | exact ih0 _ _ _ _ _ _
      | exact ih1 _ _ _ _ _ _ _ _ _ _
      | exact ih2 _ _ _ _ _ _ _ _ _ _ _
      | exact ih3 _ _ _ _ _ _ _ _ _ _ _ _
      | exact LeO.none _
      | refine LeO.ite ?_ ?_
      | refine LeO.bind ?_ (fun _ => ?_)
theorem paternosterlaw22_CallsWait.mono : ∀ a0 a1 a2 a3 a4 k, LeO (paternosterlaw22_CallsWait.f k a0 a1 a2 a3 a4) (paternosterlaw22_CallsWait.f (k + 1) a0 a1 a2 a3 a4) := by
  intro a0 a1 a2 a3 a4 k
  obtain ⟨ih0, ih1, ih2, ih3⟩ := paternosterlaw22_CallsWait.mono_l k
  unfold paternosterlaw22_CallsWait.f
  repeat' first
      | (with_reducible exact ih0 _ _ _ _ _ _)
      | (with_reducible exact ih1 _ _ _ _ _ _ _ _ _ _)
      | (with_reducible exact ih2 _ _ _ _ _ _ _ _ _ _ _)
      | (with_reducible exact ih3 _ _ _ _ _ _ _ _ _ _ _ _)
      | (with_reducible exact LeO.refl _)
      | (with_reducible exact LeO.none _)
      | (with_reducible refine LeO.ite ?_ ?_)
      | (with_reducible refine LeO.bind ?_ (fun _ => ?_))
      | exact ih0 _ _ _ _ _ _
      | exact ih1 _ _ _ _ _ _ _ _ _ _
      | exact ih2 _ _ _ _ _ _ _ _ _ _ _
      | exact ih3 _ _ _ _ _ _ _ _ _ _ _ _
      | exact LeO.none _
      | refine LeO.ite ?_ ?_
      | refine LeO.bind ?_ (fun _ => ?_)
set_option maxHeartbeats 8000000 in
set_option maxRecDepth 100000 in
theorem paternosterlaw22_CallsWait.calls (k : Nat) (A0 : Option Addr) (c0 : Nat) (l0 : List Int) (a1 : Int) (a2 : Int) (a3 : Int) (a4 : Int) (r : Bool) (w : World) (hr0 : Kd.C (Kd.int .u32) w A0 l0.length l0) (hc0 : l0.length ≤ c0) (h : paternosterlaw22_CallsWait.f k l0 a1 a2 a3 a4 = some r) (hl_ : PAll.Deb w) :
    Calls Tryd.prog 4 #[.slice A0 l0.length c0, .int .u32 a1, .int .u8 a2, .int .u8 a3, .int .u32 a4] w fun e w' => e = .returned (.bool r) ∧ Below w.heap.size w w' := by
  have HLAID := Aside0.mk hl_
  clear hl_
  have hu27 := Tryd.underlying27
  have HR0 := Aside0.mk hr0
  have HC0 := Aside0.mk hc0
  clear hr0 hc0
  have HB := Aside0.mk (Below.refl w.heap.size w)
  have H : ((paternosterlaw22_awake.f).bind fun t264 => (if t264 = true then (if (l0.length : Int) > 64 then (paternosterlaw22_CallsWait.j0 k l0 a1 a2 a3 a4 true) else (paternosterlaw22_CallsWait.j0 k l0 a1 a2 a3 a4 ((l0.length : Int) == 0))) else (some false))) = some r := h
  clear h
  replace H := Option.bind_eq_some_iff.mp H
  obtain ⟨t264, A60, H⟩ := H
  replace H : (if t264 = true then (if (l0.length : Int) > 64 then (paternosterlaw22_CallsWait.j0 k l0 a1 a2 a3 a4 true) else (paternosterlaw22_CallsWait.j0 k l0 a1 a2 a3 a4 ((l0.length : Int) == 0))) else (some false)) = some r := H
  have A6 := Aside0.mk A60
  clear A60
  by_cases c7 : t264 = true
  · subst c7
    have H1 : (if (l0.length : Int) > 64 then (paternosterlaw22_CallsWait.j0 k l0 a1 a2 a3 a4 true) else (paternosterlaw22_CallsWait.j0 k l0 a1 a2 a3 a4 ((l0.length : Int) == 0))) = some r := by rw [if_pos rfl] at H; exact H
    clear H
    have H := H1
    clear H1
    have HC8 := Aside0.mk H
    clear H
    go_enter Tryd.func4, Tryd.ntmps4
    go_upto_region 4 with (first | ((with_reducible refine gate_callee (f := 8) rfl ?_); refine goesL_ (some 21) rfl rfl Tryd.func8 (by kernel_rfl) rfl #[] rfl (by (try simp only [List.map_toArray, List.map_cons, List.map_nil]); first | done | rfl | (simp only [List.length_drop, List.length_take]; rfl)) ?_; (with_reducible refine (paternosterlaw22_awake.calls  true _ A6.out (PAll.Deb.keep HLAID.out (by repeat (first | (with_reducible first | exact HB.out | apply below_alloc | apply pw_below_drewN | apply below_drew1 | refine below_set ?_ (Aside0.out (by assumption))) | exact HB.out | refine below_set ?_ (Aside0.out (by assumption)))))).mono ?_); rintro e w9 ⟨rfl, hb⟩; refine ⟨_, rfl, ?_⟩; have n0_ := Aside0.mk (below_step (by repeat (first | (with_reducible first | exact HB.out | apply below_alloc | apply pw_below_drewN | apply below_drew1) | exact HB.out)) hb); clear HB; have HB := n0_; clear n0_; (try clear hb); (try clear hb2); (try clear hk); (try clear hi)))
    (try simp only [Act.put, List.setIfInBounds_toArray, List.set_cons_zero, List.set_cons_succ])
    go_cut [31] (fun v31 wc => ∃ (kq : Nat) (x31_7 : Bool), v31 = .bool x31_7 ∧ Aside0 (paternosterlaw22_CallsWait.j0 kq l0 a1 a2 a3 a4 x31_7 = some r) ∧ Aside0 (kq ≤ k) ∧ Aside0 (Below w.heap.size w wc))
    case first =>
      have H := HC8.out
      clear HC8
      by_cases c10 : (l0.length : Int) > 64
      · rw [if_pos c10] at H
        have c10b0 : decide (64 < (l0.length : Int)) = true := decide_eq_true c10
        have c10b1 : decide (64 < l0.length) = true := decide_eq_true (by omega)
        clear c10
        (first | rw [c10b0] | (simp only [i64_w, i32_w]; rw [c10b0]) | skip)
        have H' := Aside0.mk H
        clear H
        go_wp2
        go_meet
        case rel => exact ⟨_, (true), (by first | rfl | (simp; done) | (simp [*]; done)), H', ⟨by first | omega | exact Nat.le_refl _⟩, ⟨by repeat (first | (with_reducible first | exact HB.out | apply below_alloc | apply pw_below_drewN | apply below_drew1) | exact HB.out)⟩⟩
      · rw [if_neg c10] at H
        have c10b0 : decide (64 < (l0.length : Int)) = false := decide_eq_false c10
        have c10b1 : decide (64 < l0.length) = false := decide_eq_false (by omega)
        clear c10
        (first | rw [c10b0] | (simp only [i64_w, i32_w]; rw [c10b0]) | skip)
        have H' := Aside0.mk H
        clear H
        go_wp2
        go_meet
        case rel => exact ⟨_, (((l0.length : Int) == 0)), (by first | rfl | (simp; done) | (simp [*]; done)), H', ⟨by first | omega | exact Nat.le_refl _⟩, ⟨by repeat (first | (with_reducible first | exact HB.out | apply below_alloc | apply pw_below_drewN | apply below_drew1) | exact HB.out)⟩⟩
    case rest =>
      clear HC8
      try clear c1
      try clear p2
      try clear c4
      try clear c7
      try clear c8
      try clear c10
      try clear c10b0
      try clear c10b1
      obtain ⟨kq, x31_7, rfl, HA, HJ7, HB⟩ := hcut
      cases kq with
      | zero => exact absurd HA.out (by simp [paternosterlaw22_CallsWait.j0])
      | succ kj7 =>
        have H := HA.out
        clear HA
        simp only [paternosterlaw22_CallsWait.j0] at H
        by_cases c11 : x31_7 = true
        · subst c11
          have H1 : (some true) = some r := by rw [if_pos rfl] at H; exact H
          clear H
          have H := H1
          clear H1
          obtain rfl := Option.some.inj H
          go_wp2
          go_ret
          exact ⟨by first | rfl | (simp [errW_none, errW_some] <;> rfl) | (simp [*, errW_none, errW_some] <;> rfl), by repeat (first | (with_reducible first | exact HB.out | apply below_alloc | apply pw_below_drewN | apply below_drew1) | exact HB.out)⟩
        · replace c11 := Bool.eq_false_iff.mpr c11
          subst c11
          have H1 : (if (l0.length : Int) = 0 then (none) else ((calls_Calls_Next.f a1 l0 (Int.tmod (wrap64 (a2)) (l0.length : Int)) (Int.tmod (wrap64 (a3)) 249) a4).bind fun t266 => ((calls_Calls_Many.f a1 l0).bind fun t267 => (if t266 < 0 then (if 0 ≤ (Int.tmod (wrap64 (a2)) (l0.length : Int)) then (if (Int.tmod (wrap64 (a2)) (l0.length : Int)) < (l0.length : Int) then (if (rd l0 (Int.tmod (wrap64 (a2)) (l0.length : Int))) = 0 then (some ((Go.bits .and .u32 a1 a4) == 0)) else (some false)) else (none)) else (none)) else (if t266 > 31 then (paternosterlaw22_CallsWait.j1 kj7 l0 a1 a4 (Int.tmod (wrap64 (a2)) (l0.length : Int)) (Int.tmod (wrap64 (a3)) 249) t266 t267 true a1 l0) else (if 0 ≤ (Int.tmod (wrap64 (a2)) (l0.length : Int)) then (if (Int.tmod (wrap64 (a2)) (l0.length : Int)) < (l0.length : Int) then (if 0 ≤ (IntKind.u64.wrap (t266)) then (if (Go.bits .and .u32 (shr .u32 (rd l0 (Int.tmod (wrap64 (a2)) (l0.length : Int))) (IntKind.u64.wrap (t266))) 1) = 0 then (if (rd l0 (Int.tmod (wrap64 (a2)) (l0.length : Int))) = 0 then (paternosterlaw22_CallsWait.j1 kj7 l0 a1 a4 (Int.tmod (wrap64 (a2)) (l0.length : Int)) (Int.tmod (wrap64 (a3)) 249) t266 t267 ((Go.bits .and .u32 (shr .u32 a1 (IntKind.u64.wrap (t266))) 1) == 0) a1 l0) else (paternosterlaw22_CallsWait.j1 kj7 l0 a1 a4 (Int.tmod (wrap64 (a2)) (l0.length : Int)) (Int.tmod (wrap64 (a3)) 249) t266 t267 true a1 l0)) else (paternosterlaw22_CallsWait.j1 kj7 l0 a1 a4 (Int.tmod (wrap64 (a2)) (l0.length : Int)) (Int.tmod (wrap64 (a3)) 249) t266 t267 false a1 l0)) else (none)) else (none)) else (none))))))) = some r := by rw [if_neg (show ¬ (false = true) by decide)] at H; exact H
          clear H
          have H := H1
          clear H1
          by_cases c12 : (l0.length : Int) = 0
          · rw [if_pos c12] at H
            exact absurd H (by simp)
          · rw [if_neg c12] at H
            have c12b0 : ((l0.length : Int) == 0) = false := beq_eq_false_iff_ne.mpr c12
            have c12b1 : ((l0.length : Int) != 0) = true := bne_iff_ne.mpr c12
            have c12b2 : ¬ (l0 = []) := fun h_ => c12 (by rw [h_]; rfl)
            replace H := Option.bind_eq_some_iff.mp H
            obtain ⟨t266, A130, H⟩ := H
            replace H : ((calls_Calls_Many.f a1 l0).bind fun t267 => (if t266 < 0 then (if 0 ≤ (Int.tmod (wrap64 (a2)) (l0.length : Int)) then (if (Int.tmod (wrap64 (a2)) (l0.length : Int)) < (l0.length : Int) then (if (rd l0 (Int.tmod (wrap64 (a2)) (l0.length : Int))) = 0 then (some ((Go.bits .and .u32 a1 a4) == 0)) else (some false)) else (none)) else (none)) else (if t266 > 31 then (paternosterlaw22_CallsWait.j1 kj7 l0 a1 a4 (Int.tmod (wrap64 (a2)) (l0.length : Int)) (Int.tmod (wrap64 (a3)) 249) t266 t267 true a1 l0) else (if 0 ≤ (Int.tmod (wrap64 (a2)) (l0.length : Int)) then (if (Int.tmod (wrap64 (a2)) (l0.length : Int)) < (l0.length : Int) then (if 0 ≤ (IntKind.u64.wrap (t266)) then (if (Go.bits .and .u32 (shr .u32 (rd l0 (Int.tmod (wrap64 (a2)) (l0.length : Int))) (IntKind.u64.wrap (t266))) 1) = 0 then (if (rd l0 (Int.tmod (wrap64 (a2)) (l0.length : Int))) = 0 then (paternosterlaw22_CallsWait.j1 kj7 l0 a1 a4 (Int.tmod (wrap64 (a2)) (l0.length : Int)) (Int.tmod (wrap64 (a3)) 249) t266 t267 ((Go.bits .and .u32 (shr .u32 a1 (IntKind.u64.wrap (t266))) 1) == 0) a1 l0) else (paternosterlaw22_CallsWait.j1 kj7 l0 a1 a4 (Int.tmod (wrap64 (a2)) (l0.length : Int)) (Int.tmod (wrap64 (a3)) 249) t266 t267 true a1 l0)) else (paternosterlaw22_CallsWait.j1 kj7 l0 a1 a4 (Int.tmod (wrap64 (a2)) (l0.length : Int)) (Int.tmod (wrap64 (a3)) 249) t266 t267 false a1 l0)) else (none)) else (none)) else (none))))) = some r := H
            have A13 := Aside0.mk A130
            clear A130
            replace H := Option.bind_eq_some_iff.mp H
            obtain ⟨t267, A140, H⟩ := H
            replace H : (if t266 < 0 then (if 0 ≤ (Int.tmod (wrap64 (a2)) (l0.length : Int)) then (if (Int.tmod (wrap64 (a2)) (l0.length : Int)) < (l0.length : Int) then (if (rd l0 (Int.tmod (wrap64 (a2)) (l0.length : Int))) = 0 then (some ((Go.bits .and .u32 a1 a4) == 0)) else (some false)) else (none)) else (none)) else (if t266 > 31 then (paternosterlaw22_CallsWait.j1 kj7 l0 a1 a4 (Int.tmod (wrap64 (a2)) (l0.length : Int)) (Int.tmod (wrap64 (a3)) 249) t266 t267 true a1 l0) else (if 0 ≤ (Int.tmod (wrap64 (a2)) (l0.length : Int)) then (if (Int.tmod (wrap64 (a2)) (l0.length : Int)) < (l0.length : Int) then (if 0 ≤ (IntKind.u64.wrap (t266)) then (if (Go.bits .and .u32 (shr .u32 (rd l0 (Int.tmod (wrap64 (a2)) (l0.length : Int))) (IntKind.u64.wrap (t266))) 1) = 0 then (if (rd l0 (Int.tmod (wrap64 (a2)) (l0.length : Int))) = 0 then (paternosterlaw22_CallsWait.j1 kj7 l0 a1 a4 (Int.tmod (wrap64 (a2)) (l0.length : Int)) (Int.tmod (wrap64 (a3)) 249) t266 t267 ((Go.bits .and .u32 (shr .u32 a1 (IntKind.u64.wrap (t266))) 1) == 0) a1 l0) else (paternosterlaw22_CallsWait.j1 kj7 l0 a1 a4 (Int.tmod (wrap64 (a2)) (l0.length : Int)) (Int.tmod (wrap64 (a3)) 249) t266 t267 true a1 l0)) else (paternosterlaw22_CallsWait.j1 kj7 l0 a1 a4 (Int.tmod (wrap64 (a2)) (l0.length : Int)) (Int.tmod (wrap64 (a3)) 249) t266 t267 false a1 l0)) else (none)) else (none)) else (none)))) = some r := H
            have A14 := Aside0.mk A140
            clear A140
            by_cases c15 : t266 < 0
            · rw [if_pos c15] at H
              have c15b0 : decide (t266 < 0) = true := decide_eq_true c15
              clear c15
              obtain ⟨ji16, hji16⟩ : ∃ j_ : Int, (Int.tmod (wrap64 (a2)) (l0.length : Int)) = j_ := ⟨_, rfl⟩
              replace H : (if 0 ≤ (ji16) then (if (ji16) < (l0.length : Int) then (if (rd l0 (ji16)) = 0 then (some ((Go.bits .and .u32 a1 a4) == 0)) else (some false)) else (none)) else (none)) = some r := by first | (rw [hji16] at H; exact H) | (simp only [hji16] at H ⊢; exact H)
              (try rw [hji16] at A13)
              (try rw [hji16] at A14)
              by_cases c17 : 0 ≤ (ji16)
              · rw [if_pos c17] at H
                have c17b0 : decide (0 ≤ (ji16)) = true := decide_eq_true c17
                clear c17
                by_cases c18 : (ji16) < (l0.length : Int)
                · rw [if_pos c18] at H
                  have c18b0 : decide ((ji16) < (l0.length : Int)) = true := decide_eq_true c18
                  clear c18
                  by_cases c19 : (rd l0 (ji16)) = 0
                  · rw [if_pos c19] at H
                    have c19b0 : ((rd l0 (ji16)) == 0) = true := beq_iff_eq.mpr c19
                    have c19b1 : ((rd l0 (ji16)) != 0) = false := bne_eq_false_iff_eq.mpr c19
                    clear c19
                    obtain rfl := Option.some.inj H
                    go_wp2_with (first | ((with_reducible refine gate_dst (N := 12) rfl ?_); (try (refine gate_guard (by rfl) ?_; dsimp only)); refine box_event ?hg (N := 12) ?hd (cs := #[.int .u32 0, .slice none 0 0]) (t := 27) ?hr ?_; (case hd => rfl); (case hg => rfl); (case hr => first | (go_simp; done) | (go_simp; rfl)); intro gb265 hg w20 hbox hb; have n0_ := Aside0.mk (below_step (by repeat (first | (with_reducible first | exact HB.out | apply below_alloc | apply pw_below_drewN | apply below_drew1) | exact HB.out)) hb); have n1_ := Aside0.mk (hbox); have n2_ := Aside0.mk ((by rw [hg]; exact (below_size (by repeat (first | (with_reducible first | exact HB.out | apply below_alloc | apply pw_below_drewN | apply below_drew1) | exact HB.out))) : w.heap.size ≤ gb265)); have n3_ := Aside0.mk ((by rw [hg]; exact (below_size (by repeat (first | (with_reducible first | exact HB.out | apply below_alloc | apply pw_below_drewN | apply below_drew1) | exact HB.out))) : w.heap.size ≤ gb265)); clear HB; have HB := n0_; have BK265 := n1_; have GW265 := n2_; have GE265 := n3_; clear n0_ n1_ n2_ n3_; clear hb hbox hg; have hcz21_0 : w20.cell? ⟨gb265, 0, none⟩ = some (.int .u32 0) := (blk_cell BK265.out 0).trans rfl; have hcz21_1 : w20.cell? ⟨gb265, 1, none⟩ = some (.slice none 0 0) := (blk_cell BK265.out 1).trans rfl; have hfz21_0 := blk_frozen BK265.out 0; have hfz21_1 := blk_frozen BK265.out 1) | ((with_reducible refine gate_callee (f := 16) rfl ?_); refine goesL_ (some 47) rfl rfl Tryd.func16 (by kernel_rfl) rfl #[.agg #[.int .u32 a1, .slice A0 l0.length c0], .int .i64 ji16, .int .i64 (Int.tmod (wrap64 (a3)) 249), .int .u32 a4] rfl (by (try simp only [List.map_toArray, List.map_cons, List.map_nil]); first | done | (simp only [hji16]; rfl) | rfl | (simp only [List.length_drop, List.length_take]; rfl)) ?_; (with_reducible refine (calls_Calls_Next.calls a1 _ _ l0 ji16 (Int.tmod (wrap64 (a3)) 249) a4 t266 _ ?side1 ?side2 A13.out (PAll.Deb.keep HLAID.out (by repeat (first | (with_reducible first | exact HB.out | apply below_alloc | apply pw_below_drewN | apply below_drew1 | refine below_set ?_ (Aside0.out (by assumption))) | exact HB.out | refine below_set ?_ (Aside0.out (by assumption)))))).mono ?_); (case side1 => exact Kd.C_below HR0.out (by repeat (first | (with_reducible first | exact HB.out | apply below_alloc | apply pw_below_drewN | apply below_drew1 | refine below_set ?_ GE265.out) | exact HB.out))); (case side2 => exact HC0.out); rintro e w22 ⟨rfl, hb⟩; refine ⟨_, rfl, ?_⟩; have n0_ := Aside0.mk (blk_below (g := gb265) (o := .cells #[.int .u32 a1, .slice A0 l0.length c0] 27 (0, 0)) (by (with_reducible repeat (first | refine blk_drewN ?_ _ | refine blk_drew ?_ | refine blk_alloc ?_ _)); refine blk_put (cs := #[.int .u32 a1, .slice none 0 0]) ?_ 1 _ rfl; (with_reducible repeat (first | refine blk_drewN ?_ _ | refine blk_drew ?_ | refine blk_alloc ?_ _)); refine blk_put (cs := #[.int .u32 0, .slice none 0 0]) ?_ 0 _ rfl; (with_reducible repeat (first | refine blk_drewN ?_ _ | refine blk_drew ?_ | refine blk_alloc ?_ _)); exact BK265.out) hb); have n1_ := Aside0.mk (below_step (by repeat (first | (with_reducible first | exact HB.out | apply below_alloc | apply pw_below_drewN | apply below_drew1 | refine below_set ?_ GE265.out) | exact HB.out)) hb); clear BK265; clear HB; have BK265 := n0_; have HB := n1_; clear n0_ n1_; (try clear hb); (try clear hb2); (try clear hk); (try clear hi); have hcz23_0 : w22.cell? ⟨gb265, 0, none⟩ = some (.int .u32 a1) := (blk_cell BK265.out 0).trans rfl; have hcz23_1 : w22.cell? ⟨gb265, 1, none⟩ = some (.slice A0 l0.length c0) := (blk_cell BK265.out 1).trans rfl; have hfz23_0 := blk_frozen BK265.out 0; have hfz23_1 := blk_frozen BK265.out 1) | ((with_reducible refine gate_callee (f := 18) rfl ?_); refine goesL_ (some 49) rfl rfl Tryd.func18 (by kernel_rfl) rfl #[.agg #[.int .u32 a1, .slice A0 l0.length c0]] rfl (by (try simp only [List.map_toArray, List.map_cons, List.map_nil]); first | done | rfl | (simp only [List.length_drop, List.length_take]; rfl)) ?_; (with_reducible refine (calls_Calls_Many.calls a1 _ _ l0 t267 _ ?side1 ?side2 A14.out).mono ?_); (case side1 => repeat (first | exact (Kd.C_below HR0.out HB.out) | (with_reducible refine Kd.C_alloc ?_ _) | (with_reducible refine Kd.C_drewN ?_ _) | (with_reducible refine Kd.C_drew ?_))); (case side2 => exact HC0.out); rintro e w24 ⟨rfl, hb⟩; refine ⟨_, rfl, ?_⟩; have n0_ := Aside0.mk (blk_below (g := gb265) (o := .cells #[.int .u32 a1, .slice A0 l0.length c0] 27 (0, 0)) (by (with_reducible repeat (first | refine blk_drewN ?_ _ | refine blk_drew ?_ | refine blk_alloc ?_ _)); exact BK265.out) hb); have n1_ := Aside0.mk (below_step (by repeat (first | (with_reducible first | exact HB.out | apply below_alloc | apply pw_below_drewN | apply below_drew1 | refine below_set ?_ GE265.out) | exact HB.out)) hb); clear BK265; clear HB; have BK265 := n0_; have HB := n1_; clear n0_ n1_; (try clear hb); (try clear hb2); (try clear hk); (try clear hi); have p268 : 0 ≤ ((ji16) : Int) := of_decide_eq_true (by first | (with_reducible assumption) | assumption); have q268 : (ji16) < (l0.length : Int) := of_decide_eq_true (by first | (with_reducible assumption) | assumption); obtain ⟨ad268, e268, hx268_0⟩ := Kd.at_int HR0.out (ji16) p268 q268; cases e268; replace hx268_0 := (HB.out.cell (World.block_lt_of_cell? w _ hx268_0)).trans hx268_0; replace p268 := eq_true p268; replace q268 := eq_true q268))
                    go_ret
                    exact ⟨by first | rfl | (simp [errW_none, errW_some] <;> rfl) | (simp only [← hji16]; first | rfl | (simp [errW_none, errW_some] <;> rfl)) | (simp [*, errW_none, errW_some] <;> rfl), by repeat (first | (with_reducible first | exact HB.out | apply below_alloc | apply pw_below_drewN | apply below_drew1 | refine below_set ?_ GE265.out) | exact HB.out)⟩
                  · rw [if_neg c19] at H
                    have c19b0 : ((rd l0 (ji16)) == 0) = false := beq_eq_false_iff_ne.mpr c19
                    have c19b1 : ((rd l0 (ji16)) != 0) = true := bne_iff_ne.mpr c19
                    obtain rfl := Option.some.inj H
                    go_wp2_with (first | ((with_reducible refine gate_dst (N := 12) rfl ?_); (try (refine gate_guard (by rfl) ?_; dsimp only)); refine box_event ?hg (N := 12) ?hd (cs := #[.int .u32 0, .slice none 0 0]) (t := 27) ?hr ?_; (case hd => rfl); (case hg => rfl); (case hr => first | (go_simp; done) | (go_simp; rfl)); intro gb265 hg w25 hbox hb; have n0_ := Aside0.mk (below_step (by repeat (first | (with_reducible first | exact HB.out | apply below_alloc | apply pw_below_drewN | apply below_drew1) | exact HB.out)) hb); have n1_ := Aside0.mk (hbox); have n2_ := Aside0.mk ((by rw [hg]; exact (below_size (by repeat (first | (with_reducible first | exact HB.out | apply below_alloc | apply pw_below_drewN | apply below_drew1) | exact HB.out))) : w.heap.size ≤ gb265)); have n3_ := Aside0.mk ((by rw [hg]; exact (below_size (by repeat (first | (with_reducible first | exact HB.out | apply below_alloc | apply pw_below_drewN | apply below_drew1) | exact HB.out))) : w.heap.size ≤ gb265)); clear HB; have HB := n0_; have BK265 := n1_; have GW265 := n2_; have GE265 := n3_; clear n0_ n1_ n2_ n3_; clear hb hbox hg; have hcz26_0 : w25.cell? ⟨gb265, 0, none⟩ = some (.int .u32 0) := (blk_cell BK265.out 0).trans rfl; have hcz26_1 : w25.cell? ⟨gb265, 1, none⟩ = some (.slice none 0 0) := (blk_cell BK265.out 1).trans rfl; have hfz26_0 := blk_frozen BK265.out 0; have hfz26_1 := blk_frozen BK265.out 1) | ((with_reducible refine gate_callee (f := 16) rfl ?_); refine goesL_ (some 47) rfl rfl Tryd.func16 (by kernel_rfl) rfl #[.agg #[.int .u32 a1, .slice A0 l0.length c0], .int .i64 ji16, .int .i64 (Int.tmod (wrap64 (a3)) 249), .int .u32 a4] rfl (by (try simp only [List.map_toArray, List.map_cons, List.map_nil]); first | done | (simp only [hji16]; rfl) | rfl | (simp only [List.length_drop, List.length_take]; rfl)) ?_; (with_reducible refine (calls_Calls_Next.calls a1 _ _ l0 ji16 (Int.tmod (wrap64 (a3)) 249) a4 t266 _ ?side1 ?side2 A13.out (PAll.Deb.keep HLAID.out (by repeat (first | (with_reducible first | exact HB.out | apply below_alloc | apply pw_below_drewN | apply below_drew1 | refine below_set ?_ (Aside0.out (by assumption))) | exact HB.out | refine below_set ?_ (Aside0.out (by assumption)))))).mono ?_); (case side1 => exact Kd.C_below HR0.out (by repeat (first | (with_reducible first | exact HB.out | apply below_alloc | apply pw_below_drewN | apply below_drew1 | refine below_set ?_ GE265.out) | exact HB.out))); (case side2 => exact HC0.out); rintro e w27 ⟨rfl, hb⟩; refine ⟨_, rfl, ?_⟩; have n0_ := Aside0.mk (blk_below (g := gb265) (o := .cells #[.int .u32 a1, .slice A0 l0.length c0] 27 (0, 0)) (by (with_reducible repeat (first | refine blk_drewN ?_ _ | refine blk_drew ?_ | refine blk_alloc ?_ _)); refine blk_put (cs := #[.int .u32 a1, .slice none 0 0]) ?_ 1 _ rfl; (with_reducible repeat (first | refine blk_drewN ?_ _ | refine blk_drew ?_ | refine blk_alloc ?_ _)); refine blk_put (cs := #[.int .u32 0, .slice none 0 0]) ?_ 0 _ rfl; (with_reducible repeat (first | refine blk_drewN ?_ _ | refine blk_drew ?_ | refine blk_alloc ?_ _)); exact BK265.out) hb); have n1_ := Aside0.mk (below_step (by repeat (first | (with_reducible first | exact HB.out | apply below_alloc | apply pw_below_drewN | apply below_drew1 | refine below_set ?_ GE265.out) | exact HB.out)) hb); clear BK265; clear HB; have BK265 := n0_; have HB := n1_; clear n0_ n1_; (try clear hb); (try clear hb2); (try clear hk); (try clear hi); have hcz28_0 : w27.cell? ⟨gb265, 0, none⟩ = some (.int .u32 a1) := (blk_cell BK265.out 0).trans rfl; have hcz28_1 : w27.cell? ⟨gb265, 1, none⟩ = some (.slice A0 l0.length c0) := (blk_cell BK265.out 1).trans rfl; have hfz28_0 := blk_frozen BK265.out 0; have hfz28_1 := blk_frozen BK265.out 1) | ((with_reducible refine gate_callee (f := 18) rfl ?_); refine goesL_ (some 49) rfl rfl Tryd.func18 (by kernel_rfl) rfl #[.agg #[.int .u32 a1, .slice A0 l0.length c0]] rfl (by (try simp only [List.map_toArray, List.map_cons, List.map_nil]); first | done | rfl | (simp only [List.length_drop, List.length_take]; rfl)) ?_; (with_reducible refine (calls_Calls_Many.calls a1 _ _ l0 t267 _ ?side1 ?side2 A14.out).mono ?_); (case side1 => repeat (first | exact (Kd.C_below HR0.out HB.out) | (with_reducible refine Kd.C_alloc ?_ _) | (with_reducible refine Kd.C_drewN ?_ _) | (with_reducible refine Kd.C_drew ?_))); (case side2 => exact HC0.out); rintro e w29 ⟨rfl, hb⟩; refine ⟨_, rfl, ?_⟩; have n0_ := Aside0.mk (blk_below (g := gb265) (o := .cells #[.int .u32 a1, .slice A0 l0.length c0] 27 (0, 0)) (by (with_reducible repeat (first | refine blk_drewN ?_ _ | refine blk_drew ?_ | refine blk_alloc ?_ _)); exact BK265.out) hb); have n1_ := Aside0.mk (below_step (by repeat (first | (with_reducible first | exact HB.out | apply below_alloc | apply pw_below_drewN | apply below_drew1 | refine below_set ?_ GE265.out) | exact HB.out)) hb); clear BK265; clear HB; have BK265 := n0_; have HB := n1_; clear n0_ n1_; (try clear hb); (try clear hb2); (try clear hk); (try clear hi); have p268 : 0 ≤ ((ji16) : Int) := of_decide_eq_true (by first | (with_reducible assumption) | assumption); have q268 : (ji16) < (l0.length : Int) := of_decide_eq_true (by first | (with_reducible assumption) | assumption); obtain ⟨ad268, e268, hx268_0⟩ := Kd.at_int HR0.out (ji16) p268 q268; cases e268; replace hx268_0 := (HB.out.cell (World.block_lt_of_cell? w _ hx268_0)).trans hx268_0; replace p268 := eq_true p268; replace q268 := eq_true q268))
                    go_ret
                    exact ⟨by first | rfl | (simp [errW_none, errW_some] <;> rfl) | (simp only [← hji16]; first | rfl | (simp [errW_none, errW_some] <;> rfl)) | (simp [*, errW_none, errW_some] <;> rfl), by repeat (first | (with_reducible first | exact HB.out | apply below_alloc | apply pw_below_drewN | apply below_drew1 | refine below_set ?_ GE265.out) | exact HB.out)⟩
                · rw [if_neg c18] at H
                  exact absurd H (by simp)
              · rw [if_neg c17] at H
                exact absurd H (by simp)
            · rw [if_neg c15] at H
              have c15b0 : decide (t266 < 0) = false := decide_eq_false c15
              clear c15
              have HC30 := Aside0.mk H
              clear H
              go_upto_region 13 with (first | ((with_reducible refine gate_dst (N := 12) rfl ?_); (try (refine gate_guard (by rfl) ?_; dsimp only)); refine box_event ?hg (N := 12) ?hd (cs := #[.int .u32 0, .slice none 0 0]) (t := 27) ?hr ?_; (case hd => rfl); (case hg => rfl); (case hr => first | (go_simp; done) | (go_simp; rfl)); intro gb265 hg w31 hbox hb; have n0_ := Aside0.mk (below_step (by repeat (first | (with_reducible first | exact HB.out | apply below_alloc | apply pw_below_drewN | apply below_drew1) | exact HB.out)) hb); have n1_ := Aside0.mk (hbox); have n2_ := Aside0.mk ((by rw [hg]; exact (below_size (by repeat (first | (with_reducible first | exact HB.out | apply below_alloc | apply pw_below_drewN | apply below_drew1) | exact HB.out))) : w.heap.size ≤ gb265)); have n3_ := Aside0.mk ((by rw [hg]; exact (below_size (by repeat (first | (with_reducible first | exact HB.out | apply below_alloc | apply pw_below_drewN | apply below_drew1) | exact HB.out))) : w.heap.size ≤ gb265)); clear HB; have HB := n0_; have BK265 := n1_; have GW265 := n2_; have GE265 := n3_; clear n0_ n1_ n2_ n3_; clear hb hbox hg; have hcz32_0 : w31.cell? ⟨gb265, 0, none⟩ = some (.int .u32 0) := (blk_cell BK265.out 0).trans rfl; have hcz32_1 : w31.cell? ⟨gb265, 1, none⟩ = some (.slice none 0 0) := (blk_cell BK265.out 1).trans rfl; have hfz32_0 := blk_frozen BK265.out 0; have hfz32_1 := blk_frozen BK265.out 1) | ((with_reducible refine gate_callee (f := 16) rfl ?_); refine goesL_ (some 47) rfl rfl Tryd.func16 (by kernel_rfl) rfl #[.agg #[.int .u32 a1, .slice A0 l0.length c0], .int .i64 (Int.tmod (wrap64 (a2)) (l0.length : Int)), .int .i64 (Int.tmod (wrap64 (a3)) 249), .int .u32 a4] rfl (by (try simp only [List.map_toArray, List.map_cons, List.map_nil]); first | done | rfl | (simp only [List.length_drop, List.length_take]; rfl)) ?_; (with_reducible refine (calls_Calls_Next.calls a1 _ _ l0 (Int.tmod (wrap64 (a2)) (l0.length : Int)) (Int.tmod (wrap64 (a3)) 249) a4 t266 _ ?side1 ?side2 A13.out (PAll.Deb.keep HLAID.out (by repeat (first | (with_reducible first | exact HB.out | apply below_alloc | apply pw_below_drewN | apply below_drew1 | refine below_set ?_ (Aside0.out (by assumption))) | exact HB.out | refine below_set ?_ (Aside0.out (by assumption)))))).mono ?_); (case side1 => exact Kd.C_below HR0.out (by repeat (first | (with_reducible first | exact HB.out | apply below_alloc | apply pw_below_drewN | apply below_drew1 | refine below_set ?_ GE265.out) | exact HB.out))); (case side2 => exact HC0.out); rintro e w33 ⟨rfl, hb⟩; refine ⟨_, rfl, ?_⟩; have n0_ := Aside0.mk (blk_below (g := gb265) (o := .cells #[.int .u32 a1, .slice A0 l0.length c0] 27 (0, 0)) (by (with_reducible repeat (first | refine blk_drewN ?_ _ | refine blk_drew ?_ | refine blk_alloc ?_ _)); refine blk_put (cs := #[.int .u32 a1, .slice none 0 0]) ?_ 1 _ rfl; (with_reducible repeat (first | refine blk_drewN ?_ _ | refine blk_drew ?_ | refine blk_alloc ?_ _)); refine blk_put (cs := #[.int .u32 0, .slice none 0 0]) ?_ 0 _ rfl; (with_reducible repeat (first | refine blk_drewN ?_ _ | refine blk_drew ?_ | refine blk_alloc ?_ _)); exact BK265.out) hb); have n1_ := Aside0.mk (below_step (by repeat (first | (with_reducible first | exact HB.out | apply below_alloc | apply pw_below_drewN | apply below_drew1 | refine below_set ?_ GE265.out) | exact HB.out)) hb); clear BK265; clear HB; have BK265 := n0_; have HB := n1_; clear n0_ n1_; (try clear hb); (try clear hb2); (try clear hk); (try clear hi); have hcz34_0 : w33.cell? ⟨gb265, 0, none⟩ = some (.int .u32 a1) := (blk_cell BK265.out 0).trans rfl; have hcz34_1 : w33.cell? ⟨gb265, 1, none⟩ = some (.slice A0 l0.length c0) := (blk_cell BK265.out 1).trans rfl; have hfz34_0 := blk_frozen BK265.out 0; have hfz34_1 := blk_frozen BK265.out 1) | ((with_reducible refine gate_callee (f := 18) rfl ?_); refine goesL_ (some 49) rfl rfl Tryd.func18 (by kernel_rfl) rfl #[.agg #[.int .u32 a1, .slice A0 l0.length c0]] rfl (by (try simp only [List.map_toArray, List.map_cons, List.map_nil]); first | done | rfl | (simp only [List.length_drop, List.length_take]; rfl)) ?_; (with_reducible refine (calls_Calls_Many.calls a1 _ _ l0 t267 _ ?side1 ?side2 A14.out).mono ?_); (case side1 => repeat (first | exact (Kd.C_below HR0.out HB.out) | (with_reducible refine Kd.C_alloc ?_ _) | (with_reducible refine Kd.C_drewN ?_ _) | (with_reducible refine Kd.C_drew ?_))); (case side2 => exact HC0.out); rintro e w35 ⟨rfl, hb⟩; refine ⟨_, rfl, ?_⟩; have n0_ := Aside0.mk (blk_below (g := gb265) (o := .cells #[.int .u32 a1, .slice A0 l0.length c0] 27 (0, 0)) (by (with_reducible repeat (first | refine blk_drewN ?_ _ | refine blk_drew ?_ | refine blk_alloc ?_ _)); exact BK265.out) hb); have n1_ := Aside0.mk (below_step (by repeat (first | (with_reducible first | exact HB.out | apply below_alloc | apply pw_below_drewN | apply below_drew1 | refine below_set ?_ GE265.out) | exact HB.out)) hb); clear BK265; clear HB; have BK265 := n0_; have HB := n1_; clear n0_ n1_; (try clear hb); (try clear hb2); (try clear hk); (try clear hi)))
              (try simp only [Act.put, List.setIfInBounds_toArray, List.set_cons_zero, List.set_cons_succ])
              go_cut [90] (fun v90 wc => ∃ (kq : Nat) (x90_29 : Bool), v90 = .bool x90_29 ∧ Aside0 (paternosterlaw22_CallsWait.j1 kq l0 a1 a4 (Int.tmod (wrap64 (a2)) (l0.length : Int)) (Int.tmod (wrap64 (a3)) 249) t266 t267 x90_29 a1 l0 = some r) ∧ Aside0 (kq ≤ kj7) ∧ Aside0 (wc.heap[gb265]? = some (.cells #[.int .u32 a1, (.slice A0 l0.length c0)] 27 (0, 0))) ∧ Aside0 (Below w.heap.size w wc))
              case first =>
                have H := HC30.out
                clear HC30
                by_cases c36 : t266 > 31
                · rw [if_pos c36] at H
                  have c36b0 : decide (31 < t266) = true := decide_eq_true c36
                  clear c36
                  (first | rw [c36b0] | (simp only [i64_w, i32_w]; rw [c36b0]) | skip)
                  have H' := Aside0.mk H
                  clear H
                  go_wp2
                  go_meet
                  case rel => exact ⟨_, (true), (by first | rfl | (simp; done) | (simp [*]; done)), H', ⟨by have := HJ7.out; first | omega | exact Nat.le_refl _⟩, ⟨by (with_reducible repeat (first | refine blk_drewN ?_ _ | refine blk_drew ?_ | refine blk_alloc ?_ _)); exact BK265.out⟩, ⟨by repeat (first | (with_reducible first | exact HB.out | apply below_alloc | apply pw_below_drewN | apply below_drew1 | refine below_set ?_ GE265.out) | exact HB.out)⟩⟩
                · rw [if_neg c36] at H
                  have c36b0 : decide (31 < t266) = false := decide_eq_false c36
                  clear c36
                  (first | rw [c36b0] | (simp only [i64_w, i32_w]; rw [c36b0]) | skip)
                  obtain ⟨ji37, hji37⟩ : ∃ j_ : Int, (Int.tmod (wrap64 (a2)) (l0.length : Int)) = j_ := ⟨_, rfl⟩
                  replace H : (if 0 ≤ (ji37) then (if (ji37) < (l0.length : Int) then (if 0 ≤ (IntKind.u64.wrap (t266)) then (if (Go.bits .and .u32 (shr .u32 (rd l0 (ji37)) (IntKind.u64.wrap (t266))) 1) = 0 then (if (rd l0 (ji37)) = 0 then (paternosterlaw22_CallsWait.j1 kj7 l0 a1 a4 ji37 (Int.tmod (wrap64 (a3)) 249) t266 t267 ((Go.bits .and .u32 (shr .u32 a1 (IntKind.u64.wrap (t266))) 1) == 0) a1 l0) else (paternosterlaw22_CallsWait.j1 kj7 l0 a1 a4 ji37 (Int.tmod (wrap64 (a3)) 249) t266 t267 true a1 l0)) else (paternosterlaw22_CallsWait.j1 kj7 l0 a1 a4 ji37 (Int.tmod (wrap64 (a3)) 249) t266 t267 false a1 l0)) else (none)) else (none)) else (none)) = some r := by first | (rw [hji37] at H; exact H) | (simp only [hji37] at H ⊢; exact H)
                  by_cases c38 : 0 ≤ (ji37)
                  · rw [if_pos c38] at H
                    have c38b0 : decide (0 ≤ (ji37)) = true := decide_eq_true c38
                    clear c38
                    by_cases c39 : (ji37) < (l0.length : Int)
                    · rw [if_pos c39] at H
                      have c39b0 : decide ((ji37) < (l0.length : Int)) = true := decide_eq_true c39
                      clear c39
                      obtain ⟨ji40, hji40⟩ : ∃ j_ : Int, (IntKind.u64.wrap (t266)) = j_ := ⟨_, rfl⟩
                      replace H : (if 0 ≤ (ji40) then (if (Go.bits .and .u32 (shr .u32 (rd l0 (ji37)) (ji40)) 1) = 0 then (if (rd l0 (ji37)) = 0 then (paternosterlaw22_CallsWait.j1 kj7 l0 a1 a4 ji37 (Int.tmod (wrap64 (a3)) 249) t266 t267 ((Go.bits .and .u32 (shr .u32 a1 (ji40)) 1) == 0) a1 l0) else (paternosterlaw22_CallsWait.j1 kj7 l0 a1 a4 ji37 (Int.tmod (wrap64 (a3)) 249) t266 t267 true a1 l0)) else (paternosterlaw22_CallsWait.j1 kj7 l0 a1 a4 ji37 (Int.tmod (wrap64 (a3)) 249) t266 t267 false a1 l0)) else (none)) = some r := by first | (rw [hji40] at H; exact H) | (simp only [hji40] at H ⊢; exact H)
                      by_cases c41 : 0 ≤ (ji40)
                      · rw [if_pos c41] at H
                        have c41b0 := eq_true c41
                        have c41b1 : decide (0 ≤ (ji40)) = true := decide_eq_true c41
                        clear c41
                        obtain ⟨ji42, hji42⟩ : ∃ j_ : Int, (shr .u32 (rd l0 (ji37)) (ji40)) = j_ := ⟨_, rfl⟩
                        replace H : (if (Go.bits .and .u32 (ji42) 1) = 0 then (if (rd l0 (ji37)) = 0 then (paternosterlaw22_CallsWait.j1 kj7 l0 a1 a4 ji37 (Int.tmod (wrap64 (a3)) 249) t266 t267 ((Go.bits .and .u32 (shr .u32 a1 (ji40)) 1) == 0) a1 l0) else (paternosterlaw22_CallsWait.j1 kj7 l0 a1 a4 ji37 (Int.tmod (wrap64 (a3)) 249) t266 t267 true a1 l0)) else (paternosterlaw22_CallsWait.j1 kj7 l0 a1 a4 ji37 (Int.tmod (wrap64 (a3)) 249) t266 t267 false a1 l0)) = some r := by first | (rw [hji42] at H; exact H) | (simp only [hji42] at H ⊢; exact H)
                        have hji42_ : ((rd l0 (ji37)) / 2 ^ min (ji40).toNat 32) = ji42 := hji42
                        have hji42z : (ji40) ≤ 32 → ((rd l0 (ji37)) / 2 ^ (ji40).toNat) = ji42 := shr_small hji42
                        by_cases c43 : (Go.bits .and .u32 (ji42) 1) = 0
                        · rw [if_pos c43] at H
                          have c43b0 : ((Go.bits .and .u32 (ji42) 1) == 0) = true := beq_iff_eq.mpr c43
                          have c43b1 : ((Go.bits .and .u32 (ji42) 1) != 0) = false := bne_eq_false_iff_eq.mpr c43
                          clear c43
                          by_cases c44 : (rd l0 (ji37)) = 0
                          · rw [if_pos c44] at H
                            have c44b0 : ((rd l0 (ji37)) == 0) = true := beq_iff_eq.mpr c44
                            have c44b1 : ((rd l0 (ji37)) != 0) = false := bne_eq_false_iff_eq.mpr c44
                            clear c44
                            have c45b0 := eq_true (of_decide_eq_true (by first | (with_reducible assumption) | assumption) : 0 ≤ (ji40))
                            obtain ⟨ji46, hji46⟩ : ∃ j_ : Int, (shr .u32 a1 (ji40)) = j_ := ⟨_, rfl⟩
                            replace H : (paternosterlaw22_CallsWait.j1 kj7 l0 a1 a4 ji37 (Int.tmod (wrap64 (a3)) 249) t266 t267 ((Go.bits .and .u32 (ji46) 1) == 0) a1 l0) = some r := by first | (rw [hji46] at H; exact H) | (simp only [hji46] at H ⊢; exact H)
                            have hji46_ : (a1 / 2 ^ min (ji40).toNat 32) = ji46 := hji46
                            have hji46z : (ji40) ≤ 32 → (a1 / 2 ^ (ji40).toNat) = ji46 := shr_small hji46
                            have H' := Aside0.mk H
                            clear H
                            have p269 : 0 ≤ ((ji37) : Int) := of_decide_eq_true (by first | (with_reducible assumption) | assumption)
                            have q269 : (ji37) < (l0.length : Int) := of_decide_eq_true (by first | (with_reducible assumption) | assumption)
                            obtain ⟨ad269, e269, hx269_0⟩ := Kd.at_int HR0.out (ji37) p269 q269
                            cases e269
                            replace hx269_0 := (HB.out.cell (World.block_lt_of_cell? w _ hx269_0)).trans hx269_0
                            replace p269 := eq_true p269
                            replace q269 := eq_true q269
                            have p270 : 0 ≤ ((ji37) : Int) := of_decide_eq_true (by first | (with_reducible assumption) | assumption)
                            have q270 : (ji37) < (l0.length : Int) := of_decide_eq_true (by first | (with_reducible assumption) | assumption)
                            obtain ⟨ad270, e270, hx270_0⟩ := Kd.at_int HR0.out (ji37) p270 q270
                            obtain rfl : ad269 = ad270 := (by injection e270)
                            replace hx270_0 := (HB.out.cell (World.block_lt_of_cell? w _ hx270_0)).trans hx270_0
                            replace p270 := eq_true p270
                            replace q270 := eq_true q270
                            go_wp2
                            (try simp only [← hji37] at H' ⊢)
                            go_meet
                            case rel => exact ⟨_, (((Go.bits .and .u32 (ji46) 1) == 0)), (by first | rfl | (simp; done) | (simp only [← hji46] <;> (first | rfl | simp)) | (simp [*]; done)), H', ⟨by have := HJ7.out; first | omega | exact Nat.le_refl _⟩, ⟨by (with_reducible repeat (first | refine blk_drewN ?_ _ | refine blk_drew ?_ | refine blk_alloc ?_ _)); exact BK265.out⟩, ⟨by repeat (first | (with_reducible first | exact HB.out | apply below_alloc | apply pw_below_drewN | apply below_drew1 | refine below_set ?_ GE265.out) | exact HB.out)⟩⟩
                          · rw [if_neg c44] at H
                            have c44b0 : ((rd l0 (ji37)) == 0) = false := beq_eq_false_iff_ne.mpr c44
                            have c44b1 : ((rd l0 (ji37)) != 0) = true := bne_iff_ne.mpr c44
                            have H' := Aside0.mk H
                            clear H
                            have p269 : 0 ≤ ((ji37) : Int) := of_decide_eq_true (by first | (with_reducible assumption) | assumption)
                            have q269 : (ji37) < (l0.length : Int) := of_decide_eq_true (by first | (with_reducible assumption) | assumption)
                            obtain ⟨ad269, e269, hx269_0⟩ := Kd.at_int HR0.out (ji37) p269 q269
                            cases e269
                            replace hx269_0 := (HB.out.cell (World.block_lt_of_cell? w _ hx269_0)).trans hx269_0
                            replace p269 := eq_true p269
                            replace q269 := eq_true q269
                            have p270 : 0 ≤ ((ji37) : Int) := of_decide_eq_true (by first | (with_reducible assumption) | assumption)
                            have q270 : (ji37) < (l0.length : Int) := of_decide_eq_true (by first | (with_reducible assumption) | assumption)
                            obtain ⟨ad270, e270, hx270_0⟩ := Kd.at_int HR0.out (ji37) p270 q270
                            obtain rfl : ad269 = ad270 := (by injection e270)
                            replace hx270_0 := (HB.out.cell (World.block_lt_of_cell? w _ hx270_0)).trans hx270_0
                            replace p270 := eq_true p270
                            replace q270 := eq_true q270
                            go_wp2
                            (try simp only [← hji37] at H' ⊢)
                            go_meet
                            case rel => exact ⟨_, (true), (by first | rfl | (simp; done) | (simp [*]; done)), H', ⟨by have := HJ7.out; first | omega | exact Nat.le_refl _⟩, ⟨by (with_reducible repeat (first | refine blk_drewN ?_ _ | refine blk_drew ?_ | refine blk_alloc ?_ _)); exact BK265.out⟩, ⟨by repeat (first | (with_reducible first | exact HB.out | apply below_alloc | apply pw_below_drewN | apply below_drew1 | refine below_set ?_ GE265.out) | exact HB.out)⟩⟩
                        · rw [if_neg c43] at H
                          have c43b0 : ((Go.bits .and .u32 (ji42) 1) == 0) = false := beq_eq_false_iff_ne.mpr c43
                          have c43b1 : ((Go.bits .and .u32 (ji42) 1) != 0) = true := bne_iff_ne.mpr c43
                          have H' := Aside0.mk H
                          clear H
                          have p269 : 0 ≤ ((ji37) : Int) := of_decide_eq_true (by first | (with_reducible assumption) | assumption)
                          have q269 : (ji37) < (l0.length : Int) := of_decide_eq_true (by first | (with_reducible assumption) | assumption)
                          obtain ⟨ad269, e269, hx269_0⟩ := Kd.at_int HR0.out (ji37) p269 q269
                          cases e269
                          replace hx269_0 := (HB.out.cell (World.block_lt_of_cell? w _ hx269_0)).trans hx269_0
                          replace p269 := eq_true p269
                          replace q269 := eq_true q269
                          go_wp2
                          (try simp only [← hji37] at H' ⊢)
                          go_meet
                          case rel => exact ⟨_, (false), (by first | rfl | (simp; done) | (simp [*]; done)), H', ⟨by have := HJ7.out; first | omega | exact Nat.le_refl _⟩, ⟨by (with_reducible repeat (first | refine blk_drewN ?_ _ | refine blk_drew ?_ | refine blk_alloc ?_ _)); exact BK265.out⟩, ⟨by repeat (first | (with_reducible first | exact HB.out | apply below_alloc | apply pw_below_drewN | apply below_drew1 | refine below_set ?_ GE265.out) | exact HB.out)⟩⟩
                      · rw [if_neg c41] at H
                        exact absurd H (by simp)
                    · rw [if_neg c39] at H
                      exact absurd H (by simp)
                  · rw [if_neg c38] at H
                    exact absurd H (by simp)
              case rest =>
                clear HC30
                try clear c1
                try clear p2
                try clear q2
                try clear hx2
                try clear c3
                try clear c4
                try clear p6
                try clear c7
                try clear c8
                try clear c10
                try clear c10b0
                try clear c10b1
                try clear c11
                try clear c12
                try clear c12b0
                try clear c12b1
                try clear c12b2
                try clear c15
                try clear c15b0
                try clear c16
                try clear c17
                try clear c17b0
                try clear c18
                try clear c18b0
                try clear c19
                try clear c19b0
                try clear c19b1
                try clear p26
                try clear q26
                try clear hx26
                try clear p27
                try clear q27
                try clear hx27
                try clear c36
                try clear c36b0
                try clear c38
                try clear c38b0
                try clear c39
                try clear c39b0
                try clear c41
                try clear c41b0
                try clear c41b1
                try clear c43
                try clear c43b0
                try clear c43b1
                try clear c44
                try clear c44b0
                try clear c44b1
                try clear c45
                try clear c45b0
                try clear hcz21_0
                try clear hcz21_1
                try clear hcz23_0
                try clear hcz23_1
                try clear hcz26_0
                try clear hcz26_1
                try clear hcz28_0
                try clear hcz28_1
                try clear hcz32_0
                try clear hcz32_1
                try clear hcz34_0
                try clear hcz34_1
                try clear hfz21_0
                try clear hfz21_1
                try clear hfz23_0
                try clear hfz23_1
                try clear hfz26_0
                try clear hfz26_1
                try clear hfz28_0
                try clear hfz28_1
                try clear hfz32_0
                try clear hfz32_1
                try clear hfz34_0
                try clear hfz34_1
                try clear hx268_0
                try clear hx269_0
                try clear hx270_0
                try clear p2
                try clear p268
                try clear p269
                try clear p270
                try clear q268
                try clear q269
                try clear q270
                obtain ⟨kq, x90_29, rfl, HA, HJ29, BK265, HB⟩ := hcut
                cases kq with
                | zero => exact absurd HA.out (by simp [paternosterlaw22_CallsWait.j1])
                | succ kj29 =>
                  have H := HA.out
                  clear HA
                  simp only [paternosterlaw22_CallsWait.j1] at H
                  by_cases c47 : x90_29 = true
                  · subst c47
                    have H1 : (some false) = some r := by rw [if_pos rfl] at H; exact H
                    clear H
                    have H := H1
                    clear H1
                    obtain rfl := Option.some.inj H
                    go_wp2
                    go_ret
                    exact ⟨by first | rfl | (simp [errW_none, errW_some] <;> rfl) | (simp [*, errW_none, errW_some] <;> rfl), by repeat (first | (with_reducible first | exact HB.out | apply below_alloc | apply pw_below_drewN | apply below_drew1 | refine below_set ?_ GE265.out) | exact HB.out)⟩
                  · replace c47 := Bool.eq_false_iff.mpr c47
                    subst c47
                    have H1 : (paternosterlaw22_CallsWait.l0 kj29 l0 a1 a4 (Int.tmod (wrap64 (a2)) (l0.length : Int)) (Int.tmod (wrap64 (a3)) 249) t266 t267 (mx (wrap64 ((wrap64 (8 * t266)) - (Int.tmod (wrap64 (a3)) 249))) (wrap64 ((Int.tmod (wrap64 (a3)) 249) - (wrap64 (8 * t266))))) 0 a1 l0) = some r := by rw [if_neg (show ¬ (false = true) by decide)] at H; exact H
                    clear H
                    have H := H1
                    clear H1
                    obtain ⟨ji48, hji48⟩ : ∃ j_ : Int, (mx (wrap64 ((wrap64 (8 * t266)) - (Int.tmod (wrap64 (a3)) 249))) (wrap64 ((Int.tmod (wrap64 (a3)) 249) - (wrap64 (8 * t266))))) = j_ := ⟨_, rfl⟩
                    replace H : (paternosterlaw22_CallsWait.l0 kj29 l0 a1 a4 (Int.tmod (wrap64 (a2)) (l0.length : Int)) (Int.tmod (wrap64 (a3)) 249) t266 t267 ji48 0 a1 l0) = some r := by first | (rw [hji48] at H; exact H) | (simp only [hji48] at H ⊢; exact H)
                    have hji48_ : (if (wrap64 ((wrap64 (8 * t266)) - (Int.tmod (wrap64 (a3)) 249))) < (wrap64 ((Int.tmod (wrap64 (a3)) 249) - (wrap64 (8 * t266)))) then (wrap64 ((Int.tmod (wrap64 (a3)) 249) - (wrap64 (8 * t266)))) else (wrap64 ((wrap64 (8 * t266)) - (Int.tmod (wrap64 (a3)) 249)))) = ji48 := hji48
                    have H' := Aside0.mk H
                    clear H
                    go_wp2
                    go_loopg [18] kj29 (fun kq v18 w' => ∃ (x18_3 : Int), v18 = .int .i64 x18_3 ∧ Aside0 (paternosterlaw22_CallsWait.l0 kq l0 a1 a4 (Int.tmod (wrap64 (a2)) (l0.length : Int)) (Int.tmod (wrap64 (a3)) 249) t266 t267 ji48 x18_3 a1 l0 = some r) ∧ Aside0 (kq ≤ kj29) ∧ Aside0 (w'.heap[gb265]? = some (.cells #[.int .u32 a1, (.slice A0 l0.length c0)] 27 (0, 0))) ∧ Aside0 (Below w.heap.size w w'))
                    case atStart => exact ⟨(0), (by first | rfl | (simp; done) | (simp [*]; done)), H', ⟨Nat.le_refl _⟩, ⟨by (with_reducible repeat (first | refine blk_drewN ?_ _ | refine blk_drew ?_ | refine blk_alloc ?_ _)); exact BK265.out⟩, ⟨by repeat (first | (with_reducible first | exact HB.out | apply below_alloc | apply pw_below_drewN | apply below_drew1 | refine below_set ?_ GE265.out) | exact HB.out)⟩⟩
                    case round =>
                      clear H'
                      try clear c1
                      try clear p2
                      try clear q2
                      try clear hx2
                      try clear c3
                      try clear c4
                      try clear p6
                      try clear c7
                      try clear c8
                      try clear c10
                      try clear c10b0
                      try clear c10b1
                      try clear c11
                      try clear c12
                      try clear c12b0
                      try clear c12b1
                      try clear c12b2
                      try clear c15
                      try clear c15b0
                      try clear c16
                      try clear c17
                      try clear c17b0
                      try clear c18
                      try clear c18b0
                      try clear c19
                      try clear c19b0
                      try clear c19b1
                      try clear p26
                      try clear q26
                      try clear hx26
                      try clear p27
                      try clear q27
                      try clear hx27
                      try clear c36
                      try clear c36b0
                      try clear c38
                      try clear c38b0
                      try clear c39
                      try clear c39b0
                      try clear c41
                      try clear c41b0
                      try clear c41b1
                      try clear c43
                      try clear c43b0
                      try clear c43b1
                      try clear c44
                      try clear c44b0
                      try clear c44b1
                      try clear c45
                      try clear c45b0
                      try clear c47
                      try clear hcz21_0
                      try clear hcz21_1
                      try clear hcz23_0
                      try clear hcz23_1
                      try clear hcz26_0
                      try clear hcz26_1
                      try clear hcz28_0
                      try clear hcz28_1
                      try clear hcz32_0
                      try clear hcz32_1
                      try clear hcz34_0
                      try clear hcz34_1
                      try clear hfz21_0
                      try clear hfz21_1
                      try clear hfz23_0
                      try clear hfz23_1
                      try clear hfz26_0
                      try clear hfz26_1
                      try clear hfz28_0
                      try clear hfz28_1
                      try clear hfz32_0
                      try clear hfz32_1
                      try clear hfz34_0
                      try clear hfz34_1
                      try clear hx268_0
                      try clear hx269_0
                      try clear hx270_0
                      try clear p2
                      try clear p26
                      try clear p268
                      try clear p269
                      try clear p27
                      try clear p270
                      try clear p6
                      try clear q2
                      try clear q26
                      try clear q268
                      try clear q269
                      try clear q27
                      try clear q270
                      obtain ⟨x18_3, rfl, HA, HK3, BK265, HB⟩ := hrel
                      cases gk with
                      | zero => exact absurd HA.out (by simp [paternosterlaw22_CallsWait.l0])
                      | succ k3 =>
                        have H := HA.out
                        clear HA
                        simp only [paternosterlaw22_CallsWait.l0] at H
                        have HC49 := Aside0.mk H
                        clear H
                        go_upto_region 17 with (fail)
                        go_cut [108] (fun v108 wc => ∃ (kq : Nat) (x108_48 : Bool), v108 = .bool x108_48 ∧ Aside0 (paternosterlaw22_CallsWait.j3 kq l0 a1 a4 (Int.tmod (wrap64 (a2)) (l0.length : Int)) (Int.tmod (wrap64 (a3)) 249) t266 t267 ji48 x18_3 x108_48 a1 l0 = some r) ∧ Aside0 (kq ≤ k3) ∧ Aside0 (wc.heap[gb265]? = some (.cells #[.int .u32 a1, (.slice A0 l0.length c0)] 27 (0, 0))) ∧ Aside0 (Below w.heap.size w wc))
                        case first =>
                          have H := HC49.out
                          clear HC49
                          by_cases c50 : x18_3 < 32
                          · rw [if_pos c50] at H
                            have c50b0 : decide (x18_3 < 32) = true := decide_eq_true c50
                            clear c50
                            (first | rw [c50b0] | (simp only [i64_w, i32_w]; rw [c50b0]) | skip)
                            obtain ⟨ji51, hji51⟩ : ∃ j_ : Int, (Int.tmod (wrap64 (a2)) (l0.length : Int)) = j_ := ⟨_, rfl⟩
                            replace H : (if 0 ≤ (ji51) then (if (ji51) < (l0.length : Int) then (paternosterlaw22_CallsWait.j3 k3 l0 a1 a4 (ji51) (Int.tmod (wrap64 (a3)) 249) t266 t267 ji48 x18_3 ((rd l0 (ji51)) != 0) a1 l0) else (none)) else (none)) = some r := by first | (rw [hji51] at H; exact H) | (simp only [hji51] at H ⊢; exact H)
                            by_cases c52 : 0 ≤ (ji51)
                            · rw [if_pos c52] at H
                              have c52b0 : decide (0 ≤ (ji51)) = true := decide_eq_true c52
                              clear c52
                              by_cases c53 : (ji51) < (l0.length : Int)
                              · rw [if_pos c53] at H
                                have c53b0 : decide ((ji51) < (l0.length : Int)) = true := decide_eq_true c53
                                clear c53
                                have H' := Aside0.mk H
                                clear H
                                have p271 : 0 ≤ ((ji51) : Int) := of_decide_eq_true (by first | (with_reducible assumption) | assumption)
                                have q271 : (ji51) < (l0.length : Int) := of_decide_eq_true (by first | (with_reducible assumption) | assumption)
                                obtain ⟨ad271, e271, hx271_0⟩ := Kd.at_int HR0.out (ji51) p271 q271
                                cases e271
                                replace hx271_0 := (HB.out.cell (World.block_lt_of_cell? w _ hx271_0)).trans hx271_0
                                replace p271 := eq_true p271
                                replace q271 := eq_true q271
                                go_wp2
                                (try simp only [← hji51] at H' ⊢)
                                go_meet
                                case rel => exact ⟨_, (((rd l0 (Int.tmod (wrap64 (a2)) (l0.length : Int))) != 0)), (by first | rfl | (simp; done) | (simp only [← hji51] <;> (first | rfl | simp)) | (simp [*]; done)), H', ⟨by have := HJ7.out; have := HJ29.out; have := HK3.out; first | omega | exact Nat.le_refl _⟩, ⟨by (with_reducible repeat (first | refine blk_drewN ?_ _ | refine blk_drew ?_ | refine blk_alloc ?_ _)); exact BK265.out⟩, ⟨by repeat (first | (with_reducible first | exact HB.out | apply below_alloc | apply pw_below_drewN | apply below_drew1 | refine below_set ?_ GE265.out) | exact HB.out)⟩⟩
                              · rw [if_neg c53] at H
                                exact absurd H (by simp)
                            · rw [if_neg c52] at H
                              exact absurd H (by simp)
                          · rw [if_neg c50] at H
                            have c50b0 : decide (x18_3 < 32) = false := decide_eq_false c50
                            clear c50
                            (first | rw [c50b0] | (simp only [i64_w, i32_w]; rw [c50b0]) | skip)
                            have H' := Aside0.mk H
                            clear H
                            go_wp2
                            go_meet
                            case rel => exact ⟨_, (false), (by first | rfl | (simp; done) | (simp [*]; done)), H', ⟨by have := HJ7.out; have := HJ29.out; have := HK3.out; first | omega | exact Nat.le_refl _⟩, ⟨by (with_reducible repeat (first | refine blk_drewN ?_ _ | refine blk_drew ?_ | refine blk_alloc ?_ _)); exact BK265.out⟩, ⟨by repeat (first | (with_reducible first | exact HB.out | apply below_alloc | apply pw_below_drewN | apply below_drew1 | refine below_set ?_ GE265.out) | exact HB.out)⟩⟩
                        case rest =>
                          clear HC49
                          try clear c1
                          try clear p2
                          try clear q2
                          try clear hx2
                          try clear c3
                          try clear c4
                          try clear c5
                          try clear p6
                          try clear c7
                          try clear c8
                          try clear c10
                          try clear c10b0
                          try clear c10b1
                          try clear c11
                          try clear c12
                          try clear c12b0
                          try clear c12b1
                          try clear c12b2
                          try clear c15
                          try clear c15b0
                          try clear c16
                          try clear c17
                          try clear c17b0
                          try clear c18
                          try clear c18b0
                          try clear c19
                          try clear c19b0
                          try clear c19b1
                          try clear p26
                          try clear q26
                          try clear hx26
                          try clear p27
                          try clear q27
                          try clear hx27
                          try clear c36
                          try clear c36b0
                          try clear c38
                          try clear c38b0
                          try clear c39
                          try clear c39b0
                          try clear c41
                          try clear c41b0
                          try clear c41b1
                          try clear c43
                          try clear c43b0
                          try clear c43b1
                          try clear c44
                          try clear c44b0
                          try clear c44b1
                          try clear c45
                          try clear c45b0
                          try clear c47
                          try clear c50
                          try clear c50b0
                          try clear c52
                          try clear c52b0
                          try clear c53
                          try clear c53b0
                          try clear hcz21_0
                          try clear hcz21_1
                          try clear hcz23_0
                          try clear hcz23_1
                          try clear hcz26_0
                          try clear hcz26_1
                          try clear hcz28_0
                          try clear hcz28_1
                          try clear hcz32_0
                          try clear hcz32_1
                          try clear hcz34_0
                          try clear hcz34_1
                          try clear hfz21_0
                          try clear hfz21_1
                          try clear hfz23_0
                          try clear hfz23_1
                          try clear hfz26_0
                          try clear hfz26_1
                          try clear hfz28_0
                          try clear hfz28_1
                          try clear hfz32_0
                          try clear hfz32_1
                          try clear hfz34_0
                          try clear hfz34_1
                          try clear hx268_0
                          try clear hx269_0
                          try clear hx270_0
                          try clear hx271_0
                          try clear p2
                          try clear p26
                          try clear p268
                          try clear p269
                          try clear p27
                          try clear p270
                          try clear p271
                          try clear p6
                          try clear q2
                          try clear q26
                          try clear q268
                          try clear q269
                          try clear q27
                          try clear q270
                          try clear q271
                          obtain ⟨kq, x108_48, rfl, HA, HJ48, BK265, HB⟩ := hcut
                          cases kq with
                          | zero => exact absurd HA.out (by simp [paternosterlaw22_CallsWait.j3])
                          | succ kj48 =>
                            have H := HA.out
                            clear HA
                            simp only [paternosterlaw22_CallsWait.j3] at H
                            by_cases c54 : x108_48 = true
                            · subst c54
                              have H1 : (if 0 ≤ (Int.tmod (wrap64 (a2)) (l0.length : Int)) then (if (Int.tmod (wrap64 (a2)) (l0.length : Int)) < (l0.length : Int) then (if 0 ≤ (IntKind.u64.wrap (x18_3)) then (if (Go.bits .and .u32 (shr .u32 (rd l0 (Int.tmod (wrap64 (a2)) (l0.length : Int))) (IntKind.u64.wrap (x18_3))) 1) = 1 then (if (mx (wrap64 ((wrap64 (8 * x18_3)) - (Int.tmod (wrap64 (a3)) 249))) (wrap64 ((Int.tmod (wrap64 (a3)) 249) - (wrap64 (8 * x18_3))))) < ji48 then (some false) else (paternosterlaw22_CallsWait.l0 kj48 l0 a1 a4 (Int.tmod (wrap64 (a2)) (l0.length : Int)) (Int.tmod (wrap64 (a3)) 249) t266 t267 ji48 (wrap64 (x18_3 + 1)) a1 l0)) else (paternosterlaw22_CallsWait.l0 kj48 l0 a1 a4 (Int.tmod (wrap64 (a2)) (l0.length : Int)) (Int.tmod (wrap64 (a3)) 249) t266 t267 ji48 (wrap64 (x18_3 + 1)) a1 l0)) else (none)) else (none)) else (none)) = some r := by rw [if_pos rfl] at H; exact H
                              clear H
                              have H := H1
                              clear H1
                              obtain ⟨ji55, hji55⟩ : ∃ j_ : Int, (Int.tmod (wrap64 (a2)) (l0.length : Int)) = j_ := ⟨_, rfl⟩
                              replace H : (if 0 ≤ (ji55) then (if (ji55) < (l0.length : Int) then (if 0 ≤ (IntKind.u64.wrap (x18_3)) then (if (Go.bits .and .u32 (shr .u32 (rd l0 (ji55)) (IntKind.u64.wrap (x18_3))) 1) = 1 then (if (mx (wrap64 ((wrap64 (8 * x18_3)) - (Int.tmod (wrap64 (a3)) 249))) (wrap64 ((Int.tmod (wrap64 (a3)) 249) - (wrap64 (8 * x18_3))))) < ji48 then (some false) else (paternosterlaw22_CallsWait.l0 kj48 l0 a1 a4 (ji55) (Int.tmod (wrap64 (a3)) 249) t266 t267 ji48 (wrap64 (x18_3 + 1)) a1 l0)) else (paternosterlaw22_CallsWait.l0 kj48 l0 a1 a4 (ji55) (Int.tmod (wrap64 (a3)) 249) t266 t267 ji48 (wrap64 (x18_3 + 1)) a1 l0)) else (none)) else (none)) else (none)) = some r := by first | (rw [hji55] at H; exact H) | (simp only [hji55] at H ⊢; exact H)
                              by_cases c56 : 0 ≤ (ji55)
                              · rw [if_pos c56] at H
                                have c56b0 : decide (0 ≤ (ji55)) = true := decide_eq_true c56
                                clear c56
                                by_cases c57 : (ji55) < (l0.length : Int)
                                · rw [if_pos c57] at H
                                  have c57b0 : decide ((ji55) < (l0.length : Int)) = true := decide_eq_true c57
                                  clear c57
                                  obtain ⟨ji58, hji58⟩ : ∃ j_ : Int, (IntKind.u64.wrap (x18_3)) = j_ := ⟨_, rfl⟩
                                  replace H : (if 0 ≤ (ji58) then (if (Go.bits .and .u32 (shr .u32 (rd l0 (ji55)) (ji58)) 1) = 1 then (if (mx (wrap64 ((wrap64 (8 * x18_3)) - (Int.tmod (wrap64 (a3)) 249))) (wrap64 ((Int.tmod (wrap64 (a3)) 249) - (wrap64 (8 * x18_3))))) < ji48 then (some false) else (paternosterlaw22_CallsWait.l0 kj48 l0 a1 a4 (ji55) (Int.tmod (wrap64 (a3)) 249) t266 t267 ji48 (wrap64 (x18_3 + 1)) a1 l0)) else (paternosterlaw22_CallsWait.l0 kj48 l0 a1 a4 (ji55) (Int.tmod (wrap64 (a3)) 249) t266 t267 ji48 (wrap64 (x18_3 + 1)) a1 l0)) else (none)) = some r := by first | (rw [hji58] at H; exact H) | (simp only [hji58] at H ⊢; exact H)
                                  by_cases c59 : 0 ≤ (ji58)
                                  · rw [if_pos c59] at H
                                    have c59b0 := eq_true c59
                                    have c59b1 : decide (0 ≤ (ji58)) = true := decide_eq_true c59
                                    clear c59
                                    obtain ⟨ji60, hji60⟩ : ∃ j_ : Int, (shr .u32 (rd l0 (ji55)) (ji58)) = j_ := ⟨_, rfl⟩
                                    replace H : (if (Go.bits .and .u32 (ji60) 1) = 1 then (if (mx (wrap64 ((wrap64 (8 * x18_3)) - (Int.tmod (wrap64 (a3)) 249))) (wrap64 ((Int.tmod (wrap64 (a3)) 249) - (wrap64 (8 * x18_3))))) < ji48 then (some false) else (paternosterlaw22_CallsWait.l0 kj48 l0 a1 a4 (ji55) (Int.tmod (wrap64 (a3)) 249) t266 t267 ji48 (wrap64 (x18_3 + 1)) a1 l0)) else (paternosterlaw22_CallsWait.l0 kj48 l0 a1 a4 (ji55) (Int.tmod (wrap64 (a3)) 249) t266 t267 ji48 (wrap64 (x18_3 + 1)) a1 l0)) = some r := by first | (rw [hji60] at H; exact H) | (simp only [hji60] at H ⊢; exact H)
                                    have hji60_ : ((rd l0 (ji55)) / 2 ^ min (ji58).toNat 32) = ji60 := hji60
                                    have hji60z : (ji58) ≤ 32 → ((rd l0 (ji55)) / 2 ^ (ji58).toNat) = ji60 := shr_small hji60
                                    by_cases c61 : (Go.bits .and .u32 (ji60) 1) = 1
                                    · rw [if_pos c61] at H
                                      have c61b0 : ((Go.bits .and .u32 (ji60) 1) == 1) = true := beq_iff_eq.mpr c61
                                      have c61b1 : ((Go.bits .and .u32 (ji60) 1) != 1) = false := bne_eq_false_iff_eq.mpr c61
                                      clear c61
                                      obtain ⟨ji62, hji62⟩ : ∃ j_ : Int, (mx (wrap64 ((wrap64 (8 * x18_3)) - (Int.tmod (wrap64 (a3)) 249))) (wrap64 ((Int.tmod (wrap64 (a3)) 249) - (wrap64 (8 * x18_3))))) = j_ := ⟨_, rfl⟩
                                      replace H : (if (ji62) < ji48 then (some false) else (paternosterlaw22_CallsWait.l0 kj48 l0 a1 a4 (ji55) (Int.tmod (wrap64 (a3)) 249) t266 t267 ji48 (wrap64 (x18_3 + 1)) a1 l0)) = some r := by first | (rw [hji62] at H; exact H) | (simp only [hji62] at H ⊢; exact H)
                                      have hji62_ : (if (wrap64 ((wrap64 (8 * x18_3)) - (Int.tmod (wrap64 (a3)) 249))) < (wrap64 ((Int.tmod (wrap64 (a3)) 249) - (wrap64 (8 * x18_3)))) then (wrap64 ((Int.tmod (wrap64 (a3)) 249) - (wrap64 (8 * x18_3)))) else (wrap64 ((wrap64 (8 * x18_3)) - (Int.tmod (wrap64 (a3)) 249)))) = ji62 := hji62
                                      by_cases c63 : (ji62) < ji48
                                      · rw [if_pos c63] at H
                                        have c63b0 : decide ((ji62) < ji48) = true := decide_eq_true c63
                                        clear c63
                                        obtain rfl := Option.some.inj H
                                        have p272 : 0 ≤ ((ji55) : Int) := of_decide_eq_true (by first | (with_reducible assumption) | assumption)
                                        have q272 : (ji55) < (l0.length : Int) := of_decide_eq_true (by first | (with_reducible assumption) | assumption)
                                        obtain ⟨ad272, e272, hx272_0⟩ := Kd.at_int HR0.out (ji55) p272 q272
                                        cases e272
                                        replace hx272_0 := (HB.out.cell (World.block_lt_of_cell? w _ hx272_0)).trans hx272_0
                                        replace p272 := eq_true p272
                                        replace q272 := eq_true q272
                                        go_wp2
                                        go_ret
                                        exact ⟨by first | rfl | (simp [errW_none, errW_some] <;> rfl) | (simp only [← hji48, ← hji55, ← hji58, ← hji60, ← hji62]; first | rfl | (simp [errW_none, errW_some] <;> rfl)) | (simp [*, errW_none, errW_some] <;> rfl), by repeat (first | (with_reducible first | exact HB.out | apply below_alloc | apply pw_below_drewN | apply below_drew1 | refine below_set ?_ GE265.out) | exact HB.out)⟩
                                      · rw [if_neg c63] at H
                                        have c63b0 : decide ((ji62) < ji48) = false := decide_eq_false c63
                                        clear c63
                                        have H' := Aside0.mk H
                                        clear H
                                        have p272 : 0 ≤ ((ji55) : Int) := of_decide_eq_true (by first | (with_reducible assumption) | assumption)
                                        have q272 : (ji55) < (l0.length : Int) := of_decide_eq_true (by first | (with_reducible assumption) | assumption)
                                        obtain ⟨ad272, e272, hx272_0⟩ := Kd.at_int HR0.out (ji55) p272 q272
                                        cases e272
                                        replace hx272_0 := (HB.out.cell (World.block_lt_of_cell? w _ hx272_0)).trans hx272_0
                                        replace p272 := eq_true p272
                                        replace q272 := eq_true q272
                                        go_wp2
                                        (try simp only [← hji55] at H')
                                        go_roundg kj48
                                        case measure => have := HJ7.out; have := HJ29.out; have := HK3.out; have := HJ48.out; omega
                                        case rel => exact ⟨(wrap64 (x18_3 + 1)), (by first | rfl | (simp; done) | (simp [*]; done)), H', ⟨by have := HJ7.out; have := HJ29.out; have := HK3.out; have := HJ48.out; omega⟩, ⟨by (with_reducible repeat (first | refine blk_drewN ?_ _ | refine blk_drew ?_ | refine blk_alloc ?_ _)); exact BK265.out⟩, ⟨by repeat (first | (with_reducible first | exact HB.out | apply below_alloc | apply pw_below_drewN | apply below_drew1 | refine below_set ?_ GE265.out) | exact HB.out)⟩⟩
                                    · rw [if_neg c61] at H
                                      have c61b0 : ((Go.bits .and .u32 (ji60) 1) == 1) = false := beq_eq_false_iff_ne.mpr c61
                                      have c61b1 : ((Go.bits .and .u32 (ji60) 1) != 1) = true := bne_iff_ne.mpr c61
                                      have H' := Aside0.mk H
                                      clear H
                                      have p272 : 0 ≤ ((ji55) : Int) := of_decide_eq_true (by first | (with_reducible assumption) | assumption)
                                      have q272 : (ji55) < (l0.length : Int) := of_decide_eq_true (by first | (with_reducible assumption) | assumption)
                                      obtain ⟨ad272, e272, hx272_0⟩ := Kd.at_int HR0.out (ji55) p272 q272
                                      cases e272
                                      replace hx272_0 := (HB.out.cell (World.block_lt_of_cell? w _ hx272_0)).trans hx272_0
                                      replace p272 := eq_true p272
                                      replace q272 := eq_true q272
                                      go_wp2
                                      (try simp only [← hji55] at H')
                                      go_roundg kj48
                                      case measure => have := HJ7.out; have := HJ29.out; have := HK3.out; have := HJ48.out; omega
                                      case rel => exact ⟨(wrap64 (x18_3 + 1)), (by first | rfl | (simp; done) | (simp [*]; done)), H', ⟨by have := HJ7.out; have := HJ29.out; have := HK3.out; have := HJ48.out; omega⟩, ⟨by (with_reducible repeat (first | refine blk_drewN ?_ _ | refine blk_drew ?_ | refine blk_alloc ?_ _)); exact BK265.out⟩, ⟨by repeat (first | (with_reducible first | exact HB.out | apply below_alloc | apply pw_below_drewN | apply below_drew1 | refine below_set ?_ GE265.out) | exact HB.out)⟩⟩
                                  · rw [if_neg c59] at H
                                    exact absurd H (by simp)
                                · rw [if_neg c57] at H
                                  exact absurd H (by simp)
                              · rw [if_neg c56] at H
                                exact absurd H (by simp)
                            · replace c54 := Bool.eq_false_iff.mpr c54
                              subst c54
                              have H1 : ((calls_Calls_Done.f a1 l0 (Int.tmod (wrap64 (a2)) (l0.length : Int)) t266 true).bind fun bt273 => ((calls_Calls_Done.f a1 l0 (Int.tmod (wrap64 (a2)) (l0.length : Int)) t266 false).bind fun bt278 => ((calls_Calls_Many.f bt273.1 bt273.2).bind fun t283 => (if t283 < t267 then ((calls_Calls_Next.f bt273.1 bt273.2 (Int.tmod (wrap64 (a2)) (l0.length : Int)) (Int.tmod (wrap64 (a3)) 249) a4).bind fun t284 => (if t284 = t266 then (some false) else (if bt278.1 = a1 then ((calls_Calls_Many.f a1 l0).bind fun t285 => (some (t285 == t267))) else (some false)))) else (some false))))) = some r := by rw [if_neg (show ¬ (false = true) by decide)] at H; exact H
                              clear H
                              have H := H1
                              clear H1
                              replace H := Option.bind_eq_some_iff.mp H
                              obtain ⟨⟨t273, t274⟩, A640, H⟩ := H
                              replace H : ((calls_Calls_Done.f a1 l0 (Int.tmod (wrap64 (a2)) (l0.length : Int)) t266 false).bind fun bt278 => ((calls_Calls_Many.f t273 t274).bind fun t283 => (if t283 < t267 then ((calls_Calls_Next.f t273 t274 (Int.tmod (wrap64 (a2)) (l0.length : Int)) (Int.tmod (wrap64 (a3)) 249) a4).bind fun t284 => (if t284 = t266 then (some false) else (if bt278.1 = a1 then ((calls_Calls_Many.f a1 l0).bind fun t285 => (some (t285 == t267))) else (some false)))) else (some false)))) = some r := H
                              have A64 := Aside0.mk A640
                              clear A640
                              replace H := Option.bind_eq_some_iff.mp H
                              obtain ⟨⟨t278, t279⟩, A650, H⟩ := H
                              replace H : ((calls_Calls_Many.f t273 t274).bind fun t283 => (if t283 < t267 then ((calls_Calls_Next.f t273 t274 (Int.tmod (wrap64 (a2)) (l0.length : Int)) (Int.tmod (wrap64 (a3)) 249) a4).bind fun t284 => (if t284 = t266 then (some false) else (if t278 = a1 then ((calls_Calls_Many.f a1 l0).bind fun t285 => (some (t285 == t267))) else (some false)))) else (some false))) = some r := H
                              have A65 := Aside0.mk A650
                              clear A650
                              replace H := Option.bind_eq_some_iff.mp H
                              obtain ⟨t283, A660, H⟩ := H
                              replace H : (if t283 < t267 then ((calls_Calls_Next.f t273 t274 (Int.tmod (wrap64 (a2)) (l0.length : Int)) (Int.tmod (wrap64 (a3)) 249) a4).bind fun t284 => (if t284 = t266 then (some false) else (if t278 = a1 then ((calls_Calls_Many.f a1 l0).bind fun t285 => (some (t285 == t267))) else (some false)))) else (some false)) = some r := H
                              have A66 := Aside0.mk A660
                              clear A660
                              by_cases c67 : t283 < t267
                              · rw [if_pos c67] at H
                                have c67b0 : decide (t283 < t267) = true := decide_eq_true c67
                                clear c67
                                replace H := Option.bind_eq_some_iff.mp H
                                obtain ⟨t284, A680, H⟩ := H
                                replace H : (if t284 = t266 then (some false) else (if t278 = a1 then ((calls_Calls_Many.f a1 l0).bind fun t285 => (some (t285 == t267))) else (some false))) = some r := H
                                have A68 := Aside0.mk A680
                                clear A680
                                by_cases c69 : t284 = t266
                                · rw [if_pos c69] at H
                                  have c69b0 : (t284 == t266) = true := beq_iff_eq.mpr c69
                                  have c69b1 : (t284 != t266) = false := bne_eq_false_iff_eq.mpr c69
                                  clear c69
                                  obtain rfl := Option.some.inj H
                                  have hcz70_0 : wc.cell? ⟨gb265, 0, none⟩ = some (.int .u32 a1) := (blk_cell BK265.out 0).trans rfl
                                  have hcz70_1 : wc.cell? ⟨gb265, 1, none⟩ = some (.slice A0 l0.length c0) := (blk_cell BK265.out 1).trans rfl
                                  have hfz70_0 := blk_frozen BK265.out 0
                                  have hfz70_1 := blk_frozen BK265.out 1
                                  go_wp2_with (first | ((with_reducible refine gate_callee (f := 14) rfl ?_); refine goesL_ (some 136) rfl rfl Tryd.func14 (by kernel_rfl) rfl #[.agg #[.int .u32 a1, .slice A0 l0.length c0], .int .i64 (Int.tmod (wrap64 (a2)) (l0.length : Int)), .int .i64 t266, .bool true] rfl (by (try simp only [List.map_toArray, List.map_cons, List.map_nil]); first | done | rfl | (simp only [List.length_drop, List.length_take]; rfl)) ?_; (with_reducible refine (calls_Calls_Done.calls a1 _ _ l0 (Int.tmod (wrap64 (a2)) (l0.length : Int)) t266 true t273 t274 _ ?side1 ?side2 A64.out).mono ?_); (case side1 => repeat (first | exact (Kd.C_below HR0.out HB.out) | (with_reducible refine Kd.C_alloc ?_ _) | (with_reducible refine Kd.C_drewN ?_ _) | (with_reducible refine Kd.C_drew ?_))); (case side2 => exact HC0.out); rintro e w71 ⟨v275, rfl, ho0, hb⟩; refine ⟨_, rfl, ?_⟩; have n0_ := Aside0.mk (Kd.R_lower ho0 (below_size (by repeat (first | (with_reducible first | exact HB.out | apply below_alloc | apply pw_below_drewN | apply below_drew1 | refine below_set ?_ GE265.out) | exact HB.out)))); have n1_ := Aside0.mk (blk_below (g := gb265) (o := .cells #[.int .u32 a1, .slice A0 l0.length c0] 27 (0, 0)) (by (with_reducible repeat (first | refine blk_drewN ?_ _ | refine blk_drew ?_ | refine blk_alloc ?_ _)); exact BK265.out) hb); have n2_ := Aside0.mk (below_step (by repeat (first | (with_reducible first | exact HB.out | apply below_alloc | apply pw_below_drewN | apply below_drew1 | refine below_set ?_ GE265.out) | exact HB.out)) hb); clear BK265; clear HB; have HO276 := n0_; have BK265 := n1_; have HB := n2_; clear n0_ n1_ n2_; (try clear hb); (try clear hb2); (try clear hk); (try clear hi); (try clear ho0)) | ((with_reducible refine gate_dst (N := 19) rfl ?_); (try (refine gate_guard (by rfl) ?_; dsimp only)); refine box_event ?hg (N := 19) ?hd (cs := #[.int .u32 0, .slice none 0 0]) (t := 27) ?hr ?_; (case hd => rfl); (case hg => rfl); (case hr => first | (go_simp; done) | (go_simp; rfl)); intro gb277 hg w72 hbox hb; have n0_ := Aside0.mk (Kd.R_below (by (with_reducible repeat (first | apply Kd.R_alloc | apply Kd.R_drewN | apply Kd.R_drew)); exact HO276.out) hb); have n1_ := Aside0.mk (blk_below (g := gb265) (o := .cells #[.int .u32 a1, .slice A0 l0.length c0] 27 (0, 0)) (by (with_reducible repeat (first | refine blk_drewN ?_ _ | refine blk_drew ?_ | refine blk_alloc ?_ _)); exact BK265.out) hb); have n2_ := Aside0.mk (below_step (by repeat (first | (with_reducible first | exact HB.out | apply below_alloc | apply pw_below_drewN | apply below_drew1 | refine below_set ?_ GE265.out) | exact HB.out)) hb); have n3_ := Aside0.mk (hbox); have n4_ := Aside0.mk ((by rw [hg]; exact (below_size (by repeat (first | (with_reducible first | exact HB.out | apply below_alloc | apply pw_below_drewN | apply below_drew1 | refine below_set ?_ GE265.out) | exact HB.out))) : w.heap.size ≤ gb277)); have n5_ := Aside0.mk ((by rw [hg]; exact (below_size (by repeat (first | (with_reducible first | exact HB.out | apply below_alloc | apply pw_below_drewN | apply below_drew1 | refine below_set ?_ GE265.out) | exact HB.out))) : w.heap.size ≤ gb277)); have n6_ := Aside0.mk ((by rw [hg]; exact Nat.ne_of_lt (blk_lt (g := gb265) (o := .cells #[.int .u32 a1, .slice A0 l0.length c0] 27 (0, 0)) (by (with_reducible repeat (first | refine blk_drewN ?_ _ | refine blk_drew ?_ | refine blk_alloc ?_ _)); exact BK265.out)) : gb265 ≠ gb277)); have n7_ := Aside0.mk ((by rw [hg]; exact Nat.ne_of_gt (blk_lt (g := gb265) (o := .cells #[.int .u32 a1, .slice A0 l0.length c0] 27 (0, 0)) (by (with_reducible repeat (first | refine blk_drewN ?_ _ | refine blk_drew ?_ | refine blk_alloc ?_ _)); exact BK265.out)) : gb277 ≠ gb265)); clear HO276; clear BK265; clear HB; have HO276 := n0_; have BK265 := n1_; have HB := n2_; have BK277 := n3_; have GW277 := n4_; have GE277 := n5_; have NB265_277 := n6_; have NB277_265 := n7_; clear n0_ n1_ n2_ n3_ n4_ n5_ n6_ n7_; clear hb hbox hg; have hnb73 := NB277_265.out; have hnc73 := NB265_277.out; have hcz74_0 : w72.cell? ⟨gb277, 0, none⟩ = some (.int .u32 0) := (blk_cell BK277.out 0).trans rfl; have hcz74_1 : w72.cell? ⟨gb277, 1, none⟩ = some (.slice none 0 0) := (blk_cell BK277.out 1).trans rfl; have hfz74_0 := blk_frozen BK277.out 0; have hfz74_1 := blk_frozen BK277.out 1; obtain ⟨Ao75, co75, eo75⟩ := Kd.R_slice HO276.out; subst eo75; have hcz76_0 : w72.cell? ⟨gb265, 0, none⟩ = some (.int .u32 a1) := (blk_cell BK265.out 0).trans rfl; have hcz76_1 : w72.cell? ⟨gb265, 1, none⟩ = some (.slice A0 l0.length c0) := (blk_cell BK265.out 1).trans rfl; have hfz76_0 := blk_frozen BK265.out 0; have hfz76_1 := blk_frozen BK265.out 1) | ((with_reducible refine gate_callee (f := 14) rfl ?_); refine goesL_ (some 140) rfl rfl Tryd.func14 (by kernel_rfl) rfl #[.agg #[.int .u32 a1, .slice A0 l0.length c0], .int .i64 (Int.tmod (wrap64 (a2)) (l0.length : Int)), .int .i64 t266, .bool false] rfl (by (try simp only [List.map_toArray, List.map_cons, List.map_nil]); first | done | rfl | (simp only [List.length_drop, List.length_take]; rfl)) ?_; (with_reducible refine (calls_Calls_Done.calls a1 _ _ l0 (Int.tmod (wrap64 (a2)) (l0.length : Int)) t266 false t278 t279 _ ?side1 ?side2 A65.out).mono ?_); (case side1 => exact Kd.C_below HR0.out (by repeat (first | (with_reducible first | exact HB.out | apply below_alloc | apply pw_below_drewN | apply below_drew1 | refine below_set ?_ GE265.out | refine below_set ?_ GE277.out) | exact HB.out))); (case side2 => exact HC0.out); rintro e w77 ⟨v280, rfl, ho0, hb⟩; refine ⟨_, rfl, ?_⟩; have n0_ := Aside0.mk (Kd.R_elder' (by (with_reducible repeat (first | apply Kd.R_alloc | apply Kd.R_drewN | apply Kd.R_drew)); exact (Kd.R_mono (Kd.R_far (p := ⟨gb277, 1, none⟩) (Kd.R_far (p := ⟨gb277, 0, none⟩) (Kd.R_types HO276.out BK277.out (by decide)) (fun _ hk => hk.2) (.int .u32 t273)) (fun _ hk => hk.2) (.slice Ao75 t274.length co75)) (fun _ h_ => h_.1))) (Kd.R_base ho0) hb); have n1_ := Aside0.mk (Kd.R_lower (Kd.R_new' ho0 (Kd.R_lt (by (with_reducible repeat (first | apply Kd.R_alloc | apply Kd.R_drewN | apply Kd.R_drew)); exact (Kd.R_mono (Kd.R_far (p := ⟨gb277, 1, none⟩) (Kd.R_far (p := ⟨gb277, 0, none⟩) (Kd.R_types HO276.out BK277.out (by decide)) (fun _ hk => hk.2) (.int .u32 t273)) (fun _ hk => hk.2) (.slice Ao75 t274.length co75)) (fun _ h_ => h_.1))))) (below_size (by repeat (first | (with_reducible first | exact HB.out | apply below_alloc | apply pw_below_drewN | apply below_drew1 | refine below_set ?_ GE265.out | refine below_set ?_ GE277.out) | exact HB.out)))); have n2_ := Aside0.mk (blk_below (g := gb265) (o := .cells #[.int .u32 a1, .slice A0 l0.length c0] 27 (0, 0)) (by (with_reducible repeat (first | refine blk_drewN ?_ _ | refine blk_drew ?_ | refine blk_alloc ?_ _)); refine blk_far ?_ NB265_277.out _; (with_reducible repeat (first | refine blk_drewN ?_ _ | refine blk_drew ?_ | refine blk_alloc ?_ _)); refine blk_far ?_ NB265_277.out _; (with_reducible repeat (first | refine blk_drewN ?_ _ | refine blk_drew ?_ | refine blk_alloc ?_ _)); exact BK265.out) hb); have n3_ := Aside0.mk (blk_below (g := gb277) (o := .cells #[.int .u32 t273, .slice Ao75 t274.length co75] 27 (0, 0)) (by (with_reducible repeat (first | refine blk_drewN ?_ _ | refine blk_drew ?_ | refine blk_alloc ?_ _)); refine blk_put (cs := #[.int .u32 t273, .slice none 0 0]) ?_ 1 _ rfl; (with_reducible repeat (first | refine blk_drewN ?_ _ | refine blk_drew ?_ | refine blk_alloc ?_ _)); refine blk_put (cs := #[.int .u32 0, .slice none 0 0]) ?_ 0 _ rfl; (with_reducible repeat (first | refine blk_drewN ?_ _ | refine blk_drew ?_ | refine blk_alloc ?_ _)); exact BK277.out) hb); have n4_ := Aside0.mk (below_step (by repeat (first | (with_reducible first | exact HB.out | apply below_alloc | apply pw_below_drewN | apply below_drew1 | refine below_set ?_ GE265.out | refine below_set ?_ GE277.out) | exact HB.out)) hb); clear HO276; clear BK265; clear BK277; clear HB; have HO276 := n0_; have HO281 := n1_; have BK265 := n2_; have BK277 := n3_; have HB := n4_; clear n0_ n1_ n2_ n3_ n4_; (try clear hb); (try clear hb2); (try clear hk); (try clear hi); (try clear ho0)) | ((with_reducible refine gate_dst (N := 20) rfl ?_); (try (refine gate_guard (by rfl) ?_; dsimp only)); refine box_event ?hg (N := 20) ?hd (cs := #[.int .u32 0, .slice none 0 0]) (t := 27) ?hr ?_; (case hd => rfl); (case hg => rfl); (case hr => first | (go_simp; done) | (go_simp; rfl)); intro gb282 hg w78 hbox hb; have n0_ := Aside0.mk (Kd.R_below (by (with_reducible repeat (first | apply Kd.R_alloc | apply Kd.R_drewN | apply Kd.R_drew)); exact HO276.out) hb); have n1_ := Aside0.mk (Kd.R_below (by (with_reducible repeat (first | apply Kd.R_alloc | apply Kd.R_drewN | apply Kd.R_drew)); exact HO281.out) hb); have n2_ := Aside0.mk (blk_below (g := gb265) (o := .cells #[.int .u32 a1, .slice A0 l0.length c0] 27 (0, 0)) (by (with_reducible repeat (first | refine blk_drewN ?_ _ | refine blk_drew ?_ | refine blk_alloc ?_ _)); exact BK265.out) hb); have n3_ := Aside0.mk (blk_below (g := gb277) (o := .cells #[.int .u32 t273, .slice Ao75 t274.length co75] 27 (0, 0)) (by (with_reducible repeat (first | refine blk_drewN ?_ _ | refine blk_drew ?_ | refine blk_alloc ?_ _)); exact BK277.out) hb); have n4_ := Aside0.mk (below_step (by repeat (first | (with_reducible first | exact HB.out | apply below_alloc | apply pw_below_drewN | apply below_drew1 | refine below_set ?_ GE265.out | refine below_set ?_ GE277.out) | exact HB.out)) hb); have n5_ := Aside0.mk (hbox); have n6_ := Aside0.mk ((by rw [hg]; exact (below_size (by repeat (first | (with_reducible first | exact HB.out | apply below_alloc | apply pw_below_drewN | apply below_drew1 | refine below_set ?_ GE265.out | refine below_set ?_ GE277.out) | exact HB.out))) : w.heap.size ≤ gb282)); have n7_ := Aside0.mk ((by rw [hg]; exact (below_size (by repeat (first | (with_reducible first | exact HB.out | apply below_alloc | apply pw_below_drewN | apply below_drew1 | refine below_set ?_ GE265.out | refine below_set ?_ GE277.out) | exact HB.out))) : w.heap.size ≤ gb282)); have n8_ := Aside0.mk ((by rw [hg]; exact Nat.ne_of_lt (blk_lt (g := gb265) (o := .cells #[.int .u32 a1, .slice A0 l0.length c0] 27 (0, 0)) (by (with_reducible repeat (first | refine blk_drewN ?_ _ | refine blk_drew ?_ | refine blk_alloc ?_ _)); exact BK265.out)) : gb265 ≠ gb282)); have n9_ := Aside0.mk ((by rw [hg]; exact Nat.ne_of_gt (blk_lt (g := gb265) (o := .cells #[.int .u32 a1, .slice A0 l0.length c0] 27 (0, 0)) (by (with_reducible repeat (first | refine blk_drewN ?_ _ | refine blk_drew ?_ | refine blk_alloc ?_ _)); exact BK265.out)) : gb282 ≠ gb265)); have n10_ := Aside0.mk ((by rw [hg]; exact Nat.ne_of_lt (blk_lt (g := gb277) (o := .cells #[.int .u32 t273, .slice Ao75 t274.length co75] 27 (0, 0)) (by (with_reducible repeat (first | refine blk_drewN ?_ _ | refine blk_drew ?_ | refine blk_alloc ?_ _)); exact BK277.out)) : gb277 ≠ gb282)); have n11_ := Aside0.mk ((by rw [hg]; exact Nat.ne_of_gt (blk_lt (g := gb277) (o := .cells #[.int .u32 t273, .slice Ao75 t274.length co75] 27 (0, 0)) (by (with_reducible repeat (first | refine blk_drewN ?_ _ | refine blk_drew ?_ | refine blk_alloc ?_ _)); exact BK277.out)) : gb282 ≠ gb277)); clear HO276; clear HO281; clear BK265; clear BK277; clear HB; have HO276 := n0_; have HO281 := n1_; have BK265 := n2_; have BK277 := n3_; have HB := n4_; have BK282 := n5_; have GW282 := n6_; have GE282 := n7_; have NB265_282 := n8_; have NB282_265 := n9_; have NB277_282 := n10_; have NB282_277 := n11_; clear n0_ n1_ n2_ n3_ n4_ n5_ n6_ n7_ n8_ n9_ n10_ n11_; clear hb hbox hg; have hnb79 := NB282_265.out; have hnc79 := NB265_282.out; have hnb80 := NB282_277.out; have hnc80 := NB277_282.out; have hcz81_0 : w78.cell? ⟨gb282, 0, none⟩ = some (.int .u32 0) := (blk_cell BK282.out 0).trans rfl; have hcz81_1 : w78.cell? ⟨gb282, 1, none⟩ = some (.slice none 0 0) := (blk_cell BK282.out 1).trans rfl; have hfz81_0 := blk_frozen BK282.out 0; have hfz81_1 := blk_frozen BK282.out 1; obtain ⟨Ao82, co82, eo82⟩ := Kd.R_slice HO281.out; subst eo82; have hcz83_0 : w78.cell? ⟨gb277, 0, none⟩ = some (.int .u32 t273) := (blk_cell BK277.out 0).trans rfl; have hcz83_1 : w78.cell? ⟨gb277, 1, none⟩ = some (.slice Ao75 t274.length co75) := (blk_cell BK277.out 1).trans rfl; have hfz83_0 := blk_frozen BK277.out 0; have hfz83_1 := blk_frozen BK277.out 1) | ((with_reducible refine gate_callee (f := 18) rfl ?_); refine goesL_ (some 142) rfl rfl Tryd.func18 (by kernel_rfl) rfl #[.agg #[.int .u32 t273, .slice Ao75 t274.length co75]] rfl (by (try simp only [List.map_toArray, List.map_cons, List.map_nil]); first | done | rfl | (simp only [List.length_drop, List.length_take]; rfl)) ?_; (with_reducible refine (calls_Calls_Many.calls t273 _ _ t274 t283 _ ?side1 ?side2 A66.out).mono ?_); (case side1 => refine (Kd.R_reads' (e := 23) (base := w.heap.size) (ok := fun k_ => (True ∧ some k_ ≠ (.slice Ao82 t279.length co82 : Value).ownBlock)) (n := t274.length) (c := co75) ?_).2.2; exact (by (with_reducible repeat (first | apply Kd.R_alloc | apply Kd.R_drewN | apply Kd.R_drew)); exact (Kd.R_mono (Kd.R_far (p := ⟨gb282, 1, none⟩) (Kd.R_far (p := ⟨gb282, 0, none⟩) (Kd.R_types HO276.out BK282.out (by decide)) (fun _ hk => hk.2) (.int .u32 t278)) (fun _ hk => hk.2) (.slice Ao82 t279.length co82)) (fun _ h_ => h_.1)))); (case side2 => exact (Kd.R_reads' HO276.out).2.1); rintro e w84 ⟨rfl, hb⟩; refine ⟨_, rfl, ?_⟩; have n0_ := Aside0.mk (Kd.R_below (by (with_reducible repeat (first | apply Kd.R_alloc | apply Kd.R_drewN | apply Kd.R_drew)); exact (Kd.R_mono (Kd.R_far (p := ⟨gb282, 1, none⟩) (Kd.R_far (p := ⟨gb282, 0, none⟩) (Kd.R_types HO276.out BK282.out (by decide)) (fun _ hk => hk.2) (.int .u32 t278)) (fun _ hk => hk.2) (.slice Ao82 t279.length co82)) (fun _ h_ => h_.1))) hb); have n1_ := Aside0.mk (Kd.R_below (by (with_reducible repeat (first | apply Kd.R_alloc | apply Kd.R_drewN | apply Kd.R_drew)); exact (Kd.R_mono (Kd.R_far (p := ⟨gb282, 1, none⟩) (Kd.R_far (p := ⟨gb282, 0, none⟩) (Kd.R_types HO281.out BK282.out (by decide)) (fun _ hk => hk.2) (.int .u32 t278)) (fun _ hk => hk.2) (.slice Ao82 t279.length co82)) (fun _ h_ => h_.1))) hb); have n2_ := Aside0.mk (blk_below (g := gb265) (o := .cells #[.int .u32 a1, .slice A0 l0.length c0] 27 (0, 0)) (by (with_reducible repeat (first | refine blk_drewN ?_ _ | refine blk_drew ?_ | refine blk_alloc ?_ _)); refine blk_far ?_ NB265_282.out _; (with_reducible repeat (first | refine blk_drewN ?_ _ | refine blk_drew ?_ | refine blk_alloc ?_ _)); refine blk_far ?_ NB265_282.out _; (with_reducible repeat (first | refine blk_drewN ?_ _ | refine blk_drew ?_ | refine blk_alloc ?_ _)); exact BK265.out) hb); have n3_ := Aside0.mk (blk_below (g := gb277) (o := .cells #[.int .u32 t273, .slice Ao75 t274.length co75] 27 (0, 0)) (by (with_reducible repeat (first | refine blk_drewN ?_ _ | refine blk_drew ?_ | refine blk_alloc ?_ _)); refine blk_far ?_ NB277_282.out _; (with_reducible repeat (first | refine blk_drewN ?_ _ | refine blk_drew ?_ | refine blk_alloc ?_ _)); refine blk_far ?_ NB277_282.out _; (with_reducible repeat (first | refine blk_drewN ?_ _ | refine blk_drew ?_ | refine blk_alloc ?_ _)); exact BK277.out) hb); have n4_ := Aside0.mk (blk_below (g := gb282) (o := .cells #[.int .u32 t278, .slice Ao82 t279.length co82] 27 (0, 0)) (by (with_reducible repeat (first | refine blk_drewN ?_ _ | refine blk_drew ?_ | refine blk_alloc ?_ _)); refine blk_put (cs := #[.int .u32 t278, .slice none 0 0]) ?_ 1 _ rfl; (with_reducible repeat (first | refine blk_drewN ?_ _ | refine blk_drew ?_ | refine blk_alloc ?_ _)); refine blk_put (cs := #[.int .u32 0, .slice none 0 0]) ?_ 0 _ rfl; (with_reducible repeat (first | refine blk_drewN ?_ _ | refine blk_drew ?_ | refine blk_alloc ?_ _)); exact BK282.out) hb); have n5_ := Aside0.mk (below_step (by repeat (first | (with_reducible first | exact HB.out | apply below_alloc | apply pw_below_drewN | apply below_drew1 | refine below_set ?_ GE265.out | refine below_set ?_ GE277.out | refine below_set ?_ GE282.out) | exact HB.out)) hb); clear HO276; clear HO281; clear BK265; clear BK277; clear BK282; clear HB; have HO276 := n0_; have HO281 := n1_; have BK265 := n2_; have BK277 := n3_; have BK282 := n4_; have HB := n5_; clear n0_ n1_ n2_ n3_ n4_ n5_; (try clear hb); (try clear hb2); (try clear hk); (try clear hi); have hcz85_0 : w84.cell? ⟨gb277, 0, none⟩ = some (.int .u32 t273) := (blk_cell BK277.out 0).trans rfl; have hcz85_1 : w84.cell? ⟨gb277, 1, none⟩ = some (.slice Ao75 t274.length co75) := (blk_cell BK277.out 1).trans rfl; have hfz85_0 := blk_frozen BK277.out 0; have hfz85_1 := blk_frozen BK277.out 1) | (go_at_call 16; (with_reducible refine (calls_Calls_Next.calls t273 _ _ t274 (Int.tmod (wrap64 (a2)) (l0.length : Int)) (Int.tmod (wrap64 (a3)) 249) a4 t284 _ ?side1 ?side2 A68.out (PAll.Deb.keep HLAID.out (by repeat (first | (with_reducible first | exact HB.out | apply below_alloc | apply pw_below_drewN | apply below_drew1 | refine below_set ?_ (Aside0.out (by assumption))) | exact HB.out | refine below_set ?_ (Aside0.out (by assumption)))))).mono ?_); (case side1 => repeat (first | exact (Kd.R_reads' HO276.out).2.2 | (with_reducible refine Kd.C_alloc ?_ _) | (with_reducible refine Kd.C_drewN ?_ _) | (with_reducible refine Kd.C_drew ?_))); (case side2 => exact (Kd.R_reads' HO276.out).2.1); rintro e w86 ⟨rfl, hb⟩; have n0_ := Aside0.mk (Kd.R_below (by (with_reducible repeat (first | apply Kd.R_alloc | apply Kd.R_drewN | apply Kd.R_drew)); exact HO276.out) hb); have n1_ := Aside0.mk (Kd.R_below (by (with_reducible repeat (first | apply Kd.R_alloc | apply Kd.R_drewN | apply Kd.R_drew)); exact HO281.out) hb); have n2_ := Aside0.mk (blk_below (g := gb265) (o := .cells #[.int .u32 a1, .slice A0 l0.length c0] 27 (0, 0)) (by (with_reducible repeat (first | refine blk_drewN ?_ _ | refine blk_drew ?_ | refine blk_alloc ?_ _)); exact BK265.out) hb); have n3_ := Aside0.mk (blk_below (g := gb277) (o := .cells #[.int .u32 t273, .slice Ao75 t274.length co75] 27 (0, 0)) (by (with_reducible repeat (first | refine blk_drewN ?_ _ | refine blk_drew ?_ | refine blk_alloc ?_ _)); exact BK277.out) hb); have n4_ := Aside0.mk (blk_below (g := gb282) (o := .cells #[.int .u32 t278, .slice Ao82 t279.length co82] 27 (0, 0)) (by (with_reducible repeat (first | refine blk_drewN ?_ _ | refine blk_drew ?_ | refine blk_alloc ?_ _)); exact BK282.out) hb); have n5_ := Aside0.mk (below_step (by repeat (first | (with_reducible first | exact HB.out | apply below_alloc | apply pw_below_drewN | apply below_drew1 | refine below_set ?_ GE265.out | refine below_set ?_ GE277.out | refine below_set ?_ GE282.out) | exact HB.out)) hb); clear HO276; clear HO281; clear BK265; clear BK277; clear BK282; clear HB; have HO276 := n0_; have HO281 := n1_; have BK265 := n2_; have BK277 := n3_; have BK282 := n4_; have HB := n5_; clear n0_ n1_ n2_ n3_ n4_ n5_; (try clear hb); (try clear hb2); (try clear hk); (try clear hi)))
                                  go_ret
                                  exact ⟨by first | rfl | (simp [errW_none, errW_some] <;> rfl) | (simp only [← hji48]; first | rfl | (simp [errW_none, errW_some] <;> rfl)) | (simp [*, errW_none, errW_some] <;> rfl), by repeat (first | (with_reducible first | exact HB.out | apply below_alloc | apply pw_below_drewN | apply below_drew1 | refine below_set ?_ GE265.out | refine below_set ?_ GE277.out | refine below_set ?_ GE282.out) | exact HB.out)⟩
                                · rw [if_neg c69] at H
                                  have c69b0 : (t284 == t266) = false := beq_eq_false_iff_ne.mpr c69
                                  have c69b1 : (t284 != t266) = true := bne_iff_ne.mpr c69
                                  by_cases c87 : t278 = a1
                                  · rw [if_pos c87] at H
                                    have c87b0 : (t278 == a1) = true := beq_iff_eq.mpr c87
                                    have c87b1 : (t278 != a1) = false := bne_eq_false_iff_eq.mpr c87
                                    clear c87
                                    replace H := Option.bind_eq_some_iff.mp H
                                    obtain ⟨t285, A880, H⟩ := H
                                    replace H : (some (t285 == t267)) = some r := H
                                    have A88 := Aside0.mk A880
                                    clear A880
                                    obtain rfl := Option.some.inj H
                                    have hcz89_0 : wc.cell? ⟨gb265, 0, none⟩ = some (.int .u32 a1) := (blk_cell BK265.out 0).trans rfl
                                    have hcz89_1 : wc.cell? ⟨gb265, 1, none⟩ = some (.slice A0 l0.length c0) := (blk_cell BK265.out 1).trans rfl
                                    have hfz89_0 := blk_frozen BK265.out 0
                                    have hfz89_1 := blk_frozen BK265.out 1
                                    go_wp2_with (first | ((with_reducible refine gate_callee (f := 14) rfl ?_); refine goesL_ (some 136) rfl rfl Tryd.func14 (by kernel_rfl) rfl #[.agg #[.int .u32 a1, .slice A0 l0.length c0], .int .i64 (Int.tmod (wrap64 (a2)) (l0.length : Int)), .int .i64 t266, .bool true] rfl (by (try simp only [List.map_toArray, List.map_cons, List.map_nil]); first | done | rfl | (simp only [List.length_drop, List.length_take]; rfl)) ?_; (with_reducible refine (calls_Calls_Done.calls a1 _ _ l0 (Int.tmod (wrap64 (a2)) (l0.length : Int)) t266 true t273 t274 _ ?side1 ?side2 A64.out).mono ?_); (case side1 => repeat (first | exact (Kd.C_below HR0.out HB.out) | (with_reducible refine Kd.C_alloc ?_ _) | (with_reducible refine Kd.C_drewN ?_ _) | (with_reducible refine Kd.C_drew ?_))); (case side2 => exact HC0.out); rintro e w90 ⟨v275, rfl, ho0, hb⟩; refine ⟨_, rfl, ?_⟩; have n0_ := Aside0.mk (Kd.R_lower ho0 (below_size (by repeat (first | (with_reducible first | exact HB.out | apply below_alloc | apply pw_below_drewN | apply below_drew1 | refine below_set ?_ GE265.out) | exact HB.out)))); have n1_ := Aside0.mk (blk_below (g := gb265) (o := .cells #[.int .u32 a1, .slice A0 l0.length c0] 27 (0, 0)) (by (with_reducible repeat (first | refine blk_drewN ?_ _ | refine blk_drew ?_ | refine blk_alloc ?_ _)); exact BK265.out) hb); have n2_ := Aside0.mk (below_step (by repeat (first | (with_reducible first | exact HB.out | apply below_alloc | apply pw_below_drewN | apply below_drew1 | refine below_set ?_ GE265.out) | exact HB.out)) hb); clear BK265; clear HB; have HO276 := n0_; have BK265 := n1_; have HB := n2_; clear n0_ n1_ n2_; (try clear hb); (try clear hb2); (try clear hk); (try clear hi); (try clear ho0)) | ((with_reducible refine gate_dst (N := 19) rfl ?_); (try (refine gate_guard (by rfl) ?_; dsimp only)); refine box_event ?hg (N := 19) ?hd (cs := #[.int .u32 0, .slice none 0 0]) (t := 27) ?hr ?_; (case hd => rfl); (case hg => rfl); (case hr => first | (go_simp; done) | (go_simp; rfl)); intro gb277 hg w91 hbox hb; have n0_ := Aside0.mk (Kd.R_below (by (with_reducible repeat (first | apply Kd.R_alloc | apply Kd.R_drewN | apply Kd.R_drew)); exact HO276.out) hb); have n1_ := Aside0.mk (blk_below (g := gb265) (o := .cells #[.int .u32 a1, .slice A0 l0.length c0] 27 (0, 0)) (by (with_reducible repeat (first | refine blk_drewN ?_ _ | refine blk_drew ?_ | refine blk_alloc ?_ _)); exact BK265.out) hb); have n2_ := Aside0.mk (below_step (by repeat (first | (with_reducible first | exact HB.out | apply below_alloc | apply pw_below_drewN | apply below_drew1 | refine below_set ?_ GE265.out) | exact HB.out)) hb); have n3_ := Aside0.mk (hbox); have n4_ := Aside0.mk ((by rw [hg]; exact (below_size (by repeat (first | (with_reducible first | exact HB.out | apply below_alloc | apply pw_below_drewN | apply below_drew1 | refine below_set ?_ GE265.out) | exact HB.out))) : w.heap.size ≤ gb277)); have n5_ := Aside0.mk ((by rw [hg]; exact (below_size (by repeat (first | (with_reducible first | exact HB.out | apply below_alloc | apply pw_below_drewN | apply below_drew1 | refine below_set ?_ GE265.out) | exact HB.out))) : w.heap.size ≤ gb277)); have n6_ := Aside0.mk ((by rw [hg]; exact Nat.ne_of_lt (blk_lt (g := gb265) (o := .cells #[.int .u32 a1, .slice A0 l0.length c0] 27 (0, 0)) (by (with_reducible repeat (first | refine blk_drewN ?_ _ | refine blk_drew ?_ | refine blk_alloc ?_ _)); exact BK265.out)) : gb265 ≠ gb277)); have n7_ := Aside0.mk ((by rw [hg]; exact Nat.ne_of_gt (blk_lt (g := gb265) (o := .cells #[.int .u32 a1, .slice A0 l0.length c0] 27 (0, 0)) (by (with_reducible repeat (first | refine blk_drewN ?_ _ | refine blk_drew ?_ | refine blk_alloc ?_ _)); exact BK265.out)) : gb277 ≠ gb265)); clear HO276; clear BK265; clear HB; have HO276 := n0_; have BK265 := n1_; have HB := n2_; have BK277 := n3_; have GW277 := n4_; have GE277 := n5_; have NB265_277 := n6_; have NB277_265 := n7_; clear n0_ n1_ n2_ n3_ n4_ n5_ n6_ n7_; clear hb hbox hg; have hnb92 := NB277_265.out; have hnc92 := NB265_277.out; have hcz93_0 : w91.cell? ⟨gb277, 0, none⟩ = some (.int .u32 0) := (blk_cell BK277.out 0).trans rfl; have hcz93_1 : w91.cell? ⟨gb277, 1, none⟩ = some (.slice none 0 0) := (blk_cell BK277.out 1).trans rfl; have hfz93_0 := blk_frozen BK277.out 0; have hfz93_1 := blk_frozen BK277.out 1; obtain ⟨Ao94, co94, eo94⟩ := Kd.R_slice HO276.out; subst eo94; have hcz95_0 : w91.cell? ⟨gb265, 0, none⟩ = some (.int .u32 a1) := (blk_cell BK265.out 0).trans rfl; have hcz95_1 : w91.cell? ⟨gb265, 1, none⟩ = some (.slice A0 l0.length c0) := (blk_cell BK265.out 1).trans rfl; have hfz95_0 := blk_frozen BK265.out 0; have hfz95_1 := blk_frozen BK265.out 1) | ((with_reducible refine gate_callee (f := 14) rfl ?_); refine goesL_ (some 140) rfl rfl Tryd.func14 (by kernel_rfl) rfl #[.agg #[.int .u32 a1, .slice A0 l0.length c0], .int .i64 (Int.tmod (wrap64 (a2)) (l0.length : Int)), .int .i64 t266, .bool false] rfl (by (try simp only [List.map_toArray, List.map_cons, List.map_nil]); first | done | rfl | (simp only [List.length_drop, List.length_take]; rfl)) ?_; (with_reducible refine (calls_Calls_Done.calls a1 _ _ l0 (Int.tmod (wrap64 (a2)) (l0.length : Int)) t266 false t278 t279 _ ?side1 ?side2 A65.out).mono ?_); (case side1 => exact Kd.C_below HR0.out (by repeat (first | (with_reducible first | exact HB.out | apply below_alloc | apply pw_below_drewN | apply below_drew1 | refine below_set ?_ GE265.out | refine below_set ?_ GE277.out) | exact HB.out))); (case side2 => exact HC0.out); rintro e w96 ⟨v280, rfl, ho0, hb⟩; refine ⟨_, rfl, ?_⟩; have n0_ := Aside0.mk (Kd.R_elder' (by (with_reducible repeat (first | apply Kd.R_alloc | apply Kd.R_drewN | apply Kd.R_drew)); exact (Kd.R_mono (Kd.R_far (p := ⟨gb277, 1, none⟩) (Kd.R_far (p := ⟨gb277, 0, none⟩) (Kd.R_types HO276.out BK277.out (by decide)) (fun _ hk => hk.2) (.int .u32 t273)) (fun _ hk => hk.2) (.slice Ao94 t274.length co94)) (fun _ h_ => h_.1))) (Kd.R_base ho0) hb); have n1_ := Aside0.mk (Kd.R_lower (Kd.R_new' ho0 (Kd.R_lt (by (with_reducible repeat (first | apply Kd.R_alloc | apply Kd.R_drewN | apply Kd.R_drew)); exact (Kd.R_mono (Kd.R_far (p := ⟨gb277, 1, none⟩) (Kd.R_far (p := ⟨gb277, 0, none⟩) (Kd.R_types HO276.out BK277.out (by decide)) (fun _ hk => hk.2) (.int .u32 t273)) (fun _ hk => hk.2) (.slice Ao94 t274.length co94)) (fun _ h_ => h_.1))))) (below_size (by repeat (first | (with_reducible first | exact HB.out | apply below_alloc | apply pw_below_drewN | apply below_drew1 | refine below_set ?_ GE265.out | refine below_set ?_ GE277.out) | exact HB.out)))); have n2_ := Aside0.mk (blk_below (g := gb265) (o := .cells #[.int .u32 a1, .slice A0 l0.length c0] 27 (0, 0)) (by (with_reducible repeat (first | refine blk_drewN ?_ _ | refine blk_drew ?_ | refine blk_alloc ?_ _)); refine blk_far ?_ NB265_277.out _; (with_reducible repeat (first | refine blk_drewN ?_ _ | refine blk_drew ?_ | refine blk_alloc ?_ _)); refine blk_far ?_ NB265_277.out _; (with_reducible repeat (first | refine blk_drewN ?_ _ | refine blk_drew ?_ | refine blk_alloc ?_ _)); exact BK265.out) hb); have n3_ := Aside0.mk (blk_below (g := gb277) (o := .cells #[.int .u32 t273, .slice Ao94 t274.length co94] 27 (0, 0)) (by (with_reducible repeat (first | refine blk_drewN ?_ _ | refine blk_drew ?_ | refine blk_alloc ?_ _)); refine blk_put (cs := #[.int .u32 t273, .slice none 0 0]) ?_ 1 _ rfl; (with_reducible repeat (first | refine blk_drewN ?_ _ | refine blk_drew ?_ | refine blk_alloc ?_ _)); refine blk_put (cs := #[.int .u32 0, .slice none 0 0]) ?_ 0 _ rfl; (with_reducible repeat (first | refine blk_drewN ?_ _ | refine blk_drew ?_ | refine blk_alloc ?_ _)); exact BK277.out) hb); have n4_ := Aside0.mk (below_step (by repeat (first | (with_reducible first | exact HB.out | apply below_alloc | apply pw_below_drewN | apply below_drew1 | refine below_set ?_ GE265.out | refine below_set ?_ GE277.out) | exact HB.out)) hb); clear HO276; clear BK265; clear BK277; clear HB; have HO276 := n0_; have HO281 := n1_; have BK265 := n2_; have BK277 := n3_; have HB := n4_; clear n0_ n1_ n2_ n3_ n4_; (try clear hb); (try clear hb2); (try clear hk); (try clear hi); (try clear ho0)) | ((with_reducible refine gate_dst (N := 20) rfl ?_); (try (refine gate_guard (by rfl) ?_; dsimp only)); refine box_event ?hg (N := 20) ?hd (cs := #[.int .u32 0, .slice none 0 0]) (t := 27) ?hr ?_; (case hd => rfl); (case hg => rfl); (case hr => first | (go_simp; done) | (go_simp; rfl)); intro gb282 hg w97 hbox hb; have n0_ := Aside0.mk (Kd.R_below (by (with_reducible repeat (first | apply Kd.R_alloc | apply Kd.R_drewN | apply Kd.R_drew)); exact HO276.out) hb); have n1_ := Aside0.mk (Kd.R_below (by (with_reducible repeat (first | apply Kd.R_alloc | apply Kd.R_drewN | apply Kd.R_drew)); exact HO281.out) hb); have n2_ := Aside0.mk (blk_below (g := gb265) (o := .cells #[.int .u32 a1, .slice A0 l0.length c0] 27 (0, 0)) (by (with_reducible repeat (first | refine blk_drewN ?_ _ | refine blk_drew ?_ | refine blk_alloc ?_ _)); exact BK265.out) hb); have n3_ := Aside0.mk (blk_below (g := gb277) (o := .cells #[.int .u32 t273, .slice Ao94 t274.length co94] 27 (0, 0)) (by (with_reducible repeat (first | refine blk_drewN ?_ _ | refine blk_drew ?_ | refine blk_alloc ?_ _)); exact BK277.out) hb); have n4_ := Aside0.mk (below_step (by repeat (first | (with_reducible first | exact HB.out | apply below_alloc | apply pw_below_drewN | apply below_drew1 | refine below_set ?_ GE265.out | refine below_set ?_ GE277.out) | exact HB.out)) hb); have n5_ := Aside0.mk (hbox); have n6_ := Aside0.mk ((by rw [hg]; exact (below_size (by repeat (first | (with_reducible first | exact HB.out | apply below_alloc | apply pw_below_drewN | apply below_drew1 | refine below_set ?_ GE265.out | refine below_set ?_ GE277.out) | exact HB.out))) : w.heap.size ≤ gb282)); have n7_ := Aside0.mk ((by rw [hg]; exact (below_size (by repeat (first | (with_reducible first | exact HB.out | apply below_alloc | apply pw_below_drewN | apply below_drew1 | refine below_set ?_ GE265.out | refine below_set ?_ GE277.out) | exact HB.out))) : w.heap.size ≤ gb282)); have n8_ := Aside0.mk ((by rw [hg]; exact Nat.ne_of_lt (blk_lt (g := gb265) (o := .cells #[.int .u32 a1, .slice A0 l0.length c0] 27 (0, 0)) (by (with_reducible repeat (first | refine blk_drewN ?_ _ | refine blk_drew ?_ | refine blk_alloc ?_ _)); exact BK265.out)) : gb265 ≠ gb282)); have n9_ := Aside0.mk ((by rw [hg]; exact Nat.ne_of_gt (blk_lt (g := gb265) (o := .cells #[.int .u32 a1, .slice A0 l0.length c0] 27 (0, 0)) (by (with_reducible repeat (first | refine blk_drewN ?_ _ | refine blk_drew ?_ | refine blk_alloc ?_ _)); exact BK265.out)) : gb282 ≠ gb265)); have n10_ := Aside0.mk ((by rw [hg]; exact Nat.ne_of_lt (blk_lt (g := gb277) (o := .cells #[.int .u32 t273, .slice Ao94 t274.length co94] 27 (0, 0)) (by (with_reducible repeat (first | refine blk_drewN ?_ _ | refine blk_drew ?_ | refine blk_alloc ?_ _)); exact BK277.out)) : gb277 ≠ gb282)); have n11_ := Aside0.mk ((by rw [hg]; exact Nat.ne_of_gt (blk_lt (g := gb277) (o := .cells #[.int .u32 t273, .slice Ao94 t274.length co94] 27 (0, 0)) (by (with_reducible repeat (first | refine blk_drewN ?_ _ | refine blk_drew ?_ | refine blk_alloc ?_ _)); exact BK277.out)) : gb282 ≠ gb277)); clear HO276; clear HO281; clear BK265; clear BK277; clear HB; have HO276 := n0_; have HO281 := n1_; have BK265 := n2_; have BK277 := n3_; have HB := n4_; have BK282 := n5_; have GW282 := n6_; have GE282 := n7_; have NB265_282 := n8_; have NB282_265 := n9_; have NB277_282 := n10_; have NB282_277 := n11_; clear n0_ n1_ n2_ n3_ n4_ n5_ n6_ n7_ n8_ n9_ n10_ n11_; clear hb hbox hg; have hnb98 := NB282_265.out; have hnc98 := NB265_282.out; have hnb99 := NB282_277.out; have hnc99 := NB277_282.out; have hcz100_0 : w97.cell? ⟨gb282, 0, none⟩ = some (.int .u32 0) := (blk_cell BK282.out 0).trans rfl; have hcz100_1 : w97.cell? ⟨gb282, 1, none⟩ = some (.slice none 0 0) := (blk_cell BK282.out 1).trans rfl; have hfz100_0 := blk_frozen BK282.out 0; have hfz100_1 := blk_frozen BK282.out 1; obtain ⟨Ao101, co101, eo101⟩ := Kd.R_slice HO281.out; subst eo101; have hcz102_0 : w97.cell? ⟨gb277, 0, none⟩ = some (.int .u32 t273) := (blk_cell BK277.out 0).trans rfl; have hcz102_1 : w97.cell? ⟨gb277, 1, none⟩ = some (.slice Ao94 t274.length co94) := (blk_cell BK277.out 1).trans rfl; have hfz102_0 := blk_frozen BK277.out 0; have hfz102_1 := blk_frozen BK277.out 1) | ((with_reducible refine gate_callee (f := 18) rfl ?_); refine goesL_ (some 142) rfl rfl Tryd.func18 (by kernel_rfl) rfl #[.agg #[.int .u32 t273, .slice Ao94 t274.length co94]] rfl (by (try simp only [List.map_toArray, List.map_cons, List.map_nil]); first | done | rfl | (simp only [List.length_drop, List.length_take]; rfl)) ?_; (with_reducible refine (calls_Calls_Many.calls t273 _ _ t274 t283 _ ?side1 ?side2 A66.out).mono ?_); (case side1 => refine (Kd.R_reads' (e := 23) (base := w.heap.size) (ok := fun k_ => (True ∧ some k_ ≠ (.slice Ao101 t279.length co101 : Value).ownBlock)) (n := t274.length) (c := co94) ?_).2.2; exact (by (with_reducible repeat (first | apply Kd.R_alloc | apply Kd.R_drewN | apply Kd.R_drew)); exact (Kd.R_mono (Kd.R_far (p := ⟨gb282, 1, none⟩) (Kd.R_far (p := ⟨gb282, 0, none⟩) (Kd.R_types HO276.out BK282.out (by decide)) (fun _ hk => hk.2) (.int .u32 t278)) (fun _ hk => hk.2) (.slice Ao101 t279.length co101)) (fun _ h_ => h_.1)))); (case side2 => exact (Kd.R_reads' HO276.out).2.1); rintro e w103 ⟨rfl, hb⟩; refine ⟨_, rfl, ?_⟩; have n0_ := Aside0.mk (Kd.R_below (by (with_reducible repeat (first | apply Kd.R_alloc | apply Kd.R_drewN | apply Kd.R_drew)); exact (Kd.R_mono (Kd.R_far (p := ⟨gb282, 1, none⟩) (Kd.R_far (p := ⟨gb282, 0, none⟩) (Kd.R_types HO276.out BK282.out (by decide)) (fun _ hk => hk.2) (.int .u32 t278)) (fun _ hk => hk.2) (.slice Ao101 t279.length co101)) (fun _ h_ => h_.1))) hb); have n1_ := Aside0.mk (Kd.R_below (by (with_reducible repeat (first | apply Kd.R_alloc | apply Kd.R_drewN | apply Kd.R_drew)); exact (Kd.R_mono (Kd.R_far (p := ⟨gb282, 1, none⟩) (Kd.R_far (p := ⟨gb282, 0, none⟩) (Kd.R_types HO281.out BK282.out (by decide)) (fun _ hk => hk.2) (.int .u32 t278)) (fun _ hk => hk.2) (.slice Ao101 t279.length co101)) (fun _ h_ => h_.1))) hb); have n2_ := Aside0.mk (blk_below (g := gb265) (o := .cells #[.int .u32 a1, .slice A0 l0.length c0] 27 (0, 0)) (by (with_reducible repeat (first | refine blk_drewN ?_ _ | refine blk_drew ?_ | refine blk_alloc ?_ _)); refine blk_far ?_ NB265_282.out _; (with_reducible repeat (first | refine blk_drewN ?_ _ | refine blk_drew ?_ | refine blk_alloc ?_ _)); refine blk_far ?_ NB265_282.out _; (with_reducible repeat (first | refine blk_drewN ?_ _ | refine blk_drew ?_ | refine blk_alloc ?_ _)); exact BK265.out) hb); have n3_ := Aside0.mk (blk_below (g := gb277) (o := .cells #[.int .u32 t273, .slice Ao94 t274.length co94] 27 (0, 0)) (by (with_reducible repeat (first | refine blk_drewN ?_ _ | refine blk_drew ?_ | refine blk_alloc ?_ _)); refine blk_far ?_ NB277_282.out _; (with_reducible repeat (first | refine blk_drewN ?_ _ | refine blk_drew ?_ | refine blk_alloc ?_ _)); refine blk_far ?_ NB277_282.out _; (with_reducible repeat (first | refine blk_drewN ?_ _ | refine blk_drew ?_ | refine blk_alloc ?_ _)); exact BK277.out) hb); have n4_ := Aside0.mk (blk_below (g := gb282) (o := .cells #[.int .u32 t278, .slice Ao101 t279.length co101] 27 (0, 0)) (by (with_reducible repeat (first | refine blk_drewN ?_ _ | refine blk_drew ?_ | refine blk_alloc ?_ _)); refine blk_put (cs := #[.int .u32 t278, .slice none 0 0]) ?_ 1 _ rfl; (with_reducible repeat (first | refine blk_drewN ?_ _ | refine blk_drew ?_ | refine blk_alloc ?_ _)); refine blk_put (cs := #[.int .u32 0, .slice none 0 0]) ?_ 0 _ rfl; (with_reducible repeat (first | refine blk_drewN ?_ _ | refine blk_drew ?_ | refine blk_alloc ?_ _)); exact BK282.out) hb); have n5_ := Aside0.mk (below_step (by repeat (first | (with_reducible first | exact HB.out | apply below_alloc | apply pw_below_drewN | apply below_drew1 | refine below_set ?_ GE265.out | refine below_set ?_ GE277.out | refine below_set ?_ GE282.out) | exact HB.out)) hb); clear HO276; clear HO281; clear BK265; clear BK277; clear BK282; clear HB; have HO276 := n0_; have HO281 := n1_; have BK265 := n2_; have BK277 := n3_; have BK282 := n4_; have HB := n5_; clear n0_ n1_ n2_ n3_ n4_ n5_; (try clear hb); (try clear hb2); (try clear hk); (try clear hi); have hcz104_0 : w103.cell? ⟨gb277, 0, none⟩ = some (.int .u32 t273) := (blk_cell BK277.out 0).trans rfl; have hcz104_1 : w103.cell? ⟨gb277, 1, none⟩ = some (.slice Ao94 t274.length co94) := (blk_cell BK277.out 1).trans rfl; have hfz104_0 := blk_frozen BK277.out 0; have hfz104_1 := blk_frozen BK277.out 1) | (go_at_call 16; (with_reducible refine (calls_Calls_Next.calls t273 _ _ t274 (Int.tmod (wrap64 (a2)) (l0.length : Int)) (Int.tmod (wrap64 (a3)) 249) a4 t284 _ ?side1 ?side2 A68.out (PAll.Deb.keep HLAID.out (by repeat (first | (with_reducible first | exact HB.out | apply below_alloc | apply pw_below_drewN | apply below_drew1 | refine below_set ?_ (Aside0.out (by assumption))) | exact HB.out | refine below_set ?_ (Aside0.out (by assumption)))))).mono ?_); (case side1 => repeat (first | exact (Kd.R_reads' HO276.out).2.2 | (with_reducible refine Kd.C_alloc ?_ _) | (with_reducible refine Kd.C_drewN ?_ _) | (with_reducible refine Kd.C_drew ?_))); (case side2 => exact (Kd.R_reads' HO276.out).2.1); rintro e w105 ⟨rfl, hb⟩; have n0_ := Aside0.mk (Kd.R_below (by (with_reducible repeat (first | apply Kd.R_alloc | apply Kd.R_drewN | apply Kd.R_drew)); exact HO276.out) hb); have n1_ := Aside0.mk (Kd.R_below (by (with_reducible repeat (first | apply Kd.R_alloc | apply Kd.R_drewN | apply Kd.R_drew)); exact HO281.out) hb); have n2_ := Aside0.mk (blk_below (g := gb265) (o := .cells #[.int .u32 a1, .slice A0 l0.length c0] 27 (0, 0)) (by (with_reducible repeat (first | refine blk_drewN ?_ _ | refine blk_drew ?_ | refine blk_alloc ?_ _)); exact BK265.out) hb); have n3_ := Aside0.mk (blk_below (g := gb277) (o := .cells #[.int .u32 t273, .slice Ao94 t274.length co94] 27 (0, 0)) (by (with_reducible repeat (first | refine blk_drewN ?_ _ | refine blk_drew ?_ | refine blk_alloc ?_ _)); exact BK277.out) hb); have n4_ := Aside0.mk (blk_below (g := gb282) (o := .cells #[.int .u32 t278, .slice Ao101 t279.length co101] 27 (0, 0)) (by (with_reducible repeat (first | refine blk_drewN ?_ _ | refine blk_drew ?_ | refine blk_alloc ?_ _)); exact BK282.out) hb); have n5_ := Aside0.mk (below_step (by repeat (first | (with_reducible first | exact HB.out | apply below_alloc | apply pw_below_drewN | apply below_drew1 | refine below_set ?_ GE265.out | refine below_set ?_ GE277.out | refine below_set ?_ GE282.out) | exact HB.out)) hb); clear HO276; clear HO281; clear BK265; clear BK277; clear BK282; clear HB; have HO276 := n0_; have HO281 := n1_; have BK265 := n2_; have BK277 := n3_; have BK282 := n4_; have HB := n5_; clear n0_ n1_ n2_ n3_ n4_ n5_; (try clear hb); (try clear hb2); (try clear hk); (try clear hi); have hcz106_0 : w105.cell? ⟨gb282, 0, none⟩ = some (.int .u32 t278) := (blk_cell BK282.out 0).trans rfl; have hcz106_1 : w105.cell? ⟨gb282, 1, none⟩ = some (.slice Ao101 t279.length co101) := (blk_cell BK282.out 1).trans rfl; have hfz106_0 := blk_frozen BK282.out 0; have hfz106_1 := blk_frozen BK282.out 1; have hcz107_0 : w105.cell? ⟨gb265, 0, none⟩ = some (.int .u32 a1) := (blk_cell BK265.out 0).trans rfl; have hcz107_1 : w105.cell? ⟨gb265, 1, none⟩ = some (.slice A0 l0.length c0) := (blk_cell BK265.out 1).trans rfl; have hfz107_0 := blk_frozen BK265.out 0; have hfz107_1 := blk_frozen BK265.out 1) | (go_at_call 18; (with_reducible refine (calls_Calls_Many.calls a1 _ _ l0 t285 _ ?side1 ?side2 A88.out).mono ?_); (case side1 => repeat (first | exact (Kd.C_below HR0.out HB.out) | (with_reducible refine Kd.C_alloc ?_ _) | (with_reducible refine Kd.C_drewN ?_ _) | (with_reducible refine Kd.C_drew ?_))); (case side2 => exact HC0.out); rintro e w108 ⟨rfl, hb⟩; have n0_ := Aside0.mk (Kd.R_below (by (with_reducible repeat (first | apply Kd.R_alloc | apply Kd.R_drewN | apply Kd.R_drew)); exact HO276.out) hb); have n1_ := Aside0.mk (Kd.R_below (by (with_reducible repeat (first | apply Kd.R_alloc | apply Kd.R_drewN | apply Kd.R_drew)); exact HO281.out) hb); have n2_ := Aside0.mk (blk_below (g := gb265) (o := .cells #[.int .u32 a1, .slice A0 l0.length c0] 27 (0, 0)) (by (with_reducible repeat (first | refine blk_drewN ?_ _ | refine blk_drew ?_ | refine blk_alloc ?_ _)); exact BK265.out) hb); have n3_ := Aside0.mk (blk_below (g := gb277) (o := .cells #[.int .u32 t273, .slice Ao94 t274.length co94] 27 (0, 0)) (by (with_reducible repeat (first | refine blk_drewN ?_ _ | refine blk_drew ?_ | refine blk_alloc ?_ _)); exact BK277.out) hb); have n4_ := Aside0.mk (blk_below (g := gb282) (o := .cells #[.int .u32 t278, .slice Ao101 t279.length co101] 27 (0, 0)) (by (with_reducible repeat (first | refine blk_drewN ?_ _ | refine blk_drew ?_ | refine blk_alloc ?_ _)); exact BK282.out) hb); have n5_ := Aside0.mk (below_step (by repeat (first | (with_reducible first | exact HB.out | apply below_alloc | apply pw_below_drewN | apply below_drew1 | refine below_set ?_ GE265.out | refine below_set ?_ GE277.out | refine below_set ?_ GE282.out) | exact HB.out)) hb); clear HO276; clear HO281; clear BK265; clear BK277; clear BK282; clear HB; have HO276 := n0_; have HO281 := n1_; have BK265 := n2_; have BK277 := n3_; have BK282 := n4_; have HB := n5_; clear n0_ n1_ n2_ n3_ n4_ n5_; (try clear hb); (try clear hb2); (try clear hk); (try clear hi)))
                                    go_ret
                                    exact ⟨by first | rfl | (simp [errW_none, errW_some] <;> rfl) | (simp only [← hji48]; first | rfl | (simp [errW_none, errW_some] <;> rfl)) | (simp [*, errW_none, errW_some] <;> rfl), by repeat (first | (with_reducible first | exact HB.out | apply below_alloc | apply pw_below_drewN | apply below_drew1 | refine below_set ?_ GE265.out | refine below_set ?_ GE277.out | refine below_set ?_ GE282.out) | exact HB.out)⟩
                                  · rw [if_neg c87] at H
                                    have c87b0 : (t278 == a1) = false := beq_eq_false_iff_ne.mpr c87
                                    have c87b1 : (t278 != a1) = true := bne_iff_ne.mpr c87
                                    obtain rfl := Option.some.inj H
                                    have hcz109_0 : wc.cell? ⟨gb265, 0, none⟩ = some (.int .u32 a1) := (blk_cell BK265.out 0).trans rfl
                                    have hcz109_1 : wc.cell? ⟨gb265, 1, none⟩ = some (.slice A0 l0.length c0) := (blk_cell BK265.out 1).trans rfl
                                    have hfz109_0 := blk_frozen BK265.out 0
                                    have hfz109_1 := blk_frozen BK265.out 1
                                    go_wp2_with (first | ((with_reducible refine gate_callee (f := 14) rfl ?_); refine goesL_ (some 136) rfl rfl Tryd.func14 (by kernel_rfl) rfl #[.agg #[.int .u32 a1, .slice A0 l0.length c0], .int .i64 (Int.tmod (wrap64 (a2)) (l0.length : Int)), .int .i64 t266, .bool true] rfl (by (try simp only [List.map_toArray, List.map_cons, List.map_nil]); first | done | rfl | (simp only [List.length_drop, List.length_take]; rfl)) ?_; (with_reducible refine (calls_Calls_Done.calls a1 _ _ l0 (Int.tmod (wrap64 (a2)) (l0.length : Int)) t266 true t273 t274 _ ?side1 ?side2 A64.out).mono ?_); (case side1 => repeat (first | exact (Kd.C_below HR0.out HB.out) | (with_reducible refine Kd.C_alloc ?_ _) | (with_reducible refine Kd.C_drewN ?_ _) | (with_reducible refine Kd.C_drew ?_))); (case side2 => exact HC0.out); rintro e w110 ⟨v275, rfl, ho0, hb⟩; refine ⟨_, rfl, ?_⟩; have n0_ := Aside0.mk (Kd.R_lower ho0 (below_size (by repeat (first | (with_reducible first | exact HB.out | apply below_alloc | apply pw_below_drewN | apply below_drew1 | refine below_set ?_ GE265.out) | exact HB.out)))); have n1_ := Aside0.mk (blk_below (g := gb265) (o := .cells #[.int .u32 a1, .slice A0 l0.length c0] 27 (0, 0)) (by (with_reducible repeat (first | refine blk_drewN ?_ _ | refine blk_drew ?_ | refine blk_alloc ?_ _)); exact BK265.out) hb); have n2_ := Aside0.mk (below_step (by repeat (first | (with_reducible first | exact HB.out | apply below_alloc | apply pw_below_drewN | apply below_drew1 | refine below_set ?_ GE265.out) | exact HB.out)) hb); clear BK265; clear HB; have HO276 := n0_; have BK265 := n1_; have HB := n2_; clear n0_ n1_ n2_; (try clear hb); (try clear hb2); (try clear hk); (try clear hi); (try clear ho0)) | ((with_reducible refine gate_dst (N := 19) rfl ?_); (try (refine gate_guard (by rfl) ?_; dsimp only)); refine box_event ?hg (N := 19) ?hd (cs := #[.int .u32 0, .slice none 0 0]) (t := 27) ?hr ?_; (case hd => rfl); (case hg => rfl); (case hr => first | (go_simp; done) | (go_simp; rfl)); intro gb277 hg w111 hbox hb; have n0_ := Aside0.mk (Kd.R_below (by (with_reducible repeat (first | apply Kd.R_alloc | apply Kd.R_drewN | apply Kd.R_drew)); exact HO276.out) hb); have n1_ := Aside0.mk (blk_below (g := gb265) (o := .cells #[.int .u32 a1, .slice A0 l0.length c0] 27 (0, 0)) (by (with_reducible repeat (first | refine blk_drewN ?_ _ | refine blk_drew ?_ | refine blk_alloc ?_ _)); exact BK265.out) hb); have n2_ := Aside0.mk (below_step (by repeat (first | (with_reducible first | exact HB.out | apply below_alloc | apply pw_below_drewN | apply below_drew1 | refine below_set ?_ GE265.out) | exact HB.out)) hb); have n3_ := Aside0.mk (hbox); have n4_ := Aside0.mk ((by rw [hg]; exact (below_size (by repeat (first | (with_reducible first | exact HB.out | apply below_alloc | apply pw_below_drewN | apply below_drew1 | refine below_set ?_ GE265.out) | exact HB.out))) : w.heap.size ≤ gb277)); have n5_ := Aside0.mk ((by rw [hg]; exact (below_size (by repeat (first | (with_reducible first | exact HB.out | apply below_alloc | apply pw_below_drewN | apply below_drew1 | refine below_set ?_ GE265.out) | exact HB.out))) : w.heap.size ≤ gb277)); have n6_ := Aside0.mk ((by rw [hg]; exact Nat.ne_of_lt (blk_lt (g := gb265) (o := .cells #[.int .u32 a1, .slice A0 l0.length c0] 27 (0, 0)) (by (with_reducible repeat (first | refine blk_drewN ?_ _ | refine blk_drew ?_ | refine blk_alloc ?_ _)); exact BK265.out)) : gb265 ≠ gb277)); have n7_ := Aside0.mk ((by rw [hg]; exact Nat.ne_of_gt (blk_lt (g := gb265) (o := .cells #[.int .u32 a1, .slice A0 l0.length c0] 27 (0, 0)) (by (with_reducible repeat (first | refine blk_drewN ?_ _ | refine blk_drew ?_ | refine blk_alloc ?_ _)); exact BK265.out)) : gb277 ≠ gb265)); clear HO276; clear BK265; clear HB; have HO276 := n0_; have BK265 := n1_; have HB := n2_; have BK277 := n3_; have GW277 := n4_; have GE277 := n5_; have NB265_277 := n6_; have NB277_265 := n7_; clear n0_ n1_ n2_ n3_ n4_ n5_ n6_ n7_; clear hb hbox hg; have hnb112 := NB277_265.out; have hnc112 := NB265_277.out; have hcz113_0 : w111.cell? ⟨gb277, 0, none⟩ = some (.int .u32 0) := (blk_cell BK277.out 0).trans rfl; have hcz113_1 : w111.cell? ⟨gb277, 1, none⟩ = some (.slice none 0 0) := (blk_cell BK277.out 1).trans rfl; have hfz113_0 := blk_frozen BK277.out 0; have hfz113_1 := blk_frozen BK277.out 1; obtain ⟨Ao114, co114, eo114⟩ := Kd.R_slice HO276.out; subst eo114; have hcz115_0 : w111.cell? ⟨gb265, 0, none⟩ = some (.int .u32 a1) := (blk_cell BK265.out 0).trans rfl; have hcz115_1 : w111.cell? ⟨gb265, 1, none⟩ = some (.slice A0 l0.length c0) := (blk_cell BK265.out 1).trans rfl; have hfz115_0 := blk_frozen BK265.out 0; have hfz115_1 := blk_frozen BK265.out 1) | ((with_reducible refine gate_callee (f := 14) rfl ?_); refine goesL_ (some 140) rfl rfl Tryd.func14 (by kernel_rfl) rfl #[.agg #[.int .u32 a1, .slice A0 l0.length c0], .int .i64 (Int.tmod (wrap64 (a2)) (l0.length : Int)), .int .i64 t266, .bool false] rfl (by (try simp only [List.map_toArray, List.map_cons, List.map_nil]); first | done | rfl | (simp only [List.length_drop, List.length_take]; rfl)) ?_; (with_reducible refine (calls_Calls_Done.calls a1 _ _ l0 (Int.tmod (wrap64 (a2)) (l0.length : Int)) t266 false t278 t279 _ ?side1 ?side2 A65.out).mono ?_); (case side1 => exact Kd.C_below HR0.out (by repeat (first | (with_reducible first | exact HB.out | apply below_alloc | apply pw_below_drewN | apply below_drew1 | refine below_set ?_ GE265.out | refine below_set ?_ GE277.out) | exact HB.out))); (case side2 => exact HC0.out); rintro e w116 ⟨v280, rfl, ho0, hb⟩; refine ⟨_, rfl, ?_⟩; have n0_ := Aside0.mk (Kd.R_elder' (by (with_reducible repeat (first | apply Kd.R_alloc | apply Kd.R_drewN | apply Kd.R_drew)); exact (Kd.R_mono (Kd.R_far (p := ⟨gb277, 1, none⟩) (Kd.R_far (p := ⟨gb277, 0, none⟩) (Kd.R_types HO276.out BK277.out (by decide)) (fun _ hk => hk.2) (.int .u32 t273)) (fun _ hk => hk.2) (.slice Ao114 t274.length co114)) (fun _ h_ => h_.1))) (Kd.R_base ho0) hb); have n1_ := Aside0.mk (Kd.R_lower (Kd.R_new' ho0 (Kd.R_lt (by (with_reducible repeat (first | apply Kd.R_alloc | apply Kd.R_drewN | apply Kd.R_drew)); exact (Kd.R_mono (Kd.R_far (p := ⟨gb277, 1, none⟩) (Kd.R_far (p := ⟨gb277, 0, none⟩) (Kd.R_types HO276.out BK277.out (by decide)) (fun _ hk => hk.2) (.int .u32 t273)) (fun _ hk => hk.2) (.slice Ao114 t274.length co114)) (fun _ h_ => h_.1))))) (below_size (by repeat (first | (with_reducible first | exact HB.out | apply below_alloc | apply pw_below_drewN | apply below_drew1 | refine below_set ?_ GE265.out | refine below_set ?_ GE277.out) | exact HB.out)))); have n2_ := Aside0.mk (blk_below (g := gb265) (o := .cells #[.int .u32 a1, .slice A0 l0.length c0] 27 (0, 0)) (by (with_reducible repeat (first | refine blk_drewN ?_ _ | refine blk_drew ?_ | refine blk_alloc ?_ _)); refine blk_far ?_ NB265_277.out _; (with_reducible repeat (first | refine blk_drewN ?_ _ | refine blk_drew ?_ | refine blk_alloc ?_ _)); refine blk_far ?_ NB265_277.out _; (with_reducible repeat (first | refine blk_drewN ?_ _ | refine blk_drew ?_ | refine blk_alloc ?_ _)); exact BK265.out) hb); have n3_ := Aside0.mk (blk_below (g := gb277) (o := .cells #[.int .u32 t273, .slice Ao114 t274.length co114] 27 (0, 0)) (by (with_reducible repeat (first | refine blk_drewN ?_ _ | refine blk_drew ?_ | refine blk_alloc ?_ _)); refine blk_put (cs := #[.int .u32 t273, .slice none 0 0]) ?_ 1 _ rfl; (with_reducible repeat (first | refine blk_drewN ?_ _ | refine blk_drew ?_ | refine blk_alloc ?_ _)); refine blk_put (cs := #[.int .u32 0, .slice none 0 0]) ?_ 0 _ rfl; (with_reducible repeat (first | refine blk_drewN ?_ _ | refine blk_drew ?_ | refine blk_alloc ?_ _)); exact BK277.out) hb); have n4_ := Aside0.mk (below_step (by repeat (first | (with_reducible first | exact HB.out | apply below_alloc | apply pw_below_drewN | apply below_drew1 | refine below_set ?_ GE265.out | refine below_set ?_ GE277.out) | exact HB.out)) hb); clear HO276; clear BK265; clear BK277; clear HB; have HO276 := n0_; have HO281 := n1_; have BK265 := n2_; have BK277 := n3_; have HB := n4_; clear n0_ n1_ n2_ n3_ n4_; (try clear hb); (try clear hb2); (try clear hk); (try clear hi); (try clear ho0)) | ((with_reducible refine gate_dst (N := 20) rfl ?_); (try (refine gate_guard (by rfl) ?_; dsimp only)); refine box_event ?hg (N := 20) ?hd (cs := #[.int .u32 0, .slice none 0 0]) (t := 27) ?hr ?_; (case hd => rfl); (case hg => rfl); (case hr => first | (go_simp; done) | (go_simp; rfl)); intro gb282 hg w117 hbox hb; have n0_ := Aside0.mk (Kd.R_below (by (with_reducible repeat (first | apply Kd.R_alloc | apply Kd.R_drewN | apply Kd.R_drew)); exact HO276.out) hb); have n1_ := Aside0.mk (Kd.R_below (by (with_reducible repeat (first | apply Kd.R_alloc | apply Kd.R_drewN | apply Kd.R_drew)); exact HO281.out) hb); have n2_ := Aside0.mk (blk_below (g := gb265) (o := .cells #[.int .u32 a1, .slice A0 l0.length c0] 27 (0, 0)) (by (with_reducible repeat (first | refine blk_drewN ?_ _ | refine blk_drew ?_ | refine blk_alloc ?_ _)); exact BK265.out) hb); have n3_ := Aside0.mk (blk_below (g := gb277) (o := .cells #[.int .u32 t273, .slice Ao114 t274.length co114] 27 (0, 0)) (by (with_reducible repeat (first | refine blk_drewN ?_ _ | refine blk_drew ?_ | refine blk_alloc ?_ _)); exact BK277.out) hb); have n4_ := Aside0.mk (below_step (by repeat (first | (with_reducible first | exact HB.out | apply below_alloc | apply pw_below_drewN | apply below_drew1 | refine below_set ?_ GE265.out | refine below_set ?_ GE277.out) | exact HB.out)) hb); have n5_ := Aside0.mk (hbox); have n6_ := Aside0.mk ((by rw [hg]; exact (below_size (by repeat (first | (with_reducible first | exact HB.out | apply below_alloc | apply pw_below_drewN | apply below_drew1 | refine below_set ?_ GE265.out | refine below_set ?_ GE277.out) | exact HB.out))) : w.heap.size ≤ gb282)); have n7_ := Aside0.mk ((by rw [hg]; exact (below_size (by repeat (first | (with_reducible first | exact HB.out | apply below_alloc | apply pw_below_drewN | apply below_drew1 | refine below_set ?_ GE265.out | refine below_set ?_ GE277.out) | exact HB.out))) : w.heap.size ≤ gb282)); have n8_ := Aside0.mk ((by rw [hg]; exact Nat.ne_of_lt (blk_lt (g := gb265) (o := .cells #[.int .u32 a1, .slice A0 l0.length c0] 27 (0, 0)) (by (with_reducible repeat (first | refine blk_drewN ?_ _ | refine blk_drew ?_ | refine blk_alloc ?_ _)); exact BK265.out)) : gb265 ≠ gb282)); have n9_ := Aside0.mk ((by rw [hg]; exact Nat.ne_of_gt (blk_lt (g := gb265) (o := .cells #[.int .u32 a1, .slice A0 l0.length c0] 27 (0, 0)) (by (with_reducible repeat (first | refine blk_drewN ?_ _ | refine blk_drew ?_ | refine blk_alloc ?_ _)); exact BK265.out)) : gb282 ≠ gb265)); have n10_ := Aside0.mk ((by rw [hg]; exact Nat.ne_of_lt (blk_lt (g := gb277) (o := .cells #[.int .u32 t273, .slice Ao114 t274.length co114] 27 (0, 0)) (by (with_reducible repeat (first | refine blk_drewN ?_ _ | refine blk_drew ?_ | refine blk_alloc ?_ _)); exact BK277.out)) : gb277 ≠ gb282)); have n11_ := Aside0.mk ((by rw [hg]; exact Nat.ne_of_gt (blk_lt (g := gb277) (o := .cells #[.int .u32 t273, .slice Ao114 t274.length co114] 27 (0, 0)) (by (with_reducible repeat (first | refine blk_drewN ?_ _ | refine blk_drew ?_ | refine blk_alloc ?_ _)); exact BK277.out)) : gb282 ≠ gb277)); clear HO276; clear HO281; clear BK265; clear BK277; clear HB; have HO276 := n0_; have HO281 := n1_; have BK265 := n2_; have BK277 := n3_; have HB := n4_; have BK282 := n5_; have GW282 := n6_; have GE282 := n7_; have NB265_282 := n8_; have NB282_265 := n9_; have NB277_282 := n10_; have NB282_277 := n11_; clear n0_ n1_ n2_ n3_ n4_ n5_ n6_ n7_ n8_ n9_ n10_ n11_; clear hb hbox hg; have hnb118 := NB282_265.out; have hnc118 := NB265_282.out; have hnb119 := NB282_277.out; have hnc119 := NB277_282.out; have hcz120_0 : w117.cell? ⟨gb282, 0, none⟩ = some (.int .u32 0) := (blk_cell BK282.out 0).trans rfl; have hcz120_1 : w117.cell? ⟨gb282, 1, none⟩ = some (.slice none 0 0) := (blk_cell BK282.out 1).trans rfl; have hfz120_0 := blk_frozen BK282.out 0; have hfz120_1 := blk_frozen BK282.out 1; obtain ⟨Ao121, co121, eo121⟩ := Kd.R_slice HO281.out; subst eo121; have hcz122_0 : w117.cell? ⟨gb277, 0, none⟩ = some (.int .u32 t273) := (blk_cell BK277.out 0).trans rfl; have hcz122_1 : w117.cell? ⟨gb277, 1, none⟩ = some (.slice Ao114 t274.length co114) := (blk_cell BK277.out 1).trans rfl; have hfz122_0 := blk_frozen BK277.out 0; have hfz122_1 := blk_frozen BK277.out 1) | ((with_reducible refine gate_callee (f := 18) rfl ?_); refine goesL_ (some 142) rfl rfl Tryd.func18 (by kernel_rfl) rfl #[.agg #[.int .u32 t273, .slice Ao114 t274.length co114]] rfl (by (try simp only [List.map_toArray, List.map_cons, List.map_nil]); first | done | rfl | (simp only [List.length_drop, List.length_take]; rfl)) ?_; (with_reducible refine (calls_Calls_Many.calls t273 _ _ t274 t283 _ ?side1 ?side2 A66.out).mono ?_); (case side1 => refine (Kd.R_reads' (e := 23) (base := w.heap.size) (ok := fun k_ => (True ∧ some k_ ≠ (.slice Ao121 t279.length co121 : Value).ownBlock)) (n := t274.length) (c := co114) ?_).2.2; exact (by (with_reducible repeat (first | apply Kd.R_alloc | apply Kd.R_drewN | apply Kd.R_drew)); exact (Kd.R_mono (Kd.R_far (p := ⟨gb282, 1, none⟩) (Kd.R_far (p := ⟨gb282, 0, none⟩) (Kd.R_types HO276.out BK282.out (by decide)) (fun _ hk => hk.2) (.int .u32 t278)) (fun _ hk => hk.2) (.slice Ao121 t279.length co121)) (fun _ h_ => h_.1)))); (case side2 => exact (Kd.R_reads' HO276.out).2.1); rintro e w123 ⟨rfl, hb⟩; refine ⟨_, rfl, ?_⟩; have n0_ := Aside0.mk (Kd.R_below (by (with_reducible repeat (first | apply Kd.R_alloc | apply Kd.R_drewN | apply Kd.R_drew)); exact (Kd.R_mono (Kd.R_far (p := ⟨gb282, 1, none⟩) (Kd.R_far (p := ⟨gb282, 0, none⟩) (Kd.R_types HO276.out BK282.out (by decide)) (fun _ hk => hk.2) (.int .u32 t278)) (fun _ hk => hk.2) (.slice Ao121 t279.length co121)) (fun _ h_ => h_.1))) hb); have n1_ := Aside0.mk (Kd.R_below (by (with_reducible repeat (first | apply Kd.R_alloc | apply Kd.R_drewN | apply Kd.R_drew)); exact (Kd.R_mono (Kd.R_far (p := ⟨gb282, 1, none⟩) (Kd.R_far (p := ⟨gb282, 0, none⟩) (Kd.R_types HO281.out BK282.out (by decide)) (fun _ hk => hk.2) (.int .u32 t278)) (fun _ hk => hk.2) (.slice Ao121 t279.length co121)) (fun _ h_ => h_.1))) hb); have n2_ := Aside0.mk (blk_below (g := gb265) (o := .cells #[.int .u32 a1, .slice A0 l0.length c0] 27 (0, 0)) (by (with_reducible repeat (first | refine blk_drewN ?_ _ | refine blk_drew ?_ | refine blk_alloc ?_ _)); refine blk_far ?_ NB265_282.out _; (with_reducible repeat (first | refine blk_drewN ?_ _ | refine blk_drew ?_ | refine blk_alloc ?_ _)); refine blk_far ?_ NB265_282.out _; (with_reducible repeat (first | refine blk_drewN ?_ _ | refine blk_drew ?_ | refine blk_alloc ?_ _)); exact BK265.out) hb); have n3_ := Aside0.mk (blk_below (g := gb277) (o := .cells #[.int .u32 t273, .slice Ao114 t274.length co114] 27 (0, 0)) (by (with_reducible repeat (first | refine blk_drewN ?_ _ | refine blk_drew ?_ | refine blk_alloc ?_ _)); refine blk_far ?_ NB277_282.out _; (with_reducible repeat (first | refine blk_drewN ?_ _ | refine blk_drew ?_ | refine blk_alloc ?_ _)); refine blk_far ?_ NB277_282.out _; (with_reducible repeat (first | refine blk_drewN ?_ _ | refine blk_drew ?_ | refine blk_alloc ?_ _)); exact BK277.out) hb); have n4_ := Aside0.mk (blk_below (g := gb282) (o := .cells #[.int .u32 t278, .slice Ao121 t279.length co121] 27 (0, 0)) (by (with_reducible repeat (first | refine blk_drewN ?_ _ | refine blk_drew ?_ | refine blk_alloc ?_ _)); refine blk_put (cs := #[.int .u32 t278, .slice none 0 0]) ?_ 1 _ rfl; (with_reducible repeat (first | refine blk_drewN ?_ _ | refine blk_drew ?_ | refine blk_alloc ?_ _)); refine blk_put (cs := #[.int .u32 0, .slice none 0 0]) ?_ 0 _ rfl; (with_reducible repeat (first | refine blk_drewN ?_ _ | refine blk_drew ?_ | refine blk_alloc ?_ _)); exact BK282.out) hb); have n5_ := Aside0.mk (below_step (by repeat (first | (with_reducible first | exact HB.out | apply below_alloc | apply pw_below_drewN | apply below_drew1 | refine below_set ?_ GE265.out | refine below_set ?_ GE277.out | refine below_set ?_ GE282.out) | exact HB.out)) hb); clear HO276; clear HO281; clear BK265; clear BK277; clear BK282; clear HB; have HO276 := n0_; have HO281 := n1_; have BK265 := n2_; have BK277 := n3_; have BK282 := n4_; have HB := n5_; clear n0_ n1_ n2_ n3_ n4_ n5_; (try clear hb); (try clear hb2); (try clear hk); (try clear hi); have hcz124_0 : w123.cell? ⟨gb277, 0, none⟩ = some (.int .u32 t273) := (blk_cell BK277.out 0).trans rfl; have hcz124_1 : w123.cell? ⟨gb277, 1, none⟩ = some (.slice Ao114 t274.length co114) := (blk_cell BK277.out 1).trans rfl; have hfz124_0 := blk_frozen BK277.out 0; have hfz124_1 := blk_frozen BK277.out 1) | (go_at_call 16; (with_reducible refine (calls_Calls_Next.calls t273 _ _ t274 (Int.tmod (wrap64 (a2)) (l0.length : Int)) (Int.tmod (wrap64 (a3)) 249) a4 t284 _ ?side1 ?side2 A68.out (PAll.Deb.keep HLAID.out (by repeat (first | (with_reducible first | exact HB.out | apply below_alloc | apply pw_below_drewN | apply below_drew1 | refine below_set ?_ (Aside0.out (by assumption))) | exact HB.out | refine below_set ?_ (Aside0.out (by assumption)))))).mono ?_); (case side1 => repeat (first | exact (Kd.R_reads' HO276.out).2.2 | (with_reducible refine Kd.C_alloc ?_ _) | (with_reducible refine Kd.C_drewN ?_ _) | (with_reducible refine Kd.C_drew ?_))); (case side2 => exact (Kd.R_reads' HO276.out).2.1); rintro e w125 ⟨rfl, hb⟩; have n0_ := Aside0.mk (Kd.R_below (by (with_reducible repeat (first | apply Kd.R_alloc | apply Kd.R_drewN | apply Kd.R_drew)); exact HO276.out) hb); have n1_ := Aside0.mk (Kd.R_below (by (with_reducible repeat (first | apply Kd.R_alloc | apply Kd.R_drewN | apply Kd.R_drew)); exact HO281.out) hb); have n2_ := Aside0.mk (blk_below (g := gb265) (o := .cells #[.int .u32 a1, .slice A0 l0.length c0] 27 (0, 0)) (by (with_reducible repeat (first | refine blk_drewN ?_ _ | refine blk_drew ?_ | refine blk_alloc ?_ _)); exact BK265.out) hb); have n3_ := Aside0.mk (blk_below (g := gb277) (o := .cells #[.int .u32 t273, .slice Ao114 t274.length co114] 27 (0, 0)) (by (with_reducible repeat (first | refine blk_drewN ?_ _ | refine blk_drew ?_ | refine blk_alloc ?_ _)); exact BK277.out) hb); have n4_ := Aside0.mk (blk_below (g := gb282) (o := .cells #[.int .u32 t278, .slice Ao121 t279.length co121] 27 (0, 0)) (by (with_reducible repeat (first | refine blk_drewN ?_ _ | refine blk_drew ?_ | refine blk_alloc ?_ _)); exact BK282.out) hb); have n5_ := Aside0.mk (below_step (by repeat (first | (with_reducible first | exact HB.out | apply below_alloc | apply pw_below_drewN | apply below_drew1 | refine below_set ?_ GE265.out | refine below_set ?_ GE277.out | refine below_set ?_ GE282.out) | exact HB.out)) hb); clear HO276; clear HO281; clear BK265; clear BK277; clear BK282; clear HB; have HO276 := n0_; have HO281 := n1_; have BK265 := n2_; have BK277 := n3_; have BK282 := n4_; have HB := n5_; clear n0_ n1_ n2_ n3_ n4_ n5_; (try clear hb); (try clear hb2); (try clear hk); (try clear hi); have hcz126_0 : w125.cell? ⟨gb282, 0, none⟩ = some (.int .u32 t278) := (blk_cell BK282.out 0).trans rfl; have hcz126_1 : w125.cell? ⟨gb282, 1, none⟩ = some (.slice Ao121 t279.length co121) := (blk_cell BK282.out 1).trans rfl; have hfz126_0 := blk_frozen BK282.out 0; have hfz126_1 := blk_frozen BK282.out 1))
                                    go_ret
                                    exact ⟨by first | rfl | (simp [errW_none, errW_some] <;> rfl) | (simp only [← hji48]; first | rfl | (simp [errW_none, errW_some] <;> rfl)) | (simp [*, errW_none, errW_some] <;> rfl), by repeat (first | (with_reducible first | exact HB.out | apply below_alloc | apply pw_below_drewN | apply below_drew1 | refine below_set ?_ GE265.out | refine below_set ?_ GE277.out | refine below_set ?_ GE282.out) | exact HB.out)⟩
                              · rw [if_neg c67] at H
                                have c67b0 : decide (t283 < t267) = false := decide_eq_false c67
                                clear c67
                                obtain rfl := Option.some.inj H
                                have hcz127_0 : wc.cell? ⟨gb265, 0, none⟩ = some (.int .u32 a1) := (blk_cell BK265.out 0).trans rfl
                                have hcz127_1 : wc.cell? ⟨gb265, 1, none⟩ = some (.slice A0 l0.length c0) := (blk_cell BK265.out 1).trans rfl
                                have hfz127_0 := blk_frozen BK265.out 0
                                have hfz127_1 := blk_frozen BK265.out 1
                                go_wp2_with (first | ((with_reducible refine gate_callee (f := 14) rfl ?_); refine goesL_ (some 136) rfl rfl Tryd.func14 (by kernel_rfl) rfl #[.agg #[.int .u32 a1, .slice A0 l0.length c0], .int .i64 (Int.tmod (wrap64 (a2)) (l0.length : Int)), .int .i64 t266, .bool true] rfl (by (try simp only [List.map_toArray, List.map_cons, List.map_nil]); first | done | rfl | (simp only [List.length_drop, List.length_take]; rfl)) ?_; (with_reducible refine (calls_Calls_Done.calls a1 _ _ l0 (Int.tmod (wrap64 (a2)) (l0.length : Int)) t266 true t273 t274 _ ?side1 ?side2 A64.out).mono ?_); (case side1 => repeat (first | exact (Kd.C_below HR0.out HB.out) | (with_reducible refine Kd.C_alloc ?_ _) | (with_reducible refine Kd.C_drewN ?_ _) | (with_reducible refine Kd.C_drew ?_))); (case side2 => exact HC0.out); rintro e w128 ⟨v275, rfl, ho0, hb⟩; refine ⟨_, rfl, ?_⟩; have n0_ := Aside0.mk (Kd.R_lower ho0 (below_size (by repeat (first | (with_reducible first | exact HB.out | apply below_alloc | apply pw_below_drewN | apply below_drew1 | refine below_set ?_ GE265.out) | exact HB.out)))); have n1_ := Aside0.mk (blk_below (g := gb265) (o := .cells #[.int .u32 a1, .slice A0 l0.length c0] 27 (0, 0)) (by (with_reducible repeat (first | refine blk_drewN ?_ _ | refine blk_drew ?_ | refine blk_alloc ?_ _)); exact BK265.out) hb); have n2_ := Aside0.mk (below_step (by repeat (first | (with_reducible first | exact HB.out | apply below_alloc | apply pw_below_drewN | apply below_drew1 | refine below_set ?_ GE265.out) | exact HB.out)) hb); clear BK265; clear HB; have HO276 := n0_; have BK265 := n1_; have HB := n2_; clear n0_ n1_ n2_; (try clear hb); (try clear hb2); (try clear hk); (try clear hi); (try clear ho0)) | ((with_reducible refine gate_dst (N := 19) rfl ?_); (try (refine gate_guard (by rfl) ?_; dsimp only)); refine box_event ?hg (N := 19) ?hd (cs := #[.int .u32 0, .slice none 0 0]) (t := 27) ?hr ?_; (case hd => rfl); (case hg => rfl); (case hr => first | (go_simp; done) | (go_simp; rfl)); intro gb277 hg w129 hbox hb; have n0_ := Aside0.mk (Kd.R_below (by (with_reducible repeat (first | apply Kd.R_alloc | apply Kd.R_drewN | apply Kd.R_drew)); exact HO276.out) hb); have n1_ := Aside0.mk (blk_below (g := gb265) (o := .cells #[.int .u32 a1, .slice A0 l0.length c0] 27 (0, 0)) (by (with_reducible repeat (first | refine blk_drewN ?_ _ | refine blk_drew ?_ | refine blk_alloc ?_ _)); exact BK265.out) hb); have n2_ := Aside0.mk (below_step (by repeat (first | (with_reducible first | exact HB.out | apply below_alloc | apply pw_below_drewN | apply below_drew1 | refine below_set ?_ GE265.out) | exact HB.out)) hb); have n3_ := Aside0.mk (hbox); have n4_ := Aside0.mk ((by rw [hg]; exact (below_size (by repeat (first | (with_reducible first | exact HB.out | apply below_alloc | apply pw_below_drewN | apply below_drew1 | refine below_set ?_ GE265.out) | exact HB.out))) : w.heap.size ≤ gb277)); have n5_ := Aside0.mk ((by rw [hg]; exact (below_size (by repeat (first | (with_reducible first | exact HB.out | apply below_alloc | apply pw_below_drewN | apply below_drew1 | refine below_set ?_ GE265.out) | exact HB.out))) : w.heap.size ≤ gb277)); have n6_ := Aside0.mk ((by rw [hg]; exact Nat.ne_of_lt (blk_lt (g := gb265) (o := .cells #[.int .u32 a1, .slice A0 l0.length c0] 27 (0, 0)) (by (with_reducible repeat (first | refine blk_drewN ?_ _ | refine blk_drew ?_ | refine blk_alloc ?_ _)); exact BK265.out)) : gb265 ≠ gb277)); have n7_ := Aside0.mk ((by rw [hg]; exact Nat.ne_of_gt (blk_lt (g := gb265) (o := .cells #[.int .u32 a1, .slice A0 l0.length c0] 27 (0, 0)) (by (with_reducible repeat (first | refine blk_drewN ?_ _ | refine blk_drew ?_ | refine blk_alloc ?_ _)); exact BK265.out)) : gb277 ≠ gb265)); clear HO276; clear BK265; clear HB; have HO276 := n0_; have BK265 := n1_; have HB := n2_; have BK277 := n3_; have GW277 := n4_; have GE277 := n5_; have NB265_277 := n6_; have NB277_265 := n7_; clear n0_ n1_ n2_ n3_ n4_ n5_ n6_ n7_; clear hb hbox hg; have hnb130 := NB277_265.out; have hnc130 := NB265_277.out; have hcz131_0 : w129.cell? ⟨gb277, 0, none⟩ = some (.int .u32 0) := (blk_cell BK277.out 0).trans rfl; have hcz131_1 : w129.cell? ⟨gb277, 1, none⟩ = some (.slice none 0 0) := (blk_cell BK277.out 1).trans rfl; have hfz131_0 := blk_frozen BK277.out 0; have hfz131_1 := blk_frozen BK277.out 1; obtain ⟨Ao132, co132, eo132⟩ := Kd.R_slice HO276.out; subst eo132; have hcz133_0 : w129.cell? ⟨gb265, 0, none⟩ = some (.int .u32 a1) := (blk_cell BK265.out 0).trans rfl; have hcz133_1 : w129.cell? ⟨gb265, 1, none⟩ = some (.slice A0 l0.length c0) := (blk_cell BK265.out 1).trans rfl; have hfz133_0 := blk_frozen BK265.out 0; have hfz133_1 := blk_frozen BK265.out 1) | ((with_reducible refine gate_callee (f := 14) rfl ?_); refine goesL_ (some 140) rfl rfl Tryd.func14 (by kernel_rfl) rfl #[.agg #[.int .u32 a1, .slice A0 l0.length c0], .int .i64 (Int.tmod (wrap64 (a2)) (l0.length : Int)), .int .i64 t266, .bool false] rfl (by (try simp only [List.map_toArray, List.map_cons, List.map_nil]); first | done | rfl | (simp only [List.length_drop, List.length_take]; rfl)) ?_; (with_reducible refine (calls_Calls_Done.calls a1 _ _ l0 (Int.tmod (wrap64 (a2)) (l0.length : Int)) t266 false t278 t279 _ ?side1 ?side2 A65.out).mono ?_); (case side1 => exact Kd.C_below HR0.out (by repeat (first | (with_reducible first | exact HB.out | apply below_alloc | apply pw_below_drewN | apply below_drew1 | refine below_set ?_ GE265.out | refine below_set ?_ GE277.out) | exact HB.out))); (case side2 => exact HC0.out); rintro e w134 ⟨v280, rfl, ho0, hb⟩; refine ⟨_, rfl, ?_⟩; have n0_ := Aside0.mk (Kd.R_elder' (by (with_reducible repeat (first | apply Kd.R_alloc | apply Kd.R_drewN | apply Kd.R_drew)); exact (Kd.R_mono (Kd.R_far (p := ⟨gb277, 1, none⟩) (Kd.R_far (p := ⟨gb277, 0, none⟩) (Kd.R_types HO276.out BK277.out (by decide)) (fun _ hk => hk.2) (.int .u32 t273)) (fun _ hk => hk.2) (.slice Ao132 t274.length co132)) (fun _ h_ => h_.1))) (Kd.R_base ho0) hb); have n1_ := Aside0.mk (Kd.R_lower (Kd.R_new' ho0 (Kd.R_lt (by (with_reducible repeat (first | apply Kd.R_alloc | apply Kd.R_drewN | apply Kd.R_drew)); exact (Kd.R_mono (Kd.R_far (p := ⟨gb277, 1, none⟩) (Kd.R_far (p := ⟨gb277, 0, none⟩) (Kd.R_types HO276.out BK277.out (by decide)) (fun _ hk => hk.2) (.int .u32 t273)) (fun _ hk => hk.2) (.slice Ao132 t274.length co132)) (fun _ h_ => h_.1))))) (below_size (by repeat (first | (with_reducible first | exact HB.out | apply below_alloc | apply pw_below_drewN | apply below_drew1 | refine below_set ?_ GE265.out | refine below_set ?_ GE277.out) | exact HB.out)))); have n2_ := Aside0.mk (blk_below (g := gb265) (o := .cells #[.int .u32 a1, .slice A0 l0.length c0] 27 (0, 0)) (by (with_reducible repeat (first | refine blk_drewN ?_ _ | refine blk_drew ?_ | refine blk_alloc ?_ _)); refine blk_far ?_ NB265_277.out _; (with_reducible repeat (first | refine blk_drewN ?_ _ | refine blk_drew ?_ | refine blk_alloc ?_ _)); refine blk_far ?_ NB265_277.out _; (with_reducible repeat (first | refine blk_drewN ?_ _ | refine blk_drew ?_ | refine blk_alloc ?_ _)); exact BK265.out) hb); have n3_ := Aside0.mk (blk_below (g := gb277) (o := .cells #[.int .u32 t273, .slice Ao132 t274.length co132] 27 (0, 0)) (by (with_reducible repeat (first | refine blk_drewN ?_ _ | refine blk_drew ?_ | refine blk_alloc ?_ _)); refine blk_put (cs := #[.int .u32 t273, .slice none 0 0]) ?_ 1 _ rfl; (with_reducible repeat (first | refine blk_drewN ?_ _ | refine blk_drew ?_ | refine blk_alloc ?_ _)); refine blk_put (cs := #[.int .u32 0, .slice none 0 0]) ?_ 0 _ rfl; (with_reducible repeat (first | refine blk_drewN ?_ _ | refine blk_drew ?_ | refine blk_alloc ?_ _)); exact BK277.out) hb); have n4_ := Aside0.mk (below_step (by repeat (first | (with_reducible first | exact HB.out | apply below_alloc | apply pw_below_drewN | apply below_drew1 | refine below_set ?_ GE265.out | refine below_set ?_ GE277.out) | exact HB.out)) hb); clear HO276; clear BK265; clear BK277; clear HB; have HO276 := n0_; have HO281 := n1_; have BK265 := n2_; have BK277 := n3_; have HB := n4_; clear n0_ n1_ n2_ n3_ n4_; (try clear hb); (try clear hb2); (try clear hk); (try clear hi); (try clear ho0)) | ((with_reducible refine gate_dst (N := 20) rfl ?_); (try (refine gate_guard (by rfl) ?_; dsimp only)); refine box_event ?hg (N := 20) ?hd (cs := #[.int .u32 0, .slice none 0 0]) (t := 27) ?hr ?_; (case hd => rfl); (case hg => rfl); (case hr => first | (go_simp; done) | (go_simp; rfl)); intro gb282 hg w135 hbox hb; have n0_ := Aside0.mk (Kd.R_below (by (with_reducible repeat (first | apply Kd.R_alloc | apply Kd.R_drewN | apply Kd.R_drew)); exact HO276.out) hb); have n1_ := Aside0.mk (Kd.R_below (by (with_reducible repeat (first | apply Kd.R_alloc | apply Kd.R_drewN | apply Kd.R_drew)); exact HO281.out) hb); have n2_ := Aside0.mk (blk_below (g := gb265) (o := .cells #[.int .u32 a1, .slice A0 l0.length c0] 27 (0, 0)) (by (with_reducible repeat (first | refine blk_drewN ?_ _ | refine blk_drew ?_ | refine blk_alloc ?_ _)); exact BK265.out) hb); have n3_ := Aside0.mk (blk_below (g := gb277) (o := .cells #[.int .u32 t273, .slice Ao132 t274.length co132] 27 (0, 0)) (by (with_reducible repeat (first | refine blk_drewN ?_ _ | refine blk_drew ?_ | refine blk_alloc ?_ _)); exact BK277.out) hb); have n4_ := Aside0.mk (below_step (by repeat (first | (with_reducible first | exact HB.out | apply below_alloc | apply pw_below_drewN | apply below_drew1 | refine below_set ?_ GE265.out | refine below_set ?_ GE277.out) | exact HB.out)) hb); have n5_ := Aside0.mk (hbox); have n6_ := Aside0.mk ((by rw [hg]; exact (below_size (by repeat (first | (with_reducible first | exact HB.out | apply below_alloc | apply pw_below_drewN | apply below_drew1 | refine below_set ?_ GE265.out | refine below_set ?_ GE277.out) | exact HB.out))) : w.heap.size ≤ gb282)); have n7_ := Aside0.mk ((by rw [hg]; exact (below_size (by repeat (first | (with_reducible first | exact HB.out | apply below_alloc | apply pw_below_drewN | apply below_drew1 | refine below_set ?_ GE265.out | refine below_set ?_ GE277.out) | exact HB.out))) : w.heap.size ≤ gb282)); have n8_ := Aside0.mk ((by rw [hg]; exact Nat.ne_of_lt (blk_lt (g := gb265) (o := .cells #[.int .u32 a1, .slice A0 l0.length c0] 27 (0, 0)) (by (with_reducible repeat (first | refine blk_drewN ?_ _ | refine blk_drew ?_ | refine blk_alloc ?_ _)); exact BK265.out)) : gb265 ≠ gb282)); have n9_ := Aside0.mk ((by rw [hg]; exact Nat.ne_of_gt (blk_lt (g := gb265) (o := .cells #[.int .u32 a1, .slice A0 l0.length c0] 27 (0, 0)) (by (with_reducible repeat (first | refine blk_drewN ?_ _ | refine blk_drew ?_ | refine blk_alloc ?_ _)); exact BK265.out)) : gb282 ≠ gb265)); have n10_ := Aside0.mk ((by rw [hg]; exact Nat.ne_of_lt (blk_lt (g := gb277) (o := .cells #[.int .u32 t273, .slice Ao132 t274.length co132] 27 (0, 0)) (by (with_reducible repeat (first | refine blk_drewN ?_ _ | refine blk_drew ?_ | refine blk_alloc ?_ _)); exact BK277.out)) : gb277 ≠ gb282)); have n11_ := Aside0.mk ((by rw [hg]; exact Nat.ne_of_gt (blk_lt (g := gb277) (o := .cells #[.int .u32 t273, .slice Ao132 t274.length co132] 27 (0, 0)) (by (with_reducible repeat (first | refine blk_drewN ?_ _ | refine blk_drew ?_ | refine blk_alloc ?_ _)); exact BK277.out)) : gb282 ≠ gb277)); clear HO276; clear HO281; clear BK265; clear BK277; clear HB; have HO276 := n0_; have HO281 := n1_; have BK265 := n2_; have BK277 := n3_; have HB := n4_; have BK282 := n5_; have GW282 := n6_; have GE282 := n7_; have NB265_282 := n8_; have NB282_265 := n9_; have NB277_282 := n10_; have NB282_277 := n11_; clear n0_ n1_ n2_ n3_ n4_ n5_ n6_ n7_ n8_ n9_ n10_ n11_; clear hb hbox hg; have hnb136 := NB282_265.out; have hnc136 := NB265_282.out; have hnb137 := NB282_277.out; have hnc137 := NB277_282.out; have hcz138_0 : w135.cell? ⟨gb282, 0, none⟩ = some (.int .u32 0) := (blk_cell BK282.out 0).trans rfl; have hcz138_1 : w135.cell? ⟨gb282, 1, none⟩ = some (.slice none 0 0) := (blk_cell BK282.out 1).trans rfl; have hfz138_0 := blk_frozen BK282.out 0; have hfz138_1 := blk_frozen BK282.out 1; obtain ⟨Ao139, co139, eo139⟩ := Kd.R_slice HO281.out; subst eo139; have hcz140_0 : w135.cell? ⟨gb277, 0, none⟩ = some (.int .u32 t273) := (blk_cell BK277.out 0).trans rfl; have hcz140_1 : w135.cell? ⟨gb277, 1, none⟩ = some (.slice Ao132 t274.length co132) := (blk_cell BK277.out 1).trans rfl; have hfz140_0 := blk_frozen BK277.out 0; have hfz140_1 := blk_frozen BK277.out 1) | ((with_reducible refine gate_callee (f := 18) rfl ?_); refine goesL_ (some 142) rfl rfl Tryd.func18 (by kernel_rfl) rfl #[.agg #[.int .u32 t273, .slice Ao132 t274.length co132]] rfl (by (try simp only [List.map_toArray, List.map_cons, List.map_nil]); first | done | rfl | (simp only [List.length_drop, List.length_take]; rfl)) ?_; (with_reducible refine (calls_Calls_Many.calls t273 _ _ t274 t283 _ ?side1 ?side2 A66.out).mono ?_); (case side1 => refine (Kd.R_reads' (e := 23) (base := w.heap.size) (ok := fun k_ => (True ∧ some k_ ≠ (.slice Ao139 t279.length co139 : Value).ownBlock)) (n := t274.length) (c := co132) ?_).2.2; exact (by (with_reducible repeat (first | apply Kd.R_alloc | apply Kd.R_drewN | apply Kd.R_drew)); exact (Kd.R_mono (Kd.R_far (p := ⟨gb282, 1, none⟩) (Kd.R_far (p := ⟨gb282, 0, none⟩) (Kd.R_types HO276.out BK282.out (by decide)) (fun _ hk => hk.2) (.int .u32 t278)) (fun _ hk => hk.2) (.slice Ao139 t279.length co139)) (fun _ h_ => h_.1)))); (case side2 => exact (Kd.R_reads' HO276.out).2.1); rintro e w141 ⟨rfl, hb⟩; refine ⟨_, rfl, ?_⟩; have n0_ := Aside0.mk (Kd.R_below (by (with_reducible repeat (first | apply Kd.R_alloc | apply Kd.R_drewN | apply Kd.R_drew)); exact (Kd.R_mono (Kd.R_far (p := ⟨gb282, 1, none⟩) (Kd.R_far (p := ⟨gb282, 0, none⟩) (Kd.R_types HO276.out BK282.out (by decide)) (fun _ hk => hk.2) (.int .u32 t278)) (fun _ hk => hk.2) (.slice Ao139 t279.length co139)) (fun _ h_ => h_.1))) hb); have n1_ := Aside0.mk (Kd.R_below (by (with_reducible repeat (first | apply Kd.R_alloc | apply Kd.R_drewN | apply Kd.R_drew)); exact (Kd.R_mono (Kd.R_far (p := ⟨gb282, 1, none⟩) (Kd.R_far (p := ⟨gb282, 0, none⟩) (Kd.R_types HO281.out BK282.out (by decide)) (fun _ hk => hk.2) (.int .u32 t278)) (fun _ hk => hk.2) (.slice Ao139 t279.length co139)) (fun _ h_ => h_.1))) hb); have n2_ := Aside0.mk (blk_below (g := gb265) (o := .cells #[.int .u32 a1, .slice A0 l0.length c0] 27 (0, 0)) (by (with_reducible repeat (first | refine blk_drewN ?_ _ | refine blk_drew ?_ | refine blk_alloc ?_ _)); refine blk_far ?_ NB265_282.out _; (with_reducible repeat (first | refine blk_drewN ?_ _ | refine blk_drew ?_ | refine blk_alloc ?_ _)); refine blk_far ?_ NB265_282.out _; (with_reducible repeat (first | refine blk_drewN ?_ _ | refine blk_drew ?_ | refine blk_alloc ?_ _)); exact BK265.out) hb); have n3_ := Aside0.mk (blk_below (g := gb277) (o := .cells #[.int .u32 t273, .slice Ao132 t274.length co132] 27 (0, 0)) (by (with_reducible repeat (first | refine blk_drewN ?_ _ | refine blk_drew ?_ | refine blk_alloc ?_ _)); refine blk_far ?_ NB277_282.out _; (with_reducible repeat (first | refine blk_drewN ?_ _ | refine blk_drew ?_ | refine blk_alloc ?_ _)); refine blk_far ?_ NB277_282.out _; (with_reducible repeat (first | refine blk_drewN ?_ _ | refine blk_drew ?_ | refine blk_alloc ?_ _)); exact BK277.out) hb); have n4_ := Aside0.mk (blk_below (g := gb282) (o := .cells #[.int .u32 t278, .slice Ao139 t279.length co139] 27 (0, 0)) (by (with_reducible repeat (first | refine blk_drewN ?_ _ | refine blk_drew ?_ | refine blk_alloc ?_ _)); refine blk_put (cs := #[.int .u32 t278, .slice none 0 0]) ?_ 1 _ rfl; (with_reducible repeat (first | refine blk_drewN ?_ _ | refine blk_drew ?_ | refine blk_alloc ?_ _)); refine blk_put (cs := #[.int .u32 0, .slice none 0 0]) ?_ 0 _ rfl; (with_reducible repeat (first | refine blk_drewN ?_ _ | refine blk_drew ?_ | refine blk_alloc ?_ _)); exact BK282.out) hb); have n5_ := Aside0.mk (below_step (by repeat (first | (with_reducible first | exact HB.out | apply below_alloc | apply pw_below_drewN | apply below_drew1 | refine below_set ?_ GE265.out | refine below_set ?_ GE277.out | refine below_set ?_ GE282.out) | exact HB.out)) hb); clear HO276; clear HO281; clear BK265; clear BK277; clear BK282; clear HB; have HO276 := n0_; have HO281 := n1_; have BK265 := n2_; have BK277 := n3_; have BK282 := n4_; have HB := n5_; clear n0_ n1_ n2_ n3_ n4_ n5_; (try clear hb); (try clear hb2); (try clear hk); (try clear hi)))
                                go_ret
                                exact ⟨by first | rfl | (simp [errW_none, errW_some] <;> rfl) | (simp only [← hji48]; first | rfl | (simp [errW_none, errW_some] <;> rfl)) | (simp [*, errW_none, errW_some] <;> rfl), by repeat (first | (with_reducible first | exact HB.out | apply below_alloc | apply pw_below_drewN | apply below_drew1 | refine below_set ?_ GE265.out | refine below_set ?_ GE277.out | refine below_set ?_ GE282.out) | exact HB.out)⟩
  · replace c7 := Bool.eq_false_iff.mpr c7
    subst c7
    have H1 : (some false) = some r := by rw [if_neg (show ¬ (false = true) by decide)] at H; exact H
    clear H
    have H := H1
    clear H1
    obtain rfl := Option.some.inj H
    go_enter Tryd.func4, Tryd.ntmps4
    go_wp2_with (first | ((with_reducible refine gate_callee (f := 8) rfl ?_); refine goesL_ (some 21) rfl rfl Tryd.func8 (by kernel_rfl) rfl #[] rfl (by (try simp only [List.map_toArray, List.map_cons, List.map_nil]); first | done | rfl | (simp only [List.length_drop, List.length_take]; rfl)) ?_; (with_reducible refine (paternosterlaw22_awake.calls  false _ A6.out (PAll.Deb.keep HLAID.out (by repeat (first | (with_reducible first | exact HB.out | apply below_alloc | apply pw_below_drewN | apply below_drew1 | refine below_set ?_ (Aside0.out (by assumption))) | exact HB.out | refine below_set ?_ (Aside0.out (by assumption)))))).mono ?_); rintro e w142 ⟨rfl, hb⟩; refine ⟨_, rfl, ?_⟩; have n0_ := Aside0.mk (below_step (by repeat (first | (with_reducible first | exact HB.out | apply below_alloc | apply pw_below_drewN | apply below_drew1) | exact HB.out)) hb); clear HB; have HB := n0_; clear n0_; (try clear hb); (try clear hb2); (try clear hk); (try clear hi)))
    go_ret
    exact ⟨by first | rfl | (simp [errW_none, errW_some] <;> rfl) | (simp [*, errW_none, errW_some] <;> rfl), by repeat (first | (with_reducible first | exact HB.out | apply below_alloc | apply pw_below_drewN | apply below_drew1) | exact HB.out)⟩

/-- THE ONE PURE STATEMENT of paternosterlaw22_CallsWait: yours. -/
def paternosterlaw22_CallsWait.Pure : Prop := ∀ (l0 : List Int) (a1 : Int) (a2 : Int) (a3 : Int) (a4 : Int), l0.length ≤ maxLen → l0.length * 4 ≤ 140737488351232 → (∀ x ∈ l0, (Lit.int .u32 x).wf = true) → (Lit.int .u32 a1).wf = true → (Lit.int .u8 a2).wf = true → (Lit.int .u8 a3).wf = true → (Lit.int .u32 a4).wf = true → ∃ k, paternosterlaw22_CallsWait.f k l0 a1 a2 a3 a4 = some true
theorem paternosterlaw22_CallsWait.walk : True := trivial

end Go.Proofs.YthjmlmognbenoaaDoor.PTwo
