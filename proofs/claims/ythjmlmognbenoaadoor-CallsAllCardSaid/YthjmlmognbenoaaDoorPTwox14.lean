-- Written by myprint.py: the kit's print.py over this seat's translation, with contracts of my own.
import Derived.Test.YthjmlmognbenoaaDoorPTwox0
import Derived.Test.YthjmlmognbenoaaDoorPTwox8
import Derived.Test.YthjmlmognbenoaaDoorPTwox10
import Derived.Test.YthjmlmognbenoaaDoorPTwox11
import Derived.Test.YthjmlmognbenoaaDoorPTwox12
namespace Go.Proofs.YthjmlmognbenoaaDoor.PTwo
open Go.RowKit Go.Proofs.YthjmlmognbenoaaDoorW.PrintWords Go.Proofs.YthjmlmognbenoaaDoorW.PrintLast Go.Proofs.YthjmlmognbenoaaDoorW.PrintMore
attribute [local go_sem] max2_int min2_int max_two min_two max_three min_three max_four min_four   -- for this text's walks alone
set_option linter.unusedVariables false
set_option linter.unusedSimpArgs false

/-! ### paternosterlaw22_CallsAll: function 6 -/
mutual
def paternosterlaw22_CallsAll.l0 : Nat → Int → Int → Int → Int → Int → List Int → Option (Bool)
  | 0, _, _, _, _, _, _ => none
  | k + 1, x9, x10, x11, x12, x186000, x186001 => if x12 < 70 then ((calls_Calls_Next.f x186000 x186001 0 x9 4294967295).bind fun t187 => (if t187 < 0 then ((calls_Calls_Many.f x186000 x186001).bind fun t188 => (if t188 = 0 then (some (decide (x12 ≤ x10))) else (some false))) else (if 0 < (x186001.length : Int) then (if t187 > 31 then (paternosterlaw22_CallsAll.j1 k x10 x11 x12 t187 ((rd x186001 0) != 0) true x186000 x186001) else (if (rd x186001 0) = 0 then (if (¬ (rd x186001 0) = 0) then (paternosterlaw22_CallsAll.j1 k x10 x11 x12 t187 ((rd x186001 0) != 0) false x186000 x186001) else (paternosterlaw22_CallsAll.j1 k x10 x11 x12 t187 ((rd x186001 0) != 0) (decide (t187 ≤ x11)) x186000 x186001)) else (if 0 ≤ (IntKind.u64.wrap (t187)) then (if (Go.bits .and .u32 (shr .u32 (rd x186001 0) (IntKind.u64.wrap (t187))) 1) = 0 then (paternosterlaw22_CallsAll.j1 k x10 x11 x12 t187 ((rd x186001 0) != 0) true x186000 x186001) else (if (¬ (rd x186001 0) = 0) then (paternosterlaw22_CallsAll.j1 k x10 x11 x12 t187 ((rd x186001 0) != 0) false x186000 x186001) else (paternosterlaw22_CallsAll.j1 k x10 x11 x12 t187 ((rd x186001 0) != 0) (decide (t187 ≤ x11)) x186000 x186001))) else (none)))) else (none)))) else (some false)
def paternosterlaw22_CallsAll.j1 : Nat → Int → Int → Int → Int → Bool → Bool → Int → List Int → Option (Bool)
  | 0, _, _, _, _, _, _, _, _ => none
  | k + 1, x10, x11, x12, x13, x14, x73, x186000, x186001 => if x73 = true then (some false) else (if x14 = true then ((calls_Calls_Done.f x186000 x186001 0 x13 true).bind fun bt191 => (paternosterlaw22_CallsAll.l0 k (wrap64 (8 * x13)) x10 x11 (wrap64 (x12 + 1)) bt191.1 bt191.2)) else ((calls_Calls_Done.f x186000 x186001 0 x13 true).bind fun bt195 => (paternosterlaw22_CallsAll.l0 k (wrap64 (8 * x13)) x10 x13 (wrap64 (x12 + 1)) bt195.1 bt195.2)))
end
def paternosterlaw22_CallsAll.f (k : Nat) (a0 : Int) (a1 : Int) (a2 : Int) : Option (Bool) := (paternosterlaw22_awake.f).bind fun t181 => (if t181 = true then ((some (([a0] : List Int) : List Int)).bind fun y182 => ((calls_Calls_Many.f a1 y182).bind fun t186 => (paternosterlaw22_CallsAll.l0 k (Int.tmod (wrap64 (a2)) 249) t186 (-1) 0 a1 y182))) else (some false))
theorem paternosterlaw22_CallsAll.mono_l : ∀ k, (∀ y0 y1 y2 y3 y4 y5, LeO (paternosterlaw22_CallsAll.l0 k y0 y1 y2 y3 y4 y5) (paternosterlaw22_CallsAll.l0 (k + 1) y0 y1 y2 y3 y4 y5)) ∧ (∀ y0 y1 y2 y3 y4 y5 y6 y7, LeO (paternosterlaw22_CallsAll.j1 k y0 y1 y2 y3 y4 y5 y6 y7) (paternosterlaw22_CallsAll.j1 (k + 1) y0 y1 y2 y3 y4 y5 y6 y7))
  | 0 => ⟨fun _ _ _ _ _ _ r h => by simp [paternosterlaw22_CallsAll.l0] at h, fun _ _ _ _ _ _ _ _ r h => by simp [paternosterlaw22_CallsAll.j1] at h⟩
  | k + 1 => by
    obtain ⟨ih0, ih1⟩ := paternosterlaw22_CallsAll.mono_l k
    refine ⟨?_, ?_⟩
    · intro y0 y1 y2 y3 y4 y5
      unfold paternosterlaw22_CallsAll.l0
      repeat' first
      | (with_reducible exact ih0 _ _ _ _ _ _)
      | (with_reducible exact ih1 _ _ _ _ _ _ _ _)
      | (with_reducible exact LeO.refl _)
      | (with_reducible exact LeO.none _)
      | (with_reducible refine LeO.ite ?_ ?_)
      | (with_reducible refine LeO.bind ?_ (fun _ => ?_))
      | exact ih0 _ _ _ _ _ _
      | exact ih1 _ _ _ _ _ _ _ _
      | exact LeO.none _
      | refine LeO.ite ?_ ?_
      | refine LeO.bind ?_ (fun _ => ?_)
    · intro y0 y1 y2 y3 y4 y5 y6 y7
      unfold paternosterlaw22_CallsAll.j1
      repeat' first
      | (with_reducible exact ih0 _ _ _ _ _ _)
      | (with_reducible exact ih1 _ _ _ _ _ _ _ _)
      | (with_reducible exact LeO.refl _)
      | (with_reducible exact LeO.none _)
      | (with_reducible refine LeO.ite ?_ ?_)
      | (with_reducible refine LeO.bind ?_ (fun _ => ?_))
      | exact ih0 _ _ _ _ _ _
      | exact ih1 _ _ _ _ _ _ _ _
      | exact LeO.none _
      | refine LeO.ite ?_ ?_
      | refine LeO.bind ?_ (fun _ => ?_)
theorem paternosterlaw22_CallsAll.mono : ∀ a0 a1 a2 k, LeO (paternosterlaw22_CallsAll.f k a0 a1 a2) (paternosterlaw22_CallsAll.f (k + 1) a0 a1 a2) := by
  intro a0 a1 a2 k
  obtain ⟨ih0, ih1⟩ := paternosterlaw22_CallsAll.mono_l k
  unfold paternosterlaw22_CallsAll.f
  repeat' first
      | (with_reducible exact ih0 _ _ _ _ _ _)
      | (with_reducible exact ih1 _ _ _ _ _ _ _ _)
      | (with_reducible exact LeO.refl _)
      | (with_reducible exact LeO.none _)
      | (with_reducible refine LeO.ite ?_ ?_)
      | (with_reducible refine LeO.bind ?_ (fun _ => ?_))
      | exact ih0 _ _ _ _ _ _
      | exact ih1 _ _ _ _ _ _ _ _
      | exact LeO.none _
      | refine LeO.ite ?_ ?_
      | refine LeO.bind ?_ (fun _ => ?_)
set_option maxHeartbeats 8000000 in
set_option maxRecDepth 100000 in
theorem paternosterlaw22_CallsAll.calls (k : Nat) (a0 : Int) (a1 : Int) (a2 : Int) (r : Bool) (w : World) (h : paternosterlaw22_CallsAll.f k a0 a1 a2 = some r) (hl_ : PAll.Deb w) :
    Calls Tryd.prog 6 #[.int .u32 a0, .int .u32 a1, .int .u8 a2] w fun e w' => e = .returned (.bool r) ∧ Below w.heap.size w w' := by
  have HLAID := Aside0.mk hl_
  clear hl_
  have hu27 := Tryd.underlying27
  have HB := Aside0.mk (Below.refl w.heap.size w)
  have H : ((paternosterlaw22_awake.f).bind fun t181 => (if t181 = true then ((some (([a0] : List Int) : List Int)).bind fun y182 => ((calls_Calls_Many.f a1 y182).bind fun t186 => (paternosterlaw22_CallsAll.l0 k (Int.tmod (wrap64 (a2)) 249) t186 (-1) 0 a1 y182))) else (some false))) = some r := h
  clear h
  replace H := Option.bind_eq_some_iff.mp H
  obtain ⟨t181, A40, H⟩ := H
  replace H : (if t181 = true then ((some (([a0] : List Int) : List Int)).bind fun y182 => ((calls_Calls_Many.f a1 y182).bind fun t186 => (paternosterlaw22_CallsAll.l0 k (Int.tmod (wrap64 (a2)) 249) t186 (-1) 0 a1 y182))) else (some false)) = some r := H
  have A4 := Aside0.mk A40
  clear A40
  by_cases c5 : t181 = true
  · subst c5
    have H1 : ((some (([a0] : List Int) : List Int)).bind fun y182 => ((calls_Calls_Many.f a1 y182).bind fun t186 => (paternosterlaw22_CallsAll.l0 k (Int.tmod (wrap64 (a2)) 249) t186 (-1) 0 a1 y182))) = some r := by rw [if_pos rfl] at H; exact H
    clear H
    have H := H1
    clear H1
    obtain ⟨y182, hy182⟩ : ∃ y_ : List Int, y_ = (([a0] : List Int)) := ⟨_, rfl⟩
    replace H : ((calls_Calls_Many.f a1 y182).bind fun t186 => (paternosterlaw22_CallsAll.l0 k (Int.tmod (wrap64 (a2)) 249) t186 (-1) 0 a1 y182)) = some r := by first | (rw [hy182]; with_reducible exact H) | (have H2_ := (Option.bind_some _ _).symm.trans H; rw [hy182]; with_reducible exact H2_) | (have H2_ := (Option.bind_some _ _).symm.trans H; with_reducible exact H2_) | with_reducible exact H | (rw [hy182]; exact H) | exact H
    have Ny182 := Aside0.mk hy182
    clear hy182
    replace H := Option.bind_eq_some_iff.mp H
    obtain ⟨t186, A60, H⟩ := H
    replace H : (paternosterlaw22_CallsAll.l0 k (Int.tmod (wrap64 (a2)) 249) t186 (-1) 0 a1 y182) = some r := H
    have A6 := Aside0.mk A60
    clear A60
    have H' := Aside0.mk H
    clear H
    go_enter Tryd.func6, Tryd.ntmps6
    go_wp2_with (first | ((with_reducible refine gate_callee (f := 8) rfl ?_); refine goesL_ (some 15) rfl rfl Tryd.func8 (by kernel_rfl) rfl #[] rfl (by (try simp only [List.map_toArray, List.map_cons, List.map_nil]); first | done | rfl | (simp only [List.length_drop, List.length_take]; rfl)) ?_; (with_reducible refine (paternosterlaw22_awake.calls  true _ A4.out (PAll.Deb.keep HLAID.out (by repeat (first | (with_reducible first | exact HB.out | apply below_alloc | apply pw_below_drewN | apply below_drew1 | refine below_set ?_ (Aside0.out (by assumption))) | exact HB.out | refine below_set ?_ (Aside0.out (by assumption)))))).mono ?_); rintro e w7 ⟨rfl, hb⟩; refine ⟨_, rfl, ?_⟩; have n0_ := Aside0.mk (below_step (by repeat (first | (with_reducible first | exact HB.out | apply below_alloc | apply pw_below_drewN | apply below_drew1) | exact HB.out)) hb); clear HB; have HB := n0_; clear n0_; (try clear hb); (try clear hb2); (try clear hk); (try clear hi)) | ((with_reducible refine gate_dst (N := 20) rfl ?_); refine Kd.R_lit (Kd.int .u32) _ 23 ?hg (N := 20) ?hd (xs := ([a0] : List Int)) (inner := [.int .u32 a0]) (ok := fun _ => True) (okp := fun _ => True) ?hr ?hp (fun _ hk => hk) trivial (Below.refl _ _) (Nat.le_refl _) (by simp) ?_; (case hd => rfl); (case hg => rfl); (case hr => first | (go_simp; done) | (go_simp; rfl)); (case hp => exact (Reps.one (show Kd.M (Kd.int .u32) _ _ _ a0 [.int .u32 a0] from rfl) (Reps.none _ _))); intro v183 w8 ho9 hb hg_ hnew_; clear hg_ hnew_; (first | rw [← Ny182.out] at ho9 | (simp only [Int.reduceToNat] at ho9; rw [← Ny182.out] at ho9)); have n0_ := Aside0.mk (Kd.R_lower ho9 (below_size (by repeat (first | (with_reducible first | exact HB.out | apply below_alloc | apply pw_below_drewN | apply below_drew1) | exact HB.out)))); have n1_ := Aside0.mk (below_step (by repeat (first | (with_reducible first | exact HB.out | apply below_alloc | apply pw_below_drewN | apply below_drew1) | exact HB.out)) hb); clear HB; have HO184 := n0_; have HB := n1_; clear n0_ n1_; clear hb ho9; obtain ⟨Ao10, co10, eo10⟩ := Kd.R_slice HO184.out; subst eo10) | ((with_reducible refine gate_dst (N := 8) rfl ?_); refine box_event ?hg (N := 8) ?hd (cs := #[.int .u32 0, .slice none 0 0]) (t := 27) ?hr ?_; (case hd => rfl); (case hg => rfl); (case hr => first | (go_simp; done) | (go_simp; rfl)); intro gb185 hg w11 hbox hb; have n0_ := Aside0.mk (Kd.R_below (by (with_reducible repeat (first | apply Kd.R_alloc | apply Kd.R_drewN | apply Kd.R_drew)); exact HO184.out) hb); have n1_ := Aside0.mk (below_step (by repeat (first | (with_reducible first | exact HB.out | apply below_alloc | apply pw_below_drewN | apply below_drew1) | exact HB.out)) hb); have n2_ := Aside0.mk (hbox); have n3_ := Aside0.mk ((by rw [hg]; exact (below_size (by repeat (first | (with_reducible first | exact HB.out | apply below_alloc | apply pw_below_drewN | apply below_drew1) | exact HB.out))) : w.heap.size ≤ gb185)); have n4_ := Aside0.mk ((by rw [hg]; exact (below_size (by repeat (first | (with_reducible first | exact HB.out | apply below_alloc | apply pw_below_drewN | apply below_drew1) | exact HB.out))) : w.heap.size ≤ gb185)); clear HO184; clear HB; have HO184 := n0_; have HB := n1_; have BK185 := n2_; have GW185 := n3_; have GE185 := n4_; clear n0_ n1_ n2_ n3_ n4_; clear hb hbox hg; have hcz12_0 : w11.cell? ⟨gb185, 0, none⟩ = some (.int .u32 0) := (blk_cell BK185.out 0).trans rfl; have hcz12_1 : w11.cell? ⟨gb185, 1, none⟩ = some (.slice none 0 0) := (blk_cell BK185.out 1).trans rfl; have hfz12_0 := blk_frozen BK185.out 0; have hfz12_1 := blk_frozen BK185.out 1) | ((with_reducible refine gate_callee (f := 18) rfl ?_); refine goesL_ (some 26) rfl rfl Tryd.func18 (by kernel_rfl) rfl #[.agg #[.int .u32 a1, .slice Ao10 y182.length co10]] rfl (by (try simp only [List.map_toArray, List.map_cons, List.map_nil]); first | done | rfl | (simp only [List.length_drop, List.length_take]; rfl)) ?_; (with_reducible refine (calls_Calls_Many.calls a1 _ _ y182 t186 _ ?side1 ?side2 A6.out).mono ?_); (case side1 => refine (Kd.R_reads' (e := 23) (base := w.heap.size) (ok := fun k_ => True) (n := y182.length) (c := co10) ?_).2.2; exact (by (with_reducible repeat (first | apply Kd.R_alloc | apply Kd.R_drewN | apply Kd.R_drew)); exact (Kd.R_mono (Kd.R_far (p := ⟨gb185, 1, none⟩) (Kd.R_far (p := ⟨gb185, 0, none⟩) (Kd.R_types HO184.out BK185.out (by decide)) (fun _ hk => hk.2) (.int .u32 a1)) (fun _ hk => hk.2) (.slice Ao10 y182.length co10)) (fun _ h_ => h_.1)))); (case side2 => exact (Kd.R_reads' HO184.out).2.1); rintro e w13 ⟨rfl, hb⟩; refine ⟨_, rfl, ?_⟩; have n0_ := Aside0.mk (Kd.R_below (by (with_reducible repeat (first | apply Kd.R_alloc | apply Kd.R_drewN | apply Kd.R_drew)); exact (Kd.R_mono (Kd.R_far (p := ⟨gb185, 1, none⟩) (Kd.R_far (p := ⟨gb185, 0, none⟩) (Kd.R_types HO184.out BK185.out (by decide)) (fun _ hk => hk.2) (.int .u32 a1)) (fun _ hk => hk.2) (.slice Ao10 y182.length co10)) (fun _ h_ => h_.1))) hb); have n1_ := Aside0.mk (blk_below (g := gb185) (o := .cells #[.int .u32 a1, .slice Ao10 y182.length co10] 27 (0, 0)) (by (with_reducible repeat (first | refine blk_drewN ?_ _ | refine blk_drew ?_ | refine blk_alloc ?_ _)); refine blk_put (cs := #[.int .u32 a1, .slice none 0 0]) ?_ 1 _ rfl; (with_reducible repeat (first | refine blk_drewN ?_ _ | refine blk_drew ?_ | refine blk_alloc ?_ _)); refine blk_put (cs := #[.int .u32 0, .slice none 0 0]) ?_ 0 _ rfl; (with_reducible repeat (first | refine blk_drewN ?_ _ | refine blk_drew ?_ | refine blk_alloc ?_ _)); exact BK185.out) hb); have n2_ := Aside0.mk (below_step (by repeat (first | (with_reducible first | exact HB.out | apply below_alloc | apply pw_below_drewN | apply below_drew1 | refine below_set ?_ GE185.out) | exact HB.out)) hb); clear HO184; clear BK185; clear HB; have HO184 := n0_; have BK185 := n1_; have HB := n2_; clear n0_ n1_ n2_; (try clear hb); (try clear hb2); (try clear hk); (try clear hi)))
    go_loopg [9, 11, 12] k (fun kq v9 v11 v12 w' => ∃ (x9_1 : Int) (x11_1 : Int) (x12_1 : Int) (x186000_1 : Int) (x186001_1 : List Int) (u186001 : Value), v9 = .int .i64 x9_1 ∧ v11 = .int .i64 x11_1 ∧ v12 = .int .i64 x12_1 ∧ Aside0 (paternosterlaw22_CallsAll.l0 kq x9_1 t186 x11_1 x12_1 x186000_1 x186001_1 = some r) ∧ Aside0 (kq ≤ k) ∧ Aside0 (Kd.R (Kd.int .u32) 23 w' w.heap.size (fun _ => True) u186001 x186001_1) ∧ Aside0 (w'.heap[gb185]? = some (.cells #[.int .u32 x186000_1, u186001] 27 (0, 0))) ∧ Aside0 (Below w.heap.size w w'))
    case atStart => exact ⟨(Int.tmod (wrap64 (a2)) 249), ((-1)), (0), (a1), (y182), (.slice Ao10 y182.length co10), (by first | rfl | (simp; done) | (simp [*]; done)), (by first | rfl | (simp; done) | (simp [*]; done)), (by first | rfl | (simp; done) | (simp [*]; done)), H', ⟨Nat.le_refl _⟩, ⟨by (with_reducible repeat (first | apply Kd.R_alloc | apply Kd.R_drewN | apply Kd.R_drew)); exact HO184.out⟩, ⟨by (with_reducible repeat (first | refine blk_drewN ?_ _ | refine blk_drew ?_ | refine blk_alloc ?_ _)); exact BK185.out⟩, ⟨by repeat (first | (with_reducible first | exact HB.out | apply below_alloc | apply pw_below_drewN | apply below_drew1 | refine below_set ?_ GE185.out) | exact HB.out)⟩⟩
    case round =>
      clear H'
      try clear c1
      try clear p2
      try clear c5
      try clear c6
      try clear p6
      try clear c8
      try clear hcz12_0
      try clear hcz12_1
      try clear hfz12_0
      try clear hfz12_1
      obtain ⟨x9_1, x11_1, x12_1, x186000_1, x186001_1, u186001, rfl, rfl, rfl, HA, HK1, HO_186001, BK185, HB⟩ := hrel
      cases gk with
      | zero => exact absurd HA.out (by simp [paternosterlaw22_CallsAll.l0])
      | succ k1 =>
        have H := HA.out
        clear HA
        simp only [paternosterlaw22_CallsAll.l0] at H
        by_cases c14 : x12_1 < 70
        · rw [if_pos c14] at H
          have c14b0 : decide (x12_1 < 70) = true := decide_eq_true c14
          clear c14
          replace H := Option.bind_eq_some_iff.mp H
          obtain ⟨t187, A150, H⟩ := H
          replace H : (if t187 < 0 then ((calls_Calls_Many.f x186000_1 x186001_1).bind fun t188 => (if t188 = 0 then (some (decide (x12_1 ≤ t186))) else (some false))) else (if 0 < (x186001_1.length : Int) then (if t187 > 31 then (paternosterlaw22_CallsAll.j1 k1 t186 x11_1 x12_1 t187 ((rd x186001_1 0) != 0) true x186000_1 x186001_1) else (if (rd x186001_1 0) = 0 then (if (¬ (rd x186001_1 0) = 0) then (paternosterlaw22_CallsAll.j1 k1 t186 x11_1 x12_1 t187 ((rd x186001_1 0) != 0) false x186000_1 x186001_1) else (paternosterlaw22_CallsAll.j1 k1 t186 x11_1 x12_1 t187 ((rd x186001_1 0) != 0) (decide (t187 ≤ x11_1)) x186000_1 x186001_1)) else (if 0 ≤ (IntKind.u64.wrap (t187)) then (if (Go.bits .and .u32 (shr .u32 (rd x186001_1 0) (IntKind.u64.wrap (t187))) 1) = 0 then (paternosterlaw22_CallsAll.j1 k1 t186 x11_1 x12_1 t187 ((rd x186001_1 0) != 0) true x186000_1 x186001_1) else (if (¬ (rd x186001_1 0) = 0) then (paternosterlaw22_CallsAll.j1 k1 t186 x11_1 x12_1 t187 ((rd x186001_1 0) != 0) false x186000_1 x186001_1) else (paternosterlaw22_CallsAll.j1 k1 t186 x11_1 x12_1 t187 ((rd x186001_1 0) != 0) (decide (t187 ≤ x11_1)) x186000_1 x186001_1))) else (none)))) else (none))) = some r := H
          have A15 := Aside0.mk A150
          clear A150
          by_cases c16 : t187 < 0
          · rw [if_pos c16] at H
            have c16b0 : decide (t187 < 0) = true := decide_eq_true c16
            clear c16
            replace H := Option.bind_eq_some_iff.mp H
            obtain ⟨t188, A170, H⟩ := H
            replace H : (if t188 = 0 then (some (decide (x12_1 ≤ t186))) else (some false)) = some r := H
            have A17 := Aside0.mk A170
            clear A170
            by_cases c18 : t188 = 0
            · rw [if_pos c18] at H
              have c18b0 : (t188 == 0) = true := beq_iff_eq.mpr c18
              have c18b1 : (t188 != 0) = false := bne_eq_false_iff_eq.mpr c18
              clear c18
              obtain rfl := Option.some.inj H
              have hcz19_0 : wr.cell? ⟨gb185, 0, none⟩ = some (.int .u32 x186000_1) := (blk_cell BK185.out 0).trans rfl
              have hcz19_1 : wr.cell? ⟨gb185, 1, none⟩ = some (u186001) := (blk_cell BK185.out 1).trans rfl
              have hfz19_0 := blk_frozen BK185.out 0
              have hfz19_1 := blk_frozen BK185.out 1
              obtain ⟨Ao20, co20, eo20⟩ := Kd.R_slice HO_186001.out
              subst eo20
              go_wp2_with (first | ((with_reducible refine gate_callee (f := 16) rfl ?_); refine goesL_ (some 33) rfl rfl Tryd.func16 (by kernel_rfl) rfl #[.agg #[.int .u32 x186000_1, .slice Ao20 x186001_1.length co20], .int .i64 0, .int .i64 x9_1, .int .u32 4294967295] rfl (by (try simp only [List.map_toArray, List.map_cons, List.map_nil]); first | done | rfl | (simp only [List.length_drop, List.length_take]; rfl)) ?_; (with_reducible refine (calls_Calls_Next.calls x186000_1 _ _ x186001_1 0 x9_1 4294967295 t187 _ ?side1 ?side2 A15.out (PAll.Deb.keep HLAID.out (by repeat (first | (with_reducible first | exact HB.out | apply below_alloc | apply pw_below_drewN | apply below_drew1 | refine below_set ?_ (Aside0.out (by assumption))) | exact HB.out | refine below_set ?_ (Aside0.out (by assumption)))))).mono ?_); (case side1 => repeat (first | exact (Kd.R_reads' HO_186001.out).2.2 | (with_reducible refine Kd.C_alloc ?_ _) | (with_reducible refine Kd.C_drewN ?_ _) | (with_reducible refine Kd.C_drew ?_))); (case side2 => exact (Kd.R_reads' HO_186001.out).2.1); rintro e w21 ⟨rfl, hb⟩; refine ⟨_, rfl, ?_⟩; have n0_ := Aside0.mk (Kd.R_below (by (with_reducible repeat (first | apply Kd.R_alloc | apply Kd.R_drewN | apply Kd.R_drew)); exact HO_186001.out) hb); have n1_ := Aside0.mk (blk_below (g := gb185) (o := .cells #[.int .u32 x186000_1, .slice Ao20 x186001_1.length co20] 27 (0, 0)) (by (with_reducible repeat (first | refine blk_drewN ?_ _ | refine blk_drew ?_ | refine blk_alloc ?_ _)); exact BK185.out) hb); have n2_ := Aside0.mk (below_step (by repeat (first | (with_reducible first | exact HB.out | apply below_alloc | apply pw_below_drewN | apply below_drew1 | refine below_set ?_ GE185.out) | exact HB.out)) hb); clear HO_186001; clear BK185; clear HB; have HO_186001 := n0_; have BK185 := n1_; have HB := n2_; clear n0_ n1_ n2_; (try clear hb); (try clear hb2); (try clear hk); (try clear hi); have hcz22_0 : w21.cell? ⟨gb185, 0, none⟩ = some (.int .u32 x186000_1) := (blk_cell BK185.out 0).trans rfl; have hcz22_1 : w21.cell? ⟨gb185, 1, none⟩ = some (.slice Ao20 x186001_1.length co20) := (blk_cell BK185.out 1).trans rfl; have hfz22_0 := blk_frozen BK185.out 0; have hfz22_1 := blk_frozen BK185.out 1) | ((with_reducible refine gate_callee (f := 18) rfl ?_); refine goesL_ (some 37) rfl rfl Tryd.func18 (by kernel_rfl) rfl #[.agg #[.int .u32 x186000_1, .slice Ao20 x186001_1.length co20]] rfl (by (try simp only [List.map_toArray, List.map_cons, List.map_nil]); first | done | rfl | (simp only [List.length_drop, List.length_take]; rfl)) ?_; (with_reducible refine (calls_Calls_Many.calls x186000_1 _ _ x186001_1 t188 _ ?side1 ?side2 A17.out).mono ?_); (case side1 => repeat (first | exact (Kd.R_reads' HO_186001.out).2.2 | (with_reducible refine Kd.C_alloc ?_ _) | (with_reducible refine Kd.C_drewN ?_ _) | (with_reducible refine Kd.C_drew ?_))); (case side2 => exact (Kd.R_reads' HO_186001.out).2.1); rintro e w23 ⟨rfl, hb⟩; refine ⟨_, rfl, ?_⟩; have n0_ := Aside0.mk (Kd.R_below (by (with_reducible repeat (first | apply Kd.R_alloc | apply Kd.R_drewN | apply Kd.R_drew)); exact HO_186001.out) hb); have n1_ := Aside0.mk (blk_below (g := gb185) (o := .cells #[.int .u32 x186000_1, .slice Ao20 x186001_1.length co20] 27 (0, 0)) (by (with_reducible repeat (first | refine blk_drewN ?_ _ | refine blk_drew ?_ | refine blk_alloc ?_ _)); exact BK185.out) hb); have n2_ := Aside0.mk (below_step (by repeat (first | (with_reducible first | exact HB.out | apply below_alloc | apply pw_below_drewN | apply below_drew1 | refine below_set ?_ GE185.out) | exact HB.out)) hb); clear HO_186001; clear BK185; clear HB; have HO_186001 := n0_; have BK185 := n1_; have HB := n2_; clear n0_ n1_ n2_; (try clear hb); (try clear hb2); (try clear hk); (try clear hi)))
              go_ret
              exact ⟨by first | rfl | (simp [errW_none, errW_some] <;> rfl) | (simp [*, errW_none, errW_some] <;> rfl), by repeat (first | (with_reducible first | exact HB.out | apply below_alloc | apply pw_below_drewN | apply below_drew1 | refine below_set ?_ GE185.out) | exact HB.out)⟩
            · rw [if_neg c18] at H
              have c18b0 : (t188 == 0) = false := beq_eq_false_iff_ne.mpr c18
              have c18b1 : (t188 != 0) = true := bne_iff_ne.mpr c18
              obtain rfl := Option.some.inj H
              have hcz24_0 : wr.cell? ⟨gb185, 0, none⟩ = some (.int .u32 x186000_1) := (blk_cell BK185.out 0).trans rfl
              have hcz24_1 : wr.cell? ⟨gb185, 1, none⟩ = some (u186001) := (blk_cell BK185.out 1).trans rfl
              have hfz24_0 := blk_frozen BK185.out 0
              have hfz24_1 := blk_frozen BK185.out 1
              obtain ⟨Ao25, co25, eo25⟩ := Kd.R_slice HO_186001.out
              subst eo25
              go_wp2_with (first | ((with_reducible refine gate_callee (f := 16) rfl ?_); refine goesL_ (some 33) rfl rfl Tryd.func16 (by kernel_rfl) rfl #[.agg #[.int .u32 x186000_1, .slice Ao25 x186001_1.length co25], .int .i64 0, .int .i64 x9_1, .int .u32 4294967295] rfl (by (try simp only [List.map_toArray, List.map_cons, List.map_nil]); first | done | rfl | (simp only [List.length_drop, List.length_take]; rfl)) ?_; (with_reducible refine (calls_Calls_Next.calls x186000_1 _ _ x186001_1 0 x9_1 4294967295 t187 _ ?side1 ?side2 A15.out (PAll.Deb.keep HLAID.out (by repeat (first | (with_reducible first | exact HB.out | apply below_alloc | apply pw_below_drewN | apply below_drew1 | refine below_set ?_ (Aside0.out (by assumption))) | exact HB.out | refine below_set ?_ (Aside0.out (by assumption)))))).mono ?_); (case side1 => repeat (first | exact (Kd.R_reads' HO_186001.out).2.2 | (with_reducible refine Kd.C_alloc ?_ _) | (with_reducible refine Kd.C_drewN ?_ _) | (with_reducible refine Kd.C_drew ?_))); (case side2 => exact (Kd.R_reads' HO_186001.out).2.1); rintro e w26 ⟨rfl, hb⟩; refine ⟨_, rfl, ?_⟩; have n0_ := Aside0.mk (Kd.R_below (by (with_reducible repeat (first | apply Kd.R_alloc | apply Kd.R_drewN | apply Kd.R_drew)); exact HO_186001.out) hb); have n1_ := Aside0.mk (blk_below (g := gb185) (o := .cells #[.int .u32 x186000_1, .slice Ao25 x186001_1.length co25] 27 (0, 0)) (by (with_reducible repeat (first | refine blk_drewN ?_ _ | refine blk_drew ?_ | refine blk_alloc ?_ _)); exact BK185.out) hb); have n2_ := Aside0.mk (below_step (by repeat (first | (with_reducible first | exact HB.out | apply below_alloc | apply pw_below_drewN | apply below_drew1 | refine below_set ?_ GE185.out) | exact HB.out)) hb); clear HO_186001; clear BK185; clear HB; have HO_186001 := n0_; have BK185 := n1_; have HB := n2_; clear n0_ n1_ n2_; (try clear hb); (try clear hb2); (try clear hk); (try clear hi); have hcz27_0 : w26.cell? ⟨gb185, 0, none⟩ = some (.int .u32 x186000_1) := (blk_cell BK185.out 0).trans rfl; have hcz27_1 : w26.cell? ⟨gb185, 1, none⟩ = some (.slice Ao25 x186001_1.length co25) := (blk_cell BK185.out 1).trans rfl; have hfz27_0 := blk_frozen BK185.out 0; have hfz27_1 := blk_frozen BK185.out 1) | ((with_reducible refine gate_callee (f := 18) rfl ?_); refine goesL_ (some 37) rfl rfl Tryd.func18 (by kernel_rfl) rfl #[.agg #[.int .u32 x186000_1, .slice Ao25 x186001_1.length co25]] rfl (by (try simp only [List.map_toArray, List.map_cons, List.map_nil]); first | done | rfl | (simp only [List.length_drop, List.length_take]; rfl)) ?_; (with_reducible refine (calls_Calls_Many.calls x186000_1 _ _ x186001_1 t188 _ ?side1 ?side2 A17.out).mono ?_); (case side1 => repeat (first | exact (Kd.R_reads' HO_186001.out).2.2 | (with_reducible refine Kd.C_alloc ?_ _) | (with_reducible refine Kd.C_drewN ?_ _) | (with_reducible refine Kd.C_drew ?_))); (case side2 => exact (Kd.R_reads' HO_186001.out).2.1); rintro e w28 ⟨rfl, hb⟩; refine ⟨_, rfl, ?_⟩; have n0_ := Aside0.mk (Kd.R_below (by (with_reducible repeat (first | apply Kd.R_alloc | apply Kd.R_drewN | apply Kd.R_drew)); exact HO_186001.out) hb); have n1_ := Aside0.mk (blk_below (g := gb185) (o := .cells #[.int .u32 x186000_1, .slice Ao25 x186001_1.length co25] 27 (0, 0)) (by (with_reducible repeat (first | refine blk_drewN ?_ _ | refine blk_drew ?_ | refine blk_alloc ?_ _)); exact BK185.out) hb); have n2_ := Aside0.mk (below_step (by repeat (first | (with_reducible first | exact HB.out | apply below_alloc | apply pw_below_drewN | apply below_drew1 | refine below_set ?_ GE185.out) | exact HB.out)) hb); clear HO_186001; clear BK185; clear HB; have HO_186001 := n0_; have BK185 := n1_; have HB := n2_; clear n0_ n1_ n2_; (try clear hb); (try clear hb2); (try clear hk); (try clear hi)))
              go_ret
              exact ⟨by first | rfl | (simp [errW_none, errW_some] <;> rfl) | (simp [*, errW_none, errW_some] <;> rfl), by repeat (first | (with_reducible first | exact HB.out | apply below_alloc | apply pw_below_drewN | apply below_drew1 | refine below_set ?_ GE185.out) | exact HB.out)⟩
          · rw [if_neg c16] at H
            have c16b0 : decide (t187 < 0) = false := decide_eq_false c16
            clear c16
            by_cases c29 : 0 < (x186001_1.length : Int)
            · rw [if_pos c29] at H
              have c29b0 : decide (0 < (x186001_1.length : Int)) = true := decide_eq_true c29
              have c29b1 : decide (0 < x186001_1.length) = true := decide_eq_true (by omega)
              clear c29
              have HC30 := Aside0.mk H
              clear H
              have hcz31_0 : wr.cell? ⟨gb185, 0, none⟩ = some (.int .u32 x186000_1) := (blk_cell BK185.out 0).trans rfl
              have hcz31_1 : wr.cell? ⟨gb185, 1, none⟩ = some (u186001) := (blk_cell BK185.out 1).trans rfl
              have hfz31_0 := blk_frozen BK185.out 0
              have hfz31_1 := blk_frozen BK185.out 1
              obtain ⟨Ao32, co32, eo32⟩ := Kd.R_slice HO_186001.out
              subst eo32
              go_upto_region 15 with (first | ((with_reducible refine gate_callee (f := 16) rfl ?_); refine goesL_ (some 33) rfl rfl Tryd.func16 (by kernel_rfl) rfl #[.agg #[.int .u32 x186000_1, .slice Ao32 x186001_1.length co32], .int .i64 0, .int .i64 x9_1, .int .u32 4294967295] rfl (by (try simp only [List.map_toArray, List.map_cons, List.map_nil]); first | done | rfl | (simp only [List.length_drop, List.length_take]; rfl)) ?_; (with_reducible refine (calls_Calls_Next.calls x186000_1 _ _ x186001_1 0 x9_1 4294967295 t187 _ ?side1 ?side2 A15.out (PAll.Deb.keep HLAID.out (by repeat (first | (with_reducible first | exact HB.out | apply below_alloc | apply pw_below_drewN | apply below_drew1 | refine below_set ?_ (Aside0.out (by assumption))) | exact HB.out | refine below_set ?_ (Aside0.out (by assumption)))))).mono ?_); (case side1 => repeat (first | exact (Kd.R_reads' HO_186001.out).2.2 | (with_reducible refine Kd.C_alloc ?_ _) | (with_reducible refine Kd.C_drewN ?_ _) | (with_reducible refine Kd.C_drew ?_))); (case side2 => exact (Kd.R_reads' HO_186001.out).2.1); rintro e w33 ⟨rfl, hb⟩; refine ⟨_, rfl, ?_⟩; have n0_ := Aside0.mk (Kd.R_below (by (with_reducible repeat (first | apply Kd.R_alloc | apply Kd.R_drewN | apply Kd.R_drew)); exact HO_186001.out) hb); have n1_ := Aside0.mk (blk_below (g := gb185) (o := .cells #[.int .u32 x186000_1, .slice Ao32 x186001_1.length co32] 27 (0, 0)) (by (with_reducible repeat (first | refine blk_drewN ?_ _ | refine blk_drew ?_ | refine blk_alloc ?_ _)); exact BK185.out) hb); have n2_ := Aside0.mk (below_step (by repeat (first | (with_reducible first | exact HB.out | apply below_alloc | apply pw_below_drewN | apply below_drew1 | refine below_set ?_ GE185.out) | exact HB.out)) hb); clear HO_186001; clear BK185; clear HB; have HO_186001 := n0_; have BK185 := n1_; have HB := n2_; clear n0_ n1_ n2_; (try clear hb); (try clear hb2); (try clear hk); (try clear hi); have hcz34_0 : w33.cell? ⟨gb185, 0, none⟩ = some (.int .u32 x186000_1) := (blk_cell BK185.out 0).trans rfl; have hcz34_1 : w33.cell? ⟨gb185, 1, none⟩ = some (.slice Ao32 x186001_1.length co32) := (blk_cell BK185.out 1).trans rfl; have hfz34_0 := blk_frozen BK185.out 0; have hfz34_1 := blk_frozen BK185.out 1; have p189 : 0 ≤ (0 : Int) := (by omega); have q189 : 0 < (x186001_1.length : Int) := of_decide_eq_true (by first | (with_reducible assumption) | assumption); obtain ⟨ad189, e189, hx189_0⟩ := Kd.at_int (Kd.R_reads' HO_186001.out).2.2 0 p189 q189; cases e189; have qi189 : (0 < x186001_1.length) = True := eq_true (by omega); (try rw [show ((0 : Int)).toNat = 0 from rfl] at hx189_0); (try rw [Addr.add_zero'] at hx189_0); replace p189 := eq_true p189; replace q189 := eq_true q189))
              (try simp only [Act.put, List.setIfInBounds_toArray, List.set_cons_zero, List.set_cons_succ])
              go_cut [73] (fun v73 wc => ∃ (kq : Nat) (x73_29 : Bool), v73 = .bool x73_29 ∧ Aside0 (paternosterlaw22_CallsAll.j1 kq t186 x11_1 x12_1 t187 ((rd x186001_1 0) != 0) x73_29 x186000_1 x186001_1 = some r) ∧ Aside0 (kq ≤ k1) ∧ Aside0 (Kd.R (Kd.int .u32) 23 wc w.heap.size (fun _ => True) (.slice (some ad189) x186001_1.length co32) x186001_1) ∧ Aside0 (wc.heap[gb185]? = some (.cells #[.int .u32 x186000_1, (.slice (some ad189) x186001_1.length co32)] 27 (0, 0))) ∧ Aside0 (Below w.heap.size w wc))
              case first =>
                have H := HC30.out
                clear HC30
                by_cases c35 : t187 > 31
                · rw [if_pos c35] at H
                  have c35b0 : decide (31 < t187) = true := decide_eq_true c35
                  clear c35
                  (first | rw [c35b0] | (simp only [i64_w, i32_w]; rw [c35b0]) | skip)
                  have H' := Aside0.mk H
                  clear H
                  go_wp2
                  go_meet
                  case rel => exact ⟨_, (true), (by first | rfl | (simp; done) | (simp [*]; done)), H', ⟨by have := HK1.out; first | omega | exact Nat.le_refl _⟩, ⟨by (with_reducible repeat (first | apply Kd.R_alloc | apply Kd.R_drewN | apply Kd.R_drew)); exact HO_186001.out⟩, ⟨by (with_reducible repeat (first | refine blk_drewN ?_ _ | refine blk_drew ?_ | refine blk_alloc ?_ _)); exact BK185.out⟩, ⟨by repeat (first | (with_reducible first | exact HB.out | apply below_alloc | apply pw_below_drewN | apply below_drew1 | refine below_set ?_ GE185.out) | exact HB.out)⟩⟩
                · rw [if_neg c35] at H
                  have c35b0 : decide (31 < t187) = false := decide_eq_false c35
                  clear c35
                  (first | rw [c35b0] | (simp only [i64_w, i32_w]; rw [c35b0]) | skip)
                  by_cases c36 : (rd x186001_1 0) = 0
                  · rw [if_pos c36] at H
                    have c36b0 : ((rd x186001_1 0) == 0) = true := beq_iff_eq.mpr c36
                    have c36b1 : ((rd x186001_1 0) != 0) = false := bne_eq_false_iff_eq.mpr c36
                    clear c36
                    by_cases c37 : (¬ (rd x186001_1 0) = 0)
                    · exact absurd (by simpa using c36b0) c37
                    · rw [if_neg c37] at H
                      have H' := Aside0.mk H
                      clear H
                      go_wp2
                      refine Met.intro ?_
                      go_step
                      (repeat apply Exists.intro)
                      refine ⟨?rel, ?q_⟩
                      case q_ => (first | rfl | (rw [c36b1]; done) | (rw [c36b1]; rfl))
                      case rel => exact ⟨_, (decide (t187 ≤ x11_1)), (by first | rfl | (simp; done) | (simp [*]; done)), H', ⟨by have := HK1.out; first | omega | exact Nat.le_refl _⟩, ⟨by (with_reducible repeat (first | apply Kd.R_alloc | apply Kd.R_drewN | apply Kd.R_drew)); exact HO_186001.out⟩, ⟨by (with_reducible repeat (first | refine blk_drewN ?_ _ | refine blk_drew ?_ | refine blk_alloc ?_ _)); exact BK185.out⟩, ⟨by repeat (first | (with_reducible first | exact HB.out | apply below_alloc | apply pw_below_drewN | apply below_drew1 | refine below_set ?_ GE185.out) | exact HB.out)⟩⟩
                  · rw [if_neg c36] at H
                    have c36b0 : ((rd x186001_1 0) == 0) = false := beq_eq_false_iff_ne.mpr c36
                    have c36b1 : ((rd x186001_1 0) != 0) = true := bne_iff_ne.mpr c36
                    obtain ⟨ji38, hji38⟩ : ∃ j_ : Int, (IntKind.u64.wrap (t187)) = j_ := ⟨_, rfl⟩
                    replace H : (if 0 ≤ (ji38) then (if (Go.bits .and .u32 (shr .u32 (rd x186001_1 0) (ji38)) 1) = 0 then (paternosterlaw22_CallsAll.j1 k1 t186 x11_1 x12_1 t187 ((rd x186001_1 0) != 0) true x186000_1 x186001_1) else (if (¬ (rd x186001_1 0) = 0) then (paternosterlaw22_CallsAll.j1 k1 t186 x11_1 x12_1 t187 ((rd x186001_1 0) != 0) false x186000_1 x186001_1) else (paternosterlaw22_CallsAll.j1 k1 t186 x11_1 x12_1 t187 ((rd x186001_1 0) != 0) (decide (t187 ≤ x11_1)) x186000_1 x186001_1))) else (none)) = some r := by first | (rw [hji38] at H; exact H) | (simp only [hji38] at H ⊢; exact H)
                    by_cases c39 : 0 ≤ (ji38)
                    · rw [if_pos c39] at H
                      have c39b0 := eq_true c39
                      have c39b1 : decide (0 ≤ (ji38)) = true := decide_eq_true c39
                      clear c39
                      obtain ⟨ji40, hji40⟩ : ∃ j_ : Int, (shr .u32 (rd x186001_1 0) (ji38)) = j_ := ⟨_, rfl⟩
                      replace H : (if (Go.bits .and .u32 (ji40) 1) = 0 then (paternosterlaw22_CallsAll.j1 k1 t186 x11_1 x12_1 t187 ((rd x186001_1 0) != 0) true x186000_1 x186001_1) else (if (¬ (rd x186001_1 0) = 0) then (paternosterlaw22_CallsAll.j1 k1 t186 x11_1 x12_1 t187 ((rd x186001_1 0) != 0) false x186000_1 x186001_1) else (paternosterlaw22_CallsAll.j1 k1 t186 x11_1 x12_1 t187 ((rd x186001_1 0) != 0) (decide (t187 ≤ x11_1)) x186000_1 x186001_1))) = some r := by first | (rw [hji40] at H; exact H) | (simp only [hji40] at H ⊢; exact H)
                      have hji40_ : ((rd x186001_1 0) / 2 ^ min (ji38).toNat 32) = ji40 := hji40
                      have hji40z : (ji38) ≤ 32 → ((rd x186001_1 0) / 2 ^ (ji38).toNat) = ji40 := shr_small hji40
                      by_cases c41 : (Go.bits .and .u32 (ji40) 1) = 0
                      · rw [if_pos c41] at H
                        have c41b0 : ((Go.bits .and .u32 (ji40) 1) == 0) = true := beq_iff_eq.mpr c41
                        have c41b1 : ((Go.bits .and .u32 (ji40) 1) != 0) = false := bne_eq_false_iff_eq.mpr c41
                        clear c41
                        have H' := Aside0.mk H
                        clear H
                        have hcz42_0 : w33.cell? ⟨gb185, 0, none⟩ = some (.int .u32 x186000_1) := (blk_cell BK185.out 0).trans rfl
                        have hcz42_1 : w33.cell? ⟨gb185, 1, none⟩ = some (.slice (some ad189) x186001_1.length co32) := (blk_cell BK185.out 1).trans rfl
                        have hfz42_0 := blk_frozen BK185.out 0
                        have hfz42_1 := blk_frozen BK185.out 1
                        have p190 : 0 ≤ (0 : Int) := (by omega)
                        have q190 : 0 < (x186001_1.length : Int) := of_decide_eq_true (by first | (with_reducible assumption) | assumption)
                        obtain ⟨ad190, e190, hx190_0⟩ := Kd.at_int (Kd.R_reads' HO_186001.out).2.2 0 p190 q190
                        obtain rfl : ad189 = ad190 := (by injection e190)
                        have qi190 : (0 < x186001_1.length) = True := eq_true (by omega)
                        (try rw [show ((0 : Int)).toNat = 0 from rfl] at hx190_0)
                        (try rw [Addr.add_zero'] at hx190_0)
                        replace p190 := eq_true p190
                        replace q190 := eq_true q190
                        go_wp2
                        refine Met.intro ?_
                        go_step
                        (repeat apply Exists.intro)
                        refine ⟨?rel, ?q_⟩
                        case q_ => (first | rfl | (rw [c36b1]; done) | (rw [c36b1]; rfl))
                        case rel => exact ⟨_, (true), (by first | rfl | (simp; done) | (simp [*]; done)), H', ⟨by have := HK1.out; first | omega | exact Nat.le_refl _⟩, ⟨by (with_reducible repeat (first | apply Kd.R_alloc | apply Kd.R_drewN | apply Kd.R_drew)); exact HO_186001.out⟩, ⟨by (with_reducible repeat (first | refine blk_drewN ?_ _ | refine blk_drew ?_ | refine blk_alloc ?_ _)); exact BK185.out⟩, ⟨by repeat (first | (with_reducible first | exact HB.out | apply below_alloc | apply pw_below_drewN | apply below_drew1 | refine below_set ?_ GE185.out) | exact HB.out)⟩⟩
                      · rw [if_neg c41] at H
                        have c41b0 : ((Go.bits .and .u32 (ji40) 1) == 0) = false := beq_eq_false_iff_ne.mpr c41
                        have c41b1 : ((Go.bits .and .u32 (ji40) 1) != 0) = true := bne_iff_ne.mpr c41
                        by_cases c43 : (¬ (rd x186001_1 0) = 0)
                        · rw [if_pos c43] at H
                          clear c43
                          have H' := Aside0.mk H
                          clear H
                          have hcz44_0 : w33.cell? ⟨gb185, 0, none⟩ = some (.int .u32 x186000_1) := (blk_cell BK185.out 0).trans rfl
                          have hcz44_1 : w33.cell? ⟨gb185, 1, none⟩ = some (.slice (some ad189) x186001_1.length co32) := (blk_cell BK185.out 1).trans rfl
                          have hfz44_0 := blk_frozen BK185.out 0
                          have hfz44_1 := blk_frozen BK185.out 1
                          have p190 : 0 ≤ (0 : Int) := (by omega)
                          have q190 : 0 < (x186001_1.length : Int) := of_decide_eq_true (by first | (with_reducible assumption) | assumption)
                          obtain ⟨ad190, e190, hx190_0⟩ := Kd.at_int (Kd.R_reads' HO_186001.out).2.2 0 p190 q190
                          obtain rfl : ad189 = ad190 := (by injection e190)
                          have qi190 : (0 < x186001_1.length) = True := eq_true (by omega)
                          (try rw [show ((0 : Int)).toNat = 0 from rfl] at hx190_0)
                          (try rw [Addr.add_zero'] at hx190_0)
                          replace p190 := eq_true p190
                          replace q190 := eq_true q190
                          go_wp2
                          refine Met.intro ?_
                          go_step
                          (repeat apply Exists.intro)
                          refine ⟨?rel, ?q_⟩
                          case q_ => (first | rfl | (rw [c36b1]; done) | (rw [c36b1]; rfl))
                          case rel => exact ⟨_, (false), (by first | rfl | (simp; done) | (simp [*]; done)), H', ⟨by have := HK1.out; first | omega | exact Nat.le_refl _⟩, ⟨by (with_reducible repeat (first | apply Kd.R_alloc | apply Kd.R_drewN | apply Kd.R_drew)); exact HO_186001.out⟩, ⟨by (with_reducible repeat (first | refine blk_drewN ?_ _ | refine blk_drew ?_ | refine blk_alloc ?_ _)); exact BK185.out⟩, ⟨by repeat (first | (with_reducible first | exact HB.out | apply below_alloc | apply pw_below_drewN | apply below_drew1 | refine below_set ?_ GE185.out) | exact HB.out)⟩⟩
                        · exact absurd (by simpa using c36b0) c43
                    · rw [if_neg c39] at H
                      exact absurd H (by simp)
              case rest =>
                clear HC30
                try clear c1
                try clear p1
                try clear q1
                try clear hx1
                try clear qi1
                try clear c2
                try clear p2
                try clear c3
                try clear c4
                try clear c5
                try clear c6
                try clear p6
                try clear c8
                try clear c14
                try clear c14b0
                try clear c16
                try clear c16b0
                try clear c18
                try clear c18b0
                try clear c18b1
                try clear p18
                try clear q18
                try clear hx18
                try clear qi18
                try clear p19
                try clear q19
                try clear hx19
                try clear qi19
                try clear c29
                try clear c29b0
                try clear c29b1
                try clear c35
                try clear c35b0
                try clear c36
                try clear c36b0
                try clear c36b1
                try clear c37
                try clear c37b0
                try clear c37b1
                try clear c39
                try clear c39b0
                try clear c39b1
                try clear c41
                try clear c41b0
                try clear c41b1
                try clear c43
                try clear c43b0
                try clear c43b1
                try clear hcz12_0
                try clear hcz12_1
                try clear hcz19_0
                try clear hcz19_1
                try clear hcz22_0
                try clear hcz22_1
                try clear hcz24_0
                try clear hcz24_1
                try clear hcz27_0
                try clear hcz27_1
                try clear hcz31_0
                try clear hcz31_1
                try clear hcz34_0
                try clear hcz34_1
                try clear hcz42_0
                try clear hcz42_1
                try clear hcz44_0
                try clear hcz44_1
                try clear hcz45_0
                try clear hcz45_1
                try clear hfz12_0
                try clear hfz12_1
                try clear hfz19_0
                try clear hfz19_1
                try clear hfz22_0
                try clear hfz22_1
                try clear hfz24_0
                try clear hfz24_1
                try clear hfz27_0
                try clear hfz27_1
                try clear hfz31_0
                try clear hfz31_1
                try clear hfz34_0
                try clear hfz34_1
                try clear hfz42_0
                try clear hfz42_1
                try clear hfz44_0
                try clear hfz44_1
                try clear hfz45_0
                try clear hfz45_1
                try clear hx189_0
                try clear hx190_0
                try clear p189
                try clear p190
                try clear p2
                try clear p6
                try clear q189
                try clear q190
                obtain ⟨kq, x73_29, rfl, HA, HJ29, HO_186001, BK185, HB⟩ := hcut
                cases kq with
                | zero => exact absurd HA.out (by simp [paternosterlaw22_CallsAll.j1])
                | succ kj29 =>
                  have H := HA.out
                  clear HA
                  simp only [paternosterlaw22_CallsAll.j1] at H
                  by_cases c46 : x73_29 = true
                  · subst c46
                    have H1 : (some false) = some r := by rw [if_pos rfl] at H; exact H
                    clear H
                    have H := H1
                    clear H1
                    obtain rfl := Option.some.inj H
                    go_wp2
                    go_ret
                    exact ⟨by first | rfl | (simp [errW_none, errW_some] <;> rfl) | (simp [*, errW_none, errW_some] <;> rfl), by repeat (first | (with_reducible first | exact HB.out | apply below_alloc | apply pw_below_drewN | apply below_drew1 | refine below_set ?_ GE185.out) | exact HB.out)⟩
                  · replace c46 := Bool.eq_false_iff.mpr c46
                    subst c46
                    have H1 : (if ((rd x186001_1 0) != 0) = true then ((calls_Calls_Done.f x186000_1 x186001_1 0 t187 true).bind fun bt191 => (paternosterlaw22_CallsAll.l0 kj29 (wrap64 (8 * t187)) t186 x11_1 (wrap64 (x12_1 + 1)) bt191.1 bt191.2)) else ((calls_Calls_Done.f x186000_1 x186001_1 0 t187 true).bind fun bt195 => (paternosterlaw22_CallsAll.l0 kj29 (wrap64 (8 * t187)) t186 t187 (wrap64 (x12_1 + 1)) bt195.1 bt195.2))) = some r := by rw [if_neg (show ¬ (false = true) by decide)] at H; exact H
                    clear H
                    have H := H1
                    clear H1
                    by_cases c47 : ((rd x186001_1 0) != 0) = true
                    · rw [if_pos c47] at H
                      have c47b0 : ((rd x186001_1 0) != 0) = true := c47
                      (try (have c47b1 : decide ((rd x186001_1 0) = 0) = false := by simpa using c47))
                      (try (have c47b2 : ((rd x186001_1 0) == 0) = false := by simpa using c47))
                      (try (have c47b3 : ¬ ((rd x186001_1 0) = 0) := by simpa using c47))
                      clear c47
                      replace H := Option.bind_eq_some_iff.mp H
                      obtain ⟨⟨t191, t192⟩, A480, H⟩ := H
                      replace H : (paternosterlaw22_CallsAll.l0 kj29 (wrap64 (8 * t187)) t186 x11_1 (wrap64 (x12_1 + 1)) t191 t192) = some r := H
                      have A48 := Aside0.mk A480
                      clear A480
                      have H' := Aside0.mk H
                      clear H
                      have hcz49_0 : wc.cell? ⟨gb185, 0, none⟩ = some (.int .u32 x186000_1) := (blk_cell BK185.out 0).trans rfl
                      have hcz49_1 : wc.cell? ⟨gb185, 1, none⟩ = some (.slice (some ad189) x186001_1.length co32) := (blk_cell BK185.out 1).trans rfl
                      have hfz49_0 := blk_frozen BK185.out 0
                      have hfz49_1 := blk_frozen BK185.out 1
                      go_wp2_with (first | ((with_reducible refine gate_callee (f := 14) rfl ?_); refine goesL_ (some 79) rfl rfl Tryd.func14 (by kernel_rfl) rfl #[.agg #[.int .u32 x186000_1, .slice (some ad189) x186001_1.length co32], .int .i64 0, .int .i64 t187, .bool true] rfl (by (try simp only [List.map_toArray, List.map_cons, List.map_nil]); first | done | rfl | (simp only [List.length_drop, List.length_take]; rfl)) ?_; (with_reducible refine (calls_Calls_Done.calls x186000_1 _ _ x186001_1 0 t187 true t191 t192 _ ?side1 ?side2 A48.out).mono ?_); (case side1 => repeat (first | exact (Kd.R_reads' HO_186001.out).2.2 | (with_reducible refine Kd.C_alloc ?_ _) | (with_reducible refine Kd.C_drewN ?_ _) | (with_reducible refine Kd.C_drew ?_))); (case side2 => exact (Kd.R_reads' HO_186001.out).2.1); rintro e w50 ⟨v193, rfl, ho0, hb⟩; refine ⟨_, rfl, ?_⟩; have n0_ := Aside0.mk (Kd.R_elder' (by (with_reducible repeat (first | apply Kd.R_alloc | apply Kd.R_drewN | apply Kd.R_drew)); exact HO_186001.out) (Kd.R_base ho0) hb); have n1_ := Aside0.mk (Kd.R_lower (Kd.R_new' ho0 (Kd.R_lt (by (with_reducible repeat (first | apply Kd.R_alloc | apply Kd.R_drewN | apply Kd.R_drew)); exact HO_186001.out))) (below_size (by repeat (first | (with_reducible first | exact HB.out | apply below_alloc | apply pw_below_drewN | apply below_drew1 | refine below_set ?_ GE185.out) | exact HB.out)))); have n2_ := Aside0.mk (blk_below (g := gb185) (o := .cells #[.int .u32 x186000_1, .slice (some ad189) x186001_1.length co32] 27 (0, 0)) (by (with_reducible repeat (first | refine blk_drewN ?_ _ | refine blk_drew ?_ | refine blk_alloc ?_ _)); exact BK185.out) hb); have n3_ := Aside0.mk (below_step (by repeat (first | (with_reducible first | exact HB.out | apply below_alloc | apply pw_below_drewN | apply below_drew1 | refine below_set ?_ GE185.out) | exact HB.out)) hb); clear HO_186001; clear BK185; clear HB; have HO_186001 := n0_; have HO194 := n1_; have BK185 := n2_; have HB := n3_; clear n0_ n1_ n2_ n3_; (try clear hb); (try clear hb2); (try clear hk); (try clear hi); (try clear ho0); have hcz51_0 : w50.cell? ⟨gb185, 0, none⟩ = some (.int .u32 x186000_1) := (blk_cell BK185.out 0).trans rfl; have hcz51_1 : w50.cell? ⟨gb185, 1, none⟩ = some (.slice (some ad189) x186001_1.length co32) := (blk_cell BK185.out 1).trans rfl; have hfz51_0 := blk_frozen BK185.out 0; have hfz51_1 := blk_frozen BK185.out 1; obtain ⟨Ao52, co52, eo52⟩ := Kd.R_slice HO194.out; subst eo52))
                      go_roundg kj29
                      case measure => have := HK1.out; have := HJ29.out; omega
                      case rel => exact ⟨(wrap64 (8 * t187)), (x11_1), (wrap64 (x12_1 + 1)), (t191), (t192), (.slice Ao52 t192.length co52), (by first | rfl | (simp; done) | (simp [*]; done)), (by first | rfl | (simp; done) | (simp [*]; done)), (by first | rfl | (simp; done) | (simp [*]; done)), H', ⟨by have := HK1.out; have := HJ29.out; omega⟩, ⟨by (with_reducible repeat (first | apply Kd.R_alloc | apply Kd.R_drewN | apply Kd.R_drew)); exact Kd.R_mono (Kd.R_far (p := ⟨gb185, 1, none⟩) (Kd.R_far (p := ⟨gb185, 0, none⟩) (Kd.R_types HO194.out BK185.out (by decide)) (fun _ hk => hk.2) (.int .u32 t191)) (fun _ hk => hk.2) (.slice Ao52 t192.length co52)) (fun _ hk => trivial)⟩, ⟨by (with_reducible repeat (first | refine blk_drewN ?_ _ | refine blk_drew ?_ | refine blk_alloc ?_ _)); refine blk_put (cs := #[.int .u32 t191, .slice (some ad189) x186001_1.length co32]) ?_ 1 _ rfl; (with_reducible repeat (first | refine blk_drewN ?_ _ | refine blk_drew ?_ | refine blk_alloc ?_ _)); refine blk_put (cs := #[.int .u32 x186000_1, .slice (some ad189) x186001_1.length co32]) ?_ 0 _ rfl; (with_reducible repeat (first | refine blk_drewN ?_ _ | refine blk_drew ?_ | refine blk_alloc ?_ _)); exact BK185.out⟩, ⟨by repeat (first | (with_reducible first | exact HB.out | apply below_alloc | apply pw_below_drewN | apply below_drew1 | refine below_set ?_ GE185.out) | exact HB.out)⟩⟩
                    · rw [if_neg c47] at H
                      have c47b0 : ((rd x186001_1 0) != 0) = false := by simpa using c47
                      (try (have c47b1 : decide ((rd x186001_1 0) = 0) = true := by simpa using c47))
                      (try (have c47b2 : ((rd x186001_1 0) == 0) = true := by simpa using c47))
                      clear c47
                      replace H := Option.bind_eq_some_iff.mp H
                      obtain ⟨⟨t195, t196⟩, A530, H⟩ := H
                      replace H : (paternosterlaw22_CallsAll.l0 kj29 (wrap64 (8 * t187)) t186 t187 (wrap64 (x12_1 + 1)) t195 t196) = some r := H
                      have A53 := Aside0.mk A530
                      clear A530
                      have H' := Aside0.mk H
                      clear H
                      have hcz54_0 : wc.cell? ⟨gb185, 0, none⟩ = some (.int .u32 x186000_1) := (blk_cell BK185.out 0).trans rfl
                      have hcz54_1 : wc.cell? ⟨gb185, 1, none⟩ = some (.slice (some ad189) x186001_1.length co32) := (blk_cell BK185.out 1).trans rfl
                      have hfz54_0 := blk_frozen BK185.out 0
                      have hfz54_1 := blk_frozen BK185.out 1
                      go_wp2_with (first | ((with_reducible refine gate_callee (f := 14) rfl ?_); refine goesL_ (some 79) rfl rfl Tryd.func14 (by kernel_rfl) rfl #[.agg #[.int .u32 x186000_1, .slice (some ad189) x186001_1.length co32], .int .i64 0, .int .i64 t187, .bool true] rfl (by (try simp only [List.map_toArray, List.map_cons, List.map_nil]); first | done | rfl | (simp only [List.length_drop, List.length_take]; rfl)) ?_; (with_reducible refine (calls_Calls_Done.calls x186000_1 _ _ x186001_1 0 t187 true t195 t196 _ ?side1 ?side2 A53.out).mono ?_); (case side1 => repeat (first | exact (Kd.R_reads' HO_186001.out).2.2 | (with_reducible refine Kd.C_alloc ?_ _) | (with_reducible refine Kd.C_drewN ?_ _) | (with_reducible refine Kd.C_drew ?_))); (case side2 => exact (Kd.R_reads' HO_186001.out).2.1); rintro e w55 ⟨v197, rfl, ho0, hb⟩; refine ⟨_, rfl, ?_⟩; have n0_ := Aside0.mk (Kd.R_elder' (by (with_reducible repeat (first | apply Kd.R_alloc | apply Kd.R_drewN | apply Kd.R_drew)); exact HO_186001.out) (Kd.R_base ho0) hb); have n1_ := Aside0.mk (Kd.R_lower (Kd.R_new' ho0 (Kd.R_lt (by (with_reducible repeat (first | apply Kd.R_alloc | apply Kd.R_drewN | apply Kd.R_drew)); exact HO_186001.out))) (below_size (by repeat (first | (with_reducible first | exact HB.out | apply below_alloc | apply pw_below_drewN | apply below_drew1 | refine below_set ?_ GE185.out) | exact HB.out)))); have n2_ := Aside0.mk (blk_below (g := gb185) (o := .cells #[.int .u32 x186000_1, .slice (some ad189) x186001_1.length co32] 27 (0, 0)) (by (with_reducible repeat (first | refine blk_drewN ?_ _ | refine blk_drew ?_ | refine blk_alloc ?_ _)); exact BK185.out) hb); have n3_ := Aside0.mk (below_step (by repeat (first | (with_reducible first | exact HB.out | apply below_alloc | apply pw_below_drewN | apply below_drew1 | refine below_set ?_ GE185.out) | exact HB.out)) hb); clear HO_186001; clear BK185; clear HB; have HO_186001 := n0_; have HO198 := n1_; have BK185 := n2_; have HB := n3_; clear n0_ n1_ n2_ n3_; (try clear hb); (try clear hb2); (try clear hk); (try clear hi); (try clear ho0); have hcz56_0 : w55.cell? ⟨gb185, 0, none⟩ = some (.int .u32 x186000_1) := (blk_cell BK185.out 0).trans rfl; have hcz56_1 : w55.cell? ⟨gb185, 1, none⟩ = some (.slice (some ad189) x186001_1.length co32) := (blk_cell BK185.out 1).trans rfl; have hfz56_0 := blk_frozen BK185.out 0; have hfz56_1 := blk_frozen BK185.out 1; obtain ⟨Ao57, co57, eo57⟩ := Kd.R_slice HO198.out; subst eo57))
                      go_roundg kj29
                      case measure => have := HK1.out; have := HJ29.out; omega
                      case rel => exact ⟨(wrap64 (8 * t187)), (t187), (wrap64 (x12_1 + 1)), (t195), (t196), (.slice Ao57 t196.length co57), (by first | rfl | (simp; done) | (simp [*]; done)), (by first | rfl | (simp; done) | (simp [*]; done)), (by first | rfl | (simp; done) | (simp [*]; done)), H', ⟨by have := HK1.out; have := HJ29.out; omega⟩, ⟨by (with_reducible repeat (first | apply Kd.R_alloc | apply Kd.R_drewN | apply Kd.R_drew)); exact Kd.R_mono (Kd.R_far (p := ⟨gb185, 1, none⟩) (Kd.R_far (p := ⟨gb185, 0, none⟩) (Kd.R_types HO198.out BK185.out (by decide)) (fun _ hk => hk.2) (.int .u32 t195)) (fun _ hk => hk.2) (.slice Ao57 t196.length co57)) (fun _ hk => trivial)⟩, ⟨by (with_reducible repeat (first | refine blk_drewN ?_ _ | refine blk_drew ?_ | refine blk_alloc ?_ _)); refine blk_put (cs := #[.int .u32 t195, .slice (some ad189) x186001_1.length co32]) ?_ 1 _ rfl; (with_reducible repeat (first | refine blk_drewN ?_ _ | refine blk_drew ?_ | refine blk_alloc ?_ _)); refine blk_put (cs := #[.int .u32 x186000_1, .slice (some ad189) x186001_1.length co32]) ?_ 0 _ rfl; (with_reducible repeat (first | refine blk_drewN ?_ _ | refine blk_drew ?_ | refine blk_alloc ?_ _)); exact BK185.out⟩, ⟨by repeat (first | (with_reducible first | exact HB.out | apply below_alloc | apply pw_below_drewN | apply below_drew1 | refine below_set ?_ GE185.out) | exact HB.out)⟩⟩
            · rw [if_neg c29] at H
              exact absurd H (by simp)
        · rw [if_neg c14] at H
          have c14b0 : decide (x12_1 < 70) = false := decide_eq_false c14
          clear c14
          obtain rfl := Option.some.inj H
          go_wp2
          go_ret
          exact ⟨by first | rfl | (simp [errW_none, errW_some] <;> rfl) | (simp [*, errW_none, errW_some] <;> rfl), by repeat (first | (with_reducible first | exact HB.out | apply below_alloc | apply pw_below_drewN | apply below_drew1 | refine below_set ?_ GE185.out) | exact HB.out)⟩
  · replace c5 := Bool.eq_false_iff.mpr c5
    subst c5
    have H1 : (some false) = some r := by rw [if_neg (show ¬ (false = true) by decide)] at H; exact H
    clear H
    have H := H1
    clear H1
    obtain rfl := Option.some.inj H
    go_enter Tryd.func6, Tryd.ntmps6
    go_wp2_with (first | ((with_reducible refine gate_callee (f := 8) rfl ?_); refine goesL_ (some 15) rfl rfl Tryd.func8 (by kernel_rfl) rfl #[] rfl (by (try simp only [List.map_toArray, List.map_cons, List.map_nil]); first | done | rfl | (simp only [List.length_drop, List.length_take]; rfl)) ?_; (with_reducible refine (paternosterlaw22_awake.calls  false _ A4.out (PAll.Deb.keep HLAID.out (by repeat (first | (with_reducible first | exact HB.out | apply below_alloc | apply pw_below_drewN | apply below_drew1 | refine below_set ?_ (Aside0.out (by assumption))) | exact HB.out | refine below_set ?_ (Aside0.out (by assumption)))))).mono ?_); rintro e w58 ⟨rfl, hb⟩; refine ⟨_, rfl, ?_⟩; have n0_ := Aside0.mk (below_step (by repeat (first | (with_reducible first | exact HB.out | apply below_alloc | apply pw_below_drewN | apply below_drew1) | exact HB.out)) hb); clear HB; have HB := n0_; clear n0_; (try clear hb); (try clear hb2); (try clear hk); (try clear hi)))
    go_ret
    exact ⟨by first | rfl | (simp [errW_none, errW_some] <;> rfl) | (simp [*, errW_none, errW_some] <;> rfl), by repeat (first | (with_reducible first | exact HB.out | apply below_alloc | apply pw_below_drewN | apply below_drew1) | exact HB.out)⟩

/-- THE ONE PURE STATEMENT of paternosterlaw22_CallsAll: yours. -/
def paternosterlaw22_CallsAll.Pure : Prop := ∀ (a0 : Int) (a1 : Int) (a2 : Int), (Lit.int .u32 a0).wf = true → (Lit.int .u32 a1).wf = true → (Lit.int .u8 a2).wf = true → ∃ k, paternosterlaw22_CallsAll.f k a0 a1 a2 = some true
theorem paternosterlaw22_CallsAll.walk : True := trivial

end Go.Proofs.YthjmlmognbenoaaDoor.PTwo
