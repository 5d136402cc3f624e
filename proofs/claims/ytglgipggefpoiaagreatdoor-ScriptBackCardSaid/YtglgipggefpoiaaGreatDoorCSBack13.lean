/- Texts of mine, put together (no statement stands here). -/
import Derived.Test.YtglgipggefpoiaaGreatDoorCSBack10
import Derived.Test.YtglgipggefpoiaaGreatDoorCSBack11
import Derived.Test.YtglgipggefpoiaaGreatDoorCSBack12
section
namespace Go.Proofs.YtglgipggefpoiaaGreatDoor.PAll
open Go.RowKit Go.Proofs.YtglgipggefpoiaaGreatDoorW.PrintWords Go.Proofs.YtglgipggefpoiaaGreatDoorW.PrintLast Go.Proofs.YtglgipggefpoiaaGreatDoorW.PrintMore
attribute [local go_sem] max2_int min2_int max_two min_two max_three min_three max_four min_four
set_option linter.unusedVariables false
set_option linter.unusedSimpArgs false
theorem eqA45 (d : Nat) (w : World) (x0 y0 : Int) (x1 y1 : Int) (x2 y2 : Int) :
    (Op.equalIn (d + 2) 45 (.agg #[.int .i64 x0, .int .i64 x1, .int .i64 x2]) (.agg #[.int .i64 y0, .int .i64 y1, .int .i64 y2])).run Tryz.prog w = .ok (x0 == y0 && (x1 == y1 && (x2 == y2))) w := by
  refine eqA_of Tryz.underlying45 (by kernel_rfl) ?_
  refine eqf_cons (by rfl) (by go_simp; rfl) (by go_simp; rfl) (by go_simp) ?_
  refine eqf_cons (by rfl) (by go_simp; rfl) (by go_simp; rfl) (by go_simp) ?_
  exact eqf_last (by rfl) (by go_simp; rfl) (by go_simp; rfl) (by go_simp)
end Go.Proofs.YtglgipggefpoiaaGreatDoor.PAll
end
section
namespace Go.Proofs.YtglgipggefpoiaaGreatDoor.PAll
open Go.RowKit Go.Proofs.YtglgipggefpoiaaGreatDoorW.PrintWords Go.Proofs.YtglgipggefpoiaaGreatDoorW.PrintLast Go.Proofs.YtglgipggefpoiaaGreatDoorW.PrintMore
attribute [local go_sem] max2_int min2_int max_two min_two max_three min_three max_four min_four
set_option linter.unusedVariables false
set_option linter.unusedSimpArgs false
attribute [local go_sem high] eqA45
mutual
def paternosterref24_Same.j0 : Nat → Bool → Bool → Bool → Int → Int → List (S45) → Bool → Bool → Int → Int → List (S45) → Option (Bool)
  | 0, _, _, _, _, _, _, _, _, _, _, _ => none
  | k + 1, x40, x222000, x222001, x222002, x222003, x222004, x223000, x223001, x223002, x223003, x223004 => if x40 = true then (some false) else (paternosterref24_Same.l0 k 0 x222000 x222001 x222002 x222003 x222004 x223000 x223001 x223002 x223003 x223004)
def paternosterref24_Same.l0 : Nat → Int → Bool → Bool → Int → Int → List (S45) → Bool → Bool → Int → Int → List (S45) → Option (Bool)
  | 0, _, _, _, _, _, _, _, _, _, _, _ => none
  | k + 1, x5, x222000, x222001, x222002, x222003, x222004, x223000, x223001, x223002, x223003, x223004 => if x5 < (x222004.length : Int) then (if 0 ≤ x5 then (if x5 < (x223004.length : Int) then (if (!(((rd_T45 x222004 x5).f0) == ((rd_T45 x223004 x5).f0)) || (!(((rd_T45 x222004 x5).f1) == ((rd_T45 x223004 x5).f1)) || (!(((rd_T45 x222004 x5).f2) == ((rd_T45 x223004 x5).f2))))) = true then (some false) else (paternosterref24_Same.l0 k (wrap64 (x5 + 1)) x222000 x222001 x222002 x222003 x222004 x223000 x223001 x223002 x223003 x223004)) else (none)) else (none)) else (some true)
end
def paternosterref24_Same.f (k : Nat) (a0_0 : Bool) (a0_1 : Bool) (a0_2 : Int) (a0_3 : Int) (l0_4 : List (S45)) (a1_0 : Bool) (a1_1 : Bool) (a1_2 : Int) (a1_3 : Int) (l1_4 : List (S45)) : Option (Bool) := if (a0_0 != a1_0) = true then (paternosterref24_Same.j0 k true a0_0 a0_1 a0_2 a0_3 l0_4 a1_0 a1_1 a1_2 a1_3 l1_4) else (if (a0_1 != a1_1) = true then (paternosterref24_Same.j0 k true a0_0 a0_1 a0_2 a0_3 l0_4 a1_0 a1_1 a1_2 a1_3 l1_4) else (if a0_2 = a1_2 then (if a0_3 = a1_3 then (paternosterref24_Same.j0 k ((l0_4.length : Int) != (l1_4.length : Int)) a0_0 a0_1 a0_2 a0_3 l0_4 a1_0 a1_1 a1_2 a1_3 l1_4) else (paternosterref24_Same.j0 k true a0_0 a0_1 a0_2 a0_3 l0_4 a1_0 a1_1 a1_2 a1_3 l1_4)) else (paternosterref24_Same.j0 k true a0_0 a0_1 a0_2 a0_3 l0_4 a1_0 a1_1 a1_2 a1_3 l1_4)))
set_option maxHeartbeats 8000000 in
set_option maxRecDepth 100000 in
theorem paternosterref24_Same.calls (k : Nat) (a0_0 : Bool) (a0_1 : Bool) (a0_2 : Int) (a0_3 : Int) (A0_4 : Option Addr) (c0_4 : Nat) (l0_4 : List (S45)) (a1_0 : Bool) (a1_1 : Bool) (a1_2 : Int) (a1_3 : Int) (A1_4 : Option Addr) (c1_4 : Nat) (l1_4 : List (S45)) (r : Bool) (w : World) (hr0_4 : Kd.C k45 w A0_4 l0_4.length l0_4) (hc0_4 : l0_4.length ≤ c0_4) (hr1_4 : Kd.C k45 w A1_4 l1_4.length l1_4) (hc1_4 : l1_4.length ≤ c1_4) (h : paternosterref24_Same.f k a0_0 a0_1 a0_2 a0_3 l0_4 a1_0 a1_1 a1_2 a1_3 l1_4 = some r) :
    Calls Tryz.prog 13 #[.agg #[.bool a0_0, .bool a0_1, .int .i64 a0_2, .int .u64 a0_3, .slice A0_4 l0_4.length c0_4], .agg #[.bool a1_0, .bool a1_1, .int .i64 a1_2, .int .u64 a1_3, .slice A1_4 l1_4.length c1_4]] w fun e w' => e = .returned (.bool r) ∧ Below w.heap.size w w' := by
  have hu31 := Tryz.underlying31
  have hu45 := Tryz.underlying45
  have HR0_4 := Aside0.mk hr0_4
  have HC0_4 := Aside0.mk hc0_4
  clear hr0_4 hc0_4
  have HR1_4 := Aside0.mk hr1_4
  have HC1_4 := Aside0.mk hc1_4
  clear hr1_4 hc1_4
  have HB := Aside0.mk (Below.refl w.heap.size w)
  have H : (if (a0_0 != a1_0) = true then (paternosterref24_Same.j0 k true a0_0 a0_1 a0_2 a0_3 l0_4 a1_0 a1_1 a1_2 a1_3 l1_4) else (if (a0_1 != a1_1) = true then (paternosterref24_Same.j0 k true a0_0 a0_1 a0_2 a0_3 l0_4 a1_0 a1_1 a1_2 a1_3 l1_4) else (if a0_2 = a1_2 then (if a0_3 = a1_3 then (paternosterref24_Same.j0 k ((l0_4.length : Int) != (l1_4.length : Int)) a0_0 a0_1 a0_2 a0_3 l0_4 a1_0 a1_1 a1_2 a1_3 l1_4) else (paternosterref24_Same.j0 k true a0_0 a0_1 a0_2 a0_3 l0_4 a1_0 a1_1 a1_2 a1_3 l1_4)) else (paternosterref24_Same.j0 k true a0_0 a0_1 a0_2 a0_3 l0_4 a1_0 a1_1 a1_2 a1_3 l1_4)))) = some r := h
  clear h
  have HC3 := Aside0.mk H
  clear H
  go_enter Tryz.func13, Tryz.ntmps13
  go_upto_region 1 with (first | ((with_reducible refine gate_dst (N := 2) rfl ?_); (try (refine gate_guard (by rfl) ?_; dsimp only)); refine box_event ?hg (N := 2) ?hd (cs := #[.bool a0_0, .bool a0_1, .int .i64 a0_2, .int .u64 a0_3, .slice A0_4 l0_4.length c0_4]) (t := 31) ?hr ?_; (case hd => rfl); (case hg => rfl); (case hr => first | (go_simp; done) | (go_simp; rfl)); intro gb221 hg w4 hbox hb; have n0_ := Aside0.mk (below_step (by repeat (first | (with_reducible first | exact HB.out | apply below_alloc | apply pw_below_drewN | apply below_drew1) | exact HB.out)) hb); have n1_ := Aside0.mk (hbox); have n2_ := Aside0.mk ((by rw [hg]; exact (below_size (by repeat (first | (with_reducible first | exact HB.out | apply below_alloc | apply pw_below_drewN | apply below_drew1) | exact HB.out))) : w.heap.size ≤ gb221)); have n3_ := Aside0.mk ((by rw [hg]; exact (below_size (by repeat (first | (with_reducible first | exact HB.out | apply below_alloc | apply pw_below_drewN | apply below_drew1) | exact HB.out))) : w.heap.size ≤ gb221)); clear HB; have HB := n0_; have BK221 := n1_; have GW221 := n2_; have GE221 := n3_; clear n0_ n1_ n2_ n3_; clear hb hbox hg) | ((with_reducible refine gate_dst (N := 3) rfl ?_); (try (refine gate_guard (by rfl) ?_; dsimp only)); refine box_event ?hg (N := 3) ?hd (cs := #[.bool a1_0, .bool a1_1, .int .i64 a1_2, .int .u64 a1_3, .slice A1_4 l1_4.length c1_4]) (t := 31) ?hr ?_; (case hd => rfl); (case hg => rfl); (case hr => first | (go_simp; done) | (go_simp; rfl)); intro gb222 hg w5 hbox hb; have n0_ := Aside0.mk (blk_below (g := gb221) (o := .cells #[.bool a0_0, .bool a0_1, .int .i64 a0_2, .int .u64 a0_3, .slice A0_4 l0_4.length c0_4] 31 (0, 0)) (by (with_reducible repeat (first | refine blk_drewN ?_ _ | refine blk_drew ?_ | refine blk_alloc ?_ _)); exact BK221.out) hb); have n1_ := Aside0.mk (below_step (by repeat (first | (with_reducible first | exact HB.out | apply below_alloc | apply pw_below_drewN | apply below_drew1 | refine below_set ?_ GE221.out) | exact HB.out)) hb); have n2_ := Aside0.mk (hbox); have n3_ := Aside0.mk ((by rw [hg]; exact (below_size (by repeat (first | (with_reducible first | exact HB.out | apply below_alloc | apply pw_below_drewN | apply below_drew1 | refine below_set ?_ GE221.out) | exact HB.out))) : w.heap.size ≤ gb222)); have n4_ := Aside0.mk ((by rw [hg]; exact (below_size (by repeat (first | (with_reducible first | exact HB.out | apply below_alloc | apply pw_below_drewN | apply below_drew1 | refine below_set ?_ GE221.out) | exact HB.out))) : w.heap.size ≤ gb222)); have n5_ := Aside0.mk ((by rw [hg]; exact Nat.ne_of_lt (blk_lt (g := gb221) (o := .cells #[.bool a0_0, .bool a0_1, .int .i64 a0_2, .int .u64 a0_3, .slice A0_4 l0_4.length c0_4] 31 (0, 0)) (by (with_reducible repeat (first | refine blk_drewN ?_ _ | refine blk_drew ?_ | refine blk_alloc ?_ _)); exact BK221.out)) : gb221 ≠ gb222)); have n6_ := Aside0.mk ((by rw [hg]; exact Nat.ne_of_gt (blk_lt (g := gb221) (o := .cells #[.bool a0_0, .bool a0_1, .int .i64 a0_2, .int .u64 a0_3, .slice A0_4 l0_4.length c0_4] 31 (0, 0)) (by (with_reducible repeat (first | refine blk_drewN ?_ _ | refine blk_drew ?_ | refine blk_alloc ?_ _)); exact BK221.out)) : gb222 ≠ gb221)); clear BK221; clear HB; have BK221 := n0_; have HB := n1_; have BK222 := n2_; have GW222 := n3_; have GE222 := n4_; have NB221_222 := n5_; have NB222_221 := n6_; clear n0_ n1_ n2_ n3_ n4_ n5_ n6_; clear hb hbox hg))
  repeat (go_quiet (first | ((with_reducible refine gate_dst (N := 2) rfl ?_); (try (refine gate_guard (by rfl) ?_; dsimp only)); refine box_event ?hg (N := 2) ?hd (cs := #[.bool a0_0, .bool a0_1, .int .i64 a0_2, .int .u64 a0_3, .slice A0_4 l0_4.length c0_4]) (t := 31) ?hr ?_; (case hd => rfl); (case hg => rfl); (case hr => first | (go_simp; done) | (go_simp; rfl)); intro gb221 hg w4 hbox hb; have n0_ := Aside0.mk (below_step (by repeat (first | (with_reducible first | exact HB.out | apply below_alloc | apply pw_below_drewN | apply below_drew1) | exact HB.out)) hb); have n1_ := Aside0.mk (hbox); have n2_ := Aside0.mk ((by rw [hg]; exact (below_size (by repeat (first | (with_reducible first | exact HB.out | apply below_alloc | apply pw_below_drewN | apply below_drew1) | exact HB.out))) : w.heap.size ≤ gb221)); have n3_ := Aside0.mk ((by rw [hg]; exact (below_size (by repeat (first | (with_reducible first | exact HB.out | apply below_alloc | apply pw_below_drewN | apply below_drew1) | exact HB.out))) : w.heap.size ≤ gb221)); clear HB; have HB := n0_; have BK221 := n1_; have GW221 := n2_; have GE221 := n3_; clear n0_ n1_ n2_ n3_; clear hb hbox hg) | ((with_reducible refine gate_dst (N := 3) rfl ?_); (try (refine gate_guard (by rfl) ?_; dsimp only)); refine box_event ?hg (N := 3) ?hd (cs := #[.bool a1_0, .bool a1_1, .int .i64 a1_2, .int .u64 a1_3, .slice A1_4 l1_4.length c1_4]) (t := 31) ?hr ?_; (case hd => rfl); (case hg => rfl); (case hr => first | (go_simp; done) | (go_simp; rfl)); intro gb222 hg w5 hbox hb; have n0_ := Aside0.mk (blk_below (g := gb221) (o := .cells #[.bool a0_0, .bool a0_1, .int .i64 a0_2, .int .u64 a0_3, .slice A0_4 l0_4.length c0_4] 31 (0, 0)) (by (with_reducible repeat (first | refine blk_drewN ?_ _ | refine blk_drew ?_ | refine blk_alloc ?_ _)); exact BK221.out) hb); have n1_ := Aside0.mk (below_step (by repeat (first | (with_reducible first | exact HB.out | apply below_alloc | apply pw_below_drewN | apply below_drew1 | refine below_set ?_ GE221.out) | exact HB.out)) hb); have n2_ := Aside0.mk (hbox); have n3_ := Aside0.mk ((by rw [hg]; exact (below_size (by repeat (first | (with_reducible first | exact HB.out | apply below_alloc | apply pw_below_drewN | apply below_drew1 | refine below_set ?_ GE221.out) | exact HB.out))) : w.heap.size ≤ gb222)); have n4_ := Aside0.mk ((by rw [hg]; exact (below_size (by repeat (first | (with_reducible first | exact HB.out | apply below_alloc | apply pw_below_drewN | apply below_drew1 | refine below_set ?_ GE221.out) | exact HB.out))) : w.heap.size ≤ gb222)); have n5_ := Aside0.mk ((by rw [hg]; exact Nat.ne_of_lt (blk_lt (g := gb221) (o := .cells #[.bool a0_0, .bool a0_1, .int .i64 a0_2, .int .u64 a0_3, .slice A0_4 l0_4.length c0_4] 31 (0, 0)) (by (with_reducible repeat (first | refine blk_drewN ?_ _ | refine blk_drew ?_ | refine blk_alloc ?_ _)); exact BK221.out)) : gb221 ≠ gb222)); have n6_ := Aside0.mk ((by rw [hg]; exact Nat.ne_of_gt (blk_lt (g := gb221) (o := .cells #[.bool a0_0, .bool a0_1, .int .i64 a0_2, .int .u64 a0_3, .slice A0_4 l0_4.length c0_4] 31 (0, 0)) (by (with_reducible repeat (first | refine blk_drewN ?_ _ | refine blk_drew ?_ | refine blk_alloc ?_ _)); exact BK221.out)) : gb222 ≠ gb221)); clear BK221; clear HB; have BK221 := n0_; have HB := n1_; have BK222 := n2_; have GW222 := n3_; have GE222 := n4_; have NB221_222 := n5_; have NB222_221 := n6_; clear n0_ n1_ n2_ n3_ n4_ n5_ n6_; clear hb hbox hg)); go_upto_region 1 with (first | ((with_reducible refine gate_dst (N := 2) rfl ?_); (try (refine gate_guard (by rfl) ?_; dsimp only)); refine box_event ?hg (N := 2) ?hd (cs := #[.bool a0_0, .bool a0_1, .int .i64 a0_2, .int .u64 a0_3, .slice A0_4 l0_4.length c0_4]) (t := 31) ?hr ?_; (case hd => rfl); (case hg => rfl); (case hr => first | (go_simp; done) | (go_simp; rfl)); intro gb221 hg w4 hbox hb; have n0_ := Aside0.mk (below_step (by repeat (first | (with_reducible first | exact HB.out | apply below_alloc | apply pw_below_drewN | apply below_drew1) | exact HB.out)) hb); have n1_ := Aside0.mk (hbox); have n2_ := Aside0.mk ((by rw [hg]; exact (below_size (by repeat (first | (with_reducible first | exact HB.out | apply below_alloc | apply pw_below_drewN | apply below_drew1) | exact HB.out))) : w.heap.size ≤ gb221)); have n3_ := Aside0.mk ((by rw [hg]; exact (below_size (by repeat (first | (with_reducible first | exact HB.out | apply below_alloc | apply pw_below_drewN | apply below_drew1) | exact HB.out))) : w.heap.size ≤ gb221)); clear HB; have HB := n0_; have BK221 := n1_; have GW221 := n2_; have GE221 := n3_; clear n0_ n1_ n2_ n3_; clear hb hbox hg) | ((with_reducible refine gate_dst (N := 3) rfl ?_); (try (refine gate_guard (by rfl) ?_; dsimp only)); refine box_event ?hg (N := 3) ?hd (cs := #[.bool a1_0, .bool a1_1, .int .i64 a1_2, .int .u64 a1_3, .slice A1_4 l1_4.length c1_4]) (t := 31) ?hr ?_; (case hd => rfl); (case hg => rfl); (case hr => first | (go_simp; done) | (go_simp; rfl)); intro gb222 hg w5 hbox hb; have n0_ := Aside0.mk (blk_below (g := gb221) (o := .cells #[.bool a0_0, .bool a0_1, .int .i64 a0_2, .int .u64 a0_3, .slice A0_4 l0_4.length c0_4] 31 (0, 0)) (by (with_reducible repeat (first | refine blk_drewN ?_ _ | refine blk_drew ?_ | refine blk_alloc ?_ _)); exact BK221.out) hb); have n1_ := Aside0.mk (below_step (by repeat (first | (with_reducible first | exact HB.out | apply below_alloc | apply pw_below_drewN | apply below_drew1 | refine below_set ?_ GE221.out) | exact HB.out)) hb); have n2_ := Aside0.mk (hbox); have n3_ := Aside0.mk ((by rw [hg]; exact (below_size (by repeat (first | (with_reducible first | exact HB.out | apply below_alloc | apply pw_below_drewN | apply below_drew1 | refine below_set ?_ GE221.out) | exact HB.out))) : w.heap.size ≤ gb222)); have n4_ := Aside0.mk ((by rw [hg]; exact (below_size (by repeat (first | (with_reducible first | exact HB.out | apply below_alloc | apply pw_below_drewN | apply below_drew1 | refine below_set ?_ GE221.out) | exact HB.out))) : w.heap.size ≤ gb222)); have n5_ := Aside0.mk ((by rw [hg]; exact Nat.ne_of_lt (blk_lt (g := gb221) (o := .cells #[.bool a0_0, .bool a0_1, .int .i64 a0_2, .int .u64 a0_3, .slice A0_4 l0_4.length c0_4] 31 (0, 0)) (by (with_reducible repeat (first | refine blk_drewN ?_ _ | refine blk_drew ?_ | refine blk_alloc ?_ _)); exact BK221.out)) : gb221 ≠ gb222)); have n6_ := Aside0.mk ((by rw [hg]; exact Nat.ne_of_gt (blk_lt (g := gb221) (o := .cells #[.bool a0_0, .bool a0_1, .int .i64 a0_2, .int .u64 a0_3, .slice A0_4 l0_4.length c0_4] 31 (0, 0)) (by (with_reducible repeat (first | refine blk_drewN ?_ _ | refine blk_drew ?_ | refine blk_alloc ?_ _)); exact BK221.out)) : gb222 ≠ gb221)); clear BK221; clear HB; have BK221 := n0_; have HB := n1_; have BK222 := n2_; have GW222 := n3_; have GE222 := n4_; have NB221_222 := n5_; have NB222_221 := n6_; clear n0_ n1_ n2_ n3_ n4_ n5_ n6_; clear hb hbox hg)))
  (try simp only [Act.put, List.setIfInBounds_toArray, List.set_cons_zero, List.set_cons_succ])
  go_cut [40] (fun v40 wc => ∃ (kq : Nat) (x40_2 : Bool), v40 = .bool x40_2 ∧ Aside0 (paternosterref24_Same.j0 kq x40_2 a0_0 a0_1 a0_2 a0_3 l0_4 a1_0 a1_1 a1_2 a1_3 l1_4 = some r) ∧ Aside0 (kq ≤ k) ∧ Aside0 (wc.heap[gb221]? = some (.cells #[.bool a0_0, .bool a0_1, .int .i64 a0_2, .int .u64 a0_3, (.slice A0_4 l0_4.length c0_4)] 31 (0, 0))) ∧ Aside0 (wc.heap[gb222]? = some (.cells #[.bool a1_0, .bool a1_1, .int .i64 a1_2, .int .u64 a1_3, (.slice A1_4 l1_4.length c1_4)] 31 (0, 0))) ∧ Aside0 (Below w.heap.size w wc))
  case first =>
    have H := HC3.out
    clear HC3
    by_cases c6 : (a0_0 != a1_0) = true
    · rw [if_pos c6] at H
      have c6b0 : (a0_0 != a1_0) = true := c6
      (try (have c6b1 : decide (a0_0 = a1_0) = false := by simpa using c6))
      (try (have c6b2 : (a0_0 == a1_0) = false := by simpa using c6))
      (try (have c6b3 : ¬ (a0_0 = a1_0) := by simpa using c6))
      clear c6
      (first | rw [c6b0] | (simp only [i64_w, i32_w]; rw [c6b0]) | skip)
      have H' := Aside0.mk H
      clear H
      have hnb7 := NB221_222.out
      have hnc7 := NB222_221.out
      have hcz8_0 : w5.cell? ⟨gb221, 0, none⟩ = some (.bool a0_0) := (blk_cell BK221.out 0).trans rfl
      have hcz8_1 : w5.cell? ⟨gb221, 1, none⟩ = some (.bool a0_1) := (blk_cell BK221.out 1).trans rfl
      have hcz8_2 : w5.cell? ⟨gb221, 2, none⟩ = some (.int .i64 a0_2) := (blk_cell BK221.out 2).trans rfl
      have hcz8_3 : w5.cell? ⟨gb221, 3, none⟩ = some (.int .u64 a0_3) := (blk_cell BK221.out 3).trans rfl
      have hcz8_4 : w5.cell? ⟨gb221, 4, none⟩ = some (.slice A0_4 l0_4.length c0_4) := (blk_cell BK221.out 4).trans rfl
      have hfz8_0 := blk_frozen BK221.out 0
      have hfz8_1 := blk_frozen BK221.out 1
      have hfz8_2 := blk_frozen BK221.out 2
      have hfz8_3 := blk_frozen BK221.out 3
      have hfz8_4 := blk_frozen BK221.out 4
      have hcz9_0 : w5.cell? ⟨gb222, 0, none⟩ = some (.bool a1_0) := (blk_cell BK222.out 0).trans rfl
      have hcz9_1 : w5.cell? ⟨gb222, 1, none⟩ = some (.bool a1_1) := (blk_cell BK222.out 1).trans rfl
      have hcz9_2 : w5.cell? ⟨gb222, 2, none⟩ = some (.int .i64 a1_2) := (blk_cell BK222.out 2).trans rfl
      have hcz9_3 : w5.cell? ⟨gb222, 3, none⟩ = some (.int .u64 a1_3) := (blk_cell BK222.out 3).trans rfl
      have hcz9_4 : w5.cell? ⟨gb222, 4, none⟩ = some (.slice A1_4 l1_4.length c1_4) := (blk_cell BK222.out 4).trans rfl
      have hfz9_0 := blk_frozen BK222.out 0
      have hfz9_1 := blk_frozen BK222.out 1
      have hfz9_2 := blk_frozen BK222.out 2
      have hfz9_3 := blk_frozen BK222.out 3
      have hfz9_4 := blk_frozen BK222.out 4
      go_wp2
      repeat (go_quiet (fail); try go_wp2)
      go_meet
      case rel => exact ⟨_, (true), (by first | rfl | (simp; done) | (simp [*]; done)), H', ⟨by first | omega | exact Nat.le_refl _⟩, ⟨by (with_reducible repeat (first | refine blk_drewN ?_ _ | refine blk_drew ?_ | refine blk_alloc ?_ _)); exact BK221.out⟩, ⟨by (with_reducible repeat (first | refine blk_drewN ?_ _ | refine blk_drew ?_ | refine blk_alloc ?_ _)); exact BK222.out⟩, ⟨by repeat (first | (with_reducible first | exact HB.out | apply below_alloc | apply pw_below_drewN | apply below_drew1 | refine below_set ?_ GE221.out | refine below_set ?_ GE222.out) | exact HB.out)⟩⟩
    · rw [if_neg c6] at H
      have c6b0 : (a0_0 != a1_0) = false := by simpa using c6
      (try (have c6b1 : decide (a0_0 = a1_0) = true := by simpa using c6))
      (try (have c6b2 : (a0_0 == a1_0) = true := by simpa using c6))
      clear c6
      (first | rw [c6b0] | (simp only [i64_w, i32_w]; rw [c6b0]) | skip)
      by_cases c10 : (a0_1 != a1_1) = true
      · rw [if_pos c10] at H
        have c10b0 : (a0_1 != a1_1) = true := c10
        (try (have c10b1 : decide (a0_1 = a1_1) = false := by simpa using c10))
        (try (have c10b2 : (a0_1 == a1_1) = false := by simpa using c10))
        (try (have c10b3 : ¬ (a0_1 = a1_1) := by simpa using c10))
        clear c10
        have H' := Aside0.mk H
        clear H
        have hnb11 := NB221_222.out
        have hnc11 := NB222_221.out
        have hcz12_0 : w5.cell? ⟨gb221, 0, none⟩ = some (.bool a0_0) := (blk_cell BK221.out 0).trans rfl
        have hcz12_1 : w5.cell? ⟨gb221, 1, none⟩ = some (.bool a0_1) := (blk_cell BK221.out 1).trans rfl
        have hcz12_2 : w5.cell? ⟨gb221, 2, none⟩ = some (.int .i64 a0_2) := (blk_cell BK221.out 2).trans rfl
        have hcz12_3 : w5.cell? ⟨gb221, 3, none⟩ = some (.int .u64 a0_3) := (blk_cell BK221.out 3).trans rfl
        have hcz12_4 : w5.cell? ⟨gb221, 4, none⟩ = some (.slice A0_4 l0_4.length c0_4) := (blk_cell BK221.out 4).trans rfl
        have hfz12_0 := blk_frozen BK221.out 0
        have hfz12_1 := blk_frozen BK221.out 1
        have hfz12_2 := blk_frozen BK221.out 2
        have hfz12_3 := blk_frozen BK221.out 3
        have hfz12_4 := blk_frozen BK221.out 4
        have hcz13_0 : w5.cell? ⟨gb222, 0, none⟩ = some (.bool a1_0) := (blk_cell BK222.out 0).trans rfl
        have hcz13_1 : w5.cell? ⟨gb222, 1, none⟩ = some (.bool a1_1) := (blk_cell BK222.out 1).trans rfl
        have hcz13_2 : w5.cell? ⟨gb222, 2, none⟩ = some (.int .i64 a1_2) := (blk_cell BK222.out 2).trans rfl
        have hcz13_3 : w5.cell? ⟨gb222, 3, none⟩ = some (.int .u64 a1_3) := (blk_cell BK222.out 3).trans rfl
        have hcz13_4 : w5.cell? ⟨gb222, 4, none⟩ = some (.slice A1_4 l1_4.length c1_4) := (blk_cell BK222.out 4).trans rfl
        have hfz13_0 := blk_frozen BK222.out 0
        have hfz13_1 := blk_frozen BK222.out 1
        have hfz13_2 := blk_frozen BK222.out 2
        have hfz13_3 := blk_frozen BK222.out 3
        have hfz13_4 := blk_frozen BK222.out 4
        go_wp2
        repeat (go_quiet (fail); try go_wp2)
        go_meet
        case rel => exact ⟨_, (true), (by first | rfl | (simp; done) | (simp [*]; done)), H', ⟨by first | omega | exact Nat.le_refl _⟩, ⟨by (with_reducible repeat (first | refine blk_drewN ?_ _ | refine blk_drew ?_ | refine blk_alloc ?_ _)); exact BK221.out⟩, ⟨by (with_reducible repeat (first | refine blk_drewN ?_ _ | refine blk_drew ?_ | refine blk_alloc ?_ _)); exact BK222.out⟩, ⟨by repeat (first | (with_reducible first | exact HB.out | apply below_alloc | apply pw_below_drewN | apply below_drew1 | refine below_set ?_ GE221.out | refine below_set ?_ GE222.out) | exact HB.out)⟩⟩
      · rw [if_neg c10] at H
        have c10b0 : (a0_1 != a1_1) = false := by simpa using c10
        (try (have c10b1 : decide (a0_1 = a1_1) = true := by simpa using c10))
        (try (have c10b2 : (a0_1 == a1_1) = true := by simpa using c10))
        clear c10
        by_cases c14 : a0_2 = a1_2
        · rw [if_pos c14] at H
          have c14b0 : (a0_2 == a1_2) = true := beq_iff_eq.mpr c14
          have c14b1 : (a0_2 != a1_2) = false := bne_eq_false_iff_eq.mpr c14
          clear c14
          by_cases c15 : a0_3 = a1_3
          · rw [if_pos c15] at H
            have c15b0 : (a0_3 == a1_3) = true := beq_iff_eq.mpr c15
            have c15b1 : (a0_3 != a1_3) = false := bne_eq_false_iff_eq.mpr c15
            clear c15
            have H' := Aside0.mk H
            clear H
            have hnb16 := NB221_222.out
            have hnc16 := NB222_221.out
            have hcz17_0 : w5.cell? ⟨gb221, 0, none⟩ = some (.bool a0_0) := (blk_cell BK221.out 0).trans rfl
            have hcz17_1 : w5.cell? ⟨gb221, 1, none⟩ = some (.bool a0_1) := (blk_cell BK221.out 1).trans rfl
            have hcz17_2 : w5.cell? ⟨gb221, 2, none⟩ = some (.int .i64 a0_2) := (blk_cell BK221.out 2).trans rfl
            have hcz17_3 : w5.cell? ⟨gb221, 3, none⟩ = some (.int .u64 a0_3) := (blk_cell BK221.out 3).trans rfl
            have hcz17_4 : w5.cell? ⟨gb221, 4, none⟩ = some (.slice A0_4 l0_4.length c0_4) := (blk_cell BK221.out 4).trans rfl
            have hfz17_0 := blk_frozen BK221.out 0
            have hfz17_1 := blk_frozen BK221.out 1
            have hfz17_2 := blk_frozen BK221.out 2
            have hfz17_3 := blk_frozen BK221.out 3
            have hfz17_4 := blk_frozen BK221.out 4
            have hcz18_0 : w5.cell? ⟨gb222, 0, none⟩ = some (.bool a1_0) := (blk_cell BK222.out 0).trans rfl
            have hcz18_1 : w5.cell? ⟨gb222, 1, none⟩ = some (.bool a1_1) := (blk_cell BK222.out 1).trans rfl
            have hcz18_2 : w5.cell? ⟨gb222, 2, none⟩ = some (.int .i64 a1_2) := (blk_cell BK222.out 2).trans rfl
            have hcz18_3 : w5.cell? ⟨gb222, 3, none⟩ = some (.int .u64 a1_3) := (blk_cell BK222.out 3).trans rfl
            have hcz18_4 : w5.cell? ⟨gb222, 4, none⟩ = some (.slice A1_4 l1_4.length c1_4) := (blk_cell BK222.out 4).trans rfl
            have hfz18_0 := blk_frozen BK222.out 0
            have hfz18_1 := blk_frozen BK222.out 1
            have hfz18_2 := blk_frozen BK222.out 2
            have hfz18_3 := blk_frozen BK222.out 3
            have hfz18_4 := blk_frozen BK222.out 4
            go_wp2
            repeat (go_quiet (fail); try go_wp2)
            go_meet
            case rel => exact ⟨_, (((l0_4.length : Int) != (l1_4.length : Int))), (by first | rfl | (simp; done) | (simp [*]; done)), H', ⟨by first | omega | exact Nat.le_refl _⟩, ⟨by (with_reducible repeat (first | refine blk_drewN ?_ _ | refine blk_drew ?_ | refine blk_alloc ?_ _)); exact BK221.out⟩, ⟨by (with_reducible repeat (first | refine blk_drewN ?_ _ | refine blk_drew ?_ | refine blk_alloc ?_ _)); exact BK222.out⟩, ⟨by repeat (first | (with_reducible first | exact HB.out | apply below_alloc | apply pw_below_drewN | apply below_drew1 | refine below_set ?_ GE221.out | refine below_set ?_ GE222.out) | exact HB.out)⟩⟩
          · rw [if_neg c15] at H
            have c15b0 : (a0_3 == a1_3) = false := beq_eq_false_iff_ne.mpr c15
            have c15b1 : (a0_3 != a1_3) = true := bne_iff_ne.mpr c15
            have H' := Aside0.mk H
            clear H
            have hnb19 := NB221_222.out
            have hnc19 := NB222_221.out
            have hcz20_0 : w5.cell? ⟨gb221, 0, none⟩ = some (.bool a0_0) := (blk_cell BK221.out 0).trans rfl
            have hcz20_1 : w5.cell? ⟨gb221, 1, none⟩ = some (.bool a0_1) := (blk_cell BK221.out 1).trans rfl
            have hcz20_2 : w5.cell? ⟨gb221, 2, none⟩ = some (.int .i64 a0_2) := (blk_cell BK221.out 2).trans rfl
            have hcz20_3 : w5.cell? ⟨gb221, 3, none⟩ = some (.int .u64 a0_3) := (blk_cell BK221.out 3).trans rfl
            have hcz20_4 : w5.cell? ⟨gb221, 4, none⟩ = some (.slice A0_4 l0_4.length c0_4) := (blk_cell BK221.out 4).trans rfl
            have hfz20_0 := blk_frozen BK221.out 0
            have hfz20_1 := blk_frozen BK221.out 1
            have hfz20_2 := blk_frozen BK221.out 2
            have hfz20_3 := blk_frozen BK221.out 3
            have hfz20_4 := blk_frozen BK221.out 4
            have hcz21_0 : w5.cell? ⟨gb222, 0, none⟩ = some (.bool a1_0) := (blk_cell BK222.out 0).trans rfl
            have hcz21_1 : w5.cell? ⟨gb222, 1, none⟩ = some (.bool a1_1) := (blk_cell BK222.out 1).trans rfl
            have hcz21_2 : w5.cell? ⟨gb222, 2, none⟩ = some (.int .i64 a1_2) := (blk_cell BK222.out 2).trans rfl
            have hcz21_3 : w5.cell? ⟨gb222, 3, none⟩ = some (.int .u64 a1_3) := (blk_cell BK222.out 3).trans rfl
            have hcz21_4 : w5.cell? ⟨gb222, 4, none⟩ = some (.slice A1_4 l1_4.length c1_4) := (blk_cell BK222.out 4).trans rfl
            have hfz21_0 := blk_frozen BK222.out 0
            have hfz21_1 := blk_frozen BK222.out 1
            have hfz21_2 := blk_frozen BK222.out 2
            have hfz21_3 := blk_frozen BK222.out 3
            have hfz21_4 := blk_frozen BK222.out 4
            go_wp2
            repeat (go_quiet (fail); try go_wp2)
            go_meet
            case rel => exact ⟨_, (true), (by first | rfl | (simp; done) | (simp [*]; done)), H', ⟨by first | omega | exact Nat.le_refl _⟩, ⟨by (with_reducible repeat (first | refine blk_drewN ?_ _ | refine blk_drew ?_ | refine blk_alloc ?_ _)); exact BK221.out⟩, ⟨by (with_reducible repeat (first | refine blk_drewN ?_ _ | refine blk_drew ?_ | refine blk_alloc ?_ _)); exact BK222.out⟩, ⟨by repeat (first | (with_reducible first | exact HB.out | apply below_alloc | apply pw_below_drewN | apply below_drew1 | refine below_set ?_ GE221.out | refine below_set ?_ GE222.out) | exact HB.out)⟩⟩
        · rw [if_neg c14] at H
          have c14b0 : (a0_2 == a1_2) = false := beq_eq_false_iff_ne.mpr c14
          have c14b1 : (a0_2 != a1_2) = true := bne_iff_ne.mpr c14
          have H' := Aside0.mk H
          clear H
          have hnb22 := NB221_222.out
          have hnc22 := NB222_221.out
          have hcz23_0 : w5.cell? ⟨gb221, 0, none⟩ = some (.bool a0_0) := (blk_cell BK221.out 0).trans rfl
          have hcz23_1 : w5.cell? ⟨gb221, 1, none⟩ = some (.bool a0_1) := (blk_cell BK221.out 1).trans rfl
          have hcz23_2 : w5.cell? ⟨gb221, 2, none⟩ = some (.int .i64 a0_2) := (blk_cell BK221.out 2).trans rfl
          have hcz23_3 : w5.cell? ⟨gb221, 3, none⟩ = some (.int .u64 a0_3) := (blk_cell BK221.out 3).trans rfl
          have hcz23_4 : w5.cell? ⟨gb221, 4, none⟩ = some (.slice A0_4 l0_4.length c0_4) := (blk_cell BK221.out 4).trans rfl
          have hfz23_0 := blk_frozen BK221.out 0
          have hfz23_1 := blk_frozen BK221.out 1
          have hfz23_2 := blk_frozen BK221.out 2
          have hfz23_3 := blk_frozen BK221.out 3
          have hfz23_4 := blk_frozen BK221.out 4
          have hcz24_0 : w5.cell? ⟨gb222, 0, none⟩ = some (.bool a1_0) := (blk_cell BK222.out 0).trans rfl
          have hcz24_1 : w5.cell? ⟨gb222, 1, none⟩ = some (.bool a1_1) := (blk_cell BK222.out 1).trans rfl
          have hcz24_2 : w5.cell? ⟨gb222, 2, none⟩ = some (.int .i64 a1_2) := (blk_cell BK222.out 2).trans rfl
          have hcz24_3 : w5.cell? ⟨gb222, 3, none⟩ = some (.int .u64 a1_3) := (blk_cell BK222.out 3).trans rfl
          have hcz24_4 : w5.cell? ⟨gb222, 4, none⟩ = some (.slice A1_4 l1_4.length c1_4) := (blk_cell BK222.out 4).trans rfl
          have hfz24_0 := blk_frozen BK222.out 0
          have hfz24_1 := blk_frozen BK222.out 1
          have hfz24_2 := blk_frozen BK222.out 2
          have hfz24_3 := blk_frozen BK222.out 3
          have hfz24_4 := blk_frozen BK222.out 4
          go_wp2
          repeat (go_quiet (fail); try go_wp2)
          go_meet
          case rel => exact ⟨_, (true), (by first | rfl | (simp; done) | (simp [*]; done)), H', ⟨by first | omega | exact Nat.le_refl _⟩, ⟨by (with_reducible repeat (first | refine blk_drewN ?_ _ | refine blk_drew ?_ | refine blk_alloc ?_ _)); exact BK221.out⟩, ⟨by (with_reducible repeat (first | refine blk_drewN ?_ _ | refine blk_drew ?_ | refine blk_alloc ?_ _)); exact BK222.out⟩, ⟨by repeat (first | (with_reducible first | exact HB.out | apply below_alloc | apply pw_below_drewN | apply below_drew1 | refine below_set ?_ GE221.out | refine below_set ?_ GE222.out) | exact HB.out)⟩⟩
  case rest =>
    clear HC3
    try clear c1
    try clear c2
    try clear p2
    try clear c6
    try clear c6b0
    try clear c6b1
    try clear c6b2
    try clear c7
    try clear c10
    try clear c10b0
    try clear c10b1
    try clear c10b2
    try clear c11
    try clear c13
    try clear c14
    try clear c14b0
    try clear c14b1
    try clear c15
    try clear c15b0
    try clear c15b1
    try clear c16
    try clear c19
    try clear c22
    try clear hcz12_0
    try clear hcz12_1
    try clear hcz12_2
    try clear hcz12_3
    try clear hcz12_4
    try clear hcz13_0
    try clear hcz13_1
    try clear hcz13_2
    try clear hcz13_3
    try clear hcz13_4
    try clear hcz17_0
    try clear hcz17_1
    try clear hcz17_2
    try clear hcz17_3
    try clear hcz17_4
    try clear hcz18_0
    try clear hcz18_1
    try clear hcz18_2
    try clear hcz18_3
    try clear hcz18_4
    try clear hcz20_0
    try clear hcz20_1
    try clear hcz20_2
    try clear hcz20_3
    try clear hcz20_4
    try clear hcz21_0
    try clear hcz21_1
    try clear hcz21_2
    try clear hcz21_3
    try clear hcz21_4
    try clear hcz23_0
    try clear hcz23_1
    try clear hcz23_2
    try clear hcz23_3
    try clear hcz23_4
    try clear hcz24_0
    try clear hcz24_1
    try clear hcz24_2
    try clear hcz24_3
    try clear hcz24_4
    try clear hcz8_0
    try clear hcz8_1
    try clear hcz8_2
    try clear hcz8_3
    try clear hcz8_4
    try clear hcz9_0
    try clear hcz9_1
    try clear hcz9_2
    try clear hcz9_3
    try clear hcz9_4
    try clear hfz12_0
    try clear hfz12_1
    try clear hfz12_2
    try clear hfz12_3
    try clear hfz12_4
    try clear hfz13_0
    try clear hfz13_1
    try clear hfz13_2
    try clear hfz13_3
    try clear hfz13_4
    try clear hfz17_0
    try clear hfz17_1
    try clear hfz17_2
    try clear hfz17_3
    try clear hfz17_4
    try clear hfz18_0
    try clear hfz18_1
    try clear hfz18_2
    try clear hfz18_3
    try clear hfz18_4
    try clear hfz20_0
    try clear hfz20_1
    try clear hfz20_2
    try clear hfz20_3
    try clear hfz20_4
    try clear hfz21_0
    try clear hfz21_1
    try clear hfz21_2
    try clear hfz21_3
    try clear hfz21_4
    try clear hfz23_0
    try clear hfz23_1
    try clear hfz23_2
    try clear hfz23_3
    try clear hfz23_4
    try clear hfz24_0
    try clear hfz24_1
    try clear hfz24_2
    try clear hfz24_3
    try clear hfz24_4
    try clear hfz8_0
    try clear hfz8_1
    try clear hfz8_2
    try clear hfz8_3
    try clear hfz8_4
    try clear hfz9_0
    try clear hfz9_1
    try clear hfz9_2
    try clear hfz9_3
    try clear hfz9_4
    obtain ⟨kq, x40_2, rfl, HA, HJ2, BK221, BK222, HB⟩ := hcut
    cases kq with
    | zero => exact absurd HA.out (by simp [paternosterref24_Same.j0])
    | succ kj2 =>
      have H := HA.out
      clear HA
      simp only [paternosterref24_Same.j0] at H
      by_cases c25 : x40_2 = true
      · subst c25
        have H1 : (some false) = some r := by rw [if_pos rfl] at H; exact H
        clear H
        have H := H1
        clear H1
        obtain rfl := Option.some.inj H
        go_wp2
        repeat (go_quiet (fail); try go_wp2)
        go_ret
        exact ⟨by first | rfl | (simp [errW_none, errW_some] <;> rfl) | (simp [*, errW_none, errW_some] <;> rfl), by repeat (first | (with_reducible first | exact HB.out | apply below_alloc | apply pw_below_drewN | apply below_drew1 | refine below_set ?_ GE221.out | refine below_set ?_ GE222.out) | exact HB.out)⟩
      · replace c25 := Bool.eq_false_iff.mpr c25
        subst c25
        have H1 : (paternosterref24_Same.l0 kj2 0 a0_0 a0_1 a0_2 a0_3 l0_4 a1_0 a1_1 a1_2 a1_3 l1_4) = some r := by rw [if_neg (show ¬ (false = true) by decide)] at H; exact H
        clear H
        have H := H1
        clear H1
        have H' := Aside0.mk H
        clear H
        go_wp2
        repeat (go_quiet (fail); try go_wp2)
        go_loopg [5] kj2 (fun kq v5 w' => ∃ (x5_2 : Int), v5 = .int .i64 x5_2 ∧ Aside0 (paternosterref24_Same.l0 kq x5_2 a0_0 a0_1 a0_2 a0_3 l0_4 a1_0 a1_1 a1_2 a1_3 l1_4 = some r) ∧ Aside0 (kq ≤ kj2) ∧ Aside0 (w'.heap[gb221]? = some (.cells #[.bool a0_0, .bool a0_1, .int .i64 a0_2, .int .u64 a0_3, (.slice A0_4 l0_4.length c0_4)] 31 (0, 0))) ∧ Aside0 (w'.heap[gb222]? = some (.cells #[.bool a1_0, .bool a1_1, .int .i64 a1_2, .int .u64 a1_3, (.slice A1_4 l1_4.length c1_4)] 31 (0, 0))) ∧ Aside0 (Below w.heap.size w w'))
        case atStart => exact ⟨(0), (by first | rfl | (simp; done) | (simp [*]; done)), H', ⟨Nat.le_refl _⟩, ⟨by (with_reducible repeat (first | refine blk_drewN ?_ _ | refine blk_drew ?_ | refine blk_alloc ?_ _)); exact BK221.out⟩, ⟨by (with_reducible repeat (first | refine blk_drewN ?_ _ | refine blk_drew ?_ | refine blk_alloc ?_ _)); exact BK222.out⟩, ⟨by repeat (first | (with_reducible first | exact HB.out | apply below_alloc | apply pw_below_drewN | apply below_drew1 | refine below_set ?_ GE221.out | refine below_set ?_ GE222.out) | exact HB.out)⟩⟩
        case round =>
          clear H'
          try clear c1
          try clear c2
          try clear p2
          try clear c6
          try clear c6b0
          try clear c6b1
          try clear c6b2
          try clear c7
          try clear c10
          try clear c10b0
          try clear c10b1
          try clear c10b2
          try clear c11
          try clear c13
          try clear c14
          try clear c14b0
          try clear c14b1
          try clear c15
          try clear c15b0
          try clear c15b1
          try clear c16
          try clear c19
          try clear c22
          try clear c25
          try clear hcz12_0
          try clear hcz12_1
          try clear hcz12_2
          try clear hcz12_3
          try clear hcz12_4
          try clear hcz13_0
          try clear hcz13_1
          try clear hcz13_2
          try clear hcz13_3
          try clear hcz13_4
          try clear hcz17_0
          try clear hcz17_1
          try clear hcz17_2
          try clear hcz17_3
          try clear hcz17_4
          try clear hcz18_0
          try clear hcz18_1
          try clear hcz18_2
          try clear hcz18_3
          try clear hcz18_4
          try clear hcz20_0
          try clear hcz20_1
          try clear hcz20_2
          try clear hcz20_3
          try clear hcz20_4
          try clear hcz21_0
          try clear hcz21_1
          try clear hcz21_2
          try clear hcz21_3
          try clear hcz21_4
          try clear hcz23_0
          try clear hcz23_1
          try clear hcz23_2
          try clear hcz23_3
          try clear hcz23_4
          try clear hcz24_0
          try clear hcz24_1
          try clear hcz24_2
          try clear hcz24_3
          try clear hcz24_4
          try clear hcz8_0
          try clear hcz8_1
          try clear hcz8_2
          try clear hcz8_3
          try clear hcz8_4
          try clear hcz9_0
          try clear hcz9_1
          try clear hcz9_2
          try clear hcz9_3
          try clear hcz9_4
          try clear hfz12_0
          try clear hfz12_1
          try clear hfz12_2
          try clear hfz12_3
          try clear hfz12_4
          try clear hfz13_0
          try clear hfz13_1
          try clear hfz13_2
          try clear hfz13_3
          try clear hfz13_4
          try clear hfz17_0
          try clear hfz17_1
          try clear hfz17_2
          try clear hfz17_3
          try clear hfz17_4
          try clear hfz18_0
          try clear hfz18_1
          try clear hfz18_2
          try clear hfz18_3
          try clear hfz18_4
          try clear hfz20_0
          try clear hfz20_1
          try clear hfz20_2
          try clear hfz20_3
          try clear hfz20_4
          try clear hfz21_0
          try clear hfz21_1
          try clear hfz21_2
          try clear hfz21_3
          try clear hfz21_4
          try clear hfz23_0
          try clear hfz23_1
          try clear hfz23_2
          try clear hfz23_3
          try clear hfz23_4
          try clear hfz24_0
          try clear hfz24_1
          try clear hfz24_2
          try clear hfz24_3
          try clear hfz24_4
          try clear hfz8_0
          try clear hfz8_1
          try clear hfz8_2
          try clear hfz8_3
          try clear hfz8_4
          try clear hfz9_0
          try clear hfz9_1
          try clear hfz9_2
          try clear hfz9_3
          try clear hfz9_4
          try clear p2
          obtain ⟨x5_2, rfl, HA, HK2, BK221, BK222, HB⟩ := hrel
          cases gk with
          | zero => exact absurd HA.out (by simp [paternosterref24_Same.l0])
          | succ k2 =>
            have H := HA.out
            clear HA
            simp only [paternosterref24_Same.l0] at H
            by_cases c26 : x5_2 < (l0_4.length : Int)
            · rw [if_pos c26] at H
              have c26b0 : decide (x5_2 < (l0_4.length : Int)) = true := decide_eq_true c26
              clear c26
              by_cases c27 : 0 ≤ x5_2
              · rw [if_pos c27] at H
                have c27b0 : decide (0 ≤ x5_2) = true := decide_eq_true c27
                clear c27
                by_cases c28 : x5_2 < (l1_4.length : Int)
                · rw [if_pos c28] at H
                  have c28b0 : decide (x5_2 < (l1_4.length : Int)) = true := decide_eq_true c28
                  clear c28
                  by_cases c29 : (!(((rd_T45 l0_4 x5_2).f0) == ((rd_T45 l1_4 x5_2).f0)) || (!(((rd_T45 l0_4 x5_2).f1) == ((rd_T45 l1_4 x5_2).f1)) || (!(((rd_T45 l0_4 x5_2).f2) == ((rd_T45 l1_4 x5_2).f2))))) = true
                  · rw [if_pos c29] at H
                    have c29b0 : (!(((rd_T45 l0_4 x5_2).f0) == ((rd_T45 l1_4 x5_2).f0)) || (!(((rd_T45 l0_4 x5_2).f1) == ((rd_T45 l1_4 x5_2).f1)) || (!(((rd_T45 l0_4 x5_2).f2) == ((rd_T45 l1_4 x5_2).f2))))) = true := c29
                    clear c29
                    obtain rfl := Option.some.inj H
                    have hnb30 := NB221_222.out
                    have hnc30 := NB222_221.out
                    have hcz31_0 : wr.cell? ⟨gb221, 0, none⟩ = some (.bool a0_0) := (blk_cell BK221.out 0).trans rfl
                    have hcz31_1 : wr.cell? ⟨gb221, 1, none⟩ = some (.bool a0_1) := (blk_cell BK221.out 1).trans rfl
                    have hcz31_2 : wr.cell? ⟨gb221, 2, none⟩ = some (.int .i64 a0_2) := (blk_cell BK221.out 2).trans rfl
                    have hcz31_3 : wr.cell? ⟨gb221, 3, none⟩ = some (.int .u64 a0_3) := (blk_cell BK221.out 3).trans rfl
                    have hcz31_4 : wr.cell? ⟨gb221, 4, none⟩ = some (.slice A0_4 l0_4.length c0_4) := (blk_cell BK221.out 4).trans rfl
                    have hfz31_0 := blk_frozen BK221.out 0
                    have hfz31_1 := blk_frozen BK221.out 1
                    have hfz31_2 := blk_frozen BK221.out 2
                    have hfz31_3 := blk_frozen BK221.out 3
                    have hfz31_4 := blk_frozen BK221.out 4
                    have p223 : 0 ≤ (x5_2 : Int) := of_decide_eq_true (by first | (with_reducible assumption) | assumption)
                    have q223 : x5_2 < (l0_4.length : Int) := of_decide_eq_true (by first | (with_reducible assumption) | assumption)
                    obtain ⟨ad223, e223, hx223_0, hx223_1, hx223_2⟩ := at_T45 HR0_4.out x5_2 p223 q223
                    cases e223
                    replace hx223_0 := (HB.out.cell (World.block_lt_of_cell? w _ hx223_0)).trans hx223_0
                    replace hx223_1 := (HB.out.cell (World.block_lt_of_cell? w _ hx223_1)).trans hx223_1
                    replace hx223_2 := (HB.out.cell (World.block_lt_of_cell? w _ hx223_2)).trans hx223_2
                    replace p223 := eq_true p223
                    replace q223 := eq_true q223
                    have hcz32_0 : wr.cell? ⟨gb222, 0, none⟩ = some (.bool a1_0) := (blk_cell BK222.out 0).trans rfl
                    have hcz32_1 : wr.cell? ⟨gb222, 1, none⟩ = some (.bool a1_1) := (blk_cell BK222.out 1).trans rfl
                    have hcz32_2 : wr.cell? ⟨gb222, 2, none⟩ = some (.int .i64 a1_2) := (blk_cell BK222.out 2).trans rfl
                    have hcz32_3 : wr.cell? ⟨gb222, 3, none⟩ = some (.int .u64 a1_3) := (blk_cell BK222.out 3).trans rfl
                    have hcz32_4 : wr.cell? ⟨gb222, 4, none⟩ = some (.slice A1_4 l1_4.length c1_4) := (blk_cell BK222.out 4).trans rfl
                    have hfz32_0 := blk_frozen BK222.out 0
                    have hfz32_1 := blk_frozen BK222.out 1
                    have hfz32_2 := blk_frozen BK222.out 2
                    have hfz32_3 := blk_frozen BK222.out 3
                    have hfz32_4 := blk_frozen BK222.out 4
                    have p224 : 0 ≤ (x5_2 : Int) := of_decide_eq_true (by first | (with_reducible assumption) | assumption)
                    have q224 : x5_2 < (l1_4.length : Int) := of_decide_eq_true (by first | (with_reducible assumption) | assumption)
                    obtain ⟨ad224, e224, hx224_0, hx224_1, hx224_2⟩ := at_T45 HR1_4.out x5_2 p224 q224
                    cases e224
                    replace hx224_0 := (HB.out.cell (World.block_lt_of_cell? w _ hx224_0)).trans hx224_0
                    replace hx224_1 := (HB.out.cell (World.block_lt_of_cell? w _ hx224_1)).trans hx224_1
                    replace hx224_2 := (HB.out.cell (World.block_lt_of_cell? w _ hx224_2)).trans hx224_2
                    replace p224 := eq_true p224
                    replace q224 := eq_true q224
                    go_wp2
                    repeat (go_quiet (fail); try go_wp2)
                    go_ret
                    exact ⟨by first | rfl | (simp [errW_none, errW_some] <;> rfl) | (simp [*, errW_none, errW_some] <;> rfl), by repeat (first | (with_reducible first | exact HB.out | apply below_alloc | apply pw_below_drewN | apply below_drew1 | refine below_set ?_ GE221.out | refine below_set ?_ GE222.out) | exact HB.out)⟩
                  · rw [if_neg c29] at H
                    have c29b0 : (!(((rd_T45 l0_4 x5_2).f0) == ((rd_T45 l1_4 x5_2).f0)) || (!(((rd_T45 l0_4 x5_2).f1) == ((rd_T45 l1_4 x5_2).f1)) || (!(((rd_T45 l0_4 x5_2).f2) == ((rd_T45 l1_4 x5_2).f2))))) = false := by simpa using c29
                    clear c29
                    have H' := Aside0.mk H
                    clear H
                    have hnb33 := NB221_222.out
                    have hnc33 := NB222_221.out
                    have hcz34_0 : wr.cell? ⟨gb221, 0, none⟩ = some (.bool a0_0) := (blk_cell BK221.out 0).trans rfl
                    have hcz34_1 : wr.cell? ⟨gb221, 1, none⟩ = some (.bool a0_1) := (blk_cell BK221.out 1).trans rfl
                    have hcz34_2 : wr.cell? ⟨gb221, 2, none⟩ = some (.int .i64 a0_2) := (blk_cell BK221.out 2).trans rfl
                    have hcz34_3 : wr.cell? ⟨gb221, 3, none⟩ = some (.int .u64 a0_3) := (blk_cell BK221.out 3).trans rfl
                    have hcz34_4 : wr.cell? ⟨gb221, 4, none⟩ = some (.slice A0_4 l0_4.length c0_4) := (blk_cell BK221.out 4).trans rfl
                    have hfz34_0 := blk_frozen BK221.out 0
                    have hfz34_1 := blk_frozen BK221.out 1
                    have hfz34_2 := blk_frozen BK221.out 2
                    have hfz34_3 := blk_frozen BK221.out 3
                    have hfz34_4 := blk_frozen BK221.out 4
                    have p223 : 0 ≤ (x5_2 : Int) := of_decide_eq_true (by first | (with_reducible assumption) | assumption)
                    have q223 : x5_2 < (l0_4.length : Int) := of_decide_eq_true (by first | (with_reducible assumption) | assumption)
                    obtain ⟨ad223, e223, hx223_0, hx223_1, hx223_2⟩ := at_T45 HR0_4.out x5_2 p223 q223
                    cases e223
                    replace hx223_0 := (HB.out.cell (World.block_lt_of_cell? w _ hx223_0)).trans hx223_0
                    replace hx223_1 := (HB.out.cell (World.block_lt_of_cell? w _ hx223_1)).trans hx223_1
                    replace hx223_2 := (HB.out.cell (World.block_lt_of_cell? w _ hx223_2)).trans hx223_2
                    replace p223 := eq_true p223
                    replace q223 := eq_true q223
                    have hcz35_0 : wr.cell? ⟨gb222, 0, none⟩ = some (.bool a1_0) := (blk_cell BK222.out 0).trans rfl
                    have hcz35_1 : wr.cell? ⟨gb222, 1, none⟩ = some (.bool a1_1) := (blk_cell BK222.out 1).trans rfl
                    have hcz35_2 : wr.cell? ⟨gb222, 2, none⟩ = some (.int .i64 a1_2) := (blk_cell BK222.out 2).trans rfl
                    have hcz35_3 : wr.cell? ⟨gb222, 3, none⟩ = some (.int .u64 a1_3) := (blk_cell BK222.out 3).trans rfl
                    have hcz35_4 : wr.cell? ⟨gb222, 4, none⟩ = some (.slice A1_4 l1_4.length c1_4) := (blk_cell BK222.out 4).trans rfl
                    have hfz35_0 := blk_frozen BK222.out 0
                    have hfz35_1 := blk_frozen BK222.out 1
                    have hfz35_2 := blk_frozen BK222.out 2
                    have hfz35_3 := blk_frozen BK222.out 3
                    have hfz35_4 := blk_frozen BK222.out 4
                    have p224 : 0 ≤ (x5_2 : Int) := of_decide_eq_true (by first | (with_reducible assumption) | assumption)
                    have q224 : x5_2 < (l1_4.length : Int) := of_decide_eq_true (by first | (with_reducible assumption) | assumption)
                    obtain ⟨ad224, e224, hx224_0, hx224_1, hx224_2⟩ := at_T45 HR1_4.out x5_2 p224 q224
                    cases e224
                    replace hx224_0 := (HB.out.cell (World.block_lt_of_cell? w _ hx224_0)).trans hx224_0
                    replace hx224_1 := (HB.out.cell (World.block_lt_of_cell? w _ hx224_1)).trans hx224_1
                    replace hx224_2 := (HB.out.cell (World.block_lt_of_cell? w _ hx224_2)).trans hx224_2
                    replace p224 := eq_true p224
                    replace q224 := eq_true q224
                    go_wp2
                    repeat (go_quiet (fail); try go_wp2)
                    go_roundg k2
                    case measure => have := HJ2.out; have := HK2.out; omega
                    case rel => exact ⟨(wrap64 (x5_2 + 1)), (by first | rfl | (simp; done) | (simp [*]; done)), H', ⟨by have := HJ2.out; have := HK2.out; omega⟩, ⟨by (with_reducible repeat (first | refine blk_drewN ?_ _ | refine blk_drew ?_ | refine blk_alloc ?_ _)); exact BK221.out⟩, ⟨by (with_reducible repeat (first | refine blk_drewN ?_ _ | refine blk_drew ?_ | refine blk_alloc ?_ _)); exact BK222.out⟩, ⟨by repeat (first | (with_reducible first | exact HB.out | apply below_alloc | apply pw_below_drewN | apply below_drew1 | refine below_set ?_ GE221.out | refine below_set ?_ GE222.out) | exact HB.out)⟩⟩
                · rw [if_neg c28] at H
                  exact absurd H (by simp)
              · rw [if_neg c27] at H
                exact absurd H (by simp)
            · rw [if_neg c26] at H
              have c26b0 : decide (x5_2 < (l0_4.length : Int)) = false := decide_eq_false c26
              clear c26
              obtain rfl := Option.some.inj H
              have hnb36 := NB221_222.out
              have hnc36 := NB222_221.out
              have hcz37_0 : wr.cell? ⟨gb221, 0, none⟩ = some (.bool a0_0) := (blk_cell BK221.out 0).trans rfl
              have hcz37_1 : wr.cell? ⟨gb221, 1, none⟩ = some (.bool a0_1) := (blk_cell BK221.out 1).trans rfl
              have hcz37_2 : wr.cell? ⟨gb221, 2, none⟩ = some (.int .i64 a0_2) := (blk_cell BK221.out 2).trans rfl
              have hcz37_3 : wr.cell? ⟨gb221, 3, none⟩ = some (.int .u64 a0_3) := (blk_cell BK221.out 3).trans rfl
              have hcz37_4 : wr.cell? ⟨gb221, 4, none⟩ = some (.slice A0_4 l0_4.length c0_4) := (blk_cell BK221.out 4).trans rfl
              have hfz37_0 := blk_frozen BK221.out 0
              have hfz37_1 := blk_frozen BK221.out 1
              have hfz37_2 := blk_frozen BK221.out 2
              have hfz37_3 := blk_frozen BK221.out 3
              have hfz37_4 := blk_frozen BK221.out 4
              go_wp2
              repeat (go_quiet (fail); try go_wp2)
              go_ret
              exact ⟨by first | rfl | (simp [errW_none, errW_some] <;> rfl) | (simp [*, errW_none, errW_some] <;> rfl), by repeat (first | (with_reducible first | exact HB.out | apply below_alloc | apply pw_below_drewN | apply below_drew1 | refine below_set ?_ GE221.out | refine below_set ?_ GE222.out) | exact HB.out)⟩
end Go.Proofs.YtglgipggefpoiaaGreatDoor.PAll
end
section
set_option linter.unusedVariables false
set_option linter.unusedSimpArgs false
namespace Go.Proofs.YtglgipggefpoiaaGreatDoor.SF
open Go.RowKit Go.Sx Go.Proofs.YtglgipggefpoiaaGreatDoor.PAll Go.Proofs.YtglgipggefpoiaaGreatDoorW.PrintWords Go.Proofs.YtglgipggefpoiaaGreatDoorW.PrintLast Go.Proofs.YtglgipggefpoiaaGreatDoorW.PrintMore
theorem evs_fuel : ∀ (n K : Nat) (ws : List ByteArray), ws.length ≤ n → n ≤ K → evsF K ws = evsF n ws
  | n, K, [], _, _ => by rw [evs_nil, evs_nil]
  | 0, K, w :: ws, h, _ => by simp at h
  | n + 1, K, w :: ws, h, hK => by
    obtain ⟨K, rfl⟩ : ∃ j, K = j + 1 := ⟨K - 1, by omega⟩
    have hr := rest_lt (ws := w :: ws) (by simp)
    rw [evsF, evsF, evs_fuel n K (evRest (w :: ws)) (by omega) (by omega)]
theorem same_l0 (m g m' g' : Bool) (c b c' b' : Int) (L : List S45) (hL : L.length ≤ 100000) : ∀ (d i k : Nat), L.length - i = d → i ≤ L.length → d + 1 ≤ k → paternosterref24_Same.l0 k (i : Int) m g c b L m' g' c' b' L = some true
  | 0, i, k + 1, hd, hi, hk => by rw [paternosterref24_Same.l0, if_neg (by omega)]
  | d + 1, i, k + 1, hd, hi, hk => by
    have hw : wrap64 ((i : Int) + 1) = ((i + 1 : Nat) : Int) := by unfold wrap64; omega
    rw [paternosterref24_Same.l0, if_pos (by omega), if_pos (by omega), if_pos (by omega), if_neg (by simp), hw, same_l0 m g m' g' c b c' b' L hL d (i + 1) k (by omega) (by omega) (by omega)]
theorem same_ev (m g : Bool) (c b : Int) (L : List S45) (hL : L.length ≤ 100000) {k : Nat} (hk : 200000 ≤ k) : paternosterref24_Same.f k m g c b L m g c b L = some true := by
  obtain ⟨k, rfl⟩ : ∃ j, k = j + 1 := ⟨k - 1, by omega⟩
  unfold paternosterref24_Same.f
  rw [if_neg (by simp), if_neg (by simp), if_pos rfl, if_pos rfl, paternosterref24_Same.j0, if_neg (by simp)]
  exact same_l0 m g m g c b c b L hL L.length 0 k (by omega) (by omega) (by omega)
end Go.Proofs.YtglgipggefpoiaaGreatDoor.SF
end
section
set_option linter.unusedVariables false
set_option linter.unusedSimpArgs false
namespace Go.Proofs.YtglgipggefpoiaaGreatDoor.SF
open Go.RowKit Go.Sx Go.Proofs.YtglgipggefpoiaaGreatDoor.PAll Go.Proofs.YtglgipggefpoiaaGreatDoorW.PrintWords Go.Proofs.YtglgipggefpoiaaGreatDoorW.PrintLast Go.Proofs.YtglgipggefpoiaaGreatDoorW.PrintMore
theorem join_jn : ∀ ws : List (List UInt8), Lib.join ws [32] = jn ws
  | [] => rfl
  | [w] => by simp [Lib.join, jn, List.intercalate]
  | w :: v :: ws => by
    rw [jn, ← join_jn (v :: ws)]
    simp [Lib.join, List.intercalate]
def noSp (w : ByteArray) : Prop := ∀ c ∈ w.data.toList, c ≠ 32
theorem dg_ne {c : UInt8} (h : isDg c) : c ≠ 32 := by
  rintro rfl; exact absurd h.1 (by decide)
theorem ubs_sp (u : Nat) : noSp (ubs u) := fun c hc => by rw [ubs_data] at hc; exact dg_ne (dec_dg u c hc)
theorem ibs_sp (v : Int) : noSp (ibs v) := fun c hc => by
  rw [ibs_data] at hc
  unfold Lib.itoa at hc
  split at hc
  · rcases List.mem_cons.1 hc with rfl | hc
    · decide
    · exact dg_ne (dec_dg _ c hc)
  · exact dg_ne (dec_dg _ c hc)
theorem formAt_sp {k : Int} {x : ByteArray × Bool × Bool} (h : formAt k = some x) : noSp x.1 ∧ x.1.size ≤ 7 ∧ kindOf x.1 = some (k, x.2.1, x.2.2) := by
  unfold formAt at h
  repeat' (split at h; (first | (rename_i e; subst e; cases h; refine ⟨by unfold noSp; decide, by decide, ?_⟩; unfold kindOf; simp only [tol]; decide) | skip))
  cases h
theorem evW_sp (e : S49) : ∀ w ∈ evW e, noSp w := by
  intro w hw
  unfold evW at hw
  split at hw
  · cases hw
  · rename_i wd c n hf
    rcases List.mem_cons.1 hw with rfl | hw
    · exact (formAt_sp hf).1
    · rcases List.mem_append.1 hw with hw | hw
      · split at hw
        · rw [List.mem_singleton.1 hw]; exact ibs_sp _
        · cases hw
      · split at hw
        · rw [List.mem_singleton.1 hw]; exact ibs_sp _
        · cases hw
theorem headW_sp (m g : Bool) (c : Int) (b : Nat) : ∀ w ∈ headW m g c b, noSp w := by
  intro w hw
  simp only [headW, List.mem_cons, List.not_mem_nil, or_false] at hw
  rcases hw with rfl | rfl | rfl | rfl
  · cases m <;> (unfold noSp; decide)
  · cases g <;> (unfold noSp; decide)
  · exact ibs_sp _
  · exact ubs_sp _
theorem putW_sp (m g : Bool) (c : Int) (b : Nat) (l : List S49) : ∀ w ∈ putW m g c b l, noSp w := by
  intro w hw
  rcases List.mem_append.1 hw with hw | hw
  · exact headW_sp m g c b w hw
  · obtain ⟨e, _, he⟩ := List.mem_flatMap.1 hw
    exact evW_sp e w he
theorem putS_data (m g : Bool) (c : Int) (b : Nat) (l : List S49) : (putS m g c b l).data.toList = jn ((putW m g c b l).map (·.data.toList)) := by
  unfold putS
  rw [join_jn]
theorem map_bl (ws : List ByteArray) : (ws.map (·.data.toList)).map bl = ws := by
  rw [List.map_map]
  have : (bl ∘ fun x : ByteArray => x.data.toList) = id := by funext x; exact bl_data x
  rw [this, List.map_id]
theorem put_spl (m g : Bool) (c : Int) (b : Nat) (l : List S49) : wspl (putS m g c b l).data.toList = (putW m g c b l).map (·.data.toList) := by
  rw [putS_data]
  refine spl_jn (by unfold putW headW; simp) (fun w hw => ?_)
  obtain ⟨x, hx, rfl⟩ := List.mem_map.1 hw
  exact putW_sp m g c b l x hx
theorem put_words (m g : Bool) (c : Int) (b : Nat) (l : List S49) : splW (putS m g c b l) = putW m g c b l := by rw [splW_spl, put_spl, map_bl]
def norm (e : S49) : Option S49 := match formAt e.f0 with
  | none => none
  | some (_, c, n) => some ⟨e.f0, if c then e.f1 else 0, if n then e.f2 else 0⟩
theorem numP_ibs {v : Int} (h : i64r v) : numP (ibs v) = some v := by
  rw [numP_idec, ibs_data]
  unfold Lib.itoa
  unfold i64r at h
  split
  · rename_i hn
    simp only [idec, if_true]
    rw [udec_some.2 ⟨show v.natAbs ≤ 9223372036854775808 by omega, rfl⟩]
    simp only
    rw [if_neg (by omega)]
    congr 1; omega
  · rename_i hn
    obtain ⟨x, t, e⟩ := List.exists_cons_of_ne_nil (dec_ne v.toNat)
    have hx : ¬ x = 45 := by
      rintro rfl
      exact absurd (dec_dg v.toNat 45 (by rw [e]; simp)).1 (by decide)
    have hu : udec 9223372036854775807 (Lib.decDigits v.toNat) = some v.toNat := udec_some.2 ⟨by omega, rfl⟩
    rw [e] at hu ⊢
    rw [idec, if_neg hx, hu]
    simp only [Option.map_some]
    congr 1; omega
theorem uintP_ubs {u : Nat} (h : u < 18446744073709551616) : uintP (ubs u) = some u := by
  rw [uintP_udec, ubs_data]
  exact udec_some.2 ⟨by omega, rfl⟩
theorem ev_app (e : S49) (he : i64r e.f1 ∧ i64r e.f2) (ws : List ByteArray) {wd : ByteArray} {c n : Bool} (hf : formAt e.f0 = some (wd, c, n)) :
    evRest (evW e ++ ws) = ws ∧ evBad false (evW e ++ ws) = false ∧ evVal (evW e ++ ws) = ⟨e.f0, if c then e.f1 else 0, if n then e.f2 else 0⟩ := by
  have hk := (formAt_sp hf).2.2
  simp only at hk
  have hw : evW e = wd :: ((if c then [ibs e.f1] else []) ++ (if n then [ibs e.f2] else [])) := by unfold evW; rw [hf]
  have nb : ∀ (x : Bool) (ws : List ByteArray), numBad x ws = (x || ws.isEmpty || (numP (hdB ws)).isNone) := fun _ _ => rfl
  have h1 := numP_ibs he.1
  have h2 := numP_ibs he.2
  rw [hw]
  cases c <;> cases n <;> simp only [Bool.false_eq_true, if_false, if_true, List.nil_append, List.append_nil, List.cons_append] <;> refine ⟨?_, ?_, ?_⟩ <;> (first | unfold evRest | unfold evBad | unfold evVal) <;> simp only [hdB, hk, nb, h1, h2, List.tail_cons, List.isEmpty_cons, Option.isNone_some, Option.getD_some, Bool.or_self, Bool.false_eq_true, if_false, if_true]
theorem evs_app : ∀ (l : List S49) (he : ∀ e ∈ l, i64r e.f1 ∧ i64r e.f2) (ws : List ByteArray) (K : Nat), (l.flatMap evW ++ ws).length ≤ K → evsF K (l.flatMap evW ++ ws) = (evsF ws.length ws).map (l.filterMap norm ++ ·)
  | [], _, ws, K, hK => by
    rw [List.flatMap_nil, List.nil_append] at hK ⊢
    rw [evs_fuel ws.length K ws (Nat.le_refl _) hK]
    simp
  | e :: l, he, ws, K, hK => by
    rw [List.flatMap_cons, List.append_assoc] at hK ⊢
    have ih := evs_app l (fun x hx => he x (List.mem_cons_of_mem _ hx)) ws
    cases hf : formAt e.f0 with
    | none =>
      have hw : evW e = [] := by unfold evW; rw [hf]
      have hn : norm e = none := by unfold norm; rw [hf]
      rw [hw, List.nil_append] at hK ⊢
      rw [ih K hK, List.filterMap_cons, hn]
    | some x =>
      obtain ⟨wd, c, n⟩ := x
      obtain ⟨r1, r2, r3⟩ := ev_app e (he e (by simp)) (l.flatMap evW ++ ws) hf
      have hn : norm e = some ⟨e.f0, if c then e.f1 else 0, if n then e.f2 else 0⟩ := by unfold norm; rw [hf]
      have hw : ∃ r, evW e = wd :: r := by unfold evW; rw [hf]; exact ⟨_, rfl⟩
      obtain ⟨r, hr⟩ := hw
      have hne : evW e ++ (l.flatMap evW ++ ws) = wd :: (r ++ (l.flatMap evW ++ ws)) := by rw [hr]; rfl
      have hlen := rest_lt (ws := evW e ++ (l.flatMap evW ++ ws)) (by rw [hne]; simp)
      rw [r1] at hlen
      obtain ⟨K, rfl⟩ : ∃ j, K = j + 1 := ⟨K - 1, by omega⟩
      have hst : evsF (K + 1) (evW e ++ (l.flatMap evW ++ ws)) = if evBad false (evW e ++ (l.flatMap evW ++ ws)) then none else (evsF K (evRest (evW e ++ (l.flatMap evW ++ ws)))).map (evVal (evW e ++ (l.flatMap evW ++ ws)) :: ·) := by rw [hne, evsF]
      rw [hst, r1, r2, r3, ih K (by omega), List.filterMap_cons, hn]
      simp only [Bool.false_eq_true, if_false]
      cases evsF ws.length ws with
      | none => rfl
      | some L => rfl
theorem tol_ite (b : Bool) (x y : ByteArray) (hxy : ¬ y.data.toList = x.data.toList) : ((if b then x else y).toList == x.toList) = b := by
  rw [tol_eq]
  cases b
  · simp [hxy]
  · simp
theorem head_put (m g : Bool) {c : Int} {b : Nat} (hc : i64r c) (hb : b < 18446744073709551616) (r : List ByteArray) : headBad (headW m g c b ++ r) = false := by
  unfold headBad numBad isBad headW
  simp only [List.cons_append, List.nil_append, hdB, List.tail_cons, List.isEmpty_cons, numP_ibs hc, uintP_ubs hb, Option.isNone_some, Bool.or_false, Bool.false_or, tol_eq]
  cases m <;> cases g <;> decide
theorem tick_put (m g : Bool) {c : Int} {b : Nat} (hc : i64r c) (hb : b < 18446744073709551616) (r : List ByteArray) : tickW (headW m g c b ++ r) = (evsF (headW m g c b ++ r).length r).map fun L => (m, g, c, b, L) := by
  unfold tickW
  rw [if_neg (by simp [headW]), head_put m g hc hb, if_neg (by simp)]
  have h1 : ((if m then (⟨#[109, 97, 105, 110, 115]⟩ : ByteArray) else noneB).toList == mainsB.toList) = m := tol_ite m mainsB noneB (by decide)
  have h2 : ((if g then (⟨#[103, 101, 110]⟩ : ByteArray) else noneB).toList == genB.toList) = g := tol_ite g genB noneB (by decide)
  have e1 : hdB (headW m g c b ++ r) = if m then (⟨#[109, 97, 105, 110, 115]⟩ : ByteArray) else noneB := rfl
  have e2 : hdB (headW m g c b ++ r).tail = if g then (⟨#[103, 101, 110]⟩ : ByteArray) else noneB := rfl
  have e3 : hdB (headW m g c b ++ r).tail.tail = ibs c := rfl
  have e4 : hdB (headW m g c b ++ r).tail.tail.tail = ubs b := rfl
  have e5 : (headW m g c b ++ r).tail.tail.tail.tail = r := rfl
  rw [e1, e2, e3, e4, e5, h1, h2, numP_ibs hc, uintP_ubs hb]
  rfl
theorem jn_len (ws : List ByteArray) (M : Nat) (h : ∀ w ∈ ws, w.size ≤ M) : (jn (ws.map (·.data.toList))).length ≤ ws.length * (M + 1) := by
  induction ws with
  | nil => simp [jn]
  | cons w ws ih =>
    have hw : w.data.toList.length ≤ M := h w (by simp)
    have := ih (fun x hx => h x (List.mem_cons_of_mem _ hx))
    cases ws with
    | nil => simp only [List.map_cons, List.map_nil, jn, List.length_singleton]; omega
    | cons v ws =>
      simp only [List.map_cons, jn, List.length_append, List.length_cons] at this ⊢
      rw [Nat.add_mul] at this ⊢
      rw [Nat.add_mul]
      omega
theorem evW_few (e : S49) (he : i64r e.f1 ∧ i64r e.f2) : (evW e).length ≤ 3 ∧ ∀ w ∈ evW e, w.size ≤ 21 := by
  unfold evW
  split
  · exact ⟨by simp, fun w hw => by cases hw⟩
  · rename_i wd c n hf
    refine ⟨by cases c <;> cases n <;> simp, fun w hw => ?_⟩
    rcases List.mem_cons.1 hw with rfl | hw
    · have := (formAt_sp hf).2.1; simp only at this; omega
    · rcases List.mem_append.1 hw with hw | hw
      · split at hw
        · rw [List.mem_singleton.1 hw]; exact ibs_size he.1
        · cases hw
      · split at hw
        · rw [List.mem_singleton.1 hw]; exact ibs_size he.2
        · cases hw
theorem put_len (m g : Bool) {c : Int} {b : Nat} {l : List S49} (hc : i64r c) (hb : b < 18446744073709551616) (he : ∀ e ∈ l, i64r e.f1 ∧ i64r e.f2) : (putS m g c b l).size ≤ 66 * l.length + 88 := by
  have h1 : (l.flatMap evW).length ≤ 3 * l.length := by
    clear hc hb
    induction l with
    | nil => simp
    | cons e l ih =>
      have := (evW_few e (he e (by simp))).1
      have := ih (fun x hx => he x (List.mem_cons_of_mem _ hx))
      rw [List.flatMap_cons, List.length_append, List.length_cons]
      omega
  have h2 : ∀ w ∈ putW m g c b l, w.size ≤ 21 := by
    intro w hw
    rcases List.mem_append.1 hw with hw | hw
    · simp only [headW, List.mem_cons, List.not_mem_nil, or_false] at hw
      rcases hw with rfl | rfl | rfl | rfl
      · cases m <;> decide
      · cases g <;> decide
      · exact ibs_size hc
      · have := ubs_size hb; omega
    · obtain ⟨e, h1, h2⟩ := List.mem_flatMap.1 hw
      exact (evW_few e (he e h1)).2 w h2
  have h3 := jn_len (putW m g c b l) 21 h2
  have h4 : (putW m g c b l).length = 4 + (l.flatMap evW).length := by unfold putW headW; simp; omega
  have h5 : (putS m g c b l).size = (jn ((putW m g c b l).map (·.data.toList))).length := by rw [← putS_data]; simp
  omega
theorem tick_back (m g : Bool) {c : Int} {b : Nat} {l : List S49} (hc : i64r c) (hb : b < 18446744073709551616) (he : ∀ e ∈ l, i64r e.f1 ∧ i64r e.f2) (hl : l.length ≤ 40) : tickP (putS m g c b l) = ((m, g, c, b, l.filterMap norm), 0) := by
  have := put_len m g hc hb he
  unfold tickP
  rw [if_neg (by omega), put_words]
  unfold putW
  rw [tick_put m g hc hb]
  have h2 := evs_app l he [] (headW m g c b ++ l.flatMap evW).length (by simp)
  rw [List.append_nil] at h2
  rw [h2]
  simp [evsF]
theorem norm_put (l : List S49) : (l.filterMap norm).flatMap evW = l.flatMap evW := by
  induction l with
  | nil => rfl
  | cons e l ih =>
    rw [List.filterMap_cons, List.flatMap_cons, ← ih]
    unfold norm
    cases hf : formAt e.f0 with
    | none => simp [evW, hf]
    | some x =>
      obtain ⟨wd, c, n⟩ := x
      simp only [List.flatMap_cons]
      congr 1
      simp only [evW, hf]
      cases c <;> cases n <;> simp
theorem put_norm (m g : Bool) (c : Int) (b : Nat) (l : List S49) : putS m g c b (l.filterMap norm) = putS m g c b l := by
  unfold putS putW; rw [norm_put]
theorem norm_rng {l : List S49} (he : ∀ e ∈ l, i64r e.f1 ∧ i64r e.f2) : ∀ e ∈ l.filterMap norm, i64r e.f1 ∧ i64r e.f2 := by
  intro e h
  obtain ⟨x, hx, hn⟩ := List.mem_filterMap.1 h
  unfold norm at hn
  split at hn
  · cases hn
  · rename_i wd c n hf
    cases hn
    have := he x hx
    have z : i64r 0 := by unfold i64r; decide
    cases c <;> cases n <;> simp only [Bool.false_eq_true, if_false, if_true] <;> first | exact this | exact ⟨z, z⟩ | exact ⟨z, this.2⟩ | exact ⟨this.1, z⟩
end Go.Proofs.YtglgipggefpoiaaGreatDoor.SF
end
section
namespace Go.Proofs.YtglgipggefpoiaaGreatDoor.SF
open Go.RowKit Go.Sx Go.Proofs.YtglgipggefpoiaaGreatDoor.PAll Go.Proofs.YtglgipggefpoiaaGreatDoorW.PrintWords Go.Proofs.YtglgipggefpoiaaGreatDoorW.PrintLast Go.Proofs.YtglgipggefpoiaaGreatDoorW.PrintMore
set_option linter.unusedVariables false
set_option linter.unusedSimpArgs false
set_option maxRecDepth 100000
def c45 (e : S45) : List Value := [.int .i64 e.f0, .int .i64 e.f1, .int .i64 e.f2]
def RowQ (w : World) (q : Gh) (l : List S45) : Prop := l.length ≤ q.2 ∧ Kd.C k45 w q.1 l.length l
theorem RowQ.below {w w' : World} {q : Gh} {l : List S45} (h : RowQ w q l) (hb : Below w.heap.size w w') : RowQ w' q l := ⟨h.1, Kd.C_below h.2 hb⟩
theorem c45_at : ∀ {L : List S45} {j i : Nat} {e : S45} {u : Value}, L[j]? = some e → (c45 e)[i]? = some u → (L.flatMap c45)[j * 3 + i]? = some u
  | [], j, i, e, u, h, _ => by simp at h
  | x :: L, 0, i, e, u, h, hu => by
    cases h
    have hi : i < 3 := (List.getElem?_eq_some_iff.1 hu).1
    rw [List.flatMap_cons, Nat.zero_mul, Nat.zero_add, List.getElem?_append_left (by simpa [c45] using hi)]
    exact hu
  | x :: L, j + 1, i, e, u, h, hu => by
    have := c45_at (L := L) (j := j) (by simpa using h) hu
    rw [List.flatMap_cons, List.getElem?_append_right (by simp [c45]; omega)]
    rw [show (j + 1) * 3 + i - (c45 x).length = j * 3 + i by simp [c45]; omega]
    exact this
theorem rowQ_of {w : World} {base : Nat} {A : Option Addr} {n c : Nat} {L : List S45} (h : w.ownsRow base 45 3 (.slice A n c) n (L.flatMap c45)) (hn : n = L.length) (hb : L.length ≤ 1000000) : RowQ w (A, c) L := by
  subst hn
  rcases h.2 with ⟨e, e0⟩ | ⟨g, cap, cur, e, hg, hh, hle, hm, hs, ht⟩
  · have : L = [] := List.eq_nil_of_length_eq_zero e0
    subst this
    exact ⟨Nat.zero_le _, rfl, by decide, fun h => absurd h (by decide)⟩
  · cases e
    refine ⟨hle, rfl, by omega, fun _ => ⟨_, rfl, fun j x hx => ⟨c45 x, rfl, k45_mk w x, fun i u hu => ?_⟩⟩⟩
    have h1 := c45_at hx hu
    rw [← ht, List.getElem?_take] at h1
    split at h1
    · show w.cell? ((⟨g, 0, none⟩ : Addr).add (j * 3 + i)) = some u
      rw [Addr.add_lit, Nat.zero_add, cell_of_row w g _ cur 45 (0, 0) hh]; simpa using h1
    · cases h1
theorem wrap_nat {n : Nat} (h : n + 1 < 9223372036854775808) : IntKind.i64.wrap ((n : Int) + 1) = ((n + 1 : Nat) : Int) := by
  simp only [IntKind.wrap, IntKind.signed, IntKind.bits]; simp; omega
theorem take45 {l : List S49} {j : Nat} {p : S49} (h : l[j]? = some p) : ((l.take (j + 1)).map to45).flatMap c45 = ((l.take j).map to45).flatMap c45 ++ [.int .i64 p.f0, .int .i64 p.f1, .int .i64 p.f2] := by
  rw [List.take_add_one, h]
  simp [c45, to45]
theorem of_calls (m g : Bool) (c : Int) (b : Nat) (q : Gh) (l : List S49) (w : World) (hr : RowE w q l) (hl : l.length ≤ 100000) : Calls Tryz.prog 10 #[.agg #[.bool m, .bool g, .int .i64 c, .int .u64 b, .slice q.1 l.length q.2]] w fun e w' => ∃ i : Gh, e = .returned (.agg #[.bool m, .bool g, .int .i64 c, .int .u64 b, .slice i.1 l.length i.2]) ∧ HeapOK w [.own 0 45 3 (.slice i.1 l.length i.2) l.length ((l.map to45).flatMap c45), old w] w' := by
  refine enter (w0 := w) (hp := [old w]) (env := [(0, .agg #[.bool m, .bool g, .int .i64 c, .int .u64 b, .slice q.1 l.length q.2])]) Tryz.func10 rfl 46 rfl (by simp) rfl (HeapOK.start _) ?_
  refine wc_seq ?_
  refine wc_region ?_
  refine wl_box rfl rfl rfl (by decide) rfl rfl (fun b1 => ?_)
  refine wl_alloc rfl rfl rfl (by decide) Zr31 (fun b2 => ?_)
  refine wl_nil ?_
  refine fq_then ?_
  refine wc_seq ?_
  refine wc_region ?_
  refine wl_q (q_fa (o1 := 0) rfl rfl Fo25_0 rfl) rfl rfl (by decide) ?_
  refine wl_q (q_load rfl rfl Mn4 (reads1 (i := 1) rfl rfl)) rfl rfl (by decide) ?_
  refine wl_q (q_fa (o1 := 1) rfl rfl Fo25_1 rfl) rfl rfl (by decide) ?_
  refine wl_q (q_load rfl rfl Mn4 (reads1 (i := 1) rfl rfl)) rfl rfl (by decide) ?_
  refine wl_q (q_fa (o1 := 2) rfl rfl Fo25_2 rfl) rfl rfl (by decide) ?_
  refine wl_q (q_load rfl rfl Mn3 (reads1 (i := 1) rfl rfl)) rfl rfl (by decide) ?_
  refine wl_q (q_fa (o1 := 3) rfl rfl Fo25_3 rfl) rfl rfl (by decide) ?_
  refine wl_q (q_load rfl rfl Mn22 (reads1 (i := 1) rfl rfl)) rfl rfl (by decide) ?_
  refine wl_q (q_build rfl rfl (built_of Zr31 Pl31 (by simp only [fillL, List.map_cons, List.map_nil, Value.cells, List.getElem?_cons_zero, List.getElem?_cons_succ, List.length_cons, List.length_nil, Nat.reduceAdd, Nat.reduceLeDiff, Nat.le_refl, and_self, and_true, true_and, if_true, Nat.zero_add, spl, List.take_succ_cons, List.take_zero, List.take_nil, List.drop_succ_cons, List.drop_zero, List.drop_nil, List.nil_append, List.cons_append, List.append_nil] <;> rfl))) rfl rfl (by decide) ?_
  refine wl_alloc rfl rfl rfl (by decide) Zr31 (fun b3 => ?_)
  refine wl_store (i := 0) rfl rfl rfl rfl rfl rfl Sz31 rfl rfl (by simp) (by simp [Value.oneCell', Sx.spl]) (by first | (simp only [List.take_succ_cons, List.take_zero, List.take_nil, List.drop_succ_cons, List.drop_zero, List.drop_nil, List.nil_append, List.cons_append, List.append_nil, List.length_cons, List.length_nil, Nat.reduceAdd, Nat.zero_add]; rfl) | rfl) (by first | (simp only [List.set_cons_zero, List.set_cons_succ]; rfl) | rfl) ?_
  refine wl_nil ?_
  refine fq_then ?_
  refine wc_seq ?_
  refine wc_seq ?_
  refine wc_region ?_
  refine wl_q (q_assign rfl rfl) rfl rfl (by decide) ?_
  refine wl_nil ?_
  refine fq_then ?_
  refine wc_block ?_
  refine wc_own (E := 45) (sz := 3) ?_
  refine wc_loop (ι := (Nat × Gh)) (fun i => [(1, .pointer (some ⟨b1, 0, none⟩)), (2, .pointer (some ⟨b2, 0, none⟩)), (3, .pointer (some ⟨b3, 0, none⟩)), (4, .int .i64 (i.1 : Nat))]) (fun i => [.own 0 45 3 (.slice i.2.1 i.1 i.2.2) i.1 (((l.take i.1).map to45).flatMap c45), .blk b3 [.bool m, .bool g, .int .i64 c, .int .u64 b, .slice i.2.1 i.1 i.2.2] 31, .blk b2 [.bool false, .bool false, .int .i64 0, .int .u64 0, .slice none 0 0] 31, .blk b1 [.bool m, .bool g, .int .i64 c, .int .u64 b, .slice q.1 l.length q.2] 25, old w]) (fun i => i.1 ≤ l.length) (fun i => l.length - i.1) (0, (none, 0)) (Nat.zero_le _) ⟨List.forall_mem_cons.2 ⟨rfl, List.forall_mem_cons.2 ⟨rfl, List.forall_mem_cons.2 ⟨rfl, List.forall_mem_cons.2 ⟨rfl, fun _ h => (by cases h)⟩⟩⟩⟩, List.Sublist.refl _⟩ ?_
  rintro ⟨j, qw⟩ hj
  simp only at hj
  dsimp only
  refine wc_seq ?_
  refine wc_seq ?_
  refine wc_region ?_
  refine wl_q (q_move rfl rfl) rfl rfl (by decide) ?_
  refine wl_q (q_fa (o1 := 4) rfl rfl Fo25_4 rfl) rfl rfl (by decide) ?_
  refine wl_q (q_load rfl rfl Mn23 (reads1 (i := 3) rfl rfl)) rfl rfl (by decide) ?_
  refine wl_q (q_len rfl rfl Tryz.underlying23) rfl rfl (by decide) ?_
  refine wl_q (q_bin rfl rfl rfl rfl) rfl rfl (by decide) ?_
  refine wl_nil ?_
  refine fq_then ?_
  refine wc_cond rfl (fun h18 => ?_) (fun h18 => ?_)
  · skip
    have q18 := h18
    try simp only [decide_eq_true_eq, decide_eq_false_iff_not, beq_iff_eq, beq_eq_false_iff_ne, bne_iff_ne, ne_eq, bne_eq_false_iff_eq, Int.not_lt, Int.not_le] at q18
    obtain ⟨p, hp⟩ : ∃ p, l[j]? = some p := ⟨_, List.getElem?_eq_getElem (by omega)⟩
    obtain ⟨ad, hA, hrd⟩ := hr.at hp
    have wj : IntKind.i64.wrap ((j : Int) + 1) = ((j + 1 : Nat) : Int) := wrap_nat (by omega)
    refine wc_skip ?_
    refine fq_then ?_
    refine wc_seq ?_
    refine wc_block ?_
    refine wc_any Fol (any_drawG (ι := Gh) 25 2 [(21, fun X => [Sx.Item.blk (X 21).2 [Value.int .i64 p.f0, .int .i64 p.f1, .int .i64 p.f2] 45]), (22, fun X => [Sx.Item.own 0 45 3 (.slice (X 22).1 (j + 1) (X 22).2) (j + 1) (((l.take j).map to45).flatMap c45 ++ [Value.int .i64 p.f0, .int .i64 p.f1, .int .i64 p.f2])]), (24, fun X => [Sx.Item.blk b3 [.bool m, .bool g, .int .i64 c, .int .u64 b, .slice (X 22).1 (j + 1) (X 22).2] 31])] [⟨[], [], []⟩, ⟨[], [25, 26], []⟩, ⟨[], [], []⟩, ⟨[], [25, 26], []⟩, ⟨[], [], []⟩, ⟨[], [], []⟩, ⟨[], [], []⟩, ⟨[], [25, 26], []⟩, ⟨[], [], []⟩, ⟨[], [25, 26], []⟩, ⟨[], [], []⟩, ⟨[], [], []⟩, ⟨[], [], []⟩, ⟨[], [25, 26], []⟩, ⟨[], [], []⟩, ⟨[], [25, 26], []⟩, ⟨[], [], []⟩, ⟨[], [], []⟩, ⟨[], [], []⟩, ⟨[], [25, 26], []⟩, ⟨[], [], []⟩, ⟨[], [], []⟩, ⟨[21, 25], [], [21]⟩, ⟨[], [], [21, 22]⟩, ⟨[26], [], [21, 22]⟩] (by kernel_rfl) (ChainG.yield [] [] (fun X => q_fa (o1 := 4) rfl rfl Fo31_4 rfl) rfl rfl (fun _ => rfl) (fun _ _ => rfl) (fun X Y h0 h => ⟨by first | rfl | simp only [h0], by first | rfl | simp only [h0]⟩) (ChainG.yield [25, 26] [] (fun X => q_load rfl rfl Mn29 (reads1 (i := 1) rfl rfl)) rfl rfl (fun _ => rfl) (fun _ _ => rfl) (fun X Y h0 h => ⟨by first | rfl | simp only [h0], by first | rfl | simp only [h0]⟩) (ChainG.yield [] [] (fun X => q_fa (o1 := 4) rfl rfl Fo25_4 rfl) rfl rfl (fun _ => rfl) (fun _ _ => rfl) (fun X Y h0 h => ⟨by first | rfl | simp only [h0], by first | rfl | simp only [h0]⟩) (ChainG.yield [25, 26] [] (fun X => q_load rfl rfl Mn23 (reads1 (i := 3) rfl rfl)) rfl rfl (fun _ => rfl) (fun _ _ => rfl) (fun X Y h0 h => ⟨by first | rfl | simp only [h0], by first | rfl | simp only [h0]⟩) (ChainG.yield [] [] (fun X => q_move rfl rfl) rfl rfl (fun _ => rfl) (fun _ _ => rfl) (fun X Y h0 h => ⟨by first | rfl | simp only [h0], by first | rfl | simp only [h0]⟩) (ChainG.yield [] [] (fun X => q_indexO rfl rfl hA rfl Tryz.underlying23 Sz49 (by omega) (by omega)) rfl rfl (fun _ => rfl) (fun _ _ => rfl) (fun X Y h0 h => ⟨by first | rfl | simp only [h0], by first | rfl | simp only [h0]⟩) (ChainG.yield [] [] (fun X => q_fax rfl rfl Fo49_0 rfl) rfl rfl (fun _ => rfl) (fun _ _ => rfl) (fun X Y h0 h => ⟨by first | rfl | simp only [h0], by first | rfl | simp only [h0]⟩) (ChainG.yield [25, 26] [] (fun X => q_load rfl rfl Mn3 (reads_old (by simp) (cell_zero (CellsAt.one (ad := ad) (cs := [.int .i64 p.f0, .int .i64 p.f1, .int .i64 p.f2]) (j := 0) hrd rfl)))) rfl rfl (fun _ => rfl) (fun _ _ => rfl) (fun X Y h0 h => ⟨by first | rfl | simp only [h0], by first | rfl | simp only [h0]⟩) (ChainG.yield [] [] (fun X => q_fa (o1 := 4) rfl rfl Fo25_4 rfl) rfl rfl (fun _ => rfl) (fun _ _ => rfl) (fun X Y h0 h => ⟨by first | rfl | simp only [h0], by first | rfl | simp only [h0]⟩) (ChainG.yield [25, 26] [] (fun X => q_load rfl rfl Mn23 (reads1 (i := 3) rfl rfl)) rfl rfl (fun _ => rfl) (fun _ _ => rfl) (fun X Y h0 h => ⟨by first | rfl | simp only [h0], by first | rfl | simp only [h0]⟩) (ChainG.yield [] [] (fun X => q_move rfl rfl) rfl rfl (fun _ => rfl) (fun _ _ => rfl) (fun X Y h0 h => ⟨by first | rfl | simp only [h0], by first | rfl | simp only [h0]⟩) (ChainG.yield [] [] (fun X => q_indexO rfl rfl hA rfl Tryz.underlying23 Sz49 (by omega) (by omega)) rfl rfl (fun _ => rfl) (fun _ _ => rfl) (fun X Y h0 h => ⟨by first | rfl | simp only [h0], by first | rfl | simp only [h0]⟩) (ChainG.yield [] [] (fun X => q_fax rfl rfl Fo49_1 rfl) rfl rfl (fun _ => rfl) (fun _ _ => rfl) (fun X Y h0 h => ⟨by first | rfl | simp only [h0], by first | rfl | simp only [h0]⟩) (ChainG.yield [25, 26] [] (fun X => q_load rfl rfl Mn3 (reads_old (by simp) (cell_zero (CellsAt.one (ad := ad) (cs := [.int .i64 p.f0, .int .i64 p.f1, .int .i64 p.f2]) (j := 1) hrd rfl)))) rfl rfl (fun _ => rfl) (fun _ _ => rfl) (fun X Y h0 h => ⟨by first | rfl | simp only [h0], by first | rfl | simp only [h0]⟩) (ChainG.yield [] [] (fun X => q_fa (o1 := 4) rfl rfl Fo25_4 rfl) rfl rfl (fun _ => rfl) (fun _ _ => rfl) (fun X Y h0 h => ⟨by first | rfl | simp only [h0], by first | rfl | simp only [h0]⟩) (ChainG.yield [25, 26] [] (fun X => q_load rfl rfl Mn23 (reads1 (i := 3) rfl rfl)) rfl rfl (fun _ => rfl) (fun _ _ => rfl) (fun X Y h0 h => ⟨by first | rfl | simp only [h0], by first | rfl | simp only [h0]⟩) (ChainG.yield [] [] (fun X => q_move rfl rfl) rfl rfl (fun _ => rfl) (fun _ _ => rfl) (fun X Y h0 h => ⟨by first | rfl | simp only [h0], by first | rfl | simp only [h0]⟩) (ChainG.yield [] [] (fun X => q_indexO rfl rfl hA rfl Tryz.underlying23 Sz49 (by omega) (by omega)) rfl rfl (fun _ => rfl) (fun _ _ => rfl) (fun X Y h0 h => ⟨by first | rfl | simp only [h0], by first | rfl | simp only [h0]⟩) (ChainG.yield [] [] (fun X => q_fax rfl rfl Fo49_2 rfl) rfl rfl (fun _ => rfl) (fun _ _ => rfl) (fun X Y h0 h => ⟨by first | rfl | simp only [h0], by first | rfl | simp only [h0]⟩) (ChainG.yield [25, 26] [] (fun X => q_load rfl rfl Mn3 (reads_old (by simp) (cell_zero (CellsAt.one (ad := ad) (cs := [.int .i64 p.f0, .int .i64 p.f1, .int .i64 p.f2]) (j := 2) hrd rfl)))) rfl rfl (fun _ => rfl) (fun _ _ => rfl) (fun X Y h0 h => ⟨by first | rfl | simp only [h0], by first | rfl | simp only [h0]⟩) (ChainG.yield [] [] (fun X => q_build rfl rfl (built_of Zr45 Pl45 (by simp only [fillL, List.map_cons, List.map_nil, Value.cells, List.getElem?_cons_zero, List.getElem?_cons_succ, List.length_cons, List.length_nil, Nat.reduceAdd, Nat.reduceLeDiff, Nat.le_refl, and_self, and_true, true_and, if_true, Nat.zero_add, spl, List.take_succ_cons, List.take_zero, List.take_nil, List.drop_succ_cons, List.drop_zero, List.drop_nil, List.nil_append, List.cons_append, List.append_nil] <;> rfl))) rfl rfl (fun _ => rfl) (fun _ _ => rfl) (fun X Y h0 h => ⟨by first | rfl | simp only [h0], by first | rfl | simp only [h0]⟩) (ChainG.mk (fun b => .slice (some ⟨b, 0, none⟩) 1 1) [] (fun X => om_buildSlice rfl rfl Tryz.underlying29 (built_one Sz45 (by decide) Zs45 (by decide) rfl rfl)) rfl rfl (fun _ => rfl) (fun _ _ => rfl) (fun X Y h0 h => ⟨by first | rfl | simp only [h0], by first | rfl | (show ([Sx.Item.blk (X 21).2 [Value.int .i64 p.f0, .int .i64 p.f1, .int .i64 p.f2] 45] : List Sx.Item) = [Sx.Item.blk (Y 21).2 [Value.int .i64 p.f0, .int .i64 p.f1, .int .i64 p.f2] 45]; simp only [h0])⟩) (ChainG.ope (fun (X : Nat → Gh) => .slice (X 22).1 (j + 1) (X 22).2) [21, 25] [21] (fun X => (oe_appendR (i := 1) (m := 1) (news := [Value.int .i64 p.f0, .int .i64 p.f1, .int .i64 p.f2]) rfl Tryz.underlying29 Ap45 (by decide) rfl rfl rfl (fun R w1 hw1 _ => ⟨_, rfl, fun k u hu => by (have hg := readsAll (w0 := w) (hp := _) (i := 0) (cs := [Value.int .i64 p.f0, .int .i64 p.f1, .int .i64 p.f2]) (T := 45) rfl w1 hw1 k u hu; exact hg)⟩) rfl (by simp [Value.oneCell']) (by unfold maxLen; omega) (by omega)).less (fun _ => List.sublist_cons_self _ _)) rfl rfl (fun X Y h0 h => ⟨by first | rfl | (show (.slice (X 22).1 (j + 1) (X 22).2 : Value) = .slice (Y 22).1 (j + 1) (Y 22).2; simp only [h0, h 21 (by decide)]), by first | rfl | (show ([Sx.Item.own 0 45 3 (.slice (X 22).1 (j + 1) (X 22).2) (j + 1) (((l.take j).map to45).flatMap c45 ++ [Value.int .i64 p.f0, .int .i64 p.f1, .int .i64 p.f2])] : List Sx.Item) = [Sx.Item.own 0 45 3 (.slice (Y 22).1 (j + 1) (Y 22).2) (j + 1) (((l.take j).map to45).flatMap c45 ++ [Value.int .i64 p.f0, .int .i64 p.f1, .int .i64 p.f2])]; simp only [h0, h 21 (by decide)])⟩) (ChainG.yield [] [21, 22] (fun X => q_fa (o1 := 4) rfl rfl Fo31_4 rfl) rfl rfl (fun _ => rfl) (fun _ _ => rfl) (fun X Y h0 h => ⟨by first | rfl | simp only [h0, h 21 (by decide), h 22 (by decide)], by first | rfl | simp only [h0, h 21 (by decide), h 22 (by decide)]⟩) (ChainG.store [26] [21, 22] (fun X => oe_storeAt (i := 0) rfl rfl rfl rfl Sz29 rfl rfl (by simp) (by simp [Value.oneCell']) rfl rfl) rfl rfl (fun _ => rfl) (fun _ _ => rfl) (fun X Y h0 h => ⟨by first | rfl | simp only [h0, h 21 (by decide), h 22 (by decide)], by first | rfl | (show ([Sx.Item.blk b3 [.bool m, .bool g, .int .i64 c, .int .u64 b, .slice (X 22).1 (j + 1) (X 22).2] 31] : List Sx.Item) = [Sx.Item.blk b3 [.bool m, .bool g, .int .i64 c, .int .u64 b, .slice (Y 22).1 (j + 1) (Y 22).2] 31]; simp only [h0, h 21 (by decide), h 22 (by decide)])⟩) (ChainG.nil _ _)))))))))))))))))))))))))) rfl rfl (fun X => [_, _, _, _, _]) (fun _ => rfl) (fun X => ?_))
    generalize X 22 = qa
    try dsimp only [List.take_succ_cons, List.take_zero, List.take_nil, List.drop_succ_cons, List.drop_zero, List.drop_nil, List.nil_append, List.cons_append, List.append_nil, List.length_cons, List.length_nil, Nat.reduceAdd, Nat.zero_add]
    refine wl_nil ?_
    refine fq_block ?_
    refine fq_then ?_
    refine wc_region ?_
    refine wl_q (q_move rfl rfl) rfl rfl (by decide) ?_
    refine wl_q (q_bin rfl rfl rfl rfl) rfl rfl (by decide) ?_
    refine wl_q (q_assign rfl rfl) rfl rfl (by decide) ?_
    refine wl_nil ?_
    rw [← take45 hp]
    refine fq_next (j + 1, qa) (show j + 1 ≤ l.length by omega) (show l.length - (j + 1) < l.length - j by omega) ⟨List.forall_mem_cons.2 ⟨rfl, List.forall_mem_cons.2 ⟨rfl, List.forall_mem_cons.2 ⟨rfl, List.forall_mem_cons.2 ⟨(show some (Value.int .i64 (IntKind.i64.wrap ((j : Int) + 1))) = some (Value.int .i64 ((j + 1 : Nat) : Int)) from by rw [wj]), fun _ h => (by cases h)⟩⟩⟩⟩, List.Sublist.refl _⟩
  · skip
    have q18 := h18
    try simp only [decide_eq_true_eq, decide_eq_false_iff_not, beq_iff_eq, beq_eq_false_iff_ne, bne_iff_ne, ne_eq, bne_eq_false_iff_eq, Int.not_lt, Int.not_le] at q18
    obtain rfl : j = l.length := by omega
    rw [List.take_of_length_le (Nat.le_refl _)]
    refine wc_exit ?_
    refine fq_then_exit ?_
    refine fq_then_exit ?_
    refine fq_block_hit ?_
    refine fq_then ?_
    refine wc_seq ?_
    refine wc_region ?_
    refine wl_q (q_loadA rfl rfl Mn31 Sz31 rfl (readsAll (i := 1) rfl)) rfl rfl (by decide) ?_
    refine wl_store (i := 2) rfl rfl rfl rfl rfl rfl Sz31 rfl rfl (by simp) (by simp [Value.oneCell', Sx.spl]) (by first | (simp only [List.take_succ_cons, List.take_zero, List.take_nil, List.drop_succ_cons, List.drop_zero, List.drop_nil, List.nil_append, List.cons_append, List.append_nil, List.length_cons, List.length_nil, Nat.reduceAdd, Nat.zero_add]; rfl) | rfl) (by first | (simp only [List.set_cons_zero, List.set_cons_succ]; rfl) | rfl) ?_
    refine wl_nil ?_
    refine fq_then ?_
    refine wc_ret ?_
    refine fq_cell (i := 2) (.inl rfl) rfl rfl rfl Mn31 Sz31 rfl (fun w1 H => ?_)
    exact ⟨qw, rfl, H.pick [0, 4] (by decide) rfl⟩
theorem own45 {w : World} {base : Nat} {i : Gh} {l : List S49} (h : w.ownsRow base 45 3 (.slice i.1 l.length i.2) l.length ((l.map to45).flatMap c45)) (hl : l.length ≤ 100000) : RowQ w i (l.map to45) := by
  have e : (l.map to45).length = l.length := List.length_map ..
  rw [← e] at h
  exact rowQ_of h rfl (by omega)
theorem ofK (m g : Bool) (c : Int) (b : Nat) (q : Gh) (l : List S49) (w : World) (hr : RowE w q l) (hl : l.length ≤ 100000) : Calls Tryz.prog 10 #[.agg #[.bool m, .bool g, .int .i64 c, .int .u64 b, .slice q.1 l.length q.2]] w fun e w' => ∃ i : Gh, RowQ w' i (l.map to45) ∧ e = .returned (.agg #[.bool m, .bool g, .int .i64 c, .int .u64 b, .slice i.1 l.length i.2]) ∧ Below w.heap.size w w' :=
  (of_calls m g c b q l w hr hl).mono (fun e w' ⟨i, h1, h2⟩ => ⟨i, own45 (h2.get (i := 0) rfl) hl, h1, h2.toBelow (by simp)⟩)
theorem same_calls (m g : Bool) (c : Int) (b : Nat) (qa qb : Gh) (l : List S49) (w : World) (ha : RowQ w qa (l.map to45)) (hb : RowQ w qb (l.map to45)) (hl : l.length ≤ 100000) : Calls Tryz.prog 13 #[.agg #[.bool m, .bool g, .int .i64 c, .int .u64 b, .slice qa.1 l.length qa.2], .agg #[.bool m, .bool g, .int .i64 c, .int .u64 b, .slice qb.1 l.length qb.2]] w fun e w' => e = .returned (.bool true) ∧ Below w.heap.size w w' := by
  have e : (l.map to45).length = l.length := List.length_map ..
  have := paternosterref24_Same.calls 200000 m g c (b : Int) qa.1 qa.2 (l.map to45) m g c (b : Int) qb.1 qb.2 (l.map to45) true w ha.2 ha.1 hb.2 hb.1 (same_ev m g c b _ (by omega) (Nat.le_refl _))
  rw [e] at this
  exact this
theorem show_nil (w : World) : Calls Tryz.prog 15 #[.pointer none] w fun e w' => e = .returned (.string ⟨#[]⟩) ∧ Below w.heap.size w w' := by
  refine enter (w0 := w) (hp := [old w]) (env := [(0, .pointer none)]) Tryz.func15 rfl 56 rfl (by simp) rfl (HeapOK.start _) ?_
  refine wc_seq ?_
  refine wc_region ?_
  refine wl_q (q_assign rfl rfl) rfl rfl (by decide) ?_
  refine wl_nil ?_
  refine fq_then ?_
  refine wc_seq ?_
  refine wc_seq ?_
  refine wc_region ?_
  refine wl_q (q_move rfl rfl) rfl rfl (by decide) ?_
  refine wl_q (q_eqlP rfl rfl rfl Tryz.underlying79) rfl rfl (by decide) ?_
  refine wl_nil ?_
  refine fq_then ?_
  refine wc_true rfl ?_
  refine wc_seq ?_
  refine wc_region ?_
  refine wl_q (q_assign rfl rfl) rfl rfl (by decide) ?_
  refine wl_nil ?_
  refine fq_then ?_
  refine wc_ret ?_
  refine fq_then_ret ?_
  refine fq_ret1 rfl rfl (fun w1 H => ?_)
  exact ⟨rfl, H.toBelow (by simp)⟩
end Go.Proofs.YtglgipggefpoiaaGreatDoor.SF
end
section
namespace Go.Proofs.YtglgipggefpoiaaGreatDoor.SF
open Go.RowKit Go.Sx Go.Proofs.YtglgipggefpoiaaGreatDoor.PAll Go.Proofs.YtglgipggefpoiaaGreatDoorW.PrintWords Go.Proofs.YtglgipggefpoiaaGreatDoorW.PrintLast Go.Proofs.YtglgipggefpoiaaGreatDoorW.PrintMore
set_option linter.unusedVariables false
set_option linter.unusedSimpArgs false
set_option maxRecDepth 100000
theorem Zl58 : (Tryz.prog.info? 58).bind (·.zero) = some (.agg #[.string ⟨#[]⟩, .bool false, .bool false]) := by kernel_rfl
theorem wrap_id {x : Int} (h : -9223372036854775808 ≤ x ∧ x ≤ 9223372036854775807) : IntKind.i64.wrap x = x := by
  simp only [IntKind.wrap, IntKind.signed, IntKind.bits]; simp; omega
def evAt (l : List S49) (i : Nat) : Option (S49 × Option (ByteArray × Bool × Bool)) := l[i]?.map fun e => (e, formAt e.f0)
theorem evAt_none {l : List S49} {i : Nat} (h : evAt l i = none) (hi : i ≤ l.length) : i = l.length := by
  unfold evAt at h
  rw [Option.map_eq_none_iff, List.getElem?_eq_none_iff] at h
  omega
theorem evAt_some {l : List S49} {i : Nat} {e : S49} {f : Option (ByteArray × Bool × Bool)} (h : evAt l i = some (e, f)) : l[i]? = some e ∧ formAt e.f0 = f := by
  unfold evAt at h
  rw [Option.map_eq_some_iff] at h
  obtain ⟨e', h1, h2⟩ := h
  cases h2
  exact ⟨h1, rfl⟩
theorem row_next {l : List S49} {i : Nat} {e : S49} {ws : List ByteArray} (hle : l[i]? = some e) (hw : evW e = ws) : (l.take (i + 1)).flatMap evW = (l.take i).flatMap evW ++ ws := by
  rw [List.take_add_one, hle, List.flatMap_append]
  simp [hw]
theorem row_len {l : List S49} {i : Nat} {e : S49} {ws : List ByteArray} (hle : l[i]? = some e) (hw : evW e = ws) : 4 + ((l.take (i + 1)).flatMap evW).length = 4 + ((l.take i).flatMap evW).length + ws.length := by
  rw [row_next hle hw, List.length_append, Nat.add_assoc]
theorem row_small {l : List S49} {i : Nat} (h : l.length ≤ 100) : ((l.take i).flatMap evW).length ≤ 300 := by
  have := evs_len (l.take i)
  rw [List.length_take] at this
  omega
theorem strs_of {w : World} {A : Option Addr} {n c : Nat} {xs : List ByteArray} (h : w.ownsRow 0 9 1 (.slice A n c) n (xs.map Value.string)) : StrsAt w A xs ∧ n ≤ c := by
  rcases h.2 with ⟨e, e0⟩ | ⟨g, cap, cur, e, hg, hh, hn, hm, hs, ht⟩
  · refine ⟨fun hne => ?_, by omega⟩
    have := h.1
    rw [e0, List.length_map] at this
    exact absurd (List.eq_nil_of_length_eq_zero (by omega)) hne
  · cases e
    refine ⟨fun hne => ⟨g, 0, rfl, fun j x hx => ?_⟩, hn⟩
    have h1 : (xs.map Value.string)[j]? = some (.string x) := by rw [List.getElem?_map, hx]; rfl
    rw [← ht, List.getElem?_take] at h1
    split at h1
    · rw [cell_of_row w g (0 + j) cur 9 (0, 0) hh, Nat.zero_add]; simpa using h1
    · cases h1
theorem row_val {p : Gh} {m g : Bool} {c : Int} {b : Nat} {l : List S49} : Value.slice p.1 (4 + ((l.take l.length).flatMap evW).length) p.2 = .slice p.1 (putW m g c b l).length p.2 := by
  rw [List.take_length, putW, List.length_append]; rfl
theorem putW_le {m g : Bool} {c : Int} {b : Nat} {l : List S49} (h : l.length ≤ 100) : (putW m g c b l).length ≤ 1000000 := by
  have := evs_len l
  rw [putW, List.length_append]
  show 4 + _ ≤ _
  omega
theorem putW_join {m g : Bool} {c : Int} {b : Nat} {l : List S49} (hc : i64r c) (hb : b < 18446744073709551616) (he : ∀ e ∈ l, i64r e.f1 ∧ i64r e.f2) (h : l.length ≤ 100) : (Lib.join ((putW m g c b l).map (·.data.toList)) (⟨#[32]⟩ : ByteArray).data.toList).length ≤ 140737488355328 := by
  have h1 := join_len_le (⟨#[32]⟩ : ByteArray).data.toList 21 (by decide) _ (putW_small m g hc hb he)
  have h2 := putW_le (m := m) (g := g) (c := c) (b := b) h
  rw [List.length_map] at h1
  omega
theorem strs_put {w : World} {p : Gh} {m g : Bool} {c : Int} {b : Nat} {l : List S49} (h : w.ownsRow 0 9 1 (.slice p.1 (4 + ((l.take l.length).flatMap evW).length) p.2) (4 + ((l.take l.length).flatMap evW).length) ((headW m g c b ++ (l.take l.length).flatMap evW).map Value.string)) : StrsAt w p.1 (putW m g c b l) ∧ (putW m g c b l).length ≤ p.2 := by
  rw [List.take_length] at h
  have h1 := strs_of h
  refine ⟨h1.1, ?_⟩
  rw [putW, List.length_append]
  exact h1.2
theorem put_calls (m g : Bool) (c : Int) (b : Nat) (q : Gh) (l : List S49) (w : World) (hL : Lw w) (hE : RowE w q l) (hc : i64r c) (hb : b < 18446744073709551616) (hl : l.length ≤ 100) (hev0 : ∀ e ∈ l, i64r e.f1 ∧ i64r e.f2) :
    Calls Tryz.prog 8 #[.agg #[.bool m, .bool g, .int .i64 c, .int .u64 b, .slice q.1 l.length q.2]] w fun e w' => e = .returned (.string (putS m g c b l)) ∧ Below w.heap.size w w' := by
  refine enter (w0 := w) (hp := [old w]) (env := [(0, .agg #[.bool m, .bool g, .int .i64 c, .int .u64 b, .slice q.1 l.length q.2])]) Tryz.func8 rfl 63 rfl (by simp) rfl (HeapOK.start _) ?_
  refine wc_seq ?_
  refine wc_region ?_
  refine wl_box rfl rfl rfl (by decide) rfl rfl (fun b1 => ?_)
  refine wl_q (q_assign rfl rfl) rfl rfl (by decide) ?_
  refine wl_nil ?_
  refine fq_then ?_
  refine wc_seq ?_
  refine wc_any Fol (any_draw1 (ι := Nat) 13 12 21 _ _ (by kernel_rfl) (ChainM.yield (q_fa (o1 := 0) rfl rfl Fo25_0 rfl) rfl rfl rfl (ChainM.yield (q_load rfl rfl Mn4 (reads1 (i := 0) rfl rfl)) rfl rfl rfl (ChainM.yield (q_call rfl En16 rfl (fun w1 hw1 => word_of _ _ w1)) rfl rfl rfl (ChainM.yield (q_fa (o1 := 1) rfl rfl Fo25_1 rfl) rfl rfl rfl (ChainM.yield (q_load rfl rfl Mn4 (reads1 (i := 0) rfl rfl)) rfl rfl rfl (ChainM.yield (q_call rfl En16 rfl (fun w1 hw1 => word_of _ _ w1)) rfl rfl rfl (ChainM.yield (q_fa (o1 := 2) rfl rfl Fo25_2 rfl) rfl rfl rfl (ChainM.yield (q_load rfl rfl Mn3 (reads1 (i := 0) rfl rfl)) rfl rfl rfl (ChainM.yield (q_call rfl En17 rfl (fun w1 hw1 => itoa_calls _ hc w1 (hL.below (hw1.toBelow (by simp))))) rfl rfl rfl (ChainM.yield (q_fa (o1 := 3) rfl rfl Fo25_3 rfl) rfl rfl rfl (ChainM.yield (q_load rfl rfl Mn22 (reads1 (i := 0) rfl rfl)) rfl rfl rfl (ChainM.yield (q_call rfl En18 rfl (fun w1 hw1 => fu_calls b hb w1 (hL.below (hw1.toBelow (by simp))))) rfl rfl rfl (ChainM.gap rfl (ChainM.nil _ _)))))))))))))) rfl rfl (om_buildSlice rfl rfl Tryz.underlying54 (built_parts Sz9 (by decide) Zs9 (by simp [Value.cells]) rfl (by decide) (by decide) rfl)) (fun b2 => ?_))
  refine wl_q (q_assign rfl rfl) rfl rfl (by decide) ?_
  refine wl_nil ?_
  refine fq_then ?_
  refine wc_seq ?_
  refine wc_region ?_
  refine wl_call (ι := Nat) (fun i => .map (some i)) (fun i => .obj i (mobj .i64 formsL) :: _) (fun _ => True) rfl rfl rfl (by decide) En19 rfl (fun w1 hw1 => (forms_calls w1).mono (fun e w' ⟨i, h1, h2⟩ => ⟨i, trivial, h1, hw1.lift1 h2⟩)) (fun bm _ => ?_)
  skip
  refine wl_q (q_assign rfl rfl) rfl rfl (by decide) ?_
  refine wl_nil ?_
  refine fq_then ?_
  refine wc_seq ?_
  refine wc_seq ?_
  refine wc_region ?_
  refine wl_q (q_fa (o1 := 4) rfl rfl Fo25_4 rfl) rfl rfl (by decide) ?_
  refine wl_q (q_load rfl rfl Mn23 (reads1 (i := 2) rfl rfl)) rfl rfl (by decide) ?_
  refine wl_q (q_len rfl rfl Tryz.underlying23) rfl rfl (by decide) ?_
  refine wl_q (q_move rfl rfl) rfl rfl (by decide) ?_
  refine wl_nil ?_
  refine fq_then ?_
  refine wc_block ?_
  refine wc_blkOwn 1 4 1 rfl rfl (by decide) ?_
  refine wc_loop (ι := (Nat × Gh)) (fun ⟨i, p⟩ => [(3, .slice p.1 (4 + ((l.take i).flatMap evW).length) p.2), (4, .map (some bm)), (24, .slice q.1 l.length q.2), (25, .int .i64 l.length), (26, .int .i64 (i : Nat))]) (fun ⟨i, p⟩ => [.obj bm (mobj .i64 formsL), .own 0 9 1 (.slice p.1 (4 + ((l.take i).flatMap evW).length) p.2) (4 + ((l.take i).flatMap evW).length) ((headW m g c b ++ (l.take i).flatMap evW).map Value.string), old w]) (fun ⟨i, p⟩ => i ≤ l.length) (fun ⟨i, p⟩ => l.length - i) (0, (some ⟨b2, 0, none⟩, 4)) (Nat.zero_le _) ⟨List.forall_mem_cons.2 ⟨rfl, List.forall_mem_cons.2 ⟨rfl, List.forall_mem_cons.2 ⟨rfl, List.forall_mem_cons.2 ⟨rfl, List.forall_mem_cons.2 ⟨rfl, fun _ h => (by cases h)⟩⟩⟩⟩⟩, List.Sublist.cons_cons _ (List.Sublist.cons_cons _ (List.Sublist.cons _ (List.Sublist.cons_cons _ (List.Sublist.refl []))))⟩ ?_
  rintro ⟨i, p⟩ hi
  dsimp only at hi ⊢
  rcases hev : evAt l i with _ | ⟨e, _ | ⟨wd, c1, n1⟩⟩
  · skip
    have hil := evAt_none hev hi
    subst hil
    refine wc_seq ?_
    refine wc_region ?_
    refine wl_q (OpQ.to (q_bin rfl rfl rfl rfl) (congrArg Value.bool (show decide _ = false by rw [decide_eq_false_iff_not]; omega))) rfl rfl (by decide) ?_
    refine wl_nil ?_
    refine fq_then ?_
    refine wc_seq ?_
    refine wc_false rfl ?_
    refine wc_exit ?_
    refine fq_then_exit ?_
    refine fq_then_exit ?_
    refine fq_block_hit ?_
    refine fq_then ?_
    refine wc_seq ?_
    refine wc_region ?_
    refine wl_q (OpQ.to (q_move rfl rfl) (row_val (m := m) (g := g) (c := c) (b := b))) rfl rfl (by decide) ?_
    refine wl_q (q_call rfl En20 rfl (fun w1 hw1 => join_calls p.1 p.2 (putW m g c b l) ⟨#[32]⟩ w1 (strs_put (hw1.get (i := 1) rfl)).1 (putW_le hl) (strs_put (hw1.get (i := 1) rfl)).2 (by simp [putW, headW]) (putW_join hc hb hev0 hl))) rfl rfl (by decide) ?_
    refine wl_q (q_assign rfl rfl) rfl rfl (by decide) ?_
    refine wl_nil ?_
    refine fq_then ?_
    refine wc_ret ?_
    refine fq_ret1 rfl rfl (fun w1 H => ?_)
    exact ⟨rfl, H.toBelow (by simp)⟩
  · skip
    obtain ⟨hle, hf⟩ := evAt_some hev
    have hil := (List.getElem?_eq_some_iff.1 hle).1
    obtain ⟨ad, hA, hcev⟩ := hE.at hle
    have hsm := row_small (i := i) hl
    refine wc_seq ?_
    refine wc_region ?_
    refine wl_q (OpQ.to (q_bin rfl rfl rfl rfl) (congrArg Value.bool (show decide _ = true by rw [decide_eq_true_eq]; omega))) rfl rfl (by decide) ?_
    refine wl_nil ?_
    refine fq_then ?_
    refine wc_seq ?_
    refine wc_true rfl ?_
    refine wc_skip ?_
    refine fq_then ?_
    refine wc_seq ?_
    refine wc_block ?_
    refine wc_seq ?_
    refine wc_region ?_
    refine wl_q (q_indexO rfl rfl hA rfl Tryz.underlying23 Sz49 (by omega) (by omega)) rfl rfl (by decide) ?_
    refine wl_q (q_loadA rfl rfl Mn49 Sz49 rfl (reads_old (by simp) hcev)) rfl rfl (by decide) ?_
    refine wl_alloc rfl rfl rfl (by decide) Zr49 (fun b3 => ?_)
    refine wl_store (i := 0) rfl rfl rfl rfl rfl rfl Sz49 rfl rfl (by simp) (by simp [Value.oneCell']) (by first | (simp only [List.take_succ_cons, List.take_zero, List.take_nil, List.drop_succ_cons, List.drop_zero, List.drop_nil, List.nil_append, List.cons_append, List.append_nil, List.length_cons, List.length_nil, Nat.reduceAdd, Nat.zero_add]; rfl) | rfl) (by first | (simp only [List.set_cons_zero, List.set_cons_succ]; rfl) | rfl) ?_
    refine wl_nil ?_
    refine fq_then ?_
    refine wc_seq ?_
    refine wc_region ?_
    refine wl_q (q_move rfl rfl) rfl rfl (by decide) ?_
    refine wl_q (q_fa (o1 := 0) rfl rfl Fo49_0 rfl) rfl rfl (by decide) ?_
    refine wl_q (q_load rfl rfl Mn3 (reads1 (i := 0) rfl rfl)) rfl rfl (by decide) ?_
    refine wl_q (q_lookupOk (i := 1) (v := .agg #[.string ⟨#[]⟩, .bool false, .bool false]) (c := false) rfl rfl rfl Tryz.underlying55 Tryz.underlying3 Zl58 rfl (by rw [find_form, hf]; rfl) (by rw [find_form, hf]; rfl)) rfl rfl (by decide) ?_
    refine wl_q (q_move rfl rfl) rfl rfl (by decide) ?_
    refine wl_q (q_extract rfl rfl rfl) rfl rfl (by decide) ?_
    refine wl_q (q_extract rfl rfl rfl) rfl rfl (by decide) ?_
    refine wl_alloc rfl rfl rfl (by decide) Zr58 (fun b4 => ?_)
    refine wl_store (i := 0) rfl rfl rfl rfl rfl rfl Sz58 rfl rfl (by simp) (by simp [Value.oneCell']) (by first | (simp only [List.take_succ_cons, List.take_zero, List.take_nil, List.drop_succ_cons, List.drop_zero, List.drop_nil, List.nil_append, List.cons_append, List.append_nil, List.length_cons, List.length_nil, Nat.reduceAdd, Nat.zero_add]; rfl) | rfl) (by first | (simp only [List.set_cons_zero, List.set_cons_succ]; rfl) | rfl) ?_
    refine wl_q (q_assign rfl rfl) rfl rfl (by decide) ?_
    refine wl_nil ?_
    refine fq_then ?_
    refine wc_seq ?_
    refine wc_seq ?_
    refine wc_region ?_
    refine wl_q (q_move rfl rfl) rfl rfl (by decide) ?_
    refine wl_q (q_not rfl rfl) rfl rfl (by decide) ?_
    refine wl_nil ?_
    refine fq_then ?_
    refine wc_true rfl ?_
    refine wc_exit ?_
    refine fq_then_exit ?_
    refine fq_block_hit ?_
    refine fq_then ?_
    refine wc_region ?_
    refine wl_q (q_bin rfl rfl rfl rfl) rfl rfl (by decide) ?_
    refine wl_q (q_move rfl rfl) rfl rfl (by decide) ?_
    refine wl_nil ?_
    have hw : evW e = [] := by simp [evW, hf, ibs]
    refine fq_ownEq 3 (v' := .slice p.1 (4 + ((l.take (i + 1)).flatMap evW).length) p.2) (n' := 4 + ((l.take (i + 1)).flatMap evW).length) (xs' := (headW m g c b ++ (l.take (i + 1)).flatMap evW).map Value.string) rfl (by rw [row_len hle hw]; rfl) (by rw [row_len hle hw]; rfl) (by rw [row_next hle hw]; simp) ?_
    refine fq_next (i + 1, (p)) (by omega) (show l.length - (i + 1) < l.length - i by omega) ⟨List.forall_mem_cons.2 ⟨(show some (Value.slice _ _ _) = some (Value.slice _ _ _) from by rw [row_len hle hw]; rfl), List.forall_mem_cons.2 ⟨rfl, List.forall_mem_cons.2 ⟨rfl, List.forall_mem_cons.2 ⟨rfl, List.forall_mem_cons.2 ⟨(show some (Value.int .i64 (IntKind.i64.wrap ((i : Int) + 1))) = some (Value.int .i64 ((i + 1 : Nat) : Int)) from by rw [wrap_id (by omega)]; rfl), fun _ h => (by cases h)⟩⟩⟩⟩⟩, List.Sublist.cons _ (List.Sublist.cons _ (List.Sublist.cons_cons _ (List.Sublist.cons_cons _ (List.Sublist.cons_cons _ (List.Sublist.refl [])))))⟩
  · skip
    obtain ⟨hle, hf⟩ := evAt_some hev
    have hil := (List.getElem?_eq_some_iff.1 hle).1
    obtain ⟨ad, hA, hcev⟩ := hE.at hle
    have hsm := row_small (i := i) hl
    obtain ⟨hr1, hr2⟩ := hev0 e (List.mem_of_getElem? hle)
    refine wc_seq ?_
    refine wc_region ?_
    refine wl_q (OpQ.to (q_bin rfl rfl rfl rfl) (congrArg Value.bool (show decide _ = true by rw [decide_eq_true_eq]; omega))) rfl rfl (by decide) ?_
    refine wl_nil ?_
    refine fq_then ?_
    refine wc_seq ?_
    refine wc_true rfl ?_
    refine wc_skip ?_
    refine fq_then ?_
    refine wc_seq ?_
    refine wc_block ?_
    refine wc_seq ?_
    refine wc_region ?_
    refine wl_q (q_indexO rfl rfl hA rfl Tryz.underlying23 Sz49 (by omega) (by omega)) rfl rfl (by decide) ?_
    refine wl_q (q_loadA rfl rfl Mn49 Sz49 rfl (reads_old (by simp) hcev)) rfl rfl (by decide) ?_
    refine wl_alloc rfl rfl rfl (by decide) Zr49 (fun b5 => ?_)
    refine wl_store (i := 0) rfl rfl rfl rfl rfl rfl Sz49 rfl rfl (by simp) (by simp [Value.oneCell']) (by first | (simp only [List.take_succ_cons, List.take_zero, List.take_nil, List.drop_succ_cons, List.drop_zero, List.drop_nil, List.nil_append, List.cons_append, List.append_nil, List.length_cons, List.length_nil, Nat.reduceAdd, Nat.zero_add]; rfl) | rfl) (by first | (simp only [List.set_cons_zero, List.set_cons_succ]; rfl) | rfl) ?_
    refine wl_nil ?_
    refine fq_then ?_
    refine wc_seq ?_
    refine wc_region ?_
    refine wl_q (q_move rfl rfl) rfl rfl (by decide) ?_
    refine wl_q (q_fa (o1 := 0) rfl rfl Fo49_0 rfl) rfl rfl (by decide) ?_
    refine wl_q (q_load rfl rfl Mn3 (reads1 (i := 0) rfl rfl)) rfl rfl (by decide) ?_
    refine wl_q (q_lookupOk (i := 1) (v := .agg #[.string wd, .bool c1, .bool n1]) (c := true) rfl rfl rfl Tryz.underlying55 Tryz.underlying3 Zl58 rfl (by rw [find_form, hf]; rfl) (by rw [find_form, hf]; rfl)) rfl rfl (by decide) ?_
    refine wl_q (q_move rfl rfl) rfl rfl (by decide) ?_
    refine wl_q (q_extract rfl rfl rfl) rfl rfl (by decide) ?_
    refine wl_q (q_extract rfl rfl rfl) rfl rfl (by decide) ?_
    refine wl_alloc rfl rfl rfl (by decide) Zr58 (fun b6 => ?_)
    refine wl_store (i := 0) rfl rfl rfl rfl rfl rfl Sz58 rfl rfl (by simp) (by simp [Value.oneCell']) (by first | (simp only [List.take_succ_cons, List.take_zero, List.take_nil, List.drop_succ_cons, List.drop_zero, List.drop_nil, List.nil_append, List.cons_append, List.append_nil, List.length_cons, List.length_nil, Nat.reduceAdd, Nat.zero_add]; rfl) | rfl) (by first | (simp only [List.set_cons_zero, List.set_cons_succ]; rfl) | rfl) ?_
    refine wl_q (q_assign rfl rfl) rfl rfl (by decide) ?_
    refine wl_nil ?_
    refine fq_then ?_
    refine wc_seq ?_
    refine wc_seq ?_
    refine wc_region ?_
    refine wl_q (q_move rfl rfl) rfl rfl (by decide) ?_
    refine wl_q (q_not rfl rfl) rfl rfl (by decide) ?_
    refine wl_nil ?_
    refine fq_then ?_
    refine wc_false rfl ?_
    refine wc_skip ?_
    refine fq_then ?_
    refine wc_seq ?_
    refine wc_region ?_
    refine wl_q (q_move rfl rfl) rfl rfl (by decide) ?_
    refine wl_q (q_fa (o1 := 0) rfl rfl Fo58_0 rfl) rfl rfl (by decide) ?_
    refine wl_q (q_load rfl rfl Mn9 (reads1 (i := 0) rfl rfl)) rfl rfl (by decide) ?_
    refine wl_buildSlice rfl rfl rfl (by decide) rfl Tryz.underlying54 (built_one Sz9 (by decide) Zs9 (by decide) rfl rfl) (fun b7 => ?_)
    refine wl_append (i := 4) (m := 1) (news := [.string wd]) rfl rfl rfl (by decide) Tryz.underlying54 Ap9 (by decide) rfl rfl rfl (readsAll (i := 0) rfl) rfl (by simp [Value.oneCell']) (by unfold maxLen; omega) (by omega) (fun v43 _ => ?_)
    refine wl_ownForm (i := 4) rfl (fun A43 c43 e43 f43 => ?_)
    subst e43
    skip
    refine wl_q (q_assign rfl rfl) rfl rfl (by decide) ?_
    refine wl_nil ?_
    refine fq_then ?_
    refine wc_seq ?_
    refine wc_seq ?_
    refine wc_region ?_
    refine wl_q (q_fa (o1 := 1) rfl rfl Fo58_1 rfl) rfl rfl (by decide) ?_
    refine wl_q (q_load rfl rfl Mn4 (reads1 (i := 1) rfl rfl)) rfl rfl (by decide) ?_
    refine wl_nil ?_
    refine fq_then ?_
    refine wc_cond rfl (fun h45 => ?_) (fun h45 => ?_)
    · skip
      subst h45
      refine wc_region ?_
      refine wl_q (q_move rfl rfl) rfl rfl (by decide) ?_
      refine wl_q (q_fa (o1 := 1) rfl rfl Fo49_1 rfl) rfl rfl (by decide) ?_
      refine wl_q (q_load rfl rfl Mn3 (reads1 (i := 2) rfl rfl)) rfl rfl (by decide) ?_
      refine wl_q (q_call rfl En17 rfl (fun w1 hw1 => itoa_calls _ hr1 w1 (hL.below (hw1.toBelow (by simp))))) rfl rfl (by decide) ?_
      refine wl_buildSlice rfl rfl rfl (by decide) rfl Tryz.underlying54 (built_one Sz9 (by decide) Zs9 (by decide) rfl rfl) (fun b8 => ?_)
      refine wl_append (i := 5) (m := 1) (news := [.string (ibs e.f1)]) rfl rfl rfl (by decide) Tryz.underlying54 Ap9 (by decide) rfl rfl rfl (readsAll (i := 0) rfl) rfl (by simp [Value.oneCell']) (by unfold maxLen; omega) (by omega) (fun v51 _ => ?_)
      refine wl_ownForm (i := 5) rfl (fun A51 c51 e51 f51 => ?_)
      subst e51
      skip
      refine wl_q (q_assign rfl rfl) rfl rfl (by decide) ?_
      refine wl_nil ?_
      refine fq_then ?_
      refine wc_seq ?_
      refine wc_region ?_
      refine wl_q (q_fa (o1 := 2) rfl rfl Fo58_2 rfl) rfl rfl (by decide) ?_
      refine wl_q (q_load rfl rfl Mn4 (reads1 (i := 2) rfl rfl)) rfl rfl (by decide) ?_
      refine wl_nil ?_
      refine fq_then ?_
      refine wc_cond rfl (fun h53 => ?_) (fun h53 => ?_)
      · skip
        subst h53
        refine wc_region ?_
        refine wl_q (q_move rfl rfl) rfl rfl (by decide) ?_
        refine wl_q (q_fa (o1 := 2) rfl rfl Fo49_2 rfl) rfl rfl (by decide) ?_
        refine wl_q (q_load rfl rfl Mn3 (reads1 (i := 3) rfl rfl)) rfl rfl (by decide) ?_
        refine wl_q (q_call rfl En17 rfl (fun w1 hw1 => itoa_calls _ hr2 w1 (hL.below (hw1.toBelow (by simp))))) rfl rfl (by decide) ?_
        refine wl_buildSlice rfl rfl rfl (by decide) rfl Tryz.underlying54 (built_one Sz9 (by decide) Zs9 (by decide) rfl rfl) (fun b9 => ?_)
        refine wl_append (i := 6) (m := 1) (news := [.string (ibs e.f2)]) rfl rfl rfl (by decide) Tryz.underlying54 Ap9 (by decide) rfl rfl rfl (readsAll (i := 0) rfl) rfl (by simp [Value.oneCell']) (by unfold maxLen; omega) (by omega) (fun v59 _ => ?_)
        refine wl_ownForm (i := 6) rfl (fun A59 c59 e59 f59 => ?_)
        subst e59
        skip
        refine wl_q (q_assign rfl rfl) rfl rfl (by decide) ?_
        refine wl_nil ?_
        refine fq_block ?_
        refine fq_then ?_
        refine wc_region ?_
        refine wl_q (q_bin rfl rfl rfl rfl) rfl rfl (by decide) ?_
        refine wl_q (q_move rfl rfl) rfl rfl (by decide) ?_
        refine wl_nil ?_
        have hw : evW e = [wd, ibs e.f1, ibs e.f2] := by simp [evW, hf, ibs]
        refine fq_ownEq 6 (v' := .slice ((A59, c59) : Gh).1 (4 + ((l.take (i + 1)).flatMap evW).length) ((A59, c59) : Gh).2) (n' := 4 + ((l.take (i + 1)).flatMap evW).length) (xs' := (headW m g c b ++ (l.take (i + 1)).flatMap evW).map Value.string) rfl (by rw [row_len hle hw]; rfl) (by rw [row_len hle hw]; rfl) (by rw [row_next hle hw]; simp) ?_
        refine fq_next (i + 1, (((A59, c59) : Gh))) (by omega) (show l.length - (i + 1) < l.length - i by omega) ⟨List.forall_mem_cons.2 ⟨(show some (Value.slice _ _ _) = some (Value.slice _ _ _) from by rw [row_len hle hw]; rfl), List.forall_mem_cons.2 ⟨rfl, List.forall_mem_cons.2 ⟨rfl, List.forall_mem_cons.2 ⟨rfl, List.forall_mem_cons.2 ⟨(show some (Value.int .i64 (IntKind.i64.wrap ((i : Int) + 1))) = some (Value.int .i64 ((i + 1 : Nat) : Int)) from by rw [wrap_id (by omega)]; rfl), fun _ h => (by cases h)⟩⟩⟩⟩⟩, List.Sublist.cons _ (List.Sublist.cons _ (List.Sublist.cons _ (List.Sublist.cons _ (List.Sublist.cons _ (List.Sublist.cons_cons _ (List.Sublist.cons_cons _ (List.Sublist.cons_cons _ (List.Sublist.refl []))))))))⟩
      · skip
        subst h53
        refine wc_skip ?_
        refine fq_block ?_
        refine fq_then ?_
        refine wc_region ?_
        refine wl_q (q_bin rfl rfl rfl rfl) rfl rfl (by decide) ?_
        refine wl_q (q_move rfl rfl) rfl rfl (by decide) ?_
        refine wl_nil ?_
        have hw : evW e = [wd, ibs e.f1] := by simp [evW, hf, ibs]
        refine fq_ownEq 5 (v' := .slice ((A51, c51) : Gh).1 (4 + ((l.take (i + 1)).flatMap evW).length) ((A51, c51) : Gh).2) (n' := 4 + ((l.take (i + 1)).flatMap evW).length) (xs' := (headW m g c b ++ (l.take (i + 1)).flatMap evW).map Value.string) rfl (by rw [row_len hle hw]; rfl) (by rw [row_len hle hw]; rfl) (by rw [row_next hle hw]; simp) ?_
        refine fq_next (i + 1, (((A51, c51) : Gh))) (by omega) (show l.length - (i + 1) < l.length - i by omega) ⟨List.forall_mem_cons.2 ⟨(show some (Value.slice _ _ _) = some (Value.slice _ _ _) from by rw [row_len hle hw]; rfl), List.forall_mem_cons.2 ⟨rfl, List.forall_mem_cons.2 ⟨rfl, List.forall_mem_cons.2 ⟨rfl, List.forall_mem_cons.2 ⟨(show some (Value.int .i64 (IntKind.i64.wrap ((i : Int) + 1))) = some (Value.int .i64 ((i + 1 : Nat) : Int)) from by rw [wrap_id (by omega)]; rfl), fun _ h => (by cases h)⟩⟩⟩⟩⟩, List.Sublist.cons _ (List.Sublist.cons _ (List.Sublist.cons _ (List.Sublist.cons _ (List.Sublist.cons_cons _ (List.Sublist.cons_cons _ (List.Sublist.cons_cons _ (List.Sublist.refl [])))))))⟩
    · skip
      subst h45
      refine wc_skip ?_
      refine fq_then ?_
      refine wc_seq ?_
      refine wc_region ?_
      refine wl_q (q_fa (o1 := 2) rfl rfl Fo58_2 rfl) rfl rfl (by decide) ?_
      refine wl_q (q_load rfl rfl Mn4 (reads1 (i := 1) rfl rfl)) rfl rfl (by decide) ?_
      refine wl_nil ?_
      refine fq_then ?_
      refine wc_cond rfl (fun h53 => ?_) (fun h53 => ?_)
      · skip
        subst h53
        refine wc_region ?_
        refine wl_q (q_move rfl rfl) rfl rfl (by decide) ?_
        refine wl_q (q_fa (o1 := 2) rfl rfl Fo49_2 rfl) rfl rfl (by decide) ?_
        refine wl_q (q_load rfl rfl Mn3 (reads1 (i := 2) rfl rfl)) rfl rfl (by decide) ?_
        refine wl_q (q_call rfl En17 rfl (fun w1 hw1 => itoa_calls _ hr2 w1 (hL.below (hw1.toBelow (by simp))))) rfl rfl (by decide) ?_
        refine wl_buildSlice rfl rfl rfl (by decide) rfl Tryz.underlying54 (built_one Sz9 (by decide) Zs9 (by decide) rfl rfl) (fun b10 => ?_)
        refine wl_append (i := 5) (m := 1) (news := [.string (ibs e.f2)]) rfl rfl rfl (by decide) Tryz.underlying54 Ap9 (by decide) rfl rfl rfl (readsAll (i := 0) rfl) rfl (by simp [Value.oneCell']) (by unfold maxLen; omega) (by omega) (fun v59 _ => ?_)
        refine wl_ownForm (i := 5) rfl (fun A59 c59 e59 f59 => ?_)
        subst e59
        skip
        refine wl_q (q_assign rfl rfl) rfl rfl (by decide) ?_
        refine wl_nil ?_
        refine fq_block ?_
        refine fq_then ?_
        refine wc_region ?_
        refine wl_q (q_bin rfl rfl rfl rfl) rfl rfl (by decide) ?_
        refine wl_q (q_move rfl rfl) rfl rfl (by decide) ?_
        refine wl_nil ?_
        have hw : evW e = [wd, ibs e.f2] := by simp [evW, hf, ibs]
        refine fq_ownEq 5 (v' := .slice ((A59, c59) : Gh).1 (4 + ((l.take (i + 1)).flatMap evW).length) ((A59, c59) : Gh).2) (n' := 4 + ((l.take (i + 1)).flatMap evW).length) (xs' := (headW m g c b ++ (l.take (i + 1)).flatMap evW).map Value.string) rfl (by rw [row_len hle hw]; rfl) (by rw [row_len hle hw]; rfl) (by rw [row_next hle hw]; simp) ?_
        refine fq_next (i + 1, (((A59, c59) : Gh))) (by omega) (show l.length - (i + 1) < l.length - i by omega) ⟨List.forall_mem_cons.2 ⟨(show some (Value.slice _ _ _) = some (Value.slice _ _ _) from by rw [row_len hle hw]; rfl), List.forall_mem_cons.2 ⟨rfl, List.forall_mem_cons.2 ⟨rfl, List.forall_mem_cons.2 ⟨rfl, List.forall_mem_cons.2 ⟨(show some (Value.int .i64 (IntKind.i64.wrap ((i : Int) + 1))) = some (Value.int .i64 ((i + 1 : Nat) : Int)) from by rw [wrap_id (by omega)]; rfl), fun _ h => (by cases h)⟩⟩⟩⟩⟩, List.Sublist.cons _ (List.Sublist.cons _ (List.Sublist.cons _ (List.Sublist.cons _ (List.Sublist.cons_cons _ (List.Sublist.cons_cons _ (List.Sublist.cons_cons _ (List.Sublist.refl [])))))))⟩
      · skip
        subst h53
        refine wc_skip ?_
        refine fq_block ?_
        refine fq_then ?_
        refine wc_region ?_
        refine wl_q (q_bin rfl rfl rfl rfl) rfl rfl (by decide) ?_
        refine wl_q (q_move rfl rfl) rfl rfl (by decide) ?_
        refine wl_nil ?_
        have hw : evW e = [wd] := by simp [evW, hf, ibs]
        refine fq_ownEq 4 (v' := .slice ((A43, c43) : Gh).1 (4 + ((l.take (i + 1)).flatMap evW).length) ((A43, c43) : Gh).2) (n' := 4 + ((l.take (i + 1)).flatMap evW).length) (xs' := (headW m g c b ++ (l.take (i + 1)).flatMap evW).map Value.string) rfl (by rw [row_len hle hw]; rfl) (by rw [row_len hle hw]; rfl) (by rw [row_next hle hw]; simp) ?_
        refine fq_next (i + 1, (((A43, c43) : Gh))) (by omega) (show l.length - (i + 1) < l.length - i by omega) ⟨List.forall_mem_cons.2 ⟨(show some (Value.slice _ _ _) = some (Value.slice _ _ _) from by rw [row_len hle hw]; rfl), List.forall_mem_cons.2 ⟨rfl, List.forall_mem_cons.2 ⟨rfl, List.forall_mem_cons.2 ⟨rfl, List.forall_mem_cons.2 ⟨(show some (Value.int .i64 (IntKind.i64.wrap ((i : Int) + 1))) = some (Value.int .i64 ((i + 1 : Nat) : Int)) from by rw [wrap_id (by omega)]; rfl), fun _ h => (by cases h)⟩⟩⟩⟩⟩, List.Sublist.cons _ (List.Sublist.cons _ (List.Sublist.cons _ (List.Sublist.cons_cons _ (List.Sublist.cons_cons _ (List.Sublist.cons_cons _ (List.Sublist.refl []))))))⟩
end Go.Proofs.YtglgipggefpoiaaGreatDoor.SF
end
