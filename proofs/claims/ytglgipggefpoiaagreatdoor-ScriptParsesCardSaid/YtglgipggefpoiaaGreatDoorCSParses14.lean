/- Texts of mine, put together (no statement stands here). -/
import Derived.Test.YtglgipggefpoiaaGreatDoorCSParses10
import Derived.Test.YtglgipggefpoiaaGreatDoorCSParses11
import Derived.Test.YtglgipggefpoiaaGreatDoorCSParses12
import Derived.Test.YtglgipggefpoiaaGreatDoorCSParses13
import Derived.Test.YtglgipggefpoiaaGreatDoorCSParses8
import Derived.Laws.IdiomStrings
import Derived.Laws.MakeOwn
section
namespace Go.Proofs.YtglgipggefpoiaaGreatDoor.PAll
open Go.RowKit Go.Proofs.YtglgipggefpoiaaGreatDoorW.PrintWords Go.Proofs.YtglgipggefpoiaaGreatDoorW.PrintLast Go.Proofs.YtglgipggefpoiaaGreatDoorW.PrintMore
attribute [local go_sem] max2_int min2_int max_two min_two max_three min_three max_four min_four
set_option linter.unusedVariables false
set_option linter.unusedSimpArgs false
theorem eqA45 (d : Nat) (w : World) (x0 y0 : Int) (x1 y1 : Int) (x2 y2 : Int) :
    (Op.equalIn (d + 2) 45 (.agg #[.int .i64 x0, .int .i64 x1, .int .i64 x2]) (.agg #[.int .i64 y0, .int .i64 y1, .int .i64 y2])).run Tryz.prog w = .ok (x0 == y0 && (x1 == y1 && (x2 == y2))) w := by
  refine eqA_of Tryz.underlying45 (by kernel_rfl) ?_
  refine eqf_cons (by rfl) (by go_simp; rfl) (by go_simp; rfl) (by go_simp) ?_
  refine eqf_cons (by rfl) (by go_simp; rfl) (by go_simp; rfl) (by go_simp) ?_
  exact eqf_last (by rfl) (by go_simp; rfl) (by go_simp; rfl) (by go_simp)
end Go.Proofs.YtglgipggefpoiaaGreatDoor.PAll
end
section
namespace Go.Proofs.YtglgipggefpoiaaGreatDoor.PAll
open Go.RowKit Go.Proofs.YtglgipggefpoiaaGreatDoorW.PrintWords Go.Proofs.YtglgipggefpoiaaGreatDoorW.PrintLast Go.Proofs.YtglgipggefpoiaaGreatDoorW.PrintMore
attribute [local go_sem] max2_int min2_int max_two min_two max_three min_three max_four min_four
set_option linter.unusedVariables false
set_option linter.unusedSimpArgs false
attribute [local go_sem high] eqA45
mutual
def paternosterref24_Same.j0 : Nat → Bool → Bool → Bool → Int → Int → List (S45) → Bool → Bool → Int → Int → List (S45) → Option (Bool)
  | 0, _, _, _, _, _, _, _, _, _, _, _ => none
  | k + 1, x40, x222000, x222001, x222002, x222003, x222004, x223000, x223001, x223002, x223003, x223004 => if x40 = true then (some false) else (paternosterref24_Same.l0 k 0 x222000 x222001 x222002 x222003 x222004 x223000 x223001 x223002 x223003 x223004)
def paternosterref24_Same.l0 : Nat → Int → Bool → Bool → Int → Int → List (S45) → Bool → Bool → Int → Int → List (S45) → Option (Bool)
  | 0, _, _, _, _, _, _, _, _, _, _, _ => none
  | k + 1, x5, x222000, x222001, x222002, x222003, x222004, x223000, x223001, x223002, x223003, x223004 => if x5 < (x222004.length : Int) then (if 0 ≤ x5 then (if x5 < (x223004.length : Int) then (if (!(((rd_T45 x222004 x5).f0) == ((rd_T45 x223004 x5).f0)) || (!(((rd_T45 x222004 x5).f1) == ((rd_T45 x223004 x5).f1)) || (!(((rd_T45 x222004 x5).f2) == ((rd_T45 x223004 x5).f2))))) = true then (some false) else (paternosterref24_Same.l0 k (wrap64 (x5 + 1)) x222000 x222001 x222002 x222003 x222004 x223000 x223001 x223002 x223003 x223004)) else (none)) else (none)) else (some true)
end
def paternosterref24_Same.f (k : Nat) (a0_0 : Bool) (a0_1 : Bool) (a0_2 : Int) (a0_3 : Int) (l0_4 : List (S45)) (a1_0 : Bool) (a1_1 : Bool) (a1_2 : Int) (a1_3 : Int) (l1_4 : List (S45)) : Option (Bool) := if (a0_0 != a1_0) = true then (paternosterref24_Same.j0 k true a0_0 a0_1 a0_2 a0_3 l0_4 a1_0 a1_1 a1_2 a1_3 l1_4) else (if (a0_1 != a1_1) = true then (paternosterref24_Same.j0 k true a0_0 a0_1 a0_2 a0_3 l0_4 a1_0 a1_1 a1_2 a1_3 l1_4) else (if a0_2 = a1_2 then (if a0_3 = a1_3 then (paternosterref24_Same.j0 k ((l0_4.length : Int) != (l1_4.length : Int)) a0_0 a0_1 a0_2 a0_3 l0_4 a1_0 a1_1 a1_2 a1_3 l1_4) else (paternosterref24_Same.j0 k true a0_0 a0_1 a0_2 a0_3 l0_4 a1_0 a1_1 a1_2 a1_3 l1_4)) else (paternosterref24_Same.j0 k true a0_0 a0_1 a0_2 a0_3 l0_4 a1_0 a1_1 a1_2 a1_3 l1_4)))
set_option maxHeartbeats 8000000 in
set_option maxRecDepth 100000 in
theorem paternosterref24_Same.calls (k : Nat) (a0_0 : Bool) (a0_1 : Bool) (a0_2 : Int) (a0_3 : Int) (A0_4 : Option Addr) (c0_4 : Nat) (l0_4 : List (S45)) (a1_0 : Bool) (a1_1 : Bool) (a1_2 : Int) (a1_3 : Int) (A1_4 : Option Addr) (c1_4 : Nat) (l1_4 : List (S45)) (r : Bool) (w : World) (hr0_4 : Kd.C k45 w A0_4 l0_4.length l0_4) (hc0_4 : l0_4.length ≤ c0_4) (hr1_4 : Kd.C k45 w A1_4 l1_4.length l1_4) (hc1_4 : l1_4.length ≤ c1_4) (h : paternosterref24_Same.f k a0_0 a0_1 a0_2 a0_3 l0_4 a1_0 a1_1 a1_2 a1_3 l1_4 = some r) :
    Calls Tryz.prog 13 #[.agg #[.bool a0_0, .bool a0_1, .int .i64 a0_2, .int .u64 a0_3, .slice A0_4 l0_4.length c0_4], .agg #[.bool a1_0, .bool a1_1, .int .i64 a1_2, .int .u64 a1_3, .slice A1_4 l1_4.length c1_4]] w fun e w' => e = .returned (.bool r) ∧ Below w.heap.size w w' := by
  have hu31 := Tryz.underlying31
  have hu45 := Tryz.underlying45
  have HR0_4 := Aside0.mk hr0_4
  have HC0_4 := Aside0.mk hc0_4
  clear hr0_4 hc0_4
  have HR1_4 := Aside0.mk hr1_4
  have HC1_4 := Aside0.mk hc1_4
  clear hr1_4 hc1_4
  have HB := Aside0.mk (Below.refl w.heap.size w)
  have H : (if (a0_0 != a1_0) = true then (paternosterref24_Same.j0 k true a0_0 a0_1 a0_2 a0_3 l0_4 a1_0 a1_1 a1_2 a1_3 l1_4) else (if (a0_1 != a1_1) = true then (paternosterref24_Same.j0 k true a0_0 a0_1 a0_2 a0_3 l0_4 a1_0 a1_1 a1_2 a1_3 l1_4) else (if a0_2 = a1_2 then (if a0_3 = a1_3 then (paternosterref24_Same.j0 k ((l0_4.length : Int) != (l1_4.length : Int)) a0_0 a0_1 a0_2 a0_3 l0_4 a1_0 a1_1 a1_2 a1_3 l1_4) else (paternosterref24_Same.j0 k true a0_0 a0_1 a0_2 a0_3 l0_4 a1_0 a1_1 a1_2 a1_3 l1_4)) else (paternosterref24_Same.j0 k true a0_0 a0_1 a0_2 a0_3 l0_4 a1_0 a1_1 a1_2 a1_3 l1_4)))) = some r := h
  clear h
  have HC3 := Aside0.mk H
  clear H
  go_enter Tryz.func13, Tryz.ntmps13
  go_upto_region 1 with (first | ((with_reducible refine gate_dst (N := 2) rfl ?_); (try (refine gate_guard (by rfl) ?_; dsimp only)); refine box_event ?hg (N := 2) ?hd (cs := #[.bool a0_0, .bool a0_1, .int .i64 a0_2, .int .u64 a0_3, .slice A0_4 l0_4.length c0_4]) (t := 31) ?hr ?_; (case hd => rfl); (case hg => rfl); (case hr => first | (go_simp; done) | (go_simp; rfl)); intro gb221 hg w4 hbox hb; have n0_ := Aside0.mk (below_step (by repeat (first | (with_reducible first | exact HB.out | apply below_alloc | apply pw_below_drewN | apply below_drew1) | exact HB.out)) hb); have n1_ := Aside0.mk (hbox); have n2_ := Aside0.mk ((by rw [hg]; exact (below_size (by repeat (first | (with_reducible first | exact HB.out | apply below_alloc | apply pw_below_drewN | apply below_drew1) | exact HB.out))) : w.heap.size ≤ gb221)); have n3_ := Aside0.mk ((by rw [hg]; exact (below_size (by repeat (first | (with_reducible first | exact HB.out | apply below_alloc | apply pw_below_drewN | apply below_drew1) | exact HB.out))) : w.heap.size ≤ gb221)); clear HB; have HB := n0_; have BK221 := n1_; have GW221 := n2_; have GE221 := n3_; clear n0_ n1_ n2_ n3_; clear hb hbox hg) | ((with_reducible refine gate_dst (N := 3) rfl ?_); (try (refine gate_guard (by rfl) ?_; dsimp only)); refine box_event ?hg (N := 3) ?hd (cs := #[.bool a1_0, .bool a1_1, .int .i64 a1_2, .int .u64 a1_3, .slice A1_4 l1_4.length c1_4]) (t := 31) ?hr ?_; (case hd => rfl); (case hg => rfl); (case hr => first | (go_simp; done) | (go_simp; rfl)); intro gb222 hg w5 hbox hb; have n0_ := Aside0.mk (blk_below (g := gb221) (o := .cells #[.bool a0_0, .bool a0_1, .int .i64 a0_2, .int .u64 a0_3, .slice A0_4 l0_4.length c0_4] 31 (0, 0)) (by (with_reducible repeat (first | refine blk_drewN ?_ _ | refine blk_drew ?_ | refine blk_alloc ?_ _)); exact BK221.out) hb); have n1_ := Aside0.mk (below_step (by repeat (first | (with_reducible first | exact HB.out | apply below_alloc | apply pw_below_drewN | apply below_drew1 | refine below_set ?_ GE221.out) | exact HB.out)) hb); have n2_ := Aside0.mk (hbox); have n3_ := Aside0.mk ((by rw [hg]; exact (below_size (by repeat (first | (with_reducible first | exact HB.out | apply below_alloc | apply pw_below_drewN | apply below_drew1 | refine below_set ?_ GE221.out) | exact HB.out))) : w.heap.size ≤ gb222)); have n4_ := Aside0.mk ((by rw [hg]; exact (below_size (by repeat (first | (with_reducible first | exact HB.out | apply below_alloc | apply pw_below_drewN | apply below_drew1 | refine below_set ?_ GE221.out) | exact HB.out))) : w.heap.size ≤ gb222)); have n5_ := Aside0.mk ((by rw [hg]; exact Nat.ne_of_lt (blk_lt (g := gb221) (o := .cells #[.bool a0_0, .bool a0_1, .int .i64 a0_2, .int .u64 a0_3, .slice A0_4 l0_4.length c0_4] 31 (0, 0)) (by (with_reducible repeat (first | refine blk_drewN ?_ _ | refine blk_drew ?_ | refine blk_alloc ?_ _)); exact BK221.out)) : gb221 ≠ gb222)); have n6_ := Aside0.mk ((by rw [hg]; exact Nat.ne_of_gt (blk_lt (g := gb221) (o := .cells #[.bool a0_0, .bool a0_1, .int .i64 a0_2, .int .u64 a0_3, .slice A0_4 l0_4.length c0_4] 31 (0, 0)) (by (with_reducible repeat (first | refine blk_drewN ?_ _ | refine blk_drew ?_ | refine blk_alloc ?_ _)); exact BK221.out)) : gb222 ≠ gb221)); clear BK221; clear HB; have BK221 := n0_; have HB := n1_; have BK222 := n2_; have GW222 := n3_; have GE222 := n4_; have NB221_222 := n5_; have NB222_221 := n6_; clear n0_ n1_ n2_ n3_ n4_ n5_ n6_; clear hb hbox hg))
  repeat (go_quiet (first | ((with_reducible refine gate_dst (N := 2) rfl ?_); (try (refine gate_guard (by rfl) ?_; dsimp only)); refine box_event ?hg (N := 2) ?hd (cs := #[.bool a0_0, .bool a0_1, .int .i64 a0_2, .int .u64 a0_3, .slice A0_4 l0_4.length c0_4]) (t := 31) ?hr ?_; (case hd => rfl); (case hg => rfl); (case hr => first | (go_simp; done) | (go_simp; rfl)); intro gb221 hg w4 hbox hb; have n0_ := Aside0.mk (below_step (by repeat (first | (with_reducible first | exact HB.out | apply below_alloc | apply pw_below_drewN | apply below_drew1) | exact HB.out)) hb); have n1_ := Aside0.mk (hbox); have n2_ := Aside0.mk ((by rw [hg]; exact (below_size (by repeat (first | (with_reducible first | exact HB.out | apply below_alloc | apply pw_below_drewN | apply below_drew1) | exact HB.out))) : w.heap.size ≤ gb221)); have n3_ := Aside0.mk ((by rw [hg]; exact (below_size (by repeat (first | (with_reducible first | exact HB.out | apply below_alloc | apply pw_below_drewN | apply below_drew1) | exact HB.out))) : w.heap.size ≤ gb221)); clear HB; have HB := n0_; have BK221 := n1_; have GW221 := n2_; have GE221 := n3_; clear n0_ n1_ n2_ n3_; clear hb hbox hg) | ((with_reducible refine gate_dst (N := 3) rfl ?_); (try (refine gate_guard (by rfl) ?_; dsimp only)); refine box_event ?hg (N := 3) ?hd (cs := #[.bool a1_0, .bool a1_1, .int .i64 a1_2, .int .u64 a1_3, .slice A1_4 l1_4.length c1_4]) (t := 31) ?hr ?_; (case hd => rfl); (case hg => rfl); (case hr => first | (go_simp; done) | (go_simp; rfl)); intro gb222 hg w5 hbox hb; have n0_ := Aside0.mk (blk_below (g := gb221) (o := .cells #[.bool a0_0, .bool a0_1, .int .i64 a0_2, .int .u64 a0_3, .slice A0_4 l0_4.length c0_4] 31 (0, 0)) (by (with_reducible repeat (first | refine blk_drewN ?_ _ | refine blk_drew ?_ | refine blk_alloc ?_ _)); exact BK221.out) hb); have n1_ := Aside0.mk (below_step (by repeat (first | (with_reducible first | exact HB.out | apply below_alloc | apply pw_below_drewN | apply below_drew1 | refine below_set ?_ GE221.out) | exact HB.out)) hb); have n2_ := Aside0.mk (hbox); have n3_ := Aside0.mk ((by rw [hg]; exact (below_size (by repeat (first | (with_reducible first | exact HB.out | apply below_alloc | apply pw_below_drewN | apply below_drew1 | refine below_set ?_ GE221.out) | exact HB.out))) : w.heap.size ≤ gb222)); have n4_ := Aside0.mk ((by rw [hg]; exact (below_size (by repeat (first | (with_reducible first | exact HB.out | apply below_alloc | apply pw_below_drewN | apply below_drew1 | refine below_set ?_ GE221.out) | exact HB.out))) : w.heap.size ≤ gb222)); have n5_ := Aside0.mk ((by rw [hg]; exact Nat.ne_of_lt (blk_lt (g := gb221) (o := .cells #[.bool a0_0, .bool a0_1, .int .i64 a0_2, .int .u64 a0_3, .slice A0_4 l0_4.length c0_4] 31 (0, 0)) (by (with_reducible repeat (first | refine blk_drewN ?_ _ | refine blk_drew ?_ | refine blk_alloc ?_ _)); exact BK221.out)) : gb221 ≠ gb222)); have n6_ := Aside0.mk ((by rw [hg]; exact Nat.ne_of_gt (blk_lt (g := gb221) (o := .cells #[.bool a0_0, .bool a0_1, .int .i64 a0_2, .int .u64 a0_3, .slice A0_4 l0_4.length c0_4] 31 (0, 0)) (by (with_reducible repeat (first | refine blk_drewN ?_ _ | refine blk_drew ?_ | refine blk_alloc ?_ _)); exact BK221.out)) : gb222 ≠ gb221)); clear BK221; clear HB; have BK221 := n0_; have HB := n1_; have BK222 := n2_; have GW222 := n3_; have GE222 := n4_; have NB221_222 := n5_; have NB222_221 := n6_; clear n0_ n1_ n2_ n3_ n4_ n5_ n6_; clear hb hbox hg)); go_upto_region 1 with (first | ((with_reducible refine gate_dst (N := 2) rfl ?_); (try (refine gate_guard (by rfl) ?_; dsimp only)); refine box_event ?hg (N := 2) ?hd (cs := #[.bool a0_0, .bool a0_1, .int .i64 a0_2, .int .u64 a0_3, .slice A0_4 l0_4.length c0_4]) (t := 31) ?hr ?_; (case hd => rfl); (case hg => rfl); (case hr => first | (go_simp; done) | (go_simp; rfl)); intro gb221 hg w4 hbox hb; have n0_ := Aside0.mk (below_step (by repeat (first | (with_reducible first | exact HB.out | apply below_alloc | apply pw_below_drewN | apply below_drew1) | exact HB.out)) hb); have n1_ := Aside0.mk (hbox); have n2_ := Aside0.mk ((by rw [hg]; exact (below_size (by repeat (first | (with_reducible first | exact HB.out | apply below_alloc | apply pw_below_drewN | apply below_drew1) | exact HB.out))) : w.heap.size ≤ gb221)); have n3_ := Aside0.mk ((by rw [hg]; exact (below_size (by repeat (first | (with_reducible first | exact HB.out | apply below_alloc | apply pw_below_drewN | apply below_drew1) | exact HB.out))) : w.heap.size ≤ gb221)); clear HB; have HB := n0_; have BK221 := n1_; have GW221 := n2_; have GE221 := n3_; clear n0_ n1_ n2_ n3_; clear hb hbox hg) | ((with_reducible refine gate_dst (N := 3) rfl ?_); (try (refine gate_guard (by rfl) ?_; dsimp only)); refine box_event ?hg (N := 3) ?hd (cs := #[.bool a1_0, .bool a1_1, .int .i64 a1_2, .int .u64 a1_3, .slice A1_4 l1_4.length c1_4]) (t := 31) ?hr ?_; (case hd => rfl); (case hg => rfl); (case hr => first | (go_simp; done) | (go_simp; rfl)); intro gb222 hg w5 hbox hb; have n0_ := Aside0.mk (blk_below (g := gb221) (o := .cells #[.bool a0_0, .bool a0_1, .int .i64 a0_2, .int .u64 a0_3, .slice A0_4 l0_4.length c0_4] 31 (0, 0)) (by (with_reducible repeat (first | refine blk_drewN ?_ _ | refine blk_drew ?_ | refine blk_alloc ?_ _)); exact BK221.out) hb); have n1_ := Aside0.mk (below_step (by repeat (first | (with_reducible first | exact HB.out | apply below_alloc | apply pw_below_drewN | apply below_drew1 | refine below_set ?_ GE221.out) | exact HB.out)) hb); have n2_ := Aside0.mk (hbox); have n3_ := Aside0.mk ((by rw [hg]; exact (below_size (by repeat (first | (with_reducible first | exact HB.out | apply below_alloc | apply pw_below_drewN | apply below_drew1 | refine below_set ?_ GE221.out) | exact HB.out))) : w.heap.size ≤ gb222)); have n4_ := Aside0.mk ((by rw [hg]; exact (below_size (by repeat (first | (with_reducible first | exact HB.out | apply below_alloc | apply pw_below_drewN | apply below_drew1 | refine below_set ?_ GE221.out) | exact HB.out))) : w.heap.size ≤ gb222)); have n5_ := Aside0.mk ((by rw [hg]; exact Nat.ne_of_lt (blk_lt (g := gb221) (o := .cells #[.bool a0_0, .bool a0_1, .int .i64 a0_2, .int .u64 a0_3, .slice A0_4 l0_4.length c0_4] 31 (0, 0)) (by (with_reducible repeat (first | refine blk_drewN ?_ _ | refine blk_drew ?_ | refine blk_alloc ?_ _)); exact BK221.out)) : gb221 ≠ gb222)); have n6_ := Aside0.mk ((by rw [hg]; exact Nat.ne_of_gt (blk_lt (g := gb221) (o := .cells #[.bool a0_0, .bool a0_1, .int .i64 a0_2, .int .u64 a0_3, .slice A0_4 l0_4.length c0_4] 31 (0, 0)) (by (with_reducible repeat (first | refine blk_drewN ?_ _ | refine blk_drew ?_ | refine blk_alloc ?_ _)); exact BK221.out)) : gb222 ≠ gb221)); clear BK221; clear HB; have BK221 := n0_; have HB := n1_; have BK222 := n2_; have GW222 := n3_; have GE222 := n4_; have NB221_222 := n5_; have NB222_221 := n6_; clear n0_ n1_ n2_ n3_ n4_ n5_ n6_; clear hb hbox hg)))
  (try simp only [Act.put, List.setIfInBounds_toArray, List.set_cons_zero, List.set_cons_succ])
  go_cut [40] (fun v40 wc => ∃ (kq : Nat) (x40_2 : Bool), v40 = .bool x40_2 ∧ Aside0 (paternosterref24_Same.j0 kq x40_2 a0_0 a0_1 a0_2 a0_3 l0_4 a1_0 a1_1 a1_2 a1_3 l1_4 = some r) ∧ Aside0 (kq ≤ k) ∧ Aside0 (wc.heap[gb221]? = some (.cells #[.bool a0_0, .bool a0_1, .int .i64 a0_2, .int .u64 a0_3, (.slice A0_4 l0_4.length c0_4)] 31 (0, 0))) ∧ Aside0 (wc.heap[gb222]? = some (.cells #[.bool a1_0, .bool a1_1, .int .i64 a1_2, .int .u64 a1_3, (.slice A1_4 l1_4.length c1_4)] 31 (0, 0))) ∧ Aside0 (Below w.heap.size w wc))
  case first =>
    have H := HC3.out
    clear HC3
    by_cases c6 : (a0_0 != a1_0) = true
    · rw [if_pos c6] at H
      have c6b0 : (a0_0 != a1_0) = true := c6
      (try (have c6b1 : decide (a0_0 = a1_0) = false := by simpa using c6))
      (try (have c6b2 : (a0_0 == a1_0) = false := by simpa using c6))
      (try (have c6b3 : ¬ (a0_0 = a1_0) := by simpa using c6))
      clear c6
      (first | rw [c6b0] | (simp only [i64_w, i32_w]; rw [c6b0]) | skip)
      have H' := Aside0.mk H
      clear H
      have hnb7 := NB221_222.out
      have hnc7 := NB222_221.out
      have hcz8_0 : w5.cell? ⟨gb221, 0, none⟩ = some (.bool a0_0) := (blk_cell BK221.out 0).trans rfl
      have hcz8_1 : w5.cell? ⟨gb221, 1, none⟩ = some (.bool a0_1) := (blk_cell BK221.out 1).trans rfl
      have hcz8_2 : w5.cell? ⟨gb221, 2, none⟩ = some (.int .i64 a0_2) := (blk_cell BK221.out 2).trans rfl
      have hcz8_3 : w5.cell? ⟨gb221, 3, none⟩ = some (.int .u64 a0_3) := (blk_cell BK221.out 3).trans rfl
      have hcz8_4 : w5.cell? ⟨gb221, 4, none⟩ = some (.slice A0_4 l0_4.length c0_4) := (blk_cell BK221.out 4).trans rfl
      have hfz8_0 := blk_frozen BK221.out 0
      have hfz8_1 := blk_frozen BK221.out 1
      have hfz8_2 := blk_frozen BK221.out 2
      have hfz8_3 := blk_frozen BK221.out 3
      have hfz8_4 := blk_frozen BK221.out 4
      have hcz9_0 : w5.cell? ⟨gb222, 0, none⟩ = some (.bool a1_0) := (blk_cell BK222.out 0).trans rfl
      have hcz9_1 : w5.cell? ⟨gb222, 1, none⟩ = some (.bool a1_1) := (blk_cell BK222.out 1).trans rfl
      have hcz9_2 : w5.cell? ⟨gb222, 2, none⟩ = some (.int .i64 a1_2) := (blk_cell BK222.out 2).trans rfl
      have hcz9_3 : w5.cell? ⟨gb222, 3, none⟩ = some (.int .u64 a1_3) := (blk_cell BK222.out 3).trans rfl
      have hcz9_4 : w5.cell? ⟨gb222, 4, none⟩ = some (.slice A1_4 l1_4.length c1_4) := (blk_cell BK222.out 4).trans rfl
      have hfz9_0 := blk_frozen BK222.out 0
      have hfz9_1 := blk_frozen BK222.out 1
      have hfz9_2 := blk_frozen BK222.out 2
      have hfz9_3 := blk_frozen BK222.out 3
      have hfz9_4 := blk_frozen BK222.out 4
      go_wp2
      repeat (go_quiet (fail); try go_wp2)
      go_meet
      case rel => exact ⟨_, (true), (by first | rfl | (simp; done) | (simp [*]; done)), H', ⟨by first | omega | exact Nat.le_refl _⟩, ⟨by (with_reducible repeat (first | refine blk_drewN ?_ _ | refine blk_drew ?_ | refine blk_alloc ?_ _)); exact BK221.out⟩, ⟨by (with_reducible repeat (first | refine blk_drewN ?_ _ | refine blk_drew ?_ | refine blk_alloc ?_ _)); exact BK222.out⟩, ⟨by repeat (first | (with_reducible first | exact HB.out | apply below_alloc | apply pw_below_drewN | apply below_drew1 | refine below_set ?_ GE221.out | refine below_set ?_ GE222.out) | exact HB.out)⟩⟩
    · rw [if_neg c6] at H
      have c6b0 : (a0_0 != a1_0) = false := by simpa using c6
      (try (have c6b1 : decide (a0_0 = a1_0) = true := by simpa using c6))
      (try (have c6b2 : (a0_0 == a1_0) = true := by simpa using c6))
      clear c6
      (first | rw [c6b0] | (simp only [i64_w, i32_w]; rw [c6b0]) | skip)
      by_cases c10 : (a0_1 != a1_1) = true
      · rw [if_pos c10] at H
        have c10b0 : (a0_1 != a1_1) = true := c10
        (try (have c10b1 : decide (a0_1 = a1_1) = false := by simpa using c10))
        (try (have c10b2 : (a0_1 == a1_1) = false := by simpa using c10))
        (try (have c10b3 : ¬ (a0_1 = a1_1) := by simpa using c10))
        clear c10
        have H' := Aside0.mk H
        clear H
        have hnb11 := NB221_222.out
        have hnc11 := NB222_221.out
        have hcz12_0 : w5.cell? ⟨gb221, 0, none⟩ = some (.bool a0_0) := (blk_cell BK221.out 0).trans rfl
        have hcz12_1 : w5.cell? ⟨gb221, 1, none⟩ = some (.bool a0_1) := (blk_cell BK221.out 1).trans rfl
        have hcz12_2 : w5.cell? ⟨gb221, 2, none⟩ = some (.int .i64 a0_2) := (blk_cell BK221.out 2).trans rfl
        have hcz12_3 : w5.cell? ⟨gb221, 3, none⟩ = some (.int .u64 a0_3) := (blk_cell BK221.out 3).trans rfl
        have hcz12_4 : w5.cell? ⟨gb221, 4, none⟩ = some (.slice A0_4 l0_4.length c0_4) := (blk_cell BK221.out 4).trans rfl
        have hfz12_0 := blk_frozen BK221.out 0
        have hfz12_1 := blk_frozen BK221.out 1
        have hfz12_2 := blk_frozen BK221.out 2
        have hfz12_3 := blk_frozen BK221.out 3
        have hfz12_4 := blk_frozen BK221.out 4
        have hcz13_0 : w5.cell? ⟨gb222, 0, none⟩ = some (.bool a1_0) := (blk_cell BK222.out 0).trans rfl
        have hcz13_1 : w5.cell? ⟨gb222, 1, none⟩ = some (.bool a1_1) := (blk_cell BK222.out 1).trans rfl
        have hcz13_2 : w5.cell? ⟨gb222, 2, none⟩ = some (.int .i64 a1_2) := (blk_cell BK222.out 2).trans rfl
        have hcz13_3 : w5.cell? ⟨gb222, 3, none⟩ = some (.int .u64 a1_3) := (blk_cell BK222.out 3).trans rfl
        have hcz13_4 : w5.cell? ⟨gb222, 4, none⟩ = some (.slice A1_4 l1_4.length c1_4) := (blk_cell BK222.out 4).trans rfl
        have hfz13_0 := blk_frozen BK222.out 0
        have hfz13_1 := blk_frozen BK222.out 1
        have hfz13_2 := blk_frozen BK222.out 2
        have hfz13_3 := blk_frozen BK222.out 3
        have hfz13_4 := blk_frozen BK222.out 4
        go_wp2
        repeat (go_quiet (fail); try go_wp2)
        go_meet
        case rel => exact ⟨_, (true), (by first | rfl | (simp; done) | (simp [*]; done)), H', ⟨by first | omega | exact Nat.le_refl _⟩, ⟨by (with_reducible repeat (first | refine blk_drewN ?_ _ | refine blk_drew ?_ | refine blk_alloc ?_ _)); exact BK221.out⟩, ⟨by (with_reducible repeat (first | refine blk_drewN ?_ _ | refine blk_drew ?_ | refine blk_alloc ?_ _)); exact BK222.out⟩, ⟨by repeat (first | (with_reducible first | exact HB.out | apply below_alloc | apply pw_below_drewN | apply below_drew1 | refine below_set ?_ GE221.out | refine below_set ?_ GE222.out) | exact HB.out)⟩⟩
      · rw [if_neg c10] at H
        have c10b0 : (a0_1 != a1_1) = false := by simpa using c10
        (try (have c10b1 : decide (a0_1 = a1_1) = true := by simpa using c10))
        (try (have c10b2 : (a0_1 == a1_1) = true := by simpa using c10))
        clear c10
        by_cases c14 : a0_2 = a1_2
        · rw [if_pos c14] at H
          have c14b0 : (a0_2 == a1_2) = true := beq_iff_eq.mpr c14
          have c14b1 : (a0_2 != a1_2) = false := bne_eq_false_iff_eq.mpr c14
          clear c14
          by_cases c15 : a0_3 = a1_3
          · rw [if_pos c15] at H
            have c15b0 : (a0_3 == a1_3) = true := beq_iff_eq.mpr c15
            have c15b1 : (a0_3 != a1_3) = false := bne_eq_false_iff_eq.mpr c15
            clear c15
            have H' := Aside0.mk H
            clear H
            have hnb16 := NB221_222.out
            have hnc16 := NB222_221.out
            have hcz17_0 : w5.cell? ⟨gb221, 0, none⟩ = some (.bool a0_0) := (blk_cell BK221.out 0).trans rfl
            have hcz17_1 : w5.cell? ⟨gb221, 1, none⟩ = some (.bool a0_1) := (blk_cell BK221.out 1).trans rfl
            have hcz17_2 : w5.cell? ⟨gb221, 2, none⟩ = some (.int .i64 a0_2) := (blk_cell BK221.out 2).trans rfl
            have hcz17_3 : w5.cell? ⟨gb221, 3, none⟩ = some (.int .u64 a0_3) := (blk_cell BK221.out 3).trans rfl
            have hcz17_4 : w5.cell? ⟨gb221, 4, none⟩ = some (.slice A0_4 l0_4.length c0_4) := (blk_cell BK221.out 4).trans rfl
            have hfz17_0 := blk_frozen BK221.out 0
            have hfz17_1 := blk_frozen BK221.out 1
            have hfz17_2 := blk_frozen BK221.out 2
            have hfz17_3 := blk_frozen BK221.out 3
            have hfz17_4 := blk_frozen BK221.out 4
            have hcz18_0 : w5.cell? ⟨gb222, 0, none⟩ = some (.bool a1_0) := (blk_cell BK222.out 0).trans rfl
            have hcz18_1 : w5.cell? ⟨gb222, 1, none⟩ = some (.bool a1_1) := (blk_cell BK222.out 1).trans rfl
            have hcz18_2 : w5.cell? ⟨gb222, 2, none⟩ = some (.int .i64 a1_2) := (blk_cell BK222.out 2).trans rfl
            have hcz18_3 : w5.cell? ⟨gb222, 3, none⟩ = some (.int .u64 a1_3) := (blk_cell BK222.out 3).trans rfl
            have hcz18_4 : w5.cell? ⟨gb222, 4, none⟩ = some (.slice A1_4 l1_4.length c1_4) := (blk_cell BK222.out 4).trans rfl
            have hfz18_0 := blk_frozen BK222.out 0
            have hfz18_1 := blk_frozen BK222.out 1
            have hfz18_2 := blk_frozen BK222.out 2
            have hfz18_3 := blk_frozen BK222.out 3
            have hfz18_4 := blk_frozen BK222.out 4
            go_wp2
            repeat (go_quiet (fail); try go_wp2)
            go_meet
            case rel => exact ⟨_, (((l0_4.length : Int) != (l1_4.length : Int))), (by first | rfl | (simp; done) | (simp [*]; done)), H', ⟨by first | omega | exact Nat.le_refl _⟩, ⟨by (with_reducible repeat (first | refine blk_drewN ?_ _ | refine blk_drew ?_ | refine blk_alloc ?_ _)); exact BK221.out⟩, ⟨by (with_reducible repeat (first | refine blk_drewN ?_ _ | refine blk_drew ?_ | refine blk_alloc ?_ _)); exact BK222.out⟩, ⟨by repeat (first | (with_reducible first | exact HB.out | apply below_alloc | apply pw_below_drewN | apply below_drew1 | refine below_set ?_ GE221.out | refine below_set ?_ GE222.out) | exact HB.out)⟩⟩
          · rw [if_neg c15] at H
            have c15b0 : (a0_3 == a1_3) = false := beq_eq_false_iff_ne.mpr c15
            have c15b1 : (a0_3 != a1_3) = true := bne_iff_ne.mpr c15
            have H' := Aside0.mk H
            clear H
            have hnb19 := NB221_222.out
            have hnc19 := NB222_221.out
            have hcz20_0 : w5.cell? ⟨gb221, 0, none⟩ = some (.bool a0_0) := (blk_cell BK221.out 0).trans rfl
            have hcz20_1 : w5.cell? ⟨gb221, 1, none⟩ = some (.bool a0_1) := (blk_cell BK221.out 1).trans rfl
            have hcz20_2 : w5.cell? ⟨gb221, 2, none⟩ = some (.int .i64 a0_2) := (blk_cell BK221.out 2).trans rfl
            have hcz20_3 : w5.cell? ⟨gb221, 3, none⟩ = some (.int .u64 a0_3) := (blk_cell BK221.out 3).trans rfl
            have hcz20_4 : w5.cell? ⟨gb221, 4, none⟩ = some (.slice A0_4 l0_4.length c0_4) := (blk_cell BK221.out 4).trans rfl
            have hfz20_0 := blk_frozen BK221.out 0
            have hfz20_1 := blk_frozen BK221.out 1
            have hfz20_2 := blk_frozen BK221.out 2
            have hfz20_3 := blk_frozen BK221.out 3
            have hfz20_4 := blk_frozen BK221.out 4
            have hcz21_0 : w5.cell? ⟨gb222, 0, none⟩ = some (.bool a1_0) := (blk_cell BK222.out 0).trans rfl
            have hcz21_1 : w5.cell? ⟨gb222, 1, none⟩ = some (.bool a1_1) := (blk_cell BK222.out 1).trans rfl
            have hcz21_2 : w5.cell? ⟨gb222, 2, none⟩ = some (.int .i64 a1_2) := (blk_cell BK222.out 2).trans rfl
            have hcz21_3 : w5.cell? ⟨gb222, 3, none⟩ = some (.int .u64 a1_3) := (blk_cell BK222.out 3).trans rfl
            have hcz21_4 : w5.cell? ⟨gb222, 4, none⟩ = some (.slice A1_4 l1_4.length c1_4) := (blk_cell BK222.out 4).trans rfl
            have hfz21_0 := blk_frozen BK222.out 0
            have hfz21_1 := blk_frozen BK222.out 1
            have hfz21_2 := blk_frozen BK222.out 2
            have hfz21_3 := blk_frozen BK222.out 3
            have hfz21_4 := blk_frozen BK222.out 4
            go_wp2
            repeat (go_quiet (fail); try go_wp2)
            go_meet
            case rel => exact ⟨_, (true), (by first | rfl | (simp; done) | (simp [*]; done)), H', ⟨by first | omega | exact Nat.le_refl _⟩, ⟨by (with_reducible repeat (first | refine blk_drewN ?_ _ | refine blk_drew ?_ | refine blk_alloc ?_ _)); exact BK221.out⟩, ⟨by (with_reducible repeat (first | refine blk_drewN ?_ _ | refine blk_drew ?_ | refine blk_alloc ?_ _)); exact BK222.out⟩, ⟨by repeat (first | (with_reducible first | exact HB.out | apply below_alloc | apply pw_below_drewN | apply below_drew1 | refine below_set ?_ GE221.out | refine below_set ?_ GE222.out) | exact HB.out)⟩⟩
        · rw [if_neg c14] at H
          have c14b0 : (a0_2 == a1_2) = false := beq_eq_false_iff_ne.mpr c14
          have c14b1 : (a0_2 != a1_2) = true := bne_iff_ne.mpr c14
          have H' := Aside0.mk H
          clear H
          have hnb22 := NB221_222.out
          have hnc22 := NB222_221.out
          have hcz23_0 : w5.cell? ⟨gb221, 0, none⟩ = some (.bool a0_0) := (blk_cell BK221.out 0).trans rfl
          have hcz23_1 : w5.cell? ⟨gb221, 1, none⟩ = some (.bool a0_1) := (blk_cell BK221.out 1).trans rfl
          have hcz23_2 : w5.cell? ⟨gb221, 2, none⟩ = some (.int .i64 a0_2) := (blk_cell BK221.out 2).trans rfl
          have hcz23_3 : w5.cell? ⟨gb221, 3, none⟩ = some (.int .u64 a0_3) := (blk_cell BK221.out 3).trans rfl
          have hcz23_4 : w5.cell? ⟨gb221, 4, none⟩ = some (.slice A0_4 l0_4.length c0_4) := (blk_cell BK221.out 4).trans rfl
          have hfz23_0 := blk_frozen BK221.out 0
          have hfz23_1 := blk_frozen BK221.out 1
          have hfz23_2 := blk_frozen BK221.out 2
          have hfz23_3 := blk_frozen BK221.out 3
          have hfz23_4 := blk_frozen BK221.out 4
          have hcz24_0 : w5.cell? ⟨gb222, 0, none⟩ = some (.bool a1_0) := (blk_cell BK222.out 0).trans rfl
          have hcz24_1 : w5.cell? ⟨gb222, 1, none⟩ = some (.bool a1_1) := (blk_cell BK222.out 1).trans rfl
          have hcz24_2 : w5.cell? ⟨gb222, 2, none⟩ = some (.int .i64 a1_2) := (blk_cell BK222.out 2).trans rfl
          have hcz24_3 : w5.cell? ⟨gb222, 3, none⟩ = some (.int .u64 a1_3) := (blk_cell BK222.out 3).trans rfl
          have hcz24_4 : w5.cell? ⟨gb222, 4, none⟩ = some (.slice A1_4 l1_4.length c1_4) := (blk_cell BK222.out 4).trans rfl
          have hfz24_0 := blk_frozen BK222.out 0
          have hfz24_1 := blk_frozen BK222.out 1
          have hfz24_2 := blk_frozen BK222.out 2
          have hfz24_3 := blk_frozen BK222.out 3
          have hfz24_4 := blk_frozen BK222.out 4
          go_wp2
          repeat (go_quiet (fail); try go_wp2)
          go_meet
          case rel => exact ⟨_, (true), (by first | rfl | (simp; done) | (simp [*]; done)), H', ⟨by first | omega | exact Nat.le_refl _⟩, ⟨by (with_reducible repeat (first | refine blk_drewN ?_ _ | refine blk_drew ?_ | refine blk_alloc ?_ _)); exact BK221.out⟩, ⟨by (with_reducible repeat (first | refine blk_drewN ?_ _ | refine blk_drew ?_ | refine blk_alloc ?_ _)); exact BK222.out⟩, ⟨by repeat (first | (with_reducible first | exact HB.out | apply below_alloc | apply pw_below_drewN | apply below_drew1 | refine below_set ?_ GE221.out | refine below_set ?_ GE222.out) | exact HB.out)⟩⟩
  case rest =>
    clear HC3
    try clear c1
    try clear c2
    try clear p2
    try clear c6
    try clear c6b0
    try clear c6b1
    try clear c6b2
    try clear c7
    try clear c10
    try clear c10b0
    try clear c10b1
    try clear c10b2
    try clear c11
    try clear c13
    try clear c14
    try clear c14b0
    try clear c14b1
    try clear c15
    try clear c15b0
    try clear c15b1
    try clear c16
    try clear c19
    try clear c22
    try clear hcz12_0
    try clear hcz12_1
    try clear hcz12_2
    try clear hcz12_3
    try clear hcz12_4
    try clear hcz13_0
    try clear hcz13_1
    try clear hcz13_2
    try clear hcz13_3
    try clear hcz13_4
    try clear hcz17_0
    try clear hcz17_1
    try clear hcz17_2
    try clear hcz17_3
    try clear hcz17_4
    try clear hcz18_0
    try clear hcz18_1
    try clear hcz18_2
    try clear hcz18_3
    try clear hcz18_4
    try clear hcz20_0
    try clear hcz20_1
    try clear hcz20_2
    try clear hcz20_3
    try clear hcz20_4
    try clear hcz21_0
    try clear hcz21_1
    try clear hcz21_2
    try clear hcz21_3
    try clear hcz21_4
    try clear hcz23_0
    try clear hcz23_1
    try clear hcz23_2
    try clear hcz23_3
    try clear hcz23_4
    try clear hcz24_0
    try clear hcz24_1
    try clear hcz24_2
    try clear hcz24_3
    try clear hcz24_4
    try clear hcz8_0
    try clear hcz8_1
    try clear hcz8_2
    try clear hcz8_3
    try clear hcz8_4
    try clear hcz9_0
    try clear hcz9_1
    try clear hcz9_2
    try clear hcz9_3
    try clear hcz9_4
    try clear hfz12_0
    try clear hfz12_1
    try clear hfz12_2
    try clear hfz12_3
    try clear hfz12_4
    try clear hfz13_0
    try clear hfz13_1
    try clear hfz13_2
    try clear hfz13_3
    try clear hfz13_4
    try clear hfz17_0
    try clear hfz17_1
    try clear hfz17_2
    try clear hfz17_3
    try clear hfz17_4
    try clear hfz18_0
    try clear hfz18_1
    try clear hfz18_2
    try clear hfz18_3
    try clear hfz18_4
    try clear hfz20_0
    try clear hfz20_1
    try clear hfz20_2
    try clear hfz20_3
    try clear hfz20_4
    try clear hfz21_0
    try clear hfz21_1
    try clear hfz21_2
    try clear hfz21_3
    try clear hfz21_4
    try clear hfz23_0
    try clear hfz23_1
    try clear hfz23_2
    try clear hfz23_3
    try clear hfz23_4
    try clear hfz24_0
    try clear hfz24_1
    try clear hfz24_2
    try clear hfz24_3
    try clear hfz24_4
    try clear hfz8_0
    try clear hfz8_1
    try clear hfz8_2
    try clear hfz8_3
    try clear hfz8_4
    try clear hfz9_0
    try clear hfz9_1
    try clear hfz9_2
    try clear hfz9_3
    try clear hfz9_4
    obtain ⟨kq, x40_2, rfl, HA, HJ2, BK221, BK222, HB⟩ := hcut
    cases kq with
    | zero => exact absurd HA.out (by simp [paternosterref24_Same.j0])
    | succ kj2 =>
      have H := HA.out
      clear HA
      simp only [paternosterref24_Same.j0] at H
      by_cases c25 : x40_2 = true
      · subst c25
        have H1 : (some false) = some r := by rw [if_pos rfl] at H; exact H
        clear H
        have H := H1
        clear H1
        obtain rfl := Option.some.inj H
        go_wp2
        repeat (go_quiet (fail); try go_wp2)
        go_ret
        exact ⟨by first | rfl | (simp [errW_none, errW_some] <;> rfl) | (simp [*, errW_none, errW_some] <;> rfl), by repeat (first | (with_reducible first | exact HB.out | apply below_alloc | apply pw_below_drewN | apply below_drew1 | refine below_set ?_ GE221.out | refine below_set ?_ GE222.out) | exact HB.out)⟩
      · replace c25 := Bool.eq_false_iff.mpr c25
        subst c25
        have H1 : (paternosterref24_Same.l0 kj2 0 a0_0 a0_1 a0_2 a0_3 l0_4 a1_0 a1_1 a1_2 a1_3 l1_4) = some r := by rw [if_neg (show ¬ (false = true) by decide)] at H; exact H
        clear H
        have H := H1
        clear H1
        have H' := Aside0.mk H
        clear H
        go_wp2
        repeat (go_quiet (fail); try go_wp2)
        go_loopg [5] kj2 (fun kq v5 w' => ∃ (x5_2 : Int), v5 = .int .i64 x5_2 ∧ Aside0 (paternosterref24_Same.l0 kq x5_2 a0_0 a0_1 a0_2 a0_3 l0_4 a1_0 a1_1 a1_2 a1_3 l1_4 = some r) ∧ Aside0 (kq ≤ kj2) ∧ Aside0 (w'.heap[gb221]? = some (.cells #[.bool a0_0, .bool a0_1, .int .i64 a0_2, .int .u64 a0_3, (.slice A0_4 l0_4.length c0_4)] 31 (0, 0))) ∧ Aside0 (w'.heap[gb222]? = some (.cells #[.bool a1_0, .bool a1_1, .int .i64 a1_2, .int .u64 a1_3, (.slice A1_4 l1_4.length c1_4)] 31 (0, 0))) ∧ Aside0 (Below w.heap.size w w'))
        case atStart => exact ⟨(0), (by first | rfl | (simp; done) | (simp [*]; done)), H', ⟨Nat.le_refl _⟩, ⟨by (with_reducible repeat (first | refine blk_drewN ?_ _ | refine blk_drew ?_ | refine blk_alloc ?_ _)); exact BK221.out⟩, ⟨by (with_reducible repeat (first | refine blk_drewN ?_ _ | refine blk_drew ?_ | refine blk_alloc ?_ _)); exact BK222.out⟩, ⟨by repeat (first | (with_reducible first | exact HB.out | apply below_alloc | apply pw_below_drewN | apply below_drew1 | refine below_set ?_ GE221.out | refine below_set ?_ GE222.out) | exact HB.out)⟩⟩
        case round =>
          clear H'
          try clear c1
          try clear c2
          try clear p2
          try clear c6
          try clear c6b0
          try clear c6b1
          try clear c6b2
          try clear c7
          try clear c10
          try clear c10b0
          try clear c10b1
          try clear c10b2
          try clear c11
          try clear c13
          try clear c14
          try clear c14b0
          try clear c14b1
          try clear c15
          try clear c15b0
          try clear c15b1
          try clear c16
          try clear c19
          try clear c22
          try clear c25
          try clear hcz12_0
          try clear hcz12_1
          try clear hcz12_2
          try clear hcz12_3
          try clear hcz12_4
          try clear hcz13_0
          try clear hcz13_1
          try clear hcz13_2
          try clear hcz13_3
          try clear hcz13_4
          try clear hcz17_0
          try clear hcz17_1
          try clear hcz17_2
          try clear hcz17_3
          try clear hcz17_4
          try clear hcz18_0
          try clear hcz18_1
          try clear hcz18_2
          try clear hcz18_3
          try clear hcz18_4
          try clear hcz20_0
          try clear hcz20_1
          try clear hcz20_2
          try clear hcz20_3
          try clear hcz20_4
          try clear hcz21_0
          try clear hcz21_1
          try clear hcz21_2
          try clear hcz21_3
          try clear hcz21_4
          try clear hcz23_0
          try clear hcz23_1
          try clear hcz23_2
          try clear hcz23_3
          try clear hcz23_4
          try clear hcz24_0
          try clear hcz24_1
          try clear hcz24_2
          try clear hcz24_3
          try clear hcz24_4
          try clear hcz8_0
          try clear hcz8_1
          try clear hcz8_2
          try clear hcz8_3
          try clear hcz8_4
          try clear hcz9_0
          try clear hcz9_1
          try clear hcz9_2
          try clear hcz9_3
          try clear hcz9_4
          try clear hfz12_0
          try clear hfz12_1
          try clear hfz12_2
          try clear hfz12_3
          try clear hfz12_4
          try clear hfz13_0
          try clear hfz13_1
          try clear hfz13_2
          try clear hfz13_3
          try clear hfz13_4
          try clear hfz17_0
          try clear hfz17_1
          try clear hfz17_2
          try clear hfz17_3
          try clear hfz17_4
          try clear hfz18_0
          try clear hfz18_1
          try clear hfz18_2
          try clear hfz18_3
          try clear hfz18_4
          try clear hfz20_0
          try clear hfz20_1
          try clear hfz20_2
          try clear hfz20_3
          try clear hfz20_4
          try clear hfz21_0
          try clear hfz21_1
          try clear hfz21_2
          try clear hfz21_3
          try clear hfz21_4
          try clear hfz23_0
          try clear hfz23_1
          try clear hfz23_2
          try clear hfz23_3
          try clear hfz23_4
          try clear hfz24_0
          try clear hfz24_1
          try clear hfz24_2
          try clear hfz24_3
          try clear hfz24_4
          try clear hfz8_0
          try clear hfz8_1
          try clear hfz8_2
          try clear hfz8_3
          try clear hfz8_4
          try clear hfz9_0
          try clear hfz9_1
          try clear hfz9_2
          try clear hfz9_3
          try clear hfz9_4
          try clear p2
          obtain ⟨x5_2, rfl, HA, HK2, BK221, BK222, HB⟩ := hrel
          cases gk with
          | zero => exact absurd HA.out (by simp [paternosterref24_Same.l0])
          | succ k2 =>
            have H := HA.out
            clear HA
            simp only [paternosterref24_Same.l0] at H
            by_cases c26 : x5_2 < (l0_4.length : Int)
            · rw [if_pos c26] at H
              have c26b0 : decide (x5_2 < (l0_4.length : Int)) = true := decide_eq_true c26
              clear c26
              by_cases c27 : 0 ≤ x5_2
              · rw [if_pos c27] at H
                have c27b0 : decide (0 ≤ x5_2) = true := decide_eq_true c27
                clear c27
                by_cases c28 : x5_2 < (l1_4.length : Int)
                · rw [if_pos c28] at H
                  have c28b0 : decide (x5_2 < (l1_4.length : Int)) = true := decide_eq_true c28
                  clear c28
                  by_cases c29 : (!(((rd_T45 l0_4 x5_2).f0) == ((rd_T45 l1_4 x5_2).f0)) || (!(((rd_T45 l0_4 x5_2).f1) == ((rd_T45 l1_4 x5_2).f1)) || (!(((rd_T45 l0_4 x5_2).f2) == ((rd_T45 l1_4 x5_2).f2))))) = true
                  · rw [if_pos c29] at H
                    have c29b0 : (!(((rd_T45 l0_4 x5_2).f0) == ((rd_T45 l1_4 x5_2).f0)) || (!(((rd_T45 l0_4 x5_2).f1) == ((rd_T45 l1_4 x5_2).f1)) || (!(((rd_T45 l0_4 x5_2).f2) == ((rd_T45 l1_4 x5_2).f2))))) = true := c29
                    clear c29
                    obtain rfl := Option.some.inj H
                    have hnb30 := NB221_222.out
                    have hnc30 := NB222_221.out
                    have hcz31_0 : wr.cell? ⟨gb221, 0, none⟩ = some (.bool a0_0) := (blk_cell BK221.out 0).trans rfl
                    have hcz31_1 : wr.cell? ⟨gb221, 1, none⟩ = some (.bool a0_1) := (blk_cell BK221.out 1).trans rfl
                    have hcz31_2 : wr.cell? ⟨gb221, 2, none⟩ = some (.int .i64 a0_2) := (blk_cell BK221.out 2).trans rfl
                    have hcz31_3 : wr.cell? ⟨gb221, 3, none⟩ = some (.int .u64 a0_3) := (blk_cell BK221.out 3).trans rfl
                    have hcz31_4 : wr.cell? ⟨gb221, 4, none⟩ = some (.slice A0_4 l0_4.length c0_4) := (blk_cell BK221.out 4).trans rfl
                    have hfz31_0 := blk_frozen BK221.out 0
                    have hfz31_1 := blk_frozen BK221.out 1
                    have hfz31_2 := blk_frozen BK221.out 2
                    have hfz31_3 := blk_frozen BK221.out 3
                    have hfz31_4 := blk_frozen BK221.out 4
                    have p223 : 0 ≤ (x5_2 : Int) := of_decide_eq_true (by first | (with_reducible assumption) | assumption)
                    have q223 : x5_2 < (l0_4.length : Int) := of_decide_eq_true (by first | (with_reducible assumption) | assumption)
                    obtain ⟨ad223, e223, hx223_0, hx223_1, hx223_2⟩ := at_T45 HR0_4.out x5_2 p223 q223
                    cases e223
                    replace hx223_0 := (HB.out.cell (World.block_lt_of_cell? w _ hx223_0)).trans hx223_0
                    replace hx223_1 := (HB.out.cell (World.block_lt_of_cell? w _ hx223_1)).trans hx223_1
                    replace hx223_2 := (HB.out.cell (World.block_lt_of_cell? w _ hx223_2)).trans hx223_2
                    replace p223 := eq_true p223
                    replace q223 := eq_true q223
                    have hcz32_0 : wr.cell? ⟨gb222, 0, none⟩ = some (.bool a1_0) := (blk_cell BK222.out 0).trans rfl
                    have hcz32_1 : wr.cell? ⟨gb222, 1, none⟩ = some (.bool a1_1) := (blk_cell BK222.out 1).trans rfl
                    have hcz32_2 : wr.cell? ⟨gb222, 2, none⟩ = some (.int .i64 a1_2) := (blk_cell BK222.out 2).trans rfl
                    have hcz32_3 : wr.cell? ⟨gb222, 3, none⟩ = some (.int .u64 a1_3) := (blk_cell BK222.out 3).trans rfl
                    have hcz32_4 : wr.cell? ⟨gb222, 4, none⟩ = some (.slice A1_4 l1_4.length c1_4) := (blk_cell BK222.out 4).trans rfl
                    have hfz32_0 := blk_frozen BK222.out 0
                    have hfz32_1 := blk_frozen BK222.out 1
                    have hfz32_2 := blk_frozen BK222.out 2
                    have hfz32_3 := blk_frozen BK222.out 3
                    have hfz32_4 := blk_frozen BK222.out 4
                    have p224 : 0 ≤ (x5_2 : Int) := of_decide_eq_true (by first | (with_reducible assumption) | assumption)
                    have q224 : x5_2 < (l1_4.length : Int) := of_decide_eq_true (by first | (with_reducible assumption) | assumption)
                    obtain ⟨ad224, e224, hx224_0, hx224_1, hx224_2⟩ := at_T45 HR1_4.out x5_2 p224 q224
                    cases e224
                    replace hx224_0 := (HB.out.cell (World.block_lt_of_cell? w _ hx224_0)).trans hx224_0
                    replace hx224_1 := (HB.out.cell (World.block_lt_of_cell? w _ hx224_1)).trans hx224_1
                    replace hx224_2 := (HB.out.cell (World.block_lt_of_cell? w _ hx224_2)).trans hx224_2
                    replace p224 := eq_true p224
                    replace q224 := eq_true q224
                    go_wp2
                    repeat (go_quiet (fail); try go_wp2)
                    go_ret
                    exact ⟨by first | rfl | (simp [errW_none, errW_some] <;> rfl) | (simp [*, errW_none, errW_some] <;> rfl), by repeat (first | (with_reducible first | exact HB.out | apply below_alloc | apply pw_below_drewN | apply below_drew1 | refine below_set ?_ GE221.out | refine below_set ?_ GE222.out) | exact HB.out)⟩
                  · rw [if_neg c29] at H
                    have c29b0 : (!(((rd_T45 l0_4 x5_2).f0) == ((rd_T45 l1_4 x5_2).f0)) || (!(((rd_T45 l0_4 x5_2).f1) == ((rd_T45 l1_4 x5_2).f1)) || (!(((rd_T45 l0_4 x5_2).f2) == ((rd_T45 l1_4 x5_2).f2))))) = false := by simpa using c29
                    clear c29
                    have H' := Aside0.mk H
                    clear H
                    have hnb33 := NB221_222.out
                    have hnc33 := NB222_221.out
                    have hcz34_0 : wr.cell? ⟨gb221, 0, none⟩ = some (.bool a0_0) := (blk_cell BK221.out 0).trans rfl
                    have hcz34_1 : wr.cell? ⟨gb221, 1, none⟩ = some (.bool a0_1) := (blk_cell BK221.out 1).trans rfl
                    have hcz34_2 : wr.cell? ⟨gb221, 2, none⟩ = some (.int .i64 a0_2) := (blk_cell BK221.out 2).trans rfl
                    have hcz34_3 : wr.cell? ⟨gb221, 3, none⟩ = some (.int .u64 a0_3) := (blk_cell BK221.out 3).trans rfl
                    have hcz34_4 : wr.cell? ⟨gb221, 4, none⟩ = some (.slice A0_4 l0_4.length c0_4) := (blk_cell BK221.out 4).trans rfl
                    have hfz34_0 := blk_frozen BK221.out 0
                    have hfz34_1 := blk_frozen BK221.out 1
                    have hfz34_2 := blk_frozen BK221.out 2
                    have hfz34_3 := blk_frozen BK221.out 3
                    have hfz34_4 := blk_frozen BK221.out 4
                    have p223 : 0 ≤ (x5_2 : Int) := of_decide_eq_true (by first | (with_reducible assumption) | assumption)
                    have q223 : x5_2 < (l0_4.length : Int) := of_decide_eq_true (by first | (with_reducible assumption) | assumption)
                    obtain ⟨ad223, e223, hx223_0, hx223_1, hx223_2⟩ := at_T45 HR0_4.out x5_2 p223 q223
                    cases e223
                    replace hx223_0 := (HB.out.cell (World.block_lt_of_cell? w _ hx223_0)).trans hx223_0
                    replace hx223_1 := (HB.out.cell (World.block_lt_of_cell? w _ hx223_1)).trans hx223_1
                    replace hx223_2 := (HB.out.cell (World.block_lt_of_cell? w _ hx223_2)).trans hx223_2
                    replace p223 := eq_true p223
                    replace q223 := eq_true q223
                    have hcz35_0 : wr.cell? ⟨gb222, 0, none⟩ = some (.bool a1_0) := (blk_cell BK222.out 0).trans rfl
                    have hcz35_1 : wr.cell? ⟨gb222, 1, none⟩ = some (.bool a1_1) := (blk_cell BK222.out 1).trans rfl
                    have hcz35_2 : wr.cell? ⟨gb222, 2, none⟩ = some (.int .i64 a1_2) := (blk_cell BK222.out 2).trans rfl
                    have hcz35_3 : wr.cell? ⟨gb222, 3, none⟩ = some (.int .u64 a1_3) := (blk_cell BK222.out 3).trans rfl
                    have hcz35_4 : wr.cell? ⟨gb222, 4, none⟩ = some (.slice A1_4 l1_4.length c1_4) := (blk_cell BK222.out 4).trans rfl
                    have hfz35_0 := blk_frozen BK222.out 0
                    have hfz35_1 := blk_frozen BK222.out 1
                    have hfz35_2 := blk_frozen BK222.out 2
                    have hfz35_3 := blk_frozen BK222.out 3
                    have hfz35_4 := blk_frozen BK222.out 4
                    have p224 : 0 ≤ (x5_2 : Int) := of_decide_eq_true (by first | (with_reducible assumption) | assumption)
                    have q224 : x5_2 < (l1_4.length : Int) := of_decide_eq_true (by first | (with_reducible assumption) | assumption)
                    obtain ⟨ad224, e224, hx224_0, hx224_1, hx224_2⟩ := at_T45 HR1_4.out x5_2 p224 q224
                    cases e224
                    replace hx224_0 := (HB.out.cell (World.block_lt_of_cell? w _ hx224_0)).trans hx224_0
                    replace hx224_1 := (HB.out.cell (World.block_lt_of_cell? w _ hx224_1)).trans hx224_1
                    replace hx224_2 := (HB.out.cell (World.block_lt_of_cell? w _ hx224_2)).trans hx224_2
                    replace p224 := eq_true p224
                    replace q224 := eq_true q224
                    go_wp2
                    repeat (go_quiet (fail); try go_wp2)
                    go_roundg k2
                    case measure => have := HJ2.out; have := HK2.out; omega
                    case rel => exact ⟨(wrap64 (x5_2 + 1)), (by first | rfl | (simp; done) | (simp [*]; done)), H', ⟨by have := HJ2.out; have := HK2.out; omega⟩, ⟨by (with_reducible repeat (first | refine blk_drewN ?_ _ | refine blk_drew ?_ | refine blk_alloc ?_ _)); exact BK221.out⟩, ⟨by (with_reducible repeat (first | refine blk_drewN ?_ _ | refine blk_drew ?_ | refine blk_alloc ?_ _)); exact BK222.out⟩, ⟨by repeat (first | (with_reducible first | exact HB.out | apply below_alloc | apply pw_below_drewN | apply below_drew1 | refine below_set ?_ GE221.out | refine below_set ?_ GE222.out) | exact HB.out)⟩⟩
                · rw [if_neg c28] at H
                  exact absurd H (by simp)
              · rw [if_neg c27] at H
                exact absurd H (by simp)
            · rw [if_neg c26] at H
              have c26b0 : decide (x5_2 < (l0_4.length : Int)) = false := decide_eq_false c26
              clear c26
              obtain rfl := Option.some.inj H
              have hnb36 := NB221_222.out
              have hnc36 := NB222_221.out
              have hcz37_0 : wr.cell? ⟨gb221, 0, none⟩ = some (.bool a0_0) := (blk_cell BK221.out 0).trans rfl
              have hcz37_1 : wr.cell? ⟨gb221, 1, none⟩ = some (.bool a0_1) := (blk_cell BK221.out 1).trans rfl
              have hcz37_2 : wr.cell? ⟨gb221, 2, none⟩ = some (.int .i64 a0_2) := (blk_cell BK221.out 2).trans rfl
              have hcz37_3 : wr.cell? ⟨gb221, 3, none⟩ = some (.int .u64 a0_3) := (blk_cell BK221.out 3).trans rfl
              have hcz37_4 : wr.cell? ⟨gb221, 4, none⟩ = some (.slice A0_4 l0_4.length c0_4) := (blk_cell BK221.out 4).trans rfl
              have hfz37_0 := blk_frozen BK221.out 0
              have hfz37_1 := blk_frozen BK221.out 1
              have hfz37_2 := blk_frozen BK221.out 2
              have hfz37_3 := blk_frozen BK221.out 3
              have hfz37_4 := blk_frozen BK221.out 4
              go_wp2
              repeat (go_quiet (fail); try go_wp2)
              go_ret
              exact ⟨by first | rfl | (simp [errW_none, errW_some] <;> rfl) | (simp [*, errW_none, errW_some] <;> rfl), by repeat (first | (with_reducible first | exact HB.out | apply below_alloc | apply pw_below_drewN | apply below_drew1 | refine below_set ?_ GE221.out | refine below_set ?_ GE222.out) | exact HB.out)⟩
end Go.Proofs.YtglgipggefpoiaaGreatDoor.PAll
end
section
set_option linter.unusedVariables false
set_option linter.unusedSimpArgs false
namespace Go.Proofs.YtglgipggefpoiaaGreatDoor.SF
open Go.RowKit Go.Sx Go.Proofs.YtglgipggefpoiaaGreatDoor.PAll Go.Proofs.YtglgipggefpoiaaGreatDoorW.PrintWords Go.Proofs.YtglgipggefpoiaaGreatDoorW.PrintLast Go.Proofs.YtglgipggefpoiaaGreatDoorW.PrintMore
theorem evs_fuel : ∀ (n K : Nat) (ws : List ByteArray), ws.length ≤ n → n ≤ K → evsF K ws = evsF n ws
  | n, K, [], _, _ => by rw [evs_nil, evs_nil]
  | 0, K, w :: ws, h, _ => by simp at h
  | n + 1, K, w :: ws, h, hK => by
    obtain ⟨K, rfl⟩ : ∃ j, K = j + 1 := ⟨K - 1, by omega⟩
    have hr := rest_lt (ws := w :: ws) (by simp)
    rw [evsF, evsF, evs_fuel n K (evRest (w :: ws)) (by omega) (by omega)]
def kStep (w : ByteArray) (j : Int) (x : Bool × Bool × Int) : Bool × Bool × Int := if ((formAt j).getD (⟨#[]⟩, false, false)).1.toList = w.toList then (((formAt j).getD (⟨#[]⟩, false, false)).2.1, ((formAt j).getD (⟨#[]⟩, false, false)).2.2, j) else x
theorem l1_step (l : List ByteArray) (i : Nat) (hi : i < l.length) (j : Nat) (hj : j < 7) (k : Nat) (x : Bool × Bool × Int) (m g : Bool) (c b : Int) (acc : List S45) :
    paternosterref24_Parse.l1 (k + 1) l (i : Int) x.1 x.2.1 (j : Int) m g c b acc x.2.2 0 0 = paternosterref24_Parse.l1 k l (i : Int) (kStep (hdB (l.drop i)) (j : Int) x).1 (kStep (hdB (l.drop i)) (j : Int) x).2.1 ((j + 1 : Nat) : Int) m g c b acc (kStep (hdB (l.drop i)) (j : Int) x).2.2 0 0 := by
  have hr : rdOf ByteArray.empty l (i : Int) = hdB (l.drop i) := by
    unfold rdOf
    rw [Int.toNat_natCast, List.getD_eq_getElem?_getD, List.getElem?_eq_getElem hi, List.drop_eq_getElem_cons hi]
    rfl
  have hw : wrap64 ((j : Int) + 1) = ((j + 1 : Nat) : Int) := by unfold wrap64; omega
  rw [paternosterref24_Parse.l1, if_pos (by omega), kind_ev, Option.bind_some, if_pos (by omega), if_pos (by omega), hr, hw]
  unfold kStep
  split <;> rfl
def kFold (w : ByteArray) : Bool × Bool × Int := kStep w 6 (kStep w 5 (kStep w 4 (kStep w 3 (kStep w 2 (kStep w 1 (kStep w 0 (false, false, -1)))))))
theorem kFold_kind (w : ByteArray) : kFold w = match kindOf w with | some (k, c, n) => (c, n, k) | none => (false, false, -1) := by
  unfold kFold kStep kindOf formAt
  simp only [if_true, show ¬ (1 : Int) = 0 from by decide, show ¬ (2 : Int) = 0 from by decide, show ¬ (2 : Int) = 1 from by decide, show ¬ (3 : Int) = 0 from by decide, show ¬ (3 : Int) = 1 from by decide, show ¬ (3 : Int) = 2 from by decide, show ¬ (4 : Int) = 0 from by decide, show ¬ (4 : Int) = 1 from by decide, show ¬ (4 : Int) = 2 from by decide, show ¬ (4 : Int) = 3 from by decide, show ¬ (5 : Int) = 0 from by decide, show ¬ (5 : Int) = 1 from by decide, show ¬ (5 : Int) = 2 from by decide, show ¬ (5 : Int) = 3 from by decide, show ¬ (5 : Int) = 4 from by decide, show ¬ (6 : Int) = 0 from by decide, show ¬ (6 : Int) = 1 from by decide, show ¬ (6 : Int) = 2 from by decide, show ¬ (6 : Int) = 3 from by decide, show ¬ (6 : Int) = 4 from by decide, show ¬ (6 : Int) = 5 from by decide, if_false, Option.getD_some, tol]
  generalize w.data.toList = l
  by_cases h0 : l = [104, 97, 108, 108]
  · subst h0; simp
  by_cases h1 : l = [99, 97, 108, 108]
  · subst h1; simp
  by_cases h2 : l = [108, 111, 97, 100]
  · subst h2; simp
  by_cases h3 : l = [102, 97, 117, 108, 116]
  · subst h3; simp
  by_cases h4 : l = [114, 101, 115, 101, 116]
  · subst h4; simp
  by_cases h5 : l = [112, 105, 99, 107]
  · subst h5; simp
  by_cases h6 : l = [114, 101, 115, 116, 97, 114, 116]
  · subst h6; simp
  simp only [h0, h1, h2, h3, h4, h5, h6, if_false]
  simp only [eq_comm (b := l), h0, h1, h2, h3, h4, h5, h6, if_false]
theorem l1_kinds (l : List ByteArray) (i : Nat) (hi : i < l.length) (k : Nat) (m g : Bool) (c b : Int) (acc : List S45) :
    paternosterref24_Parse.l1 (k + 7) l (i : Int) false false 0 m g c b acc (-1) 0 0 = paternosterref24_Parse.l1 k l (i : Int) (kFold (hdB (l.drop i))).1 (kFold (hdB (l.drop i))).2.1 7 m g c b acc (kFold (hdB (l.drop i))).2.2 0 0 := by
  have h0 := l1_step l i hi 0 (by decide) (k + 6) (false, false, -1) m g c b acc
  have h1 := fun x => l1_step l i hi 1 (by decide) (k + 5) x m g c b acc
  have h2 := fun x => l1_step l i hi 2 (by decide) (k + 4) x m g c b acc
  have h3 := fun x => l1_step l i hi 3 (by decide) (k + 3) x m g c b acc
  have h4 := fun x => l1_step l i hi 4 (by decide) (k + 2) x m g c b acc
  have h5 := fun x => l1_step l i hi 5 (by decide) (k + 1) x m g c b acc
  have h6 := fun x => l1_step l i hi 6 (by decide) k x m g c b acc
  exact h0.trans ((h1 _).trans ((h2 _).trans ((h3 _).trans ((h4 _).trans ((h5 _).trans (h6 _))))))
abbrev ErrP : Bool × Bool × Int × Int × (List S45) × Int := (false, false, 0, 0, [], 11)
theorem rd_hd (l : List ByteArray) (j : Nat) (h : j < l.length) : rdOf ByteArray.empty l (j : Int) = hdB (l.drop j) := by
  unfold rdOf
  rw [Int.toNat_natCast, List.getD_eq_getElem?_getD, List.getElem?_eq_getElem h, List.drop_eq_getElem_cons h]
  rfl
theorem j4_n (l : List ByteArray) (j k : Nat) (hl : l.length ≤ 100000) (m g : Bool) (c b kd car : Int) (acc : List S45) (ha : acc.length ≤ 1000000) (hk : 60 ≤ k) :
    paternosterref24_Parse.j4 (k + 1) l (j : Int) true m g c b acc kd car 0 = if (l.drop j).isEmpty then some ErrP else match numP (hdB (l.drop j)) with
      | none => some ErrP
      | some v => paternosterref24_Parse.l0 k l ((j + 1 : Nat) : Int) m g c b (acc ++ [⟨kd, car, v⟩]) := by
  rw [paternosterref24_Parse.j4, if_pos rfl]
  by_cases hj : j < l.length
  · have hw : wrap64 ((j : Int) + 1) = ((j + 1 : Nat) : Int) := by unfold wrap64; omega
    have he : (l.drop j).isEmpty = false := by rw [List.drop_eq_getElem_cons hj]; rfl
    rw [if_neg (by omega), if_pos (by omega), if_pos (by omega), rd_hd l j hj, rnum_ev _ (by omega), he, hw]
    simp only [Option.bind_some, Bool.false_eq_true, if_false]
    cases numP (hdB (l.drop j)) with
    | none => rfl
    | some v => simp only [if_true]; rw [if_pos (by omega)]
  · have he : (l.drop j).isEmpty = true := by rw [List.drop_of_length_le (by omega)]; rfl
    rw [if_pos (by omega), he, if_pos rfl]
theorem j4_0 (l : List ByteArray) (j k : Nat) (m g : Bool) (c b kd car : Int) (acc : List S45) (ha : acc.length ≤ 1000000) :
    paternosterref24_Parse.j4 (k + 1) l (j : Int) false m g c b acc kd car 0 = paternosterref24_Parse.l0 k l (j : Int) m g c b (acc ++ [⟨kd, car, 0⟩]) := by
  rw [paternosterref24_Parse.j4, if_neg (by simp), if_pos (by omega)]
theorem l1_end (l : List ByteArray) (i k : Nat) (hi : i < l.length) (hl : l.length ≤ 100000) (x : Bool × Bool × Int) (m g : Bool) (c b : Int) (acc : List S45) (hk : 60 ≤ k) :
    paternosterref24_Parse.l1 (k + 1) l (i : Int) x.1 x.2.1 7 m g c b acc x.2.2 0 0 = if x.2.2 < 0 then some ErrP else if x.1 = true then (if (l.drop (i + 1)).isEmpty then some ErrP else match numP (hdB (l.drop (i + 1))) with
      | none => some ErrP
      | some v => paternosterref24_Parse.j4 k l ((i + 2 : Nat) : Int) x.2.1 m g c b acc x.2.2 v 0) else paternosterref24_Parse.j4 k l ((i + 1 : Nat) : Int) x.2.1 m g c b acc x.2.2 0 0 := by
  have hw : wrap64 ((i : Int) + 1) = ((i + 1 : Nat) : Int) := by unfold wrap64; omega
  have hw2 : wrap64 (((i + 1 : Nat) : Int) + 1) = ((i + 2 : Nat) : Int) := by unfold wrap64; omega
  rw [paternosterref24_Parse.l1, if_neg (by decide), hw, hw2]
  split
  · rfl
  · split
    · by_cases hj : i + 1 < l.length
      · have he : (l.drop (i + 1)).isEmpty = false := by rw [List.drop_eq_getElem_cons hj]; rfl
        rw [if_neg (by omega), if_pos (by omega), if_pos (by omega), rd_hd l (i + 1) hj, rnum_ev _ (by omega), he]
        simp only [Option.bind_some, Bool.false_eq_true, if_false]
        cases numP (hdB (l.drop (i + 1))) with
        | none => rfl
        | some v => simp only [if_true]
      · have he : (l.drop (i + 1)).isEmpty = true := by rw [List.drop_of_length_le (by omega)]; rfl
        rw [if_pos (by omega), he, if_pos rfl]
    · rfl
theorem tail_drop {α : Type} (l : List α) (i : Nat) : (l.drop i).tail = l.drop (i + 1) := by simp
theorem rparse_l0 (l : List ByteArray) (hl : l.length ≤ 100000) (m g : Bool) (c b : Int) : ∀ (d i k : Nat) (acc : List S45), l.length - i = d → i ≤ l.length → acc.length + d ≤ 1000000 → 12 * d + 80 ≤ k →
    paternosterref24_Parse.l0 k l (i : Int) m g c b acc = some (match evsF d (l.drop i) with | none => ErrP | some L => (m, g, c, b, acc ++ L.map to45, 0)) := by
  intro d
  induction d using Nat.strongRecOn with
  | _ d ih =>
    intro i k acc hd hi ha hk
    obtain ⟨k, rfl⟩ : ∃ j, k = j + 11 := ⟨k - 11, by omega⟩
    rw [paternosterref24_Parse.l0]
    by_cases hil : i < l.length
    · obtain ⟨d, rfl⟩ : ∃ e, d = e + 1 := ⟨d - 1, by omega⟩
      have hdr := List.drop_eq_getElem_cons hil
      rw [if_pos (by omega), show k + 10 = (k + 3) + 7 from rfl, l1_kinds l i hil, l1_end l i (k + 2) hil hl _ m g c b acc (by omega), kFold_kind]
      have e1 : evsF (d + 1) (l.drop i) = if evBad false (l.drop i) then none else (evsF d (evRest (l.drop i))).map (evVal (l.drop i) :: ·) := by rw [hdr, evsF]
      rw [e1]
      have go : ∀ (j : Nat) (e : S45) (w : S49), i < j → j ≤ l.length → evRest (l.drop i) = l.drop j → evBad false (l.drop i) = false → evVal (l.drop i) = w → to45 w = e → ∀ k', 12 * d + 80 ≤ k' → paternosterref24_Parse.l0 k' l (j : Int) m g c b (acc ++ [e]) = some (match (if evBad false (l.drop i) then none else (evsF d (evRest (l.drop i))).map (evVal (l.drop i) :: ·)) with | none => ErrP | some L => (m, g, c, b, acc ++ L.map to45, 0)) := by
        intro j e w hij hjl hr hb hv hw k' hk'
        rw [ih (l.length - j) (by omega) j k' (acc ++ [e]) rfl hjl (by simp; omega) (by omega), hb, hr, hv]
        rw [evs_fuel (l.length - j) d (l.drop j) (by simp) (by omega)]
        simp only [Bool.false_eq_true, if_false]
        cases evsF (l.length - j) (l.drop j) with
        | none => rfl
        | some L => simp [hw]
      have t1 := tail_drop l i
      have t2 := tail_drop l (i + 1)
      have hne : (l.drop i).isEmpty = false := by rw [hdr]; rfl
      have nb : ∀ (x : Bool) (ws : List ByteArray), numBad x ws = (x || ws.isEmpty || (numP (hdB ws)).isNone) := fun _ _ => rfl
      cases hk0 : kindOf (hdB (l.drop i)) with
      | none =>
        have hb : evBad false (l.drop i) = true := by unfold evBad; rw [hk0]
        rw [hb]
        simp
      | some x =>
        obtain ⟨kd, cc, nn⟩ := x
        have hkd : ¬ kd < 0 := by
          unfold kindOf at hk0
          repeat' (split at hk0; (first | (cases hk0; decide) | skip))
          cases hk0
        simp only
        rw [if_neg hkd]
        cases cc with
        | false =>
          rw [if_neg (by simp)]
          cases nn with
          | false =>
            rw [j4_0 l (i + 1) (k + 1) m g c b kd 0 acc (by omega)]
            exact go (i + 1) _ ⟨kd, 0, 0⟩ (by omega) (by omega) (by unfold evRest; rw [hk0]; exact t1) (by unfold evBad; rw [hk0]; simp [hne]) (by unfold evVal; rw [hk0]; rfl) rfl _ (by omega)
          | true =>
            rw [j4_n l (i + 1) (k + 1) hl m g c b kd 0 acc (by omega) (by omega)]
            have hb : evBad false (l.drop i) = ((l.drop (i + 1)).isEmpty || (numP (hdB (l.drop (i + 1)))).isNone) := by unfold evBad; rw [hk0]; simp only [Bool.false_eq_true, if_false, if_true, nb, t1, hne, Bool.or_self, Bool.false_or]
            split
            · rename_i he
              rw [hb, he]; rfl
            · rename_i he
              have he' : (l.drop (i + 1)).isEmpty = false := by simpa using he
              split
              · rename_i hn
                rw [hb, hn, he']; rfl
              · rename_i v hn
                have hlt : i + 1 < l.length := by
                  rcases Nat.lt_or_ge (i + 1) l.length with h | h
                  · exact h
                  · rw [List.drop_of_length_le h] at he'; cases he'
                exact go (i + 2) _ ⟨kd, 0, v⟩ (by omega) (by omega) (by unfold evRest; rw [hk0]; simp only [Bool.false_eq_true, if_false, if_true]; rw [t1, t2]) (by rw [hb, hn, he']; rfl) (by unfold evVal; rw [hk0]; simp only [Bool.false_eq_true, if_false, if_true]; rw [t1, hn]; rfl) rfl _ (by omega)
        | true =>
          rw [if_pos rfl]
          split
          · rename_i he
            have hb : evBad false (l.drop i) = true := by
              unfold evBad; rw [hk0]; cases nn <;> simp only [Bool.false_eq_true, if_false, if_true, nb, t1, hne, he, Bool.or_true, Bool.true_or, Bool.or_self, Bool.false_or]
            rw [hb]; rfl
          · rename_i he
            have he' : (l.drop (i + 1)).isEmpty = false := by simpa using he
            have hlt : i + 1 < l.length := by
              rcases Nat.lt_or_ge (i + 1) l.length with h | h
              · exact h
              · rw [List.drop_of_length_le h] at he'; cases he'
            split
            · rename_i hn
              have hb : evBad false (l.drop i) = true := by
                unfold evBad; rw [hk0]; cases nn <;> simp only [Bool.false_eq_true, if_false, if_true, nb, t1, hne, he', hn, Option.isNone_none, Bool.or_true, Bool.true_or, Bool.or_self, Bool.false_or]
              rw [hb]; rfl
            · rename_i v hn
              cases nn with
              | false =>
                rw [j4_0 l (i + 2) (k + 1) m g c b kd v acc (by omega)]
                exact go (i + 2) _ ⟨kd, v, 0⟩ (by omega) (by omega) (by unfold evRest; rw [hk0]; simp only [Bool.false_eq_true, if_false, if_true]; rw [t1, t2]) (by unfold evBad; rw [hk0]; simp only [Bool.false_eq_true, if_false, if_true, nb, t1, hne, he', hn, Option.isNone_some, Bool.or_self, Bool.false_or]) (by unfold evVal; rw [hk0]; simp only [Bool.false_eq_true, if_false, if_true]; rw [t1, hn]; rfl) rfl _ (by omega)
              | true =>
                rw [j4_n l (i + 2) (k + 1) hl m g c b kd v acc (by omega) (by omega)]
                have hb : evBad false (l.drop i) = ((l.drop (i + 2)).isEmpty || (numP (hdB (l.drop (i + 2)))).isNone) := by unfold evBad; rw [hk0]; simp only [Bool.false_eq_true, if_false, if_true, nb, t1, t2, hne, he', hn, Option.isNone_some, Bool.or_self, Bool.false_or]
                split
                · rename_i he2
                  rw [hb, he2]; rfl
                · rename_i he2
                  have he2' : (l.drop (i + 2)).isEmpty = false := by simpa using he2
                  have hlt2 : i + 2 < l.length := by
                    rcases Nat.lt_or_ge (i + 2) l.length with h | h
                    · exact h
                    · rw [List.drop_of_length_le h] at he2'; cases he2'
                  split
                  · rename_i hn2
                    rw [hb, hn2, he2']; rfl
                  · rename_i v2 hn2
                    exact go (i + 3) _ ⟨kd, v, v2⟩ (by omega) (by omega) (by unfold evRest; rw [hk0]; simp only [Bool.false_eq_true, if_false, if_true]; rw [t1, t2, tail_drop l (i + 2)]) (by rw [hb, hn2, he2']; rfl) (by unfold evVal; rw [hk0]; simp only [Bool.false_eq_true, if_false, if_true]; rw [t1, t2, hn, hn2]; rfl) rfl _ (by omega)
    · have : l.drop i = [] := List.drop_of_length_le (by omega)
      rw [if_neg (by omega), this, evs_nil]
      simp
def tickR (s : ByteArray) : Bool × Bool × Int × Int × (List S45) × Int := ((tickP s).1.1, (tickP s).1.2.1, (tickP s).1.2.2.1, ((tickP s).1.2.2.2.1 : Int), (tickP s).1.2.2.2.2.map to45, (tickP s).2)
theorem rj0 (w0 w1 w2 w3 : ByteArray) (r : List ByteArray) (hl : (w0 :: w1 :: w2 :: w3 :: r).length ≤ 100000) (x : Bool) {k : Nat} (hk : 12 * r.length + 200 ≤ k) :
    paternosterref24_Parse.j0 k (w0 :: w1 :: w2 :: w3 :: r) x = some (if x then ErrP else match numP w2, uintP w3 with
      | some c, some b => (match evsF (w0 :: w1 :: w2 :: w3 :: r).length r with | none => ErrP | some L => (w0.toList == mainsB.toList, w1.toList == genB.toList, c, (b : Int), L.map to45, 0))
      | _, _ => ErrP) := by
  obtain ⟨k, rfl⟩ : ∃ j, k = j + 2 := ⟨k - 2, by omega⟩
  rw [paternosterref24_Parse.j0]
  cases x with
  | true => rfl
  | false =>
    have e2 : rdOf ByteArray.empty (w0 :: w1 :: w2 :: w3 :: r) 2 = w2 := rfl
    have e3 : rdOf ByteArray.empty (w0 :: w1 :: w2 :: w3 :: r) 3 = w3 := rfl
    have e0 : rdOf ByteArray.empty (w0 :: w1 :: w2 :: w3 :: r) 0 = w0 := rfl
    have e1 : rdOf ByteArray.empty (w0 :: w1 :: w2 :: w3 :: r) 1 = w1 := rfl
    have hd : paternosterref24_digits.f (k + 1) w3 18446744073709551615 = some (match uintP w3 with | some v => ((v : Int), true) | none => (0, false)) := by
      rw [uintP_udec]; exact rdig_ev w3 18446744073709551615 (by decide) (by decide) (by omega)
    rw [if_neg (by simp), if_pos (by simp only [List.length_cons]; omega), e2, e3, rnum_ev w2 (by omega), hd]
    simp only [Option.bind_some, Bool.false_eq_true, if_false]
    rw [if_pos (by simp only [List.length_cons]; omega)]
    cases hn : numP w2 with
    | none => simp only [Bool.false_eq_true, if_false]; rw [paternosterref24_Parse.j1]; rfl
    | some c =>
      simp only [if_true]
      cases hu : uintP w3 with
      | none => simp only [Bool.not_false]; rw [paternosterref24_Parse.j1]; rfl
      | some b =>
        simp only [Bool.not_true]
        rw [paternosterref24_Parse.j1, if_neg (by simp), if_pos (by simp only [List.length_cons]; omega), if_pos (by simp only [List.length_cons]; omega), e0, e1]
        have := rparse_l0 (w0 :: w1 :: w2 :: w3 :: r) hl (w0.toList == mainsB.toList) (w1.toList == genB.toList) c (b : Int) r.length 4 k [] (by simp) (by simp) (by simp only [List.length_cons] at hl; simp; omega) (by omega)
        have em : mainsB.toList = [109, 97, 105, 110, 115] := by rw [tol]; rfl
        have eg : genB.toList = [103, 101, 110] := by rw [tol]; rfl
        rw [em, eg] at this ⊢
        rw [show ((4 : Nat) : Int) = 4 from rfl] at this
        rw [this]
        have ed : (w0 :: w1 :: w2 :: w3 :: r).drop 4 = r := rfl
        rw [ed, evs_fuel r.length (w0 :: w1 :: w2 :: w3 :: r).length r (Nat.le_refl _) (by simp only [List.length_cons]; omega)]
        cases evsF r.length r with
        | none => rfl
        | some L => simp
theorem rparse_ev (s : ByteArray) (hs : s.size ≤ 100000) {k : Nat} (hk : 200000 ≤ k) : paternosterref24_Parse.f k s = some (tickR s) := by
  unfold paternosterref24_Parse.f tickR tickP
  by_cases h1 : 4096 < s.size
  · rw [if_pos (by omega), if_pos h1]; rfl
  · rw [if_neg (by omega), if_neg h1, rsplit_ev s hs (by omega)]
    have hlen := count_len s
    simp only [Option.bind_some]
    generalize splW s = ws at hlen ⊢
    rcases ws with _ | ⟨w0, _ | ⟨w1, _ | ⟨w2, _ | ⟨w3, r⟩⟩⟩⟩
    · obtain ⟨k, rfl⟩ : ∃ j, k = j + 1 := ⟨k - 1, by omega⟩
      rw [if_pos (by simp), paternosterref24_Parse.j0]; rfl
    · obtain ⟨k, rfl⟩ : ∃ j, k = j + 1 := ⟨k - 1, by omega⟩
      rw [if_pos (by simp), paternosterref24_Parse.j0]; rfl
    · obtain ⟨k, rfl⟩ : ∃ j, k = j + 1 := ⟨k - 1, by omega⟩
      rw [if_pos (by simp), paternosterref24_Parse.j0]; rfl
    · obtain ⟨k, rfl⟩ : ∃ j, k = j + 1 := ⟨k - 1, by omega⟩
      rw [if_pos (by simp), paternosterref24_Parse.j0]; rfl
    · have hl : (w0 :: w1 :: w2 :: w3 :: r).length ≤ 100000 := by omega
      have hr : 12 * r.length + 200 ≤ k := by simp only [List.length_cons] at hlen; omega
      have e0 : rdOf ByteArray.empty (w0 :: w1 :: w2 :: w3 :: r) 0 = w0 := rfl
      have e1 : rdOf ByteArray.empty (w0 :: w1 :: w2 :: w3 :: r) 1 = w1 := rfl
      have hj := fun x => rj0 w0 w1 w2 w3 r hl x hr
      have p1 : (1 : Int) < ((w0 :: w1 :: w2 :: w3 :: r).length : Int) := by simp only [List.length_cons]; omega
      rw [if_neg (by simp only [List.length_cons]; omega), if_pos (by simp only [List.length_cons]; omega), e0, e1]
      simp only [if_pos p1, hj]
      have hT : tickW (w0 :: w1 :: w2 :: w3 :: r) = if (!(w0.toList == mainsB.toList) && !(w0.toList == noneB.toList) || (!(w1.toList == genB.toList) && !(w1.toList == noneB.toList)) || (numP w2).isNone || (uintP w3).isNone) = true then none else (evsF (w0 :: w1 :: w2 :: w3 :: r).length r).map fun L => (w0.toList == mainsB.toList, w1.toList == genB.toList, (numP w2).getD 0, (uintP w3).getD 0, L) := by
        unfold tickW headBad numBad isBad hdB
        rw [if_neg (by simp only [List.length_cons]; omega)]
        simp only [List.tail_cons, List.isEmpty_cons, Bool.or_false, Bool.false_or]
      rw [hT]
      have em : ([109, 97, 105, 110, 115] : List UInt8) = mainsB.toList := by rw [tol]; rfl
      have eg : ([103, 101, 110] : List UInt8) = genB.toList := by rw [tol]; rfl
      have en : ([110, 111, 110, 101] : List UInt8) = noneB.toList := by rw [tol]; rfl
      rw [em, eg, en]
      have bad : ∀ x, numP w2 = none ∨ uintP w3 = none → (if x = true then ErrP else match numP w2, uintP w3 with
          | some c, some b => (match evsF (w0 :: w1 :: w2 :: w3 :: r).length r with | none => ErrP | some L => (w0.toList == mainsB.toList, w1.toList == genB.toList, c, (b : Int), L.map to45, 0))
          | _, _ => ErrP) = ErrP := by
        intro x h
        cases x
        · rcases h with h | h
          · rw [h]; rfl
          · rw [h]; cases numP w2 <;> rfl
        · rfl
      by_cases hn : numP w2 = none ∨ uintP w3 = none
      · simp only [bad _ hn]
        have : ((numP w2).isNone || (uintP w3).isNone) = true := by rcases hn with h | h <;> simp [h]
        rw [Bool.or_assoc, this, Bool.or_true, if_pos rfl]
        have go : ∀ {p q p2 : Prop} [Decidable p] [Decidable q] [Decidable p2] {z : Option (Bool × Bool × Int × Int × (List (S45)) × Int)}, z = some ErrP → (if p then (if q then z else z) else (if p2 then (if q then z else z) else z)) = some ErrP := by
          intro p q p2 _ _ _ z hz
          split <;> split <;> (try split) <;> exact hz
        exact go rfl
      · obtain ⟨c, hc⟩ : ∃ c, numP w2 = some c := by
          cases h : numP w2 with
          | none => exact absurd (.inl h) hn
          | some c => exact ⟨c, rfl⟩
        obtain ⟨b, hb⟩ : ∃ b, uintP w3 = some b := by
          cases h : uintP w3 with
          | none => exact absurd (.inr h) hn
          | some c => exact ⟨c, rfl⟩
        rw [hc, hb]
        simp only [Option.isNone_some, Bool.or_false, Option.getD_some]
        have q : ∀ (a b : List UInt8), (a != b) = !(a == b) := fun _ _ => rfl
        have d1 : (mainsB.toList == noneB.toList) = false := by rw [tol, tol]; rfl
        by_cases h0 : w0.toList = mainsB.toList
        · rw [if_pos h0]
          by_cases h1 : w1.toList = genB.toList
          · rw [if_pos h1, h0, h1]
            simp only [beq_self_eq_true, Bool.not_true, Bool.false_and, Bool.or_self, Bool.false_eq_true, if_false]
            cases evsF (w0 :: w1 :: w2 :: w3 :: r).length r <;> rfl
          · rw [if_neg h1, h0]
            have b1 : (w1.toList == genB.toList) = false := by simpa using h1
            simp only [b1, q, beq_self_eq_true, Bool.not_true, Bool.false_and, Bool.false_or, Bool.not_false, Bool.true_and]
            cases (w1.toList == noneB.toList)
            · rfl
            · cases evsF (w0 :: w1 :: w2 :: w3 :: r).length r <;> rfl
        · rw [if_neg h0]
          have b0 : (w0.toList == mainsB.toList) = false := by simpa using h0
          by_cases h2 : w0.toList = noneB.toList
          · rw [if_pos h2]
            by_cases h1 : w1.toList = genB.toList
            · rw [if_pos h1, h1]
              simp only [b0, h2, beq_self_eq_true, Bool.not_true, Bool.and_false, Bool.false_and, Bool.or_self, Bool.false_eq_true, if_false]
              cases evsF (w0 :: w1 :: w2 :: w3 :: r).length r <;> rfl
            · rw [if_neg h1]
              have b1 : (w1.toList == genB.toList) = false := by simpa using h1
              simp only [b0, b1, h2, q, beq_self_eq_true, Bool.not_true, Bool.and_false, Bool.false_or, Bool.not_false, Bool.true_and]
              cases (w1.toList == noneB.toList)
              · rfl
              · cases evsF (w0 :: w1 :: w2 :: w3 :: r).length r <;> rfl
          · rw [if_neg h2]
            have b2 : (w0.toList == noneB.toList) = false := by simpa using h2
            simp only [b0, b2, Bool.not_false, Bool.true_and, Bool.true_or]
            rfl
theorem same_l0 (m g m' g' : Bool) (c b c' b' : Int) (L : List S45) (hL : L.length ≤ 100000) : ∀ (d i k : Nat), L.length - i = d → i ≤ L.length → d + 1 ≤ k → paternosterref24_Same.l0 k (i : Int) m g c b L m' g' c' b' L = some true
  | 0, i, k + 1, hd, hi, hk => by rw [paternosterref24_Same.l0, if_neg (by omega)]
  | d + 1, i, k + 1, hd, hi, hk => by
    have hw : wrap64 ((i : Int) + 1) = ((i + 1 : Nat) : Int) := by unfold wrap64; omega
    rw [paternosterref24_Same.l0, if_pos (by omega), if_pos (by omega), if_pos (by omega), if_neg (by simp), hw, same_l0 m g m' g' c b c' b' L hL d (i + 1) k (by omega) (by omega) (by omega)]
theorem same_ev (m g : Bool) (c b : Int) (L : List S45) (hL : L.length ≤ 100000) {k : Nat} (hk : 200000 ≤ k) : paternosterref24_Same.f k m g c b L m g c b L = some true := by
  obtain ⟨k, rfl⟩ : ∃ j, k = j + 1 := ⟨k - 1, by omega⟩
  unfold paternosterref24_Same.f
  rw [if_neg (by simp), if_neg (by simp), if_pos rfl, if_pos rfl, paternosterref24_Same.j0, if_neg (by simp)]
  exact same_l0 m g m g c b c b L hL L.length 0 k (by omega) (by omega) (by omega)
end Go.Proofs.YtglgipggefpoiaaGreatDoor.SF
end
section
set_option linter.unusedVariables false
set_option linter.unusedSimpArgs false
namespace Go.Proofs.YtglgipggefpoiaaGreatDoor.SF
open Go.RowKit Go.Sx Go.Proofs.YtglgipggefpoiaaGreatDoor.PAll Go.Proofs.YtglgipggefpoiaaGreatDoorW.PrintWords Go.Proofs.YtglgipggefpoiaaGreatDoorW.PrintLast Go.Proofs.YtglgipggefpoiaaGreatDoorW.PrintMore
theorem join_jn : ∀ ws : List (List UInt8), Lib.join ws [32] = jn ws
  | [] => rfl
  | [w] => by simp [Lib.join, jn, List.intercalate]
  | w :: v :: ws => by
    rw [jn, ← join_jn (v :: ws)]
    simp [Lib.join, List.intercalate]
def noSp (w : ByteArray) : Prop := ∀ c ∈ w.data.toList, c ≠ 32
theorem formAt_sp {k : Int} {x : ByteArray × Bool × Bool} (h : formAt k = some x) : noSp x.1 ∧ x.1.size ≤ 7 ∧ kindOf x.1 = some (k, x.2.1, x.2.2) := by
  unfold formAt at h
  repeat' (split at h; (first | (rename_i e; subst e; cases h; refine ⟨by unfold noSp; decide, by decide, ?_⟩; unfold kindOf; simp only [tol]; decide) | skip))
  cases h
theorem putS_data (m g : Bool) (c : Int) (b : Nat) (l : List S49) : (putS m g c b l).data.toList = jn ((putW m g c b l).map (·.data.toList)) := by
  unfold putS
  rw [join_jn]
theorem jn_len (ws : List ByteArray) (M : Nat) (h : ∀ w ∈ ws, w.size ≤ M) : (jn (ws.map (·.data.toList))).length ≤ ws.length * (M + 1) := by
  induction ws with
  | nil => simp [jn]
  | cons w ws ih =>
    have hw : w.data.toList.length ≤ M := h w (by simp)
    have := ih (fun x hx => h x (List.mem_cons_of_mem _ hx))
    cases ws with
    | nil => simp only [List.map_cons, List.map_nil, jn, List.length_singleton]; omega
    | cons v ws =>
      simp only [List.map_cons, jn, List.length_append, List.length_cons] at this ⊢
      rw [Nat.add_mul] at this ⊢
      rw [Nat.add_mul]
      omega
theorem evW_few (e : S49) (he : i64r e.f1 ∧ i64r e.f2) : (evW e).length ≤ 3 ∧ ∀ w ∈ evW e, w.size ≤ 21 := by
  unfold evW
  split
  · exact ⟨by simp, fun w hw => by cases hw⟩
  · rename_i wd c n hf
    refine ⟨by cases c <;> cases n <;> simp, fun w hw => ?_⟩
    rcases List.mem_cons.1 hw with rfl | hw
    · have := (formAt_sp hf).2.1; simp only at this; omega
    · rcases List.mem_append.1 hw with hw | hw
      · split at hw
        · rw [List.mem_singleton.1 hw]; exact ibs_size he.1
        · cases hw
      · split at hw
        · rw [List.mem_singleton.1 hw]; exact ibs_size he.2
        · cases hw
theorem put_len (m g : Bool) {c : Int} {b : Nat} {l : List S49} (hc : i64r c) (hb : b < 18446744073709551616) (he : ∀ e ∈ l, i64r e.f1 ∧ i64r e.f2) : (putS m g c b l).size ≤ 66 * l.length + 88 := by
  have h1 : (l.flatMap evW).length ≤ 3 * l.length := by
    clear hc hb
    induction l with
    | nil => simp
    | cons e l ih =>
      have := (evW_few e (he e (by simp))).1
      have := ih (fun x hx => he x (List.mem_cons_of_mem _ hx))
      rw [List.flatMap_cons, List.length_append, List.length_cons]
      omega
  have h2 : ∀ w ∈ putW m g c b l, w.size ≤ 21 := by
    intro w hw
    rcases List.mem_append.1 hw with hw | hw
    · simp only [headW, List.mem_cons, List.not_mem_nil, or_false] at hw
      rcases hw with rfl | rfl | rfl | rfl
      · cases m <;> decide
      · cases g <;> decide
      · exact ibs_size hc
      · have := ubs_size hb; omega
    · obtain ⟨e, h1, h2⟩ := List.mem_flatMap.1 hw
      exact (evW_few e (he e h1)).2 w h2
  have h3 := jn_len (putW m g c b l) 21 h2
  have h4 : (putW m g c b l).length = 4 + (l.flatMap evW).length := by unfold putW headW; simp; omega
  have h5 : (putS m g c b l).size = (jn ((putW m g c b l).map (·.data.toList))).length := by rw [← putS_data]; simp
  omega
end Go.Proofs.YtglgipggefpoiaaGreatDoor.SF
end
section
namespace Go.Proofs.YtglgipggefpoiaaGreatDoor.SF
open Go.RowKit Go.Sx Go.Proofs.YtglgipggefpoiaaGreatDoor.PAll Go.Proofs.YtglgipggefpoiaaGreatDoorW.PrintWords Go.Proofs.YtglgipggefpoiaaGreatDoorW.PrintLast Go.Proofs.YtglgipggefpoiaaGreatDoorW.PrintMore
set_option linter.unusedVariables false
set_option linter.unusedSimpArgs false
set_option maxRecDepth 100000
def c45 (e : S45) : List Value := [.int .i64 e.f0, .int .i64 e.f1, .int .i64 e.f2]
def RowQ (w : World) (q : Gh) (l : List S45) : Prop := l.length ≤ q.2 ∧ Kd.C k45 w q.1 l.length l
theorem RowQ.below {w w' : World} {q : Gh} {l : List S45} (h : RowQ w q l) (hb : Below w.heap.size w w') : RowQ w' q l := ⟨h.1, Kd.C_below h.2 hb⟩
theorem c45_at : ∀ {L : List S45} {j i : Nat} {e : S45} {u : Value}, L[j]? = some e → (c45 e)[i]? = some u → (L.flatMap c45)[j * 3 + i]? = some u
  | [], j, i, e, u, h, _ => by simp at h
  | x :: L, 0, i, e, u, h, hu => by
    cases h
    have hi : i < 3 := (List.getElem?_eq_some_iff.1 hu).1
    rw [List.flatMap_cons, Nat.zero_mul, Nat.zero_add, List.getElem?_append_left (by simpa [c45] using hi)]
    exact hu
  | x :: L, j + 1, i, e, u, h, hu => by
    have := c45_at (L := L) (j := j) (by simpa using h) hu
    rw [List.flatMap_cons, List.getElem?_append_right (by simp [c45]; omega)]
    rw [show (j + 1) * 3 + i - (c45 x).length = j * 3 + i by simp [c45]; omega]
    exact this
theorem rowQ_of {w : World} {base : Nat} {A : Option Addr} {n c : Nat} {L : List S45} (h : w.ownsRow base 45 3 (.slice A n c) n (L.flatMap c45)) (hn : n = L.length) (hb : L.length ≤ 1000000) : RowQ w (A, c) L := by
  subst hn
  rcases h.2 with ⟨e, e0⟩ | ⟨g, cap, cur, e, hg, hh, hle, hm, hs, ht⟩
  · have : L = [] := List.eq_nil_of_length_eq_zero e0
    subst this
    exact ⟨Nat.zero_le _, rfl, by decide, fun h => absurd h (by decide)⟩
  · cases e
    refine ⟨hle, rfl, by omega, fun _ => ⟨_, rfl, fun j x hx => ⟨c45 x, rfl, k45_mk w x, fun i u hu => ?_⟩⟩⟩
    have h1 := c45_at hx hu
    rw [← ht, List.getElem?_take] at h1
    split at h1
    · show w.cell? ((⟨g, 0, none⟩ : Addr).add (j * 3 + i)) = some u
      rw [Addr.add_lit, Nat.zero_add, cell_of_row w g _ cur 45 (0, 0) hh]; simpa using h1
    · cases h1
theorem wrap_nat {n : Nat} (h : n + 1 < 9223372036854775808) : IntKind.i64.wrap ((n : Int) + 1) = ((n + 1 : Nat) : Int) := by
  simp only [IntKind.wrap, IntKind.signed, IntKind.bits]; simp; omega
theorem take45 {l : List S49} {j : Nat} {p : S49} (h : l[j]? = some p) : ((l.take (j + 1)).map to45).flatMap c45 = ((l.take j).map to45).flatMap c45 ++ [.int .i64 p.f0, .int .i64 p.f1, .int .i64 p.f2] := by
  rw [List.take_add_one, h]
  simp [c45, to45]
theorem of_calls (m g : Bool) (c : Int) (b : Nat) (q : Gh) (l : List S49) (w : World) (hr : RowE w q l) (hl : l.length ≤ 100000) : Calls Tryz.prog 10 #[.agg #[.bool m, .bool g, .int .i64 c, .int .u64 b, .slice q.1 l.length q.2]] w fun e w' => ∃ i : Gh, e = .returned (.agg #[.bool m, .bool g, .int .i64 c, .int .u64 b, .slice i.1 l.length i.2]) ∧ HeapOK w [.own 0 45 3 (.slice i.1 l.length i.2) l.length ((l.map to45).flatMap c45), old w] w' := by
  refine enter (w0 := w) (hp := [old w]) (env := [(0, .agg #[.bool m, .bool g, .int .i64 c, .int .u64 b, .slice q.1 l.length q.2])]) Tryz.func10 rfl 46 rfl (by simp) rfl (HeapOK.start _) ?_
  refine wc_seq ?_
  refine wc_region ?_
  refine wl_box rfl rfl rfl (by decide) rfl rfl (fun b1 => ?_)
  refine wl_alloc rfl rfl rfl (by decide) Zr31 (fun b2 => ?_)
  refine wl_nil ?_
  refine fq_then ?_
  refine wc_seq ?_
  refine wc_region ?_
  refine wl_q (q_fa (o1 := 0) rfl rfl Fo25_0 rfl) rfl rfl (by decide) ?_
  refine wl_q (q_load rfl rfl Mn4 (reads1 (i := 1) rfl rfl)) rfl rfl (by decide) ?_
  refine wl_q (q_fa (o1 := 1) rfl rfl Fo25_1 rfl) rfl rfl (by decide) ?_
  refine wl_q (q_load rfl rfl Mn4 (reads1 (i := 1) rfl rfl)) rfl rfl (by decide) ?_
  refine wl_q (q_fa (o1 := 2) rfl rfl Fo25_2 rfl) rfl rfl (by decide) ?_
  refine wl_q (q_load rfl rfl Mn3 (reads1 (i := 1) rfl rfl)) rfl rfl (by decide) ?_
  refine wl_q (q_fa (o1 := 3) rfl rfl Fo25_3 rfl) rfl rfl (by decide) ?_
  refine wl_q (q_load rfl rfl Mn22 (reads1 (i := 1) rfl rfl)) rfl rfl (by decide) ?_
  refine wl_q (q_build rfl rfl (built_of Zr31 Pl31 (by simp only [fillL, List.map_cons, List.map_nil, Value.cells, List.getElem?_cons_zero, List.getElem?_cons_succ, List.length_cons, List.length_nil, Nat.reduceAdd, Nat.reduceLeDiff, Nat.le_refl, and_self, and_true, true_and, if_true, Nat.zero_add, spl, List.take_succ_cons, List.take_zero, List.take_nil, List.drop_succ_cons, List.drop_zero, List.drop_nil, List.nil_append, List.cons_append, List.append_nil] <;> rfl))) rfl rfl (by decide) ?_
  refine wl_alloc rfl rfl rfl (by decide) Zr31 (fun b3 => ?_)
  refine wl_store (i := 0) rfl rfl rfl rfl rfl rfl Sz31 rfl rfl (by simp) (by simp [Value.oneCell', Sx.spl]) (by first | (simp only [List.take_succ_cons, List.take_zero, List.take_nil, List.drop_succ_cons, List.drop_zero, List.drop_nil, List.nil_append, List.cons_append, List.append_nil, List.length_cons, List.length_nil, Nat.reduceAdd, Nat.zero_add]; rfl) | rfl) (by first | (simp only [List.set_cons_zero, List.set_cons_succ]; rfl) | rfl) ?_
  refine wl_nil ?_
  refine fq_then ?_
  refine wc_seq ?_
  refine wc_seq ?_
  refine wc_region ?_
  refine wl_q (q_assign rfl rfl) rfl rfl (by decide) ?_
  refine wl_nil ?_
  refine fq_then ?_
  refine wc_block ?_
  refine wc_own (E := 45) (sz := 3) ?_
  refine wc_loop (ι := (Nat × Gh)) (fun i => [(1, .pointer (some ⟨b1, 0, none⟩)), (2, .pointer (some ⟨b2, 0, none⟩)), (3, .pointer (some ⟨b3, 0, none⟩)), (4, .int .i64 (i.1 : Nat))]) (fun i => [.own 0 45 3 (.slice i.2.1 i.1 i.2.2) i.1 (((l.take i.1).map to45).flatMap c45), .blk b3 [.bool m, .bool g, .int .i64 c, .int .u64 b, .slice i.2.1 i.1 i.2.2] 31, .blk b2 [.bool false, .bool false, .int .i64 0, .int .u64 0, .slice none 0 0] 31, .blk b1 [.bool m, .bool g, .int .i64 c, .int .u64 b, .slice q.1 l.length q.2] 25, old w]) (fun i => i.1 ≤ l.length) (fun i => l.length - i.1) (0, (none, 0)) (Nat.zero_le _) ⟨List.forall_mem_cons.2 ⟨rfl, List.forall_mem_cons.2 ⟨rfl, List.forall_mem_cons.2 ⟨rfl, List.forall_mem_cons.2 ⟨rfl, fun _ h => (by cases h)⟩⟩⟩⟩, List.Sublist.refl _⟩ ?_
  rintro ⟨j, qw⟩ hj
  simp only at hj
  dsimp only
  refine wc_seq ?_
  refine wc_seq ?_
  refine wc_region ?_
  refine wl_q (q_move rfl rfl) rfl rfl (by decide) ?_
  refine wl_q (q_fa (o1 := 4) rfl rfl Fo25_4 rfl) rfl rfl (by decide) ?_
  refine wl_q (q_load rfl rfl Mn23 (reads1 (i := 3) rfl rfl)) rfl rfl (by decide) ?_
  refine wl_q (q_len rfl rfl Tryz.underlying23) rfl rfl (by decide) ?_
  refine wl_q (q_bin rfl rfl rfl rfl) rfl rfl (by decide) ?_
  refine wl_nil ?_
  refine fq_then ?_
  refine wc_cond rfl (fun h18 => ?_) (fun h18 => ?_)
  · skip
    have q18 := h18
    try simp only [decide_eq_true_eq, decide_eq_false_iff_not, beq_iff_eq, beq_eq_false_iff_ne, bne_iff_ne, ne_eq, bne_eq_false_iff_eq, Int.not_lt, Int.not_le] at q18
    obtain ⟨p, hp⟩ : ∃ p, l[j]? = some p := ⟨_, List.getElem?_eq_getElem (by omega)⟩
    obtain ⟨ad, hA, hrd⟩ := hr.at hp
    have wj : IntKind.i64.wrap ((j : Int) + 1) = ((j + 1 : Nat) : Int) := wrap_nat (by omega)
    refine wc_skip ?_
    refine fq_then ?_
    refine wc_seq ?_
    refine wc_block ?_
    refine wc_any Fol (any_drawG (ι := Gh) 25 2 [(21, fun X => [Sx.Item.blk (X 21).2 [Value.int .i64 p.f0, .int .i64 p.f1, .int .i64 p.f2] 45]), (22, fun X => [Sx.Item.own 0 45 3 (.slice (X 22).1 (j + 1) (X 22).2) (j + 1) (((l.take j).map to45).flatMap c45 ++ [Value.int .i64 p.f0, .int .i64 p.f1, .int .i64 p.f2])]), (24, fun X => [Sx.Item.blk b3 [.bool m, .bool g, .int .i64 c, .int .u64 b, .slice (X 22).1 (j + 1) (X 22).2] 31])] [⟨[], [], []⟩, ⟨[], [25, 26], []⟩, ⟨[], [], []⟩, ⟨[], [25, 26], []⟩, ⟨[], [], []⟩, ⟨[], [], []⟩, ⟨[], [], []⟩, ⟨[], [25, 26], []⟩, ⟨[], [], []⟩, ⟨[], [25, 26], []⟩, ⟨[], [], []⟩, ⟨[], [], []⟩, ⟨[], [], []⟩, ⟨[], [25, 26], []⟩, ⟨[], [], []⟩, ⟨[], [25, 26], []⟩, ⟨[], [], []⟩, ⟨[], [], []⟩, ⟨[], [], []⟩, ⟨[], [25, 26], []⟩, ⟨[], [], []⟩, ⟨[], [], []⟩, ⟨[21, 25], [], [21]⟩, ⟨[], [], [21, 22]⟩, ⟨[26], [], [21, 22]⟩] (by kernel_rfl) (ChainG.yield [] [] (fun X => q_fa (o1 := 4) rfl rfl Fo31_4 rfl) rfl rfl (fun _ => rfl) (fun _ _ => rfl) (fun X Y h0 h => ⟨by first | rfl | simp only [h0], by first | rfl | simp only [h0]⟩) (ChainG.yield [25, 26] [] (fun X => q_load rfl rfl Mn29 (reads1 (i := 1) rfl rfl)) rfl rfl (fun _ => rfl) (fun _ _ => rfl) (fun X Y h0 h => ⟨by first | rfl | simp only [h0], by first | rfl | simp only [h0]⟩) (ChainG.yield [] [] (fun X => q_fa (o1 := 4) rfl rfl Fo25_4 rfl) rfl rfl (fun _ => rfl) (fun _ _ => rfl) (fun X Y h0 h => ⟨by first | rfl | simp only [h0], by first | rfl | simp only [h0]⟩) (ChainG.yield [25, 26] [] (fun X => q_load rfl rfl Mn23 (reads1 (i := 3) rfl rfl)) rfl rfl (fun _ => rfl) (fun _ _ => rfl) (fun X Y h0 h => ⟨by first | rfl | simp only [h0], by first | rfl | simp only [h0]⟩) (ChainG.yield [] [] (fun X => q_move rfl rfl) rfl rfl (fun _ => rfl) (fun _ _ => rfl) (fun X Y h0 h => ⟨by first | rfl | simp only [h0], by first | rfl | simp only [h0]⟩) (ChainG.yield [] [] (fun X => q_indexO rfl rfl hA rfl Tryz.underlying23 Sz49 (by omega) (by omega)) rfl rfl (fun _ => rfl) (fun _ _ => rfl) (fun X Y h0 h => ⟨by first | rfl | simp only [h0], by first | rfl | simp only [h0]⟩) (ChainG.yield [] [] (fun X => q_fax rfl rfl Fo49_0 rfl) rfl rfl (fun _ => rfl) (fun _ _ => rfl) (fun X Y h0 h => ⟨by first | rfl | simp only [h0], by first | rfl | simp only [h0]⟩) (ChainG.yield [25, 26] [] (fun X => q_load rfl rfl Mn3 (reads_old (by simp) (cell_zero (CellsAt.one (ad := ad) (cs := [.int .i64 p.f0, .int .i64 p.f1, .int .i64 p.f2]) (j := 0) hrd rfl)))) rfl rfl (fun _ => rfl) (fun _ _ => rfl) (fun X Y h0 h => ⟨by first | rfl | simp only [h0], by first | rfl | simp only [h0]⟩) (ChainG.yield [] [] (fun X => q_fa (o1 := 4) rfl rfl Fo25_4 rfl) rfl rfl (fun _ => rfl) (fun _ _ => rfl) (fun X Y h0 h => ⟨by first | rfl | simp only [h0], by first | rfl | simp only [h0]⟩) (ChainG.yield [25, 26] [] (fun X => q_load rfl rfl Mn23 (reads1 (i := 3) rfl rfl)) rfl rfl (fun _ => rfl) (fun _ _ => rfl) (fun X Y h0 h => ⟨by first | rfl | simp only [h0], by first | rfl | simp only [h0]⟩) (ChainG.yield [] [] (fun X => q_move rfl rfl) rfl rfl (fun _ => rfl) (fun _ _ => rfl) (fun X Y h0 h => ⟨by first | rfl | simp only [h0], by first | rfl | simp only [h0]⟩) (ChainG.yield [] [] (fun X => q_indexO rfl rfl hA rfl Tryz.underlying23 Sz49 (by omega) (by omega)) rfl rfl (fun _ => rfl) (fun _ _ => rfl) (fun X Y h0 h => ⟨by first | rfl | simp only [h0], by first | rfl | simp only [h0]⟩) (ChainG.yield [] [] (fun X => q_fax rfl rfl Fo49_1 rfl) rfl rfl (fun _ => rfl) (fun _ _ => rfl) (fun X Y h0 h => ⟨by first | rfl | simp only [h0], by first | rfl | simp only [h0]⟩) (ChainG.yield [25, 26] [] (fun X => q_load rfl rfl Mn3 (reads_old (by simp) (cell_zero (CellsAt.one (ad := ad) (cs := [.int .i64 p.f0, .int .i64 p.f1, .int .i64 p.f2]) (j := 1) hrd rfl)))) rfl rfl (fun _ => rfl) (fun _ _ => rfl) (fun X Y h0 h => ⟨by first | rfl | simp only [h0], by first | rfl | simp only [h0]⟩) (ChainG.yield [] [] (fun X => q_fa (o1 := 4) rfl rfl Fo25_4 rfl) rfl rfl (fun _ => rfl) (fun _ _ => rfl) (fun X Y h0 h => ⟨by first | rfl | simp only [h0], by first | rfl | simp only [h0]⟩) (ChainG.yield [25, 26] [] (fun X => q_load rfl rfl Mn23 (reads1 (i := 3) rfl rfl)) rfl rfl (fun _ => rfl) (fun _ _ => rfl) (fun X Y h0 h => ⟨by first | rfl | simp only [h0], by first | rfl | simp only [h0]⟩) (ChainG.yield [] [] (fun X => q_move rfl rfl) rfl rfl (fun _ => rfl) (fun _ _ => rfl) (fun X Y h0 h => ⟨by first | rfl | simp only [h0], by first | rfl | simp only [h0]⟩) (ChainG.yield [] [] (fun X => q_indexO rfl rfl hA rfl Tryz.underlying23 Sz49 (by omega) (by omega)) rfl rfl (fun _ => rfl) (fun _ _ => rfl) (fun X Y h0 h => ⟨by first | rfl | simp only [h0], by first | rfl | simp only [h0]⟩) (ChainG.yield [] [] (fun X => q_fax rfl rfl Fo49_2 rfl) rfl rfl (fun _ => rfl) (fun _ _ => rfl) (fun X Y h0 h => ⟨by first | rfl | simp only [h0], by first | rfl | simp only [h0]⟩) (ChainG.yield [25, 26] [] (fun X => q_load rfl rfl Mn3 (reads_old (by simp) (cell_zero (CellsAt.one (ad := ad) (cs := [.int .i64 p.f0, .int .i64 p.f1, .int .i64 p.f2]) (j := 2) hrd rfl)))) rfl rfl (fun _ => rfl) (fun _ _ => rfl) (fun X Y h0 h => ⟨by first | rfl | simp only [h0], by first | rfl | simp only [h0]⟩) (ChainG.yield [] [] (fun X => q_build rfl rfl (built_of Zr45 Pl45 (by simp only [fillL, List.map_cons, List.map_nil, Value.cells, List.getElem?_cons_zero, List.getElem?_cons_succ, List.length_cons, List.length_nil, Nat.reduceAdd, Nat.reduceLeDiff, Nat.le_refl, and_self, and_true, true_and, if_true, Nat.zero_add, spl, List.take_succ_cons, List.take_zero, List.take_nil, List.drop_succ_cons, List.drop_zero, List.drop_nil, List.nil_append, List.cons_append, List.append_nil] <;> rfl))) rfl rfl (fun _ => rfl) (fun _ _ => rfl) (fun X Y h0 h => ⟨by first | rfl | simp only [h0], by first | rfl | simp only [h0]⟩) (ChainG.mk (fun b => .slice (some ⟨b, 0, none⟩) 1 1) [] (fun X => om_buildSlice rfl rfl Tryz.underlying29 (built_one Sz45 (by decide) Zs45 (by decide) rfl rfl)) rfl rfl (fun _ => rfl) (fun _ _ => rfl) (fun X Y h0 h => ⟨by first | rfl | simp only [h0], by first | rfl | (show ([Sx.Item.blk (X 21).2 [Value.int .i64 p.f0, .int .i64 p.f1, .int .i64 p.f2] 45] : List Sx.Item) = [Sx.Item.blk (Y 21).2 [Value.int .i64 p.f0, .int .i64 p.f1, .int .i64 p.f2] 45]; simp only [h0])⟩) (ChainG.ope (fun (X : Nat → Gh) => .slice (X 22).1 (j + 1) (X 22).2) [21, 25] [21] (fun X => (oe_appendR (i := 1) (m := 1) (news := [Value.int .i64 p.f0, .int .i64 p.f1, .int .i64 p.f2]) rfl Tryz.underlying29 Ap45 (by decide) rfl rfl rfl (fun R w1 hw1 _ => ⟨_, rfl, fun k u hu => by (have hg := readsAll (w0 := w) (hp := _) (i := 0) (cs := [Value.int .i64 p.f0, .int .i64 p.f1, .int .i64 p.f2]) (T := 45) rfl w1 hw1 k u hu; exact hg)⟩) rfl (by simp [Value.oneCell']) (by unfold maxLen; omega) (by omega)).less (fun _ => List.sublist_cons_self _ _)) rfl rfl (fun X Y h0 h => ⟨by first | rfl | (show (.slice (X 22).1 (j + 1) (X 22).2 : Value) = .slice (Y 22).1 (j + 1) (Y 22).2; simp only [h0, h 21 (by decide)]), by first | rfl | (show ([Sx.Item.own 0 45 3 (.slice (X 22).1 (j + 1) (X 22).2) (j + 1) (((l.take j).map to45).flatMap c45 ++ [Value.int .i64 p.f0, .int .i64 p.f1, .int .i64 p.f2])] : List Sx.Item) = [Sx.Item.own 0 45 3 (.slice (Y 22).1 (j + 1) (Y 22).2) (j + 1) (((l.take j).map to45).flatMap c45 ++ [Value.int .i64 p.f0, .int .i64 p.f1, .int .i64 p.f2])]; simp only [h0, h 21 (by decide)])⟩) (ChainG.yield [] [21, 22] (fun X => q_fa (o1 := 4) rfl rfl Fo31_4 rfl) rfl rfl (fun _ => rfl) (fun _ _ => rfl) (fun X Y h0 h => ⟨by first | rfl | simp only [h0, h 21 (by decide), h 22 (by decide)], by first | rfl | simp only [h0, h 21 (by decide), h 22 (by decide)]⟩) (ChainG.store [26] [21, 22] (fun X => oe_storeAt (i := 0) rfl rfl rfl rfl Sz29 rfl rfl (by simp) (by simp [Value.oneCell']) rfl rfl) rfl rfl (fun _ => rfl) (fun _ _ => rfl) (fun X Y h0 h => ⟨by first | rfl | simp only [h0, h 21 (by decide), h 22 (by decide)], by first | rfl | (show ([Sx.Item.blk b3 [.bool m, .bool g, .int .i64 c, .int .u64 b, .slice (X 22).1 (j + 1) (X 22).2] 31] : List Sx.Item) = [Sx.Item.blk b3 [.bool m, .bool g, .int .i64 c, .int .u64 b, .slice (Y 22).1 (j + 1) (Y 22).2] 31]; simp only [h0, h 21 (by decide), h 22 (by decide)])⟩) (ChainG.nil _ _)))))))))))))))))))))))))) rfl rfl (fun X => [_, _, _, _, _]) (fun _ => rfl) (fun X => ?_))
    generalize X 22 = qa
    try dsimp only [List.take_succ_cons, List.take_zero, List.take_nil, List.drop_succ_cons, List.drop_zero, List.drop_nil, List.nil_append, List.cons_append, List.append_nil, List.length_cons, List.length_nil, Nat.reduceAdd, Nat.zero_add]
    refine wl_nil ?_
    refine fq_block ?_
    refine fq_then ?_
    refine wc_region ?_
    refine wl_q (q_move rfl rfl) rfl rfl (by decide) ?_
    refine wl_q (q_bin rfl rfl rfl rfl) rfl rfl (by decide) ?_
    refine wl_q (q_assign rfl rfl) rfl rfl (by decide) ?_
    refine wl_nil ?_
    rw [← take45 hp]
    refine fq_next (j + 1, qa) (show j + 1 ≤ l.length by omega) (show l.length - (j + 1) < l.length - j by omega) ⟨List.forall_mem_cons.2 ⟨rfl, List.forall_mem_cons.2 ⟨rfl, List.forall_mem_cons.2 ⟨rfl, List.forall_mem_cons.2 ⟨(show some (Value.int .i64 (IntKind.i64.wrap ((j : Int) + 1))) = some (Value.int .i64 ((j + 1 : Nat) : Int)) from by rw [wj]), fun _ h => (by cases h)⟩⟩⟩⟩, List.Sublist.refl _⟩
  · skip
    have q18 := h18
    try simp only [decide_eq_true_eq, decide_eq_false_iff_not, beq_iff_eq, beq_eq_false_iff_ne, bne_iff_ne, ne_eq, bne_eq_false_iff_eq, Int.not_lt, Int.not_le] at q18
    obtain rfl : j = l.length := by omega
    rw [List.take_of_length_le (Nat.le_refl _)]
    refine wc_exit ?_
    refine fq_then_exit ?_
    refine fq_then_exit ?_
    refine fq_block_hit ?_
    refine fq_then ?_
    refine wc_seq ?_
    refine wc_region ?_
    refine wl_q (q_loadA rfl rfl Mn31 Sz31 rfl (readsAll (i := 1) rfl)) rfl rfl (by decide) ?_
    refine wl_store (i := 2) rfl rfl rfl rfl rfl rfl Sz31 rfl rfl (by simp) (by simp [Value.oneCell', Sx.spl]) (by first | (simp only [List.take_succ_cons, List.take_zero, List.take_nil, List.drop_succ_cons, List.drop_zero, List.drop_nil, List.nil_append, List.cons_append, List.append_nil, List.length_cons, List.length_nil, Nat.reduceAdd, Nat.zero_add]; rfl) | rfl) (by first | (simp only [List.set_cons_zero, List.set_cons_succ]; rfl) | rfl) ?_
    refine wl_nil ?_
    refine fq_then ?_
    refine wc_ret ?_
    refine fq_cell (i := 2) (.inl rfl) rfl rfl rfl Mn31 Sz31 rfl (fun w1 H => ?_)
    exact ⟨qw, rfl, H.pick [0, 4] (by decide) rfl⟩
theorem own45 {w : World} {base : Nat} {i : Gh} {l : List S49} (h : w.ownsRow base 45 3 (.slice i.1 l.length i.2) l.length ((l.map to45).flatMap c45)) (hl : l.length ≤ 100000) : RowQ w i (l.map to45) := by
  have e : (l.map to45).length = l.length := List.length_map ..
  rw [← e] at h
  exact rowQ_of h rfl (by omega)
theorem rparse_calls (s : ByteArray) (hs : s.size ≤ 100000) (w : World) : Calls Tryz.prog 12 #[.string s] w fun e w' => ∃ i : Gh, RowQ w' i ((tickP s).1.2.2.2.2.map to45) ∧ e = .returned (.tuple #[.agg #[.bool (tickP s).1.1, .bool (tickP s).1.2.1, .int .i64 (tickP s).1.2.2.1, .int .u64 (tickP s).1.2.2.2.1, .slice i.1 (tickP s).1.2.2.2.2.length i.2], .int .i64 (tickP s).2]) ∧ Below w.heap.size w w' := by
  refine (paternosterref24_Parse.calls 200000 s _ _ _ _ _ _ w (rparse_ev s hs (Nat.le_refl _))).mono ?_
  rintro e w' ⟨v, rfl, h, hb⟩
  obtain ⟨A, c, rfl, hl, hC⟩ := Kd.R_reads h
  have e : ((tickP s).1.2.2.2.2.map to45).length = (tickP s).1.2.2.2.2.length := List.length_map ..
  rw [e]
  exact ⟨(A, c), ⟨hl, hC⟩, rfl, hb⟩
theorem same_calls (m g : Bool) (c : Int) (b : Nat) (qa qb : Gh) (l : List S49) (w : World) (ha : RowQ w qa (l.map to45)) (hb : RowQ w qb (l.map to45)) (hl : l.length ≤ 100000) : Calls Tryz.prog 13 #[.agg #[.bool m, .bool g, .int .i64 c, .int .u64 b, .slice qa.1 l.length qa.2], .agg #[.bool m, .bool g, .int .i64 c, .int .u64 b, .slice qb.1 l.length qb.2]] w fun e w' => e = .returned (.bool true) ∧ Below w.heap.size w w' := by
  have e : (l.map to45).length = l.length := List.length_map ..
  have := paternosterref24_Same.calls 200000 m g c (b : Int) qa.1 qa.2 (l.map to45) m g c (b : Int) qb.1 qb.2 (l.map to45) true w ha.2 ha.1 hb.2 hb.1 (same_ev m g c b _ (by omega) (Nat.le_refl _))
  rw [e] at this
  exact this
theorem show_nil (w : World) : Calls Tryz.prog 15 #[.pointer none] w fun e w' => e = .returned (.string ⟨#[]⟩) ∧ Below w.heap.size w w' := by
  refine enter (w0 := w) (hp := [old w]) (env := [(0, .pointer none)]) Tryz.func15 rfl 56 rfl (by simp) rfl (HeapOK.start _) ?_
  refine wc_seq ?_
  refine wc_region ?_
  refine wl_q (q_assign rfl rfl) rfl rfl (by decide) ?_
  refine wl_nil ?_
  refine fq_then ?_
  refine wc_seq ?_
  refine wc_seq ?_
  refine wc_region ?_
  refine wl_q (q_move rfl rfl) rfl rfl (by decide) ?_
  refine wl_q (q_eqlP rfl rfl rfl Tryz.underlying79) rfl rfl (by decide) ?_
  refine wl_nil ?_
  refine fq_then ?_
  refine wc_true rfl ?_
  refine wc_seq ?_
  refine wc_region ?_
  refine wl_q (q_assign rfl rfl) rfl rfl (by decide) ?_
  refine wl_nil ?_
  refine fq_then ?_
  refine wc_ret ?_
  refine fq_then_ret ?_
  refine fq_ret1 rfl rfl (fun w1 H => ?_)
  exact ⟨rfl, H.toBelow (by simp)⟩
end Go.Proofs.YtglgipggefpoiaaGreatDoor.SF
end
section
namespace Go.Sx
open Go.RowKit Go.Proofs.YtglgipggefpoiaaGreatDoorW.PrintWords
set_option linter.unusedVariables false
set_option linter.unusedSimpArgs false
def bobj (e : TypeId) (bs : List Int) (pad : List Value) : Obj := .cells (bs.map (Value.int .u8) ++ pad).toArray e (bs.length + pad.length, bs.length + pad.length + 1)
def byteInts (s : ByteArray) : List Int := s.data.toList.map fun b => (b.toNat : Int)
theorem byteInts_length (s : ByteArray) : (byteInts s).length = s.size := by simp [byteInts]
section
variable {P : Program} {ops : Array Oper} {Q : Exit → Act → World → Prop} {w0 : World} {N : Fr} {l : List Oper} {env : Env} {hp : List Item} {o : Oper}
theorem wl_strBytes {s t e : TypeId} {x : Operand} {d : Nat} {str : ByteArray} (ho : o.op = .convert s t x) (hg : o.guard = none) (hd : o.dst = some d) (hN : d < N) (hx : evE x env = some (.string str)) (hs : P.underlying s = some .string) (ht : P.underlying t = some (.slice e)) (he : P.underlying e = some (.int .u8))
    (k : ∀ b c pad, WL P ops Q w0 N l ((d, .slice (some ⟨b, 0, none⟩) str.size c) :: env) (.obj b (bobj e (byteInts str) pad) :: hp)) : WL P ops Q w0 N (o :: l) env hp := by
  intro a w h
  refine wpList_plain hg fun K hK => ?_
  have hr := run_bytes_of_string (P := P) w s t e str hs ht he
  have e1 : bytesRow str (grownCap w str.size 0 e) = ((byteInts str).map (Value.int .u8) ++ List.replicate (grownCap w str.size 0 e - str.size) (Value.int .u8 0)).toArray := by
    unfold bytesRow byteInts
    apply Array.ext'
    simp
  have e2 : (bytesRow str (grownCap w str.size 0 e)).size = (byteInts str).length + (List.replicate (grownCap w str.size 0 e - str.size) (Value.int .u8 0)).length := by
    rw [e1]; simp
  unfold Oper.wp execOp
  simp only [ho, ev_of h.env hx, Sem.run_bind, hr, Result.andThen_ok, Sem.run_pure]
  refine hK _ _ ?_
  rw [hd]
  have h3 : HeapOK w0 hp w.drew := h.heap.drawn _
  have h4 := h3.alloc (bobj e (byteInts str) (List.replicate (grownCap w str.size 0 e - str.size) (Value.int .u8 0)))
  refine k w.heap.size _ (List.replicate (grownCap w str.size 0 e - str.size) (Value.int .u8 0)) _ _ (h.put d _ hN ?_)
  unfold bobj at h4 ⊢
  rw [e2, e1]
  exact h4
theorem run_storeO (w : World) (b off : Nat) (e : TypeId) (cs : List Value) (m : Nat × Nat) (v : Value) (hb : w.heap[b]? = some (.cells cs.toArray e m)) (ho : off < cs.length) (hm : off < m.1) (hv : v.oneCell' = true) :
    (store (⟨b, off, none⟩ : Addr) v).run P w = .ok () (w.setRow b (cs.set off v).toArray) := by
  have hcell : w.cell? ⟨b, off, none⟩ = some cs[off] := by simp [World.cell?, hb, ho]
  have hfro : w.frozen? ⟨b, off, none⟩ = false := by
    have : ¬ m.1 ≤ off := by omega
    simp [World.frozen?, hb, this]
  rw [run_store P w _ v _ hv, hcell]
  simp [hfro, setCell_eq_setRow w b off cs.toArray e m v hb]
theorem wl_storeO {T e : TypeId} {x y : Operand} {b off i : Nat} {bs : List Int} {pad : List Value} {u : Int} (ho : o.op = .store T x y) (hg : o.guard = none) (hd : o.dst = none) (hx : evE x env = some (.pointer (some ⟨b, off, none⟩))) (hy : evE y env = some (.int .u8 u))
    (hi : hp[i]? = some (.obj b (bobj e bs pad))) (hs : P.sizeIs T = some 1) (hoff : off < bs.length) {hp' : List Item} (hh : hp.set i (.obj b (bobj e (bs.set off u) pad)) = hp')
    (k : WL P ops Q w0 N l env hp') : WL P ops Q w0 N (o :: l) env hp := by
  subst hh
  intro a w h
  refine wpList_plain hg fun K hK => ?_
  have hb : w.heap[b]? = some (bobj e bs pad) := h.heap.get hi
  have hr := run_storeO (P := P) w b off e (bs.map (Value.int .u8) ++ pad) _ (.int .u8 u) hb (by simp; omega) (by simp; omega) rfl
  unfold Oper.wp execOp
  have hadd : (⟨b, off, none⟩ : Addr).add 0 = ⟨b, off, none⟩ := rfl
  simp only [ho, ev_of h.env hx, ev_of h.env hy, Instr.storeAt, Instr.sureAddr, storeVar, Sem.run_bind, Sem.run_pure, Result.andThen_ok, Value.cells, List.size_toArray, List.length_singleton, run_sizeOf hs, ne_eq, not_true, if_false, storeCells, hadd, hr]
  refine hK _ _ (k _ _ ?_)
  rw [hd]
  refine ⟨h.size, h.defers, h.env, ?_⟩
  have hlt := (Array.getElem?_eq_some_iff.1 hb).1
  have e2 : (w.setRow b ((bs.map (Value.int .u8) ++ pad).set off (.int .u8 u)).toArray).heap[b]? = some (bobj e (bs.set off u) pad) := by
    rw [setRow_heap w b _ _ e _ hb]
    unfold bobj
    rw [List.length_set, List.set_append_left _ _ (by simpa using hoff), List.map_set]
  refine h.heap.updAt hi rfl rfl rfl (by simp) (fun k' hk hn => setRow_other w b k' _ (fun e => hn e)) e2 (fun k' hk => ⟨.inl hk, ?_⟩)
  have : k' = b := hk
  subst this
  rw [size_setRow]; exact hlt
theorem C_of_cells {w : World} {b n : Nat} {cs : Array Value} {e : TypeId} {m : Nat × Nat} {bs : List Int} {pad : List Value} (hb : w.heap[b]? = some (.cells cs e m)) (hc : cs = (bs.map (Value.int .u8) ++ pad).toArray) (hn : n = bs.length) (hl : bs.length ≤ 9223372036854775807) : (Kd.int .u8).C w (some ⟨b, 0, none⟩) n bs := by
  subst hn hc
  refine ⟨rfl, hl, fun _ => ⟨_, rfl, fun j x hx => ⟨[.int .u8 x], rfl, rfl, fun i u hu => ?_⟩⟩⟩
  cases i with
  | zero =>
    cases hu
    rw [addr_add, cell_of_row w b _ _ e m hb]
    have hj := (List.getElem?_eq_some_iff.1 hx).1
    show (bs.map (Value.int .u8) ++ pad).toArray[0 + (j * 1 + 0)]? = _
    rw [Nat.zero_add, Nat.mul_one, Nat.add_zero, List.getElem?_toArray, List.getElem?_append_left (by simpa using hj), List.getElem?_map, hx]
    rfl
  | succ i => simp at hu
theorem q_objStr {s t e e2 : TypeId} {x : Operand} {b n c i : Nat} {bs : List Int} {pad : List Value} (ho : o.op = .convert s t x) (hx : evE x env = some (.slice (some ⟨b, 0, none⟩) n c)) (hs : P.underlying s = some (.slice e)) (he : P.underlying e = some (.int .u8)) (ht : P.underlying t = some .string) (hi : hp[i]? = some (.obj b (bobj e2 bs pad))) (hn : n = bs.length) (hl : bs.length ≤ 9223372036854775807) : OpQ P o env w0 hp (.string (strOfNums bs)) :=
  q_bytesStr ho hx hs he ht (fun w hw => C_of_cells (hw.get hi : w.heap[b]? = some (bobj e2 bs pad)) rfl hn hl)
end
end Go.Sx
end
