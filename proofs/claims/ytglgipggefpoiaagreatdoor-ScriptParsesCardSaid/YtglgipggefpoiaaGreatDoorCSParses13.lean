/- Texts of mine, put together (no statement stands here). -/
import Derived.Test.YtglgipggefpoiaaGreatDoorCSParses10
import Derived.Test.YtglgipggefpoiaaGreatDoorCSParses11
section
namespace Go.Proofs.YtglgipggefpoiaaGreatDoor.PAll
open Go.RowKit Go.Proofs.YtglgipggefpoiaaGreatDoorW.PrintWords Go.Proofs.YtglgipggefpoiaaGreatDoorW.PrintLast Go.Proofs.YtglgipggefpoiaaGreatDoorW.PrintMore
attribute [local go_sem] max2_int min2_int max_two min_two max_three min_three max_four min_four
set_option linter.unusedVariables false
set_option linter.unusedSimpArgs false
mutual
def paternosterref24_Parse.j0 : Nat → List ByteArray → Bool → Option (Bool × Bool × Int × Int × (List (S45)) × Int)
  | 0, _, _ => none
  | k + 1, x4, x54 => if x54 = true then (some (false, false, 0, 0, ([] : List (S45)), 11)) else (if 2 < (x4.length : Int) then ((paternosterref24_number.f k (rdOf ByteArray.empty x4 2)).bind fun bt196 => (if 3 < (x4.length : Int) then ((paternosterref24_digits.f k (rdOf ByteArray.empty x4 3) 18446744073709551615).bind fun bt199 => (if bt196.2 = true then (paternosterref24_Parse.j1 k x4 bt196.1 bt199.1 (!bt199.2)) else (paternosterref24_Parse.j1 k x4 bt196.1 bt199.1 true))) else (none))) else (none))
def paternosterref24_Parse.j1 : Nat → List ByteArray → Int → Int → Bool → Option (Bool × Bool × Int × Int × (List (S45)) × Int)
  | 0, _, _, _, _ => none
  | k + 1, x4, x5, x7, x75 => if x75 = true then (some (false, false, 0, 0, ([] : List (S45)), 11)) else (if 0 < (x4.length : Int) then (if 1 < (x4.length : Int) then (paternosterref24_Parse.l0 k x4 4 ((rdOf ByteArray.empty x4 0).toList == ([109, 97, 105, 110, 115] : List UInt8)) ((rdOf ByteArray.empty x4 1).toList == ([103, 101, 110] : List UInt8)) x5 x7 ([] : List (S45))) else (none)) else (none))
def paternosterref24_Parse.l0 : Nat → List ByteArray → Int → Bool → Bool → Int → Int → List (S45) → Option (Bool × Bool × Int × Int × (List (S45)) × Int)
  | 0, _, _, _, _, _, _, _ => none
  | k + 1, x4, x10, x204000, x204001, x204002, x204003, x204004 => if x10 < (x4.length : Int) then (paternosterref24_Parse.l1 k x4 x10 false false 0 x204000 x204001 x204002 x204003 x204004 (-1) 0 0) else (some (x204000, x204001, x204002, x204003, x204004, 0))
def paternosterref24_Parse.l1 : Nat → List ByteArray → Int → Bool → Bool → Int → Bool → Bool → Int → Int → List (S45) → Int → Int → Int → Option (Bool × Bool × Int × Int × (List (S45)) × Int)
  | 0, _, _, _, _, _, _, _, _, _, _, _, _, _ => none
  | k + 1, x4, x10, x12, x13, x14, x204000, x204001, x204002, x204003, x204004, x205000, x205001, x205002 => if x14 < 7 then ((paternosterref24_Kind.f x14).bind fun bt205 => (if 0 ≤ x10 then (if x10 < (x4.length : Int) then (if bt205.1.toList = (rdOf ByteArray.empty x4 x10).toList then (paternosterref24_Parse.l1 k x4 x10 bt205.2.1 bt205.2.2 (wrap64 (x14 + 1)) x204000 x204001 x204002 x204003 x204004 x14 x205001 x205002) else (paternosterref24_Parse.l1 k x4 x10 x12 x13 (wrap64 (x14 + 1)) x204000 x204001 x204002 x204003 x204004 x205000 x205001 x205002)) else (none)) else (none))) else (if x205000 < 0 then (some (false, false, 0, 0, ([] : List (S45)), 11)) else (if x12 = true then (if (wrap64 (x10 + 1)) ≥ (x4.length : Int) then (some (false, false, 0, 0, ([] : List (S45)), 11)) else (if 0 ≤ (wrap64 (x10 + 1)) then (if (wrap64 (x10 + 1)) < (x4.length : Int) then ((paternosterref24_number.f k (rdOf ByteArray.empty x4 (wrap64 (x10 + 1)))).bind fun bt210 => (if bt210.2 = true then (paternosterref24_Parse.j4 k x4 (wrap64 ((wrap64 (x10 + 1)) + 1)) x13 x204000 x204001 x204002 x204003 x204004 x205000 bt210.1 x205002) else (some (false, false, 0, 0, ([] : List (S45)), 11)))) else (none)) else (none))) else (paternosterref24_Parse.j4 k x4 (wrap64 (x10 + 1)) x13 x204000 x204001 x204002 x204003 x204004 x205000 x205001 x205002)))
def paternosterref24_Parse.j4 : Nat → List ByteArray → Int → Bool → Bool → Bool → Int → Int → List (S45) → Int → Int → Int → Option (Bool × Bool × Int × Int × (List (S45)) × Int)
  | 0, _, _, _, _, _, _, _, _, _, _, _ => none
  | k + 1, x4, x10, x13, x204000, x204001, x204002, x204003, x204004, x205000, x205001, x205002 => if x13 = true then (if x10 ≥ (x4.length : Int) then (some (false, false, 0, 0, ([] : List (S45)), 11)) else (if 0 ≤ x10 then (if x10 < (x4.length : Int) then ((paternosterref24_number.f k (rdOf ByteArray.empty x4 x10)).bind fun bt213 => (if bt213.2 = true then (if x204004.length < 5864062014805 then (paternosterref24_Parse.l0 k x4 (wrap64 (x10 + 1)) x204000 x204001 x204002 x204003 (x204004 ++ [(⟨x205000, x205001, bt213.1⟩ : S45)])) else (none)) else (some (false, false, 0, 0, ([] : List (S45)), 11)))) else (none)) else (none))) else (if x204004.length < 5864062014805 then (paternosterref24_Parse.l0 k x4 x10 x204000 x204001 x204002 x204003 (x204004 ++ [(⟨x205000, x205001, x205002⟩ : S45)])) else (none))
end
def paternosterref24_Parse.f (k : Nat) (a0 : ByteArray) : Option (Bool × Bool × Int × Int × (List (S45)) × Int) := if (a0.size : Int) > 4096 then (some (false, false, 0, 0, ([] : List (S45)), 13)) else ((paternosterref24_Split.f k a0).bind fun t186 => (if (t186.length : Int) < 4 then (paternosterref24_Parse.j0 k t186 true) else (if 0 < (t186.length : Int) then (if (rdOf ByteArray.empty t186 0).toList = ([109, 97, 105, 110, 115] : List UInt8) then (if 1 < (t186.length : Int) then (if (rdOf ByteArray.empty t186 1).toList = ([103, 101, 110] : List UInt8) then (paternosterref24_Parse.j0 k t186 false) else (paternosterref24_Parse.j0 k t186 ((rdOf ByteArray.empty t186 1).toList != ([110, 111, 110, 101] : List UInt8)))) else (none)) else (if (rdOf ByteArray.empty t186 0).toList = ([110, 111, 110, 101] : List UInt8) then (if 1 < (t186.length : Int) then (if (rdOf ByteArray.empty t186 1).toList = ([103, 101, 110] : List UInt8) then (paternosterref24_Parse.j0 k t186 false) else (paternosterref24_Parse.j0 k t186 ((rdOf ByteArray.empty t186 1).toList != ([110, 111, 110, 101] : List UInt8)))) else (none)) else (paternosterref24_Parse.j0 k t186 true))) else (none))))
def paternosterref24_Parse.T10 : Bool × List (List Nat × List Nat) := (true, [([], []), ([0], [0]), ([1], [1]), ([2], [2]), ([], []), ([4], [4]), ([5], [5]), ([6], [6]), ([], []), ([], []), ([3, 7, 8, 9], [3, 7, 8, 9]), ([], []), ([11, 10, 0, 1, 2, 3, 4, 5, 6, 7, 8, 9, 10, 11], [10, 11])])
def paternosterref24_Parse.B10 : List Nat := [0, 1, 3, 7, 0, 16, 48, 112, 0, 0, 1023, 0, 4095]
theorem paternosterref24_Parse.tab10 : rtab .any (opsOf Tryz.f12 10) = paternosterref24_Parse.T10 := by kernel_rfl
theorem paternosterref24_Parse.bits10 : waitsOk paternosterref24_Parse.T10.2 paternosterref24_Parse.B10 = true := by kernel_rfl
set_option maxHeartbeats 8000000 in
set_option maxRecDepth 100000 in
theorem paternosterref24_Parse.calls (k : Nat) (a0 : ByteArray) (r1 : Bool) (r2 : Bool) (r3 : Int) (r4 : Int) (r5 : List (S45)) (r6 : Int) (w : World) (h : paternosterref24_Parse.f k a0 = some (r1, r2, r3, r4, r5, r6)) :
    Calls Tryz.prog 12 #[.string a0] w fun e w' => ∃ v4_ : Value, e = .returned (.tuple #[.agg #[.bool r1, .bool r2, .int .i64 r3, .int .u64 r4, v4_], .int .i64 r6]) ∧ Kd.R k45 45 w' w.heap.size (fun _ => True) v4_ r5 ∧ Below w.heap.size w w' := by
  have hu31 := Tryz.underlying31
  have hu45 := Tryz.underlying45
  have HB := Aside0.mk (Below.refl w.heap.size w)
  have H : (if (a0.size : Int) > 4096 then (some (false, false, 0, 0, ([] : List (S45)), 13)) else ((paternosterref24_Split.f k a0).bind fun t186 => (if (t186.length : Int) < 4 then (paternosterref24_Parse.j0 k t186 true) else (if 0 < (t186.length : Int) then (if (rdOf ByteArray.empty t186 0).toList = ([109, 97, 105, 110, 115] : List UInt8) then (if 1 < (t186.length : Int) then (if (rdOf ByteArray.empty t186 1).toList = ([103, 101, 110] : List UInt8) then (paternosterref24_Parse.j0 k t186 false) else (paternosterref24_Parse.j0 k t186 ((rdOf ByteArray.empty t186 1).toList != ([110, 111, 110, 101] : List UInt8)))) else (none)) else (if (rdOf ByteArray.empty t186 0).toList = ([110, 111, 110, 101] : List UInt8) then (if 1 < (t186.length : Int) then (if (rdOf ByteArray.empty t186 1).toList = ([103, 101, 110] : List UInt8) then (paternosterref24_Parse.j0 k t186 false) else (paternosterref24_Parse.j0 k t186 ((rdOf ByteArray.empty t186 1).toList != ([110, 111, 110, 101] : List UInt8)))) else (none)) else (paternosterref24_Parse.j0 k t186 true))) else (none))))) = some (r1, r2, r3, r4, r5, r6) := h
  clear h
  by_cases c2 : (a0.size : Int) > 4096
  · rw [if_pos c2] at H
    have c2b0 : decide (4096 < (a0.size : Int)) = true := decide_eq_true c2
    have c2b1 : decide (4096 < a0.size) = true := decide_eq_true (by omega)
    clear c2
    simp only [Option.some.injEq, Prod.mk.injEq] at H
    obtain ⟨rfl, rfl, rfl, rfl, rfl, rfl⟩ := H
    go_enter Tryz.func12, Tryz.ntmps12
    go_wp2_with (first | ((with_reducible refine gate_dst (N := 2) rfl ?_); refine box_event ?hg (N := 2) ?hd (cs := #[.bool false, .bool false, .int .i64 0, .int .u64 0, .slice none 0 0]) (t := 31) ?hr ?_; (case hd => rfl); (case hg => rfl); (case hr => first | (go_simp; done) | (go_simp; rfl)); intro gb185 hg w3 hbox hb; have n0_ := Aside0.mk (below_step (by repeat (first | (with_reducible first | exact HB.out | apply below_alloc | apply pw_below_drewN | apply below_drew1) | exact HB.out)) hb); have n1_ := Aside0.mk (hbox); have n2_ := Aside0.mk ((by rw [hg]; exact (below_size (by repeat (first | (with_reducible first | exact HB.out | apply below_alloc | apply pw_below_drewN | apply below_drew1) | exact HB.out))) : w.heap.size ≤ gb185)); have n3_ := Aside0.mk ((by rw [hg]; exact (below_size (by repeat (first | (with_reducible first | exact HB.out | apply below_alloc | apply pw_below_drewN | apply below_drew1) | exact HB.out))) : w.heap.size ≤ gb185)); clear HB; have HB := n0_; have BK185 := n1_; have GW185 := n2_; have GE185 := n3_; clear n0_ n1_ n2_ n3_; clear hb hbox hg; have hcz4_0 : w3.cell? ⟨gb185, 0, none⟩ = some (.bool false) := (blk_cell BK185.out 0).trans rfl; have hcz4_1 : w3.cell? ⟨gb185, 1, none⟩ = some (.bool false) := (blk_cell BK185.out 1).trans rfl; have hcz4_2 : w3.cell? ⟨gb185, 2, none⟩ = some (.int .i64 0) := (blk_cell BK185.out 2).trans rfl; have hcz4_3 : w3.cell? ⟨gb185, 3, none⟩ = some (.int .u64 0) := (blk_cell BK185.out 3).trans rfl; have hcz4_4 : w3.cell? ⟨gb185, 4, none⟩ = some (.slice none 0 0) := (blk_cell BK185.out 4).trans rfl; have hfz4_0 := blk_frozen BK185.out 0; have hfz4_1 := blk_frozen BK185.out 1; have hfz4_2 := blk_frozen BK185.out 2; have hfz4_3 := blk_frozen BK185.out 3; have hfz4_4 := blk_frozen BK185.out 4))
    refine bodyPost_ret (results_ct rfl _ _ gb185 31 #[.bool false, .bool false, .int .i64 0, .int .u64 0, .slice none 0 0] (0, 0) _ rfl (by (with_reducible repeat (first | refine blk_drewN ?_ _ | refine blk_drew ?_ | refine blk_alloc ?_ _)); refine blk_put (cs := #[.bool false, .bool false, .int .i64 0, .int .u64 0, .slice none 0 0]) ?_ 4 _ rfl; (with_reducible repeat (first | refine blk_drewN ?_ _ | refine blk_drew ?_ | refine blk_alloc ?_ _)); refine blk_put (cs := #[.bool false, .bool false, .int .i64 0, .int .u64 0, .slice none 0 0]) ?_ 3 _ rfl; (with_reducible repeat (first | refine blk_drewN ?_ _ | refine blk_drew ?_ | refine blk_alloc ?_ _)); refine blk_put (cs := #[.bool false, .bool false, .int .i64 0, .int .u64 0, .slice none 0 0]) ?_ 2 _ rfl; (with_reducible repeat (first | refine blk_drewN ?_ _ | refine blk_drew ?_ | refine blk_alloc ?_ _)); refine blk_put (cs := #[.bool false, .bool false, .int .i64 0, .int .u64 0, .slice none 0 0]) ?_ 1 _ rfl; (with_reducible repeat (first | refine blk_drewN ?_ _ | refine blk_drew ?_ | refine blk_alloc ?_ _)); refine blk_put (cs := #[.bool false, .bool false, .int .i64 0, .int .u64 0, .slice none 0 0]) ?_ 0 _ rfl; (with_reducible repeat (first | refine blk_drewN ?_ _ | refine blk_drew ?_ | refine blk_alloc ?_ _)); exact BK185.out) Tryz.underlying31 rfl (by kernel_rfl)) rfl ?_
    exact ⟨_, by first | rfl | (simp [errW_none, errW_some] <;> rfl) | (simp [*, errW_none, errW_some] <;> rfl), by first | exact Kd.R_nil _ _ _ _ _ | exact Kd.N_nil _ _ _ _ _ | exact Kd.V_nil _ _ _ _ _ | exact Kd.Q_nil _ _ _ _ _ | exact Kd.S_nil _ _ _ _ _, by repeat (first | (with_reducible first | exact HB.out | apply below_alloc | apply pw_below_drewN | apply below_drew1 | refine below_set ?_ GE185.out) | exact HB.out)⟩
  · rw [if_neg c2] at H
    have c2b0 : decide (4096 < (a0.size : Int)) = false := decide_eq_false c2
    have c2b1 : decide (4096 < a0.size) = false := decide_eq_false (by omega)
    clear c2
    replace H := Option.bind_eq_some_iff.mp H
    obtain ⟨t186, A50, H⟩ := H
    replace H : (if (t186.length : Int) < 4 then (paternosterref24_Parse.j0 k t186 true) else (if 0 < (t186.length : Int) then (if (rdOf ByteArray.empty t186 0).toList = ([109, 97, 105, 110, 115] : List UInt8) then (if 1 < (t186.length : Int) then (if (rdOf ByteArray.empty t186 1).toList = ([103, 101, 110] : List UInt8) then (paternosterref24_Parse.j0 k t186 false) else (paternosterref24_Parse.j0 k t186 ((rdOf ByteArray.empty t186 1).toList != ([110, 111, 110, 101] : List UInt8)))) else (none)) else (if (rdOf ByteArray.empty t186 0).toList = ([110, 111, 110, 101] : List UInt8) then (if 1 < (t186.length : Int) then (if (rdOf ByteArray.empty t186 1).toList = ([103, 101, 110] : List UInt8) then (paternosterref24_Parse.j0 k t186 false) else (paternosterref24_Parse.j0 k t186 ((rdOf ByteArray.empty t186 1).toList != ([110, 111, 110, 101] : List UInt8)))) else (none)) else (paternosterref24_Parse.j0 k t186 true))) else (none))) = some (r1, r2, r3, r4, r5, r6) := H
    have A5 := Aside0.mk A50
    clear A50
    have HC6 := Aside0.mk H
    clear H
    go_enter Tryz.func12, Tryz.ntmps12
    go_upto_region 4 with (first | ((with_reducible refine gate_dst (N := 2) rfl ?_); refine box_event ?hg (N := 2) ?hd (cs := #[.bool false, .bool false, .int .i64 0, .int .u64 0, .slice none 0 0]) (t := 31) ?hr ?_; (case hd => rfl); (case hg => rfl); (case hr => first | (go_simp; done) | (go_simp; rfl)); intro gb185 hg w7 hbox hb; have n0_ := Aside0.mk (below_step (by repeat (first | (with_reducible first | exact HB.out | apply below_alloc | apply pw_below_drewN | apply below_drew1) | exact HB.out)) hb); have n1_ := Aside0.mk (hbox); have n2_ := Aside0.mk ((by rw [hg]; exact (below_size (by repeat (first | (with_reducible first | exact HB.out | apply below_alloc | apply pw_below_drewN | apply below_drew1) | exact HB.out))) : w.heap.size ≤ gb185)); have n3_ := Aside0.mk ((by rw [hg]; exact (below_size (by repeat (first | (with_reducible first | exact HB.out | apply below_alloc | apply pw_below_drewN | apply below_drew1) | exact HB.out))) : w.heap.size ≤ gb185)); clear HB; have HB := n0_; have BK185 := n1_; have GW185 := n2_; have GE185 := n3_; clear n0_ n1_ n2_ n3_; clear hb hbox hg) | ((with_reducible refine gate_callee (f := 29) rfl ?_); refine goesL_ (some 27) rfl rfl Tryz.func29 (by kernel_rfl) rfl #[.string a0] rfl (by (try simp only [List.map_toArray, List.map_cons, List.map_nil]); first | done | rfl | (simp only [List.length_drop, List.length_take]; rfl)) ?_; (with_reducible refine (paternosterref24_Split.calls k a0 t186 _ A5.out).mono ?_); rintro e w8 ⟨v187, rfl, ho0, hb⟩; refine ⟨_, rfl, ?_⟩; have n0_ := Aside0.mk (Kd.R_lower ho0 (below_size (by repeat (first | (with_reducible first | exact HB.out | apply below_alloc | apply pw_below_drewN | apply below_drew1 | refine below_set ?_ GE185.out) | exact HB.out)))); have n1_ := Aside0.mk (blk_below (g := gb185) (o := .cells #[.bool false, .bool false, .int .i64 0, .int .u64 0, .slice none 0 0] 31 (0, 0)) (by (with_reducible repeat (first | refine blk_drewN ?_ _ | refine blk_drew ?_ | refine blk_alloc ?_ _)); exact BK185.out) hb); have n2_ := Aside0.mk (below_step (by repeat (first | (with_reducible first | exact HB.out | apply below_alloc | apply pw_below_drewN | apply below_drew1 | refine below_set ?_ GE185.out) | exact HB.out)) hb); clear BK185; clear HB; have HO188 := n0_; have BK185 := n1_; have HB := n2_; clear n0_ n1_ n2_; (try clear hb); (try clear hb2); (try clear hk); (try clear hi); (try clear ho0)))
    (try simp only [Act.put, List.setIfInBounds_toArray, List.set_cons_zero, List.set_cons_succ])
    go_cut [54] (fun v54 wc => ∃ (kq : Nat) (x54_5 : Bool), v54 = .bool x54_5 ∧ Aside0 (paternosterref24_Parse.j0 kq t186 x54_5 = some (r1, r2, r3, r4, r5, r6)) ∧ Aside0 (kq ≤ k) ∧ Aside0 (Kd.R Kd.string 9 wc w.heap.size (fun _ => True) v187 t186) ∧ Aside0 (wc.heap[gb185]? = some (.cells #[.bool false, .bool false, .int .i64 0, .int .u64 0, (.slice none 0 0)] 31 (0, 0))) ∧ Aside0 (Below w.heap.size w wc))
    case first =>
      have H := HC6.out
      clear HC6
      by_cases c9 : (t186.length : Int) < 4
      · rw [if_pos c9] at H
        have c9b0 : decide ((t186.length : Int) < 4) = true := decide_eq_true c9
        have c9b1 : decide (t186.length < 4) = true := decide_eq_true (by omega)
        clear c9
        (first | rw [c9b0] | (simp only [i64_w, i32_w]; rw [c9b0]) | skip)
        have H' := Aside0.mk H
        clear H
        obtain ⟨Ao10, co10, eo10⟩ := Kd.R_slice HO188.out
        subst eo10
        go_wp2
        go_meet
        case rel => exact ⟨_, (true), (by first | rfl | (simp; done) | (simp [*]; done)), H', ⟨by first | omega | exact Nat.le_refl _⟩, ⟨by (with_reducible repeat (first | apply Kd.R_alloc | apply Kd.R_drewN | apply Kd.R_drew)); exact HO188.out⟩, ⟨by (with_reducible repeat (first | refine blk_drewN ?_ _ | refine blk_drew ?_ | refine blk_alloc ?_ _)); exact BK185.out⟩, ⟨by repeat (first | (with_reducible first | exact HB.out | apply below_alloc | apply pw_below_drewN | apply below_drew1 | refine below_set ?_ GE185.out) | exact HB.out)⟩⟩
      · rw [if_neg c9] at H
        have c9b0 : decide ((t186.length : Int) < 4) = false := decide_eq_false c9
        have c9b1 : decide (t186.length < 4) = false := decide_eq_false (by omega)
        clear c9
        (first | rw [c9b0] | (simp only [i64_w, i32_w]; rw [c9b0]) | skip)
        by_cases c11 : 0 < (t186.length : Int)
        · rw [if_pos c11] at H
          have c11b0 : decide (0 < (t186.length : Int)) = true := decide_eq_true c11
          have c11b1 : decide (0 < t186.length) = true := decide_eq_true (by omega)
          clear c11
          by_cases c12 : (rdOf ByteArray.empty t186 0).toList = ([109, 97, 105, 110, 115] : List UInt8)
          · rw [if_pos c12] at H
            have c12b0 : ((rdOf ByteArray.empty t186 0).toList == ([109, 97, 105, 110, 115] : List UInt8)) = true := beq_iff_eq.mpr c12
            have c12b1 : ((rdOf ByteArray.empty t186 0).toList != ([109, 97, 105, 110, 115] : List UInt8)) = false := bne_eq_false_iff_eq.mpr c12
            clear c12
            by_cases c13 : 1 < (t186.length : Int)
            · rw [if_pos c13] at H
              have c13b0 : decide (1 < (t186.length : Int)) = true := decide_eq_true c13
              have c13b1 : decide (1 < t186.length) = true := decide_eq_true (by omega)
              clear c13
              by_cases c14 : (rdOf ByteArray.empty t186 1).toList = ([103, 101, 110] : List UInt8)
              · rw [if_pos c14] at H
                have c14b0 : ((rdOf ByteArray.empty t186 1).toList == ([103, 101, 110] : List UInt8)) = true := beq_iff_eq.mpr c14
                have c14b1 : ((rdOf ByteArray.empty t186 1).toList != ([103, 101, 110] : List UInt8)) = false := bne_eq_false_iff_eq.mpr c14
                clear c14
                have H' := Aside0.mk H
                clear H
                obtain ⟨Ao15, co15, eo15⟩ := Kd.R_slice HO188.out
                subst eo15
                have p189 : 0 ≤ (0 : Int) := (by omega)
                have q189 : 0 < (t186.length : Int) := of_decide_eq_true (by first | (with_reducible assumption) | assumption)
                obtain ⟨ad189, e189, hx189_0⟩ := Kd.at_string (Kd.R_reads' HO188.out).2.2 0 p189 q189
                cases e189
                have qi189 : (0 < t186.length) = True := eq_true (by omega)
                (try rw [show ((0 : Int)).toNat = 0 from rfl] at hx189_0)
                (try rw [Addr.add_zero'] at hx189_0)
                replace p189 := eq_true p189
                replace q189 := eq_true q189
                have p190 : 0 ≤ (1 : Int) := (by omega)
                have q190 : 1 < (t186.length : Int) := of_decide_eq_true (by first | (with_reducible assumption) | assumption)
                obtain ⟨ad190, e190, hx190_0⟩ := Kd.at_string (Kd.R_reads' HO188.out).2.2 1 p190 q190
                obtain rfl : ad189 = ad190 := (by injection e190)
                (try simp only [show (1 : Int).toNat = 1 from rfl, Nat.reduceMul, Nat.reduceEqDiff, Go.Addr.add, ↓reduceIte] at hx190_0)
                have qi190 : (1 < t186.length) = True := eq_true (by omega)
                (try rw [show ((1 : Int)).toNat = 1 from rfl] at hx190_0)
                replace p190 := eq_true p190
                replace q190 := eq_true q190
                go_wp2
                go_meet
                case rel => exact ⟨_, (false), (by first | rfl | (simp; done) | (simp [*]; done)), H', ⟨by first | omega | exact Nat.le_refl _⟩, ⟨by (with_reducible repeat (first | apply Kd.R_alloc | apply Kd.R_drewN | apply Kd.R_drew)); exact HO188.out⟩, ⟨by (with_reducible repeat (first | refine blk_drewN ?_ _ | refine blk_drew ?_ | refine blk_alloc ?_ _)); exact BK185.out⟩, ⟨by repeat (first | (with_reducible first | exact HB.out | apply below_alloc | apply pw_below_drewN | apply below_drew1 | refine below_set ?_ GE185.out) | exact HB.out)⟩⟩
              · rw [if_neg c14] at H
                have c14b0 : ((rdOf ByteArray.empty t186 1).toList == ([103, 101, 110] : List UInt8)) = false := beq_eq_false_iff_ne.mpr c14
                have c14b1 : ((rdOf ByteArray.empty t186 1).toList != ([103, 101, 110] : List UInt8)) = true := bne_iff_ne.mpr c14
                have H' := Aside0.mk H
                clear H
                obtain ⟨Ao16, co16, eo16⟩ := Kd.R_slice HO188.out
                subst eo16
                have p189 : 0 ≤ (0 : Int) := (by omega)
                have q189 : 0 < (t186.length : Int) := of_decide_eq_true (by first | (with_reducible assumption) | assumption)
                obtain ⟨ad189, e189, hx189_0⟩ := Kd.at_string (Kd.R_reads' HO188.out).2.2 0 p189 q189
                cases e189
                have qi189 : (0 < t186.length) = True := eq_true (by omega)
                (try rw [show ((0 : Int)).toNat = 0 from rfl] at hx189_0)
                (try rw [Addr.add_zero'] at hx189_0)
                replace p189 := eq_true p189
                replace q189 := eq_true q189
                have p190 : 0 ≤ (1 : Int) := (by omega)
                have q190 : 1 < (t186.length : Int) := of_decide_eq_true (by first | (with_reducible assumption) | assumption)
                obtain ⟨ad190, e190, hx190_0⟩ := Kd.at_string (Kd.R_reads' HO188.out).2.2 1 p190 q190
                obtain rfl : ad189 = ad190 := (by injection e190)
                (try simp only [show (1 : Int).toNat = 1 from rfl, Nat.reduceMul, Nat.reduceEqDiff, Go.Addr.add, ↓reduceIte] at hx190_0)
                have qi190 : (1 < t186.length) = True := eq_true (by omega)
                (try rw [show ((1 : Int)).toNat = 1 from rfl] at hx190_0)
                replace p190 := eq_true p190
                replace q190 := eq_true q190
                have p191 : 0 ≤ (1 : Int) := (by omega)
                have q191 : 1 < (t186.length : Int) := of_decide_eq_true (by first | (with_reducible assumption) | assumption)
                obtain ⟨ad191, e191, hx191_0⟩ := Kd.at_string (Kd.R_reads' HO188.out).2.2 1 p191 q191
                obtain rfl : ad189 = ad191 := (by injection e191)
                (try simp only [show (1 : Int).toNat = 1 from rfl, Nat.reduceMul, Nat.reduceEqDiff, Go.Addr.add, ↓reduceIte] at hx191_0)
                have qi191 : (1 < t186.length) = True := eq_true (by omega)
                (try rw [show ((1 : Int)).toNat = 1 from rfl] at hx191_0)
                replace p191 := eq_true p191
                replace q191 := eq_true q191
                go_wp2
                go_meet
                case rel => exact ⟨_, (((rdOf ByteArray.empty t186 1).toList != ([110, 111, 110, 101] : List UInt8))), (by first | rfl | (simp; done) | (simp [*]; done)), H', ⟨by first | omega | exact Nat.le_refl _⟩, ⟨by (with_reducible repeat (first | apply Kd.R_alloc | apply Kd.R_drewN | apply Kd.R_drew)); exact HO188.out⟩, ⟨by (with_reducible repeat (first | refine blk_drewN ?_ _ | refine blk_drew ?_ | refine blk_alloc ?_ _)); exact BK185.out⟩, ⟨by repeat (first | (with_reducible first | exact HB.out | apply below_alloc | apply pw_below_drewN | apply below_drew1 | refine below_set ?_ GE185.out) | exact HB.out)⟩⟩
            · rw [if_neg c13] at H
              exact absurd H (by simp)
          · rw [if_neg c12] at H
            have c12b0 : ((rdOf ByteArray.empty t186 0).toList == ([109, 97, 105, 110, 115] : List UInt8)) = false := beq_eq_false_iff_ne.mpr c12
            have c12b1 : ((rdOf ByteArray.empty t186 0).toList != ([109, 97, 105, 110, 115] : List UInt8)) = true := bne_iff_ne.mpr c12
            by_cases c17 : (rdOf ByteArray.empty t186 0).toList = ([110, 111, 110, 101] : List UInt8)
            · rw [if_pos c17] at H
              have c17b0 : ((rdOf ByteArray.empty t186 0).toList == ([110, 111, 110, 101] : List UInt8)) = true := beq_iff_eq.mpr c17
              have c17b1 : ((rdOf ByteArray.empty t186 0).toList != ([110, 111, 110, 101] : List UInt8)) = false := bne_eq_false_iff_eq.mpr c17
              clear c17
              by_cases c18 : 1 < (t186.length : Int)
              · rw [if_pos c18] at H
                have c18b0 : decide (1 < (t186.length : Int)) = true := decide_eq_true c18
                have c18b1 : decide (1 < t186.length) = true := decide_eq_true (by omega)
                clear c18
                by_cases c19 : (rdOf ByteArray.empty t186 1).toList = ([103, 101, 110] : List UInt8)
                · rw [if_pos c19] at H
                  have c19b0 : ((rdOf ByteArray.empty t186 1).toList == ([103, 101, 110] : List UInt8)) = true := beq_iff_eq.mpr c19
                  have c19b1 : ((rdOf ByteArray.empty t186 1).toList != ([103, 101, 110] : List UInt8)) = false := bne_eq_false_iff_eq.mpr c19
                  clear c19
                  have H' := Aside0.mk H
                  clear H
                  obtain ⟨Ao20, co20, eo20⟩ := Kd.R_slice HO188.out
                  subst eo20
                  have p189 : 0 ≤ (0 : Int) := (by omega)
                  have q189 : 0 < (t186.length : Int) := of_decide_eq_true (by first | (with_reducible assumption) | assumption)
                  obtain ⟨ad189, e189, hx189_0⟩ := Kd.at_string (Kd.R_reads' HO188.out).2.2 0 p189 q189
                  cases e189
                  have qi189 : (0 < t186.length) = True := eq_true (by omega)
                  (try rw [show ((0 : Int)).toNat = 0 from rfl] at hx189_0)
                  (try rw [Addr.add_zero'] at hx189_0)
                  replace p189 := eq_true p189
                  replace q189 := eq_true q189
                  have p192 : 0 ≤ (0 : Int) := (by omega)
                  have q192 : 0 < (t186.length : Int) := of_decide_eq_true (by first | (with_reducible assumption) | assumption)
                  obtain ⟨ad192, e192, hx192_0⟩ := Kd.at_string (Kd.R_reads' HO188.out).2.2 0 p192 q192
                  obtain rfl : ad189 = ad192 := (by injection e192)
                  have qi192 : (0 < t186.length) = True := eq_true (by omega)
                  (try rw [show ((0 : Int)).toNat = 0 from rfl] at hx192_0)
                  (try rw [Addr.add_zero'] at hx192_0)
                  replace p192 := eq_true p192
                  replace q192 := eq_true q192
                  have p193 : 0 ≤ (1 : Int) := (by omega)
                  have q193 : 1 < (t186.length : Int) := of_decide_eq_true (by first | (with_reducible assumption) | assumption)
                  obtain ⟨ad193, e193, hx193_0⟩ := Kd.at_string (Kd.R_reads' HO188.out).2.2 1 p193 q193
                  obtain rfl : ad189 = ad193 := (by injection e193)
                  (try simp only [show (1 : Int).toNat = 1 from rfl, Nat.reduceMul, Nat.reduceEqDiff, Go.Addr.add, ↓reduceIte] at hx193_0)
                  have qi193 : (1 < t186.length) = True := eq_true (by omega)
                  (try rw [show ((1 : Int)).toNat = 1 from rfl] at hx193_0)
                  replace p193 := eq_true p193
                  replace q193 := eq_true q193
                  go_wp2
                  go_meet
                  case rel => exact ⟨_, (false), (by first | rfl | (simp; done) | (simp [*]; done)), H', ⟨by first | omega | exact Nat.le_refl _⟩, ⟨by (with_reducible repeat (first | apply Kd.R_alloc | apply Kd.R_drewN | apply Kd.R_drew)); exact HO188.out⟩, ⟨by (with_reducible repeat (first | refine blk_drewN ?_ _ | refine blk_drew ?_ | refine blk_alloc ?_ _)); exact BK185.out⟩, ⟨by repeat (first | (with_reducible first | exact HB.out | apply below_alloc | apply pw_below_drewN | apply below_drew1 | refine below_set ?_ GE185.out) | exact HB.out)⟩⟩
                · rw [if_neg c19] at H
                  have c19b0 : ((rdOf ByteArray.empty t186 1).toList == ([103, 101, 110] : List UInt8)) = false := beq_eq_false_iff_ne.mpr c19
                  have c19b1 : ((rdOf ByteArray.empty t186 1).toList != ([103, 101, 110] : List UInt8)) = true := bne_iff_ne.mpr c19
                  have H' := Aside0.mk H
                  clear H
                  obtain ⟨Ao21, co21, eo21⟩ := Kd.R_slice HO188.out
                  subst eo21
                  have p189 : 0 ≤ (0 : Int) := (by omega)
                  have q189 : 0 < (t186.length : Int) := of_decide_eq_true (by first | (with_reducible assumption) | assumption)
                  obtain ⟨ad189, e189, hx189_0⟩ := Kd.at_string (Kd.R_reads' HO188.out).2.2 0 p189 q189
                  cases e189
                  have qi189 : (0 < t186.length) = True := eq_true (by omega)
                  (try rw [show ((0 : Int)).toNat = 0 from rfl] at hx189_0)
                  (try rw [Addr.add_zero'] at hx189_0)
                  replace p189 := eq_true p189
                  replace q189 := eq_true q189
                  have p192 : 0 ≤ (0 : Int) := (by omega)
                  have q192 : 0 < (t186.length : Int) := of_decide_eq_true (by first | (with_reducible assumption) | assumption)
                  obtain ⟨ad192, e192, hx192_0⟩ := Kd.at_string (Kd.R_reads' HO188.out).2.2 0 p192 q192
                  obtain rfl : ad189 = ad192 := (by injection e192)
                  have qi192 : (0 < t186.length) = True := eq_true (by omega)
                  (try rw [show ((0 : Int)).toNat = 0 from rfl] at hx192_0)
                  (try rw [Addr.add_zero'] at hx192_0)
                  replace p192 := eq_true p192
                  replace q192 := eq_true q192
                  have p193 : 0 ≤ (1 : Int) := (by omega)
                  have q193 : 1 < (t186.length : Int) := of_decide_eq_true (by first | (with_reducible assumption) | assumption)
                  obtain ⟨ad193, e193, hx193_0⟩ := Kd.at_string (Kd.R_reads' HO188.out).2.2 1 p193 q193
                  obtain rfl : ad189 = ad193 := (by injection e193)
                  (try simp only [show (1 : Int).toNat = 1 from rfl, Nat.reduceMul, Nat.reduceEqDiff, Go.Addr.add, ↓reduceIte] at hx193_0)
                  have qi193 : (1 < t186.length) = True := eq_true (by omega)
                  (try rw [show ((1 : Int)).toNat = 1 from rfl] at hx193_0)
                  replace p193 := eq_true p193
                  replace q193 := eq_true q193
                  have p194 : 0 ≤ (1 : Int) := (by omega)
                  have q194 : 1 < (t186.length : Int) := of_decide_eq_true (by first | (with_reducible assumption) | assumption)
                  obtain ⟨ad194, e194, hx194_0⟩ := Kd.at_string (Kd.R_reads' HO188.out).2.2 1 p194 q194
                  obtain rfl : ad189 = ad194 := (by injection e194)
                  (try simp only [show (1 : Int).toNat = 1 from rfl, Nat.reduceMul, Nat.reduceEqDiff, Go.Addr.add, ↓reduceIte] at hx194_0)
                  have qi194 : (1 < t186.length) = True := eq_true (by omega)
                  (try rw [show ((1 : Int)).toNat = 1 from rfl] at hx194_0)
                  replace p194 := eq_true p194
                  replace q194 := eq_true q194
                  go_wp2
                  go_meet
                  case rel => exact ⟨_, (((rdOf ByteArray.empty t186 1).toList != ([110, 111, 110, 101] : List UInt8))), (by first | rfl | (simp; done) | (simp [*]; done)), H', ⟨by first | omega | exact Nat.le_refl _⟩, ⟨by (with_reducible repeat (first | apply Kd.R_alloc | apply Kd.R_drewN | apply Kd.R_drew)); exact HO188.out⟩, ⟨by (with_reducible repeat (first | refine blk_drewN ?_ _ | refine blk_drew ?_ | refine blk_alloc ?_ _)); exact BK185.out⟩, ⟨by repeat (first | (with_reducible first | exact HB.out | apply below_alloc | apply pw_below_drewN | apply below_drew1 | refine below_set ?_ GE185.out) | exact HB.out)⟩⟩
              · rw [if_neg c18] at H
                exact absurd H (by simp)
            · rw [if_neg c17] at H
              have c17b0 : ((rdOf ByteArray.empty t186 0).toList == ([110, 111, 110, 101] : List UInt8)) = false := beq_eq_false_iff_ne.mpr c17
              have c17b1 : ((rdOf ByteArray.empty t186 0).toList != ([110, 111, 110, 101] : List UInt8)) = true := bne_iff_ne.mpr c17
              have H' := Aside0.mk H
              clear H
              obtain ⟨Ao22, co22, eo22⟩ := Kd.R_slice HO188.out
              subst eo22
              have p189 : 0 ≤ (0 : Int) := (by omega)
              have q189 : 0 < (t186.length : Int) := of_decide_eq_true (by first | (with_reducible assumption) | assumption)
              obtain ⟨ad189, e189, hx189_0⟩ := Kd.at_string (Kd.R_reads' HO188.out).2.2 0 p189 q189
              cases e189
              have qi189 : (0 < t186.length) = True := eq_true (by omega)
              (try rw [show ((0 : Int)).toNat = 0 from rfl] at hx189_0)
              (try rw [Addr.add_zero'] at hx189_0)
              replace p189 := eq_true p189
              replace q189 := eq_true q189
              have p192 : 0 ≤ (0 : Int) := (by omega)
              have q192 : 0 < (t186.length : Int) := of_decide_eq_true (by first | (with_reducible assumption) | assumption)
              obtain ⟨ad192, e192, hx192_0⟩ := Kd.at_string (Kd.R_reads' HO188.out).2.2 0 p192 q192
              obtain rfl : ad189 = ad192 := (by injection e192)
              have qi192 : (0 < t186.length) = True := eq_true (by omega)
              (try rw [show ((0 : Int)).toNat = 0 from rfl] at hx192_0)
              (try rw [Addr.add_zero'] at hx192_0)
              replace p192 := eq_true p192
              replace q192 := eq_true q192
              go_wp2
              go_meet
              case rel => exact ⟨_, (true), (by first | rfl | (simp; done) | (simp [*]; done)), H', ⟨by first | omega | exact Nat.le_refl _⟩, ⟨by (with_reducible repeat (first | apply Kd.R_alloc | apply Kd.R_drewN | apply Kd.R_drew)); exact HO188.out⟩, ⟨by (with_reducible repeat (first | refine blk_drewN ?_ _ | refine blk_drew ?_ | refine blk_alloc ?_ _)); exact BK185.out⟩, ⟨by repeat (first | (with_reducible first | exact HB.out | apply below_alloc | apply pw_below_drewN | apply below_drew1 | refine below_set ?_ GE185.out) | exact HB.out)⟩⟩
        · rw [if_neg c11] at H
          exact absurd H (by simp)
    case rest =>
      clear HC6
      try clear c1
      try clear p1
      try clear q1
      try clear hx1
      try clear qi1
      try clear c2
      try clear c2b0
      try clear c2b1
      try clear p2
      try clear c9
      try clear c9b0
      try clear c9b1
      try clear c11
      try clear c11b0
      try clear c11b1
      try clear c12
      try clear c12b0
      try clear c12b1
      try clear c13
      try clear c13b0
      try clear c13b1
      try clear c14
      try clear c14b0
      try clear c14b1
      try clear c17
      try clear c17b0
      try clear c17b1
      try clear c18
      try clear c18b0
      try clear c18b1
      try clear p18
      try clear q18
      try clear hx18
      try clear qi18
      try clear c19
      try clear c19b0
      try clear c19b1
      try clear p19
      try clear q19
      try clear hx19
      try clear qi19
      try clear hcz4_0
      try clear hcz4_1
      try clear hcz4_2
      try clear hcz4_3
      try clear hcz4_4
      try clear hfz4_0
      try clear hfz4_1
      try clear hfz4_2
      try clear hfz4_3
      try clear hfz4_4
      try clear hx189_0
      try clear hx190_0
      try clear hx191_0
      try clear hx192_0
      try clear hx193_0
      try clear hx194_0
      try clear p189
      try clear p190
      try clear p191
      try clear p192
      try clear p193
      try clear p194
      try clear q189
      try clear q190
      try clear q191
      try clear q192
      try clear q193
      try clear q194
      obtain ⟨kq, x54_5, rfl, HA, HJ5, HO_4, BK185, HB⟩ := hcut
      cases kq with
      | zero => exact absurd HA.out (by simp [paternosterref24_Parse.j0])
      | succ kj5 =>
        have H := HA.out
        clear HA
        simp only [paternosterref24_Parse.j0] at H
        by_cases c23 : x54_5 = true
        · subst c23
          have H1 : (some (false, false, 0, 0, ([] : List (S45)), 11)) = some (r1, r2, r3, r4, r5, r6) := by rw [if_pos rfl] at H; exact H
          clear H
          have H := H1
          clear H1
          simp only [Option.some.injEq, Prod.mk.injEq] at H
          obtain ⟨rfl, rfl, rfl, rfl, rfl, rfl⟩ := H
          have hcz24_0 : wc.cell? ⟨gb185, 0, none⟩ = some (.bool false) := (blk_cell BK185.out 0).trans rfl
          have hcz24_1 : wc.cell? ⟨gb185, 1, none⟩ = some (.bool false) := (blk_cell BK185.out 1).trans rfl
          have hcz24_2 : wc.cell? ⟨gb185, 2, none⟩ = some (.int .i64 0) := (blk_cell BK185.out 2).trans rfl
          have hcz24_3 : wc.cell? ⟨gb185, 3, none⟩ = some (.int .u64 0) := (blk_cell BK185.out 3).trans rfl
          have hcz24_4 : wc.cell? ⟨gb185, 4, none⟩ = some (.slice none 0 0) := (blk_cell BK185.out 4).trans rfl
          have hfz24_0 := blk_frozen BK185.out 0
          have hfz24_1 := blk_frozen BK185.out 1
          have hfz24_2 := blk_frozen BK185.out 2
          have hfz24_3 := blk_frozen BK185.out 3
          have hfz24_4 := blk_frozen BK185.out 4
          go_wp2
          refine bodyPost_ret (results_ct rfl _ _ gb185 31 #[.bool false, .bool false, .int .i64 0, .int .u64 0, .slice none 0 0] (0, 0) _ rfl (by (with_reducible repeat (first | refine blk_drewN ?_ _ | refine blk_drew ?_ | refine blk_alloc ?_ _)); refine blk_put (cs := #[.bool false, .bool false, .int .i64 0, .int .u64 0, .slice none 0 0]) ?_ 4 _ rfl; (with_reducible repeat (first | refine blk_drewN ?_ _ | refine blk_drew ?_ | refine blk_alloc ?_ _)); refine blk_put (cs := #[.bool false, .bool false, .int .i64 0, .int .u64 0, .slice none 0 0]) ?_ 3 _ rfl; (with_reducible repeat (first | refine blk_drewN ?_ _ | refine blk_drew ?_ | refine blk_alloc ?_ _)); refine blk_put (cs := #[.bool false, .bool false, .int .i64 0, .int .u64 0, .slice none 0 0]) ?_ 2 _ rfl; (with_reducible repeat (first | refine blk_drewN ?_ _ | refine blk_drew ?_ | refine blk_alloc ?_ _)); refine blk_put (cs := #[.bool false, .bool false, .int .i64 0, .int .u64 0, .slice none 0 0]) ?_ 1 _ rfl; (with_reducible repeat (first | refine blk_drewN ?_ _ | refine blk_drew ?_ | refine blk_alloc ?_ _)); refine blk_put (cs := #[.bool false, .bool false, .int .i64 0, .int .u64 0, .slice none 0 0]) ?_ 0 _ rfl; (with_reducible repeat (first | refine blk_drewN ?_ _ | refine blk_drew ?_ | refine blk_alloc ?_ _)); exact BK185.out) Tryz.underlying31 rfl (by kernel_rfl)) rfl ?_
          exact ⟨_, by first | rfl | (simp [errW_none, errW_some] <;> rfl) | (simp [*, errW_none, errW_some] <;> rfl), by first | exact Kd.R_nil _ _ _ _ _ | exact Kd.N_nil _ _ _ _ _ | exact Kd.V_nil _ _ _ _ _ | exact Kd.Q_nil _ _ _ _ _ | exact Kd.S_nil _ _ _ _ _, by repeat (first | (with_reducible first | exact HB.out | apply below_alloc | apply pw_below_drewN | apply below_drew1 | refine below_set ?_ GE185.out) | exact HB.out)⟩
        · replace c23 := Bool.eq_false_iff.mpr c23
          subst c23
          have H1 : (if 2 < (t186.length : Int) then ((paternosterref24_number.f kj5 (rdOf ByteArray.empty t186 2)).bind fun bt196 => (if 3 < (t186.length : Int) then ((paternosterref24_digits.f kj5 (rdOf ByteArray.empty t186 3) 18446744073709551615).bind fun bt199 => (if bt196.2 = true then (paternosterref24_Parse.j1 kj5 t186 bt196.1 bt199.1 (!bt199.2)) else (paternosterref24_Parse.j1 kj5 t186 bt196.1 bt199.1 true))) else (none))) else (none)) = some (r1, r2, r3, r4, r5, r6) := by rw [if_neg (show ¬ (false = true) by decide)] at H; exact H
          clear H
          have H := H1
          clear H1
          by_cases c25 : 2 < (t186.length : Int)
          · rw [if_pos c25] at H
            have c25b0 : decide (2 < (t186.length : Int)) = true := decide_eq_true c25
            have c25b1 : decide (2 < t186.length) = true := decide_eq_true (by omega)
            clear c25
            replace H := Option.bind_eq_some_iff.mp H
            obtain ⟨⟨t196, t197⟩, A260, H⟩ := H
            replace H : (if 3 < (t186.length : Int) then ((paternosterref24_digits.f kj5 (rdOf ByteArray.empty t186 3) 18446744073709551615).bind fun bt199 => (if t197 = true then (paternosterref24_Parse.j1 kj5 t186 t196 bt199.1 (!bt199.2)) else (paternosterref24_Parse.j1 kj5 t186 t196 bt199.1 true))) else (none)) = some (r1, r2, r3, r4, r5, r6) := H
            have A26 := Aside0.mk A260
            clear A260
            by_cases c27 : 3 < (t186.length : Int)
            · rw [if_pos c27] at H
              have c27b0 : decide (3 < (t186.length : Int)) = true := decide_eq_true c27
              have c27b1 : decide (3 < t186.length) = true := decide_eq_true (by omega)
              clear c27
              replace H := Option.bind_eq_some_iff.mp H
              obtain ⟨⟨t199, t200⟩, A280, H⟩ := H
              replace H : (if t197 = true then (paternosterref24_Parse.j1 kj5 t186 t196 t199 (!t200)) else (paternosterref24_Parse.j1 kj5 t186 t196 t199 true)) = some (r1, r2, r3, r4, r5, r6) := H
              have A28 := Aside0.mk A280
              clear A280
              have HC29 := Aside0.mk H
              clear H
              obtain ⟨Ao30, co30, eo30⟩ := Kd.R_slice HO_4.out
              subst eo30
              have p195 : 0 ≤ (2 : Int) := (by omega)
              have q195 : 2 < (t186.length : Int) := of_decide_eq_true (by first | (with_reducible assumption) | assumption)
              obtain ⟨ad195, e195, hx195_0⟩ := Kd.at_string (Kd.R_reads' HO_4.out).2.2 2 p195 q195
              cases e195
              (try simp only [show (2 : Int).toNat = 2 from rfl, Nat.reduceMul, Nat.reduceEqDiff, Go.Addr.add, ↓reduceIte] at hx195_0)
              have qi195 : (2 < t186.length) = True := eq_true (by omega)
              (try rw [show ((2 : Int)).toNat = 2 from rfl] at hx195_0)
              replace p195 := eq_true p195
              replace q195 := eq_true q195
              go_upto_region 8 with (first | ((with_reducible refine gate_callee (f := 30) rfl ?_); refine goesL_ (some 60) rfl rfl Tryz.func30 (by kernel_rfl) rfl #[.string (rdOf ByteArray.empty t186 2)] rfl (by (try simp only [List.map_toArray, List.map_cons, List.map_nil]); first | done | rfl | (simp only [List.length_drop, List.length_take]; rfl)) ?_; (with_reducible refine (paternosterref24_number.calls kj5 (rdOf ByteArray.empty t186 2) t196 t197 _ A26.out).mono ?_); rintro e w' ⟨rfl, ⟨nd, rfl⟩⟩; refine ⟨_, rfl, ?_⟩; have p198 : 0 ≤ (3 : Int) := (by omega); have q198 : 3 < (t186.length : Int) := of_decide_eq_true (by first | (with_reducible assumption) | assumption); obtain ⟨ad198, e198, hx198_0⟩ := Kd.at_string (Kd.R_reads' HO_4.out).2.2 3 p198 q198; obtain rfl : ad195 = ad198 := (by injection e198); (try simp only [show (3 : Int).toNat = 3 from rfl, Nat.reduceMul, Nat.reduceEqDiff, Go.Addr.add, ↓reduceIte] at hx198_0); have qi198 : (3 < t186.length) = True := eq_true (by omega); (try rw [show ((3 : Int)).toNat = 3 from rfl] at hx198_0); replace p198 := eq_true p198; replace q198 := eq_true q198) | ((with_reducible refine gate_callee (f := 31) rfl ?_); refine goesL_ (some 67) rfl rfl Tryz.func31 (by kernel_rfl) rfl #[.string (rdOf ByteArray.empty t186 3), .int .u64 18446744073709551615] rfl (by (try simp only [List.map_toArray, List.map_cons, List.map_nil]); first | done | rfl | (simp only [List.length_drop, List.length_take]; rfl)) ?_; (with_reducible refine (paternosterref24_digits.calls kj5 (rdOf ByteArray.empty t186 3) 18446744073709551615 t199 t200 _ A28.out).mono ?_); rintro e w' ⟨rfl, ⟨nd, rfl⟩⟩; refine ⟨_, rfl, ?_⟩))
              (try simp only [Act.put, List.setIfInBounds_toArray, List.set_cons_zero, List.set_cons_succ])
              go_cut [75] (fun v75 wc => ∃ (kq : Nat) (x75_28 : Bool), v75 = .bool x75_28 ∧ Aside0 (paternosterref24_Parse.j1 kq t186 t196 t199 x75_28 = some (r1, r2, r3, r4, r5, r6)) ∧ Aside0 (kq ≤ kj5) ∧ Aside0 (Kd.R Kd.string 9 wc w.heap.size (fun _ => True) (.slice (some ad195) t186.length co30) t186) ∧ Aside0 (wc.heap[gb185]? = some (.cells #[.bool false, .bool false, .int .i64 0, .int .u64 0, (.slice none 0 0)] 31 (0, 0))) ∧ Aside0 (Below w.heap.size w wc))
              case first =>
                have H := HC29.out
                clear HC29
                by_cases c31 : t197 = true
                · subst c31
                  have H1 : (paternosterref24_Parse.j1 kj5 t186 t196 t199 (!t200)) = some (r1, r2, r3, r4, r5, r6) := by rw [if_pos rfl] at H; exact H
                  clear H
                  have H := H1
                  clear H1
                  have H' := Aside0.mk H
                  clear H
                  go_wp2
                  go_meet
                  case rel => exact ⟨_, (!t200), (by first | rfl | (simp; done) | (simp [*]; done)), H', ⟨by have := HJ5.out; first | omega | exact Nat.le_refl _⟩, ⟨by (with_reducible repeat (first | apply Kd.R_alloc | apply Kd.R_drewN | apply Kd.R_drew)); exact HO_4.out⟩, ⟨by (with_reducible repeat (first | refine blk_drewN ?_ _ | refine blk_drew ?_ | refine blk_alloc ?_ _)); exact BK185.out⟩, ⟨by repeat (first | (with_reducible first | exact HB.out | apply below_alloc | apply pw_below_drewN | apply below_drew1 | refine below_set ?_ GE185.out) | exact HB.out)⟩⟩
                · replace c31 := Bool.eq_false_iff.mpr c31
                  subst c31
                  have H1 : (paternosterref24_Parse.j1 kj5 t186 t196 t199 true) = some (r1, r2, r3, r4, r5, r6) := by rw [if_neg (show ¬ (false = true) by decide)] at H; exact H
                  clear H
                  have H := H1
                  clear H1
                  have H' := Aside0.mk H
                  clear H
                  go_wp2
                  go_meet
                  case rel => exact ⟨_, (true), (by first | rfl | (simp; done) | (simp [*]; done)), H', ⟨by have := HJ5.out; first | omega | exact Nat.le_refl _⟩, ⟨by (with_reducible repeat (first | apply Kd.R_alloc | apply Kd.R_drewN | apply Kd.R_drew)); exact HO_4.out⟩, ⟨by (with_reducible repeat (first | refine blk_drewN ?_ _ | refine blk_drew ?_ | refine blk_alloc ?_ _)); exact BK185.out⟩, ⟨by repeat (first | (with_reducible first | exact HB.out | apply below_alloc | apply pw_below_drewN | apply below_drew1 | refine below_set ?_ GE185.out) | exact HB.out)⟩⟩
              case rest =>
                clear HC29
                try clear c1
                try clear p1
                try clear q1
                try clear hx1
                try clear qi1
                try clear c2
                try clear c2b0
                try clear c2b1
                try clear p2
                try clear c3
                try clear c9
                try clear c9b0
                try clear c9b1
                try clear c11
                try clear c11b0
                try clear c11b1
                try clear c12
                try clear c12b0
                try clear c12b1
                try clear c13
                try clear c13b0
                try clear c13b1
                try clear c14
                try clear c14b0
                try clear c14b1
                try clear c17
                try clear c17b0
                try clear c17b1
                try clear c18
                try clear c18b0
                try clear c18b1
                try clear p18
                try clear q18
                try clear hx18
                try clear qi18
                try clear c19
                try clear c19b0
                try clear c19b1
                try clear p19
                try clear q19
                try clear hx19
                try clear qi19
                try clear c23
                try clear c25
                try clear c25b0
                try clear c25b1
                try clear c27
                try clear c27b0
                try clear c27b1
                try clear c29
                try clear c30
                try clear c31
                try clear hcz24_0
                try clear hcz24_1
                try clear hcz24_2
                try clear hcz24_3
                try clear hcz24_4
                try clear hcz4_0
                try clear hcz4_1
                try clear hcz4_2
                try clear hcz4_3
                try clear hcz4_4
                try clear hfz24_0
                try clear hfz24_1
                try clear hfz24_2
                try clear hfz24_3
                try clear hfz24_4
                try clear hfz4_0
                try clear hfz4_1
                try clear hfz4_2
                try clear hfz4_3
                try clear hfz4_4
                try clear hx189_0
                try clear hx190_0
                try clear hx191_0
                try clear hx192_0
                try clear hx193_0
                try clear hx194_0
                try clear hx195_0
                try clear hx198_0
                try clear p1
                try clear p18
                try clear p189
                try clear p19
                try clear p190
                try clear p191
                try clear p192
                try clear p193
                try clear p194
                try clear p195
                try clear p198
                try clear p2
                try clear q1
                try clear q18
                try clear q189
                try clear q19
                try clear q190
                try clear q191
                try clear q192
                try clear q193
                try clear q194
                try clear q195
                try clear q198
                obtain ⟨kq, x75_28, rfl, HA, HJ28, HO_4, BK185, HB⟩ := hcut
                cases kq with
                | zero => exact absurd HA.out (by simp [paternosterref24_Parse.j1])
                | succ kj28 =>
                  have H := HA.out
                  clear HA
                  simp only [paternosterref24_Parse.j1] at H
                  by_cases c32 : x75_28 = true
                  · subst c32
                    have H1 : (some (false, false, 0, 0, ([] : List (S45)), 11)) = some (r1, r2, r3, r4, r5, r6) := by rw [if_pos rfl] at H; exact H
                    clear H
                    have H := H1
                    clear H1
                    simp only [Option.some.injEq, Prod.mk.injEq] at H
                    obtain ⟨rfl, rfl, rfl, rfl, rfl, rfl⟩ := H
                    have hcz33_0 : wc.cell? ⟨gb185, 0, none⟩ = some (.bool false) := (blk_cell BK185.out 0).trans rfl
                    have hcz33_1 : wc.cell? ⟨gb185, 1, none⟩ = some (.bool false) := (blk_cell BK185.out 1).trans rfl
                    have hcz33_2 : wc.cell? ⟨gb185, 2, none⟩ = some (.int .i64 0) := (blk_cell BK185.out 2).trans rfl
                    have hcz33_3 : wc.cell? ⟨gb185, 3, none⟩ = some (.int .u64 0) := (blk_cell BK185.out 3).trans rfl
                    have hcz33_4 : wc.cell? ⟨gb185, 4, none⟩ = some (.slice none 0 0) := (blk_cell BK185.out 4).trans rfl
                    have hfz33_0 := blk_frozen BK185.out 0
                    have hfz33_1 := blk_frozen BK185.out 1
                    have hfz33_2 := blk_frozen BK185.out 2
                    have hfz33_3 := blk_frozen BK185.out 3
                    have hfz33_4 := blk_frozen BK185.out 4
                    go_wp2
                    refine bodyPost_ret (results_ct rfl _ _ gb185 31 #[.bool false, .bool false, .int .i64 0, .int .u64 0, .slice none 0 0] (0, 0) _ rfl (by (with_reducible repeat (first | refine blk_drewN ?_ _ | refine blk_drew ?_ | refine blk_alloc ?_ _)); refine blk_put (cs := #[.bool false, .bool false, .int .i64 0, .int .u64 0, .slice none 0 0]) ?_ 4 _ rfl; (with_reducible repeat (first | refine blk_drewN ?_ _ | refine blk_drew ?_ | refine blk_alloc ?_ _)); refine blk_put (cs := #[.bool false, .bool false, .int .i64 0, .int .u64 0, .slice none 0 0]) ?_ 3 _ rfl; (with_reducible repeat (first | refine blk_drewN ?_ _ | refine blk_drew ?_ | refine blk_alloc ?_ _)); refine blk_put (cs := #[.bool false, .bool false, .int .i64 0, .int .u64 0, .slice none 0 0]) ?_ 2 _ rfl; (with_reducible repeat (first | refine blk_drewN ?_ _ | refine blk_drew ?_ | refine blk_alloc ?_ _)); refine blk_put (cs := #[.bool false, .bool false, .int .i64 0, .int .u64 0, .slice none 0 0]) ?_ 1 _ rfl; (with_reducible repeat (first | refine blk_drewN ?_ _ | refine blk_drew ?_ | refine blk_alloc ?_ _)); refine blk_put (cs := #[.bool false, .bool false, .int .i64 0, .int .u64 0, .slice none 0 0]) ?_ 0 _ rfl; (with_reducible repeat (first | refine blk_drewN ?_ _ | refine blk_drew ?_ | refine blk_alloc ?_ _)); exact BK185.out) Tryz.underlying31 rfl (by kernel_rfl)) rfl ?_
                    exact ⟨_, by first | rfl | (simp [errW_none, errW_some] <;> rfl) | (simp [*, errW_none, errW_some] <;> rfl), by first | exact Kd.R_nil _ _ _ _ _ | exact Kd.N_nil _ _ _ _ _ | exact Kd.V_nil _ _ _ _ _ | exact Kd.Q_nil _ _ _ _ _ | exact Kd.S_nil _ _ _ _ _, by repeat (first | (with_reducible first | exact HB.out | apply below_alloc | apply pw_below_drewN | apply below_drew1 | refine below_set ?_ GE185.out) | exact HB.out)⟩
                  · replace c32 := Bool.eq_false_iff.mpr c32
                    subst c32
                    have H1 : (if 0 < (t186.length : Int) then (if 1 < (t186.length : Int) then (paternosterref24_Parse.l0 kj28 t186 4 ((rdOf ByteArray.empty t186 0).toList == ([109, 97, 105, 110, 115] : List UInt8)) ((rdOf ByteArray.empty t186 1).toList == ([103, 101, 110] : List UInt8)) t196 t199 ([] : List (S45))) else (none)) else (none)) = some (r1, r2, r3, r4, r5, r6) := by rw [if_neg (show ¬ (false = true) by decide)] at H; exact H
                    clear H
                    have H := H1
                    clear H1
                    by_cases c34 : 0 < (t186.length : Int)
                    · rw [if_pos c34] at H
                      have c34b0 : decide (0 < (t186.length : Int)) = true := decide_eq_true c34
                      have c34b1 : decide (0 < t186.length) = true := decide_eq_true (by omega)
                      clear c34
                      by_cases c35 : 1 < (t186.length : Int)
                      · rw [if_pos c35] at H
                        have c35b0 : decide (1 < (t186.length : Int)) = true := decide_eq_true c35
                        have c35b1 : decide (1 < t186.length) = true := decide_eq_true (by omega)
                        clear c35
                        have H' := Aside0.mk H
                        clear H
                        try go_wp2
                        have n0_ := Aside0.mk (Kd.R_drew HO_4.out)
                        have n1_ := Aside0.mk (blk_drew BK185.out)
                        have n2_ := Aside0.mk (below_drew1 HB.out)
                        clear HO_4
                        clear BK185
                        clear HB
                        have HO_4 := n0_
                        have BK185 := n1_
                        have HB := n2_
                        clear n0_ n1_ n2_
                        have p201 : 0 ≤ (0 : Int) := (by omega)
                        have q201 : 0 < (t186.length : Int) := of_decide_eq_true (by first | (with_reducible assumption) | assumption)
                        obtain ⟨ad201, e201, hx201_0⟩ := Kd.at_string (Kd.R_reads' HO_4.out).2.2 0 p201 q201
                        obtain rfl : ad195 = ad201 := (by injection e201)
                        have qi201 : (0 < t186.length) = True := eq_true (by omega)
                        (try rw [show ((0 : Int)).toNat = 0 from rfl] at hx201_0)
                        (try rw [Addr.add_zero'] at hx201_0)
                        replace p201 := eq_true p201
                        replace q201 := eq_true q201
                        have p202 : 0 ≤ (1 : Int) := (by omega)
                        have q202 : 1 < (t186.length : Int) := of_decide_eq_true (by first | (with_reducible assumption) | assumption)
                        obtain ⟨ad202, e202, hx202_0⟩ := Kd.at_string (Kd.R_reads' HO_4.out).2.2 1 p202 q202
                        obtain rfl : ad195 = ad202 := (by injection e202)
                        (try simp only [show (1 : Int).toNat = 1 from rfl, Nat.reduceMul, Nat.reduceEqDiff, Go.Addr.add, ↓reduceIte] at hx202_0)
                        have qi202 : (1 < t186.length) = True := eq_true (by omega)
                        (try rw [show ((1 : Int)).toNat = 1 from rfl] at hx202_0)
                        replace p202 := eq_true p202
                        replace q202 := eq_true q202
                        refine start_ (n := 13) (S := fun w' => w'.cell? ad195 = some (.string (rdOf ByteArray.empty t186 0)) ∧ w'.cell? ⟨ad195.block, ad195.off + 1, none⟩ = some (.string (rdOf ByteArray.empty t186 1))) (ds := []) #[false, false, false, false, false, false, false, false, false, false, false, false, false] (by kernel_rfl) rfl rfl ⟨hx201_0, hx202_0⟩ (fun hHeld => ?_); refine with_tabW paternosterref24_Parse.tab10 paternosterref24_Parse.bits10 (fun HT_ HW_ => ?_)
                        generalize wc.drew = w36 at HO_4 BK185 HB hx201_0 hx202_0 hHeld ⊢
                        refine pure_ (i := 0) (N := some 77) (v := ?_) (a' := ?_) #[true, false, false, false, false, false, false, false, false, false, false, false, false] rfl rfl (any_of HT_.out (by kernel_rfl)) (fun _ _ _ h => h) (Or.inl ⟨by rfl, ?_⟩) ?_ ?_
                        rotate_left
                        · intro w'
                          go_simp
                          with_reducible rfl
                        rotate_left
                        · simp only [Act.put, List.setIfInBounds_toArray, List.set_cons_zero, List.set_cons_succ, i64_w, i32_w]
                          rfl
                        refine pure_ (i := 1) (N := some 78) (v := ?_) (a' := ?_) #[true, true, false, false, false, false, false, false, false, false, false, false, false] rfl rfl (any_of HT_.out (by kernel_rfl)) (fun _ _ _ h => h) (Or.inl ⟨by rfl, ?_⟩) ?_ ?_
                        rotate_left
                        · intro w'
                          go_simp
                          with_reducible rfl
                        rotate_left
                        · simp only [Act.put, List.setIfInBounds_toArray, List.set_cons_zero, List.set_cons_succ, i64_w, i32_w]
                          rfl
                        refine pure_ (i := 4) (N := some 81) (v := ?_) (a' := ?_) #[true, true, false, false, true, false, false, false, false, false, false, false, false] rfl rfl (any_of HT_.out (by kernel_rfl)) (fun _ _ _ h => h) (Or.inl ⟨by rfl, ?_⟩) ?_ ?_
                        rotate_left
                        · intro w'
                          go_simp
                          with_reducible rfl
                        rotate_left
                        · simp only [Act.put, List.setIfInBounds_toArray, List.set_cons_zero, List.set_cons_succ, i64_w, i32_w]
                          rfl
                        refine pure_ (i := 5) (N := some 82) (v := ?_) (a' := ?_) #[true, true, false, false, true, true, false, false, false, false, false, false, false] rfl rfl (any_of HT_.out (by kernel_rfl)) (fun _ _ _ h => h) (Or.inl ⟨by rfl, ?_⟩) ?_ ?_
                        rotate_left
                        · intro w'
                          go_simp
                          with_reducible rfl
                        rotate_left
                        · simp only [Act.put, List.setIfInBounds_toArray, List.set_cons_zero, List.set_cons_succ, i64_w, i32_w]
                          rfl
                        refine pure_ (i := 8) (N := some 85) (v := ?_) (a' := ?_) #[true, true, false, false, true, true, false, false, true, false, false, false, false] rfl rfl (any_of HT_.out (by kernel_rfl)) (fun _ _ _ h => h) (Or.inl ⟨by rfl, ?_⟩) ?_ ?_
                        rotate_left
                        · intro w'
                          go_simp
                          with_reducible rfl
                        rotate_left
                        · simp only [Act.put, List.setIfInBounds_toArray, List.set_cons_zero, List.set_cons_succ, i64_w, i32_w]
                          rfl
                        refine pure_ (i := 9) (N := some 86) (v := ?_) (a' := ?_) #[true, true, false, false, true, true, false, false, true, true, false, false, false] rfl rfl (any_of HT_.out (by kernel_rfl)) (fun _ _ _ h => h) (Or.inl ⟨by rfl, ?_⟩) ?_ ?_
                        rotate_left
                        · intro w'
                          go_simp
                          with_reducible rfl
                        rotate_left
                        · simp only [Act.put, List.setIfInBounds_toArray, List.set_cons_zero, List.set_cons_succ, i64_w, i32_w]
                          rfl
                        refine take_ (i := 2) (N := some 79) (v := ?_) (a' := ?_) #[true, true, true, false, true, true, false, false, true, true, false, false, false] rfl rfl (take_ofW HT_.out HW_.out (by kernel_rfl)) (fun _ _ _ h => h) (Or.inl ⟨by rfl, ?_⟩) hHeld ?_ ?_
                        rotate_left
                        · rintro w' ⟨s0, s1⟩
                          go_simp
                          with_reducible rfl
                        rotate_left
                        · simp only [Act.put, List.setIfInBounds_toArray, List.set_cons_zero, List.set_cons_succ, i64_w, i32_w]
                          rfl
                        refine pure_ (i := 3) (N := some 80) (v := ?_) (a' := ?_) #[true, true, true, true, true, true, false, false, true, true, false, false, false] rfl rfl (any_of HT_.out (by kernel_rfl)) (fun _ _ _ h => h) (Or.inl ⟨by rfl, ?_⟩) ?_ ?_
                        rotate_left
                        · intro w'
                          go_simp
                          with_reducible rfl
                        rotate_left
                        · simp only [Act.put, List.setIfInBounds_toArray, List.set_cons_zero, List.set_cons_succ, i64_w, i32_w]
                          rfl
                        refine take_ (i := 6) (N := some 83) (v := ?_) (a' := ?_) #[true, true, true, true, true, true, true, false, true, true, false, false, false] rfl rfl (take_ofW HT_.out HW_.out (by kernel_rfl)) (fun _ _ _ h => h) (Or.inl ⟨by rfl, ?_⟩) hHeld ?_ ?_
                        rotate_left
                        · rintro w' ⟨s0, s1⟩
                          go_simp
                          with_reducible rfl
                        rotate_left
                        · simp only [Act.put, List.setIfInBounds_toArray, List.set_cons_zero, List.set_cons_succ, i64_w, i32_w]
                          rfl
                        refine pure_ (i := 7) (N := some 84) (v := ?_) (a' := ?_) #[true, true, true, true, true, true, true, true, true, true, false, false, false] rfl rfl (any_of HT_.out (by kernel_rfl)) (fun _ _ _ h => h) (Or.inl ⟨by rfl, ?_⟩) ?_ ?_
                        rotate_left
                        · intro w'
                          go_simp
                          with_reducible rfl
                        rotate_left
                        · simp only [Act.put, List.setIfInBounds_toArray, List.set_cons_zero, List.set_cons_succ, i64_w, i32_w]
                          rfl
                        refine pure_ (i := 10) (N := some 87) (v := ?_) (a' := ?_) #[true, true, true, true, true, true, true, true, true, true, true, false, false] rfl rfl (any_of HT_.out (by kernel_rfl)) (fun _ _ _ h => h) (Or.inl ⟨by rfl, ?_⟩) ?_ ?_
                        rotate_left
                        · intro w'
                          go_simp
                          with_reducible rfl
                        rotate_left
                        · simp only [Act.put, List.setIfInBounds_toArray, List.set_cons_zero, List.set_cons_succ, i64_w, i32_w]
                          rfl
                        refine one_ (i := 11) (N := some 9) #[true, true, true, true, true, true, true, true, true, true, true, true, false] rfl rfl (one_of HT_.out (by kernel_rfl)) (by decide) (fun K hK => ?_)
                        refine box_step ?hg (N := 9) ?hd (cs := #[.bool false, .bool false, .int .i64 0, .int .u64 0, .slice none 0 0]) (t := 31) ?hr ?_; (case hd => rfl); (case hg => rfl); (case hr => first | (go_simp; done) | (go_simp; rfl))
                        intro gb203 hg w37 hbox hb
                        have HS0_ := (hb.cell (World.block_lt_of_cell? _ _ (hHeld.1))).trans (hHeld.1)
                        have HS1_ := (hb.cell (World.block_lt_of_cell? _ _ (hHeld.2))).trans (hHeld.2)
                        have n0_ := Aside0.mk (Kd.R_below (by (with_reducible repeat (first | apply Kd.R_alloc | apply Kd.R_drewN | apply Kd.R_drew)); exact HO_4.out) hb)
                        have n1_ := Aside0.mk (blk_below (g := gb185) (o := .cells #[.bool false, .bool false, .int .i64 0, .int .u64 0, .slice none 0 0] 31 (0, 0)) (by (with_reducible repeat (first | refine blk_drewN ?_ _ | refine blk_drew ?_ | refine blk_alloc ?_ _)); exact BK185.out) hb)
                        have n2_ := Aside0.mk (below_step (by repeat (first | (with_reducible first | exact HB.out | apply below_alloc | apply pw_below_drewN | apply below_drew1 | refine below_set ?_ GE185.out) | exact HB.out)) hb)
                        have n3_ := Aside0.mk (hbox)
                        have n4_ := Aside0.mk ((by rw [hg]; exact (below_size (by repeat (first | (with_reducible first | exact HB.out | apply below_alloc | apply pw_below_drewN | apply below_drew1 | refine below_set ?_ GE185.out) | exact HB.out))) : w.heap.size ≤ gb203))
                        have n5_ := Aside0.mk ((by rw [hg]; exact (below_size (by repeat (first | (with_reducible first | exact HB.out | apply below_alloc | apply pw_below_drewN | apply below_drew1 | refine below_set ?_ GE185.out) | exact HB.out))) : w.heap.size ≤ gb203))
                        have n6_ := Aside0.mk ((by rw [hg]; exact Nat.ne_of_lt (blk_lt (g := gb185) (o := .cells #[.bool false, .bool false, .int .i64 0, .int .u64 0, .slice none 0 0] 31 (0, 0)) (by (with_reducible repeat (first | refine blk_drewN ?_ _ | refine blk_drew ?_ | refine blk_alloc ?_ _)); exact BK185.out)) : gb185 ≠ gb203))
                        have n7_ := Aside0.mk ((by rw [hg]; exact Nat.ne_of_gt (blk_lt (g := gb185) (o := .cells #[.bool false, .bool false, .int .i64 0, .int .u64 0, .slice none 0 0] 31 (0, 0)) (by (with_reducible repeat (first | refine blk_drewN ?_ _ | refine blk_drew ?_ | refine blk_alloc ?_ _)); exact BK185.out)) : gb203 ≠ gb185))
                        clear HO_4
                        clear BK185
                        clear HB
                        have HO_4 := n0_
                        have BK185 := n1_
                        have HB := n2_
                        have BK203 := n3_
                        have GW203 := n4_
                        have GE203 := n5_
                        have NB185_203 := n6_
                        have NB203_185 := n7_
                        clear n0_ n1_ n2_ n3_ n4_ n5_ n6_ n7_
                        clear hb hbox hg
                        refine hK.out _ _ ⟨HS0_, HS1_⟩ (fun hHeld => ?_)
                        clear hK K
                        refine norm_ (a' := ?_) ?_ ?_
                        rotate_left
                        · show Act.put _ (some 9) _ = _
                          simp only [Act.put, List.setIfInBounds_toArray, List.set_cons_zero, List.set_cons_succ, i64_w, i32_w]
                          rfl
                        refine one_ (i := 12) (N := none) #[true, true, true, true, true, true, true, true, true, true, true, true, true] rfl rfl (one_of HT_.out (by kernel_rfl)) (by decide) (fun K hK => ?_)
                        have hs38 : w37.cell? ⟨gb203, 0, none⟩ = some (.bool false) := (blk_cell BK203.out 0).trans rfl
                        have hfs38 := blk_frozen BK203.out 0
                        have hns38_0 := NB185_203.out
                        have hms38_0 := NB203_185.out
                        have hs39 : w37.cell? ⟨gb203, 1, none⟩ = some (.bool false) := (blk_cell BK203.out 1).trans rfl
                        have hfs39 := blk_frozen BK203.out 1
                        have hns39_0 := NB185_203.out
                        have hms39_0 := NB203_185.out
                        have hs40 : w37.cell? ⟨gb203, 2, none⟩ = some (.int .i64 0) := (blk_cell BK203.out 2).trans rfl
                        have hfs40 := blk_frozen BK203.out 2
                        have hns40_0 := NB185_203.out
                        have hms40_0 := NB203_185.out
                        have hs41 : w37.cell? ⟨gb203, 3, none⟩ = some (.int .u64 0) := (blk_cell BK203.out 3).trans rfl
                        have hfs41 := blk_frozen BK203.out 3
                        have hns41_0 := NB185_203.out
                        have hms41_0 := NB203_185.out
                        have hs42 : w37.cell? ⟨gb203, 4, none⟩ = some (.slice none 0 0) := (blk_cell BK203.out 4).trans rfl
                        have hfs42 := blk_frozen BK203.out 4
                        have hns42_0 := NB185_203.out
                        have hms42_0 := NB203_185.out
                        refine skip_ (w1 := ?_) (by rfl) rfl ?_ ?_
                        rotate_left
                        · go_simp
                          rfl
                        refine hK.out _ _ ⟨((cell_far (p := ⟨gb203, _, none⟩) (by first | exact Kd.own_blk (Kd.R_ne HO_4.out BK203.out (by decide)) | (rw [add_block]; exact Kd.own_blk (Kd.R_ne HO_4.out BK203.out (by decide))) | (show (Addr.add _ _).block ≠ _; rw [add_block]; exact Kd.own_blk (Kd.R_ne HO_4.out BK203.out (by decide))) | (dsimp only; exact Kd.own_blk (Kd.R_ne HO_4.out BK203.out (by decide)))) _).trans (((cell_far (p := ⟨gb203, _, none⟩) (by first | exact Kd.own_blk (Kd.R_ne HO_4.out BK203.out (by decide)) | (rw [add_block]; exact Kd.own_blk (Kd.R_ne HO_4.out BK203.out (by decide))) | (show (Addr.add _ _).block ≠ _; rw [add_block]; exact Kd.own_blk (Kd.R_ne HO_4.out BK203.out (by decide))) | (dsimp only; exact Kd.own_blk (Kd.R_ne HO_4.out BK203.out (by decide)))) _).trans (((cell_far (p := ⟨gb203, _, none⟩) (by first | exact Kd.own_blk (Kd.R_ne HO_4.out BK203.out (by decide)) | (rw [add_block]; exact Kd.own_blk (Kd.R_ne HO_4.out BK203.out (by decide))) | (show (Addr.add _ _).block ≠ _; rw [add_block]; exact Kd.own_blk (Kd.R_ne HO_4.out BK203.out (by decide))) | (dsimp only; exact Kd.own_blk (Kd.R_ne HO_4.out BK203.out (by decide)))) _).trans (((cell_far (p := ⟨gb203, _, none⟩) (by first | exact Kd.own_blk (Kd.R_ne HO_4.out BK203.out (by decide)) | (rw [add_block]; exact Kd.own_blk (Kd.R_ne HO_4.out BK203.out (by decide))) | (show (Addr.add _ _).block ≠ _; rw [add_block]; exact Kd.own_blk (Kd.R_ne HO_4.out BK203.out (by decide))) | (dsimp only; exact Kd.own_blk (Kd.R_ne HO_4.out BK203.out (by decide)))) _).trans (((cell_far (p := ⟨gb203, _, none⟩) (by first | exact Kd.own_blk (Kd.R_ne HO_4.out BK203.out (by decide)) | (rw [add_block]; exact Kd.own_blk (Kd.R_ne HO_4.out BK203.out (by decide))) | (show (Addr.add _ _).block ≠ _; rw [add_block]; exact Kd.own_blk (Kd.R_ne HO_4.out BK203.out (by decide))) | (dsimp only; exact Kd.own_blk (Kd.R_ne HO_4.out BK203.out (by decide)))) _).trans (hHeld.1)))))))))), ((cell_far (p := ⟨gb203, _, none⟩) (by first | exact Kd.own_blk (Kd.R_ne HO_4.out BK203.out (by decide)) | (rw [add_block]; exact Kd.own_blk (Kd.R_ne HO_4.out BK203.out (by decide))) | (show (Addr.add _ _).block ≠ _; rw [add_block]; exact Kd.own_blk (Kd.R_ne HO_4.out BK203.out (by decide))) | (dsimp only; exact Kd.own_blk (Kd.R_ne HO_4.out BK203.out (by decide)))) _).trans (((cell_far (p := ⟨gb203, _, none⟩) (by first | exact Kd.own_blk (Kd.R_ne HO_4.out BK203.out (by decide)) | (rw [add_block]; exact Kd.own_blk (Kd.R_ne HO_4.out BK203.out (by decide))) | (show (Addr.add _ _).block ≠ _; rw [add_block]; exact Kd.own_blk (Kd.R_ne HO_4.out BK203.out (by decide))) | (dsimp only; exact Kd.own_blk (Kd.R_ne HO_4.out BK203.out (by decide)))) _).trans (((cell_far (p := ⟨gb203, _, none⟩) (by first | exact Kd.own_blk (Kd.R_ne HO_4.out BK203.out (by decide)) | (rw [add_block]; exact Kd.own_blk (Kd.R_ne HO_4.out BK203.out (by decide))) | (show (Addr.add _ _).block ≠ _; rw [add_block]; exact Kd.own_blk (Kd.R_ne HO_4.out BK203.out (by decide))) | (dsimp only; exact Kd.own_blk (Kd.R_ne HO_4.out BK203.out (by decide)))) _).trans (((cell_far (p := ⟨gb203, _, none⟩) (by first | exact Kd.own_blk (Kd.R_ne HO_4.out BK203.out (by decide)) | (rw [add_block]; exact Kd.own_blk (Kd.R_ne HO_4.out BK203.out (by decide))) | (show (Addr.add _ _).block ≠ _; rw [add_block]; exact Kd.own_blk (Kd.R_ne HO_4.out BK203.out (by decide))) | (dsimp only; exact Kd.own_blk (Kd.R_ne HO_4.out BK203.out (by decide)))) _).trans (((cell_far (p := ⟨gb203, _, none⟩) (by first | exact Kd.own_blk (Kd.R_ne HO_4.out BK203.out (by decide)) | (rw [add_block]; exact Kd.own_blk (Kd.R_ne HO_4.out BK203.out (by decide))) | (show (Addr.add _ _).block ≠ _; rw [add_block]; exact Kd.own_blk (Kd.R_ne HO_4.out BK203.out (by decide))) | (dsimp only; exact Kd.own_blk (Kd.R_ne HO_4.out BK203.out (by decide)))) _).trans (hHeld.2))))))))))⟩ (fun hHeld => ?_)
                        clear hK K
                        refine done_ (done_of HT_.out (by kernel_rfl)) ?_
                        try go_wp2
                        go_loopg [10] kj28 (fun kq v10 w' => ∃ (x10_3 : Int) (x186000_3 : Bool) (x186001_3 : Bool) (x186002_3 : Int) (x186003_3 : Int) (x204004_3 : List (S45)) (u204004 : Value), v10 = .int .i64 x10_3 ∧ Aside0 (paternosterref24_Parse.l0 kq t186 x10_3 ((rdOf ByteArray.empty t186 0).toList == ([109, 97, 105, 110, 115] : List UInt8)) ((rdOf ByteArray.empty t186 1).toList == ([103, 101, 110] : List UInt8)) t196 t199 x204004_3 = some (r1, r2, r3, r4, r5, r6)) ∧ Aside0 (kq ≤ kj28) ∧ Aside0 (Kd.R Kd.string 9 w' w.heap.size (fun _ => True) (.slice (some ad195) t186.length co30) t186) ∧ Aside0 (Kd.R k45 45 w' w.heap.size (fun _ => True) u204004 x204004_3) ∧ Aside0 (w'.heap[gb185]? = some (.cells #[.bool x186000_3, .bool x186001_3, .int .i64 x186002_3, .int .u64 x186003_3, (.slice none 0 0)] 31 (0, 0))) ∧ Aside0 (w'.heap[gb203]? = some (.cells #[.bool ((rdOf ByteArray.empty t186 0).toList == ([109, 97, 105, 110, 115] : List UInt8)), .bool ((rdOf ByteArray.empty t186 1).toList == ([103, 101, 110] : List UInt8)), .int .i64 t196, .int .u64 t199, u204004] 31 (0, 0))) ∧ Aside0 (Below w.heap.size w w'))
                        case atStart => exact ⟨(4), (false), (false), (0), (0), (([] : List (S45))), (.slice none 0 0), (by first | rfl | (simp; done) | (simp [*]; done)), H', ⟨Nat.le_refl _⟩, ⟨by (with_reducible repeat (first | apply Kd.R_alloc | apply Kd.R_drewN | apply Kd.R_drew)); exact Kd.R_mono (Kd.R_far (p := ⟨gb203, 4, none⟩) (Kd.R_far (p := ⟨gb203, 3, none⟩) (Kd.R_far (p := ⟨gb203, 2, none⟩) (Kd.R_far (p := ⟨gb203, 1, none⟩) (Kd.R_far (p := ⟨gb203, 0, none⟩) (Kd.R_types HO_4.out BK203.out (by decide)) (fun _ hk => hk.2) (.bool ((rdOf ByteArray.empty t186 0).toList == ([109, 97, 105, 110, 115] : List UInt8)))) (fun _ hk => hk.2) (.bool ((rdOf ByteArray.empty t186 1).toList == ([103, 101, 110] : List UInt8)))) (fun _ hk => hk.2) (.int .i64 t196)) (fun _ hk => hk.2) (.int .u64 t199)) (fun _ hk => hk.2) (.slice none 0 0)) (fun _ hk => trivial)⟩, ⟨by first | exact Kd.R_nil _ _ _ _ _ | exact Kd.N_nil _ _ _ _ _ | exact Kd.V_nil _ _ _ _ _ | exact Kd.Q_nil _ _ _ _ _ | exact Kd.S_nil _ _ _ _ _⟩, ⟨by (with_reducible repeat (first | refine blk_drewN ?_ _ | refine blk_drew ?_ | refine blk_alloc ?_ _)); refine blk_far ?_ NB185_203.out _; (with_reducible repeat (first | refine blk_drewN ?_ _ | refine blk_drew ?_ | refine blk_alloc ?_ _)); refine blk_far ?_ NB185_203.out _; (with_reducible repeat (first | refine blk_drewN ?_ _ | refine blk_drew ?_ | refine blk_alloc ?_ _)); refine blk_far ?_ NB185_203.out _; (with_reducible repeat (first | refine blk_drewN ?_ _ | refine blk_drew ?_ | refine blk_alloc ?_ _)); refine blk_far ?_ NB185_203.out _; (with_reducible repeat (first | refine blk_drewN ?_ _ | refine blk_drew ?_ | refine blk_alloc ?_ _)); refine blk_far ?_ NB185_203.out _; (with_reducible repeat (first | refine blk_drewN ?_ _ | refine blk_drew ?_ | refine blk_alloc ?_ _)); exact BK185.out⟩, ⟨by (with_reducible repeat (first | refine blk_drewN ?_ _ | refine blk_drew ?_ | refine blk_alloc ?_ _)); refine blk_put (cs := #[.bool ((rdOf ByteArray.empty t186 0).toList == ([109, 97, 105, 110, 115] : List UInt8)), .bool ((rdOf ByteArray.empty t186 1).toList == ([103, 101, 110] : List UInt8)), .int .i64 t196, .int .u64 t199, .slice none 0 0]) ?_ 4 _ rfl; (with_reducible repeat (first | refine blk_drewN ?_ _ | refine blk_drew ?_ | refine blk_alloc ?_ _)); refine blk_put (cs := #[.bool ((rdOf ByteArray.empty t186 0).toList == ([109, 97, 105, 110, 115] : List UInt8)), .bool ((rdOf ByteArray.empty t186 1).toList == ([103, 101, 110] : List UInt8)), .int .i64 t196, .int .u64 0, .slice none 0 0]) ?_ 3 _ rfl; (with_reducible repeat (first | refine blk_drewN ?_ _ | refine blk_drew ?_ | refine blk_alloc ?_ _)); refine blk_put (cs := #[.bool ((rdOf ByteArray.empty t186 0).toList == ([109, 97, 105, 110, 115] : List UInt8)), .bool ((rdOf ByteArray.empty t186 1).toList == ([103, 101, 110] : List UInt8)), .int .i64 0, .int .u64 0, .slice none 0 0]) ?_ 2 _ rfl; (with_reducible repeat (first | refine blk_drewN ?_ _ | refine blk_drew ?_ | refine blk_alloc ?_ _)); refine blk_put (cs := #[.bool ((rdOf ByteArray.empty t186 0).toList == ([109, 97, 105, 110, 115] : List UInt8)), .bool false, .int .i64 0, .int .u64 0, .slice none 0 0]) ?_ 1 _ rfl; (with_reducible repeat (first | refine blk_drewN ?_ _ | refine blk_drew ?_ | refine blk_alloc ?_ _)); refine blk_put (cs := #[.bool false, .bool false, .int .i64 0, .int .u64 0, .slice none 0 0]) ?_ 0 _ rfl; (with_reducible repeat (first | refine blk_drewN ?_ _ | refine blk_drew ?_ | refine blk_alloc ?_ _)); exact BK203.out⟩, ⟨by repeat (first | (with_reducible first | exact HB.out | apply below_alloc | apply pw_below_drewN | apply below_drew1 | refine below_set ?_ GE185.out | refine below_set ?_ GE203.out) | exact HB.out)⟩⟩
                        case round =>
                          clear H'
                          try clear c1
                          try clear p1
                          try clear q1
                          try clear hx1
                          try clear qi1
                          try clear c2
                          try clear c2b0
                          try clear c2b1
                          try clear p2
                          try clear q2
                          try clear hx2
                          try clear qi2
                          try clear c3
                          try clear c9
                          try clear c9b0
                          try clear c9b1
                          try clear c11
                          try clear c11b0
                          try clear c11b1
                          try clear c12
                          try clear c12b0
                          try clear c12b1
                          try clear c13
                          try clear c13b0
                          try clear c13b1
                          try clear c14
                          try clear c14b0
                          try clear c14b1
                          try clear c17
                          try clear c17b0
                          try clear c17b1
                          try clear c18
                          try clear c18b0
                          try clear c18b1
                          try clear p18
                          try clear q18
                          try clear hx18
                          try clear qi18
                          try clear c19
                          try clear c19b0
                          try clear c19b1
                          try clear p19
                          try clear q19
                          try clear hx19
                          try clear qi19
                          try clear p20
                          try clear q20
                          try clear hx20
                          try clear qi20
                          try clear c23
                          try clear c25
                          try clear c25b0
                          try clear c25b1
                          try clear c27
                          try clear c27b0
                          try clear c27b1
                          try clear c29
                          try clear c30
                          try clear c31
                          try clear c32
                          try clear c34
                          try clear c34b0
                          try clear c34b1
                          try clear c35
                          try clear c35b0
                          try clear c35b1
                          try clear hcz24_0
                          try clear hcz24_1
                          try clear hcz24_2
                          try clear hcz24_3
                          try clear hcz24_4
                          try clear hcz33_0
                          try clear hcz33_1
                          try clear hcz33_2
                          try clear hcz33_3
                          try clear hcz33_4
                          try clear hcz4_0
                          try clear hcz4_1
                          try clear hcz4_2
                          try clear hcz4_3
                          try clear hcz4_4
                          try clear hfz24_0
                          try clear hfz24_1
                          try clear hfz24_2
                          try clear hfz24_3
                          try clear hfz24_4
                          try clear hfz33_0
                          try clear hfz33_1
                          try clear hfz33_2
                          try clear hfz33_3
                          try clear hfz33_4
                          try clear hfz4_0
                          try clear hfz4_1
                          try clear hfz4_2
                          try clear hfz4_3
                          try clear hfz4_4
                          try clear hx189_0
                          try clear hx190_0
                          try clear hx191_0
                          try clear hx192_0
                          try clear hx193_0
                          try clear hx194_0
                          try clear hx195_0
                          try clear hx198_0
                          try clear hx201_0
                          try clear hx202_0
                          try clear p1
                          try clear p18
                          try clear p189
                          try clear p19
                          try clear p190
                          try clear p191
                          try clear p192
                          try clear p193
                          try clear p194
                          try clear p195
                          try clear p198
                          try clear p2
                          try clear p201
                          try clear p202
                          try clear q1
                          try clear q18
                          try clear q189
                          try clear q19
                          try clear q190
                          try clear q191
                          try clear q192
                          try clear q193
                          try clear q194
                          try clear q195
                          try clear q198
                          try clear q201
                          try clear q202
                          obtain ⟨x10_3, x186000_3, x186001_3, x186002_3, x186003_3, x204004_3, u204004, rfl, HA, HK3, HO_4, HO_204004, BK185, BK203, HB⟩ := hrel
                          cases gk with
                          | zero => exact absurd HA.out (by simp [paternosterref24_Parse.l0])
                          | succ k3 =>
                            have H := HA.out
                            clear HA
                            simp only [paternosterref24_Parse.l0] at H
                            by_cases c43 : x10_3 < (t186.length : Int)
                            · rw [if_pos c43] at H
                              have c43b0 : decide (x10_3 < (t186.length : Int)) = true := decide_eq_true c43
                              clear c43
                              have H' := Aside0.mk H
                              clear H
                              go_wp2_with (first | ((with_reducible refine gate_dst (N := 11) rfl ?_); refine box_event ?hg (N := 11) ?hd (cs := #[.int .i64 0, .int .i64 0, .int .i64 0]) (t := 45) ?hr ?_; (case hd => rfl); (case hg => rfl); (case hr => first | (go_simp; done) | (go_simp; rfl)); intro gb204 hg w44 hbox hb; have n0_ := Aside0.mk (Kd.R_below (by (with_reducible repeat (first | apply Kd.R_alloc | apply Kd.R_drewN | apply Kd.R_drew)); exact HO_4.out) hb); have n1_ := Aside0.mk (Kd.R_below (Kd.R_elderB (by (with_reducible repeat (first | apply Kd.R_alloc | apply Kd.R_drewN | apply Kd.R_drew)); exact HO_204004.out) gb204 (Nat.le_of_eq hg.symm)) hb); have n2_ := Aside0.mk (blk_below (g := gb185) (o := .cells #[.bool x186000_3, .bool x186001_3, .int .i64 x186002_3, .int .u64 x186003_3, .slice none 0 0] 31 (0, 0)) (by (with_reducible repeat (first | refine blk_drewN ?_ _ | refine blk_drew ?_ | refine blk_alloc ?_ _)); exact BK185.out) hb); have n3_ := Aside0.mk (blk_below (g := gb203) (o := .cells #[.bool ((rdOf ByteArray.empty t186 0).toList == ([109, 97, 105, 110, 115] : List UInt8)), .bool ((rdOf ByteArray.empty t186 1).toList == ([103, 101, 110] : List UInt8)), .int .i64 t196, .int .u64 t199, u204004] 31 (0, 0)) (by (with_reducible repeat (first | refine blk_drewN ?_ _ | refine blk_drew ?_ | refine blk_alloc ?_ _)); exact BK203.out) hb); have n4_ := Aside0.mk (below_step (by repeat (first | (with_reducible first | exact HB.out | apply below_alloc | apply pw_below_drewN | apply below_drew1 | refine below_set ?_ GE185.out | refine below_set ?_ GE203.out) | exact HB.out)) hb); have n5_ := Aside0.mk (hbox); have n6_ := Aside0.mk ((by rw [hg]; exact (below_size (by repeat (first | (with_reducible first | exact HB.out | apply below_alloc | apply pw_below_drewN | apply below_drew1 | refine below_set ?_ GE185.out | refine below_set ?_ GE203.out) | exact HB.out))) : w.heap.size ≤ gb204)); have n7_ := Aside0.mk ((by rw [hg]; exact (below_size (by repeat (first | (with_reducible first | exact HB.out | apply below_alloc | apply pw_below_drewN | apply below_drew1 | refine below_set ?_ GE185.out | refine below_set ?_ GE203.out) | exact HB.out))) : w.heap.size ≤ gb204)); have n8_ := Aside0.mk ((by rw [hg]; exact Nat.ne_of_lt (blk_lt (g := gb185) (o := .cells #[.bool x186000_3, .bool x186001_3, .int .i64 x186002_3, .int .u64 x186003_3, .slice none 0 0] 31 (0, 0)) (by (with_reducible repeat (first | refine blk_drewN ?_ _ | refine blk_drew ?_ | refine blk_alloc ?_ _)); exact BK185.out)) : gb185 ≠ gb204)); have n9_ := Aside0.mk ((by rw [hg]; exact Nat.ne_of_gt (blk_lt (g := gb185) (o := .cells #[.bool x186000_3, .bool x186001_3, .int .i64 x186002_3, .int .u64 x186003_3, .slice none 0 0] 31 (0, 0)) (by (with_reducible repeat (first | refine blk_drewN ?_ _ | refine blk_drew ?_ | refine blk_alloc ?_ _)); exact BK185.out)) : gb204 ≠ gb185)); have n10_ := Aside0.mk ((by rw [hg]; exact Nat.ne_of_lt (blk_lt (g := gb203) (o := .cells #[.bool ((rdOf ByteArray.empty t186 0).toList == ([109, 97, 105, 110, 115] : List UInt8)), .bool ((rdOf ByteArray.empty t186 1).toList == ([103, 101, 110] : List UInt8)), .int .i64 t196, .int .u64 t199, u204004] 31 (0, 0)) (by (with_reducible repeat (first | refine blk_drewN ?_ _ | refine blk_drew ?_ | refine blk_alloc ?_ _)); exact BK203.out)) : gb203 ≠ gb204)); have n11_ := Aside0.mk ((by rw [hg]; exact Nat.ne_of_gt (blk_lt (g := gb203) (o := .cells #[.bool ((rdOf ByteArray.empty t186 0).toList == ([109, 97, 105, 110, 115] : List UInt8)), .bool ((rdOf ByteArray.empty t186 1).toList == ([103, 101, 110] : List UInt8)), .int .i64 t196, .int .u64 t199, u204004] 31 (0, 0)) (by (with_reducible repeat (first | refine blk_drewN ?_ _ | refine blk_drew ?_ | refine blk_alloc ?_ _)); exact BK203.out)) : gb204 ≠ gb203)); clear HO_4; clear HO_204004; clear BK185; clear BK203; clear HB; have HO_4 := n0_; have HO_204004 := n1_; have BK185 := n2_; have BK203 := n3_; have HB := n4_; have BK204 := n5_; have GW204 := n6_; have GE204 := n7_; have NB185_204 := n8_; have NB204_185 := n9_; have NB203_204 := n10_; have NB204_203 := n11_; clear n0_ n1_ n2_ n3_ n4_ n5_ n6_ n7_ n8_ n9_ n10_ n11_; clear hb hbox hg; have hnb45 := NB204_185.out; have hnc45 := NB185_204.out; have hnb46 := NB204_203.out; have hnc46 := NB203_204.out; have hcz47_0 : w44.cell? ⟨gb204, 0, none⟩ = some (.int .i64 0) := (blk_cell BK204.out 0).trans rfl; have hcz47_1 : w44.cell? ⟨gb204, 1, none⟩ = some (.int .i64 0) := (blk_cell BK204.out 1).trans rfl; have hcz47_2 : w44.cell? ⟨gb204, 2, none⟩ = some (.int .i64 0) := (blk_cell BK204.out 2).trans rfl; have hfz47_0 := blk_frozen BK204.out 0; have hfz47_1 := blk_frozen BK204.out 1; have hfz47_2 := blk_frozen BK204.out 2))
                              go_loopg [12, 13, 14] k3 (fun kq v12 v13 v14 w' => ∃ (x12_4 : Bool) (x13_4 : Bool) (x14_4 : Int) (x205000_4 : Int), v12 = .bool x12_4 ∧ v13 = .bool x13_4 ∧ v14 = .int .i64 x14_4 ∧ Aside0 (paternosterref24_Parse.l1 kq t186 x10_3 x12_4 x13_4 x14_4 ((rdOf ByteArray.empty t186 0).toList == ([109, 97, 105, 110, 115] : List UInt8)) ((rdOf ByteArray.empty t186 1).toList == ([103, 101, 110] : List UInt8)) t196 t199 x204004_3 x205000_4 0 0 = some (r1, r2, r3, r4, r5, r6)) ∧ Aside0 (kq ≤ k3) ∧ Aside0 (Kd.R Kd.string 9 w' w.heap.size (fun _ => True) (.slice (some ad195) t186.length co30) t186) ∧ Aside0 (Kd.R k45 45 w' w.heap.size (fun k_ => k_ ≠ gb204) u204004 x204004_3) ∧ Aside0 (w'.heap[gb185]? = some (.cells #[.bool x186000_3, .bool x186001_3, .int .i64 x186002_3, .int .u64 x186003_3, (.slice none 0 0)] 31 (0, 0))) ∧ Aside0 (w'.heap[gb203]? = some (.cells #[.bool ((rdOf ByteArray.empty t186 0).toList == ([109, 97, 105, 110, 115] : List UInt8)), .bool ((rdOf ByteArray.empty t186 1).toList == ([103, 101, 110] : List UInt8)), .int .i64 t196, .int .u64 t199, u204004] 31 (0, 0))) ∧ Aside0 (w'.heap[gb204]? = some (.cells #[.int .i64 x205000_4, .int .i64 0, .int .i64 0] 45 (0, 0))) ∧ Aside0 (Below w.heap.size w w'))
                              case atStart => exact ⟨(false), (false), (0), ((-1)), (by first | rfl | (simp; done) | (simp [*]; done)), (by first | rfl | (simp; done) | (simp [*]; done)), (by first | rfl | (simp; done) | (simp [*]; done)), H', ⟨Nat.le_refl _⟩, ⟨by (with_reducible repeat (first | apply Kd.R_alloc | apply Kd.R_drewN | apply Kd.R_drew)); exact Kd.R_mono (Kd.R_far (p := ⟨gb204, 2, none⟩) (Kd.R_far (p := ⟨gb204, 1, none⟩) (Kd.R_far (p := ⟨gb204, 0, none⟩) (Kd.R_types HO_4.out BK204.out (by decide)) (fun _ hk => hk.2) (.int .i64 (-1))) (fun _ hk => hk.2) (.int .i64 0)) (fun _ hk => hk.2) (.int .i64 0)) (fun _ hk => trivial)⟩, ⟨by (with_reducible repeat (first | apply Kd.R_alloc | apply Kd.R_drewN | apply Kd.R_drew)); exact Kd.R_mono (Kd.R_far (p := ⟨gb204, 2, none⟩) (Kd.R_far (p := ⟨gb204, 1, none⟩) (Kd.R_far (p := ⟨gb204, 0, none⟩) (Kd.R_mono HO_204004.out (fun k_ hk => (⟨hk, hk.2⟩ : _ ∧ k_ ≠ gb204))) (fun _ hk => hk.2) (.int .i64 (-1))) (fun _ hk => hk.2) (.int .i64 0)) (fun _ hk => hk.2) (.int .i64 0)) (fun _ hk => hk.1.2)⟩, ⟨by (with_reducible repeat (first | refine blk_drewN ?_ _ | refine blk_drew ?_ | refine blk_alloc ?_ _)); refine blk_far ?_ NB185_204.out _; (with_reducible repeat (first | refine blk_drewN ?_ _ | refine blk_drew ?_ | refine blk_alloc ?_ _)); refine blk_far ?_ NB185_204.out _; (with_reducible repeat (first | refine blk_drewN ?_ _ | refine blk_drew ?_ | refine blk_alloc ?_ _)); refine blk_far ?_ NB185_204.out _; (with_reducible repeat (first | refine blk_drewN ?_ _ | refine blk_drew ?_ | refine blk_alloc ?_ _)); exact BK185.out⟩, ⟨by (with_reducible repeat (first | refine blk_drewN ?_ _ | refine blk_drew ?_ | refine blk_alloc ?_ _)); refine blk_far ?_ NB203_204.out _; (with_reducible repeat (first | refine blk_drewN ?_ _ | refine blk_drew ?_ | refine blk_alloc ?_ _)); refine blk_far ?_ NB203_204.out _; (with_reducible repeat (first | refine blk_drewN ?_ _ | refine blk_drew ?_ | refine blk_alloc ?_ _)); refine blk_far ?_ NB203_204.out _; (with_reducible repeat (first | refine blk_drewN ?_ _ | refine blk_drew ?_ | refine blk_alloc ?_ _)); exact BK203.out⟩, ⟨by (with_reducible repeat (first | refine blk_drewN ?_ _ | refine blk_drew ?_ | refine blk_alloc ?_ _)); refine blk_put (cs := #[.int .i64 (-1), .int .i64 0, .int .i64 0]) ?_ 2 _ rfl; (with_reducible repeat (first | refine blk_drewN ?_ _ | refine blk_drew ?_ | refine blk_alloc ?_ _)); refine blk_put (cs := #[.int .i64 (-1), .int .i64 0, .int .i64 0]) ?_ 1 _ rfl; (with_reducible repeat (first | refine blk_drewN ?_ _ | refine blk_drew ?_ | refine blk_alloc ?_ _)); refine blk_put (cs := #[.int .i64 0, .int .i64 0, .int .i64 0]) ?_ 0 _ rfl; (with_reducible repeat (first | refine blk_drewN ?_ _ | refine blk_drew ?_ | refine blk_alloc ?_ _)); exact BK204.out⟩, ⟨by repeat (first | (with_reducible first | exact HB.out | apply below_alloc | apply pw_below_drewN | apply below_drew1 | refine below_set ?_ GE185.out | refine below_set ?_ GE203.out | refine below_set ?_ GE204.out) | exact HB.out)⟩⟩
                              case round =>
                                clear H'
                                try clear c1
                                try clear p1
                                try clear q1
                                try clear hx1
                                try clear qi1
                                try clear c2
                                try clear c2b0
                                try clear c2b1
                                try clear p2
                                try clear q2
                                try clear hx2
                                try clear qi2
                                try clear c3
                                try clear c4
                                try clear c9
                                try clear c9b0
                                try clear c9b1
                                try clear c11
                                try clear c11b0
                                try clear c11b1
                                try clear c12
                                try clear c12b0
                                try clear c12b1
                                try clear c13
                                try clear c13b0
                                try clear c13b1
                                try clear c14
                                try clear c14b0
                                try clear c14b1
                                try clear c17
                                try clear c17b0
                                try clear c17b1
                                try clear c18
                                try clear c18b0
                                try clear c18b1
                                try clear p18
                                try clear q18
                                try clear hx18
                                try clear qi18
                                try clear c19
                                try clear c19b0
                                try clear c19b1
                                try clear p19
                                try clear q19
                                try clear hx19
                                try clear qi19
                                try clear p20
                                try clear q20
                                try clear hx20
                                try clear qi20
                                try clear c23
                                try clear c25
                                try clear c25b0
                                try clear c25b1
                                try clear c27
                                try clear c27b0
                                try clear c27b1
                                try clear c29
                                try clear c30
                                try clear c31
                                try clear c32
                                try clear c34
                                try clear c34b0
                                try clear c34b1
                                try clear c35
                                try clear c35b0
                                try clear c35b1
                                try clear c43
                                try clear c43b0
                                try clear c45
                                try clear c46
                                try clear hcz24_0
                                try clear hcz24_1
                                try clear hcz24_2
                                try clear hcz24_3
                                try clear hcz24_4
                                try clear hcz33_0
                                try clear hcz33_1
                                try clear hcz33_2
                                try clear hcz33_3
                                try clear hcz33_4
                                try clear hcz47_0
                                try clear hcz47_1
                                try clear hcz47_2
                                try clear hcz4_0
                                try clear hcz4_1
                                try clear hcz4_2
                                try clear hcz4_3
                                try clear hcz4_4
                                try clear hfz24_0
                                try clear hfz24_1
                                try clear hfz24_2
                                try clear hfz24_3
                                try clear hfz24_4
                                try clear hfz33_0
                                try clear hfz33_1
                                try clear hfz33_2
                                try clear hfz33_3
                                try clear hfz33_4
                                try clear hfz47_0
                                try clear hfz47_1
                                try clear hfz47_2
                                try clear hfz4_0
                                try clear hfz4_1
                                try clear hfz4_2
                                try clear hfz4_3
                                try clear hfz4_4
                                try clear hx189_0
                                try clear hx190_0
                                try clear hx191_0
                                try clear hx192_0
                                try clear hx193_0
                                try clear hx194_0
                                try clear hx195_0
                                try clear hx198_0
                                try clear hx201_0
                                try clear hx202_0
                                try clear p1
                                try clear p18
                                try clear p189
                                try clear p19
                                try clear p190
                                try clear p191
                                try clear p192
                                try clear p193
                                try clear p194
                                try clear p195
                                try clear p198
                                try clear p2
                                try clear p20
                                try clear p201
                                try clear p202
                                try clear q1
                                try clear q18
                                try clear q189
                                try clear q19
                                try clear q190
                                try clear q191
                                try clear q192
                                try clear q193
                                try clear q194
                                try clear q195
                                try clear q198
                                try clear q2
                                try clear q20
                                try clear q201
                                try clear q202
                                obtain ⟨x12_4, x13_4, x14_4, x205000_4, rfl, rfl, rfl, HA, HK4, HO_4, HO_204004, BK185, BK203, BK204, HB⟩ := hrel
                                cases gk with
                                | zero => exact absurd HA.out (by simp [paternosterref24_Parse.l1])
                                | succ k4 =>
                                  have H := HA.out
                                  clear HA
                                  simp only [paternosterref24_Parse.l1] at H
                                  by_cases c48 : x14_4 < 7
                                  · rw [if_pos c48] at H
                                    have c48b0 : decide (x14_4 < 7) = true := decide_eq_true c48
                                    clear c48
                                    replace H := Option.bind_eq_some_iff.mp H
                                    obtain ⟨⟨t205, t206, t207⟩, A490, H⟩ := H
                                    replace H : (if 0 ≤ x10_3 then (if x10_3 < (t186.length : Int) then (if t205.toList = (rdOf ByteArray.empty t186 x10_3).toList then (paternosterref24_Parse.l1 k4 t186 x10_3 t206 t207 (wrap64 (x14_4 + 1)) ((rdOf ByteArray.empty t186 0).toList == ([109, 97, 105, 110, 115] : List UInt8)) ((rdOf ByteArray.empty t186 1).toList == ([103, 101, 110] : List UInt8)) t196 t199 x204004_3 x14_4 0 0) else (paternosterref24_Parse.l1 k4 t186 x10_3 x12_4 x13_4 (wrap64 (x14_4 + 1)) ((rdOf ByteArray.empty t186 0).toList == ([109, 97, 105, 110, 115] : List UInt8)) ((rdOf ByteArray.empty t186 1).toList == ([103, 101, 110] : List UInt8)) t196 t199 x204004_3 x205000_4 0 0)) else (none)) else (none)) = some (r1, r2, r3, r4, r5, r6) := H
                                    have A49 := Aside0.mk A490
                                    clear A490
                                    by_cases c50 : 0 ≤ x10_3
                                    · rw [if_pos c50] at H
                                      have c50b0 : decide (0 ≤ x10_3) = true := decide_eq_true c50
                                      clear c50
                                      by_cases c51 : x10_3 < (t186.length : Int)
                                      · rw [if_pos c51] at H
                                        have c51b0 : decide (x10_3 < (t186.length : Int)) = true := decide_eq_true c51
                                        clear c51
                                        by_cases c52 : t205.toList = (rdOf ByteArray.empty t186 x10_3).toList
                                        · rw [if_pos c52] at H
                                          have c52b0 : (t205.toList == (rdOf ByteArray.empty t186 x10_3).toList) = true := beq_iff_eq.mpr c52
                                          have c52b1 : (t205.toList != (rdOf ByteArray.empty t186 x10_3).toList) = false := bne_eq_false_iff_eq.mpr c52
                                          clear c52
                                          have H' := Aside0.mk H
                                          clear H
                                          go_wp2_with (first | ((with_reducible refine gate_callee (f := 14) rfl ?_); refine goesL_ (some 99) rfl rfl Tryz.func14 (by kernel_rfl) rfl #[.int .i64 x14_4] rfl (by (try simp only [List.map_toArray, List.map_cons, List.map_nil]); first | done | rfl | (simp only [List.length_drop, List.length_take]; rfl)) ?_; (with_reducible refine (paternosterref24_Kind.calls x14_4 t205 t206 t207 _ A49.out).mono ?_); rintro e w' ⟨rfl, ⟨nd, rfl⟩⟩; refine ⟨_, rfl, ?_⟩; (try (rw [drewN_self wr]; generalize hq_ : World.drewN wr _ = wr; have n0_ : Aside0 (Kd.R k45 45 wr w.heap.size (fun k_ => k_ ≠ gb204) u204004 x204004_3) := ⟨by rw [← hq_]; exact (by (with_reducible repeat (first | apply Kd.R_alloc | apply Kd.R_drewN | apply Kd.R_drew)); exact HO_204004.out)⟩; have n1_ : Aside0 (Kd.R Kd.string 9 wr w.heap.size (fun _ => True) (.slice (some ad195) t186.length co30) t186) := ⟨by rw [← hq_]; exact (by (with_reducible repeat (first | apply Kd.R_alloc | apply Kd.R_drewN | apply Kd.R_drew)); exact HO_4.out)⟩; have n2_ : Aside0 (wr.heap[gb185]? = some (.cells #[.bool x186000_3, .bool x186001_3, .int .i64 x186002_3, .int .u64 x186003_3, .slice none 0 0] 31 (0, 0))) := ⟨by rw [← hq_]; exact (by (with_reducible repeat (first | refine blk_drewN ?_ _ | refine blk_drew ?_ | refine blk_alloc ?_ _)); exact BK185.out)⟩; have n3_ : Aside0 (wr.heap[gb203]? = some (.cells #[.bool ((rdOf ByteArray.empty t186 0).toList == ([109, 97, 105, 110, 115] : List UInt8)), .bool ((rdOf ByteArray.empty t186 1).toList == ([103, 101, 110] : List UInt8)), .int .i64 t196, .int .u64 t199, u204004] 31 (0, 0))) := ⟨by rw [← hq_]; exact (by (with_reducible repeat (first | refine blk_drewN ?_ _ | refine blk_drew ?_ | refine blk_alloc ?_ _)); exact BK203.out)⟩; have n4_ : Aside0 (wr.heap[gb204]? = some (.cells #[.int .i64 x205000_4, .int .i64 0, .int .i64 0] 45 (0, 0))) := ⟨by rw [← hq_]; exact (by (with_reducible repeat (first | refine blk_drewN ?_ _ | refine blk_drew ?_ | refine blk_alloc ?_ _)); exact BK204.out)⟩; have n5_ : Aside0 (Below w.heap.size w wr) := ⟨by rw [← hq_]; exact (by repeat (first | (with_reducible first | exact HB.out | apply below_alloc | apply pw_below_drewN | apply below_drew1 | refine below_set ?_ GE185.out | refine below_set ?_ GE203.out | refine below_set ?_ GE204.out) | exact HB.out))⟩; clear HO_204004 HO_4 BK185 BK203 BK204 HB hq_; have HO_204004 := n0_; have HO_4 := n1_; have BK185 := n2_; have BK203 := n3_; have BK204 := n4_; have HB := n5_; clear n0_ n1_ n2_ n3_ n4_ n5_)); have p208 : 0 ≤ (x10_3 : Int) := of_decide_eq_true (by first | (with_reducible assumption) | assumption); have q208 : x10_3 < (t186.length : Int) := of_decide_eq_true (by first | (with_reducible assumption) | assumption); obtain ⟨ad208, e208, hx208_0⟩ := Kd.at_string (Kd.R_reads' HO_4.out).2.2 x10_3 p208 q208; obtain rfl : ad195 = ad208 := (by injection e208); replace p208 := eq_true p208; replace q208 := eq_true q208; have hnb53 := NB204_185.out; have hnc53 := NB185_204.out; have hnb54 := NB204_203.out; have hnc54 := NB203_204.out; have hcz55_0 : wr.cell? ⟨gb204, 0, none⟩ = some (.int .i64 x205000_4) := (blk_cell BK204.out 0).trans rfl; have hcz55_1 : wr.cell? ⟨gb204, 1, none⟩ = some (.int .i64 0) := (blk_cell BK204.out 1).trans rfl; have hcz55_2 : wr.cell? ⟨gb204, 2, none⟩ = some (.int .i64 0) := (blk_cell BK204.out 2).trans rfl; have hfz55_0 := blk_frozen BK204.out 0; have hfz55_1 := blk_frozen BK204.out 1; have hfz55_2 := blk_frozen BK204.out 2))
                                          go_roundg k4
                                          case measure => have := HJ5.out; have := HJ28.out; have := HK3.out; have := HK4.out; omega
                                          case rel => exact ⟨(t206), (t207), (wrap64 (x14_4 + 1)), (x14_4), (by first | rfl | (simp; done) | (simp [*]; done)), (by first | rfl | (simp; done) | (simp [*]; done)), (by first | rfl | (simp; done) | (simp [*]; done)), H', ⟨by have := HJ5.out; have := HJ28.out; have := HK3.out; have := HK4.out; omega⟩, ⟨by (with_reducible repeat (first | apply Kd.R_alloc | apply Kd.R_drewN | apply Kd.R_drew)); exact Kd.R_mono (Kd.R_far (p := ⟨gb204, 0, none⟩) (Kd.R_types HO_4.out BK204.out (by decide)) (fun _ hk => hk.2) (.int .i64 x14_4)) (fun _ hk => trivial)⟩, ⟨by (with_reducible repeat (first | apply Kd.R_alloc | apply Kd.R_drewN | apply Kd.R_drew)); exact Kd.R_mono (Kd.R_far (p := ⟨gb204, 0, none⟩) (Kd.R_mono HO_204004.out (fun k_ hk => (⟨hk, hk⟩ : _ ∧ k_ ≠ gb204))) (fun _ hk => hk.2) (.int .i64 x14_4)) (fun _ hk => hk.1)⟩, ⟨by (with_reducible repeat (first | refine blk_drewN ?_ _ | refine blk_drew ?_ | refine blk_alloc ?_ _)); refine blk_far ?_ NB185_204.out _; (with_reducible repeat (first | refine blk_drewN ?_ _ | refine blk_drew ?_ | refine blk_alloc ?_ _)); exact BK185.out⟩, ⟨by (with_reducible repeat (first | refine blk_drewN ?_ _ | refine blk_drew ?_ | refine blk_alloc ?_ _)); refine blk_far ?_ NB203_204.out _; (with_reducible repeat (first | refine blk_drewN ?_ _ | refine blk_drew ?_ | refine blk_alloc ?_ _)); exact BK203.out⟩, ⟨by (with_reducible repeat (first | refine blk_drewN ?_ _ | refine blk_drew ?_ | refine blk_alloc ?_ _)); refine blk_put (cs := #[.int .i64 x205000_4, .int .i64 0, .int .i64 0]) ?_ 0 _ rfl; (with_reducible repeat (first | refine blk_drewN ?_ _ | refine blk_drew ?_ | refine blk_alloc ?_ _)); exact BK204.out⟩, ⟨by repeat (first | (with_reducible first | exact HB.out | apply below_alloc | apply pw_below_drewN | apply below_drew1 | refine below_set ?_ GE185.out | refine below_set ?_ GE203.out | refine below_set ?_ GE204.out) | exact HB.out)⟩⟩
                                        · rw [if_neg c52] at H
                                          have c52b0 : (t205.toList == (rdOf ByteArray.empty t186 x10_3).toList) = false := beq_eq_false_iff_ne.mpr c52
                                          have c52b1 : (t205.toList != (rdOf ByteArray.empty t186 x10_3).toList) = true := bne_iff_ne.mpr c52
                                          have H' := Aside0.mk H
                                          clear H
                                          go_wp2_with (first | ((with_reducible refine gate_callee (f := 14) rfl ?_); refine goesL_ (some 99) rfl rfl Tryz.func14 (by kernel_rfl) rfl #[.int .i64 x14_4] rfl (by (try simp only [List.map_toArray, List.map_cons, List.map_nil]); first | done | rfl | (simp only [List.length_drop, List.length_take]; rfl)) ?_; (with_reducible refine (paternosterref24_Kind.calls x14_4 t205 t206 t207 _ A49.out).mono ?_); rintro e w' ⟨rfl, ⟨nd, rfl⟩⟩; refine ⟨_, rfl, ?_⟩; have p208 : 0 ≤ (x10_3 : Int) := of_decide_eq_true (by first | (with_reducible assumption) | assumption); have q208 : x10_3 < (t186.length : Int) := of_decide_eq_true (by first | (with_reducible assumption) | assumption); obtain ⟨ad208, e208, hx208_0⟩ := Kd.at_string (Kd.R_reads' HO_4.out).2.2 x10_3 p208 q208; obtain rfl : ad195 = ad208 := (by injection e208); replace p208 := eq_true p208; replace q208 := eq_true q208))
                                          go_roundg k4
                                          case measure => have := HJ5.out; have := HJ28.out; have := HK3.out; have := HK4.out; omega
                                          case rel => exact ⟨(x12_4), (x13_4), (wrap64 (x14_4 + 1)), (x205000_4), (by first | rfl | (simp; done) | (simp [*]; done)), (by first | rfl | (simp; done) | (simp [*]; done)), (by first | rfl | (simp; done) | (simp [*]; done)), H', ⟨by have := HJ5.out; have := HJ28.out; have := HK3.out; have := HK4.out; omega⟩, ⟨by (with_reducible repeat (first | apply Kd.R_alloc | apply Kd.R_drewN | apply Kd.R_drew)); exact HO_4.out⟩, ⟨by (with_reducible repeat (first | apply Kd.R_alloc | apply Kd.R_drewN | apply Kd.R_drew)); exact HO_204004.out⟩, ⟨by (with_reducible repeat (first | refine blk_drewN ?_ _ | refine blk_drew ?_ | refine blk_alloc ?_ _)); exact BK185.out⟩, ⟨by (with_reducible repeat (first | refine blk_drewN ?_ _ | refine blk_drew ?_ | refine blk_alloc ?_ _)); exact BK203.out⟩, ⟨by (with_reducible repeat (first | refine blk_drewN ?_ _ | refine blk_drew ?_ | refine blk_alloc ?_ _)); exact BK204.out⟩, ⟨by repeat (first | (with_reducible first | exact HB.out | apply below_alloc | apply pw_below_drewN | apply below_drew1 | refine below_set ?_ GE185.out | refine below_set ?_ GE203.out | refine below_set ?_ GE204.out) | exact HB.out)⟩⟩
                                      · rw [if_neg c51] at H
                                        exact absurd H (by simp)
                                    · rw [if_neg c50] at H
                                      exact absurd H (by simp)
                                  · rw [if_neg c48] at H
                                    have c48b0 : decide (x14_4 < 7) = false := decide_eq_false c48
                                    clear c48
                                    by_cases c56 : x205000_4 < 0
                                    · rw [if_pos c56] at H
                                      have c56b0 : decide (x205000_4 < 0) = true := decide_eq_true c56
                                      clear c56
                                      simp only [Option.some.injEq, Prod.mk.injEq] at H
                                      obtain ⟨rfl, rfl, rfl, rfl, rfl, rfl⟩ := H
                                      have hnb57 := NB204_185.out
                                      have hnc57 := NB185_204.out
                                      have hnb58 := NB204_203.out
                                      have hnc58 := NB203_204.out
                                      have hcz59_0 : wr.cell? ⟨gb204, 0, none⟩ = some (.int .i64 x205000_4) := (blk_cell BK204.out 0).trans rfl
                                      have hcz59_1 : wr.cell? ⟨gb204, 1, none⟩ = some (.int .i64 0) := (blk_cell BK204.out 1).trans rfl
                                      have hcz59_2 : wr.cell? ⟨gb204, 2, none⟩ = some (.int .i64 0) := (blk_cell BK204.out 2).trans rfl
                                      have hfz59_0 := blk_frozen BK204.out 0
                                      have hfz59_1 := blk_frozen BK204.out 1
                                      have hfz59_2 := blk_frozen BK204.out 2
                                      have hnb60 := NB185_203.out
                                      have hnc60 := NB203_185.out
                                      have hcz61_0 : wr.cell? ⟨gb185, 0, none⟩ = some (.bool x186000_3) := (blk_cell BK185.out 0).trans rfl
                                      have hcz61_1 : wr.cell? ⟨gb185, 1, none⟩ = some (.bool x186001_3) := (blk_cell BK185.out 1).trans rfl
                                      have hcz61_2 : wr.cell? ⟨gb185, 2, none⟩ = some (.int .i64 x186002_3) := (blk_cell BK185.out 2).trans rfl
                                      have hcz61_3 : wr.cell? ⟨gb185, 3, none⟩ = some (.int .u64 x186003_3) := (blk_cell BK185.out 3).trans rfl
                                      have hcz61_4 : wr.cell? ⟨gb185, 4, none⟩ = some (.slice none 0 0) := (blk_cell BK185.out 4).trans rfl
                                      have hfz61_0 := blk_frozen BK185.out 0
                                      have hfz61_1 := blk_frozen BK185.out 1
                                      have hfz61_2 := blk_frozen BK185.out 2
                                      have hfz61_3 := blk_frozen BK185.out 3
                                      have hfz61_4 := blk_frozen BK185.out 4
                                      go_wp2
                                      refine bodyPost_ret (results_ct rfl _ _ gb185 31 #[.bool false, .bool false, .int .i64 0, .int .u64 0, .slice none 0 0] (0, 0) _ rfl (by (with_reducible repeat (first | refine blk_drewN ?_ _ | refine blk_drew ?_ | refine blk_alloc ?_ _)); refine blk_put (cs := #[.bool false, .bool false, .int .i64 0, .int .u64 0, .slice none 0 0]) ?_ 4 _ rfl; (with_reducible repeat (first | refine blk_drewN ?_ _ | refine blk_drew ?_ | refine blk_alloc ?_ _)); refine blk_put (cs := #[.bool false, .bool false, .int .i64 0, .int .u64 x186003_3, .slice none 0 0]) ?_ 3 _ rfl; (with_reducible repeat (first | refine blk_drewN ?_ _ | refine blk_drew ?_ | refine blk_alloc ?_ _)); refine blk_put (cs := #[.bool false, .bool false, .int .i64 x186002_3, .int .u64 x186003_3, .slice none 0 0]) ?_ 2 _ rfl; (with_reducible repeat (first | refine blk_drewN ?_ _ | refine blk_drew ?_ | refine blk_alloc ?_ _)); refine blk_put (cs := #[.bool false, .bool x186001_3, .int .i64 x186002_3, .int .u64 x186003_3, .slice none 0 0]) ?_ 1 _ rfl; (with_reducible repeat (first | refine blk_drewN ?_ _ | refine blk_drew ?_ | refine blk_alloc ?_ _)); refine blk_put (cs := #[.bool x186000_3, .bool x186001_3, .int .i64 x186002_3, .int .u64 x186003_3, .slice none 0 0]) ?_ 0 _ rfl; (with_reducible repeat (first | refine blk_drewN ?_ _ | refine blk_drew ?_ | refine blk_alloc ?_ _)); exact BK185.out) Tryz.underlying31 rfl (by kernel_rfl)) rfl ?_
                                      exact ⟨_, by first | rfl | (simp [errW_none, errW_some] <;> rfl) | (simp [*, errW_none, errW_some] <;> rfl), by first | exact Kd.R_nil _ _ _ _ _ | exact Kd.N_nil _ _ _ _ _ | exact Kd.V_nil _ _ _ _ _ | exact Kd.Q_nil _ _ _ _ _ | exact Kd.S_nil _ _ _ _ _, by repeat (first | (with_reducible first | exact HB.out | apply below_alloc | apply pw_below_drewN | apply below_drew1 | refine below_set ?_ GE185.out | refine below_set ?_ GE203.out | refine below_set ?_ GE204.out) | exact HB.out)⟩
                                    · rw [if_neg c56] at H
                                      have c56b0 : decide (x205000_4 < 0) = false := decide_eq_false c56
                                      clear c56
                                      have HC62 := Aside0.mk H
                                      clear H
                                      have hnb63 := NB204_185.out
                                      have hnc63 := NB185_204.out
                                      have hnb64 := NB204_203.out
                                      have hnc64 := NB203_204.out
                                      have hcz65_0 : wr.cell? ⟨gb204, 0, none⟩ = some (.int .i64 x205000_4) := (blk_cell BK204.out 0).trans rfl
                                      have hcz65_1 : wr.cell? ⟨gb204, 1, none⟩ = some (.int .i64 0) := (blk_cell BK204.out 1).trans rfl
                                      have hcz65_2 : wr.cell? ⟨gb204, 2, none⟩ = some (.int .i64 0) := (blk_cell BK204.out 2).trans rfl
                                      have hfz65_0 := blk_frozen BK204.out 0
                                      have hfz65_1 := blk_frozen BK204.out 1
                                      have hfz65_2 := blk_frozen BK204.out 2
                                      go_upto_if 119 with (fail)
                                      go_cut [10] (fun v10 wc => ∃ (kq : Nat) (x10_61 : Int) (x186000_61 : Bool) (x186001_61 : Bool) (x186002_61 : Int) (x186003_61 : Int) (x205001_61 : Int), v10 = .int .i64 x10_61 ∧ Aside0 (paternosterref24_Parse.j4 kq t186 x10_61 x13_4 ((rdOf ByteArray.empty t186 0).toList == ([109, 97, 105, 110, 115] : List UInt8)) ((rdOf ByteArray.empty t186 1).toList == ([103, 101, 110] : List UInt8)) t196 t199 x204004_3 x205000_4 x205001_61 0 = some (r1, r2, r3, r4, r5, r6)) ∧ Aside0 (kq ≤ k4) ∧ Aside0 (Kd.R Kd.string 9 wc w.heap.size (fun _ => True) (.slice (some ad195) t186.length co30) t186) ∧ Aside0 (Kd.R k45 45 wc w.heap.size (fun k_ => k_ ≠ gb204) u204004 x204004_3) ∧ Aside0 (wc.heap[gb185]? = some (.cells #[.bool x186000_61, .bool x186001_61, .int .i64 x186002_61, .int .u64 x186003_61, (.slice none 0 0)] 31 (0, 0))) ∧ Aside0 (wc.heap[gb203]? = some (.cells #[.bool ((rdOf ByteArray.empty t186 0).toList == ([109, 97, 105, 110, 115] : List UInt8)), .bool ((rdOf ByteArray.empty t186 1).toList == ([103, 101, 110] : List UInt8)), .int .i64 t196, .int .u64 t199, u204004] 31 (0, 0))) ∧ Aside0 (wc.heap[gb204]? = some (.cells #[.int .i64 x205000_4, .int .i64 x205001_61, .int .i64 0] 45 (0, 0))) ∧ Aside0 (Below w.heap.size w wc))
                                      case first =>
                                        have H := HC62.out
                                        clear HC62
                                        by_cases c66 : x12_4 = true
                                        · subst c66
                                          have H1 : (if (wrap64 (x10_3 + 1)) ≥ (t186.length : Int) then (some (false, false, 0, 0, ([] : List (S45)), 11)) else (if 0 ≤ (wrap64 (x10_3 + 1)) then (if (wrap64 (x10_3 + 1)) < (t186.length : Int) then ((paternosterref24_number.f k4 (rdOf ByteArray.empty t186 (wrap64 (x10_3 + 1)))).bind fun bt210 => (if bt210.2 = true then (paternosterref24_Parse.j4 k4 t186 (wrap64 ((wrap64 (x10_3 + 1)) + 1)) x13_4 ((rdOf ByteArray.empty t186 0).toList == ([109, 97, 105, 110, 115] : List UInt8)) ((rdOf ByteArray.empty t186 1).toList == ([103, 101, 110] : List UInt8)) t196 t199 x204004_3 x205000_4 bt210.1 0) else (some (false, false, 0, 0, ([] : List (S45)), 11)))) else (none)) else (none))) = some (r1, r2, r3, r4, r5, r6) := by rw [if_pos rfl] at H; exact H
                                          clear H
                                          have H := H1
                                          clear H1
                                          by_cases c67 : (wrap64 (x10_3 + 1)) ≥ (t186.length : Int)
                                          · rw [if_pos c67] at H
                                            have c67b0 : decide ((t186.length : Int) ≤ (wrap64 (x10_3 + 1))) = true := decide_eq_true c67
                                            clear c67
                                            (first | rw [c67b0] | (simp only [i64_w, i32_w]; rw [c67b0]) | skip)
                                            simp only [Option.some.injEq, Prod.mk.injEq] at H
                                            obtain ⟨rfl, rfl, rfl, rfl, rfl, rfl⟩ := H
                                            have hnb68 := NB185_203.out
                                            have hnc68 := NB203_185.out
                                            have hnb69 := NB185_204.out
                                            have hnc69 := NB204_185.out
                                            have hcz70_0 : wr.cell? ⟨gb185, 0, none⟩ = some (.bool x186000_3) := (blk_cell BK185.out 0).trans rfl
                                            have hcz70_1 : wr.cell? ⟨gb185, 1, none⟩ = some (.bool x186001_3) := (blk_cell BK185.out 1).trans rfl
                                            have hcz70_2 : wr.cell? ⟨gb185, 2, none⟩ = some (.int .i64 x186002_3) := (blk_cell BK185.out 2).trans rfl
                                            have hcz70_3 : wr.cell? ⟨gb185, 3, none⟩ = some (.int .u64 x186003_3) := (blk_cell BK185.out 3).trans rfl
                                            have hcz70_4 : wr.cell? ⟨gb185, 4, none⟩ = some (.slice none 0 0) := (blk_cell BK185.out 4).trans rfl
                                            have hfz70_0 := blk_frozen BK185.out 0
                                            have hfz70_1 := blk_frozen BK185.out 1
                                            have hfz70_2 := blk_frozen BK185.out 2
                                            have hfz70_3 := blk_frozen BK185.out 3
                                            have hfz70_4 := blk_frozen BK185.out 4
                                            go_wp2
                                            refine bodyPost_ret (results_ct rfl _ _ gb185 31 #[.bool false, .bool false, .int .i64 0, .int .u64 0, .slice none 0 0] (0, 0) _ rfl (by (with_reducible repeat (first | refine blk_drewN ?_ _ | refine blk_drew ?_ | refine blk_alloc ?_ _)); refine blk_put (cs := #[.bool false, .bool false, .int .i64 0, .int .u64 0, .slice none 0 0]) ?_ 4 _ rfl; (with_reducible repeat (first | refine blk_drewN ?_ _ | refine blk_drew ?_ | refine blk_alloc ?_ _)); refine blk_put (cs := #[.bool false, .bool false, .int .i64 0, .int .u64 x186003_3, .slice none 0 0]) ?_ 3 _ rfl; (with_reducible repeat (first | refine blk_drewN ?_ _ | refine blk_drew ?_ | refine blk_alloc ?_ _)); refine blk_put (cs := #[.bool false, .bool false, .int .i64 x186002_3, .int .u64 x186003_3, .slice none 0 0]) ?_ 2 _ rfl; (with_reducible repeat (first | refine blk_drewN ?_ _ | refine blk_drew ?_ | refine blk_alloc ?_ _)); refine blk_put (cs := #[.bool false, .bool x186001_3, .int .i64 x186002_3, .int .u64 x186003_3, .slice none 0 0]) ?_ 1 _ rfl; (with_reducible repeat (first | refine blk_drewN ?_ _ | refine blk_drew ?_ | refine blk_alloc ?_ _)); refine blk_put (cs := #[.bool x186000_3, .bool x186001_3, .int .i64 x186002_3, .int .u64 x186003_3, .slice none 0 0]) ?_ 0 _ rfl; (with_reducible repeat (first | refine blk_drewN ?_ _ | refine blk_drew ?_ | refine blk_alloc ?_ _)); exact BK185.out) Tryz.underlying31 rfl (by kernel_rfl)) rfl ?_
                                            exact ⟨_, by first | rfl | (simp [errW_none, errW_some] <;> rfl) | (simp [*, errW_none, errW_some] <;> rfl), by first | exact Kd.R_nil _ _ _ _ _ | exact Kd.N_nil _ _ _ _ _ | exact Kd.V_nil _ _ _ _ _ | exact Kd.Q_nil _ _ _ _ _ | exact Kd.S_nil _ _ _ _ _, by repeat (first | (with_reducible first | exact HB.out | apply below_alloc | apply pw_below_drewN | apply below_drew1 | refine below_set ?_ GE185.out | refine below_set ?_ GE203.out | refine below_set ?_ GE204.out) | exact HB.out)⟩
                                          · rw [if_neg c67] at H
                                            have c67b0 : decide ((t186.length : Int) ≤ (wrap64 (x10_3 + 1))) = false := decide_eq_false c67
                                            clear c67
                                            (first | rw [c67b0] | (simp only [i64_w, i32_w]; rw [c67b0]) | skip)
                                            obtain ⟨ji71, hji71⟩ : ∃ j_ : Int, (wrap64 (x10_3 + 1)) = j_ := ⟨_, rfl⟩
                                            replace H : (if 0 ≤ (ji71) then (if (ji71) < (t186.length : Int) then ((paternosterref24_number.f k4 (rdOf ByteArray.empty t186 (ji71))).bind fun bt210 => (if bt210.2 = true then (paternosterref24_Parse.j4 k4 t186 (wrap64 ((ji71) + 1)) x13_4 ((rdOf ByteArray.empty t186 0).toList == ([109, 97, 105, 110, 115] : List UInt8)) ((rdOf ByteArray.empty t186 1).toList == ([103, 101, 110] : List UInt8)) t196 t199 x204004_3 x205000_4 bt210.1 0) else (some (false, false, 0, 0, ([] : List (S45)), 11)))) else (none)) else (none)) = some (r1, r2, r3, r4, r5, r6) := by first | (rw [hji71] at H; exact H) | (simp only [hji71] at H ⊢; exact H)
                                            (try rw [hji71] at c67b0)
                                            have hji71w : (IntKind.i64.wrap (x10_3 + 1)) = ji71 := (i64_w _).trans hji71
                                            by_cases c72 : 0 ≤ (ji71)
                                            · rw [if_pos c72] at H
                                              have c72b0 : decide (0 ≤ (ji71)) = true := decide_eq_true c72
                                              clear c72
                                              by_cases c73 : (ji71) < (t186.length : Int)
                                              · rw [if_pos c73] at H
                                                have c73b0 : decide ((ji71) < (t186.length : Int)) = true := decide_eq_true c73
                                                clear c73
                                                replace H := Option.bind_eq_some_iff.mp H
                                                obtain ⟨⟨t210, t211⟩, A740, H⟩ := H
                                                replace H : (if t211 = true then (paternosterref24_Parse.j4 k4 t186 (wrap64 ((ji71) + 1)) x13_4 ((rdOf ByteArray.empty t186 0).toList == ([109, 97, 105, 110, 115] : List UInt8)) ((rdOf ByteArray.empty t186 1).toList == ([103, 101, 110] : List UInt8)) t196 t199 x204004_3 x205000_4 t210 0) else (some (false, false, 0, 0, ([] : List (S45)), 11))) = some (r1, r2, r3, r4, r5, r6) := H
                                                have A74 := Aside0.mk A740
                                                clear A740
                                                by_cases c75 : t211 = true
                                                · subst c75
                                                  have H1 : (paternosterref24_Parse.j4 k4 t186 (wrap64 ((ji71) + 1)) x13_4 ((rdOf ByteArray.empty t186 0).toList == ([109, 97, 105, 110, 115] : List UInt8)) ((rdOf ByteArray.empty t186 1).toList == ([103, 101, 110] : List UInt8)) t196 t199 x204004_3 x205000_4 t210 0) = some (r1, r2, r3, r4, r5, r6) := by rw [if_pos rfl] at H; exact H
                                                  clear H
                                                  have H := H1
                                                  clear H1
                                                  have H' := Aside0.mk H
                                                  clear H
                                                  have p209 : 0 ≤ ((ji71) : Int) := of_decide_eq_true (by first | (with_reducible assumption) | assumption)
                                                  have q209 : (ji71) < (t186.length : Int) := of_decide_eq_true (by first | (with_reducible assumption) | assumption)
                                                  obtain ⟨ad209, e209, hx209_0⟩ := Kd.at_string (Kd.R_reads' HO_4.out).2.2 (ji71) p209 q209
                                                  obtain rfl : ad195 = ad209 := (by injection e209)
                                                  replace p209 := eq_true p209
                                                  replace q209 := eq_true q209
                                                  go_wp2_with (first | ((with_reducible refine gate_callee (f := 30) rfl ?_); refine goesL_ (some 130) rfl rfl Tryz.func30 (by kernel_rfl) rfl #[.string (rdOf ByteArray.empty t186 (ji71))] rfl (by (try simp only [List.map_toArray, List.map_cons, List.map_nil]); first | done | (simp only [hji71]; rfl) | rfl | (simp only [List.length_drop, List.length_take]; rfl)) ?_; (with_reducible refine (paternosterref24_number.calls k4 (rdOf ByteArray.empty t186 (ji71)) t210 true _ A74.out).mono ?_); rintro e w' ⟨rfl, ⟨nd, rfl⟩⟩; refine ⟨_, rfl, ?_⟩; (try (rw [drewN_self wr]; generalize hq_ : World.drewN wr _ = wr; have n0_ : Aside0 (Kd.R k45 45 wr w.heap.size (fun k_ => k_ ≠ gb204) u204004 x204004_3) := ⟨by rw [← hq_]; exact (by (with_reducible repeat (first | apply Kd.R_alloc | apply Kd.R_drewN | apply Kd.R_drew)); exact HO_204004.out)⟩; have n1_ : Aside0 (Kd.R Kd.string 9 wr w.heap.size (fun _ => True) (.slice (some ad195) t186.length co30) t186) := ⟨by rw [← hq_]; exact (by (with_reducible repeat (first | apply Kd.R_alloc | apply Kd.R_drewN | apply Kd.R_drew)); exact HO_4.out)⟩; have n2_ : Aside0 (wr.heap[gb185]? = some (.cells #[.bool x186000_3, .bool x186001_3, .int .i64 x186002_3, .int .u64 x186003_3, .slice none 0 0] 31 (0, 0))) := ⟨by rw [← hq_]; exact (by (with_reducible repeat (first | refine blk_drewN ?_ _ | refine blk_drew ?_ | refine blk_alloc ?_ _)); exact BK185.out)⟩; have n3_ : Aside0 (wr.heap[gb203]? = some (.cells #[.bool ((rdOf ByteArray.empty t186 0).toList == ([109, 97, 105, 110, 115] : List UInt8)), .bool ((rdOf ByteArray.empty t186 1).toList == ([103, 101, 110] : List UInt8)), .int .i64 t196, .int .u64 t199, u204004] 31 (0, 0))) := ⟨by rw [← hq_]; exact (by (with_reducible repeat (first | refine blk_drewN ?_ _ | refine blk_drew ?_ | refine blk_alloc ?_ _)); exact BK203.out)⟩; have n4_ : Aside0 (wr.heap[gb204]? = some (.cells #[.int .i64 x205000_4, .int .i64 0, .int .i64 0] 45 (0, 0))) := ⟨by rw [← hq_]; exact (by (with_reducible repeat (first | refine blk_drewN ?_ _ | refine blk_drew ?_ | refine blk_alloc ?_ _)); exact BK204.out)⟩; have n5_ : Aside0 (Below w.heap.size w wr) := ⟨by rw [← hq_]; exact (by repeat (first | (with_reducible first | exact HB.out | apply below_alloc | apply pw_below_drewN | apply below_drew1 | refine below_set ?_ GE185.out | refine below_set ?_ GE203.out | refine below_set ?_ GE204.out) | exact HB.out))⟩; clear HO_204004 HO_4 BK185 BK203 BK204 HB hq_; have HO_204004 := n0_; have HO_4 := n1_; have BK185 := n2_; have BK203 := n3_; have BK204 := n4_; have HB := n5_; clear n0_ n1_ n2_ n3_ n4_ n5_)); have hnb76 := NB204_185.out; have hnc76 := NB185_204.out; have hnb77 := NB204_203.out; have hnc77 := NB203_204.out; have hcz78_0 : wr.cell? ⟨gb204, 0, none⟩ = some (.int .i64 x205000_4) := (blk_cell BK204.out 0).trans rfl; have hcz78_1 : wr.cell? ⟨gb204, 1, none⟩ = some (.int .i64 0) := (blk_cell BK204.out 1).trans rfl; have hcz78_2 : wr.cell? ⟨gb204, 2, none⟩ = some (.int .i64 0) := (blk_cell BK204.out 2).trans rfl; have hfz78_0 := blk_frozen BK204.out 0; have hfz78_1 := blk_frozen BK204.out 1; have hfz78_2 := blk_frozen BK204.out 2))
                                                  go_meet
                                                  case rel => exact ⟨_, (wrap64 ((ji71) + 1)), (x186000_3), (x186001_3), (x186002_3), (x186003_3), (t210), (by first | rfl | (simp; done) | (simp only [← hji71] <;> (first | rfl | simp)) | (simp [*]; done)), H', ⟨by have := HJ5.out; have := HJ28.out; have := HK3.out; have := HK4.out; first | omega | exact Nat.le_refl _⟩, ⟨by (with_reducible repeat (first | apply Kd.R_alloc | apply Kd.R_drewN | apply Kd.R_drew)); exact Kd.R_mono (Kd.R_far (p := ⟨gb204, 1, none⟩) (Kd.R_types HO_4.out BK204.out (by decide)) (fun _ hk => hk.2) (.int .i64 t210)) (fun _ hk => trivial)⟩, ⟨by (with_reducible repeat (first | apply Kd.R_alloc | apply Kd.R_drewN | apply Kd.R_drew)); exact Kd.R_mono (Kd.R_far (p := ⟨gb204, 1, none⟩) (Kd.R_mono HO_204004.out (fun k_ hk => (⟨hk, hk⟩ : _ ∧ k_ ≠ gb204))) (fun _ hk => hk.2) (.int .i64 t210)) (fun _ hk => hk.1)⟩, ⟨by (with_reducible repeat (first | refine blk_drewN ?_ _ | refine blk_drew ?_ | refine blk_alloc ?_ _)); refine blk_far ?_ NB185_204.out _; (with_reducible repeat (first | refine blk_drewN ?_ _ | refine blk_drew ?_ | refine blk_alloc ?_ _)); exact BK185.out⟩, ⟨by (with_reducible repeat (first | refine blk_drewN ?_ _ | refine blk_drew ?_ | refine blk_alloc ?_ _)); refine blk_far ?_ NB203_204.out _; (with_reducible repeat (first | refine blk_drewN ?_ _ | refine blk_drew ?_ | refine blk_alloc ?_ _)); exact BK203.out⟩, ⟨by (with_reducible repeat (first | refine blk_drewN ?_ _ | refine blk_drew ?_ | refine blk_alloc ?_ _)); refine blk_put (cs := #[.int .i64 x205000_4, .int .i64 0, .int .i64 0]) ?_ 1 _ rfl; (with_reducible repeat (first | refine blk_drewN ?_ _ | refine blk_drew ?_ | refine blk_alloc ?_ _)); exact BK204.out⟩, ⟨by repeat (first | (with_reducible first | exact HB.out | apply below_alloc | apply pw_below_drewN | apply below_drew1 | refine below_set ?_ GE185.out | refine below_set ?_ GE203.out | refine below_set ?_ GE204.out) | exact HB.out)⟩⟩
                                                · replace c75 := Bool.eq_false_iff.mpr c75
                                                  subst c75
                                                  have H1 : (some (false, false, 0, 0, ([] : List (S45)), 11)) = some (r1, r2, r3, r4, r5, r6) := by rw [if_neg (show ¬ (false = true) by decide)] at H; exact H
                                                  clear H
                                                  have H := H1
                                                  clear H1
                                                  simp only [Option.some.injEq, Prod.mk.injEq] at H
                                                  obtain ⟨rfl, rfl, rfl, rfl, rfl, rfl⟩ := H
                                                  have p209 : 0 ≤ ((ji71) : Int) := of_decide_eq_true (by first | (with_reducible assumption) | assumption)
                                                  have q209 : (ji71) < (t186.length : Int) := of_decide_eq_true (by first | (with_reducible assumption) | assumption)
                                                  obtain ⟨ad209, e209, hx209_0⟩ := Kd.at_string (Kd.R_reads' HO_4.out).2.2 (ji71) p209 q209
                                                  obtain rfl : ad195 = ad209 := (by injection e209)
                                                  replace p209 := eq_true p209
                                                  replace q209 := eq_true q209
                                                  go_wp2_with (first | ((with_reducible refine gate_callee (f := 30) rfl ?_); refine goesL_ (some 130) rfl rfl Tryz.func30 (by kernel_rfl) rfl #[.string (rdOf ByteArray.empty t186 (ji71))] rfl (by (try simp only [List.map_toArray, List.map_cons, List.map_nil]); first | done | (simp only [hji71]; rfl) | rfl | (simp only [List.length_drop, List.length_take]; rfl)) ?_; (with_reducible refine (paternosterref24_number.calls k4 (rdOf ByteArray.empty t186 (ji71)) t210 false _ A74.out).mono ?_); rintro e w' ⟨rfl, ⟨nd, rfl⟩⟩; refine ⟨_, rfl, ?_⟩; (try (rw [drewN_self wr]; generalize hq_ : World.drewN wr _ = wr; have n0_ : Aside0 (Kd.R k45 45 wr w.heap.size (fun k_ => k_ ≠ gb204) u204004 x204004_3) := ⟨by rw [← hq_]; exact (by (with_reducible repeat (first | apply Kd.R_alloc | apply Kd.R_drewN | apply Kd.R_drew)); exact HO_204004.out)⟩; have n1_ : Aside0 (Kd.R Kd.string 9 wr w.heap.size (fun _ => True) (.slice (some ad195) t186.length co30) t186) := ⟨by rw [← hq_]; exact (by (with_reducible repeat (first | apply Kd.R_alloc | apply Kd.R_drewN | apply Kd.R_drew)); exact HO_4.out)⟩; have n2_ : Aside0 (wr.heap[gb185]? = some (.cells #[.bool x186000_3, .bool x186001_3, .int .i64 x186002_3, .int .u64 x186003_3, .slice none 0 0] 31 (0, 0))) := ⟨by rw [← hq_]; exact (by (with_reducible repeat (first | refine blk_drewN ?_ _ | refine blk_drew ?_ | refine blk_alloc ?_ _)); exact BK185.out)⟩; have n3_ : Aside0 (wr.heap[gb203]? = some (.cells #[.bool ((rdOf ByteArray.empty t186 0).toList == ([109, 97, 105, 110, 115] : List UInt8)), .bool ((rdOf ByteArray.empty t186 1).toList == ([103, 101, 110] : List UInt8)), .int .i64 t196, .int .u64 t199, u204004] 31 (0, 0))) := ⟨by rw [← hq_]; exact (by (with_reducible repeat (first | refine blk_drewN ?_ _ | refine blk_drew ?_ | refine blk_alloc ?_ _)); exact BK203.out)⟩; have n4_ : Aside0 (wr.heap[gb204]? = some (.cells #[.int .i64 x205000_4, .int .i64 0, .int .i64 0] 45 (0, 0))) := ⟨by rw [← hq_]; exact (by (with_reducible repeat (first | refine blk_drewN ?_ _ | refine blk_drew ?_ | refine blk_alloc ?_ _)); exact BK204.out)⟩; have n5_ : Aside0 (Below w.heap.size w wr) := ⟨by rw [← hq_]; exact (by repeat (first | (with_reducible first | exact HB.out | apply below_alloc | apply pw_below_drewN | apply below_drew1 | refine below_set ?_ GE185.out | refine below_set ?_ GE203.out | refine below_set ?_ GE204.out) | exact HB.out))⟩; clear HO_204004 HO_4 BK185 BK203 BK204 HB hq_; have HO_204004 := n0_; have HO_4 := n1_; have BK185 := n2_; have BK203 := n3_; have BK204 := n4_; have HB := n5_; clear n0_ n1_ n2_ n3_ n4_ n5_)); have hnb79 := NB185_203.out; have hnc79 := NB203_185.out; have hnb80 := NB185_204.out; have hnc80 := NB204_185.out; have hcz81_0 : wr.cell? ⟨gb185, 0, none⟩ = some (.bool x186000_3) := (blk_cell BK185.out 0).trans rfl; have hcz81_1 : wr.cell? ⟨gb185, 1, none⟩ = some (.bool x186001_3) := (blk_cell BK185.out 1).trans rfl; have hcz81_2 : wr.cell? ⟨gb185, 2, none⟩ = some (.int .i64 x186002_3) := (blk_cell BK185.out 2).trans rfl; have hcz81_3 : wr.cell? ⟨gb185, 3, none⟩ = some (.int .u64 x186003_3) := (blk_cell BK185.out 3).trans rfl; have hcz81_4 : wr.cell? ⟨gb185, 4, none⟩ = some (.slice none 0 0) := (blk_cell BK185.out 4).trans rfl; have hfz81_0 := blk_frozen BK185.out 0; have hfz81_1 := blk_frozen BK185.out 1; have hfz81_2 := blk_frozen BK185.out 2; have hfz81_3 := blk_frozen BK185.out 3; have hfz81_4 := blk_frozen BK185.out 4))
                                                  refine bodyPost_ret (results_ct rfl _ _ gb185 31 #[.bool false, .bool false, .int .i64 0, .int .u64 0, .slice none 0 0] (0, 0) _ rfl (by (with_reducible repeat (first | refine blk_drewN ?_ _ | refine blk_drew ?_ | refine blk_alloc ?_ _)); refine blk_put (cs := #[.bool false, .bool false, .int .i64 0, .int .u64 0, .slice none 0 0]) ?_ 4 _ rfl; (with_reducible repeat (first | refine blk_drewN ?_ _ | refine blk_drew ?_ | refine blk_alloc ?_ _)); refine blk_put (cs := #[.bool false, .bool false, .int .i64 0, .int .u64 x186003_3, .slice none 0 0]) ?_ 3 _ rfl; (with_reducible repeat (first | refine blk_drewN ?_ _ | refine blk_drew ?_ | refine blk_alloc ?_ _)); refine blk_put (cs := #[.bool false, .bool false, .int .i64 x186002_3, .int .u64 x186003_3, .slice none 0 0]) ?_ 2 _ rfl; (with_reducible repeat (first | refine blk_drewN ?_ _ | refine blk_drew ?_ | refine blk_alloc ?_ _)); refine blk_put (cs := #[.bool false, .bool x186001_3, .int .i64 x186002_3, .int .u64 x186003_3, .slice none 0 0]) ?_ 1 _ rfl; (with_reducible repeat (first | refine blk_drewN ?_ _ | refine blk_drew ?_ | refine blk_alloc ?_ _)); refine blk_put (cs := #[.bool x186000_3, .bool x186001_3, .int .i64 x186002_3, .int .u64 x186003_3, .slice none 0 0]) ?_ 0 _ rfl; (with_reducible repeat (first | refine blk_drewN ?_ _ | refine blk_drew ?_ | refine blk_alloc ?_ _)); exact BK185.out) Tryz.underlying31 rfl (by kernel_rfl)) rfl ?_
                                                  exact ⟨_, by first | rfl | (simp [errW_none, errW_some] <;> rfl) | (simp only [← hji71]; first | rfl | (simp [errW_none, errW_some] <;> rfl)) | (simp [*, errW_none, errW_some] <;> rfl), by first | exact Kd.R_nil _ _ _ _ _ | exact Kd.N_nil _ _ _ _ _ | exact Kd.V_nil _ _ _ _ _ | exact Kd.Q_nil _ _ _ _ _ | exact Kd.S_nil _ _ _ _ _, by repeat (first | (with_reducible first | exact HB.out | apply below_alloc | apply pw_below_drewN | apply below_drew1 | refine below_set ?_ GE185.out | refine below_set ?_ GE203.out | refine below_set ?_ GE204.out) | exact HB.out)⟩
                                              · rw [if_neg c73] at H
                                                exact absurd H (by simp)
                                            · rw [if_neg c72] at H
                                              exact absurd H (by simp)
                                        · replace c66 := Bool.eq_false_iff.mpr c66
                                          subst c66
                                          have H1 : (paternosterref24_Parse.j4 k4 t186 (wrap64 (x10_3 + 1)) x13_4 ((rdOf ByteArray.empty t186 0).toList == ([109, 97, 105, 110, 115] : List UInt8)) ((rdOf ByteArray.empty t186 1).toList == ([103, 101, 110] : List UInt8)) t196 t199 x204004_3 x205000_4 0 0) = some (r1, r2, r3, r4, r5, r6) := by rw [if_neg (show ¬ (false = true) by decide)] at H; exact H
                                          clear H
                                          have H := H1
                                          clear H1
                                          have H' := Aside0.mk H
                                          clear H
                                          go_wp2
                                          go_meet
                                          case rel => exact ⟨_, (wrap64 (x10_3 + 1)), (x186000_3), (x186001_3), (x186002_3), (x186003_3), (0), (by first | rfl | (simp; done) | (simp [*]; done)), H', ⟨by have := HJ5.out; have := HJ28.out; have := HK3.out; have := HK4.out; first | omega | exact Nat.le_refl _⟩, ⟨by (with_reducible repeat (first | apply Kd.R_alloc | apply Kd.R_drewN | apply Kd.R_drew)); exact HO_4.out⟩, ⟨by (with_reducible repeat (first | apply Kd.R_alloc | apply Kd.R_drewN | apply Kd.R_drew)); exact HO_204004.out⟩, ⟨by (with_reducible repeat (first | refine blk_drewN ?_ _ | refine blk_drew ?_ | refine blk_alloc ?_ _)); exact BK185.out⟩, ⟨by (with_reducible repeat (first | refine blk_drewN ?_ _ | refine blk_drew ?_ | refine blk_alloc ?_ _)); exact BK203.out⟩, ⟨by (with_reducible repeat (first | refine blk_drewN ?_ _ | refine blk_drew ?_ | refine blk_alloc ?_ _)); exact BK204.out⟩, ⟨by repeat (first | (with_reducible first | exact HB.out | apply below_alloc | apply pw_below_drewN | apply below_drew1 | refine below_set ?_ GE185.out | refine below_set ?_ GE203.out | refine below_set ?_ GE204.out) | exact HB.out)⟩⟩
                                      case rest =>
                                        clear HC62
                                        try clear c1
                                        try clear p1
                                        try clear q1
                                        try clear hx1
                                        try clear qi1
                                        try clear c2
                                        try clear c2b0
                                        try clear c2b1
                                        try clear p2
                                        try clear q2
                                        try clear hx2
                                        try clear qi2
                                        try clear c3
                                        try clear c4
                                        try clear c5
                                        try clear c6
                                        try clear p6
                                        try clear c7
                                        try clear c8
                                        try clear c9
                                        try clear c9b0
                                        try clear c9b1
                                        try clear c11
                                        try clear c11b0
                                        try clear c11b1
                                        try clear c12
                                        try clear c12b0
                                        try clear c12b1
                                        try clear c13
                                        try clear c13b0
                                        try clear c13b1
                                        try clear c14
                                        try clear c14b0
                                        try clear c14b1
                                        try clear c17
                                        try clear c17b0
                                        try clear c17b1
                                        try clear c18
                                        try clear c18b0
                                        try clear c18b1
                                        try clear p18
                                        try clear q18
                                        try clear hx18
                                        try clear qi18
                                        try clear c19
                                        try clear c19b0
                                        try clear c19b1
                                        try clear p19
                                        try clear q19
                                        try clear hx19
                                        try clear qi19
                                        try clear p20
                                        try clear q20
                                        try clear hx20
                                        try clear qi20
                                        try clear c23
                                        try clear c25
                                        try clear c25b0
                                        try clear c25b1
                                        try clear c27
                                        try clear c27b0
                                        try clear c27b1
                                        try clear c29
                                        try clear c30
                                        try clear c31
                                        try clear c32
                                        try clear c34
                                        try clear c34b0
                                        try clear c34b1
                                        try clear c35
                                        try clear c35b0
                                        try clear c35b1
                                        try clear c43
                                        try clear c43b0
                                        try clear c45
                                        try clear c46
                                        try clear c48
                                        try clear c48b0
                                        try clear c50
                                        try clear c50b0
                                        try clear c51
                                        try clear c51b0
                                        try clear c52
                                        try clear c52b0
                                        try clear c52b1
                                        try clear c53
                                        try clear c54
                                        try clear c56
                                        try clear c56b0
                                        try clear c57
                                        try clear c58
                                        try clear c60
                                        try clear c63
                                        try clear c64
                                        try clear p64
                                        try clear c66
                                        try clear c67
                                        try clear c67b0
                                        try clear c68
                                        try clear c69
                                        try clear c72
                                        try clear c72b0
                                        try clear c73
                                        try clear c73b0
                                        try clear c75
                                        try clear c76
                                        try clear c77
                                        try clear c79
                                        try clear c80
                                        try clear hcz24_0
                                        try clear hcz24_1
                                        try clear hcz24_2
                                        try clear hcz24_3
                                        try clear hcz24_4
                                        try clear hcz33_0
                                        try clear hcz33_1
                                        try clear hcz33_2
                                        try clear hcz33_3
                                        try clear hcz33_4
                                        try clear hcz47_0
                                        try clear hcz47_1
                                        try clear hcz47_2
                                        try clear hcz4_0
                                        try clear hcz4_1
                                        try clear hcz4_2
                                        try clear hcz4_3
                                        try clear hcz4_4
                                        try clear hcz55_0
                                        try clear hcz55_1
                                        try clear hcz55_2
                                        try clear hcz59_0
                                        try clear hcz59_1
                                        try clear hcz59_2
                                        try clear hcz61_0
                                        try clear hcz61_1
                                        try clear hcz61_2
                                        try clear hcz61_3
                                        try clear hcz61_4
                                        try clear hcz65_0
                                        try clear hcz65_1
                                        try clear hcz65_2
                                        try clear hcz70_0
                                        try clear hcz70_1
                                        try clear hcz70_2
                                        try clear hcz70_3
                                        try clear hcz70_4
                                        try clear hcz78_0
                                        try clear hcz78_1
                                        try clear hcz78_2
                                        try clear hcz81_0
                                        try clear hcz81_1
                                        try clear hcz81_2
                                        try clear hcz81_3
                                        try clear hcz81_4
                                        try clear hfz24_0
                                        try clear hfz24_1
                                        try clear hfz24_2
                                        try clear hfz24_3
                                        try clear hfz24_4
                                        try clear hfz33_0
                                        try clear hfz33_1
                                        try clear hfz33_2
                                        try clear hfz33_3
                                        try clear hfz33_4
                                        try clear hfz47_0
                                        try clear hfz47_1
                                        try clear hfz47_2
                                        try clear hfz4_0
                                        try clear hfz4_1
                                        try clear hfz4_2
                                        try clear hfz4_3
                                        try clear hfz4_4
                                        try clear hfz55_0
                                        try clear hfz55_1
                                        try clear hfz55_2
                                        try clear hfz59_0
                                        try clear hfz59_1
                                        try clear hfz59_2
                                        try clear hfz61_0
                                        try clear hfz61_1
                                        try clear hfz61_2
                                        try clear hfz61_3
                                        try clear hfz61_4
                                        try clear hfz65_0
                                        try clear hfz65_1
                                        try clear hfz65_2
                                        try clear hfz70_0
                                        try clear hfz70_1
                                        try clear hfz70_2
                                        try clear hfz70_3
                                        try clear hfz70_4
                                        try clear hfz78_0
                                        try clear hfz78_1
                                        try clear hfz78_2
                                        try clear hfz81_0
                                        try clear hfz81_1
                                        try clear hfz81_2
                                        try clear hfz81_3
                                        try clear hfz81_4
                                        try clear hx189_0
                                        try clear hx190_0
                                        try clear hx191_0
                                        try clear hx192_0
                                        try clear hx193_0
                                        try clear hx194_0
                                        try clear hx195_0
                                        try clear hx198_0
                                        try clear hx201_0
                                        try clear hx202_0
                                        try clear hx208_0
                                        try clear hx209_0
                                        try clear p1
                                        try clear p18
                                        try clear p189
                                        try clear p19
                                        try clear p190
                                        try clear p191
                                        try clear p192
                                        try clear p193
                                        try clear p194
                                        try clear p195
                                        try clear p198
                                        try clear p2
                                        try clear p20
                                        try clear p201
                                        try clear p202
                                        try clear p208
                                        try clear p209
                                        try clear q1
                                        try clear q18
                                        try clear q189
                                        try clear q19
                                        try clear q190
                                        try clear q191
                                        try clear q192
                                        try clear q193
                                        try clear q194
                                        try clear q195
                                        try clear q198
                                        try clear q2
                                        try clear q20
                                        try clear q201
                                        try clear q202
                                        try clear q208
                                        try clear q209
                                        obtain ⟨kq, x10_61, x186000_61, x186001_61, x186002_61, x186003_61, x205001_61, rfl, HA, HJ61, HO_4, HO_204004, BK185, BK203, BK204, HB⟩ := hcut
                                        cases kq with
                                        | zero => exact absurd HA.out (by simp [paternosterref24_Parse.j4])
                                        | succ kj61 =>
                                          have H := HA.out
                                          clear HA
                                          simp only [paternosterref24_Parse.j4] at H
                                          by_cases c82 : x13_4 = true
                                          · subst c82
                                            have H1 : (if x10_61 ≥ (t186.length : Int) then (some (false, false, 0, 0, ([] : List (S45)), 11)) else (if 0 ≤ x10_61 then (if x10_61 < (t186.length : Int) then ((paternosterref24_number.f kj61 (rdOf ByteArray.empty t186 x10_61)).bind fun bt213 => (if bt213.2 = true then (if x204004_3.length < 5864062014805 then (paternosterref24_Parse.l0 kj61 t186 (wrap64 (x10_61 + 1)) ((rdOf ByteArray.empty t186 0).toList == ([109, 97, 105, 110, 115] : List UInt8)) ((rdOf ByteArray.empty t186 1).toList == ([103, 101, 110] : List UInt8)) t196 t199 (x204004_3 ++ [(⟨x205000_4, x205001_61, bt213.1⟩ : S45)])) else (none)) else (some (false, false, 0, 0, ([] : List (S45)), 11)))) else (none)) else (none))) = some (r1, r2, r3, r4, r5, r6) := by rw [if_pos rfl] at H; exact H
                                            clear H
                                            have H := H1
                                            clear H1
                                            by_cases c83 : x10_61 ≥ (t186.length : Int)
                                            · rw [if_pos c83] at H
                                              have c83b0 : decide ((t186.length : Int) ≤ x10_61) = true := decide_eq_true c83
                                              clear c83
                                              simp only [Option.some.injEq, Prod.mk.injEq] at H
                                              obtain ⟨rfl, rfl, rfl, rfl, rfl, rfl⟩ := H
                                              have hnb84 := NB185_203.out
                                              have hnc84 := NB203_185.out
                                              have hnb85 := NB185_204.out
                                              have hnc85 := NB204_185.out
                                              have hcz86_0 : wc.cell? ⟨gb185, 0, none⟩ = some (.bool x186000_61) := (blk_cell BK185.out 0).trans rfl
                                              have hcz86_1 : wc.cell? ⟨gb185, 1, none⟩ = some (.bool x186001_61) := (blk_cell BK185.out 1).trans rfl
                                              have hcz86_2 : wc.cell? ⟨gb185, 2, none⟩ = some (.int .i64 x186002_61) := (blk_cell BK185.out 2).trans rfl
                                              have hcz86_3 : wc.cell? ⟨gb185, 3, none⟩ = some (.int .u64 x186003_61) := (blk_cell BK185.out 3).trans rfl
                                              have hcz86_4 : wc.cell? ⟨gb185, 4, none⟩ = some (.slice none 0 0) := (blk_cell BK185.out 4).trans rfl
                                              have hfz86_0 := blk_frozen BK185.out 0
                                              have hfz86_1 := blk_frozen BK185.out 1
                                              have hfz86_2 := blk_frozen BK185.out 2
                                              have hfz86_3 := blk_frozen BK185.out 3
                                              have hfz86_4 := blk_frozen BK185.out 4
                                              go_wp2
                                              refine bodyPost_ret (results_ct rfl _ _ gb185 31 #[.bool false, .bool false, .int .i64 0, .int .u64 0, .slice none 0 0] (0, 0) _ rfl (by (with_reducible repeat (first | refine blk_drewN ?_ _ | refine blk_drew ?_ | refine blk_alloc ?_ _)); refine blk_put (cs := #[.bool false, .bool false, .int .i64 0, .int .u64 0, .slice none 0 0]) ?_ 4 _ rfl; (with_reducible repeat (first | refine blk_drewN ?_ _ | refine blk_drew ?_ | refine blk_alloc ?_ _)); refine blk_put (cs := #[.bool false, .bool false, .int .i64 0, .int .u64 x186003_61, .slice none 0 0]) ?_ 3 _ rfl; (with_reducible repeat (first | refine blk_drewN ?_ _ | refine blk_drew ?_ | refine blk_alloc ?_ _)); refine blk_put (cs := #[.bool false, .bool false, .int .i64 x186002_61, .int .u64 x186003_61, .slice none 0 0]) ?_ 2 _ rfl; (with_reducible repeat (first | refine blk_drewN ?_ _ | refine blk_drew ?_ | refine blk_alloc ?_ _)); refine blk_put (cs := #[.bool false, .bool x186001_61, .int .i64 x186002_61, .int .u64 x186003_61, .slice none 0 0]) ?_ 1 _ rfl; (with_reducible repeat (first | refine blk_drewN ?_ _ | refine blk_drew ?_ | refine blk_alloc ?_ _)); refine blk_put (cs := #[.bool x186000_61, .bool x186001_61, .int .i64 x186002_61, .int .u64 x186003_61, .slice none 0 0]) ?_ 0 _ rfl; (with_reducible repeat (first | refine blk_drewN ?_ _ | refine blk_drew ?_ | refine blk_alloc ?_ _)); exact BK185.out) Tryz.underlying31 rfl (by kernel_rfl)) rfl ?_
                                              exact ⟨_, by first | rfl | (simp [errW_none, errW_some] <;> rfl) | (simp [*, errW_none, errW_some] <;> rfl), by first | exact Kd.R_nil _ _ _ _ _ | exact Kd.N_nil _ _ _ _ _ | exact Kd.V_nil _ _ _ _ _ | exact Kd.Q_nil _ _ _ _ _ | exact Kd.S_nil _ _ _ _ _, by repeat (first | (with_reducible first | exact HB.out | apply below_alloc | apply pw_below_drewN | apply below_drew1 | refine below_set ?_ GE185.out | refine below_set ?_ GE203.out | refine below_set ?_ GE204.out) | exact HB.out)⟩
                                            · rw [if_neg c83] at H
                                              have c83b0 : decide ((t186.length : Int) ≤ x10_61) = false := decide_eq_false c83
                                              clear c83
                                              by_cases c87 : 0 ≤ x10_61
                                              · rw [if_pos c87] at H
                                                have c87b0 : decide (0 ≤ x10_61) = true := decide_eq_true c87
                                                clear c87
                                                by_cases c88 : x10_61 < (t186.length : Int)
                                                · rw [if_pos c88] at H
                                                  have c88b0 : decide (x10_61 < (t186.length : Int)) = true := decide_eq_true c88
                                                  clear c88
                                                  replace H := Option.bind_eq_some_iff.mp H
                                                  obtain ⟨⟨t213, t214⟩, A890, H⟩ := H
                                                  replace H : (if t214 = true then (if x204004_3.length < 5864062014805 then (paternosterref24_Parse.l0 kj61 t186 (wrap64 (x10_61 + 1)) ((rdOf ByteArray.empty t186 0).toList == ([109, 97, 105, 110, 115] : List UInt8)) ((rdOf ByteArray.empty t186 1).toList == ([103, 101, 110] : List UInt8)) t196 t199 (x204004_3 ++ [(⟨x205000_4, x205001_61, t213⟩ : S45)])) else (none)) else (some (false, false, 0, 0, ([] : List (S45)), 11))) = some (r1, r2, r3, r4, r5, r6) := H
                                                  have A89 := Aside0.mk A890
                                                  clear A890
                                                  by_cases c90 : t214 = true
                                                  · subst c90
                                                    have H1 : (if x204004_3.length < 5864062014805 then (paternosterref24_Parse.l0 kj61 t186 (wrap64 (x10_61 + 1)) ((rdOf ByteArray.empty t186 0).toList == ([109, 97, 105, 110, 115] : List UInt8)) ((rdOf ByteArray.empty t186 1).toList == ([103, 101, 110] : List UInt8)) t196 t199 (x204004_3 ++ [(⟨x205000_4, x205001_61, t213⟩ : S45)])) else (none)) = some (r1, r2, r3, r4, r5, r6) := by rw [if_pos rfl] at H; exact H
                                                    clear H
                                                    have H := H1
                                                    clear H1
                                                    by_cases c91 : x204004_3.length < 5864062014805
                                                    · rw [if_pos c91] at H
                                                      have LMc91 := Aside0.mk c91
                                                      clear c91
                                                      obtain ⟨y215, hy215⟩ : ∃ y_ : List (S45), y_ = (x204004_3 ++ [(⟨x205000_4, x205001_61, t213⟩ : S45)]) := ⟨_, rfl⟩
                                                      replace H : (paternosterref24_Parse.l0 kj61 t186 (wrap64 (x10_61 + 1)) ((rdOf ByteArray.empty t186 0).toList == ([109, 97, 105, 110, 115] : List UInt8)) ((rdOf ByteArray.empty t186 1).toList == ([103, 101, 110] : List UInt8)) t196 t199 y215) = some (r1, r2, r3, r4, r5, r6) := by first | (rw [hy215]; with_reducible exact H) | (have H2_ := (Option.bind_some _ _).symm.trans H; rw [hy215]; with_reducible exact H2_) | (have H2_ := (Option.bind_some _ _).symm.trans H; with_reducible exact H2_) | with_reducible exact H | (rw [hy215]; exact H) | exact H
                                                      have Ny215 := Aside0.mk hy215
                                                      clear hy215
                                                      have H' := Aside0.mk H
                                                      clear H
                                                      have p212 : 0 ≤ (x10_61 : Int) := of_decide_eq_true (by first | (with_reducible assumption) | assumption)
                                                      have q212 : x10_61 < (t186.length : Int) := of_decide_eq_true (by first | (with_reducible assumption) | assumption)
                                                      obtain ⟨ad212, e212, hx212_0⟩ := Kd.at_string (Kd.R_reads' HO_4.out).2.2 x10_61 p212 q212
                                                      obtain rfl : ad195 = ad212 := (by injection e212)
                                                      replace p212 := eq_true p212
                                                      replace q212 := eq_true q212
                                                      go_wp2_with (first | ((with_reducible refine gate_callee (f := 30) rfl ?_); refine goesL_ (some 151) rfl rfl Tryz.func30 (by kernel_rfl) rfl #[.string (rdOf ByteArray.empty t186 x10_61)] rfl (by (try simp only [List.map_toArray, List.map_cons, List.map_nil]); first | done | rfl | (simp only [List.length_drop, List.length_take]; rfl)) ?_; (with_reducible refine (paternosterref24_number.calls kj61 (rdOf ByteArray.empty t186 x10_61) t213 true _ A89.out).mono ?_); rintro e w' ⟨rfl, ⟨nd, rfl⟩⟩; refine ⟨_, rfl, ?_⟩; (try (rw [drewN_self wc]; generalize hq_ : World.drewN wc _ = wc; have n0_ : Aside0 (Kd.R k45 45 wc w.heap.size (fun k_ => k_ ≠ gb204) u204004 x204004_3) := ⟨by rw [← hq_]; exact (by (with_reducible repeat (first | apply Kd.R_alloc | apply Kd.R_drewN | apply Kd.R_drew)); exact HO_204004.out)⟩; have n1_ : Aside0 (Kd.R Kd.string 9 wc w.heap.size (fun _ => True) (.slice (some ad195) t186.length co30) t186) := ⟨by rw [← hq_]; exact (by (with_reducible repeat (first | apply Kd.R_alloc | apply Kd.R_drewN | apply Kd.R_drew)); exact HO_4.out)⟩; have n2_ : Aside0 (wc.heap[gb185]? = some (.cells #[.bool x186000_61, .bool x186001_61, .int .i64 x186002_61, .int .u64 x186003_61, .slice none 0 0] 31 (0, 0))) := ⟨by rw [← hq_]; exact (by (with_reducible repeat (first | refine blk_drewN ?_ _ | refine blk_drew ?_ | refine blk_alloc ?_ _)); exact BK185.out)⟩; have n3_ : Aside0 (wc.heap[gb203]? = some (.cells #[.bool ((rdOf ByteArray.empty t186 0).toList == ([109, 97, 105, 110, 115] : List UInt8)), .bool ((rdOf ByteArray.empty t186 1).toList == ([103, 101, 110] : List UInt8)), .int .i64 t196, .int .u64 t199, u204004] 31 (0, 0))) := ⟨by rw [← hq_]; exact (by (with_reducible repeat (first | refine blk_drewN ?_ _ | refine blk_drew ?_ | refine blk_alloc ?_ _)); exact BK203.out)⟩; have n4_ : Aside0 (wc.heap[gb204]? = some (.cells #[.int .i64 x205000_4, .int .i64 x205001_61, .int .i64 0] 45 (0, 0))) := ⟨by rw [← hq_]; exact (by (with_reducible repeat (first | refine blk_drewN ?_ _ | refine blk_drew ?_ | refine blk_alloc ?_ _)); exact BK204.out)⟩; have n5_ : Aside0 (Below w.heap.size w wc) := ⟨by rw [← hq_]; exact (by repeat (first | (with_reducible first | exact HB.out | apply below_alloc | apply pw_below_drewN | apply below_drew1 | refine below_set ?_ GE185.out | refine below_set ?_ GE203.out | refine below_set ?_ GE204.out) | exact HB.out))⟩; clear HO_204004 HO_4 BK185 BK203 BK204 HB hq_; have HO_204004 := n0_; have HO_4 := n1_; have BK185 := n2_; have BK203 := n3_; have BK204 := n4_; have HB := n5_; clear n0_ n1_ n2_ n3_ n4_ n5_)); have hnb92 := NB204_185.out; have hnc92 := NB185_204.out; have hnb93 := NB204_203.out; have hnc93 := NB203_204.out; have hcz94_0 : wc.cell? ⟨gb204, 0, none⟩ = some (.int .i64 x205000_4) := (blk_cell BK204.out 0).trans rfl; have hcz94_1 : wc.cell? ⟨gb204, 1, none⟩ = some (.int .i64 x205001_61) := (blk_cell BK204.out 1).trans rfl; have hcz94_2 : wc.cell? ⟨gb204, 2, none⟩ = some (.int .i64 0) := (blk_cell BK204.out 2).trans rfl; have hfz94_0 := blk_frozen BK204.out 0; have hfz94_1 := blk_frozen BK204.out 1; have hfz94_2 := blk_frozen BK204.out 2; have hnb95 := NB203_185.out; have hnc95 := NB185_203.out; have hcz96_0 : wc.cell? ⟨gb203, 0, none⟩ = some (.bool ((rdOf ByteArray.empty t186 0).toList == ([109, 97, 105, 110, 115] : List UInt8))) := (blk_cell BK203.out 0).trans rfl; have hcz96_1 : wc.cell? ⟨gb203, 1, none⟩ = some (.bool ((rdOf ByteArray.empty t186 1).toList == ([103, 101, 110] : List UInt8))) := (blk_cell BK203.out 1).trans rfl; have hcz96_2 : wc.cell? ⟨gb203, 2, none⟩ = some (.int .i64 t196) := (blk_cell BK203.out 2).trans rfl; have hcz96_3 : wc.cell? ⟨gb203, 3, none⟩ = some (.int .u64 t199) := (blk_cell BK203.out 3).trans rfl; have hcz96_4 : wc.cell? ⟨gb203, 4, none⟩ = some (u204004) := (blk_cell BK203.out 4).trans rfl; have hfz96_0 := blk_frozen BK203.out 0; have hfz96_1 := blk_frozen BK203.out 1; have hfz96_2 := blk_frozen BK203.out 2; have hfz96_3 := blk_frozen BK203.out 3; have hfz96_4 := blk_frozen BK203.out 4) | ((with_reducible refine gate_builtin (b := .append) (xs := #[.tmp 162, .tmp 164]) rfl ?_); at_builtin; refine Kd.R_append k45 (w0 := w) w.heap.size rfl (.tmp 162) (.tmp 164) 29 45 (.agg #[(.int .i64 0), (.int .i64 0), (.int .i64 0)]) 24 rfl Tryz.underlying29 info45 rfl (by decide) (by omega) u204004 x204004_3 (⟨x205000_4, x205001_61, t213⟩ : S45) [.int .i64 x205000_4, .int .i64 x205001_61, .int .i64 t213] (fun k_ => k_ ≠ gb204) (fun _ => False) rfl (by first | (go_simp; done) | (go_simp; rfl)) ?aP (fun _ hk => hk.elim) ?aF ?aO ?aB ?aS ?aL ?_; (case aP => exact k45_mkM _ _ _ (⟨x205000_4, x205001_61, t213⟩ : S45)); (case aB => exact (by repeat (first | (with_reducible first | exact HB.out | apply below_alloc | apply pw_below_drewN | apply below_drew1 | refine below_set ?_ GE185.out | refine below_set ?_ GE203.out | refine below_set ?_ GE204.out) | exact HB.out))); (case aF => exact (fun k_ hk => Kd.freshB (g := gb204) (o := .cells #[.int .i64 x205000_4, .int .i64 x205001_61, .int .i64 t213] 45 (0, 0)) (by (with_reducible repeat (first | refine blk_drewN ?_ _ | refine blk_drew ?_ | refine blk_alloc ?_ _)); refine blk_put (cs := #[.int .i64 x205000_4, .int .i64 x205001_61, .int .i64 0]) ?_ 2 _ rfl; (with_reducible repeat (first | refine blk_drewN ?_ _ | refine blk_drew ?_ | refine blk_alloc ?_ _)); exact BK204.out) k_ hk)); (case aO => exact (by (with_reducible repeat (first | apply Kd.R_alloc | apply Kd.R_drewN | apply Kd.R_drew)); exact Kd.R_mono (Kd.R_far (p := ⟨gb204, 2, none⟩) (Kd.R_mono HO_204004.out (fun k_ hk => (⟨hk, hk⟩ : _ ∧ k_ ≠ gb204))) (fun _ hk => hk.2) (.int .i64 t213)) (fun _ hk => hk.1))); (case aS => exact (below_size (by repeat (first | (with_reducible first | exact HB.out | apply below_alloc | apply pw_below_drewN | apply below_drew1 | refine below_set ?_ GE185.out | refine below_set ?_ GE203.out | refine below_set ?_ GE204.out) | exact HB.out)))); (case aL => have := LMc91.out; omega); intro v216 w97 ho hb hg hat; rw [← Ny215.out] at ho; have n0_ := Aside0.mk (Kd.R_over' (by (with_reducible repeat (first | apply Kd.R_alloc | apply Kd.R_drewN | apply Kd.R_drew)); exact (Kd.R_mono (Kd.R_far (p := ⟨gb204, 2, none⟩) (Kd.R_types HO_4.out BK204.out (by decide)) (fun _ hk => hk.2) (.int .i64 t213)) (fun _ h_ => h_.1))) (Kd.R_typed (by (with_reducible repeat (first | apply Kd.R_alloc | apply Kd.R_drewN | apply Kd.R_drew)); exact (Kd.R_mono (Kd.R_far (p := ⟨gb204, 2, none⟩) (Kd.R_mono HO_204004.out (fun k_ hk => (⟨hk, hk⟩ : _ ∧ k_ ≠ gb204))) (fun _ hk => hk.2) (.int .i64 t213)) (fun _ h_ => h_.1)))) (by decide) hg); have n1_ := Aside0.mk (blk_grown (g := gb185) (o := .cells #[.bool x186000_61, .bool x186001_61, .int .i64 x186002_61, .int .u64 x186003_61, .slice none 0 0] 31 (0, 0)) (by (with_reducible repeat (first | refine blk_drewN ?_ _ | refine blk_drew ?_ | refine blk_alloc ?_ _)); refine blk_far ?_ NB185_204.out _; (with_reducible repeat (first | refine blk_drewN ?_ _ | refine blk_drew ?_ | refine blk_alloc ?_ _)); exact BK185.out) hg (Kd.R_ne HO_204004.out BK185.out (by decide))); have n2_ := Aside0.mk (blk_grown (g := gb203) (o := .cells #[.bool ((rdOf ByteArray.empty t186 0).toList == ([109, 97, 105, 110, 115] : List UInt8)), .bool ((rdOf ByteArray.empty t186 1).toList == ([103, 101, 110] : List UInt8)), .int .i64 t196, .int .u64 t199, u204004] 31 (0, 0)) (by (with_reducible repeat (first | refine blk_drewN ?_ _ | refine blk_drew ?_ | refine blk_alloc ?_ _)); refine blk_far ?_ NB203_204.out _; (with_reducible repeat (first | refine blk_drewN ?_ _ | refine blk_drew ?_ | refine blk_alloc ?_ _)); exact BK203.out) hg (Kd.R_ne HO_204004.out BK203.out (by decide))); have n3_ := Aside0.mk (blk_grown (g := gb204) (o := .cells #[.int .i64 x205000_4, .int .i64 x205001_61, .int .i64 t213] 45 (0, 0)) (by (with_reducible repeat (first | refine blk_drewN ?_ _ | refine blk_drew ?_ | refine blk_alloc ?_ _)); refine blk_put (cs := #[.int .i64 x205000_4, .int .i64 x205001_61, .int .i64 0]) ?_ 2 _ rfl; (with_reducible repeat (first | refine blk_drewN ?_ _ | refine blk_drew ?_ | refine blk_alloc ?_ _)); exact BK204.out) hg (Kd.R_away HO_204004.out (fun _ hk => hk))); have n4_ := Aside0.mk (hb); have n5_ := Aside0.mk (ho); clear HO_4; clear BK185; clear BK203; clear BK204; clear HB; clear HO_204004; have HO_4 := n0_; have BK185 := n1_; have BK203 := n2_; have BK204 := n3_; have HB := n4_; have HO217 := n5_; clear n0_ n1_ n2_ n3_ n4_ n5_; clear ho hb hg hat; obtain ⟨Ao98, co98, eo98⟩ := Kd.R_slice HO217.out; subst eo98; have hcz99_0 : w97.cell? ⟨gb203, 0, none⟩ = some (.bool ((rdOf ByteArray.empty t186 0).toList == ([109, 97, 105, 110, 115] : List UInt8))) := (blk_cell BK203.out 0).trans rfl; have hcz99_1 : w97.cell? ⟨gb203, 1, none⟩ = some (.bool ((rdOf ByteArray.empty t186 1).toList == ([103, 101, 110] : List UInt8))) := (blk_cell BK203.out 1).trans rfl; have hcz99_2 : w97.cell? ⟨gb203, 2, none⟩ = some (.int .i64 t196) := (blk_cell BK203.out 2).trans rfl; have hcz99_3 : w97.cell? ⟨gb203, 3, none⟩ = some (.int .u64 t199) := (blk_cell BK203.out 3).trans rfl; have hcz99_4 : w97.cell? ⟨gb203, 4, none⟩ = some (u204004) := (blk_cell BK203.out 4).trans rfl; have hfz99_0 := blk_frozen BK203.out 0; have hfz99_1 := blk_frozen BK203.out 1; have hfz99_2 := blk_frozen BK203.out 2; have hfz99_3 := blk_frozen BK203.out 3; have hfz99_4 := blk_frozen BK203.out 4))
                                                      go_roundg kj61
                                                      case measure => have := HJ5.out; have := HJ28.out; have := HK3.out; have := HK4.out; have := HJ61.out; omega
                                                      case rel => exact ⟨(wrap64 (x10_61 + 1)), (x186000_61), (x186001_61), (x186002_61), (x186003_61), (y215), (.slice Ao98 y215.length co98), (by first | rfl | (simp; done) | (simp [*]; done)), H', ⟨by have := HJ5.out; have := HJ28.out; have := HK3.out; have := HK4.out; have := HJ61.out; omega⟩, ⟨by (with_reducible repeat (first | apply Kd.R_alloc | apply Kd.R_drewN | apply Kd.R_drew)); exact Kd.R_mono (Kd.R_far (p := ⟨gb203, 4, none⟩) (Kd.R_types HO_4.out BK203.out (by decide)) (fun _ hk => hk.2) (.slice Ao98 y215.length co98)) (fun _ hk => trivial)⟩, ⟨by (with_reducible repeat (first | apply Kd.R_alloc | apply Kd.R_drewN | apply Kd.R_drew)); exact Kd.R_mono (Kd.R_far (p := ⟨gb203, 4, none⟩) (Kd.R_types HO217.out BK203.out (by decide)) (fun _ hk => hk.2) (.slice Ao98 y215.length co98)) (fun _ hk => trivial)⟩, ⟨by (with_reducible repeat (first | refine blk_drewN ?_ _ | refine blk_drew ?_ | refine blk_alloc ?_ _)); refine blk_far ?_ NB185_203.out _; (with_reducible repeat (first | refine blk_drewN ?_ _ | refine blk_drew ?_ | refine blk_alloc ?_ _)); exact BK185.out⟩, ⟨by (with_reducible repeat (first | refine blk_drewN ?_ _ | refine blk_drew ?_ | refine blk_alloc ?_ _)); refine blk_put (cs := #[.bool ((rdOf ByteArray.empty t186 0).toList == ([109, 97, 105, 110, 115] : List UInt8)), .bool ((rdOf ByteArray.empty t186 1).toList == ([103, 101, 110] : List UInt8)), .int .i64 t196, .int .u64 t199, u204004]) ?_ 4 _ rfl; (with_reducible repeat (first | refine blk_drewN ?_ _ | refine blk_drew ?_ | refine blk_alloc ?_ _)); exact BK203.out⟩, ⟨by repeat (first | (with_reducible first | exact HB.out | apply below_alloc | apply pw_below_drewN | apply below_drew1 | refine below_set ?_ GE185.out | refine below_set ?_ GE203.out | refine below_set ?_ GE204.out) | exact HB.out)⟩⟩
                                                    · rw [if_neg c91] at H
                                                      exact absurd H (by simp)
                                                  · replace c90 := Bool.eq_false_iff.mpr c90
                                                    subst c90
                                                    have H1 : (some (false, false, 0, 0, ([] : List (S45)), 11)) = some (r1, r2, r3, r4, r5, r6) := by rw [if_neg (show ¬ (false = true) by decide)] at H; exact H
                                                    clear H
                                                    have H := H1
                                                    clear H1
                                                    simp only [Option.some.injEq, Prod.mk.injEq] at H
                                                    obtain ⟨rfl, rfl, rfl, rfl, rfl, rfl⟩ := H
                                                    have p212 : 0 ≤ (x10_61 : Int) := of_decide_eq_true (by first | (with_reducible assumption) | assumption)
                                                    have q212 : x10_61 < (t186.length : Int) := of_decide_eq_true (by first | (with_reducible assumption) | assumption)
                                                    obtain ⟨ad212, e212, hx212_0⟩ := Kd.at_string (Kd.R_reads' HO_4.out).2.2 x10_61 p212 q212
                                                    obtain rfl : ad195 = ad212 := (by injection e212)
                                                    replace p212 := eq_true p212
                                                    replace q212 := eq_true q212
                                                    go_wp2_with (first | ((with_reducible refine gate_callee (f := 30) rfl ?_); refine goesL_ (some 151) rfl rfl Tryz.func30 (by kernel_rfl) rfl #[.string (rdOf ByteArray.empty t186 x10_61)] rfl (by (try simp only [List.map_toArray, List.map_cons, List.map_nil]); first | done | rfl | (simp only [List.length_drop, List.length_take]; rfl)) ?_; (with_reducible refine (paternosterref24_number.calls kj61 (rdOf ByteArray.empty t186 x10_61) t213 false _ A89.out).mono ?_); rintro e w' ⟨rfl, ⟨nd, rfl⟩⟩; refine ⟨_, rfl, ?_⟩; (try (rw [drewN_self wc]; generalize hq_ : World.drewN wc _ = wc; have n0_ : Aside0 (Kd.R k45 45 wc w.heap.size (fun k_ => k_ ≠ gb204) u204004 x204004_3) := ⟨by rw [← hq_]; exact (by (with_reducible repeat (first | apply Kd.R_alloc | apply Kd.R_drewN | apply Kd.R_drew)); exact HO_204004.out)⟩; have n1_ : Aside0 (Kd.R Kd.string 9 wc w.heap.size (fun _ => True) (.slice (some ad195) t186.length co30) t186) := ⟨by rw [← hq_]; exact (by (with_reducible repeat (first | apply Kd.R_alloc | apply Kd.R_drewN | apply Kd.R_drew)); exact HO_4.out)⟩; have n2_ : Aside0 (wc.heap[gb185]? = some (.cells #[.bool x186000_61, .bool x186001_61, .int .i64 x186002_61, .int .u64 x186003_61, .slice none 0 0] 31 (0, 0))) := ⟨by rw [← hq_]; exact (by (with_reducible repeat (first | refine blk_drewN ?_ _ | refine blk_drew ?_ | refine blk_alloc ?_ _)); exact BK185.out)⟩; have n3_ : Aside0 (wc.heap[gb203]? = some (.cells #[.bool ((rdOf ByteArray.empty t186 0).toList == ([109, 97, 105, 110, 115] : List UInt8)), .bool ((rdOf ByteArray.empty t186 1).toList == ([103, 101, 110] : List UInt8)), .int .i64 t196, .int .u64 t199, u204004] 31 (0, 0))) := ⟨by rw [← hq_]; exact (by (with_reducible repeat (first | refine blk_drewN ?_ _ | refine blk_drew ?_ | refine blk_alloc ?_ _)); exact BK203.out)⟩; have n4_ : Aside0 (wc.heap[gb204]? = some (.cells #[.int .i64 x205000_4, .int .i64 x205001_61, .int .i64 0] 45 (0, 0))) := ⟨by rw [← hq_]; exact (by (with_reducible repeat (first | refine blk_drewN ?_ _ | refine blk_drew ?_ | refine blk_alloc ?_ _)); exact BK204.out)⟩; have n5_ : Aside0 (Below w.heap.size w wc) := ⟨by rw [← hq_]; exact (by repeat (first | (with_reducible first | exact HB.out | apply below_alloc | apply pw_below_drewN | apply below_drew1 | refine below_set ?_ GE185.out | refine below_set ?_ GE203.out | refine below_set ?_ GE204.out) | exact HB.out))⟩; clear HO_204004 HO_4 BK185 BK203 BK204 HB hq_; have HO_204004 := n0_; have HO_4 := n1_; have BK185 := n2_; have BK203 := n3_; have BK204 := n4_; have HB := n5_; clear n0_ n1_ n2_ n3_ n4_ n5_)); have hnb100 := NB185_203.out; have hnc100 := NB203_185.out; have hnb101 := NB185_204.out; have hnc101 := NB204_185.out; have hcz102_0 : wc.cell? ⟨gb185, 0, none⟩ = some (.bool x186000_61) := (blk_cell BK185.out 0).trans rfl; have hcz102_1 : wc.cell? ⟨gb185, 1, none⟩ = some (.bool x186001_61) := (blk_cell BK185.out 1).trans rfl; have hcz102_2 : wc.cell? ⟨gb185, 2, none⟩ = some (.int .i64 x186002_61) := (blk_cell BK185.out 2).trans rfl; have hcz102_3 : wc.cell? ⟨gb185, 3, none⟩ = some (.int .u64 x186003_61) := (blk_cell BK185.out 3).trans rfl; have hcz102_4 : wc.cell? ⟨gb185, 4, none⟩ = some (.slice none 0 0) := (blk_cell BK185.out 4).trans rfl; have hfz102_0 := blk_frozen BK185.out 0; have hfz102_1 := blk_frozen BK185.out 1; have hfz102_2 := blk_frozen BK185.out 2; have hfz102_3 := blk_frozen BK185.out 3; have hfz102_4 := blk_frozen BK185.out 4))
                                                    refine bodyPost_ret (results_ct rfl _ _ gb185 31 #[.bool false, .bool false, .int .i64 0, .int .u64 0, .slice none 0 0] (0, 0) _ rfl (by (with_reducible repeat (first | refine blk_drewN ?_ _ | refine blk_drew ?_ | refine blk_alloc ?_ _)); refine blk_put (cs := #[.bool false, .bool false, .int .i64 0, .int .u64 0, .slice none 0 0]) ?_ 4 _ rfl; (with_reducible repeat (first | refine blk_drewN ?_ _ | refine blk_drew ?_ | refine blk_alloc ?_ _)); refine blk_put (cs := #[.bool false, .bool false, .int .i64 0, .int .u64 x186003_61, .slice none 0 0]) ?_ 3 _ rfl; (with_reducible repeat (first | refine blk_drewN ?_ _ | refine blk_drew ?_ | refine blk_alloc ?_ _)); refine blk_put (cs := #[.bool false, .bool false, .int .i64 x186002_61, .int .u64 x186003_61, .slice none 0 0]) ?_ 2 _ rfl; (with_reducible repeat (first | refine blk_drewN ?_ _ | refine blk_drew ?_ | refine blk_alloc ?_ _)); refine blk_put (cs := #[.bool false, .bool x186001_61, .int .i64 x186002_61, .int .u64 x186003_61, .slice none 0 0]) ?_ 1 _ rfl; (with_reducible repeat (first | refine blk_drewN ?_ _ | refine blk_drew ?_ | refine blk_alloc ?_ _)); refine blk_put (cs := #[.bool x186000_61, .bool x186001_61, .int .i64 x186002_61, .int .u64 x186003_61, .slice none 0 0]) ?_ 0 _ rfl; (with_reducible repeat (first | refine blk_drewN ?_ _ | refine blk_drew ?_ | refine blk_alloc ?_ _)); exact BK185.out) Tryz.underlying31 rfl (by kernel_rfl)) rfl ?_
                                                    exact ⟨_, by first | rfl | (simp [errW_none, errW_some] <;> rfl) | (simp [*, errW_none, errW_some] <;> rfl), by first | exact Kd.R_nil _ _ _ _ _ | exact Kd.N_nil _ _ _ _ _ | exact Kd.V_nil _ _ _ _ _ | exact Kd.Q_nil _ _ _ _ _ | exact Kd.S_nil _ _ _ _ _, by repeat (first | (with_reducible first | exact HB.out | apply below_alloc | apply pw_below_drewN | apply below_drew1 | refine below_set ?_ GE185.out | refine below_set ?_ GE203.out | refine below_set ?_ GE204.out) | exact HB.out)⟩
                                                · rw [if_neg c88] at H
                                                  exact absurd H (by simp)
                                              · rw [if_neg c87] at H
                                                exact absurd H (by simp)
                                          · replace c82 := Bool.eq_false_iff.mpr c82
                                            subst c82
                                            have H1 : (if x204004_3.length < 5864062014805 then (paternosterref24_Parse.l0 kj61 t186 x10_61 ((rdOf ByteArray.empty t186 0).toList == ([109, 97, 105, 110, 115] : List UInt8)) ((rdOf ByteArray.empty t186 1).toList == ([103, 101, 110] : List UInt8)) t196 t199 (x204004_3 ++ [(⟨x205000_4, x205001_61, 0⟩ : S45)])) else (none)) = some (r1, r2, r3, r4, r5, r6) := by rw [if_neg (show ¬ (false = true) by decide)] at H; exact H
                                            clear H
                                            have H := H1
                                            clear H1
                                            by_cases c103 : x204004_3.length < 5864062014805
                                            · rw [if_pos c103] at H
                                              have LMc103 := Aside0.mk c103
                                              clear c103
                                              obtain ⟨y218, hy218⟩ : ∃ y_ : List (S45), y_ = (x204004_3 ++ [(⟨x205000_4, x205001_61, 0⟩ : S45)]) := ⟨_, rfl⟩
                                              replace H : (paternosterref24_Parse.l0 kj61 t186 x10_61 ((rdOf ByteArray.empty t186 0).toList == ([109, 97, 105, 110, 115] : List UInt8)) ((rdOf ByteArray.empty t186 1).toList == ([103, 101, 110] : List UInt8)) t196 t199 y218) = some (r1, r2, r3, r4, r5, r6) := by first | (rw [hy218]; with_reducible exact H) | (have H2_ := (Option.bind_some _ _).symm.trans H; rw [hy218]; with_reducible exact H2_) | (have H2_ := (Option.bind_some _ _).symm.trans H; with_reducible exact H2_) | with_reducible exact H | (rw [hy218]; exact H) | exact H
                                              have Ny218 := Aside0.mk hy218
                                              clear hy218
                                              have H' := Aside0.mk H
                                              clear H
                                              have hnb104 := NB203_185.out
                                              have hnc104 := NB185_203.out
                                              have hnb105 := NB203_204.out
                                              have hnc105 := NB204_203.out
                                              have hcz106_0 : wc.cell? ⟨gb203, 0, none⟩ = some (.bool ((rdOf ByteArray.empty t186 0).toList == ([109, 97, 105, 110, 115] : List UInt8))) := (blk_cell BK203.out 0).trans rfl
                                              have hcz106_1 : wc.cell? ⟨gb203, 1, none⟩ = some (.bool ((rdOf ByteArray.empty t186 1).toList == ([103, 101, 110] : List UInt8))) := (blk_cell BK203.out 1).trans rfl
                                              have hcz106_2 : wc.cell? ⟨gb203, 2, none⟩ = some (.int .i64 t196) := (blk_cell BK203.out 2).trans rfl
                                              have hcz106_3 : wc.cell? ⟨gb203, 3, none⟩ = some (.int .u64 t199) := (blk_cell BK203.out 3).trans rfl
                                              have hcz106_4 : wc.cell? ⟨gb203, 4, none⟩ = some (u204004) := (blk_cell BK203.out 4).trans rfl
                                              have hfz106_0 := blk_frozen BK203.out 0
                                              have hfz106_1 := blk_frozen BK203.out 1
                                              have hfz106_2 := blk_frozen BK203.out 2
                                              have hfz106_3 := blk_frozen BK203.out 3
                                              have hfz106_4 := blk_frozen BK203.out 4
                                              have hnb107 := NB204_185.out
                                              have hnc107 := NB185_204.out
                                              have hcz108_0 : wc.cell? ⟨gb204, 0, none⟩ = some (.int .i64 x205000_4) := (blk_cell BK204.out 0).trans rfl
                                              have hcz108_1 : wc.cell? ⟨gb204, 1, none⟩ = some (.int .i64 x205001_61) := (blk_cell BK204.out 1).trans rfl
                                              have hcz108_2 : wc.cell? ⟨gb204, 2, none⟩ = some (.int .i64 0) := (blk_cell BK204.out 2).trans rfl
                                              have hfz108_0 := blk_frozen BK204.out 0
                                              have hfz108_1 := blk_frozen BK204.out 1
                                              have hfz108_2 := blk_frozen BK204.out 2
                                              go_wp2_with (first | ((with_reducible refine gate_builtin (b := .append) (xs := #[.tmp 162, .tmp 164]) rfl ?_); at_builtin; refine Kd.R_append k45 (w0 := w) w.heap.size rfl (.tmp 162) (.tmp 164) 29 45 (.agg #[(.int .i64 0), (.int .i64 0), (.int .i64 0)]) 24 rfl Tryz.underlying29 info45 rfl (by decide) (by omega) u204004 x204004_3 (⟨x205000_4, x205001_61, 0⟩ : S45) [.int .i64 x205000_4, .int .i64 x205001_61, .int .i64 0] (fun k_ => k_ ≠ gb204) (fun _ => False) rfl rfl ?aP (fun _ hk => hk.elim) ?aF ?aO ?aB ?aS ?aL ?_; (case aP => exact k45_mkM _ _ _ (⟨x205000_4, x205001_61, 0⟩ : S45)); (case aB => exact (by repeat (first | (with_reducible first | exact HB.out | apply below_alloc | apply pw_below_drewN | apply below_drew1 | refine below_set ?_ GE185.out | refine below_set ?_ GE203.out | refine below_set ?_ GE204.out) | exact HB.out))); (case aF => exact (fun k_ hk => Kd.freshB (g := gb204) (o := .cells #[.int .i64 x205000_4, .int .i64 x205001_61, .int .i64 0] 45 (0, 0)) (by (with_reducible repeat (first | refine blk_drewN ?_ _ | refine blk_drew ?_ | refine blk_alloc ?_ _)); exact BK204.out) k_ hk)); (case aO => exact (by (with_reducible repeat (first | apply Kd.R_alloc | apply Kd.R_drewN | apply Kd.R_drew)); exact HO_204004.out)); (case aS => exact (below_size (by repeat (first | (with_reducible first | exact HB.out | apply below_alloc | apply pw_below_drewN | apply below_drew1 | refine below_set ?_ GE185.out | refine below_set ?_ GE203.out | refine below_set ?_ GE204.out) | exact HB.out)))); (case aL => have := LMc103.out; omega); intro v219 w109 ho hb hg hat; rw [← Ny218.out] at ho; have n0_ := Aside0.mk (Kd.R_over' (by (with_reducible repeat (first | apply Kd.R_alloc | apply Kd.R_drewN | apply Kd.R_drew)); exact HO_4.out) (Kd.R_typed (by (with_reducible repeat (first | apply Kd.R_alloc | apply Kd.R_drewN | apply Kd.R_drew)); exact HO_204004.out)) (by decide) hg); have n1_ := Aside0.mk (blk_grown (g := gb185) (o := .cells #[.bool x186000_61, .bool x186001_61, .int .i64 x186002_61, .int .u64 x186003_61, .slice none 0 0] 31 (0, 0)) (by (with_reducible repeat (first | refine blk_drewN ?_ _ | refine blk_drew ?_ | refine blk_alloc ?_ _)); exact BK185.out) hg (Kd.R_ne HO_204004.out BK185.out (by decide))); have n2_ := Aside0.mk (blk_grown (g := gb203) (o := .cells #[.bool ((rdOf ByteArray.empty t186 0).toList == ([109, 97, 105, 110, 115] : List UInt8)), .bool ((rdOf ByteArray.empty t186 1).toList == ([103, 101, 110] : List UInt8)), .int .i64 t196, .int .u64 t199, u204004] 31 (0, 0)) (by (with_reducible repeat (first | refine blk_drewN ?_ _ | refine blk_drew ?_ | refine blk_alloc ?_ _)); exact BK203.out) hg (Kd.R_ne HO_204004.out BK203.out (by decide))); have n3_ := Aside0.mk (blk_grown (g := gb204) (o := .cells #[.int .i64 x205000_4, .int .i64 x205001_61, .int .i64 0] 45 (0, 0)) (by (with_reducible repeat (first | refine blk_drewN ?_ _ | refine blk_drew ?_ | refine blk_alloc ?_ _)); exact BK204.out) hg (Kd.R_away HO_204004.out (fun _ hk => hk))); have n4_ := Aside0.mk (hb); have n5_ := Aside0.mk (ho); clear HO_4; clear BK185; clear BK203; clear BK204; clear HB; clear HO_204004; have HO_4 := n0_; have BK185 := n1_; have BK203 := n2_; have BK204 := n3_; have HB := n4_; have HO220 := n5_; clear n0_ n1_ n2_ n3_ n4_ n5_; clear ho hb hg hat; obtain ⟨Ao110, co110, eo110⟩ := Kd.R_slice HO220.out; subst eo110; have hcz111_0 : w109.cell? ⟨gb203, 0, none⟩ = some (.bool ((rdOf ByteArray.empty t186 0).toList == ([109, 97, 105, 110, 115] : List UInt8))) := (blk_cell BK203.out 0).trans rfl; have hcz111_1 : w109.cell? ⟨gb203, 1, none⟩ = some (.bool ((rdOf ByteArray.empty t186 1).toList == ([103, 101, 110] : List UInt8))) := (blk_cell BK203.out 1).trans rfl; have hcz111_2 : w109.cell? ⟨gb203, 2, none⟩ = some (.int .i64 t196) := (blk_cell BK203.out 2).trans rfl; have hcz111_3 : w109.cell? ⟨gb203, 3, none⟩ = some (.int .u64 t199) := (blk_cell BK203.out 3).trans rfl; have hcz111_4 : w109.cell? ⟨gb203, 4, none⟩ = some (u204004) := (blk_cell BK203.out 4).trans rfl; have hfz111_0 := blk_frozen BK203.out 0; have hfz111_1 := blk_frozen BK203.out 1; have hfz111_2 := blk_frozen BK203.out 2; have hfz111_3 := blk_frozen BK203.out 3; have hfz111_4 := blk_frozen BK203.out 4))
                                              go_roundg kj61
                                              case measure => have := HJ5.out; have := HJ28.out; have := HK3.out; have := HK4.out; have := HJ61.out; omega
                                              case rel => exact ⟨(x10_61), (x186000_61), (x186001_61), (x186002_61), (x186003_61), (y218), (.slice Ao110 y218.length co110), (by first | rfl | (simp; done) | (simp [*]; done)), H', ⟨by have := HJ5.out; have := HJ28.out; have := HK3.out; have := HK4.out; have := HJ61.out; omega⟩, ⟨by (with_reducible repeat (first | apply Kd.R_alloc | apply Kd.R_drewN | apply Kd.R_drew)); exact Kd.R_mono (Kd.R_far (p := ⟨gb203, 4, none⟩) (Kd.R_types HO_4.out BK203.out (by decide)) (fun _ hk => hk.2) (.slice Ao110 y218.length co110)) (fun _ hk => trivial)⟩, ⟨by (with_reducible repeat (first | apply Kd.R_alloc | apply Kd.R_drewN | apply Kd.R_drew)); exact Kd.R_mono (Kd.R_far (p := ⟨gb203, 4, none⟩) (Kd.R_types HO220.out BK203.out (by decide)) (fun _ hk => hk.2) (.slice Ao110 y218.length co110)) (fun _ hk => trivial)⟩, ⟨by (with_reducible repeat (first | refine blk_drewN ?_ _ | refine blk_drew ?_ | refine blk_alloc ?_ _)); refine blk_far ?_ NB185_203.out _; (with_reducible repeat (first | refine blk_drewN ?_ _ | refine blk_drew ?_ | refine blk_alloc ?_ _)); exact BK185.out⟩, ⟨by (with_reducible repeat (first | refine blk_drewN ?_ _ | refine blk_drew ?_ | refine blk_alloc ?_ _)); refine blk_put (cs := #[.bool ((rdOf ByteArray.empty t186 0).toList == ([109, 97, 105, 110, 115] : List UInt8)), .bool ((rdOf ByteArray.empty t186 1).toList == ([103, 101, 110] : List UInt8)), .int .i64 t196, .int .u64 t199, u204004]) ?_ 4 _ rfl; (with_reducible repeat (first | refine blk_drewN ?_ _ | refine blk_drew ?_ | refine blk_alloc ?_ _)); exact BK203.out⟩, ⟨by repeat (first | (with_reducible first | exact HB.out | apply below_alloc | apply pw_below_drewN | apply below_drew1 | refine below_set ?_ GE185.out | refine below_set ?_ GE203.out | refine below_set ?_ GE204.out) | exact HB.out)⟩⟩
                                            · rw [if_neg c103] at H
                                              exact absurd H (by simp)
                            · rw [if_neg c43] at H
                              have c43b0 : decide (x10_3 < (t186.length : Int)) = false := decide_eq_false c43
                              clear c43
                              simp only [Option.some.injEq, Prod.mk.injEq] at H
                              obtain ⟨rfl, rfl, rfl, rfl, rfl, rfl⟩ := H
                              have hnb112 := NB203_185.out
                              have hnc112 := NB185_203.out
                              have hcz113_0 : wr.cell? ⟨gb203, 0, none⟩ = some (.bool ((rdOf ByteArray.empty t186 0).toList == ([109, 97, 105, 110, 115] : List UInt8))) := (blk_cell BK203.out 0).trans rfl
                              have hcz113_1 : wr.cell? ⟨gb203, 1, none⟩ = some (.bool ((rdOf ByteArray.empty t186 1).toList == ([103, 101, 110] : List UInt8))) := (blk_cell BK203.out 1).trans rfl
                              have hcz113_2 : wr.cell? ⟨gb203, 2, none⟩ = some (.int .i64 t196) := (blk_cell BK203.out 2).trans rfl
                              have hcz113_3 : wr.cell? ⟨gb203, 3, none⟩ = some (.int .u64 t199) := (blk_cell BK203.out 3).trans rfl
                              have hcz113_4 : wr.cell? ⟨gb203, 4, none⟩ = some (u204004) := (blk_cell BK203.out 4).trans rfl
                              have hfz113_0 := blk_frozen BK203.out 0
                              have hfz113_1 := blk_frozen BK203.out 1
                              have hfz113_2 := blk_frozen BK203.out 2
                              have hfz113_3 := blk_frozen BK203.out 3
                              have hfz113_4 := blk_frozen BK203.out 4
                              have hcz114_0 : wr.cell? ⟨gb185, 0, none⟩ = some (.bool x186000_3) := (blk_cell BK185.out 0).trans rfl
                              have hcz114_1 : wr.cell? ⟨gb185, 1, none⟩ = some (.bool x186001_3) := (blk_cell BK185.out 1).trans rfl
                              have hcz114_2 : wr.cell? ⟨gb185, 2, none⟩ = some (.int .i64 x186002_3) := (blk_cell BK185.out 2).trans rfl
                              have hcz114_3 : wr.cell? ⟨gb185, 3, none⟩ = some (.int .u64 x186003_3) := (blk_cell BK185.out 3).trans rfl
                              have hcz114_4 : wr.cell? ⟨gb185, 4, none⟩ = some (.slice none 0 0) := (blk_cell BK185.out 4).trans rfl
                              have hfz114_0 := blk_frozen BK185.out 0
                              have hfz114_1 := blk_frozen BK185.out 1
                              have hfz114_2 := blk_frozen BK185.out 2
                              have hfz114_3 := blk_frozen BK185.out 3
                              have hfz114_4 := blk_frozen BK185.out 4
                              obtain ⟨Ao115, co115, eo115⟩ := Kd.R_slice HO_204004.out
                              subst eo115
                              go_wp2
                              refine bodyPost_ret (results_ct rfl _ _ gb185 31 #[.bool ((rdOf ByteArray.empty t186 0).toList == ([109, 97, 105, 110, 115] : List UInt8)), .bool ((rdOf ByteArray.empty t186 1).toList == ([103, 101, 110] : List UInt8)), .int .i64 t196, .int .u64 t199, .slice Ao115 x204004_3.length co115] (0, 0) _ rfl (by (with_reducible repeat (first | refine blk_drewN ?_ _ | refine blk_drew ?_ | refine blk_alloc ?_ _)); refine blk_put (cs := #[.bool ((rdOf ByteArray.empty t186 0).toList == ([109, 97, 105, 110, 115] : List UInt8)), .bool ((rdOf ByteArray.empty t186 1).toList == ([103, 101, 110] : List UInt8)), .int .i64 t196, .int .u64 t199, .slice none 0 0]) ?_ 4 _ rfl; (with_reducible repeat (first | refine blk_drewN ?_ _ | refine blk_drew ?_ | refine blk_alloc ?_ _)); refine blk_put (cs := #[.bool ((rdOf ByteArray.empty t186 0).toList == ([109, 97, 105, 110, 115] : List UInt8)), .bool ((rdOf ByteArray.empty t186 1).toList == ([103, 101, 110] : List UInt8)), .int .i64 t196, .int .u64 x186003_3, .slice none 0 0]) ?_ 3 _ rfl; (with_reducible repeat (first | refine blk_drewN ?_ _ | refine blk_drew ?_ | refine blk_alloc ?_ _)); refine blk_put (cs := #[.bool ((rdOf ByteArray.empty t186 0).toList == ([109, 97, 105, 110, 115] : List UInt8)), .bool ((rdOf ByteArray.empty t186 1).toList == ([103, 101, 110] : List UInt8)), .int .i64 x186002_3, .int .u64 x186003_3, .slice none 0 0]) ?_ 2 _ rfl; (with_reducible repeat (first | refine blk_drewN ?_ _ | refine blk_drew ?_ | refine blk_alloc ?_ _)); refine blk_put (cs := #[.bool ((rdOf ByteArray.empty t186 0).toList == ([109, 97, 105, 110, 115] : List UInt8)), .bool x186001_3, .int .i64 x186002_3, .int .u64 x186003_3, .slice none 0 0]) ?_ 1 _ rfl; (with_reducible repeat (first | refine blk_drewN ?_ _ | refine blk_drew ?_ | refine blk_alloc ?_ _)); refine blk_put (cs := #[.bool x186000_3, .bool x186001_3, .int .i64 x186002_3, .int .u64 x186003_3, .slice none 0 0]) ?_ 0 _ rfl; (with_reducible repeat (first | refine blk_drewN ?_ _ | refine blk_drew ?_ | refine blk_alloc ?_ _)); exact BK185.out) Tryz.underlying31 rfl (by kernel_rfl)) rfl ?_
                              exact ⟨_, by first | rfl | (simp [errW_none, errW_some] <;> rfl) | (simp [*, errW_none, errW_some] <;> rfl), by (with_reducible repeat (first | apply Kd.R_alloc | apply Kd.R_drewN | apply Kd.R_drew)); exact Kd.R_mono (Kd.R_far (p := ⟨gb185, 4, none⟩) (Kd.R_far (p := ⟨gb185, 3, none⟩) (Kd.R_far (p := ⟨gb185, 2, none⟩) (Kd.R_far (p := ⟨gb185, 1, none⟩) (Kd.R_far (p := ⟨gb185, 0, none⟩) (Kd.R_types HO_204004.out BK185.out (by decide)) (fun _ hk => hk.2) (.bool ((rdOf ByteArray.empty t186 0).toList == ([109, 97, 105, 110, 115] : List UInt8)))) (fun _ hk => hk.2) (.bool ((rdOf ByteArray.empty t186 1).toList == ([103, 101, 110] : List UInt8)))) (fun _ hk => hk.2) (.int .i64 t196)) (fun _ hk => hk.2) (.int .u64 t199)) (fun _ hk => hk.2) (.slice Ao115 x204004_3.length co115)) (fun _ hk => trivial), by repeat (first | (with_reducible first | exact HB.out | apply below_alloc | apply pw_below_drewN | apply below_drew1 | refine below_set ?_ GE185.out | refine below_set ?_ GE203.out) | exact HB.out)⟩
                      · rw [if_neg c35] at H
                        exact absurd H (by simp)
                    · rw [if_neg c34] at H
                      exact absurd H (by simp)
            · rw [if_neg c27] at H
              exact absurd H (by simp)
          · rw [if_neg c25] at H
            exact absurd H (by simp)
end Go.Proofs.YtglgipggefpoiaaGreatDoor.PAll
end
