/- Texts of mine, put together (no statement stands here). -/
import Derived.Test.YtglgipggefpoiaaGreatDoorCSPuts10
section
namespace Go.Proofs.YtglgipggefpoiaaGreatDoor.PAll
open Go.RowKit Go.Proofs.YtglgipggefpoiaaGreatDoorW.PrintWords Go.Proofs.YtglgipggefpoiaaGreatDoorW.PrintLast Go.Proofs.YtglgipggefpoiaaGreatDoorW.PrintMore
attribute [local go_sem] max2_int min2_int max_two min_two max_three min_three max_four min_four
set_option linter.unusedVariables false
set_option linter.unusedSimpArgs false
mutual
def paternosterref24_Put.j0 : Nat → ByteArray → Bool → Bool → Int → Int → List (S45) → Option (ByteArray)
  | 0, _, _, _, _, _, _ => none
  | k + 1, x3, x155000, x155001, x155002, x155003, x155004 => if x155001 = true then (if x3.size + 4 ≤ 9223372036854775807 then (paternosterref24_Put.j1 k (x3 ++ (⟨#[103, 101, 110, 32]⟩ : ByteArray)) x155000 x155001 x155002 x155003 x155004) else (none)) else (if x3.size + 5 ≤ 9223372036854775807 then (paternosterref24_Put.j1 k (x3 ++ (⟨#[110, 111, 110, 101, 32]⟩ : ByteArray)) x155000 x155001 x155002 x155003 x155004) else (none))
def paternosterref24_Put.j1 : Nat → ByteArray → Bool → Bool → Int → Int → List (S45) → Option (ByteArray)
  | 0, _, _, _, _, _, _ => none
  | k + 1, x3, x155000, x155001, x155002, x155003, x155004 => (paternosterref24_Number.f k x155002).bind fun t155 => (if t155.size + 1 ≤ 9223372036854775807 then ((paternosterref24_Unsigned.f k x155003).bind fun t156 => (if (t155 ++ (⟨#[32]⟩ : ByteArray)).size + t156.size ≤ 9223372036854775807 then (if x3.size + ((t155 ++ (⟨#[32]⟩ : ByteArray)) ++ t156).size ≤ 9223372036854775807 then (paternosterref24_Put.l0 k (x3 ++ ((t155 ++ (⟨#[32]⟩ : ByteArray)) ++ t156)) 0 x155000 x155001 x155002 x155003 x155004) else (none)) else (none))) else (none))
def paternosterref24_Put.l0 : Nat → ByteArray → Int → Bool → Bool → Int → Int → List (S45) → Option (ByteArray)
  | 0, _, _, _, _, _, _, _ => none
  | k + 1, x3, x4, x155000, x155001, x155002, x155003, x155004 => if x4 < (x155004.length : Int) then (if 0 ≤ x4 then ((paternosterref24_Kind.f ((rd_T45 x155004 x4).f0)).bind fun bt159 => (if bt159.1.toList = ([] : List UInt8) then (paternosterref24_Put.l0 k x3 (wrap64 (x4 + 1)) x155000 x155001 x155002 x155003 x155004) else (if 1 + bt159.1.size ≤ 9223372036854775807 then (if x3.size + ((⟨#[32]⟩ : ByteArray) ++ bt159.1).size ≤ 9223372036854775807 then (if bt159.2.1 = true then ((paternosterref24_Number.f k ((rd_T45 x155004 x4).f1)).bind fun t162 => (if 1 + t162.size ≤ 9223372036854775807 then (if (x3 ++ ((⟨#[32]⟩ : ByteArray) ++ bt159.1)).size + ((⟨#[32]⟩ : ByteArray) ++ t162).size ≤ 9223372036854775807 then (if bt159.2.2 = true then ((paternosterref24_Number.f k ((rd_T45 x155004 x4).f2)).bind fun t163 => (if 1 + t163.size ≤ 9223372036854775807 then (if ((x3 ++ ((⟨#[32]⟩ : ByteArray) ++ bt159.1)) ++ ((⟨#[32]⟩ : ByteArray) ++ t162)).size + ((⟨#[32]⟩ : ByteArray) ++ t163).size ≤ 9223372036854775807 then (paternosterref24_Put.l0 k (((x3 ++ ((⟨#[32]⟩ : ByteArray) ++ bt159.1)) ++ ((⟨#[32]⟩ : ByteArray) ++ t162)) ++ ((⟨#[32]⟩ : ByteArray) ++ t163)) (wrap64 (x4 + 1)) x155000 x155001 x155002 x155003 x155004) else (none)) else (none))) else (paternosterref24_Put.l0 k ((x3 ++ ((⟨#[32]⟩ : ByteArray) ++ bt159.1)) ++ ((⟨#[32]⟩ : ByteArray) ++ t162)) (wrap64 (x4 + 1)) x155000 x155001 x155002 x155003 x155004)) else (none)) else (none))) else (if bt159.2.2 = true then ((paternosterref24_Number.f k ((rd_T45 x155004 x4).f2)).bind fun t164 => (if 1 + t164.size ≤ 9223372036854775807 then (if (x3 ++ ((⟨#[32]⟩ : ByteArray) ++ bt159.1)).size + ((⟨#[32]⟩ : ByteArray) ++ t164).size ≤ 9223372036854775807 then (paternosterref24_Put.l0 k ((x3 ++ ((⟨#[32]⟩ : ByteArray) ++ bt159.1)) ++ ((⟨#[32]⟩ : ByteArray) ++ t164)) (wrap64 (x4 + 1)) x155000 x155001 x155002 x155003 x155004) else (none)) else (none))) else (paternosterref24_Put.l0 k (x3 ++ ((⟨#[32]⟩ : ByteArray) ++ bt159.1)) (wrap64 (x4 + 1)) x155000 x155001 x155002 x155003 x155004))) else (none)) else (none)))) else (none)) else (some x3)
end
def paternosterref24_Put.f (k : Nat) (a0_0 : Bool) (a0_1 : Bool) (a0_2 : Int) (a0_3 : Int) (l0_4 : List (S45)) : Option (ByteArray) := if a0_0 = true then (paternosterref24_Put.j0 k (⟨#[109, 97, 105, 110, 115, 32]⟩ : ByteArray) a0_0 a0_1 a0_2 a0_3 l0_4) else (paternosterref24_Put.j0 k (⟨#[110, 111, 110, 101, 32]⟩ : ByteArray) a0_0 a0_1 a0_2 a0_3 l0_4)
def paternosterref24_Put.T7 : Bool × List (List Nat × List Nat) := (true, [([], []), ([], []), ([1], [1]), ([2], [2]), ([3], [3]), ([], []), ([5], [5]), ([6, 3], [6]), ([4, 7], [4, 7]), ([0, 8], [0, 8]), ([9, 7, 0, 1, 2, 3, 4, 5, 6, 7, 8, 9], [0, 9])])
def paternosterref24_Put.B7 : List Nat := [0, 0, 2, 6, 14, 0, 32, 110, 254, 511, 1023]
theorem paternosterref24_Put.tab7 : rtab .any (opsOf Tryz.f9 7) = paternosterref24_Put.T7 := by kernel_rfl
theorem paternosterref24_Put.bits7 : waitsOk paternosterref24_Put.T7.2 paternosterref24_Put.B7 = true := by kernel_rfl
set_option maxHeartbeats 8000000 in
set_option maxRecDepth 100000 in
theorem paternosterref24_Put.calls (k : Nat) (a0_0 : Bool) (a0_1 : Bool) (a0_2 : Int) (a0_3 : Int) (A0_4 : Option Addr) (c0_4 : Nat) (l0_4 : List (S45)) (r : ByteArray) (w : World) (hr0_4 : Kd.C k45 w A0_4 l0_4.length l0_4) (hc0_4 : l0_4.length ≤ c0_4) (h : paternosterref24_Put.f k a0_0 a0_1 a0_2 a0_3 l0_4 = some r) :
    Calls Tryz.prog 9 #[.agg #[.bool a0_0, .bool a0_1, .int .i64 a0_2, .int .u64 a0_3, .slice A0_4 l0_4.length c0_4]] w fun e w' => e = .returned (.string r) ∧ Below w.heap.size w w' := by
  have hu31 := Tryz.underlying31
  have hu45 := Tryz.underlying45
  have HR0_4 := Aside0.mk hr0_4
  have HC0_4 := Aside0.mk hc0_4
  clear hr0_4 hc0_4
  have HB := Aside0.mk (Below.refl w.heap.size w)
  have H : (if a0_0 = true then (paternosterref24_Put.j0 k (⟨#[109, 97, 105, 110, 115, 32]⟩ : ByteArray) a0_0 a0_1 a0_2 a0_3 l0_4) else (paternosterref24_Put.j0 k (⟨#[110, 111, 110, 101, 32]⟩ : ByteArray) a0_0 a0_1 a0_2 a0_3 l0_4)) = some r := h
  clear h
  have HC2 := Aside0.mk H
  clear H
  go_enter Tryz.func9, Tryz.ntmps9
  go_upto_if 10 with (first | ((with_reducible refine gate_dst (N := 1) rfl ?_); refine box_event ?hg (N := 1) ?hd (cs := #[.bool a0_0, .bool a0_1, .int .i64 a0_2, .int .u64 a0_3, .slice A0_4 l0_4.length c0_4]) (t := 31) ?hr ?_; (case hd => rfl); (case hg => rfl); (case hr => first | (go_simp; done) | (go_simp; rfl)); intro gb154 hg w3 hbox hb; have n0_ := Aside0.mk (below_step (by repeat (first | (with_reducible first | exact HB.out | apply below_alloc | apply pw_below_drewN | apply below_drew1) | exact HB.out)) hb); have n1_ := Aside0.mk (hbox); have n2_ := Aside0.mk ((by rw [hg]; exact (below_size (by repeat (first | (with_reducible first | exact HB.out | apply below_alloc | apply pw_below_drewN | apply below_drew1) | exact HB.out))) : w.heap.size ≤ gb154)); have n3_ := Aside0.mk ((by rw [hg]; exact (below_size (by repeat (first | (with_reducible first | exact HB.out | apply below_alloc | apply pw_below_drewN | apply below_drew1) | exact HB.out))) : w.heap.size ≤ gb154)); clear HB; have HB := n0_; have BK154 := n1_; have GW154 := n2_; have GE154 := n3_; clear n0_ n1_ n2_ n3_; clear hb hbox hg; have hcz4_0 : w3.cell? ⟨gb154, 0, none⟩ = some (.bool a0_0) := (blk_cell BK154.out 0).trans rfl; have hcz4_1 : w3.cell? ⟨gb154, 1, none⟩ = some (.bool a0_1) := (blk_cell BK154.out 1).trans rfl; have hcz4_2 : w3.cell? ⟨gb154, 2, none⟩ = some (.int .i64 a0_2) := (blk_cell BK154.out 2).trans rfl; have hcz4_3 : w3.cell? ⟨gb154, 3, none⟩ = some (.int .u64 a0_3) := (blk_cell BK154.out 3).trans rfl; have hcz4_4 : w3.cell? ⟨gb154, 4, none⟩ = some (.slice A0_4 l0_4.length c0_4) := (blk_cell BK154.out 4).trans rfl; have hfz4_0 := blk_frozen BK154.out 0; have hfz4_1 := blk_frozen BK154.out 1; have hfz4_2 := blk_frozen BK154.out 2; have hfz4_3 := blk_frozen BK154.out 3; have hfz4_4 := blk_frozen BK154.out 4))
  (try simp only [Act.put, List.setIfInBounds_toArray, List.set_cons_zero, List.set_cons_succ])
  go_cut [3] (fun v3 wc => ∃ (kq : Nat) (x3_1 : ByteArray), v3 = .string x3_1 ∧ Aside0 (paternosterref24_Put.j0 kq x3_1 a0_0 a0_1 a0_2 a0_3 l0_4 = some r) ∧ Aside0 (kq ≤ k) ∧ Aside0 (wc.heap[gb154]? = some (.cells #[.bool a0_0, .bool a0_1, .int .i64 a0_2, .int .u64 a0_3, (.slice A0_4 l0_4.length c0_4)] 31 (0, 0))) ∧ Aside0 (Below w.heap.size w wc))
  case first =>
    have H := HC2.out
    clear HC2
    by_cases c5 : a0_0 = true
    · subst c5
      have H1 : (paternosterref24_Put.j0 k (⟨#[109, 97, 105, 110, 115, 32]⟩ : ByteArray) true a0_1 a0_2 a0_3 l0_4) = some r := by rw [if_pos rfl] at H; exact H
      clear H
      have H := H1
      clear H1
      have H' := Aside0.mk H
      clear H
      go_wp2
      go_meet
      case rel => exact ⟨_, ((⟨#[109, 97, 105, 110, 115, 32]⟩ : ByteArray)), (by first | rfl | (simp; done) | (simp [*]; done)), H', ⟨by first | omega | exact Nat.le_refl _⟩, ⟨by (with_reducible repeat (first | refine blk_drewN ?_ _ | refine blk_drew ?_ | refine blk_alloc ?_ _)); exact BK154.out⟩, ⟨by repeat (first | (with_reducible first | exact HB.out | apply below_alloc | apply pw_below_drewN | apply below_drew1 | refine below_set ?_ GE154.out) | exact HB.out)⟩⟩
    · replace c5 := Bool.eq_false_iff.mpr c5
      subst c5
      have H1 : (paternosterref24_Put.j0 k (⟨#[110, 111, 110, 101, 32]⟩ : ByteArray) false a0_1 a0_2 a0_3 l0_4) = some r := by rw [if_neg (show ¬ (false = true) by decide)] at H; exact H
      clear H
      have H := H1
      clear H1
      have H' := Aside0.mk H
      clear H
      go_wp2
      go_meet
      case rel => exact ⟨_, ((⟨#[110, 111, 110, 101, 32]⟩ : ByteArray)), (by first | rfl | (simp; done) | (simp [*]; done)), H', ⟨by first | omega | exact Nat.le_refl _⟩, ⟨by (with_reducible repeat (first | refine blk_drewN ?_ _ | refine blk_drew ?_ | refine blk_alloc ?_ _)); exact BK154.out⟩, ⟨by repeat (first | (with_reducible first | exact HB.out | apply below_alloc | apply pw_below_drewN | apply below_drew1 | refine below_set ?_ GE154.out) | exact HB.out)⟩⟩
  case rest =>
    clear HC2
    try clear p2
    try clear c5
    try clear hcz4_0
    try clear hcz4_1
    try clear hcz4_2
    try clear hcz4_3
    try clear hcz4_4
    try clear hfz4_0
    try clear hfz4_1
    try clear hfz4_2
    try clear hfz4_3
    try clear hfz4_4
    obtain ⟨kq, x3_1, rfl, HA, HJ1, BK154, HB⟩ := hcut
    cases kq with
    | zero => exact absurd HA.out (by simp [paternosterref24_Put.j0])
    | succ kj1 =>
      have H := HA.out
      clear HA
      simp only [paternosterref24_Put.j0] at H
      have HC6 := Aside0.mk H
      clear H
      have hcz7_0 : wc.cell? ⟨gb154, 0, none⟩ = some (.bool a0_0) := (blk_cell BK154.out 0).trans rfl
      have hcz7_1 : wc.cell? ⟨gb154, 1, none⟩ = some (.bool a0_1) := (blk_cell BK154.out 1).trans rfl
      have hcz7_2 : wc.cell? ⟨gb154, 2, none⟩ = some (.int .i64 a0_2) := (blk_cell BK154.out 2).trans rfl
      have hcz7_3 : wc.cell? ⟨gb154, 3, none⟩ = some (.int .u64 a0_3) := (blk_cell BK154.out 3).trans rfl
      have hcz7_4 : wc.cell? ⟨gb154, 4, none⟩ = some (.slice A0_4 l0_4.length c0_4) := (blk_cell BK154.out 4).trans rfl
      have hfz7_0 := blk_frozen BK154.out 0
      have hfz7_1 := blk_frozen BK154.out 1
      have hfz7_2 := blk_frozen BK154.out 2
      have hfz7_3 := blk_frozen BK154.out 3
      have hfz7_4 := blk_frozen BK154.out 4
      go_upto_if 12 with (fail)
      go_cut [3] (fun v3 wc => ∃ (kq : Nat) (x3_5 : ByteArray), v3 = .string x3_5 ∧ Aside0 (paternosterref24_Put.j1 kq x3_5 a0_0 a0_1 a0_2 a0_3 l0_4 = some r) ∧ Aside0 (kq ≤ kj1) ∧ Aside0 (wc.heap[gb154]? = some (.cells #[.bool a0_0, .bool a0_1, .int .i64 a0_2, .int .u64 a0_3, (.slice A0_4 l0_4.length c0_4)] 31 (0, 0))) ∧ Aside0 (Below w.heap.size w wc))
      case first =>
        have H := HC6.out
        clear HC6
        by_cases c8 : a0_1 = true
        · subst c8
          have H1 : (if x3_1.size + 4 ≤ 9223372036854775807 then (paternosterref24_Put.j1 kj1 (x3_1 ++ (⟨#[103, 101, 110, 32]⟩ : ByteArray)) a0_0 true a0_2 a0_3 l0_4) else (none)) = some r := by rw [if_pos rfl] at H; exact H
          clear H
          have H := H1
          clear H1
          by_cases c9 : x3_1.size + 4 ≤ 9223372036854775807
          · rw [if_pos c9] at H
            have c9b0 := eq_true c9
            have c9b1 : decide (x3_1.size + 4 ≤ 9223372036854775807) = true := decide_eq_true c9
            try have c9b2 : (9223372036854775807 < x3_1.size + 4) = False := eq_false (Nat.not_lt.2 c9)
            have H' := Aside0.mk H
            clear H
            go_wp2
            go_meet
            case rel => exact ⟨_, (x3_1 ++ (⟨#[103, 101, 110, 32]⟩ : ByteArray)), (by first | rfl | (simp; done) | (simp [*]; done)), H', ⟨by have := HJ1.out; first | omega | exact Nat.le_refl _⟩, ⟨by (with_reducible repeat (first | refine blk_drewN ?_ _ | refine blk_drew ?_ | refine blk_alloc ?_ _)); exact BK154.out⟩, ⟨by repeat (first | (with_reducible first | exact HB.out | apply below_alloc | apply pw_below_drewN | apply below_drew1 | refine below_set ?_ GE154.out) | exact HB.out)⟩⟩
          · rw [if_neg c9] at H
            exact absurd H (by simp)
        · replace c8 := Bool.eq_false_iff.mpr c8
          subst c8
          have H1 : (if x3_1.size + 5 ≤ 9223372036854775807 then (paternosterref24_Put.j1 kj1 (x3_1 ++ (⟨#[110, 111, 110, 101, 32]⟩ : ByteArray)) a0_0 false a0_2 a0_3 l0_4) else (none)) = some r := by rw [if_neg (show ¬ (false = true) by decide)] at H; exact H
          clear H
          have H := H1
          clear H1
          by_cases c10 : x3_1.size + 5 ≤ 9223372036854775807
          · rw [if_pos c10] at H
            have c10b0 := eq_true c10
            have c10b1 : decide (x3_1.size + 5 ≤ 9223372036854775807) = true := decide_eq_true c10
            try have c10b2 : (9223372036854775807 < x3_1.size + 5) = False := eq_false (Nat.not_lt.2 c10)
            have H' := Aside0.mk H
            clear H
            go_wp2
            go_meet
            case rel => exact ⟨_, (x3_1 ++ (⟨#[110, 111, 110, 101, 32]⟩ : ByteArray)), (by first | rfl | (simp; done) | (simp [*]; done)), H', ⟨by have := HJ1.out; first | omega | exact Nat.le_refl _⟩, ⟨by (with_reducible repeat (first | refine blk_drewN ?_ _ | refine blk_drew ?_ | refine blk_alloc ?_ _)); exact BK154.out⟩, ⟨by repeat (first | (with_reducible first | exact HB.out | apply below_alloc | apply pw_below_drewN | apply below_drew1 | refine below_set ?_ GE154.out) | exact HB.out)⟩⟩
          · rw [if_neg c10] at H
            exact absurd H (by simp)
      case rest =>
        clear HC6
        try clear c1
        try clear p2
        try clear c5
        try clear c8
        try clear c9
        try clear c9b0
        try clear c9b1
        try clear c9b2
        try clear c10
        try clear c10b0
        try clear c10b1
        try clear c10b2
        try clear hcz4_0
        try clear hcz4_1
        try clear hcz4_2
        try clear hcz4_3
        try clear hcz4_4
        try clear hcz7_0
        try clear hcz7_1
        try clear hcz7_2
        try clear hcz7_3
        try clear hcz7_4
        try clear hfz4_0
        try clear hfz4_1
        try clear hfz4_2
        try clear hfz4_3
        try clear hfz4_4
        try clear hfz7_0
        try clear hfz7_1
        try clear hfz7_2
        try clear hfz7_3
        try clear hfz7_4
        try clear p2
        obtain ⟨kq, x3_5, rfl, HA, HJ5, BK154, HB⟩ := hcut
        cases kq with
        | zero => exact absurd HA.out (by simp [paternosterref24_Put.j1])
        | succ kj5 =>
          have H := HA.out
          clear HA
          simp only [paternosterref24_Put.j1] at H
          replace H := Option.bind_eq_some_iff.mp H
          obtain ⟨t155, A110, H⟩ := H
          replace H : (if t155.size + 1 ≤ 9223372036854775807 then ((paternosterref24_Unsigned.f kj5 a0_3).bind fun t156 => (if (t155 ++ (⟨#[32]⟩ : ByteArray)).size + t156.size ≤ 9223372036854775807 then (if x3_5.size + ((t155 ++ (⟨#[32]⟩ : ByteArray)) ++ t156).size ≤ 9223372036854775807 then (paternosterref24_Put.l0 kj5 (x3_5 ++ ((t155 ++ (⟨#[32]⟩ : ByteArray)) ++ t156)) 0 a0_0 a0_1 a0_2 a0_3 l0_4) else (none)) else (none))) else (none)) = some r := H
          have A11 := Aside0.mk A110
          clear A110
          by_cases c12 : t155.size + 1 ≤ 9223372036854775807
          · rw [if_pos c12] at H
            have c12b0 := eq_true c12
            have c12b1 : decide (t155.size + 1 ≤ 9223372036854775807) = true := decide_eq_true c12
            try have c12b2 : (9223372036854775807 < t155.size + 1) = False := eq_false (Nat.not_lt.2 c12)
            replace H := Option.bind_eq_some_iff.mp H
            obtain ⟨t156, A130, H⟩ := H
            replace H : (if (t155 ++ (⟨#[32]⟩ : ByteArray)).size + t156.size ≤ 9223372036854775807 then (if x3_5.size + ((t155 ++ (⟨#[32]⟩ : ByteArray)) ++ t156).size ≤ 9223372036854775807 then (paternosterref24_Put.l0 kj5 (x3_5 ++ ((t155 ++ (⟨#[32]⟩ : ByteArray)) ++ t156)) 0 a0_0 a0_1 a0_2 a0_3 l0_4) else (none)) else (none)) = some r := H
            have A13 := Aside0.mk A130
            clear A130
            by_cases c14 : (t155 ++ (⟨#[32]⟩ : ByteArray)).size + t156.size ≤ 9223372036854775807
            · rw [if_pos c14] at H
              have c14b0 := eq_true c14
              have c14b1 : decide ((t155 ++ (⟨#[32]⟩ : ByteArray)).size + t156.size ≤ 9223372036854775807) = true := decide_eq_true c14
              try have c14b2 : (9223372036854775807 < (t155 ++ (⟨#[32]⟩ : ByteArray)).size + t156.size) = False := eq_false (Nat.not_lt.2 c14)
              try (have c14b3 := c14b2; simp only [ByteArray.size_append, show (⟨#[32]⟩ : ByteArray).size = 1 from rfl] at c14b3)
              by_cases c15 : x3_5.size + ((t155 ++ (⟨#[32]⟩ : ByteArray)) ++ t156).size ≤ 9223372036854775807
              · rw [if_pos c15] at H
                have c15b0 := eq_true c15
                have c15b1 : decide (x3_5.size + ((t155 ++ (⟨#[32]⟩ : ByteArray)) ++ t156).size ≤ 9223372036854775807) = true := decide_eq_true c15
                try have c15b2 : (9223372036854775807 < x3_5.size + ((t155 ++ (⟨#[32]⟩ : ByteArray)) ++ t156).size) = False := eq_false (Nat.not_lt.2 c15)
                try (have c15b3 := c15b2; simp only [ByteArray.size_append, show (⟨#[32]⟩ : ByteArray).size = 1 from rfl] at c15b3)
                have H' := Aside0.mk H
                clear H
                try go_wp2
                have n0_ := Aside0.mk (blk_drew BK154.out)
                have n1_ := Aside0.mk (below_drew1 HB.out)
                clear BK154
                clear HB
                have BK154 := n0_
                have HB := n1_
                clear n0_ n1_
                refine start_ (n := 11) (S := fun w' => w'.cell? ⟨gb154, 0, none⟩ = some (.bool a0_0) ∧ w'.cell? ⟨gb154, 1, none⟩ = some (.bool a0_1) ∧ w'.cell? ⟨gb154, 2, none⟩ = some (.int .i64 a0_2) ∧ w'.cell? ⟨gb154, 3, none⟩ = some (.int .u64 a0_3) ∧ w'.cell? ⟨gb154, 4, none⟩ = some (.slice A0_4 l0_4.length c0_4)) (ds := []) #[false, false, false, false, false, false, false, false, false, false, false] (by kernel_rfl) rfl rfl ⟨(blk_cell BK154.out 0).trans rfl, (blk_cell BK154.out 1).trans rfl, (blk_cell BK154.out 2).trans rfl, (blk_cell BK154.out 3).trans rfl, (blk_cell BK154.out 4).trans rfl⟩ (fun hHeld => ?_); refine with_tabW paternosterref24_Put.tab7 paternosterref24_Put.bits7 (fun HT_ HW_ => ?_)
                generalize wc.drew = w16 at BK154 HB hHeld ⊢
                refine pure_ (i := 0) (N := some 17) (v := ?_) (a' := ?_) #[true, false, false, false, false, false, false, false, false, false, false] rfl rfl (any_of HT_.out (by kernel_rfl)) (fun _ _ _ h => h) (Or.inl ⟨by rfl, ?_⟩) ?_ ?_
                rotate_left
                · intro w'
                  go_simp
                  with_reducible rfl
                rotate_left
                · simp only [Act.put, List.setIfInBounds_toArray, List.set_cons_zero, List.set_cons_succ, i64_w, i32_w]
                  rfl
                refine pure_ (i := 1) (N := some 18) (v := ?_) (a' := ?_) #[true, true, false, false, false, false, false, false, false, false, false] rfl rfl (any_of HT_.out (by kernel_rfl)) (fun _ _ _ h => h) (Or.inl ⟨by rfl, ?_⟩) ?_ ?_
                rotate_left
                · intro w'
                  go_simp
                  with_reducible rfl
                rotate_left
                · simp only [Act.put, List.setIfInBounds_toArray, List.set_cons_zero, List.set_cons_succ, i64_w, i32_w]
                  rfl
                refine pure_ (i := 5) (N := some 22) (v := ?_) (a' := ?_) #[true, true, false, false, false, true, false, false, false, false, false] rfl rfl (any_of HT_.out (by kernel_rfl)) (fun _ _ _ h => h) (Or.inl ⟨by rfl, ?_⟩) ?_ ?_
                rotate_left
                · intro w'
                  go_simp
                  with_reducible rfl
                rotate_left
                · simp only [Act.put, List.setIfInBounds_toArray, List.set_cons_zero, List.set_cons_succ, i64_w, i32_w]
                  rfl
                refine take_ (i := 2) (N := some 19) (v := ?_) (a' := ?_) #[true, true, true, false, false, true, false, false, false, false, false] rfl rfl (take_ofW HT_.out HW_.out (by kernel_rfl)) (fun _ _ _ h => h) (Or.inl ⟨by rfl, ?_⟩) hHeld ?_ ?_
                rotate_left
                · rintro w' ⟨s0, s1, s2, s3, s4⟩
                  go_simp
                  with_reducible rfl
                rotate_left
                · simp only [Act.put, List.setIfInBounds_toArray, List.set_cons_zero, List.set_cons_succ, i64_w, i32_w]
                  rfl
                refine take_ (i := 6) (N := some 23) (v := ?_) (a' := ?_) #[true, true, true, false, false, true, true, false, false, false, false] rfl rfl (take_ofW HT_.out HW_.out (by kernel_rfl)) (fun _ _ _ h => h) (Or.inl ⟨by rfl, ?_⟩) hHeld ?_ ?_
                rotate_left
                · rintro w' ⟨s0, s1, s2, s3, s4⟩
                  go_simp
                  with_reducible rfl
                rotate_left
                · simp only [Act.put, List.setIfInBounds_toArray, List.set_cons_zero, List.set_cons_succ, i64_w, i32_w]
                  rfl
                refine one_ (i := 3) (N := some 20) #[true, true, true, true, false, true, true, false, false, false, false] rfl rfl (one_of HT_.out (by kernel_rfl)) (by decide) (fun K hK => ?_)
                refine goes_ Tryz.func21 (by kernel_rfl) rfl #[.int .i64 a0_2] (by rfl) rfl rfl (by (try simp only [List.map_toArray, List.map_cons, List.map_nil]); first | done | rfl | (simp only [List.length_drop, List.length_take]; rfl)) ?_
                with_reducible refine (paternosterref24_Number.calls kj5 a0_2 t155 _ A11.out).mono ?_
                rintro e w17 ⟨rfl, hb⟩
                refine ⟨_, rfl, ?_⟩
                have n0_ := Aside0.mk (blk_below (g := gb154) (o := .cells #[.bool a0_0, .bool a0_1, .int .i64 a0_2, .int .u64 a0_3, .slice A0_4 l0_4.length c0_4] 31 (0, 0)) (by (with_reducible repeat (first | refine blk_drewN ?_ _ | refine blk_drew ?_ | refine blk_alloc ?_ _)); exact BK154.out) hb)
                have n1_ := Aside0.mk (below_step (by repeat (first | (with_reducible first | exact HB.out | apply below_alloc | apply pw_below_drewN | apply below_drew1 | refine below_set ?_ GE154.out) | exact HB.out)) hb)
                clear BK154
                clear HB
                have BK154 := n0_
                have HB := n1_
                clear n0_ n1_
                (try clear hb)
                (try clear hb2)
                (try clear hk)
                (try clear hi)
                refine hK.out _ _ ⟨(blk_cell BK154.out 0).trans rfl, (blk_cell BK154.out 1).trans rfl, (blk_cell BK154.out 2).trans rfl, (blk_cell BK154.out 3).trans rfl, (blk_cell BK154.out 4).trans rfl⟩ (fun hHeld => ?_)
                clear hK K
                refine norm_ (a' := ?_) ?_ ?_
                rotate_left
                · show Act.put _ (some 20) _ = _
                  simp only [Act.put, List.setIfInBounds_toArray, List.set_cons_zero, List.set_cons_succ, i64_w, i32_w]
                  rfl
                refine pure_ (i := 4) (N := some 21) (v := ?_) (a' := ?_) #[true, true, true, true, true, true, true, false, false, false, false] rfl rfl (any_of HT_.out (by kernel_rfl)) (fun _ _ _ h => h) (Or.inl ⟨by rfl, ?_⟩) ?_ ?_
                rotate_left
                · intro w'
                  go_simp
                  with_reducible rfl
                rotate_left
                · simp only [Act.put, List.setIfInBounds_toArray, List.set_cons_zero, List.set_cons_succ, i64_w, i32_w]
                  rfl
                refine one_ (i := 7) (N := some 24) #[true, true, true, true, true, true, true, true, false, false, false] rfl rfl (one_of HT_.out (by kernel_rfl)) (by decide) (fun K hK => ?_)
                refine goes_ Tryz.func22 (by kernel_rfl) rfl #[.int .u64 a0_3] (by rfl) rfl rfl (by (try simp only [List.map_toArray, List.map_cons, List.map_nil]); first | done | rfl | (simp only [List.length_drop, List.length_take]; rfl)) ?_
                with_reducible refine (paternosterref24_Unsigned.calls kj5 a0_3 t156 _ A13.out).mono ?_
                rintro e w18 ⟨rfl, hb⟩
                refine ⟨_, rfl, ?_⟩
                have n0_ := Aside0.mk (blk_below (g := gb154) (o := .cells #[.bool a0_0, .bool a0_1, .int .i64 a0_2, .int .u64 a0_3, .slice A0_4 l0_4.length c0_4] 31 (0, 0)) (by (with_reducible repeat (first | refine blk_drewN ?_ _ | refine blk_drew ?_ | refine blk_alloc ?_ _)); exact BK154.out) hb)
                have n1_ := Aside0.mk (below_step (by repeat (first | (with_reducible first | exact HB.out | apply below_alloc | apply pw_below_drewN | apply below_drew1 | refine below_set ?_ GE154.out) | exact HB.out)) hb)
                clear BK154
                clear HB
                have BK154 := n0_
                have HB := n1_
                clear n0_ n1_
                (try clear hb)
                (try clear hb2)
                (try clear hk)
                (try clear hi)
                refine hK.out _ _ ⟨(blk_cell BK154.out 0).trans rfl, (blk_cell BK154.out 1).trans rfl, (blk_cell BK154.out 2).trans rfl, (blk_cell BK154.out 3).trans rfl, (blk_cell BK154.out 4).trans rfl⟩ (fun hHeld => ?_)
                clear hK K
                refine norm_ (a' := ?_) ?_ ?_
                rotate_left
                · show Act.put _ (some 24) _ = _
                  simp only [Act.put, List.setIfInBounds_toArray, List.set_cons_zero, List.set_cons_succ, i64_w, i32_w]
                  rfl
                refine pure_ (i := 8) (N := some 25) (v := ?_) (a' := ?_) #[true, true, true, true, true, true, true, true, true, false, false] rfl rfl (any_of HT_.out (by kernel_rfl)) (fun _ _ _ h => h) (Or.inl ⟨by rfl, ?_⟩) ?_ ?_
                rotate_left
                · intro w'
                  go_simp
                  with_reducible rfl
                rotate_left
                · simp only [Act.put, List.setIfInBounds_toArray, List.set_cons_zero, List.set_cons_succ, i64_w, i32_w]
                  rfl
                refine pure_ (i := 9) (N := some 26) (v := ?_) (a' := ?_) #[true, true, true, true, true, true, true, true, true, true, false] rfl rfl (any_of HT_.out (by kernel_rfl)) (fun _ _ _ h => h) (Or.inl ⟨by rfl, ?_⟩) ?_ ?_
                rotate_left
                · intro w'
                  go_simp
                  with_reducible rfl
                rotate_left
                · simp only [Act.put, List.setIfInBounds_toArray, List.set_cons_zero, List.set_cons_succ, i64_w, i32_w]
                  rfl
                refine pure_ (i := 10) (N := some 3) (v := ?_) (a' := ?_) #[true, true, true, true, true, true, true, true, true, true, true] rfl rfl (any_of HT_.out (by kernel_rfl)) (fun _ _ _ h => h) (Or.inl ⟨by rfl, ?_⟩) ?_ ?_
                rotate_left
                · intro w'
                  go_simp
                  with_reducible rfl
                rotate_left
                · simp only [Act.put, List.setIfInBounds_toArray, List.set_cons_zero, List.set_cons_succ, i64_w, i32_w]
                  rfl
                refine done_ (done_of HT_.out (by kernel_rfl)) ?_
                try go_wp2
                go_loopg [3, 4] kj5 (fun kq v3 v4 w' => ∃ (x3_3 : ByteArray) (x4_3 : Int), v3 = .string x3_3 ∧ v4 = .int .i64 x4_3 ∧ Aside0 (paternosterref24_Put.l0 kq x3_3 x4_3 a0_0 a0_1 a0_2 a0_3 l0_4 = some r) ∧ Aside0 (kq ≤ kj5) ∧ Aside0 (w'.heap[gb154]? = some (.cells #[.bool a0_0, .bool a0_1, .int .i64 a0_2, .int .u64 a0_3, (.slice A0_4 l0_4.length c0_4)] 31 (0, 0))) ∧ Aside0 (Below w.heap.size w w'))
                case atStart => exact ⟨(x3_5 ++ ((t155 ++ (⟨#[32]⟩ : ByteArray)) ++ t156)), (0), (by first | rfl | (simp; done) | (simp [*]; done)), (by first | rfl | (simp; done) | (simp [*]; done)), H', ⟨Nat.le_refl _⟩, ⟨by (with_reducible repeat (first | refine blk_drewN ?_ _ | refine blk_drew ?_ | refine blk_alloc ?_ _)); exact BK154.out⟩, ⟨by repeat (first | (with_reducible first | exact HB.out | apply below_alloc | apply pw_below_drewN | apply below_drew1 | refine below_set ?_ GE154.out) | exact HB.out)⟩⟩
                case round =>
                  clear H'
                  try clear c1
                  try clear c2
                  try clear p2
                  try clear c5
                  try clear c8
                  try clear c9
                  try clear c9b0
                  try clear c9b1
                  try clear c9b2
                  try clear c10
                  try clear c10b0
                  try clear c10b1
                  try clear c10b2
                  try clear c12
                  try clear c12b0
                  try clear c12b1
                  try clear c12b2
                  try clear c14
                  try clear c14b0
                  try clear c14b1
                  try clear c14b2
                  try clear c15
                  try clear c15b0
                  try clear c15b1
                  try clear c15b2
                  try clear hcz4_0
                  try clear hcz4_1
                  try clear hcz4_2
                  try clear hcz4_3
                  try clear hcz4_4
                  try clear hcz7_0
                  try clear hcz7_1
                  try clear hcz7_2
                  try clear hcz7_3
                  try clear hcz7_4
                  try clear hfz4_0
                  try clear hfz4_1
                  try clear hfz4_2
                  try clear hfz4_3
                  try clear hfz4_4
                  try clear hfz7_0
                  try clear hfz7_1
                  try clear hfz7_2
                  try clear hfz7_3
                  try clear hfz7_4
                  try clear p2
                  obtain ⟨x3_3, x4_3, rfl, rfl, HA, HK3, BK154, HB⟩ := hrel
                  cases gk with
                  | zero => exact absurd HA.out (by simp [paternosterref24_Put.l0])
                  | succ k3 =>
                    have H := HA.out
                    clear HA
                    simp only [paternosterref24_Put.l0] at H
                    by_cases c19 : x4_3 < (l0_4.length : Int)
                    · rw [if_pos c19] at H
                      have c19b0 : decide (x4_3 < (l0_4.length : Int)) = true := decide_eq_true c19
                      clear c19
                      by_cases c20 : 0 ≤ x4_3
                      · rw [if_pos c20] at H
                        have c20b0 : decide (0 ≤ x4_3) = true := decide_eq_true c20
                        clear c20
                        replace H := Option.bind_eq_some_iff.mp H
                        obtain ⟨⟨t159, t160, t161⟩, A210, H⟩ := H
                        replace H : (if t159.toList = ([] : List UInt8) then (paternosterref24_Put.l0 k3 x3_3 (wrap64 (x4_3 + 1)) a0_0 a0_1 a0_2 a0_3 l0_4) else (if 1 + t159.size ≤ 9223372036854775807 then (if x3_3.size + ((⟨#[32]⟩ : ByteArray) ++ t159).size ≤ 9223372036854775807 then (if t160 = true then ((paternosterref24_Number.f k3 ((rd_T45 l0_4 x4_3).f1)).bind fun t162 => (if 1 + t162.size ≤ 9223372036854775807 then (if (x3_3 ++ ((⟨#[32]⟩ : ByteArray) ++ t159)).size + ((⟨#[32]⟩ : ByteArray) ++ t162).size ≤ 9223372036854775807 then (if t161 = true then ((paternosterref24_Number.f k3 ((rd_T45 l0_4 x4_3).f2)).bind fun t163 => (if 1 + t163.size ≤ 9223372036854775807 then (if ((x3_3 ++ ((⟨#[32]⟩ : ByteArray) ++ t159)) ++ ((⟨#[32]⟩ : ByteArray) ++ t162)).size + ((⟨#[32]⟩ : ByteArray) ++ t163).size ≤ 9223372036854775807 then (paternosterref24_Put.l0 k3 (((x3_3 ++ ((⟨#[32]⟩ : ByteArray) ++ t159)) ++ ((⟨#[32]⟩ : ByteArray) ++ t162)) ++ ((⟨#[32]⟩ : ByteArray) ++ t163)) (wrap64 (x4_3 + 1)) a0_0 a0_1 a0_2 a0_3 l0_4) else (none)) else (none))) else (paternosterref24_Put.l0 k3 ((x3_3 ++ ((⟨#[32]⟩ : ByteArray) ++ t159)) ++ ((⟨#[32]⟩ : ByteArray) ++ t162)) (wrap64 (x4_3 + 1)) a0_0 a0_1 a0_2 a0_3 l0_4)) else (none)) else (none))) else (if t161 = true then ((paternosterref24_Number.f k3 ((rd_T45 l0_4 x4_3).f2)).bind fun t164 => (if 1 + t164.size ≤ 9223372036854775807 then (if (x3_3 ++ ((⟨#[32]⟩ : ByteArray) ++ t159)).size + ((⟨#[32]⟩ : ByteArray) ++ t164).size ≤ 9223372036854775807 then (paternosterref24_Put.l0 k3 ((x3_3 ++ ((⟨#[32]⟩ : ByteArray) ++ t159)) ++ ((⟨#[32]⟩ : ByteArray) ++ t164)) (wrap64 (x4_3 + 1)) a0_0 a0_1 a0_2 a0_3 l0_4) else (none)) else (none))) else (paternosterref24_Put.l0 k3 (x3_3 ++ ((⟨#[32]⟩ : ByteArray) ++ t159)) (wrap64 (x4_3 + 1)) a0_0 a0_1 a0_2 a0_3 l0_4))) else (none)) else (none))) = some r := H
                        have A21 := Aside0.mk A210
                        clear A210
                        by_cases c22 : t159.toList = ([] : List UInt8)
                        · rw [if_pos c22] at H
                          have c22b0 : (t159.toList == ([] : List UInt8)) = true := beq_iff_eq.mpr c22
                          have c22b1 : (t159.toList != ([] : List UInt8)) = false := bne_eq_false_iff_eq.mpr c22
                          clear c22
                          have H' := Aside0.mk H
                          clear H
                          have hcz23_0 : wr.cell? ⟨gb154, 0, none⟩ = some (.bool a0_0) := (blk_cell BK154.out 0).trans rfl
                          have hcz23_1 : wr.cell? ⟨gb154, 1, none⟩ = some (.bool a0_1) := (blk_cell BK154.out 1).trans rfl
                          have hcz23_2 : wr.cell? ⟨gb154, 2, none⟩ = some (.int .i64 a0_2) := (blk_cell BK154.out 2).trans rfl
                          have hcz23_3 : wr.cell? ⟨gb154, 3, none⟩ = some (.int .u64 a0_3) := (blk_cell BK154.out 3).trans rfl
                          have hcz23_4 : wr.cell? ⟨gb154, 4, none⟩ = some (.slice A0_4 l0_4.length c0_4) := (blk_cell BK154.out 4).trans rfl
                          have hfz23_0 := blk_frozen BK154.out 0
                          have hfz23_1 := blk_frozen BK154.out 1
                          have hfz23_2 := blk_frozen BK154.out 2
                          have hfz23_3 := blk_frozen BK154.out 3
                          have hfz23_4 := blk_frozen BK154.out 4
                          have p157 : 0 ≤ (x4_3 : Int) := of_decide_eq_true (by first | (with_reducible assumption) | assumption)
                          have q157 : x4_3 < (l0_4.length : Int) := of_decide_eq_true (by first | (with_reducible assumption) | assumption)
                          obtain ⟨ad157, e157, hx157_0, hx157_1, hx157_2⟩ := at_T45 HR0_4.out x4_3 p157 q157
                          cases e157
                          replace hx157_0 := (HB.out.cell (World.block_lt_of_cell? w _ hx157_0)).trans hx157_0
                          replace hx157_1 := (HB.out.cell (World.block_lt_of_cell? w _ hx157_1)).trans hx157_1
                          replace hx157_2 := (HB.out.cell (World.block_lt_of_cell? w _ hx157_2)).trans hx157_2
                          replace p157 := eq_true p157
                          replace q157 := eq_true q157
                          go_wp2_with (first | ((with_reducible refine gate_dst (N := 5) rfl ?_); refine box_event ?hg (N := 5) ?hd (cs := #[.int .i64 0, .int .i64 0, .int .i64 0]) (t := 45) ?hr ?_; (case hd => rfl); (case hg => rfl); (case hr => first | (go_simp; done) | (go_simp; rfl)); intro gb158 hg w24 hbox hb; have n0_ := Aside0.mk (blk_below (g := gb154) (o := .cells #[.bool a0_0, .bool a0_1, .int .i64 a0_2, .int .u64 a0_3, .slice (some ad157) l0_4.length c0_4] 31 (0, 0)) (by (with_reducible repeat (first | refine blk_drewN ?_ _ | refine blk_drew ?_ | refine blk_alloc ?_ _)); exact BK154.out) hb); have n1_ := Aside0.mk (below_step (by repeat (first | (with_reducible first | exact HB.out | apply below_alloc | apply pw_below_drewN | apply below_drew1 | refine below_set ?_ GE154.out) | exact HB.out)) hb); have n2_ := Aside0.mk (hbox); have n3_ := Aside0.mk ((by rw [hg]; exact (below_size (by repeat (first | (with_reducible first | exact HB.out | apply below_alloc | apply pw_below_drewN | apply below_drew1 | refine below_set ?_ GE154.out) | exact HB.out))) : w.heap.size ≤ gb158)); have n4_ := Aside0.mk ((by rw [hg]; exact (below_size (by repeat (first | (with_reducible first | exact HB.out | apply below_alloc | apply pw_below_drewN | apply below_drew1 | refine below_set ?_ GE154.out) | exact HB.out))) : w.heap.size ≤ gb158)); have n5_ := Aside0.mk ((by rw [hg]; exact Nat.ne_of_lt (blk_lt (g := gb154) (o := .cells #[.bool a0_0, .bool a0_1, .int .i64 a0_2, .int .u64 a0_3, .slice (some ad157) l0_4.length c0_4] 31 (0, 0)) (by (with_reducible repeat (first | refine blk_drewN ?_ _ | refine blk_drew ?_ | refine blk_alloc ?_ _)); exact BK154.out)) : gb154 ≠ gb158)); have n6_ := Aside0.mk ((by rw [hg]; exact Nat.ne_of_gt (blk_lt (g := gb154) (o := .cells #[.bool a0_0, .bool a0_1, .int .i64 a0_2, .int .u64 a0_3, .slice (some ad157) l0_4.length c0_4] 31 (0, 0)) (by (with_reducible repeat (first | refine blk_drewN ?_ _ | refine blk_drew ?_ | refine blk_alloc ?_ _)); exact BK154.out)) : gb158 ≠ gb154)); clear BK154; clear HB; have BK154 := n0_; have HB := n1_; have BK158 := n2_; have GW158 := n3_; have GE158 := n4_; have NB154_158 := n5_; have NB158_154 := n6_; clear n0_ n1_ n2_ n3_ n4_ n5_ n6_; clear hb hbox hg; have hnb25 := NB158_154.out; have hnc25 := NB154_158.out; have hcz26_0 : w24.cell? ⟨gb158, 0, none⟩ = some (.int .i64 0) := (blk_cell BK158.out 0).trans rfl; have hcz26_1 : w24.cell? ⟨gb158, 1, none⟩ = some (.int .i64 0) := (blk_cell BK158.out 1).trans rfl; have hcz26_2 : w24.cell? ⟨gb158, 2, none⟩ = some (.int .i64 0) := (blk_cell BK158.out 2).trans rfl; have hfz26_0 := blk_frozen BK158.out 0; have hfz26_1 := blk_frozen BK158.out 1; have hfz26_2 := blk_frozen BK158.out 2) | ((with_reducible refine gate_callee (f := 14) rfl ?_); refine goesL_ (some 42) rfl rfl Tryz.func14 (by kernel_rfl) rfl #[.int .i64 ((rd_T45 l0_4 x4_3).f0)] rfl (by (try simp only [List.map_toArray, List.map_cons, List.map_nil]); first | done | rfl | (simp only [List.length_drop, List.length_take]; rfl)) ?_; (with_reducible refine (paternosterref24_Kind.calls ((rd_T45 l0_4 x4_3).f0) t159 t160 t161 _ A21.out).mono ?_); rintro e w' ⟨rfl, ⟨nd, rfl⟩⟩; refine ⟨_, rfl, ?_⟩))
                          go_roundg k3
                          case measure => have := HJ1.out; have := HJ5.out; have := HK3.out; omega
                          case rel => exact ⟨(x3_3), (wrap64 (x4_3 + 1)), (by first | rfl | (simp; done) | (simp [*]; done)), (by first | rfl | (simp; done) | (simp [*]; done)), H', ⟨by have := HJ1.out; have := HJ5.out; have := HK3.out; omega⟩, ⟨by (with_reducible repeat (first | refine blk_drewN ?_ _ | refine blk_drew ?_ | refine blk_alloc ?_ _)); refine blk_far ?_ NB154_158.out _; (with_reducible repeat (first | refine blk_drewN ?_ _ | refine blk_drew ?_ | refine blk_alloc ?_ _)); refine blk_far ?_ NB154_158.out _; (with_reducible repeat (first | refine blk_drewN ?_ _ | refine blk_drew ?_ | refine blk_alloc ?_ _)); refine blk_far ?_ NB154_158.out _; (with_reducible repeat (first | refine blk_drewN ?_ _ | refine blk_drew ?_ | refine blk_alloc ?_ _)); exact BK154.out⟩, ⟨by repeat (first | (with_reducible first | exact HB.out | apply below_alloc | apply pw_below_drewN | apply below_drew1 | refine below_set ?_ GE154.out | refine below_set ?_ GE158.out) | exact HB.out)⟩⟩
                        · rw [if_neg c22] at H
                          have c22b0 : (t159.toList == ([] : List UInt8)) = false := beq_eq_false_iff_ne.mpr c22
                          have c22b1 : (t159.toList != ([] : List UInt8)) = true := bne_iff_ne.mpr c22
                          by_cases c27 : 1 + t159.size ≤ 9223372036854775807
                          · rw [if_pos c27] at H
                            have c27b0 := eq_true c27
                            have c27b1 : decide (1 + t159.size ≤ 9223372036854775807) = true := decide_eq_true c27
                            try have c27b2 : (9223372036854775807 < 1 + t159.size) = False := eq_false (Nat.not_lt.2 c27)
                            by_cases c28 : x3_3.size + ((⟨#[32]⟩ : ByteArray) ++ t159).size ≤ 9223372036854775807
                            · rw [if_pos c28] at H
                              have c28b0 := eq_true c28
                              have c28b1 : decide (x3_3.size + ((⟨#[32]⟩ : ByteArray) ++ t159).size ≤ 9223372036854775807) = true := decide_eq_true c28
                              try have c28b2 : (9223372036854775807 < x3_3.size + ((⟨#[32]⟩ : ByteArray) ++ t159).size) = False := eq_false (Nat.not_lt.2 c28)
                              try (have c28b3 := c28b2; simp only [ByteArray.size_append, show (⟨#[32]⟩ : ByteArray).size = 1 from rfl] at c28b3)
                              by_cases c29 : t160 = true
                              · subst c29
                                have H1 : ((paternosterref24_Number.f k3 ((rd_T45 l0_4 x4_3).f1)).bind fun t162 => (if 1 + t162.size ≤ 9223372036854775807 then (if (x3_3 ++ ((⟨#[32]⟩ : ByteArray) ++ t159)).size + ((⟨#[32]⟩ : ByteArray) ++ t162).size ≤ 9223372036854775807 then (if t161 = true then ((paternosterref24_Number.f k3 ((rd_T45 l0_4 x4_3).f2)).bind fun t163 => (if 1 + t163.size ≤ 9223372036854775807 then (if ((x3_3 ++ ((⟨#[32]⟩ : ByteArray) ++ t159)) ++ ((⟨#[32]⟩ : ByteArray) ++ t162)).size + ((⟨#[32]⟩ : ByteArray) ++ t163).size ≤ 9223372036854775807 then (paternosterref24_Put.l0 k3 (((x3_3 ++ ((⟨#[32]⟩ : ByteArray) ++ t159)) ++ ((⟨#[32]⟩ : ByteArray) ++ t162)) ++ ((⟨#[32]⟩ : ByteArray) ++ t163)) (wrap64 (x4_3 + 1)) a0_0 a0_1 a0_2 a0_3 l0_4) else (none)) else (none))) else (paternosterref24_Put.l0 k3 ((x3_3 ++ ((⟨#[32]⟩ : ByteArray) ++ t159)) ++ ((⟨#[32]⟩ : ByteArray) ++ t162)) (wrap64 (x4_3 + 1)) a0_0 a0_1 a0_2 a0_3 l0_4)) else (none)) else (none))) = some r := by rw [if_pos rfl] at H; exact H
                                clear H
                                have H := H1
                                clear H1
                                replace H := Option.bind_eq_some_iff.mp H
                                obtain ⟨t162, A300, H⟩ := H
                                replace H : (if 1 + t162.size ≤ 9223372036854775807 then (if (x3_3 ++ ((⟨#[32]⟩ : ByteArray) ++ t159)).size + ((⟨#[32]⟩ : ByteArray) ++ t162).size ≤ 9223372036854775807 then (if t161 = true then ((paternosterref24_Number.f k3 ((rd_T45 l0_4 x4_3).f2)).bind fun t163 => (if 1 + t163.size ≤ 9223372036854775807 then (if ((x3_3 ++ ((⟨#[32]⟩ : ByteArray) ++ t159)) ++ ((⟨#[32]⟩ : ByteArray) ++ t162)).size + ((⟨#[32]⟩ : ByteArray) ++ t163).size ≤ 9223372036854775807 then (paternosterref24_Put.l0 k3 (((x3_3 ++ ((⟨#[32]⟩ : ByteArray) ++ t159)) ++ ((⟨#[32]⟩ : ByteArray) ++ t162)) ++ ((⟨#[32]⟩ : ByteArray) ++ t163)) (wrap64 (x4_3 + 1)) a0_0 a0_1 a0_2 a0_3 l0_4) else (none)) else (none))) else (paternosterref24_Put.l0 k3 ((x3_3 ++ ((⟨#[32]⟩ : ByteArray) ++ t159)) ++ ((⟨#[32]⟩ : ByteArray) ++ t162)) (wrap64 (x4_3 + 1)) a0_0 a0_1 a0_2 a0_3 l0_4)) else (none)) else (none)) = some r := H
                                have A30 := Aside0.mk A300
                                clear A300
                                by_cases c31 : 1 + t162.size ≤ 9223372036854775807
                                · rw [if_pos c31] at H
                                  have c31b0 := eq_true c31
                                  have c31b1 : decide (1 + t162.size ≤ 9223372036854775807) = true := decide_eq_true c31
                                  try have c31b2 : (9223372036854775807 < 1 + t162.size) = False := eq_false (Nat.not_lt.2 c31)
                                  by_cases c32 : (x3_3 ++ ((⟨#[32]⟩ : ByteArray) ++ t159)).size + ((⟨#[32]⟩ : ByteArray) ++ t162).size ≤ 9223372036854775807
                                  · rw [if_pos c32] at H
                                    have c32b0 := eq_true c32
                                    have c32b1 : decide ((x3_3 ++ ((⟨#[32]⟩ : ByteArray) ++ t159)).size + ((⟨#[32]⟩ : ByteArray) ++ t162).size ≤ 9223372036854775807) = true := decide_eq_true c32
                                    try have c32b2 : (9223372036854775807 < (x3_3 ++ ((⟨#[32]⟩ : ByteArray) ++ t159)).size + ((⟨#[32]⟩ : ByteArray) ++ t162).size) = False := eq_false (Nat.not_lt.2 c32)
                                    try (have c32b3 := c32b2; simp only [ByteArray.size_append, show (⟨#[32]⟩ : ByteArray).size = 1 from rfl] at c32b3)
                                    by_cases c33 : t161 = true
                                    · subst c33
                                      have H1 : ((paternosterref24_Number.f k3 ((rd_T45 l0_4 x4_3).f2)).bind fun t163 => (if 1 + t163.size ≤ 9223372036854775807 then (if ((x3_3 ++ ((⟨#[32]⟩ : ByteArray) ++ t159)) ++ ((⟨#[32]⟩ : ByteArray) ++ t162)).size + ((⟨#[32]⟩ : ByteArray) ++ t163).size ≤ 9223372036854775807 then (paternosterref24_Put.l0 k3 (((x3_3 ++ ((⟨#[32]⟩ : ByteArray) ++ t159)) ++ ((⟨#[32]⟩ : ByteArray) ++ t162)) ++ ((⟨#[32]⟩ : ByteArray) ++ t163)) (wrap64 (x4_3 + 1)) a0_0 a0_1 a0_2 a0_3 l0_4) else (none)) else (none))) = some r := by rw [if_pos rfl] at H; exact H
                                      clear H
                                      have H := H1
                                      clear H1
                                      replace H := Option.bind_eq_some_iff.mp H
                                      obtain ⟨t163, A340, H⟩ := H
                                      replace H : (if 1 + t163.size ≤ 9223372036854775807 then (if ((x3_3 ++ ((⟨#[32]⟩ : ByteArray) ++ t159)) ++ ((⟨#[32]⟩ : ByteArray) ++ t162)).size + ((⟨#[32]⟩ : ByteArray) ++ t163).size ≤ 9223372036854775807 then (paternosterref24_Put.l0 k3 (((x3_3 ++ ((⟨#[32]⟩ : ByteArray) ++ t159)) ++ ((⟨#[32]⟩ : ByteArray) ++ t162)) ++ ((⟨#[32]⟩ : ByteArray) ++ t163)) (wrap64 (x4_3 + 1)) a0_0 a0_1 a0_2 a0_3 l0_4) else (none)) else (none)) = some r := H
                                      have A34 := Aside0.mk A340
                                      clear A340
                                      by_cases c35 : 1 + t163.size ≤ 9223372036854775807
                                      · rw [if_pos c35] at H
                                        have c35b0 := eq_true c35
                                        have c35b1 : decide (1 + t163.size ≤ 9223372036854775807) = true := decide_eq_true c35
                                        try have c35b2 : (9223372036854775807 < 1 + t163.size) = False := eq_false (Nat.not_lt.2 c35)
                                        by_cases c36 : ((x3_3 ++ ((⟨#[32]⟩ : ByteArray) ++ t159)) ++ ((⟨#[32]⟩ : ByteArray) ++ t162)).size + ((⟨#[32]⟩ : ByteArray) ++ t163).size ≤ 9223372036854775807
                                        · rw [if_pos c36] at H
                                          have c36b0 := eq_true c36
                                          have c36b1 : decide (((x3_3 ++ ((⟨#[32]⟩ : ByteArray) ++ t159)) ++ ((⟨#[32]⟩ : ByteArray) ++ t162)).size + ((⟨#[32]⟩ : ByteArray) ++ t163).size ≤ 9223372036854775807) = true := decide_eq_true c36
                                          try have c36b2 : (9223372036854775807 < ((x3_3 ++ ((⟨#[32]⟩ : ByteArray) ++ t159)) ++ ((⟨#[32]⟩ : ByteArray) ++ t162)).size + ((⟨#[32]⟩ : ByteArray) ++ t163).size) = False := eq_false (Nat.not_lt.2 c36)
                                          try (have c36b3 := c36b2; simp only [ByteArray.size_append, show (⟨#[32]⟩ : ByteArray).size = 1 from rfl] at c36b3)
                                          have H' := Aside0.mk H
                                          clear H
                                          have hcz37_0 : wr.cell? ⟨gb154, 0, none⟩ = some (.bool a0_0) := (blk_cell BK154.out 0).trans rfl
                                          have hcz37_1 : wr.cell? ⟨gb154, 1, none⟩ = some (.bool a0_1) := (blk_cell BK154.out 1).trans rfl
                                          have hcz37_2 : wr.cell? ⟨gb154, 2, none⟩ = some (.int .i64 a0_2) := (blk_cell BK154.out 2).trans rfl
                                          have hcz37_3 : wr.cell? ⟨gb154, 3, none⟩ = some (.int .u64 a0_3) := (blk_cell BK154.out 3).trans rfl
                                          have hcz37_4 : wr.cell? ⟨gb154, 4, none⟩ = some (.slice A0_4 l0_4.length c0_4) := (blk_cell BK154.out 4).trans rfl
                                          have hfz37_0 := blk_frozen BK154.out 0
                                          have hfz37_1 := blk_frozen BK154.out 1
                                          have hfz37_2 := blk_frozen BK154.out 2
                                          have hfz37_3 := blk_frozen BK154.out 3
                                          have hfz37_4 := blk_frozen BK154.out 4
                                          have p157 : 0 ≤ (x4_3 : Int) := of_decide_eq_true (by first | (with_reducible assumption) | assumption)
                                          have q157 : x4_3 < (l0_4.length : Int) := of_decide_eq_true (by first | (with_reducible assumption) | assumption)
                                          obtain ⟨ad157, e157, hx157_0, hx157_1, hx157_2⟩ := at_T45 HR0_4.out x4_3 p157 q157
                                          cases e157
                                          replace hx157_0 := (HB.out.cell (World.block_lt_of_cell? w _ hx157_0)).trans hx157_0
                                          replace hx157_1 := (HB.out.cell (World.block_lt_of_cell? w _ hx157_1)).trans hx157_1
                                          replace hx157_2 := (HB.out.cell (World.block_lt_of_cell? w _ hx157_2)).trans hx157_2
                                          replace p157 := eq_true p157
                                          replace q157 := eq_true q157
                                          go_wp2_with (first | ((with_reducible refine gate_dst (N := 5) rfl ?_); refine box_event ?hg (N := 5) ?hd (cs := #[.int .i64 0, .int .i64 0, .int .i64 0]) (t := 45) ?hr ?_; (case hd => rfl); (case hg => rfl); (case hr => first | (go_simp; done) | (go_simp; rfl)); intro gb158 hg w38 hbox hb; have n0_ := Aside0.mk (blk_below (g := gb154) (o := .cells #[.bool a0_0, .bool a0_1, .int .i64 a0_2, .int .u64 a0_3, .slice (some ad157) l0_4.length c0_4] 31 (0, 0)) (by (with_reducible repeat (first | refine blk_drewN ?_ _ | refine blk_drew ?_ | refine blk_alloc ?_ _)); exact BK154.out) hb); have n1_ := Aside0.mk (below_step (by repeat (first | (with_reducible first | exact HB.out | apply below_alloc | apply pw_below_drewN | apply below_drew1 | refine below_set ?_ GE154.out) | exact HB.out)) hb); have n2_ := Aside0.mk (hbox); have n3_ := Aside0.mk ((by rw [hg]; exact (below_size (by repeat (first | (with_reducible first | exact HB.out | apply below_alloc | apply pw_below_drewN | apply below_drew1 | refine below_set ?_ GE154.out) | exact HB.out))) : w.heap.size ≤ gb158)); have n4_ := Aside0.mk ((by rw [hg]; exact (below_size (by repeat (first | (with_reducible first | exact HB.out | apply below_alloc | apply pw_below_drewN | apply below_drew1 | refine below_set ?_ GE154.out) | exact HB.out))) : w.heap.size ≤ gb158)); have n5_ := Aside0.mk ((by rw [hg]; exact Nat.ne_of_lt (blk_lt (g := gb154) (o := .cells #[.bool a0_0, .bool a0_1, .int .i64 a0_2, .int .u64 a0_3, .slice (some ad157) l0_4.length c0_4] 31 (0, 0)) (by (with_reducible repeat (first | refine blk_drewN ?_ _ | refine blk_drew ?_ | refine blk_alloc ?_ _)); exact BK154.out)) : gb154 ≠ gb158)); have n6_ := Aside0.mk ((by rw [hg]; exact Nat.ne_of_gt (blk_lt (g := gb154) (o := .cells #[.bool a0_0, .bool a0_1, .int .i64 a0_2, .int .u64 a0_3, .slice (some ad157) l0_4.length c0_4] 31 (0, 0)) (by (with_reducible repeat (first | refine blk_drewN ?_ _ | refine blk_drew ?_ | refine blk_alloc ?_ _)); exact BK154.out)) : gb158 ≠ gb154)); clear BK154; clear HB; have BK154 := n0_; have HB := n1_; have BK158 := n2_; have GW158 := n3_; have GE158 := n4_; have NB154_158 := n5_; have NB158_154 := n6_; clear n0_ n1_ n2_ n3_ n4_ n5_ n6_; clear hb hbox hg; have hnb39 := NB158_154.out; have hnc39 := NB154_158.out; have hcz40_0 : w38.cell? ⟨gb158, 0, none⟩ = some (.int .i64 0) := (blk_cell BK158.out 0).trans rfl; have hcz40_1 : w38.cell? ⟨gb158, 1, none⟩ = some (.int .i64 0) := (blk_cell BK158.out 1).trans rfl; have hcz40_2 : w38.cell? ⟨gb158, 2, none⟩ = some (.int .i64 0) := (blk_cell BK158.out 2).trans rfl; have hfz40_0 := blk_frozen BK158.out 0; have hfz40_1 := blk_frozen BK158.out 1; have hfz40_2 := blk_frozen BK158.out 2) | ((with_reducible refine gate_callee (f := 14) rfl ?_); refine goesL_ (some 42) rfl rfl Tryz.func14 (by kernel_rfl) rfl #[.int .i64 ((rd_T45 l0_4 x4_3).f0)] rfl (by (try simp only [List.map_toArray, List.map_cons, List.map_nil]); first | done | rfl | (simp only [List.length_drop, List.length_take]; rfl)) ?_; (with_reducible refine (paternosterref24_Kind.calls ((rd_T45 l0_4 x4_3).f0) t159 true true _ A21.out).mono ?_); rintro e w' ⟨rfl, ⟨nd, rfl⟩⟩; refine ⟨_, rfl, ?_⟩) | ((with_reducible refine gate_callee (f := 21) rfl ?_); refine goesL_ (some 56) rfl rfl Tryz.func21 (by kernel_rfl) rfl #[.int .i64 ((rd_T45 l0_4 x4_3).f1)] rfl (by (try simp only [List.map_toArray, List.map_cons, List.map_nil]); first | done | rfl | (simp only [List.length_drop, List.length_take]; rfl)) ?_; (with_reducible refine (paternosterref24_Number.calls k3 ((rd_T45 l0_4 x4_3).f1) t162 _ A30.out).mono ?_); rintro e w41 ⟨rfl, hb⟩; refine ⟨_, rfl, ?_⟩; have n0_ := Aside0.mk (blk_below (g := gb154) (o := .cells #[.bool a0_0, .bool a0_1, .int .i64 a0_2, .int .u64 a0_3, .slice (some ad157) l0_4.length c0_4] 31 (0, 0)) (by (with_reducible repeat (first | refine blk_drewN ?_ _ | refine blk_drew ?_ | refine blk_alloc ?_ _)); refine blk_far ?_ NB154_158.out _; (with_reducible repeat (first | refine blk_drewN ?_ _ | refine blk_drew ?_ | refine blk_alloc ?_ _)); refine blk_far ?_ NB154_158.out _; (with_reducible repeat (first | refine blk_drewN ?_ _ | refine blk_drew ?_ | refine blk_alloc ?_ _)); refine blk_far ?_ NB154_158.out _; (with_reducible repeat (first | refine blk_drewN ?_ _ | refine blk_drew ?_ | refine blk_alloc ?_ _)); exact BK154.out) hb); have n1_ := Aside0.mk (blk_below (g := gb158) (o := .cells #[.int .i64 ((rd_T45 l0_4 x4_3).f0), .int .i64 ((rd_T45 l0_4 x4_3).f1), .int .i64 ((rd_T45 l0_4 x4_3).f2)] 45 (0, 0)) (by (with_reducible repeat (first | refine blk_drewN ?_ _ | refine blk_drew ?_ | refine blk_alloc ?_ _)); refine blk_put (cs := #[.int .i64 ((rd_T45 l0_4 x4_3).f0), .int .i64 ((rd_T45 l0_4 x4_3).f1), .int .i64 0]) ?_ 2 _ rfl; (with_reducible repeat (first | refine blk_drewN ?_ _ | refine blk_drew ?_ | refine blk_alloc ?_ _)); refine blk_put (cs := #[.int .i64 ((rd_T45 l0_4 x4_3).f0), .int .i64 0, .int .i64 0]) ?_ 1 _ rfl; (with_reducible repeat (first | refine blk_drewN ?_ _ | refine blk_drew ?_ | refine blk_alloc ?_ _)); refine blk_put (cs := #[.int .i64 0, .int .i64 0, .int .i64 0]) ?_ 0 _ rfl; (with_reducible repeat (first | refine blk_drewN ?_ _ | refine blk_drew ?_ | refine blk_alloc ?_ _)); exact BK158.out) hb); have n2_ := Aside0.mk (below_step (by repeat (first | (with_reducible first | exact HB.out | apply below_alloc | apply pw_below_drewN | apply below_drew1 | refine below_set ?_ GE154.out | refine below_set ?_ GE158.out) | exact HB.out)) hb); clear BK154; clear BK158; clear HB; have BK154 := n0_; have BK158 := n1_; have HB := n2_; clear n0_ n1_ n2_; (try clear hb); (try clear hb2); (try clear hk); (try clear hi); have hcz42_0 : w41.cell? ⟨gb158, 0, none⟩ = some (.int .i64 ((rd_T45 l0_4 x4_3).f0)) := (blk_cell BK158.out 0).trans rfl; have hcz42_1 : w41.cell? ⟨gb158, 1, none⟩ = some (.int .i64 ((rd_T45 l0_4 x4_3).f1)) := (blk_cell BK158.out 1).trans rfl; have hcz42_2 : w41.cell? ⟨gb158, 2, none⟩ = some (.int .i64 ((rd_T45 l0_4 x4_3).f2)) := (blk_cell BK158.out 2).trans rfl; have hfz42_0 := blk_frozen BK158.out 0; have hfz42_1 := blk_frozen BK158.out 1; have hfz42_2 := blk_frozen BK158.out 2) | ((with_reducible refine gate_callee (f := 21) rfl ?_); refine goesL_ (some 63) rfl rfl Tryz.func21 (by kernel_rfl) rfl #[.int .i64 ((rd_T45 l0_4 x4_3).f2)] rfl (by (try simp only [List.map_toArray, List.map_cons, List.map_nil]); first | done | rfl | (simp only [List.length_drop, List.length_take]; rfl)) ?_; (with_reducible refine (paternosterref24_Number.calls k3 ((rd_T45 l0_4 x4_3).f2) t163 _ A34.out).mono ?_); rintro e w43 ⟨rfl, hb⟩; refine ⟨_, rfl, ?_⟩; have n0_ := Aside0.mk (blk_below (g := gb154) (o := .cells #[.bool a0_0, .bool a0_1, .int .i64 a0_2, .int .u64 a0_3, .slice (some ad157) l0_4.length c0_4] 31 (0, 0)) (by (with_reducible repeat (first | refine blk_drewN ?_ _ | refine blk_drew ?_ | refine blk_alloc ?_ _)); exact BK154.out) hb); have n1_ := Aside0.mk (blk_below (g := gb158) (o := .cells #[.int .i64 ((rd_T45 l0_4 x4_3).f0), .int .i64 ((rd_T45 l0_4 x4_3).f1), .int .i64 ((rd_T45 l0_4 x4_3).f2)] 45 (0, 0)) (by (with_reducible repeat (first | refine blk_drewN ?_ _ | refine blk_drew ?_ | refine blk_alloc ?_ _)); exact BK158.out) hb); have n2_ := Aside0.mk (below_step (by repeat (first | (with_reducible first | exact HB.out | apply below_alloc | apply pw_below_drewN | apply below_drew1 | refine below_set ?_ GE154.out | refine below_set ?_ GE158.out) | exact HB.out)) hb); clear BK154; clear BK158; clear HB; have BK154 := n0_; have BK158 := n1_; have HB := n2_; clear n0_ n1_ n2_; (try clear hb); (try clear hb2); (try clear hk); (try clear hi)))
                                          go_roundg k3
                                          case measure => have := HJ1.out; have := HJ5.out; have := HK3.out; omega
                                          case rel => exact ⟨(((x3_3 ++ ((⟨#[32]⟩ : ByteArray) ++ t159)) ++ ((⟨#[32]⟩ : ByteArray) ++ t162)) ++ ((⟨#[32]⟩ : ByteArray) ++ t163)), (wrap64 (x4_3 + 1)), (by first | rfl | (simp; done) | (simp [*]; done)), (by first | rfl | (simp; done) | (simp [*]; done)), H', ⟨by have := HJ1.out; have := HJ5.out; have := HK3.out; omega⟩, ⟨by (with_reducible repeat (first | refine blk_drewN ?_ _ | refine blk_drew ?_ | refine blk_alloc ?_ _)); exact BK154.out⟩, ⟨by repeat (first | (with_reducible first | exact HB.out | apply below_alloc | apply pw_below_drewN | apply below_drew1 | refine below_set ?_ GE154.out | refine below_set ?_ GE158.out) | exact HB.out)⟩⟩
                                        · rw [if_neg c36] at H
                                          exact absurd H (by simp)
                                      · rw [if_neg c35] at H
                                        exact absurd H (by simp)
                                    · replace c33 := Bool.eq_false_iff.mpr c33
                                      subst c33
                                      have H1 : (paternosterref24_Put.l0 k3 ((x3_3 ++ ((⟨#[32]⟩ : ByteArray) ++ t159)) ++ ((⟨#[32]⟩ : ByteArray) ++ t162)) (wrap64 (x4_3 + 1)) a0_0 a0_1 a0_2 a0_3 l0_4) = some r := by rw [if_neg (show ¬ (false = true) by decide)] at H; exact H
                                      clear H
                                      have H := H1
                                      clear H1
                                      have H' := Aside0.mk H
                                      clear H
                                      have hcz44_0 : wr.cell? ⟨gb154, 0, none⟩ = some (.bool a0_0) := (blk_cell BK154.out 0).trans rfl
                                      have hcz44_1 : wr.cell? ⟨gb154, 1, none⟩ = some (.bool a0_1) := (blk_cell BK154.out 1).trans rfl
                                      have hcz44_2 : wr.cell? ⟨gb154, 2, none⟩ = some (.int .i64 a0_2) := (blk_cell BK154.out 2).trans rfl
                                      have hcz44_3 : wr.cell? ⟨gb154, 3, none⟩ = some (.int .u64 a0_3) := (blk_cell BK154.out 3).trans rfl
                                      have hcz44_4 : wr.cell? ⟨gb154, 4, none⟩ = some (.slice A0_4 l0_4.length c0_4) := (blk_cell BK154.out 4).trans rfl
                                      have hfz44_0 := blk_frozen BK154.out 0
                                      have hfz44_1 := blk_frozen BK154.out 1
                                      have hfz44_2 := blk_frozen BK154.out 2
                                      have hfz44_3 := blk_frozen BK154.out 3
                                      have hfz44_4 := blk_frozen BK154.out 4
                                      have p157 : 0 ≤ (x4_3 : Int) := of_decide_eq_true (by first | (with_reducible assumption) | assumption)
                                      have q157 : x4_3 < (l0_4.length : Int) := of_decide_eq_true (by first | (with_reducible assumption) | assumption)
                                      obtain ⟨ad157, e157, hx157_0, hx157_1, hx157_2⟩ := at_T45 HR0_4.out x4_3 p157 q157
                                      cases e157
                                      replace hx157_0 := (HB.out.cell (World.block_lt_of_cell? w _ hx157_0)).trans hx157_0
                                      replace hx157_1 := (HB.out.cell (World.block_lt_of_cell? w _ hx157_1)).trans hx157_1
                                      replace hx157_2 := (HB.out.cell (World.block_lt_of_cell? w _ hx157_2)).trans hx157_2
                                      replace p157 := eq_true p157
                                      replace q157 := eq_true q157
                                      go_wp2_with (first | ((with_reducible refine gate_dst (N := 5) rfl ?_); refine box_event ?hg (N := 5) ?hd (cs := #[.int .i64 0, .int .i64 0, .int .i64 0]) (t := 45) ?hr ?_; (case hd => rfl); (case hg => rfl); (case hr => first | (go_simp; done) | (go_simp; rfl)); intro gb158 hg w45 hbox hb; have n0_ := Aside0.mk (blk_below (g := gb154) (o := .cells #[.bool a0_0, .bool a0_1, .int .i64 a0_2, .int .u64 a0_3, .slice (some ad157) l0_4.length c0_4] 31 (0, 0)) (by (with_reducible repeat (first | refine blk_drewN ?_ _ | refine blk_drew ?_ | refine blk_alloc ?_ _)); exact BK154.out) hb); have n1_ := Aside0.mk (below_step (by repeat (first | (with_reducible first | exact HB.out | apply below_alloc | apply pw_below_drewN | apply below_drew1 | refine below_set ?_ GE154.out) | exact HB.out)) hb); have n2_ := Aside0.mk (hbox); have n3_ := Aside0.mk ((by rw [hg]; exact (below_size (by repeat (first | (with_reducible first | exact HB.out | apply below_alloc | apply pw_below_drewN | apply below_drew1 | refine below_set ?_ GE154.out) | exact HB.out))) : w.heap.size ≤ gb158)); have n4_ := Aside0.mk ((by rw [hg]; exact (below_size (by repeat (first | (with_reducible first | exact HB.out | apply below_alloc | apply pw_below_drewN | apply below_drew1 | refine below_set ?_ GE154.out) | exact HB.out))) : w.heap.size ≤ gb158)); have n5_ := Aside0.mk ((by rw [hg]; exact Nat.ne_of_lt (blk_lt (g := gb154) (o := .cells #[.bool a0_0, .bool a0_1, .int .i64 a0_2, .int .u64 a0_3, .slice (some ad157) l0_4.length c0_4] 31 (0, 0)) (by (with_reducible repeat (first | refine blk_drewN ?_ _ | refine blk_drew ?_ | refine blk_alloc ?_ _)); exact BK154.out)) : gb154 ≠ gb158)); have n6_ := Aside0.mk ((by rw [hg]; exact Nat.ne_of_gt (blk_lt (g := gb154) (o := .cells #[.bool a0_0, .bool a0_1, .int .i64 a0_2, .int .u64 a0_3, .slice (some ad157) l0_4.length c0_4] 31 (0, 0)) (by (with_reducible repeat (first | refine blk_drewN ?_ _ | refine blk_drew ?_ | refine blk_alloc ?_ _)); exact BK154.out)) : gb158 ≠ gb154)); clear BK154; clear HB; have BK154 := n0_; have HB := n1_; have BK158 := n2_; have GW158 := n3_; have GE158 := n4_; have NB154_158 := n5_; have NB158_154 := n6_; clear n0_ n1_ n2_ n3_ n4_ n5_ n6_; clear hb hbox hg; have hnb46 := NB158_154.out; have hnc46 := NB154_158.out; have hcz47_0 : w45.cell? ⟨gb158, 0, none⟩ = some (.int .i64 0) := (blk_cell BK158.out 0).trans rfl; have hcz47_1 : w45.cell? ⟨gb158, 1, none⟩ = some (.int .i64 0) := (blk_cell BK158.out 1).trans rfl; have hcz47_2 : w45.cell? ⟨gb158, 2, none⟩ = some (.int .i64 0) := (blk_cell BK158.out 2).trans rfl; have hfz47_0 := blk_frozen BK158.out 0; have hfz47_1 := blk_frozen BK158.out 1; have hfz47_2 := blk_frozen BK158.out 2) | ((with_reducible refine gate_callee (f := 14) rfl ?_); refine goesL_ (some 42) rfl rfl Tryz.func14 (by kernel_rfl) rfl #[.int .i64 ((rd_T45 l0_4 x4_3).f0)] rfl (by (try simp only [List.map_toArray, List.map_cons, List.map_nil]); first | done | rfl | (simp only [List.length_drop, List.length_take]; rfl)) ?_; (with_reducible refine (paternosterref24_Kind.calls ((rd_T45 l0_4 x4_3).f0) t159 true false _ A21.out).mono ?_); rintro e w' ⟨rfl, ⟨nd, rfl⟩⟩; refine ⟨_, rfl, ?_⟩) | ((with_reducible refine gate_callee (f := 21) rfl ?_); refine goesL_ (some 56) rfl rfl Tryz.func21 (by kernel_rfl) rfl #[.int .i64 ((rd_T45 l0_4 x4_3).f1)] rfl (by (try simp only [List.map_toArray, List.map_cons, List.map_nil]); first | done | rfl | (simp only [List.length_drop, List.length_take]; rfl)) ?_; (with_reducible refine (paternosterref24_Number.calls k3 ((rd_T45 l0_4 x4_3).f1) t162 _ A30.out).mono ?_); rintro e w48 ⟨rfl, hb⟩; refine ⟨_, rfl, ?_⟩; have n0_ := Aside0.mk (blk_below (g := gb154) (o := .cells #[.bool a0_0, .bool a0_1, .int .i64 a0_2, .int .u64 a0_3, .slice (some ad157) l0_4.length c0_4] 31 (0, 0)) (by (with_reducible repeat (first | refine blk_drewN ?_ _ | refine blk_drew ?_ | refine blk_alloc ?_ _)); refine blk_far ?_ NB154_158.out _; (with_reducible repeat (first | refine blk_drewN ?_ _ | refine blk_drew ?_ | refine blk_alloc ?_ _)); refine blk_far ?_ NB154_158.out _; (with_reducible repeat (first | refine blk_drewN ?_ _ | refine blk_drew ?_ | refine blk_alloc ?_ _)); refine blk_far ?_ NB154_158.out _; (with_reducible repeat (first | refine blk_drewN ?_ _ | refine blk_drew ?_ | refine blk_alloc ?_ _)); exact BK154.out) hb); have n1_ := Aside0.mk (blk_below (g := gb158) (o := .cells #[.int .i64 ((rd_T45 l0_4 x4_3).f0), .int .i64 ((rd_T45 l0_4 x4_3).f1), .int .i64 ((rd_T45 l0_4 x4_3).f2)] 45 (0, 0)) (by (with_reducible repeat (first | refine blk_drewN ?_ _ | refine blk_drew ?_ | refine blk_alloc ?_ _)); refine blk_put (cs := #[.int .i64 ((rd_T45 l0_4 x4_3).f0), .int .i64 ((rd_T45 l0_4 x4_3).f1), .int .i64 0]) ?_ 2 _ rfl; (with_reducible repeat (first | refine blk_drewN ?_ _ | refine blk_drew ?_ | refine blk_alloc ?_ _)); refine blk_put (cs := #[.int .i64 ((rd_T45 l0_4 x4_3).f0), .int .i64 0, .int .i64 0]) ?_ 1 _ rfl; (with_reducible repeat (first | refine blk_drewN ?_ _ | refine blk_drew ?_ | refine blk_alloc ?_ _)); refine blk_put (cs := #[.int .i64 0, .int .i64 0, .int .i64 0]) ?_ 0 _ rfl; (with_reducible repeat (first | refine blk_drewN ?_ _ | refine blk_drew ?_ | refine blk_alloc ?_ _)); exact BK158.out) hb); have n2_ := Aside0.mk (below_step (by repeat (first | (with_reducible first | exact HB.out | apply below_alloc | apply pw_below_drewN | apply below_drew1 | refine below_set ?_ GE154.out | refine below_set ?_ GE158.out) | exact HB.out)) hb); clear BK154; clear BK158; clear HB; have BK154 := n0_; have BK158 := n1_; have HB := n2_; clear n0_ n1_ n2_; (try clear hb); (try clear hb2); (try clear hk); (try clear hi)))
                                      go_roundg k3
                                      case measure => have := HJ1.out; have := HJ5.out; have := HK3.out; omega
                                      case rel => exact ⟨((x3_3 ++ ((⟨#[32]⟩ : ByteArray) ++ t159)) ++ ((⟨#[32]⟩ : ByteArray) ++ t162)), (wrap64 (x4_3 + 1)), (by first | rfl | (simp; done) | (simp [*]; done)), (by first | rfl | (simp; done) | (simp [*]; done)), H', ⟨by have := HJ1.out; have := HJ5.out; have := HK3.out; omega⟩, ⟨by (with_reducible repeat (first | refine blk_drewN ?_ _ | refine blk_drew ?_ | refine blk_alloc ?_ _)); exact BK154.out⟩, ⟨by repeat (first | (with_reducible first | exact HB.out | apply below_alloc | apply pw_below_drewN | apply below_drew1 | refine below_set ?_ GE154.out | refine below_set ?_ GE158.out) | exact HB.out)⟩⟩
                                  · rw [if_neg c32] at H
                                    exact absurd H (by simp)
                                · rw [if_neg c31] at H
                                  exact absurd H (by simp)
                              · replace c29 := Bool.eq_false_iff.mpr c29
                                subst c29
                                have H1 : (if t161 = true then ((paternosterref24_Number.f k3 ((rd_T45 l0_4 x4_3).f2)).bind fun t164 => (if 1 + t164.size ≤ 9223372036854775807 then (if (x3_3 ++ ((⟨#[32]⟩ : ByteArray) ++ t159)).size + ((⟨#[32]⟩ : ByteArray) ++ t164).size ≤ 9223372036854775807 then (paternosterref24_Put.l0 k3 ((x3_3 ++ ((⟨#[32]⟩ : ByteArray) ++ t159)) ++ ((⟨#[32]⟩ : ByteArray) ++ t164)) (wrap64 (x4_3 + 1)) a0_0 a0_1 a0_2 a0_3 l0_4) else (none)) else (none))) else (paternosterref24_Put.l0 k3 (x3_3 ++ ((⟨#[32]⟩ : ByteArray) ++ t159)) (wrap64 (x4_3 + 1)) a0_0 a0_1 a0_2 a0_3 l0_4)) = some r := by rw [if_neg (show ¬ (false = true) by decide)] at H; exact H
                                clear H
                                have H := H1
                                clear H1
                                by_cases c49 : t161 = true
                                · subst c49
                                  have H1 : ((paternosterref24_Number.f k3 ((rd_T45 l0_4 x4_3).f2)).bind fun t164 => (if 1 + t164.size ≤ 9223372036854775807 then (if (x3_3 ++ ((⟨#[32]⟩ : ByteArray) ++ t159)).size + ((⟨#[32]⟩ : ByteArray) ++ t164).size ≤ 9223372036854775807 then (paternosterref24_Put.l0 k3 ((x3_3 ++ ((⟨#[32]⟩ : ByteArray) ++ t159)) ++ ((⟨#[32]⟩ : ByteArray) ++ t164)) (wrap64 (x4_3 + 1)) a0_0 a0_1 a0_2 a0_3 l0_4) else (none)) else (none))) = some r := by rw [if_pos rfl] at H; exact H
                                  clear H
                                  have H := H1
                                  clear H1
                                  replace H := Option.bind_eq_some_iff.mp H
                                  obtain ⟨t164, A500, H⟩ := H
                                  replace H : (if 1 + t164.size ≤ 9223372036854775807 then (if (x3_3 ++ ((⟨#[32]⟩ : ByteArray) ++ t159)).size + ((⟨#[32]⟩ : ByteArray) ++ t164).size ≤ 9223372036854775807 then (paternosterref24_Put.l0 k3 ((x3_3 ++ ((⟨#[32]⟩ : ByteArray) ++ t159)) ++ ((⟨#[32]⟩ : ByteArray) ++ t164)) (wrap64 (x4_3 + 1)) a0_0 a0_1 a0_2 a0_3 l0_4) else (none)) else (none)) = some r := H
                                  have A50 := Aside0.mk A500
                                  clear A500
                                  by_cases c51 : 1 + t164.size ≤ 9223372036854775807
                                  · rw [if_pos c51] at H
                                    have c51b0 := eq_true c51
                                    have c51b1 : decide (1 + t164.size ≤ 9223372036854775807) = true := decide_eq_true c51
                                    try have c51b2 : (9223372036854775807 < 1 + t164.size) = False := eq_false (Nat.not_lt.2 c51)
                                    by_cases c52 : (x3_3 ++ ((⟨#[32]⟩ : ByteArray) ++ t159)).size + ((⟨#[32]⟩ : ByteArray) ++ t164).size ≤ 9223372036854775807
                                    · rw [if_pos c52] at H
                                      have c52b0 := eq_true c52
                                      have c52b1 : decide ((x3_3 ++ ((⟨#[32]⟩ : ByteArray) ++ t159)).size + ((⟨#[32]⟩ : ByteArray) ++ t164).size ≤ 9223372036854775807) = true := decide_eq_true c52
                                      try have c52b2 : (9223372036854775807 < (x3_3 ++ ((⟨#[32]⟩ : ByteArray) ++ t159)).size + ((⟨#[32]⟩ : ByteArray) ++ t164).size) = False := eq_false (Nat.not_lt.2 c52)
                                      try (have c52b3 := c52b2; simp only [ByteArray.size_append, show (⟨#[32]⟩ : ByteArray).size = 1 from rfl] at c52b3)
                                      have H' := Aside0.mk H
                                      clear H
                                      have hcz53_0 : wr.cell? ⟨gb154, 0, none⟩ = some (.bool a0_0) := (blk_cell BK154.out 0).trans rfl
                                      have hcz53_1 : wr.cell? ⟨gb154, 1, none⟩ = some (.bool a0_1) := (blk_cell BK154.out 1).trans rfl
                                      have hcz53_2 : wr.cell? ⟨gb154, 2, none⟩ = some (.int .i64 a0_2) := (blk_cell BK154.out 2).trans rfl
                                      have hcz53_3 : wr.cell? ⟨gb154, 3, none⟩ = some (.int .u64 a0_3) := (blk_cell BK154.out 3).trans rfl
                                      have hcz53_4 : wr.cell? ⟨gb154, 4, none⟩ = some (.slice A0_4 l0_4.length c0_4) := (blk_cell BK154.out 4).trans rfl
                                      have hfz53_0 := blk_frozen BK154.out 0
                                      have hfz53_1 := blk_frozen BK154.out 1
                                      have hfz53_2 := blk_frozen BK154.out 2
                                      have hfz53_3 := blk_frozen BK154.out 3
                                      have hfz53_4 := blk_frozen BK154.out 4
                                      have p157 : 0 ≤ (x4_3 : Int) := of_decide_eq_true (by first | (with_reducible assumption) | assumption)
                                      have q157 : x4_3 < (l0_4.length : Int) := of_decide_eq_true (by first | (with_reducible assumption) | assumption)
                                      obtain ⟨ad157, e157, hx157_0, hx157_1, hx157_2⟩ := at_T45 HR0_4.out x4_3 p157 q157
                                      cases e157
                                      replace hx157_0 := (HB.out.cell (World.block_lt_of_cell? w _ hx157_0)).trans hx157_0
                                      replace hx157_1 := (HB.out.cell (World.block_lt_of_cell? w _ hx157_1)).trans hx157_1
                                      replace hx157_2 := (HB.out.cell (World.block_lt_of_cell? w _ hx157_2)).trans hx157_2
                                      replace p157 := eq_true p157
                                      replace q157 := eq_true q157
                                      go_wp2_with (first | ((with_reducible refine gate_dst (N := 5) rfl ?_); refine box_event ?hg (N := 5) ?hd (cs := #[.int .i64 0, .int .i64 0, .int .i64 0]) (t := 45) ?hr ?_; (case hd => rfl); (case hg => rfl); (case hr => first | (go_simp; done) | (go_simp; rfl)); intro gb158 hg w54 hbox hb; have n0_ := Aside0.mk (blk_below (g := gb154) (o := .cells #[.bool a0_0, .bool a0_1, .int .i64 a0_2, .int .u64 a0_3, .slice (some ad157) l0_4.length c0_4] 31 (0, 0)) (by (with_reducible repeat (first | refine blk_drewN ?_ _ | refine blk_drew ?_ | refine blk_alloc ?_ _)); exact BK154.out) hb); have n1_ := Aside0.mk (below_step (by repeat (first | (with_reducible first | exact HB.out | apply below_alloc | apply pw_below_drewN | apply below_drew1 | refine below_set ?_ GE154.out) | exact HB.out)) hb); have n2_ := Aside0.mk (hbox); have n3_ := Aside0.mk ((by rw [hg]; exact (below_size (by repeat (first | (with_reducible first | exact HB.out | apply below_alloc | apply pw_below_drewN | apply below_drew1 | refine below_set ?_ GE154.out) | exact HB.out))) : w.heap.size ≤ gb158)); have n4_ := Aside0.mk ((by rw [hg]; exact (below_size (by repeat (first | (with_reducible first | exact HB.out | apply below_alloc | apply pw_below_drewN | apply below_drew1 | refine below_set ?_ GE154.out) | exact HB.out))) : w.heap.size ≤ gb158)); have n5_ := Aside0.mk ((by rw [hg]; exact Nat.ne_of_lt (blk_lt (g := gb154) (o := .cells #[.bool a0_0, .bool a0_1, .int .i64 a0_2, .int .u64 a0_3, .slice (some ad157) l0_4.length c0_4] 31 (0, 0)) (by (with_reducible repeat (first | refine blk_drewN ?_ _ | refine blk_drew ?_ | refine blk_alloc ?_ _)); exact BK154.out)) : gb154 ≠ gb158)); have n6_ := Aside0.mk ((by rw [hg]; exact Nat.ne_of_gt (blk_lt (g := gb154) (o := .cells #[.bool a0_0, .bool a0_1, .int .i64 a0_2, .int .u64 a0_3, .slice (some ad157) l0_4.length c0_4] 31 (0, 0)) (by (with_reducible repeat (first | refine blk_drewN ?_ _ | refine blk_drew ?_ | refine blk_alloc ?_ _)); exact BK154.out)) : gb158 ≠ gb154)); clear BK154; clear HB; have BK154 := n0_; have HB := n1_; have BK158 := n2_; have GW158 := n3_; have GE158 := n4_; have NB154_158 := n5_; have NB158_154 := n6_; clear n0_ n1_ n2_ n3_ n4_ n5_ n6_; clear hb hbox hg; have hnb55 := NB158_154.out; have hnc55 := NB154_158.out; have hcz56_0 : w54.cell? ⟨gb158, 0, none⟩ = some (.int .i64 0) := (blk_cell BK158.out 0).trans rfl; have hcz56_1 : w54.cell? ⟨gb158, 1, none⟩ = some (.int .i64 0) := (blk_cell BK158.out 1).trans rfl; have hcz56_2 : w54.cell? ⟨gb158, 2, none⟩ = some (.int .i64 0) := (blk_cell BK158.out 2).trans rfl; have hfz56_0 := blk_frozen BK158.out 0; have hfz56_1 := blk_frozen BK158.out 1; have hfz56_2 := blk_frozen BK158.out 2) | ((with_reducible refine gate_callee (f := 14) rfl ?_); refine goesL_ (some 42) rfl rfl Tryz.func14 (by kernel_rfl) rfl #[.int .i64 ((rd_T45 l0_4 x4_3).f0)] rfl (by (try simp only [List.map_toArray, List.map_cons, List.map_nil]); first | done | rfl | (simp only [List.length_drop, List.length_take]; rfl)) ?_; (with_reducible refine (paternosterref24_Kind.calls ((rd_T45 l0_4 x4_3).f0) t159 false true _ A21.out).mono ?_); rintro e w' ⟨rfl, ⟨nd, rfl⟩⟩; refine ⟨_, rfl, ?_⟩) | ((with_reducible refine gate_callee (f := 21) rfl ?_); refine goesL_ (some 63) rfl rfl Tryz.func21 (by kernel_rfl) rfl #[.int .i64 ((rd_T45 l0_4 x4_3).f2)] rfl (by (try simp only [List.map_toArray, List.map_cons, List.map_nil]); first | done | rfl | (simp only [List.length_drop, List.length_take]; rfl)) ?_; (with_reducible refine (paternosterref24_Number.calls k3 ((rd_T45 l0_4 x4_3).f2) t164 _ A50.out).mono ?_); rintro e w57 ⟨rfl, hb⟩; refine ⟨_, rfl, ?_⟩; have n0_ := Aside0.mk (blk_below (g := gb154) (o := .cells #[.bool a0_0, .bool a0_1, .int .i64 a0_2, .int .u64 a0_3, .slice (some ad157) l0_4.length c0_4] 31 (0, 0)) (by (with_reducible repeat (first | refine blk_drewN ?_ _ | refine blk_drew ?_ | refine blk_alloc ?_ _)); refine blk_far ?_ NB154_158.out _; (with_reducible repeat (first | refine blk_drewN ?_ _ | refine blk_drew ?_ | refine blk_alloc ?_ _)); refine blk_far ?_ NB154_158.out _; (with_reducible repeat (first | refine blk_drewN ?_ _ | refine blk_drew ?_ | refine blk_alloc ?_ _)); refine blk_far ?_ NB154_158.out _; (with_reducible repeat (first | refine blk_drewN ?_ _ | refine blk_drew ?_ | refine blk_alloc ?_ _)); exact BK154.out) hb); have n1_ := Aside0.mk (blk_below (g := gb158) (o := .cells #[.int .i64 ((rd_T45 l0_4 x4_3).f0), .int .i64 ((rd_T45 l0_4 x4_3).f1), .int .i64 ((rd_T45 l0_4 x4_3).f2)] 45 (0, 0)) (by (with_reducible repeat (first | refine blk_drewN ?_ _ | refine blk_drew ?_ | refine blk_alloc ?_ _)); refine blk_put (cs := #[.int .i64 ((rd_T45 l0_4 x4_3).f0), .int .i64 ((rd_T45 l0_4 x4_3).f1), .int .i64 0]) ?_ 2 _ rfl; (with_reducible repeat (first | refine blk_drewN ?_ _ | refine blk_drew ?_ | refine blk_alloc ?_ _)); refine blk_put (cs := #[.int .i64 ((rd_T45 l0_4 x4_3).f0), .int .i64 0, .int .i64 0]) ?_ 1 _ rfl; (with_reducible repeat (first | refine blk_drewN ?_ _ | refine blk_drew ?_ | refine blk_alloc ?_ _)); refine blk_put (cs := #[.int .i64 0, .int .i64 0, .int .i64 0]) ?_ 0 _ rfl; (with_reducible repeat (first | refine blk_drewN ?_ _ | refine blk_drew ?_ | refine blk_alloc ?_ _)); exact BK158.out) hb); have n2_ := Aside0.mk (below_step (by repeat (first | (with_reducible first | exact HB.out | apply below_alloc | apply pw_below_drewN | apply below_drew1 | refine below_set ?_ GE154.out | refine below_set ?_ GE158.out) | exact HB.out)) hb); clear BK154; clear BK158; clear HB; have BK154 := n0_; have BK158 := n1_; have HB := n2_; clear n0_ n1_ n2_; (try clear hb); (try clear hb2); (try clear hk); (try clear hi)))
                                      go_roundg k3
                                      case measure => have := HJ1.out; have := HJ5.out; have := HK3.out; omega
                                      case rel => exact ⟨((x3_3 ++ ((⟨#[32]⟩ : ByteArray) ++ t159)) ++ ((⟨#[32]⟩ : ByteArray) ++ t164)), (wrap64 (x4_3 + 1)), (by first | rfl | (simp; done) | (simp [*]; done)), (by first | rfl | (simp; done) | (simp [*]; done)), H', ⟨by have := HJ1.out; have := HJ5.out; have := HK3.out; omega⟩, ⟨by (with_reducible repeat (first | refine blk_drewN ?_ _ | refine blk_drew ?_ | refine blk_alloc ?_ _)); exact BK154.out⟩, ⟨by repeat (first | (with_reducible first | exact HB.out | apply below_alloc | apply pw_below_drewN | apply below_drew1 | refine below_set ?_ GE154.out | refine below_set ?_ GE158.out) | exact HB.out)⟩⟩
                                    · rw [if_neg c52] at H
                                      exact absurd H (by simp)
                                  · rw [if_neg c51] at H
                                    exact absurd H (by simp)
                                · replace c49 := Bool.eq_false_iff.mpr c49
                                  subst c49
                                  have H1 : (paternosterref24_Put.l0 k3 (x3_3 ++ ((⟨#[32]⟩ : ByteArray) ++ t159)) (wrap64 (x4_3 + 1)) a0_0 a0_1 a0_2 a0_3 l0_4) = some r := by rw [if_neg (show ¬ (false = true) by decide)] at H; exact H
                                  clear H
                                  have H := H1
                                  clear H1
                                  have H' := Aside0.mk H
                                  clear H
                                  have hcz58_0 : wr.cell? ⟨gb154, 0, none⟩ = some (.bool a0_0) := (blk_cell BK154.out 0).trans rfl
                                  have hcz58_1 : wr.cell? ⟨gb154, 1, none⟩ = some (.bool a0_1) := (blk_cell BK154.out 1).trans rfl
                                  have hcz58_2 : wr.cell? ⟨gb154, 2, none⟩ = some (.int .i64 a0_2) := (blk_cell BK154.out 2).trans rfl
                                  have hcz58_3 : wr.cell? ⟨gb154, 3, none⟩ = some (.int .u64 a0_3) := (blk_cell BK154.out 3).trans rfl
                                  have hcz58_4 : wr.cell? ⟨gb154, 4, none⟩ = some (.slice A0_4 l0_4.length c0_4) := (blk_cell BK154.out 4).trans rfl
                                  have hfz58_0 := blk_frozen BK154.out 0
                                  have hfz58_1 := blk_frozen BK154.out 1
                                  have hfz58_2 := blk_frozen BK154.out 2
                                  have hfz58_3 := blk_frozen BK154.out 3
                                  have hfz58_4 := blk_frozen BK154.out 4
                                  have p157 : 0 ≤ (x4_3 : Int) := of_decide_eq_true (by first | (with_reducible assumption) | assumption)
                                  have q157 : x4_3 < (l0_4.length : Int) := of_decide_eq_true (by first | (with_reducible assumption) | assumption)
                                  obtain ⟨ad157, e157, hx157_0, hx157_1, hx157_2⟩ := at_T45 HR0_4.out x4_3 p157 q157
                                  cases e157
                                  replace hx157_0 := (HB.out.cell (World.block_lt_of_cell? w _ hx157_0)).trans hx157_0
                                  replace hx157_1 := (HB.out.cell (World.block_lt_of_cell? w _ hx157_1)).trans hx157_1
                                  replace hx157_2 := (HB.out.cell (World.block_lt_of_cell? w _ hx157_2)).trans hx157_2
                                  replace p157 := eq_true p157
                                  replace q157 := eq_true q157
                                  go_wp2_with (first | ((with_reducible refine gate_dst (N := 5) rfl ?_); refine box_event ?hg (N := 5) ?hd (cs := #[.int .i64 0, .int .i64 0, .int .i64 0]) (t := 45) ?hr ?_; (case hd => rfl); (case hg => rfl); (case hr => first | (go_simp; done) | (go_simp; rfl)); intro gb158 hg w59 hbox hb; have n0_ := Aside0.mk (blk_below (g := gb154) (o := .cells #[.bool a0_0, .bool a0_1, .int .i64 a0_2, .int .u64 a0_3, .slice (some ad157) l0_4.length c0_4] 31 (0, 0)) (by (with_reducible repeat (first | refine blk_drewN ?_ _ | refine blk_drew ?_ | refine blk_alloc ?_ _)); exact BK154.out) hb); have n1_ := Aside0.mk (below_step (by repeat (first | (with_reducible first | exact HB.out | apply below_alloc | apply pw_below_drewN | apply below_drew1 | refine below_set ?_ GE154.out) | exact HB.out)) hb); have n2_ := Aside0.mk (hbox); have n3_ := Aside0.mk ((by rw [hg]; exact (below_size (by repeat (first | (with_reducible first | exact HB.out | apply below_alloc | apply pw_below_drewN | apply below_drew1 | refine below_set ?_ GE154.out) | exact HB.out))) : w.heap.size ≤ gb158)); have n4_ := Aside0.mk ((by rw [hg]; exact (below_size (by repeat (first | (with_reducible first | exact HB.out | apply below_alloc | apply pw_below_drewN | apply below_drew1 | refine below_set ?_ GE154.out) | exact HB.out))) : w.heap.size ≤ gb158)); have n5_ := Aside0.mk ((by rw [hg]; exact Nat.ne_of_lt (blk_lt (g := gb154) (o := .cells #[.bool a0_0, .bool a0_1, .int .i64 a0_2, .int .u64 a0_3, .slice (some ad157) l0_4.length c0_4] 31 (0, 0)) (by (with_reducible repeat (first | refine blk_drewN ?_ _ | refine blk_drew ?_ | refine blk_alloc ?_ _)); exact BK154.out)) : gb154 ≠ gb158)); have n6_ := Aside0.mk ((by rw [hg]; exact Nat.ne_of_gt (blk_lt (g := gb154) (o := .cells #[.bool a0_0, .bool a0_1, .int .i64 a0_2, .int .u64 a0_3, .slice (some ad157) l0_4.length c0_4] 31 (0, 0)) (by (with_reducible repeat (first | refine blk_drewN ?_ _ | refine blk_drew ?_ | refine blk_alloc ?_ _)); exact BK154.out)) : gb158 ≠ gb154)); clear BK154; clear HB; have BK154 := n0_; have HB := n1_; have BK158 := n2_; have GW158 := n3_; have GE158 := n4_; have NB154_158 := n5_; have NB158_154 := n6_; clear n0_ n1_ n2_ n3_ n4_ n5_ n6_; clear hb hbox hg; have hnb60 := NB158_154.out; have hnc60 := NB154_158.out; have hcz61_0 : w59.cell? ⟨gb158, 0, none⟩ = some (.int .i64 0) := (blk_cell BK158.out 0).trans rfl; have hcz61_1 : w59.cell? ⟨gb158, 1, none⟩ = some (.int .i64 0) := (blk_cell BK158.out 1).trans rfl; have hcz61_2 : w59.cell? ⟨gb158, 2, none⟩ = some (.int .i64 0) := (blk_cell BK158.out 2).trans rfl; have hfz61_0 := blk_frozen BK158.out 0; have hfz61_1 := blk_frozen BK158.out 1; have hfz61_2 := blk_frozen BK158.out 2) | ((with_reducible refine gate_callee (f := 14) rfl ?_); refine goesL_ (some 42) rfl rfl Tryz.func14 (by kernel_rfl) rfl #[.int .i64 ((rd_T45 l0_4 x4_3).f0)] rfl (by (try simp only [List.map_toArray, List.map_cons, List.map_nil]); first | done | rfl | (simp only [List.length_drop, List.length_take]; rfl)) ?_; (with_reducible refine (paternosterref24_Kind.calls ((rd_T45 l0_4 x4_3).f0) t159 false false _ A21.out).mono ?_); rintro e w' ⟨rfl, ⟨nd, rfl⟩⟩; refine ⟨_, rfl, ?_⟩))
                                  go_roundg k3
                                  case measure => have := HJ1.out; have := HJ5.out; have := HK3.out; omega
                                  case rel => exact ⟨(x3_3 ++ ((⟨#[32]⟩ : ByteArray) ++ t159)), (wrap64 (x4_3 + 1)), (by first | rfl | (simp; done) | (simp [*]; done)), (by first | rfl | (simp; done) | (simp [*]; done)), H', ⟨by have := HJ1.out; have := HJ5.out; have := HK3.out; omega⟩, ⟨by (with_reducible repeat (first | refine blk_drewN ?_ _ | refine blk_drew ?_ | refine blk_alloc ?_ _)); refine blk_far ?_ NB154_158.out _; (with_reducible repeat (first | refine blk_drewN ?_ _ | refine blk_drew ?_ | refine blk_alloc ?_ _)); refine blk_far ?_ NB154_158.out _; (with_reducible repeat (first | refine blk_drewN ?_ _ | refine blk_drew ?_ | refine blk_alloc ?_ _)); refine blk_far ?_ NB154_158.out _; (with_reducible repeat (first | refine blk_drewN ?_ _ | refine blk_drew ?_ | refine blk_alloc ?_ _)); exact BK154.out⟩, ⟨by repeat (first | (with_reducible first | exact HB.out | apply below_alloc | apply pw_below_drewN | apply below_drew1 | refine below_set ?_ GE154.out | refine below_set ?_ GE158.out) | exact HB.out)⟩⟩
                            · rw [if_neg c28] at H
                              exact absurd H (by simp)
                          · rw [if_neg c27] at H
                            exact absurd H (by simp)
                      · rw [if_neg c20] at H
                        exact absurd H (by simp)
                    · rw [if_neg c19] at H
                      have c19b0 : decide (x4_3 < (l0_4.length : Int)) = false := decide_eq_false c19
                      clear c19
                      obtain rfl := Option.some.inj H
                      have hcz62_0 : wr.cell? ⟨gb154, 0, none⟩ = some (.bool a0_0) := (blk_cell BK154.out 0).trans rfl
                      have hcz62_1 : wr.cell? ⟨gb154, 1, none⟩ = some (.bool a0_1) := (blk_cell BK154.out 1).trans rfl
                      have hcz62_2 : wr.cell? ⟨gb154, 2, none⟩ = some (.int .i64 a0_2) := (blk_cell BK154.out 2).trans rfl
                      have hcz62_3 : wr.cell? ⟨gb154, 3, none⟩ = some (.int .u64 a0_3) := (blk_cell BK154.out 3).trans rfl
                      have hcz62_4 : wr.cell? ⟨gb154, 4, none⟩ = some (.slice A0_4 l0_4.length c0_4) := (blk_cell BK154.out 4).trans rfl
                      have hfz62_0 := blk_frozen BK154.out 0
                      have hfz62_1 := blk_frozen BK154.out 1
                      have hfz62_2 := blk_frozen BK154.out 2
                      have hfz62_3 := blk_frozen BK154.out 3
                      have hfz62_4 := blk_frozen BK154.out 4
                      go_wp2
                      go_ret
                      exact ⟨by first | rfl | (simp [errW_none, errW_some] <;> rfl) | (simp [*, errW_none, errW_some] <;> rfl), by repeat (first | (with_reducible first | exact HB.out | apply below_alloc | apply pw_below_drewN | apply below_drew1 | refine below_set ?_ GE154.out) | exact HB.out)⟩
              · rw [if_neg c15] at H
                exact absurd H (by simp)
            · rw [if_neg c14] at H
              exact absurd H (by simp)
          · rw [if_neg c12] at H
            exact absurd H (by simp)
end Go.Proofs.YtglgipggefpoiaaGreatDoor.PAll
end
