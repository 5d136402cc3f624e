/- Texts of mine, put together (no statement stands here). -/
import Derived.Test.YtbcijmpkmmcdeaaDoorCJPlays9
import Derived.Test.YtbcijmpkmmcdeaaDoorCJPlays12
import Derived.Test.YtbcijmpkmmcdeaaDoorCJPlays10
import Derived.Lib.Bytes
import Derived.OpenShut
import Derived.Laws.BitsLemmas
section
namespace Go.Proofs.YtbcijmpkmmcdeaaDoor.PAll
open Go.RowKit Go.Proofs.YtbcijmpkmmcdeaaDoorW.PrintWords Go.Proofs.YtbcijmpkmmcdeaaDoorW.PrintLast Go.Proofs.YtbcijmpkmmcdeaaDoorW.PrintMore
attribute [local go_sem] max2_int min2_int max_two min_two max_three min_three max_four min_four
set_option linter.unusedVariables false
set_option linter.unusedSimpArgs false
mutual
def paternosterref02_Of.l0 : Nat → ByteArray → Int → Int → Option (Int)
  | 0, _, _, _ => none
  | k + 1, x0, x3, x4 => if x4 < (x0.size : Int) then (if 0 ≤ x4 then (paternosterref02_Of.l1 k x0 (Go.bits .xor .u32 x3 ((bt x0 x4) % 4294967296)) x4 0) else (none)) else (some ((4294967295 - x3) % 4294967296))
def paternosterref02_Of.l1 : Nat → ByteArray → Int → Int → Int → Option (Int)
  | 0, _, _, _, _ => none
  | k + 1, x0, x3, x4, x5 => if x5 < 8 then (if (Int.tmod x3 2) = 1 then (paternosterref02_Of.l1 k x0 (Go.bits .xor .u32 ((Int.tdiv x3 2) % 4294967296) 3988292384) x4 (wrap64 (x5 + 1))) else (paternosterref02_Of.l1 k x0 ((Int.tdiv x3 2) % 4294967296) x4 (wrap64 (x5 + 1)))) else (paternosterref02_Of.l0 k x0 x3 (wrap64 (x4 + 1)))
end
def paternosterref02_Of.f (k : Nat) (a0 : ByteArray) : Option (Int) := paternosterref02_Of.l0 k a0 4294967295 0
set_option maxHeartbeats 8000000 in
set_option maxRecDepth 100000 in
theorem paternosterref02_Of.calls (k : Nat) (a0 : ByteArray) (r : Int) (w : World) (h : paternosterref02_Of.f k a0 = some r) :
    Calls Tryd.prog 71 #[.string a0] w fun e w' => e = .returned (.int .u32 r) ∧ Drawn0 w w' := by
  have H : (paternosterref02_Of.l0 k a0 4294967295 0) = some r := h
  clear h
  have H' := Aside0.mk H
  clear H
  go_enter Tryd.func71, Tryd.ntmps71
  go_wp2
  go_loopg [3, 4] k (fun kq v3 v4 w' => ∃ (x3_1 : Int) (x4_1 : Int), v3 = .int .u32 x3_1 ∧ v4 = .int .i64 x4_1 ∧ Aside0 (paternosterref02_Of.l0 kq a0 x3_1 x4_1 = some r) ∧ Aside0 (kq ≤ k) ∧ Drawn0 w w')
  case atStart => exact ⟨(4294967295), (0), (by first | rfl | (simp; done) | (simp [*]; done)), (by first | rfl | (simp; done) | (simp [*]; done)), H', ⟨Nat.le_refl _⟩, by repeat (first | exact Drawn0.refl _ | apply Drawn0.step)⟩
  case round =>
    clear H'
    obtain ⟨x3_1, x4_1, rfl, rfl, HA, HK1, ⟨m1, rfl⟩⟩ := hrel
    cases gk with
    | zero => exact absurd HA.out (by simp [paternosterref02_Of.l0])
    | succ k1 =>
      have H := HA.out
      clear HA
      simp only [paternosterref02_Of.l0] at H
      by_cases c2 : x4_1 < (a0.size : Int)
      · rw [if_pos c2] at H
        have c2b0 : decide (x4_1 < (a0.size : Int)) = true := decide_eq_true c2
        clear c2
        by_cases c3 : 0 ≤ x4_1
        · rw [if_pos c3] at H
          have c3b0 : decide (0 ≤ x4_1) = true := decide_eq_true c3
          clear c3
          have H' := Aside0.mk H
          clear H
          have p4 : 0 ≤ (x4_1 : Int) := of_decide_eq_true (by first | (with_reducible assumption) | assumption)
          have q4 : x4_1 < (a0.size : Int) := of_decide_eq_true (by first | (with_reducible assumption) | assumption)
          have hx4 := bt_at a0 x4_1
          replace p4 := eq_true p4
          replace q4 := eq_true q4
          go_wp2
          go_loopg [3, 5] k1 (fun kq v3 v5 w' => ∃ (x3_2 : Int) (x5_2 : Int), v3 = .int .u32 x3_2 ∧ v5 = .int .i64 x5_2 ∧ Aside0 (paternosterref02_Of.l1 kq a0 x3_2 x4_1 x5_2 = some r) ∧ Aside0 (kq ≤ k1) ∧ Drawn0 w w')
          case atStart => exact ⟨(Go.bits .xor .u32 x3_1 ((bt a0 x4_1) % 4294967296)), (0), (by first | rfl | (simp; done) | (simp [*]; done)), (by first | rfl | (simp; done) | (simp [*]; done)), H', ⟨Nat.le_refl _⟩, by repeat (first | exact Drawn0.refl _ | apply Drawn0.step)⟩
          case round =>
            clear H'
            try clear c2
            try clear c2b0
            try clear p2
            try clear c3
            try clear c3b0
            try clear p4
            try clear q4
            try clear hx4
            try clear p4
            try clear q4
            obtain ⟨x3_2, x5_2, rfl, rfl, HA, HK2, ⟨m2, rfl⟩⟩ := hrel
            cases gk with
            | zero => exact absurd HA.out (by simp [paternosterref02_Of.l1])
            | succ k2 =>
              have H := HA.out
              clear HA
              simp only [paternosterref02_Of.l1] at H
              by_cases c5 : x5_2 < 8
              · rw [if_pos c5] at H
                have c5b0 : decide (x5_2 < 8) = true := decide_eq_true c5
                clear c5
                by_cases c6 : (Int.tmod x3_2 2) = 1
                · rw [if_pos c6] at H
                  have c6b0 : ((Int.tmod x3_2 2) == 1) = true := beq_iff_eq.mpr c6
                  have c6b1 : ((Int.tmod x3_2 2) != 1) = false := bne_eq_false_iff_eq.mpr c6
                  clear c6
                  have H' := Aside0.mk H
                  clear H
                  go_wp2
                  go_roundg k2
                  case measure => have := HK1.out; have := HK2.out; omega
                  case rel => exact ⟨(Go.bits .xor .u32 ((Int.tdiv x3_2 2) % 4294967296) 3988292384), (wrap64 (x5_2 + 1)), (by first | rfl | (simp; done) | (simp [*]; done)), (by first | rfl | (simp; done) | (simp [*]; done)), H', ⟨by have := HK1.out; have := HK2.out; omega⟩, by repeat (first | exact Drawn0.refl _ | apply Drawn0.step)⟩
                · rw [if_neg c6] at H
                  have c6b0 : ((Int.tmod x3_2 2) == 1) = false := beq_eq_false_iff_ne.mpr c6
                  have c6b1 : ((Int.tmod x3_2 2) != 1) = true := bne_iff_ne.mpr c6
                  have H' := Aside0.mk H
                  clear H
                  go_wp2
                  go_roundg k2
                  case measure => have := HK1.out; have := HK2.out; omega
                  case rel => exact ⟨((Int.tdiv x3_2 2) % 4294967296), (wrap64 (x5_2 + 1)), (by first | rfl | (simp; done) | (simp [*]; done)), (by first | rfl | (simp; done) | (simp [*]; done)), H', ⟨by have := HK1.out; have := HK2.out; omega⟩, by repeat (first | exact Drawn0.refl _ | apply Drawn0.step)⟩
              · rw [if_neg c5] at H
                have c5b0 : decide (x5_2 < 8) = false := decide_eq_false c5
                clear c5
                have H' := Aside0.mk H
                clear H
                go_wp2
                go_roundg k2
                case measure => have := HK1.out; have := HK2.out; omega
                case rel => exact ⟨(x3_2), (wrap64 (x4_1 + 1)), (by first | rfl | (simp; done) | (simp [*]; done)), (by first | rfl | (simp; done) | (simp [*]; done)), H', ⟨by have := HK1.out; have := HK2.out; omega⟩, by repeat (first | exact Drawn0.refl _ | apply Drawn0.step)⟩
        · rw [if_neg c3] at H
          exact absurd H (by simp)
      · rw [if_neg c2] at H
        have c2b0 : decide (x4_1 < (a0.size : Int)) = false := decide_eq_false c2
        clear c2
        obtain rfl := Option.some.inj H
        go_wp2
        go_ret
        exact ⟨by first | rfl | (simp; done) | (simp [*]; done), by repeat (first | exact Drawn0.refl _ | apply Drawn0.step)⟩
end Go.Proofs.YtbcijmpkmmcdeaaDoor.PAll
end
section
namespace Go.Proofs.YtbcijmpkmmcdeaaDoor.PAll
open Go.RowKit Go.Proofs.YtbcijmpkmmcdeaaDoorW.PrintWords Go.Proofs.YtbcijmpkmmcdeaaDoorW.PrintLast Go.Proofs.YtbcijmpkmmcdeaaDoorW.PrintMore
attribute [local go_sem] max2_int min2_int max_two min_two max_three min_three max_four min_four
set_option linter.unusedVariables false
set_option linter.unusedSimpArgs false
def paternosterref02_Seal.f (k : Nat) (a0 : ByteArray) : Option (ByteArray) := (paternosterref02_Of.f k a0).bind fun t228 => ((paternosterref01_Num.f k 4 (IntKind.u64.wrap (t228))).bind fun t229 => (if a0.size + t229.size ≤ 9223372036854775807 then (some (a0 ++ t229)) else (none)))
set_option maxHeartbeats 8000000 in
set_option maxRecDepth 100000 in
theorem paternosterref02_Seal.calls (k : Nat) (a0 : ByteArray) (r : ByteArray) (w : World) (h : paternosterref02_Seal.f k a0 = some r) :
    Calls Tryd.prog 55 #[.string a0] w fun e w' => e = .returned (.string r) ∧ Below w.heap.size w w' := by
  have HB := Aside0.mk (Below.refl w.heap.size w)
  have H : ((paternosterref02_Of.f k a0).bind fun t228 => ((paternosterref01_Num.f k 4 (IntKind.u64.wrap (t228))).bind fun t229 => (if a0.size + t229.size ≤ 9223372036854775807 then (some (a0 ++ t229)) else (none)))) = some r := h
  clear h
  replace H := Option.bind_eq_some_iff.mp H
  obtain ⟨t228, A20, H⟩ := H
  replace H : ((paternosterref01_Num.f k 4 (IntKind.u64.wrap (t228))).bind fun t229 => (if a0.size + t229.size ≤ 9223372036854775807 then (some (a0 ++ t229)) else (none))) = some r := H
  have A2 := Aside0.mk A20
  clear A20
  replace H := Option.bind_eq_some_iff.mp H
  obtain ⟨t229, A30, H⟩ := H
  replace H : (if a0.size + t229.size ≤ 9223372036854775807 then (some (a0 ++ t229)) else (none)) = some r := H
  have A3 := Aside0.mk A30
  clear A30
  by_cases c4 : a0.size + t229.size ≤ 9223372036854775807
  · rw [if_pos c4] at H
    have c4b0 := eq_true c4
    have c4b1 : decide (a0.size + t229.size ≤ 9223372036854775807) = true := decide_eq_true c4
    try have c4b2 : (9223372036854775807 < a0.size + t229.size) = False := eq_false (Nat.not_lt.2 c4)
    obtain rfl := Option.some.inj H
    go_enter Tryd.func55, Tryd.ntmps55
    go_wp2_with (first | ((with_reducible refine gate_callee (f := 71) rfl ?_); refine goesL_ (some 5) rfl rfl Tryd.func71 (by kernel_rfl) rfl #[.string a0] rfl (by (try simp only [List.map_toArray, List.map_cons, List.map_nil]); first | done | rfl | (simp only [List.length_drop, List.length_take]; rfl)) ?_; (with_reducible refine (paternosterref02_Of.calls k a0 t228 _ A2.out).mono ?_); rintro e w' ⟨rfl, ⟨nd, rfl⟩⟩; refine ⟨_, rfl, ?_⟩) | ((with_reducible refine gate_callee (f := 54) rfl ?_); refine goesL_ (some 7) rfl rfl Tryd.func54 (by kernel_rfl) rfl #[.int .i64 4, .int .u64 (IntKind.u64.wrap (t228))] rfl (by (try simp only [List.map_toArray, List.map_cons, List.map_nil]); first | done | rfl | (simp only [List.length_drop, List.length_take]; rfl)) ?_; (with_reducible refine (paternosterref01_Num.calls k 4 (IntKind.u64.wrap (t228)) t229 _ A3.out).mono ?_); rintro e w5 ⟨rfl, hb⟩; refine ⟨_, rfl, ?_⟩; have n0_ := Aside0.mk (below_step (by repeat (first | (with_reducible first | exact HB.out | apply below_alloc | apply pw_below_drewN | apply below_drew1) | exact HB.out)) hb); clear HB; have HB := n0_; clear n0_; (try clear hb); (try clear hb2); (try clear hk); (try clear hi)))
    go_ret
    exact ⟨by first | rfl | (simp [errW_none, errW_some] <;> rfl) | (simp [*, errW_none, errW_some] <;> rfl), by repeat (first | (with_reducible first | exact HB.out | apply below_alloc | apply pw_below_drewN | apply below_drew1) | exact HB.out)⟩
  · rw [if_neg c4] at H
    exact absurd H (by simp)
end Go.Proofs.YtbcijmpkmmcdeaaDoor.PAll
end
section
namespace Go.Proofs.YtbcijmpkmmcdeaaDoor.PAll
open Go.RowKit Go.Proofs.YtbcijmpkmmcdeaaDoorW.PrintWords Go.Proofs.YtbcijmpkmmcdeaaDoorW.PrintLast Go.Proofs.YtbcijmpkmmcdeaaDoorW.PrintMore
attribute [local go_sem] max2_int min2_int max_two min_two max_three min_three max_four min_four
set_option linter.unusedVariables false
set_option linter.unusedSimpArgs false
def paternosterref02_Open.f (k : Nat) (a0 : ByteArray) : Option (ByteArray × Bool) := if (a0.size : Int) < 4 then (some ((⟨#[]⟩ : ByteArray), false)) else (if 0 ≤ (wrap64 ((a0.size : Int) - 4)) then (if (wrap64 ((a0.size : Int) - 4)) ≤ (a0.size : Int) then ((paternosterref02_Seal.f k (a0.extract 0 ((wrap64 ((a0.size : Int) - 4)) : Int).toNat)).bind fun t230 => (if t230.toList = a0.toList then (some (a0.extract 0 ((wrap64 ((a0.size : Int) - 4)) : Int).toNat, true)) else (some ((⟨#[]⟩ : ByteArray), false)))) else (none)) else (none))
set_option maxHeartbeats 8000000 in
set_option maxRecDepth 100000 in
theorem paternosterref02_Open.calls (k : Nat) (a0 : ByteArray) (r1 : ByteArray) (r2 : Bool) (w : World) (h : paternosterref02_Open.f k a0 = some (r1, r2)) :
    Calls Tryd.prog 47 #[.string a0] w fun e w' => e = .returned (.tuple #[.string r1, .bool r2]) ∧ Below w.heap.size w w' := by
  have HB := Aside0.mk (Below.refl w.heap.size w)
  have H : (if (a0.size : Int) < 4 then (some ((⟨#[]⟩ : ByteArray), false)) else (if 0 ≤ (wrap64 ((a0.size : Int) - 4)) then (if (wrap64 ((a0.size : Int) - 4)) ≤ (a0.size : Int) then ((paternosterref02_Seal.f k (a0.extract 0 ((wrap64 ((a0.size : Int) - 4)) : Int).toNat)).bind fun t230 => (if t230.toList = a0.toList then (some (a0.extract 0 ((wrap64 ((a0.size : Int) - 4)) : Int).toNat, true)) else (some ((⟨#[]⟩ : ByteArray), false)))) else (none)) else (none))) = some (r1, r2) := h
  clear h
  by_cases c2 : (a0.size : Int) < 4
  · rw [if_pos c2] at H
    have c2b0 : decide ((a0.size : Int) < 4) = true := decide_eq_true c2
    have c2b1 : decide (a0.size < 4) = true := decide_eq_true (by omega)
    clear c2
    simp only [Option.some.injEq, Prod.mk.injEq] at H
    obtain ⟨rfl, rfl⟩ := H
    go_enter Tryd.func47, Tryd.ntmps47
    go_wp2
    go_ret2
    exact ⟨by first | rfl | (simp [errW_none, errW_some] <;> rfl) | (simp [*, errW_none, errW_some] <;> rfl), by repeat (first | (with_reducible first | exact HB.out | apply below_alloc | apply pw_below_drewN | apply below_drew1) | exact HB.out)⟩
  · rw [if_neg c2] at H
    have c2b0 : decide ((a0.size : Int) < 4) = false := decide_eq_false c2
    have c2b1 : decide (a0.size < 4) = false := decide_eq_false (by omega)
    clear c2
    obtain ⟨ji3, hji3⟩ : ∃ j_ : Int, (wrap64 ((a0.size : Int) - 4)) = j_ := ⟨_, rfl⟩
    replace H : (if 0 ≤ (ji3) then (if (ji3) ≤ (a0.size : Int) then ((paternosterref02_Seal.f k (a0.extract 0 ((ji3) : Int).toNat)).bind fun t230 => (if t230.toList = a0.toList then (some (a0.extract 0 ((ji3) : Int).toNat, true)) else (some ((⟨#[]⟩ : ByteArray), false)))) else (none)) else (none)) = some (r1, r2) := by first | (rw [hji3] at H; exact H) | (simp only [hji3] at H ⊢; exact H)
    have hji3w : (IntKind.i64.wrap ((a0.size : Int) - 4)) = ji3 := (i64_w _).trans hji3
    by_cases c4 : 0 ≤ (ji3)
    · rw [if_pos c4] at H
      have c4b0 := eq_true c4
      have c4b1 : decide (0 ≤ (ji3)) = true := decide_eq_true c4
      clear c4
      by_cases c5 : (ji3) ≤ (a0.size : Int)
      · rw [if_pos c5] at H
        have c5b0 := eq_true c5
        have c5b1 : decide ((ji3) ≤ (a0.size : Int)) = true := decide_eq_true c5
        clear c5
        replace H := Option.bind_eq_some_iff.mp H
        obtain ⟨t230, A60, H⟩ := H
        replace H : (if t230.toList = a0.toList then (some (a0.extract 0 ((ji3) : Int).toNat, true)) else (some ((⟨#[]⟩ : ByteArray), false))) = some (r1, r2) := H
        have A6 := Aside0.mk A60
        clear A60
        by_cases c7 : t230.toList = a0.toList
        · rw [if_pos c7] at H
          have c7b0 : (t230.toList == a0.toList) = true := beq_iff_eq.mpr c7
          have c7b1 : (t230.toList != a0.toList) = false := bne_eq_false_iff_eq.mpr c7
          clear c7
          have c8b0 := eq_true (of_decide_eq_true (by first | (with_reducible assumption) | assumption) : 0 ≤ (ji3))
          have c9b0 := eq_true (of_decide_eq_true (by first | (with_reducible assumption) | assumption) : (ji3) ≤ (a0.size : Int))
          simp only [Option.some.injEq, Prod.mk.injEq] at H
          obtain ⟨rfl, rfl⟩ := H
          go_enter Tryd.func47, Tryd.ntmps47
          go_wp2_with (first | (go_at_call 55; (with_reducible refine (paternosterref02_Seal.calls k (a0.extract 0 ((ji3) : Int).toNat) t230 _ A6.out).mono ?_); rintro e w10 ⟨rfl, hb⟩; have n0_ := Aside0.mk (below_step (by repeat (first | (with_reducible first | exact HB.out | apply below_alloc | apply pw_below_drewN | apply below_drew1) | exact HB.out)) hb); clear HB; have HB := n0_; clear n0_; (try clear hb); (try clear hb2); (try clear hk); (try clear hi)))
          go_ret2
          exact ⟨by first | rfl | (simp [errW_none, errW_some] <;> rfl) | (simp only [← hji3]; first | rfl | (simp [errW_none, errW_some] <;> rfl)) | (simp [*, errW_none, errW_some] <;> rfl), by repeat (first | (with_reducible first | exact HB.out | apply below_alloc | apply pw_below_drewN | apply below_drew1) | exact HB.out)⟩
        · rw [if_neg c7] at H
          have c7b0 : (t230.toList == a0.toList) = false := beq_eq_false_iff_ne.mpr c7
          have c7b1 : (t230.toList != a0.toList) = true := bne_iff_ne.mpr c7
          simp only [Option.some.injEq, Prod.mk.injEq] at H
          obtain ⟨rfl, rfl⟩ := H
          go_enter Tryd.func47, Tryd.ntmps47
          go_wp2_with (first | (go_at_call 55; (with_reducible refine (paternosterref02_Seal.calls k (a0.extract 0 ((ji3) : Int).toNat) t230 _ A6.out).mono ?_); rintro e w11 ⟨rfl, hb⟩; have n0_ := Aside0.mk (below_step (by repeat (first | (with_reducible first | exact HB.out | apply below_alloc | apply pw_below_drewN | apply below_drew1) | exact HB.out)) hb); clear HB; have HB := n0_; clear n0_; (try clear hb); (try clear hb2); (try clear hk); (try clear hi)))
          go_ret2
          exact ⟨by first | rfl | (simp [errW_none, errW_some] <;> rfl) | (simp only [← hji3]; first | rfl | (simp [errW_none, errW_some] <;> rfl)) | (simp [*, errW_none, errW_some] <;> rfl), by repeat (first | (with_reducible first | exact HB.out | apply below_alloc | apply pw_below_drewN | apply below_drew1) | exact HB.out)⟩
      · rw [if_neg c5] at H
        exact absurd H (by simp)
    · rw [if_neg c4] at H
      exact absurd H (by simp)
end Go.Proofs.YtbcijmpkmmcdeaaDoor.PAll
end
section
namespace Go.Proofs.YtbcijmpkmmcdeaaDoor.PAll
open Go.RowKit Go.Proofs.YtbcijmpkmmcdeaaDoorW.PrintWords Go.Proofs.YtbcijmpkmmcdeaaDoorW.PrintLast Go.Proofs.YtbcijmpkmmcdeaaDoorW.PrintMore
attribute [local go_sem] max2_int min2_int max_two min_two max_three min_three max_four min_four
set_option linter.unusedVariables false
set_option linter.unusedSimpArgs false
def paternosterref01_Part.l0 : Nat → ByteArray → List ByteArray → Option (List ByteArray × Int)
  | 0, _, _ => none
  | k + 1, x0, x4 => if x0.toList = ([] : List UInt8) then (some (x4, 0)) else (if (x0.size : Int) < 2 then (some (([] : List ByteArray), 10)) else (if 0 < (x0.size : Int) then (if 1 < (x0.size : Int) then (if (x0.size : Int) < (wrap64 ((wrap64 (2 + (wrap64 (bt x0 0)))) + (wrap64 (256 * (wrap64 (bt x0 1)))))) then (some (([] : List ByteArray), 10)) else (if 2 ≤ (wrap64 ((wrap64 (2 + (wrap64 (bt x0 0)))) + (wrap64 (256 * (wrap64 (bt x0 1)))))) then (if (wrap64 ((wrap64 (2 + (wrap64 (bt x0 0)))) + (wrap64 (256 * (wrap64 (bt x0 1)))))) ≤ (x0.size : Int) then (if x4.length < 8796093022208 then (if 0 ≤ (wrap64 ((wrap64 (2 + (wrap64 (bt x0 0)))) + (wrap64 (256 * (wrap64 (bt x0 1)))))) then (paternosterref01_Part.l0 k (x0.extract ((wrap64 ((wrap64 (2 + (wrap64 (bt x0 0)))) + (wrap64 (256 * (wrap64 (bt x0 1)))))) : Int).toNat x0.size) (x4 ++ [x0.extract 2 ((wrap64 ((wrap64 (2 + (wrap64 (bt x0 0)))) + (wrap64 (256 * (wrap64 (bt x0 1)))))) : Int).toNat])) else (none)) else (none)) else (none)) else (none))) else (none)) else (none)))
def paternosterref01_Part.f (k : Nat) (a0 : ByteArray) : Option (List ByteArray × Int) := paternosterref01_Part.l0 k a0 ([] : List ByteArray)
set_option maxHeartbeats 8000000 in
set_option maxRecDepth 100000 in
theorem paternosterref01_Part.calls (k : Nat) (a0 : ByteArray) (r1 : List ByteArray) (r2 : Int) (w : World) (h : paternosterref01_Part.f k a0 = some (r1, r2)) :
    Calls Tryd.prog 48 #[.string a0] w fun e w' => ∃ v0_ : Value, e = .returned (.tuple #[v0_, .int .i64 r2]) ∧ Kd.R Kd.string 9 w' w.heap.size (fun _ => True) v0_ r1 ∧ Below w.heap.size w w' := by
  have HB := Aside0.mk (Below.refl w.heap.size w)
  have H : (paternosterref01_Part.l0 k a0 ([] : List ByteArray)) = some (r1, r2) := h
  clear h
  have H' := Aside0.mk H
  clear H
  go_enter Tryd.func48, Tryd.ntmps48
  go_wp2
  repeat (go_quiet (fail); try go_wp2)
  go_loopg [0, 4] k (fun kq v0 v4 w' => ∃ (x0_1 : ByteArray) (x4_1 : List ByteArray), v0 = .string x0_1 ∧ Aside0 (paternosterref01_Part.l0 kq x0_1 x4_1 = some (r1, r2)) ∧ Aside0 (kq ≤ k) ∧ Aside0 (Kd.R Kd.string 9 w' w.heap.size (fun _ => True) v4 x4_1) ∧ Aside0 (Below w.heap.size w w'))
  case atStart => exact ⟨(a0), (([] : List ByteArray)), (by first | rfl | (simp; done) | (simp [*]; done)), H', ⟨Nat.le_refl _⟩, ⟨by first | exact Kd.R_nil _ _ _ _ _ | exact Kd.N_nil _ _ _ _ _ | exact Kd.V_nil _ _ _ _ _ | exact Kd.Q_nil _ _ _ _ _ | exact Kd.S_nil _ _ _ _ _⟩, ⟨by repeat (first | (with_reducible first | exact HB.out | apply below_alloc | apply pw_below_drewN | apply below_drew1) | exact HB.out)⟩⟩
  case round =>
    clear H'
    obtain ⟨x0_1, x4_1, rfl, HA, HK1, HO_4, HB⟩ := hrel
    cases gk with
    | zero => exact absurd HA.out (by simp [paternosterref01_Part.l0])
    | succ k1 =>
      have H := HA.out
      clear HA
      simp only [paternosterref01_Part.l0] at H
      by_cases c2 : x0_1.toList = ([] : List UInt8)
      · rw [if_pos c2] at H
        have c2b0 : (x0_1.toList == ([] : List UInt8)) = true := beq_iff_eq.mpr c2
        have c2b1 : (x0_1.toList != ([] : List UInt8)) = false := bne_eq_false_iff_eq.mpr c2
        clear c2
        simp only [Option.some.injEq, Prod.mk.injEq] at H
        obtain ⟨rfl, rfl⟩ := H
        go_wp2
        repeat (go_quiet (fail); try go_wp2)
        go_ret2
        exact ⟨_, by first | rfl | (simp [errW_none, errW_some] <;> rfl) | (simp [*, errW_none, errW_some] <;> rfl), by (with_reducible repeat (first | apply Kd.R_alloc | apply Kd.R_drewN | apply Kd.R_drew)); exact HO_4.out, by repeat (first | (with_reducible first | exact HB.out | apply below_alloc | apply pw_below_drewN | apply below_drew1) | exact HB.out)⟩
      · rw [if_neg c2] at H
        have c2b0 : (x0_1.toList == ([] : List UInt8)) = false := beq_eq_false_iff_ne.mpr c2
        have c2b1 : (x0_1.toList != ([] : List UInt8)) = true := bne_iff_ne.mpr c2
        by_cases c3 : (x0_1.size : Int) < 2
        · rw [if_pos c3] at H
          have c3b0 : decide ((x0_1.size : Int) < 2) = true := decide_eq_true c3
          have c3b1 : decide (x0_1.size < 2) = true := decide_eq_true (by omega)
          clear c3
          simp only [Option.some.injEq, Prod.mk.injEq] at H
          obtain ⟨rfl, rfl⟩ := H
          go_wp2
          repeat (go_quiet (fail); try go_wp2)
          go_ret2
          exact ⟨_, by first | rfl | (simp [errW_none, errW_some] <;> rfl) | (simp [*, errW_none, errW_some] <;> rfl), by first | exact Kd.R_nil _ _ _ _ _ | exact Kd.N_nil _ _ _ _ _ | exact Kd.V_nil _ _ _ _ _ | exact Kd.Q_nil _ _ _ _ _ | exact Kd.S_nil _ _ _ _ _, by repeat (first | (with_reducible first | exact HB.out | apply below_alloc | apply pw_below_drewN | apply below_drew1) | exact HB.out)⟩
        · rw [if_neg c3] at H
          have c3b0 : decide ((x0_1.size : Int) < 2) = false := decide_eq_false c3
          have c3b1 : decide (x0_1.size < 2) = false := decide_eq_false (by omega)
          clear c3
          by_cases c4 : 0 < (x0_1.size : Int)
          · rw [if_pos c4] at H
            have c4b0 : decide (0 < (x0_1.size : Int)) = true := decide_eq_true c4
            have c4b1 : decide (0 < x0_1.size) = true := decide_eq_true (by omega)
            clear c4
            by_cases c6 : 1 < (x0_1.size : Int)
            · rw [if_pos c6] at H
              have c6b0 : decide (1 < (x0_1.size : Int)) = true := decide_eq_true c6
              have c6b1 : decide (1 < x0_1.size) = true := decide_eq_true (by omega)
              clear c6
              by_cases c8 : (x0_1.size : Int) < (wrap64 ((wrap64 (2 + (wrap64 (bt x0_1 0)))) + (wrap64 (256 * (wrap64 (bt x0_1 1))))))
              · rw [if_pos c8] at H
                have c8b0 : decide ((x0_1.size : Int) < (wrap64 ((wrap64 (2 + (wrap64 (bt x0_1 0)))) + (wrap64 (256 * (wrap64 (bt x0_1 1))))))) = true := decide_eq_true c8
                clear c8
                simp only [Option.some.injEq, Prod.mk.injEq] at H
                obtain ⟨rfl, rfl⟩ := H
                have p5 : 0 ≤ (0 : Int) := (by omega)
                have q5 : 0 < x0_1.size := (by have : (0 : Int) < (x0_1.size : Int) := of_decide_eq_true (by first | (with_reducible assumption) | assumption); omega)
                have hx5 : ∀ h : 0 < x0_1.size, ((x0_1[0]'h).toNat : Int) = bt x0_1 0 := bt_at x0_1 0
                clear p5
                have qi5 : (0 < (x0_1.size : Int)) = True := eq_true (of_decide_eq_true (by first | (with_reducible assumption) | assumption))
                replace q5 := eq_true q5
                have p7 : 0 ≤ (1 : Int) := (by omega)
                have q7 : 1 < x0_1.size := (by have : (1 : Int) < (x0_1.size : Int) := of_decide_eq_true (by first | (with_reducible assumption) | assumption); omega)
                have hx7 : ∀ h : 1 < x0_1.size, ((x0_1[1]'h).toNat : Int) = bt x0_1 1 := bt_at x0_1 1
                clear p7
                have qi7 : (1 < (x0_1.size : Int)) = True := eq_true (of_decide_eq_true (by first | (with_reducible assumption) | assumption))
                replace q7 := eq_true q7
                go_wp2
                repeat (go_quiet (fail); try go_wp2)
                go_ret2
                exact ⟨_, by first | rfl | (simp [errW_none, errW_some] <;> rfl) | (simp [*, errW_none, errW_some] <;> rfl), by first | exact Kd.R_nil _ _ _ _ _ | exact Kd.N_nil _ _ _ _ _ | exact Kd.V_nil _ _ _ _ _ | exact Kd.Q_nil _ _ _ _ _ | exact Kd.S_nil _ _ _ _ _, by repeat (first | (with_reducible first | exact HB.out | apply below_alloc | apply pw_below_drewN | apply below_drew1) | exact HB.out)⟩
              · rw [if_neg c8] at H
                have c8b0 : decide ((x0_1.size : Int) < (wrap64 ((wrap64 (2 + (wrap64 (bt x0_1 0)))) + (wrap64 (256 * (wrap64 (bt x0_1 1))))))) = false := decide_eq_false c8
                clear c8
                by_cases c11 : 2 ≤ (wrap64 ((wrap64 (2 + (wrap64 (bt x0_1 0)))) + (wrap64 (256 * (wrap64 (bt x0_1 1))))))
                · rw [if_pos c11] at H
                  have c11b0 := eq_true c11
                  have c11b1 : decide (2 ≤ (wrap64 ((wrap64 (2 + (wrap64 (bt x0_1 0)))) + (wrap64 (256 * (wrap64 (bt x0_1 1))))))) = true := decide_eq_true c11
                  by_cases c12 : (wrap64 ((wrap64 (2 + (wrap64 (bt x0_1 0)))) + (wrap64 (256 * (wrap64 (bt x0_1 1)))))) ≤ (x0_1.size : Int)
                  · rw [if_pos c12] at H
                    have c12b0 := eq_true c12
                    have c12b1 : decide ((wrap64 ((wrap64 (2 + (wrap64 (bt x0_1 0)))) + (wrap64 (256 * (wrap64 (bt x0_1 1)))))) ≤ (x0_1.size : Int)) = true := decide_eq_true c12
                    by_cases c13 : x4_1.length < 8796093022208
                    · rw [if_pos c13] at H
                      have LMc13 := Aside0.mk c13
                      clear c13
                      obtain ⟨y231, hy231⟩ : ∃ y_ : List ByteArray, y_ = (x4_1 ++ [x0_1.extract 2 ((wrap64 ((wrap64 (2 + (wrap64 (bt x0_1 0)))) + (wrap64 (256 * (wrap64 (bt x0_1 1)))))) : Int).toNat]) := ⟨_, rfl⟩
                      replace H : (if 0 ≤ (wrap64 ((wrap64 (2 + (wrap64 (bt x0_1 0)))) + (wrap64 (256 * (wrap64 (bt x0_1 1)))))) then (paternosterref01_Part.l0 k1 (x0_1.extract ((wrap64 ((wrap64 (2 + (wrap64 (bt x0_1 0)))) + (wrap64 (256 * (wrap64 (bt x0_1 1)))))) : Int).toNat x0_1.size) y231) else (none)) = some (r1, r2) := by first | (rw [hy231]; with_reducible exact H) | (have H2_ := (Option.bind_some _ _).symm.trans H; rw [hy231]; with_reducible exact H2_) | (have H2_ := (Option.bind_some _ _).symm.trans H; with_reducible exact H2_) | with_reducible exact H | (rw [hy231]; exact H) | exact H
                      have Ny231 := Aside0.mk hy231
                      clear hy231
                      obtain ⟨ji14, hji14⟩ : ∃ j_ : Int, (wrap64 ((wrap64 (2 + (wrap64 (bt x0_1 0)))) + (wrap64 (256 * (wrap64 (bt x0_1 1)))))) = j_ := ⟨_, rfl⟩
                      replace H : (if 0 ≤ (ji14) then (paternosterref01_Part.l0 k1 (x0_1.extract ((ji14) : Int).toNat x0_1.size) y231) else (none)) = some (r1, r2) := by first | (rw [hji14] at H; exact H) | (simp only [hji14] at H ⊢; exact H)
                      (try rw [hji14] at c8b0)
                      (try rw [hji14] at c11b0)
                      (try rw [hji14] at c11b1)
                      (try rw [hji14] at c11)
                      (try rw [hji14] at c12b0)
                      (try rw [hji14] at c12b1)
                      (try rw [hji14] at c12)
                      (try rw [hji14] at Ny231)
                      have hji14w : (IntKind.i64.wrap ((wrap64 (2 + (wrap64 (bt x0_1 0)))) + (wrap64 (256 * (wrap64 (bt x0_1 1)))))) = ji14 := (i64_w _).trans hji14
                      by_cases c15 : 0 ≤ (ji14)
                      · rw [if_pos c15] at H
                        have c15b0 := eq_true c15
                        have c15b1 : decide (0 ≤ (ji14)) = true := decide_eq_true c15
                        clear c15
                        have c16b0 := eq_true (of_decide_eq_true (by first | (with_reducible assumption) | assumption) : (ji14) ≤ (x0_1.size : Int))
                        have H' := Aside0.mk H
                        clear H
                        have p5 : 0 ≤ (0 : Int) := (by omega)
                        have q5 : 0 < x0_1.size := (by have : (0 : Int) < (x0_1.size : Int) := of_decide_eq_true (by first | (with_reducible assumption) | assumption); omega)
                        have hx5 : ∀ h : 0 < x0_1.size, ((x0_1[0]'h).toNat : Int) = bt x0_1 0 := bt_at x0_1 0
                        clear p5
                        have qi5 : (0 < (x0_1.size : Int)) = True := eq_true (of_decide_eq_true (by first | (with_reducible assumption) | assumption))
                        replace q5 := eq_true q5
                        have p7 : 0 ≤ (1 : Int) := (by omega)
                        have q7 : 1 < x0_1.size := (by have : (1 : Int) < (x0_1.size : Int) := of_decide_eq_true (by first | (with_reducible assumption) | assumption); omega)
                        have hx7 : ∀ h : 1 < x0_1.size, ((x0_1[1]'h).toNat : Int) = bt x0_1 1 := bt_at x0_1 1
                        clear p7
                        have qi7 : (1 < (x0_1.size : Int)) = True := eq_true (of_decide_eq_true (by first | (with_reducible assumption) | assumption))
                        replace q7 := eq_true q7
                        have p9 : 0 ≤ (0 : Int) := (by omega)
                        have q9 : 0 < x0_1.size := (by have : (0 : Int) < (x0_1.size : Int) := of_decide_eq_true (by first | (with_reducible assumption) | assumption); omega)
                        have hx9 : ∀ h : 0 < x0_1.size, ((x0_1[0]'h).toNat : Int) = bt x0_1 0 := bt_at x0_1 0
                        clear p9
                        have qi9 : (0 < (x0_1.size : Int)) = True := eq_true (of_decide_eq_true (by first | (with_reducible assumption) | assumption))
                        replace q9 := eq_true q9
                        have p10 : 0 ≤ (1 : Int) := (by omega)
                        have q10 : 1 < x0_1.size := (by have : (1 : Int) < (x0_1.size : Int) := of_decide_eq_true (by first | (with_reducible assumption) | assumption); omega)
                        have hx10 : ∀ h : 1 < x0_1.size, ((x0_1[1]'h).toNat : Int) = bt x0_1 1 := bt_at x0_1 1
                        clear p10
                        have qi10 : (1 < (x0_1.size : Int)) = True := eq_true (of_decide_eq_true (by first | (with_reducible assumption) | assumption))
                        replace q10 := eq_true q10
                        go_wp2_with (first | ((with_reducible refine gate_builtin (b := .append) (xs := #[.tmp 34, .tmp 38]) rfl ?_); (try (refine gate_guard (by rfl) ?_; dsimp only)); at_builtin; refine Kd.R_append Kd.string (w0 := w) w.heap.size rfl (.tmp 34) (.tmp 38) 109 9 (.string ⟨#[]⟩) 16 rfl Tryd.underlying109 info9 rfl (by decide) (by omega) u4 x4_1 (x0_1.extract 2 ((ji14) : Int).toNat) [.string (x0_1.extract 2 ((ji14) : Int).toNat)] (fun _ => True) (fun _ => False) rfl rfl ?aP (fun _ hk => hk.elim) ?aF ?aO ?aB ?aS ?aL ?_; (case aP => exact rfl); (case aB => exact (by repeat (first | (with_reducible first | exact HB.out | apply below_alloc | apply pw_below_drewN | apply below_drew1) | exact HB.out))); (case aF => exact (fun _ _ => trivial)); (case aO => exact (by (with_reducible repeat (first | apply Kd.R_alloc | apply Kd.R_drewN | apply Kd.R_drew)); exact HO_4.out)); (case aS => exact (below_size (by repeat (first | (with_reducible first | exact HB.out | apply below_alloc | apply pw_below_drewN | apply below_drew1) | exact HB.out)))); (case aL => have := LMc13.out; omega); intro v232 w17 ho hb hg hat; rw [← Ny231.out] at ho; have n0_ := Aside0.mk (hb); have n1_ := Aside0.mk (ho); clear HB; clear HO_4; have HB := n0_; have HO233 := n1_; clear n0_ n1_; clear ho hb hg hat))
                        repeat (go_quiet (first | ((with_reducible refine gate_builtin (b := .append) (xs := #[.tmp 34, .tmp 38]) rfl ?_); (try (refine gate_guard (by rfl) ?_; dsimp only)); at_builtin; refine Kd.R_append Kd.string (w0 := w) w.heap.size rfl (.tmp 34) (.tmp 38) 109 9 (.string ⟨#[]⟩) 16 rfl Tryd.underlying109 info9 rfl (by decide) (by omega) u4 x4_1 (x0_1.extract 2 ((ji14) : Int).toNat) [.string (x0_1.extract 2 ((ji14) : Int).toNat)] (fun _ => True) (fun _ => False) rfl rfl ?aP (fun _ hk => hk.elim) ?aF ?aO ?aB ?aS ?aL ?_; (case aP => exact rfl); (case aB => exact (by repeat (first | (with_reducible first | exact HB.out | apply below_alloc | apply pw_below_drewN | apply below_drew1) | exact HB.out))); (case aF => exact (fun _ _ => trivial)); (case aO => exact (by (with_reducible repeat (first | apply Kd.R_alloc | apply Kd.R_drewN | apply Kd.R_drew)); exact HO_4.out)); (case aS => exact (below_size (by repeat (first | (with_reducible first | exact HB.out | apply below_alloc | apply pw_below_drewN | apply below_drew1) | exact HB.out)))); (case aL => have := LMc13.out; omega); intro v232 w17 ho hb hg hat; rw [← Ny231.out] at ho; have n0_ := Aside0.mk (hb); have n1_ := Aside0.mk (ho); clear HB; clear HO_4; have HB := n0_; have HO233 := n1_; clear n0_ n1_; clear ho hb hg hat)); try go_wp2_with (first | ((with_reducible refine gate_builtin (b := .append) (xs := #[.tmp 34, .tmp 38]) rfl ?_); (try (refine gate_guard (by rfl) ?_; dsimp only)); at_builtin; refine Kd.R_append Kd.string (w0 := w) w.heap.size rfl (.tmp 34) (.tmp 38) 109 9 (.string ⟨#[]⟩) 16 rfl Tryd.underlying109 info9 rfl (by decide) (by omega) u4 x4_1 (x0_1.extract 2 ((ji14) : Int).toNat) [.string (x0_1.extract 2 ((ji14) : Int).toNat)] (fun _ => True) (fun _ => False) rfl rfl ?aP (fun _ hk => hk.elim) ?aF ?aO ?aB ?aS ?aL ?_; (case aP => exact rfl); (case aB => exact (by repeat (first | (with_reducible first | exact HB.out | apply below_alloc | apply pw_below_drewN | apply below_drew1) | exact HB.out))); (case aF => exact (fun _ _ => trivial)); (case aO => exact (by (with_reducible repeat (first | apply Kd.R_alloc | apply Kd.R_drewN | apply Kd.R_drew)); exact HO_4.out)); (case aS => exact (below_size (by repeat (first | (with_reducible first | exact HB.out | apply below_alloc | apply pw_below_drewN | apply below_drew1) | exact HB.out)))); (case aL => have := LMc13.out; omega); intro v232 w17 ho hb hg hat; rw [← Ny231.out] at ho; have n0_ := Aside0.mk (hb); have n1_ := Aside0.mk (ho); clear HB; clear HO_4; have HB := n0_; have HO233 := n1_; clear n0_ n1_; clear ho hb hg hat)))
                        go_roundg k1
                        case measure => have := HK1.out; omega
                        case rel => exact ⟨(x0_1.extract ((ji14) : Int).toNat x0_1.size), (y231), (by first | rfl | (simp; done) | (simp only [← hji14] <;> (first | rfl | simp)) | (simp [*]; done)), H', ⟨by have := HK1.out; omega⟩, ⟨by (with_reducible repeat (first | apply Kd.R_alloc | apply Kd.R_drewN | apply Kd.R_drew)); exact HO233.out⟩, ⟨by repeat (first | (with_reducible first | exact HB.out | apply below_alloc | apply pw_below_drewN | apply below_drew1) | exact HB.out)⟩⟩
                      · rw [if_neg c15] at H
                        exact absurd H (by simp)
                    · rw [if_neg c13] at H
                      exact absurd H (by simp)
                  · rw [if_neg c12] at H
                    exact absurd H (by simp)
                · rw [if_neg c11] at H
                  exact absurd H (by simp)
            · rw [if_neg c6] at H
              exact absurd H (by simp)
          · rw [if_neg c4] at H
            exact absurd H (by simp)
end Go.Proofs.YtbcijmpkmmcdeaaDoor.PAll
end
section
namespace Go.Proofs.YtbcijmpkmmcdeaaDoor.PAll
open Go.RowKit Go.Proofs.YtbcijmpkmmcdeaaDoorW.PrintWords Go.Proofs.YtbcijmpkmmcdeaaDoorW.PrintLast Go.Proofs.YtbcijmpkmmcdeaaDoorW.PrintMore
attribute [local go_sem] max2_int min2_int max_two min_two max_three min_three max_four min_four
set_option linter.unusedVariables false
set_option linter.unusedSimpArgs false
mutual
def paternosterref01_Get.j0 : Nat → Int → ByteArray → Bool → Option (List Int × Int)
  | 0, _, _, _ => none
  | k + 1, x0, x1, x14 => if x14 = true then (some (([] : List Int), 1)) else (if x0 = 0 then (none) else (if ((x1.size : Int) % x0) > 0 then (some (([] : List Int), 10)) else (paternosterref01_Get.l0 k x0 x1 ([] : List Int))))
def paternosterref01_Get.l0 : Nat → Int → ByteArray → List Int → Option (List Int × Int)
  | 0, _, _, _ => none
  | k + 1, x0, x1, x6 => if x1.toList = ([] : List UInt8) then (some (x6, 0)) else (paternosterref01_Get.l1 k x0 x1 x6 0 (wrap64 (x0 - 1)))
def paternosterref01_Get.l1 : Nat → Int → ByteArray → List Int → Int → Int → Option (List Int × Int)
  | 0, _, _, _, _, _ => none
  | k + 1, x0, x1, x6, x7, x8 => if x8 ≥ 0 then (if 0 ≤ x8 then (if x8 < (x1.size : Int) then (paternosterref01_Get.l1 k x0 x1 x6 (IntKind.u64.wrap ((IntKind.u64.wrap (256 * x7)) + (IntKind.u64.wrap (bt x1 x8)))) (wrap64 (x8 - 1))) else (none)) else (none)) else (if x6.length < 17592186044416 then (if 0 ≤ x0 then (if x0 ≤ (x1.size : Int) then (paternosterref01_Get.l0 k x0 (x1.extract (x0 : Int).toNat x1.size) (x6 ++ [x7])) else (none)) else (none)) else (none))
end
def paternosterref01_Get.f (k : Nat) (a0 : Int) (a1 : ByteArray) : Option (List Int × Int) := if a0 < 1 then (paternosterref01_Get.j0 k a0 a1 true) else (paternosterref01_Get.j0 k a0 a1 (decide (a0 > 8)))
set_option maxHeartbeats 8000000 in
set_option maxRecDepth 100000 in
theorem paternosterref01_Get.calls (k : Nat) (a0 : Int) (a1 : ByteArray) (r1 : List Int) (r2 : Int) (w : World) (h : paternosterref01_Get.f k a0 a1 = some (r1, r2)) :
    Calls Tryd.prog 68 #[.int .i64 a0, .string a1] w fun e w' => ∃ v0_ : Value, e = .returned (.tuple #[v0_, .int .i64 r2]) ∧ Kd.R (Kd.int .u64) 53 w' w.heap.size (fun _ => True) v0_ r1 ∧ Below w.heap.size w w' := by
  have HB := Aside0.mk (Below.refl w.heap.size w)
  have H : (if a0 < 1 then (paternosterref01_Get.j0 k a0 a1 true) else (paternosterref01_Get.j0 k a0 a1 (decide (a0 > 8)))) = some (r1, r2) := h
  clear h
  have HC3 := Aside0.mk H
  clear H
  go_enter Tryd.func68, Tryd.ntmps68
  go_upto_region 1 with (fail)
  go_cut [14] (fun v14 wc => ∃ (kq : Nat) (x14_2 : Bool), v14 = .bool x14_2 ∧ Aside0 (paternosterref01_Get.j0 kq a0 a1 x14_2 = some (r1, r2)) ∧ Aside0 (kq ≤ k) ∧ Aside0 (Below w.heap.size w wc))
  case first =>
    have H := HC3.out
    clear HC3
    by_cases c4 : a0 < 1
    · rw [if_pos c4] at H
      have c4b0 : decide (a0 < 1) = true := decide_eq_true c4
      clear c4
      (first | rw [c4b0] | (simp only [i64_w, i32_w]; rw [c4b0]) | skip)
      have H' := Aside0.mk H
      clear H
      go_wp2
      go_meet
      case rel => exact ⟨_, (true), (by first | rfl | (simp; done) | (simp [*]; done)), H', ⟨by first | omega | exact Nat.le_refl _⟩, ⟨by repeat (first | (with_reducible first | exact HB.out | apply below_alloc | apply pw_below_drewN | apply below_drew1) | exact HB.out)⟩⟩
    · rw [if_neg c4] at H
      have c4b0 : decide (a0 < 1) = false := decide_eq_false c4
      clear c4
      (first | rw [c4b0] | (simp only [i64_w, i32_w]; rw [c4b0]) | skip)
      have H' := Aside0.mk H
      clear H
      go_wp2
      go_meet
      case rel => exact ⟨_, (decide (a0 > 8)), (by first | rfl | (simp; done) | (simp [*]; done)), H', ⟨by first | omega | exact Nat.le_refl _⟩, ⟨by repeat (first | (with_reducible first | exact HB.out | apply below_alloc | apply pw_below_drewN | apply below_drew1) | exact HB.out)⟩⟩
  case rest =>
    clear HC3
    try clear p2
    try clear c4
    try clear c4b0
    obtain ⟨kq, x14_2, rfl, HA, HJ2, HB⟩ := hcut
    cases kq with
    | zero => exact absurd HA.out (by simp [paternosterref01_Get.j0])
    | succ kj2 =>
      have H := HA.out
      clear HA
      simp only [paternosterref01_Get.j0] at H
      by_cases c5 : x14_2 = true
      · subst c5
        have H1 : (some (([] : List Int), 1)) = some (r1, r2) := by rw [if_pos rfl] at H; exact H
        clear H
        have H := H1
        clear H1
        simp only [Option.some.injEq, Prod.mk.injEq] at H
        obtain ⟨rfl, rfl⟩ := H
        go_wp2
        go_ret2
        exact ⟨_, by first | rfl | (simp [errW_none, errW_some] <;> rfl) | (simp [*, errW_none, errW_some] <;> rfl), by first | exact Kd.R_nil _ _ _ _ _ | exact Kd.N_nil _ _ _ _ _ | exact Kd.V_nil _ _ _ _ _ | exact Kd.Q_nil _ _ _ _ _ | exact Kd.S_nil _ _ _ _ _, by repeat (first | (with_reducible first | exact HB.out | apply below_alloc | apply pw_below_drewN | apply below_drew1) | exact HB.out)⟩
      · replace c5 := Bool.eq_false_iff.mpr c5
        subst c5
        have H1 : (if a0 = 0 then (none) else (if ((a1.size : Int) % a0) > 0 then (some (([] : List Int), 10)) else (paternosterref01_Get.l0 kj2 a0 a1 ([] : List Int)))) = some (r1, r2) := by rw [if_neg (show ¬ (false = true) by decide)] at H; exact H
        clear H
        have H := H1
        clear H1
        by_cases c6 : a0 = 0
        · rw [if_pos c6] at H
          exact absurd H (by simp)
        · rw [if_neg c6] at H
          have c6b0 : (a0 == 0) = false := beq_eq_false_iff_ne.mpr c6
          have c6b1 : (a0 != 0) = true := bne_iff_ne.mpr c6
          by_cases c7 : ((a1.size : Int) % a0) > 0
          · rw [if_pos c7] at H
            have c7b0 : decide (0 < ((a1.size : Int) % a0)) = true := decide_eq_true c7
            clear c7
            simp only [Option.some.injEq, Prod.mk.injEq] at H
            obtain ⟨rfl, rfl⟩ := H
            go_wp2
            go_ret2
            exact ⟨_, by first | rfl | (simp [errW_none, errW_some] <;> rfl) | (simp [*, errW_none, errW_some] <;> rfl), by first | exact Kd.R_nil _ _ _ _ _ | exact Kd.N_nil _ _ _ _ _ | exact Kd.V_nil _ _ _ _ _ | exact Kd.Q_nil _ _ _ _ _ | exact Kd.S_nil _ _ _ _ _, by repeat (first | (with_reducible first | exact HB.out | apply below_alloc | apply pw_below_drewN | apply below_drew1) | exact HB.out)⟩
          · rw [if_neg c7] at H
            have c7b0 : decide (0 < ((a1.size : Int) % a0)) = false := decide_eq_false c7
            clear c7
            have H' := Aside0.mk H
            clear H
            go_wp2
            go_loopg [1, 6] kj2 (fun kq v1 v6 w' => ∃ (x1_2 : ByteArray) (x6_2 : List Int), v1 = .string x1_2 ∧ Aside0 (paternosterref01_Get.l0 kq a0 x1_2 x6_2 = some (r1, r2)) ∧ Aside0 (kq ≤ kj2) ∧ Aside0 (Kd.R (Kd.int .u64) 53 w' w.heap.size (fun _ => True) v6 x6_2) ∧ Aside0 (Below w.heap.size w w'))
            case atStart => exact ⟨(a1), (([] : List Int)), (by first | rfl | (simp; done) | (simp [*]; done)), H', ⟨Nat.le_refl _⟩, ⟨by first | exact Kd.R_nil _ _ _ _ _ | exact Kd.N_nil _ _ _ _ _ | exact Kd.V_nil _ _ _ _ _ | exact Kd.Q_nil _ _ _ _ _ | exact Kd.S_nil _ _ _ _ _⟩, ⟨by repeat (first | (with_reducible first | exact HB.out | apply below_alloc | apply pw_below_drewN | apply below_drew1) | exact HB.out)⟩⟩
            case round =>
              clear H'
              try clear p2
              try clear c4
              try clear c4b0
              try clear c5
              try clear c6
              try clear c6b0
              try clear c6b1
              try clear c7
              try clear c7b0
              try clear p2
              obtain ⟨x1_2, x6_2, rfl, HA, HK2, HO_6, HB⟩ := hrel
              cases gk with
              | zero => exact absurd HA.out (by simp [paternosterref01_Get.l0])
              | succ k2 =>
                have H := HA.out
                clear HA
                simp only [paternosterref01_Get.l0] at H
                by_cases c8 : x1_2.toList = ([] : List UInt8)
                · rw [if_pos c8] at H
                  have c8b0 : (x1_2.toList == ([] : List UInt8)) = true := beq_iff_eq.mpr c8
                  have c8b1 : (x1_2.toList != ([] : List UInt8)) = false := bne_eq_false_iff_eq.mpr c8
                  clear c8
                  simp only [Option.some.injEq, Prod.mk.injEq] at H
                  obtain ⟨rfl, rfl⟩ := H
                  go_wp2
                  go_ret2
                  exact ⟨_, by first | rfl | (simp [errW_none, errW_some] <;> rfl) | (simp [*, errW_none, errW_some] <;> rfl), by (with_reducible repeat (first | apply Kd.R_alloc | apply Kd.R_drewN | apply Kd.R_drew)); exact HO_6.out, by repeat (first | (with_reducible first | exact HB.out | apply below_alloc | apply pw_below_drewN | apply below_drew1) | exact HB.out)⟩
                · rw [if_neg c8] at H
                  have c8b0 : (x1_2.toList == ([] : List UInt8)) = false := beq_eq_false_iff_ne.mpr c8
                  have c8b1 : (x1_2.toList != ([] : List UInt8)) = true := bne_iff_ne.mpr c8
                  have H' := Aside0.mk H
                  clear H
                  go_wp2
                  go_loopg [7, 8] k2 (fun kq v7 v8 w' => ∃ (x7_3 : Int) (x8_3 : Int), v7 = .int .u64 x7_3 ∧ v8 = .int .i64 x8_3 ∧ Aside0 (paternosterref01_Get.l1 kq a0 x1_2 x6_2 x7_3 x8_3 = some (r1, r2)) ∧ Aside0 (kq ≤ k2) ∧ Aside0 (Kd.R (Kd.int .u64) 53 w' w.heap.size (fun _ => True) u6 x6_2) ∧ Aside0 (Below w.heap.size w w'))
                  case atStart => exact ⟨(0), (wrap64 (a0 - 1)), (by first | rfl | (simp; done) | (simp [*]; done)), (by first | rfl | (simp; done) | (simp [*]; done)), H', ⟨Nat.le_refl _⟩, ⟨by (with_reducible repeat (first | apply Kd.R_alloc | apply Kd.R_drewN | apply Kd.R_drew)); exact HO_6.out⟩, ⟨by repeat (first | (with_reducible first | exact HB.out | apply below_alloc | apply pw_below_drewN | apply below_drew1) | exact HB.out)⟩⟩
                  case round =>
                    clear H'
                    try clear p2
                    try clear c4
                    try clear c4b0
                    try clear c5
                    try clear c6
                    try clear c6b0
                    try clear c6b1
                    try clear p6
                    try clear c7
                    try clear c7b0
                    try clear c8
                    try clear c8b0
                    try clear c8b1
                    try clear p2
                    obtain ⟨x7_3, x8_3, rfl, rfl, HA, HK3, HO_6, HB⟩ := hrel
                    cases gk with
                    | zero => exact absurd HA.out (by simp [paternosterref01_Get.l1])
                    | succ k3 =>
                      have H := HA.out
                      clear HA
                      simp only [paternosterref01_Get.l1] at H
                      by_cases c9 : x8_3 ≥ 0
                      · rw [if_pos c9] at H
                        have c9b0 : decide (0 ≤ x8_3) = true := decide_eq_true c9
                        clear c9
                        by_cases c10 : 0 ≤ x8_3
                        · rw [if_pos c10] at H
                          have c10b0 : decide (0 ≤ x8_3) = true := decide_eq_true c10
                          clear c10
                          by_cases c11 : x8_3 < (x1_2.size : Int)
                          · rw [if_pos c11] at H
                            have c11b0 : decide (x8_3 < (x1_2.size : Int)) = true := decide_eq_true c11
                            clear c11
                            have H' := Aside0.mk H
                            clear H
                            have p12 : 0 ≤ (x8_3 : Int) := of_decide_eq_true (by first | (with_reducible assumption) | assumption)
                            have q12 : x8_3 < (x1_2.size : Int) := of_decide_eq_true (by first | (with_reducible assumption) | assumption)
                            have hx12 := bt_at x1_2 x8_3
                            replace p12 := eq_true p12
                            replace q12 := eq_true q12
                            go_wp2
                            go_roundg k3
                            case measure => have := HJ2.out; have := HK2.out; have := HK3.out; omega
                            case rel => exact ⟨(IntKind.u64.wrap ((IntKind.u64.wrap (256 * x7_3)) + (IntKind.u64.wrap (bt x1_2 x8_3)))), (wrap64 (x8_3 - 1)), (by first | rfl | (simp; done) | (simp [*]; done)), (by first | rfl | (simp; done) | (simp [*]; done)), H', ⟨by have := HJ2.out; have := HK2.out; have := HK3.out; omega⟩, ⟨by (with_reducible repeat (first | apply Kd.R_alloc | apply Kd.R_drewN | apply Kd.R_drew)); exact HO_6.out⟩, ⟨by repeat (first | (with_reducible first | exact HB.out | apply below_alloc | apply pw_below_drewN | apply below_drew1) | exact HB.out)⟩⟩
                          · rw [if_neg c11] at H
                            exact absurd H (by simp)
                        · rw [if_neg c10] at H
                          exact absurd H (by simp)
                      · rw [if_neg c9] at H
                        have c9b0 : decide (0 ≤ x8_3) = false := decide_eq_false c9
                        clear c9
                        by_cases c13 : x6_2.length < 17592186044416
                        · rw [if_pos c13] at H
                          have LMc13 := Aside0.mk c13
                          clear c13
                          obtain ⟨y234, hy234⟩ : ∃ y_ : List Int, y_ = (x6_2 ++ [x7_3]) := ⟨_, rfl⟩
                          replace H : (if 0 ≤ a0 then (if a0 ≤ (x1_2.size : Int) then (paternosterref01_Get.l0 k3 a0 (x1_2.extract (a0 : Int).toNat x1_2.size) y234) else (none)) else (none)) = some (r1, r2) := by first | (rw [hy234]; with_reducible exact H) | (have H2_ := (Option.bind_some _ _).symm.trans H; rw [hy234]; with_reducible exact H2_) | (have H2_ := (Option.bind_some _ _).symm.trans H; with_reducible exact H2_) | with_reducible exact H | (rw [hy234]; exact H) | exact H
                          have Ny234 := Aside0.mk hy234
                          clear hy234
                          by_cases c14 : 0 ≤ a0
                          · rw [if_pos c14] at H
                            have c14b0 := eq_true c14
                            have c14b1 : decide (0 ≤ a0) = true := decide_eq_true c14
                            clear c14
                            by_cases c15 : a0 ≤ (x1_2.size : Int)
                            · rw [if_pos c15] at H
                              have c15b0 := eq_true c15
                              have c15b1 : decide (a0 ≤ (x1_2.size : Int)) = true := decide_eq_true c15
                              clear c15
                              have H' := Aside0.mk H
                              clear H
                              go_wp2_with (first | ((with_reducible refine gate_builtin (b := .append) (xs := #[.tmp 35, .tmp 37]) rfl ?_); at_builtin; refine Kd.R_append (Kd.int .u64) (w0 := w) w.heap.size rfl (.tmp 35) (.tmp 37) 100 53 (.int .u64 0) 8 rfl Tryd.underlying100 info53 rfl (by decide) (by omega) u6 x6_2 x7_3 [.int .u64 x7_3] (fun _ => True) (fun _ => False) rfl rfl ?aP (fun _ hk => hk.elim) ?aF ?aO ?aB ?aS ?aL ?_; (case aP => exact rfl); (case aB => exact (by repeat (first | (with_reducible first | exact HB.out | apply below_alloc | apply pw_below_drewN | apply below_drew1) | exact HB.out))); (case aF => exact (fun _ _ => trivial)); (case aO => exact (by (with_reducible repeat (first | apply Kd.R_alloc | apply Kd.R_drewN | apply Kd.R_drew)); exact HO_6.out)); (case aS => exact (below_size (by repeat (first | (with_reducible first | exact HB.out | apply below_alloc | apply pw_below_drewN | apply below_drew1) | exact HB.out)))); (case aL => have := LMc13.out; omega); intro v235 w16 ho hb hg hat; rw [← Ny234.out] at ho; have n0_ := Aside0.mk (hb); have n1_ := Aside0.mk (ho); clear HB; clear HO_6; have HB := n0_; have HO236 := n1_; clear n0_ n1_; clear ho hb hg hat))
                              go_roundg k3
                              case measure => have := HJ2.out; have := HK2.out; have := HK3.out; omega
                              case rel => exact ⟨(x1_2.extract (a0 : Int).toNat x1_2.size), (y234), (by first | rfl | (simp; done) | (simp [*]; done)), H', ⟨by have := HJ2.out; have := HK2.out; have := HK3.out; omega⟩, ⟨by (with_reducible repeat (first | apply Kd.R_alloc | apply Kd.R_drewN | apply Kd.R_drew)); exact HO236.out⟩, ⟨by repeat (first | (with_reducible first | exact HB.out | apply below_alloc | apply pw_below_drewN | apply below_drew1) | exact HB.out)⟩⟩
                            · rw [if_neg c15] at H
                              exact absurd H (by simp)
                          · rw [if_neg c14] at H
                            exact absurd H (by simp)
                        · rw [if_neg c13] at H
                          exact absurd H (by simp)
end Go.Proofs.YtbcijmpkmmcdeaaDoor.PAll
end
section
namespace Go.Proofs.YtbcijmpkmmcdeaaDoor.PAll
open Go.RowKit Go.Proofs.YtbcijmpkmmcdeaaDoorW.PrintWords Go.Proofs.YtbcijmpkmmcdeaaDoorW.PrintLast Go.Proofs.YtbcijmpkmmcdeaaDoorW.PrintMore
attribute [local go_sem] max2_int min2_int max_two min_two max_three min_three max_four min_four
set_option linter.unusedVariables false
set_option linter.unusedSimpArgs false
def paternosterref01_Row.f (a0 : ByteArray) : Option (ByteArray) := if (a0.size : Int) > 65535 then (if 0 ≤ 65535 then (if 65535 ≤ (a0.size : Int) then ((some (([((a0.extract 0 65535).size : Int) % 256, (wrap64 (((a0.extract 0 65535).size : Int) / 256)) % 256] : List Int) : List Int)).bind fun y281 => (if (strOfNums y281).size + (a0.extract 0 65535).size ≤ 9223372036854775807 then (some ((strOfNums y281) ++ (a0.extract 0 65535))) else (none))) else (none)) else (none)) else ((some (([(a0.size : Int) % 256, (wrap64 ((a0.size : Int) / 256)) % 256] : List Int) : List Int)).bind fun y284 => (if (strOfNums y284).size + a0.size ≤ 9223372036854775807 then (some ((strOfNums y284) ++ a0)) else (none)))
set_option maxHeartbeats 8000000 in
set_option maxRecDepth 100000 in
theorem paternosterref01_Row.calls (a0 : ByteArray) (r : ByteArray) (w : World) (h : paternosterref01_Row.f a0 = some r) :
    Calls Tryd.prog 56 #[.string a0] w fun e w' => e = .returned (.string r) ∧ Below w.heap.size w w' := by
  have HB := Aside0.mk (Below.refl w.heap.size w)
  have H : (if (a0.size : Int) > 65535 then (if 0 ≤ 65535 then (if 65535 ≤ (a0.size : Int) then ((some (([((a0.extract 0 65535).size : Int) % 256, (wrap64 (((a0.extract 0 65535).size : Int) / 256)) % 256] : List Int) : List Int)).bind fun y281 => (if (strOfNums y281).size + (a0.extract 0 65535).size ≤ 9223372036854775807 then (some ((strOfNums y281) ++ (a0.extract 0 65535))) else (none))) else (none)) else (none)) else ((some (([(a0.size : Int) % 256, (wrap64 ((a0.size : Int) / 256)) % 256] : List Int) : List Int)).bind fun y284 => (if (strOfNums y284).size + a0.size ≤ 9223372036854775807 then (some ((strOfNums y284) ++ a0)) else (none)))) = some r := h
  clear h
  by_cases c2 : (a0.size : Int) > 65535
  · rw [if_pos c2] at H
    have c2b0 : decide (65535 < (a0.size : Int)) = true := decide_eq_true c2
    have c2b1 : decide (65535 < a0.size) = true := decide_eq_true (by omega)
    clear c2
    by_cases c3 : 0 ≤ 65535
    · rw [if_pos c3] at H
      have c3b0 := eq_true c3
      have c3b1 : decide (0 ≤ 65535) = true := decide_eq_true c3
      clear c3
      by_cases c4 : 65535 ≤ (a0.size : Int)
      · rw [if_pos c4] at H
        have c4b0 := eq_true c4
        have c4b1 : decide (65535 ≤ (a0.size : Int)) = true := decide_eq_true c4
        clear c4
        obtain ⟨y281, hy281⟩ : ∃ y_ : List Int, y_ = (([((a0.extract 0 65535).size : Int) % 256, (wrap64 (((a0.extract 0 65535).size : Int) / 256)) % 256] : List Int)) := ⟨_, rfl⟩
        replace H : (if (strOfNums y281).size + (a0.extract 0 65535).size ≤ 9223372036854775807 then (some ((strOfNums y281) ++ (a0.extract 0 65535))) else (none)) = some r := by first | (rw [hy281]; with_reducible exact H) | (have H2_ := (Option.bind_some _ _).symm.trans H; rw [hy281]; with_reducible exact H2_) | (have H2_ := (Option.bind_some _ _).symm.trans H; with_reducible exact H2_) | with_reducible exact H | (rw [hy281]; exact H) | exact H
        have Ny281 : Aside0 (y281 = ([((min 65535 a0.size : Nat) : Int) % 256, ((min 65535 a0.size : Nat) : Int) / 256] : List Int)) := ⟨hy281.trans (by have e_ : (a0.extract 0 65535).size = min 65535 a0.size := (by rw [ByteArray.size_extract]; omega); rw [e_, show wrap64 (((min 65535 a0.size : Nat) : Int) / 256) = ((min 65535 a0.size : Nat) : Int) / 256 from by (unfold wrap64; omega)]; congr 2; omega)⟩
        clear hy281
        by_cases c5 : (strOfNums y281).size + (a0.extract 0 65535).size ≤ 9223372036854775807
        · rw [if_pos c5] at H
          have c5b0 := eq_true c5
          have c5b1 : decide ((strOfNums y281).size + (a0.extract 0 65535).size ≤ 9223372036854775807) = true := decide_eq_true c5
          try have c5b2 : (9223372036854775807 < (strOfNums y281).size + (a0.extract 0 65535).size) = False := eq_false (Nat.not_lt.2 c5)
          obtain rfl := Option.some.inj H
          go_enter Tryd.func56, Tryd.ntmps56
          go_wp2_with (first | ((with_reducible refine gate_dst (N := 16) rfl ?_); refine Kd.R_lit (Kd.int .u8) _ 5 ?hg (N := 16) ?hd (xs := ([((min 65535 a0.size : Nat) : Int) % 256, ((min 65535 a0.size : Nat) : Int) / 256] : List Int)) (inner := [.int .u8 (((min 65535 a0.size : Nat) : Int) % 256), .int .u8 (((min 65535 a0.size : Nat) : Int) / 256)]) (ok := fun _ => True) (okp := fun _ => True) ?hr ?hp (fun _ hk => hk) trivial (Below.refl _ _) (Nat.le_refl _) (by simp) ?_; (case hd => rfl); (case hg => rfl); (case hr => first | (go_simp; done) | (go_simp; rfl)); (case hp => exact (Reps.one (show Kd.M (Kd.int .u8) _ _ _ (((min 65535 a0.size : Nat) : Int) % 256) [.int .u8 (((min 65535 a0.size : Nat) : Int) % 256)] from rfl) (Reps.one (show Kd.M (Kd.int .u8) _ _ _ (((min 65535 a0.size : Nat) : Int) / 256) [.int .u8 (((min 65535 a0.size : Nat) : Int) / 256)] from rfl) (Reps.none _ _)))); intro v282 w6 ho7 hb hg_ hnew_; clear hg_ hnew_; (first | rw [← Ny281.out] at ho7 | (simp only [Int.reduceToNat] at ho7; rw [← Ny281.out] at ho7)); have n0_ := Aside0.mk (Kd.R_lower ho7 (below_size (by repeat (first | (with_reducible first | exact HB.out | apply below_alloc | apply pw_below_drewN | apply below_drew1) | exact HB.out)))); have n1_ := Aside0.mk (below_step (by repeat (first | (with_reducible first | exact HB.out | apply below_alloc | apply pw_below_drewN | apply below_drew1) | exact HB.out)) hb); clear HB; have HO283 := n0_; have HB := n1_; clear n0_ n1_; clear hb ho7; have hcv8 := own_string (P := Tryd.prog) Tryd.underlying22 Tryd.underlying5 Tryd.underlying9 (Kd.own_of_R HO283.out)))
          go_ret
          exact ⟨by first | rfl | (simp [errW_none, errW_some] <;> rfl) | (simp [*, errW_none, errW_some] <;> rfl), by repeat (first | (with_reducible first | exact HB.out | apply below_alloc | apply pw_below_drewN | apply below_drew1) | exact HB.out)⟩
        · rw [if_neg c5] at H
          exact absurd H (by simp)
      · rw [if_neg c4] at H
        exact absurd H (by simp)
    · rw [if_neg c3] at H
      exact absurd H (by simp)
  · rw [if_neg c2] at H
    have c2b0 : decide (65535 < (a0.size : Int)) = false := decide_eq_false c2
    have c2b1 : decide (65535 < a0.size) = false := decide_eq_false (by omega)
    clear c2
    obtain ⟨y284, hy284⟩ : ∃ y_ : List Int, y_ = (([(a0.size : Int) % 256, (wrap64 ((a0.size : Int) / 256)) % 256] : List Int)) := ⟨_, rfl⟩
    replace H : (if (strOfNums y284).size + a0.size ≤ 9223372036854775807 then (some ((strOfNums y284) ++ a0)) else (none)) = some r := by first | (rw [hy284]; with_reducible exact H) | (have H2_ := (Option.bind_some _ _).symm.trans H; rw [hy284]; with_reducible exact H2_) | (have H2_ := (Option.bind_some _ _).symm.trans H; with_reducible exact H2_) | with_reducible exact H | (rw [hy284]; exact H) | exact H
    have Ny284 : Aside0 (y284 = ([(a0.size : Int) % 256, (a0.size : Int) / 256 % 256] : List Int)) := ⟨hy284.trans (by have e_ := of_decide_eq_false c2b0; rw [show wrap64 ((a0.size : Int) / 256) = (a0.size : Int) / 256 from by (unfold wrap64; omega)])⟩
    clear hy284
    by_cases c9 : (strOfNums y284).size + a0.size ≤ 9223372036854775807
    · rw [if_pos c9] at H
      have c9b0 := eq_true c9
      have c9b1 : decide ((strOfNums y284).size + a0.size ≤ 9223372036854775807) = true := decide_eq_true c9
      try have c9b2 : (9223372036854775807 < (strOfNums y284).size + a0.size) = False := eq_false (Nat.not_lt.2 c9)
      obtain rfl := Option.some.inj H
      go_enter Tryd.func56, Tryd.ntmps56
      go_wp2_with (first | ((with_reducible refine gate_dst (N := 16) rfl ?_); refine Kd.R_lit (Kd.int .u8) _ 5 ?hg (N := 16) ?hd (xs := ([(a0.size : Int) % 256, (a0.size : Int) / 256 % 256] : List Int)) (inner := [.int .u8 ((a0.size : Int) % 256), .int .u8 ((a0.size : Int) / 256 % 256)]) (ok := fun _ => True) (okp := fun _ => True) ?hr ?hp (fun _ hk => hk) trivial (Below.refl _ _) (Nat.le_refl _) (by simp) ?_; (case hd => rfl); (case hg => rfl); (case hr => first | (go_simp; done) | (go_simp; rfl)); (case hp => exact (Reps.one (show Kd.M (Kd.int .u8) _ _ _ ((a0.size : Int) % 256) [.int .u8 ((a0.size : Int) % 256)] from rfl) (Reps.one (show Kd.M (Kd.int .u8) _ _ _ ((a0.size : Int) / 256 % 256) [.int .u8 ((a0.size : Int) / 256 % 256)] from rfl) (Reps.none _ _)))); intro v285 w10 ho11 hb hg_ hnew_; clear hg_ hnew_; (first | rw [← Ny284.out] at ho11 | (simp only [Int.reduceToNat] at ho11; rw [← Ny284.out] at ho11)); have n0_ := Aside0.mk (Kd.R_lower ho11 (below_size (by repeat (first | (with_reducible first | exact HB.out | apply below_alloc | apply pw_below_drewN | apply below_drew1) | exact HB.out)))); have n1_ := Aside0.mk (below_step (by repeat (first | (with_reducible first | exact HB.out | apply below_alloc | apply pw_below_drewN | apply below_drew1) | exact HB.out)) hb); clear HB; have HO286 := n0_; have HB := n1_; clear n0_ n1_; clear hb ho11; have hcv12 := own_string (P := Tryd.prog) Tryd.underlying22 Tryd.underlying5 Tryd.underlying9 (Kd.own_of_R HO286.out)))
      go_ret
      exact ⟨by first | rfl | (simp [errW_none, errW_some] <;> rfl) | (simp [*, errW_none, errW_some] <;> rfl), by repeat (first | (with_reducible first | exact HB.out | apply below_alloc | apply pw_below_drewN | apply below_drew1) | exact HB.out)⟩
    · rw [if_neg c9] at H
      exact absurd H (by simp)
end Go.Proofs.YtbcijmpkmmcdeaaDoor.PAll
end
section
set_option linter.unusedVariables false
set_option linter.unusedSimpArgs false
namespace Go.Proofs.YtbcijmpkmmcdeaaDoor.Pure
open Go.RowKit Go.Proofs.YtbcijmpkmmcdeaaDoor.PAll Go.Proofs.YtbcijmpkmmcdeaaDoorW.PrintWords Go.Proofs.YtbcijmpkmmcdeaaDoorW.PrintLast Go.Proofs.YtbcijmpkmmcdeaaDoorW.PrintMore
theorem w64 (n : Int) (h : -9223372036854775808 ≤ n ∧ n ≤ 9223372036854775807) : wrap64 n = n := by unfold wrap64; omega
theorem wu64 (n : Int) (h : 0 ≤ n ∧ n < 18446744073709551616) : IntKind.u64.wrap n = n := by
  simp only [IntKind.wrap, IntKind.signed, IntKind.bits]; simp; omega
def dig (x : Int) (i : Nat) : Int := x / 2 ^ (8 * i) % 256
def le (n : Nat) (x : Int) : List Int := (List.range n).map (dig x)
def puts (n : Nat) (l : List Int) : List Int := l.flatMap (le n)
theorem le_length (n : Nat) (x : Int) : (le n x).length = n := by simp [le]
theorem puts_length (n : Nat) (l : List Int) : (puts n l).length = n * l.length := by
  induction l with
  | nil => simp [puts]
  | cons a r ih => simp only [puts, List.flatMap_cons, List.length_append, le_length, List.length_cons] at *; rw [ih, Nat.mul_add, Nat.mul_one, Nat.add_comm]
theorem dig_range (x : Int) (i : Nat) : 0 ≤ dig x i ∧ dig x i ≤ 255 := by unfold dig; omega
theorem puts_range (n : Nat) (l : List Int) : ∀ x ∈ puts n l, 0 ≤ x ∧ x ≤ 255 := by
  intro x hx
  simp only [puts, le, List.mem_flatMap, List.mem_map] at hx
  obtain ⟨a, _, i, _, rfl⟩ := hx
  exact dig_range a i
theorem puts_append (n : Nat) (a b : List Int) : puts n (a ++ b) = puts n a ++ puts n b := by simp [puts]
theorem puts_cons (n : Nat) (a : Int) (r : List Int) : puts n (a :: r) = le n a ++ puts n r := by simp [puts]
theorem may_true (n : Int) (h : 1 ≤ n ∧ n ≤ 8) : octet_may.f n = some true := by unfold octet_may.f; rw [if_pos (by omega), decide_eq_true (by omega)]
theorem put_l1 (n : Nat) (hn : n ≤ 8) (x : Int) (l : List Int) (j : Int) (r : List Int) (acc0 : List Int) (K : Nat) (hb : acc0.length + 8 ≤ 140737488355327)
    (hK : ∀ k, K ≤ k → octet_Put.l0 k n (acc0 ++ le n x) l (l.length : Int) (wrap64 (j + 1)) = some r) (d : Nat) : ∀ (k i : Nat), n - i = d → i ≤ n → d + K < k →
    octet_Put.l1 k n (acc0 ++ le i x) x l (l.length : Int) j n (i : Int) = some r := by
  induction d with
  | zero =>
    intro k i hd hi hk
    obtain ⟨k, rfl⟩ : ∃ m, k = m + 1 := ⟨k - 1, by omega⟩
    obtain rfl : i = n := by omega
    simp only [octet_Put.l1]
    rw [if_neg (by omega)]
    exact hK k (by omega)
  | succ d ih =>
    intro k i hd hi hk
    obtain ⟨k, rfl⟩ : ∃ m, k = m + 1 := ⟨k - 1, by omega⟩
    simp only [octet_Put.l1]
    have hs : shr .u64 x (wrap64 (8 * (i : Int))) % 256 = dig x i := by
      rw [w64 _ (by omega)]
      unfold shr dig
      rw [show min (8 * (i : Int)).toNat IntKind.u64.bits = 8 * i by simp [IntKind.bits]; omega]
    rw [if_pos (by omega), w64 (8 * (i : Int)) (by omega), if_pos (by omega), if_pos (by rw [List.length_append, le_length]; omega), ← w64 (8 * (i : Int)) (by omega), hs, w64 ((i : Int) + 1) (by omega)]
    have := ih k (i + 1) (by omega) (by omega) (by omega)
    rw [show le (i + 1) x = le i x ++ [dig x i] by simp [le, List.range_succ], ← List.append_assoc] at this
    exact_mod_cast this
theorem put_l0 (n : Nat) (hn : n ≤ 8) (l : List Int) (d : Nat) : ∀ (j : Nat) (acc : List Int), l.length - j = d → j ≤ l.length → acc.length + 8 * d + 8 ≤ 140737488355327 → l.length ≤ 140737488355327 →
    ∃ K, ∀ k, K ≤ k → octet_Put.l0 k n acc l (l.length : Int) j = some (acc ++ puts n (l.drop j)) := by
  induction d with
  | zero =>
    intro j acc hd hj hb _
    refine ⟨1, fun k hk => ?_⟩
    obtain ⟨k, rfl⟩ : ∃ m, k = m + 1 := ⟨k - 1, by omega⟩
    simp only [octet_Put.l0]
    rw [if_neg (by omega), List.drop_of_length_le (by omega)]
    simp [puts]
  | succ d ih =>
    intro j acc hd hj hb hl
    have hlt : j < l.length := by omega
    obtain ⟨K, hK⟩ := ih (j + 1) (acc ++ le n l[j]) (by omega) (by omega) (by rw [List.length_append, le_length]; omega) hl
    refine ⟨n + K + 2, fun k hk => ?_⟩
    obtain ⟨k, rfl⟩ : ∃ m, k = m + 1 := ⟨k - 1, by omega⟩
    simp only [octet_Put.l0]
    have hrd : rd l (j : Int) = l[j] := by unfold rd; rw [Int.toNat_natCast, List.getD_eq_getElem?_getD, List.getElem?_eq_getElem hlt, Option.getD_some]
    rw [if_pos (by omega), if_pos (by omega), if_pos (by omega), hrd]
    have h0 := put_l1 n hn l[j] l j (acc ++ puts n (l.drop j)) acc K (by omega) (fun k hk => by
      rw [w64 ((j : Int) + 1) (by omega)]
      have := hK k hk
      rw [List.append_assoc] at this
      rw [List.drop_eq_getElem_cons hlt, puts_cons]
      exact_mod_cast this) n k 0 (by omega) (by omega) (by omega)
    simpa [le] using h0
theorem put_ev (n : Nat) (h1 : 1 ≤ n) (h8 : n ≤ 8) (l : List Int) (hl : l.length ≤ 1099511627776) : ∃ K, ∀ k, K ≤ k → octet_Put.f k n l = some (puts n l) := by
  obtain ⟨K, hK⟩ := put_l0 n h8 l l.length 0 [] (by omega) (by omega) (by rw [List.length_nil]; omega) (by omega)
  refine ⟨K, fun k hk => ?_⟩
  unfold octet_Put.f
  rw [may_true n (by omega)]
  simpa using hK k hk
theorem emod_mul' (x a b : Int) (ha : 0 < a) (hb : 0 < b) : x % (a * b) = x % a + a * (x / a % b) := by
  have h1 : x = a * b * (x / a / b) + (x % a + a * (x / a % b)) := by
    have e1 := Int.mul_ediv_add_emod x a
    have e2 := Int.mul_ediv_add_emod (x / a) b
    rw [Int.mul_assoc]
    calc x = a * (x / a) + x % a := e1.symm
      _ = a * (b * (x / a / b) + x / a % b) + x % a := by rw [e2]
      _ = _ := by rw [Int.mul_add]; omega
  have h2 := Int.emod_nonneg x (Int.ne_of_gt ha)
  have h3 := Int.emod_lt_of_pos x ha
  have h4 := Int.emod_nonneg (x / a) (Int.ne_of_gt hb)
  have h5 := Int.emod_lt_of_pos (x / a) hb
  have h6 : a * (x / a % b) ≤ a * (b - 1) := Int.mul_le_mul_of_nonneg_left (by omega) (Int.le_of_lt ha)
  have h7 : 0 ≤ a * (x / a % b) := Int.mul_nonneg (Int.le_of_lt ha) h4
  rw [Int.mul_sub, Int.mul_one] at h6
  conv => lhs; rw [h1]
  rw [Int.mul_add_emod_self_left, Int.emod_eq_of_lt (by omega) (by omega)]
theorem leNum_le (x : Int) (h0 : 0 ≤ x) (n : Nat) : leNum (le n x) = x % 2 ^ (8 * n) := by
  induction n with
  | zero => simp [le, leNum]
  | succ n ih =>
    rw [show le (n + 1) x = le n x ++ [dig x n] by simp [le, List.range_succ], leNum_snoc, ih, le_length, pow_256]
    unfold dig
    have e : (2 : Int) ^ (8 * (n + 1)) = 2 ^ (8 * n) * 256 := by rw [Nat.mul_add, Int.pow_add]; rfl
    rw [e]
    have hp : (0 : Int) < 2 ^ (8 * n) := Int.pow_pos (by decide)
    rw [Int.mul_comm (x / 2 ^ (8 * n) % 256), emod_mul' x _ 256 hp (by decide)]
theorem gets_puts (n : Nat) (l : List Int) (h0 : ∀ x ∈ l, 0 ≤ x) : gets n l.length (puts n l) = l.map (fun x => x % 2 ^ (8 * n)) := by
  induction l with
  | nil => rfl
  | cons a r ih =>
    have ih := ih (fun x hx => h0 x (List.mem_cons_of_mem _ hx))
    unfold gets at *
    rw [List.length_cons, List.range_succ_eq_map, List.map_cons, List.map_map, puts_cons, List.map_cons, ← ih]
    congr 1
    · simp only [Nat.zero_mul, List.drop_zero]
      rw [List.take_left' (le_length n a), leNum_le a (h0 a (List.mem_cons_self ..))]
    · apply List.map_congr_left
      intro j _
      simp only [Function.comp, Nat.succ_mul]
      rw [Nat.add_comm, ← List.drop_drop, List.drop_left' (le_length n a)]
theorem str_app (a b : List Int) : strOfNums (a ++ b) = strOfNums a ++ strOfNums b := by
  apply ByteArray.ext
  simp [strOfNums]
theorem num_l0 (n : Nat) (hn : n ≤ 8) (x0 : Int) (hx : 0 ≤ x0 ∧ x0 < 18446744073709551616) (d : Nat) : ∀ (k i : Nat), n - i = d → i ≤ n → d < k →
    paternosterref01_Num.l0 k n (x0 / 2 ^ (8 * i)) (strOfNums (le i x0)) i = some (strOfNums (le n x0)) := by
  induction d with
  | zero =>
    intro k i hd hi hk
    obtain ⟨k, rfl⟩ : ∃ m, k = m + 1 := ⟨k - 1, by omega⟩
    obtain rfl : i = n := by omega
    simp only [paternosterref01_Num.l0]
    rw [if_neg (by omega)]
  | succ d ih =>
    intro k i hd hi hk
    obtain ⟨k, rfl⟩ : ∃ m, k = m + 1 := ⟨k - 1, by omega⟩
    simp only [paternosterref01_Num.l0]
    have hp : (0 : Int) < 2 ^ (8 * i) := Int.pow_pos (by decide)
    have hq0 : 0 ≤ x0 / 2 ^ (8 * i) := Int.ediv_nonneg hx.1 (Int.le_of_lt hp)
    have hq1 : x0 / 2 ^ (8 * i) ≤ x0 := Int.ediv_le_self _ hx.1
    have e1 : Int.tmod (x0 / 2 ^ (8 * i)) 256 % 256 = dig x0 i := by
      rw [Int.tmod_eq_emod_of_nonneg hq0]; unfold dig; omega
    have e2 : IntKind.u64.wrap (Int.tdiv (x0 / 2 ^ (8 * i)) 256) = x0 / 2 ^ (8 * (i + 1)) := by
      rw [Int.tdiv_eq_ediv_of_nonneg hq0, wu64 _ (by omega), Int.ediv_ediv, if_neg (fun h => absurd h.1 (Int.not_lt.2 (Int.le_of_lt hp))), Int.sub_zero, Nat.mul_add, Int.pow_add]; rfl
    rw [if_pos (by omega), if_pos (by omega)]
    simp only [Option.bind_some]
    rw [if_pos (by rw [strOfNums_size, strOfNums_size, le_length, List.length_singleton]; omega), e1, e2, ← str_app, show le i x0 ++ [dig x0 i] = le (i + 1) x0 by simp [le, List.range_succ], w64 ((i : Int) + 1) (by omega)]
    exact_mod_cast ih k (i + 1) (by omega) (by omega) (by omega)
theorem num_ev (n : Nat) (hn : n ≤ 8) (x0 : Int) (hx : 0 ≤ x0 ∧ x0 < 18446744073709551616) : ∀ k, 10 ≤ k → paternosterref01_Num.f k n x0 = some (strOfNums (le n x0)) := by
  intro k hk
  unfold paternosterref01_Num.f
  have := num_l0 n hn x0 hx n k 0 (by omega) (by omega) (by omega)
  rw [Nat.mul_zero, Int.pow_zero, Int.ediv_one] at this
  exact this
theorem bt_str (l : List Int) (hb : ∀ x ∈ l, 0 ≤ x ∧ x ≤ 255) (i : Nat) (hi : i < l.length) : bt (strOfNums l) (i : Int) = l[i] := by
  have h := hb l[i] (List.getElem_mem hi)
  unfold bt
  rw [dif_pos (by rw [Int.toNat_natCast, strOfNums_size]; exact hi)]
  have e : ((strOfNums l)[(i : Int).toNat]'(by rw [Int.toNat_natCast, strOfNums_size]; exact hi)) = UInt8.ofNat l[i].toNat := by
    show (l.map fun n => UInt8.ofNat n.toNat).toArray[(i : Int).toNat]'_ = _
    simp
  rw [e]
  simp
  omega
theorem str_drop (l : List Int) (n : Nat) (h : n ≤ l.length) : (strOfNums l).extract n (strOfNums l).size = strOfNums (l.drop n) := by
  apply ByteArray.ext
  apply Array.ext'
  rw [strOfNums_size]
  simp [strOfNums, List.take_of_length_le]
theorem rd_nat (l : List Int) (i : Nat) (hi : i < l.length) : rd l (i : Int) = l[i] := by
  unfold rd; rw [Int.toNat_natCast, List.getD_eq_getElem?_getD, List.getElem?_eq_getElem hi, Option.getD_some]
theorem ref_get_l1 (n : Nat) (h1 : 1 ≤ n) (h8 : n ≤ 8) (l acc : List Int) (hl : n ≤ l.length) (hb : ∀ x ∈ l, 0 ≤ x ∧ x ≤ 255) (hacc : acc.length < 1000000) (K : Nat) (r : List Int × Int)
    (hK : ∀ k, K ≤ k → paternosterref01_Get.l0 k n (strOfNums (l.drop n)) (acc ++ [leNum (l.take n)]) = some r) : ∀ (i : Nat) (k : Nat), i ≤ n → i + K < k →
    paternosterref01_Get.l1 k n (strOfNums l) acc (leNum ((l.take n).drop i)) (wrap64 ((i : Int) - 1)) = some r := by
  intro i
  induction i with
  | zero =>
    intro k hi hk
    obtain ⟨k, rfl⟩ : ∃ m, k = m + 1 := ⟨k - 1, by omega⟩
    simp only [paternosterref01_Get.l1]
    rw [w64 _ (by omega), if_neg (by omega), if_pos (by omega), if_pos (by omega), if_pos (by rw [strOfNums_size]; omega), Int.toNat_natCast, str_drop _ _ hl, List.drop_zero]
    exact hK k (by omega)
  | succ i ih =>
    intro k hi hk
    obtain ⟨k, rfl⟩ : ∃ m, k = m + 1 := ⟨k - 1, by omega⟩
    have hlt : i < l.length := by omega
    have hx := hb l[i] (List.getElem_mem hlt)
    have hcons : (l.take n).drop i = l[i] :: (l.take n).drop (i + 1) := by
      rw [List.drop_eq_getElem_cons (by rw [List.length_take]; omega), List.getElem_take]
    have hr : ∀ x ∈ (l.take n).drop (i + 1), 0 ≤ x ∧ x ≤ 255 := fun x hx => hb x (List.mem_of_mem_take (List.mem_of_mem_drop hx))
    have hlt2 := leNum_lt _ hr
    have hlen : ((l.take n).drop (i + 1)).length = n - (i + 1) := by rw [List.length_drop, List.length_take]; omega
    rw [hlen] at hlt2
    have hp : (256 : Int) ^ (n - (i + 1)) ≤ 256 ^ 7 := by
      rcases (show n - (i + 1) = 0 ∨ n - (i + 1) = 1 ∨ n - (i + 1) = 2 ∨ n - (i + 1) = 3 ∨ n - (i + 1) = 4 ∨ n - (i + 1) = 5 ∨ n - (i + 1) = 6 ∨ n - (i + 1) = 7 by omega) with h | h | h | h | h | h | h | h <;> rw [h] <;> decide
    have hp7 : (256 : Int) ^ 7 = 72057594037927936 := by decide
    simp only [paternosterref01_Get.l1]
    have e : ((i + 1 : Nat) : Int) - 1 = (i : Int) := by omega
    rw [e, w64 _ (by omega), if_pos (by omega), if_pos (by omega), if_pos (by rw [strOfNums_size]; omega), bt_str l hb i hlt]
    rw [wu64 (256 * _) (by omega), wu64 (l[i]) (by omega), wu64 _ (by omega)]
    have h2 := ih k (by omega) (by omega)
    rw [hcons] at h2
    have e2 : leNum (l[i] :: (l.take n).drop (i + 1)) = 256 * leNum ((l.take n).drop (i + 1)) + l[i] := by simp only [leNum]; omega
    rw [e2] at h2
    exact h2
theorem ref_get_l0 (n : Nat) (h1 : 1 ≤ n) (h8 : n ≤ 8) (m : Nat) : ∀ (l acc : List Int), l.length = m * n → (∀ x ∈ l, 0 ≤ x ∧ x ≤ 255) → acc.length + m < 1000000 →
    ∃ K, ∀ k, K ≤ k → paternosterref01_Get.l0 k n (strOfNums l) acc = some (acc ++ gets n m l, 0) := by
  induction m with
  | zero =>
    intro l acc hl hb _
    obtain rfl : l = [] := List.eq_nil_of_length_eq_zero (by omega)
    refine ⟨1, fun k hk => ?_⟩
    obtain ⟨k, rfl⟩ : ∃ m, k = m + 1 := ⟨k - 1, by omega⟩
    simp only [paternosterref01_Get.l0]
    rw [if_pos (by simp [strOfNums, Lib.toList_data])]
    simp [gets]
  | succ m ih =>
    intro l acc hl hb ha
    have hnl : n ≤ l.length := by rw [hl, Nat.add_mul, Nat.one_mul]; omega
    obtain ⟨K, hK⟩ := ih (l.drop n) (acc ++ [leNum (l.take n)]) (by rw [List.length_drop, hl, Nat.add_mul, Nat.one_mul]; omega) (fun x hx => hb x (List.mem_of_mem_drop hx)) (by simp; omega)
    refine ⟨n + K + 2, fun k hk => ?_⟩
    obtain ⟨k, rfl⟩ : ∃ m, k = m + 1 := ⟨k - 1, by omega⟩
    simp only [paternosterref01_Get.l0]
    have hne : (strOfNums l).toList ≠ [] := by
      intro h
      have h2 : (strOfNums l).toList.length = l.length := by rw [Lib.toList_data]; simp [strOfNums]
      rw [h] at h2
      simp only [List.length_nil] at h2
      omega
    rw [if_neg hne]
    have h0 := ref_get_l1 n h1 h8 l acc hnl hb (by omega) K _ hK n k (Nat.le_refl _) (by omega)
    rw [List.drop_of_length_le (by rw [List.length_take]; omega)] at h0
    have e : acc ++ gets n (m + 1) l = acc ++ [leNum (l.take n)] ++ gets n m (l.drop n) := by
      rw [List.append_assoc]
      congr 1
      unfold gets
      rw [List.range_succ_eq_map, List.map_cons, List.map_map, Nat.zero_mul, List.drop_zero]
      show _ = _ :: _
      congr 1
      apply List.map_congr_left
      intro j _
      simp only [Function.comp, List.drop_drop]
      congr 3
      rw [Nat.succ_mul, Nat.add_comm]
    rw [e]
    exact h0
theorem ref_get_ev (n : Nat) (h1 : 1 ≤ n) (h8 : n ≤ 8) (l : List Int) (hm : (l.length : Int) % n = 0) (hb : ∀ x ∈ l, 0 ≤ x ∧ x ≤ 255) (hl : l.length < 1000000) :
    ∃ K, ∀ k, K ≤ k → paternosterref01_Get.f k n (strOfNums l) = some (gets n (l.length / n) l, 0) := by
  have hd : l.length = l.length / n * n := by
    have h2 : l.length % n = 0 := by exact_mod_cast hm
    have := Nat.div_add_mod l.length n
    rw [h2, Nat.add_zero, Nat.mul_comm] at this
    exact this.symm
  have hq : l.length / n ≤ l.length := Nat.div_le_self _ _
  obtain ⟨K, hK⟩ := ref_get_l0 n h1 h8 (l.length / n) l [] hd hb (by rw [List.length_nil]; omega)
  refine ⟨K + 1, fun k hk => ?_⟩
  obtain ⟨k, rfl⟩ : ∃ m, k = m + 1 := ⟨k - 1, by omega⟩
  unfold paternosterref01_Get.f
  rw [if_neg (by omega), decide_eq_false (by omega)]
  simp only [paternosterref01_Get.j0]
  rw [if_neg (by decide), if_neg (by omega), strOfNums_size, if_neg (by omega), hK k (by omega), List.nil_append]
theorem le_two (x : Int) : le 2 x = [x % 256, x / 256 % 256] := by simp [le, dig, List.range_succ]
def rowB (r : List Int) : List Int := le 2 (r.length : Int) ++ r
def joinF (rows : List (List Int)) : List Int := rows.flatMap rowB
theorem joinF_nil : joinF [] = [] := rfl
theorem joinF_cons (r : List Int) (rs : List (List Int)) : joinF (r :: rs) = rowB r ++ joinF rs := by simp [joinF]
theorem rowB_length (r : List Int) : (rowB r).length = r.length + 2 := by simp [rowB, le_length]; omega
theorem rowB_range (r : List Int) (h : ∀ x ∈ r, 0 ≤ x ∧ x ≤ 255) : ∀ x ∈ rowB r, 0 ≤ x ∧ x ≤ 255 := by
  intro x hx
  simp only [rowB, List.mem_append] at hx
  rcases hx with hx | hx
  · simp only [le, List.mem_map] at hx
    obtain ⟨i, _, rfl⟩ := hx
    exact dig_range _ _
  · exact h x hx
theorem joinF_range (rows : List (List Int)) (h : ∀ r ∈ rows, ∀ x ∈ r, 0 ≤ x ∧ x ≤ 255) : ∀ x ∈ joinF rows, 0 ≤ x ∧ x ≤ 255 := by
  intro x hx
  simp only [joinF, List.mem_flatMap] at hx
  obtain ⟨r, hr, hx⟩ := hx
  exact rowB_range r (h r hr) x hx
theorem row_ev (r : List Int) (h : r.length ≤ 65535) : paternosterref01_Row.f (strOfNums r) = some (strOfNums (rowB r)) := by
  unfold paternosterref01_Row.f
  rw [strOfNums_size, if_neg (by omega)]
  simp only [Option.bind_some]
  rw [strOfNums_size, if_pos (by simp only [List.length_cons, List.length_nil]; omega), w64 _ (by omega), ← str_app, ← le_two]
  rfl
theorem rdL2_nat (l : List (List Int)) (i : Nat) (hi : i < l.length) : rd_L5 l (i : Int) = l[i] := by
  unfold rd_L5; rw [Int.toNat_natCast, List.getD_eq_getElem?_getD, List.getElem?_eq_getElem hi, Option.getD_some]
theorem join_l0 (rows : List (List Int)) (hr : ∀ r ∈ rows, r.length ≤ 65535) (hn : rows.length ≤ 1000000) (d : Nat) : ∀ (j : Nat) (acc : List Int), rows.length - j = d → j ≤ rows.length → acc.length + 65537 * d ≤ 100000000000 →
    ∃ K, ∀ k, K ≤ k → octet_Join.l0 k acc rows (rows.length : Int) j = some (acc ++ joinF (rows.drop j)) := by
  induction d with
  | zero =>
    intro j acc hd hj hb
    refine ⟨1, fun k hk => ?_⟩
    obtain ⟨k, rfl⟩ : ∃ m, k = m + 1 := ⟨k - 1, by omega⟩
    simp only [octet_Join.l0]
    rw [if_neg (by omega), List.drop_of_length_le (by omega), joinF_nil, List.append_nil]
  | succ d ih =>
    intro j acc hd hj hb
    have hlt : j < rows.length := by omega
    have hrl := hr rows[j] (List.getElem_mem hlt)
    obtain ⟨K, hK⟩ := ih (j + 1) (acc ++ rowB rows[j]) (by omega) (by omega) (by rw [List.length_append, rowB_length]; omega)
    obtain ⟨K2, hK2⟩ := put_ev 2 (by omega) (by omega) [((rows[j]).length : Int)] (by rw [List.length_singleton]; omega)
    refine ⟨K + K2 + 1, fun k hk => ?_⟩
    obtain ⟨k, rfl⟩ : ∃ m, k = m + 1 := ⟨k - 1, by omega⟩
    have hmn : mn ((rows[j]).length : Int) 65535 = ((rows[j]).length : Int) := by unfold mn; first | omega | (split <;> omega)
    have hput := hK2 k (by omega)
    have hp2 : puts 2 [((rows[j]).length : Int)] = le 2 ((rows[j]).length : Int) := by simp [puts]
    rw [hp2] at hput
    have hl2 : (le 2 ((rows[j]).length : Int)).length = 2 := le_length _ _
    simp only [octet_Join.l0]
    rw [if_pos (by omega), if_pos (by omega), if_pos (by omega), rdL2_nat rows j hlt, hmn, if_pos (by omega), if_pos (by omega), Int.toNat_natCast, List.take_length, wu64 _ (by omega)]
    have hput' : octet_Put.f k 2 [((rows[j]).length : Int)] = some (le 2 ((rows[j]).length : Int)) := hput
    rw [hput']
    simp only [Option.bind_some]
    rw [if_pos (by omega), if_pos (by rw [List.length_append]; omega), w64 _ (by omega)]
    have := hK k (by omega)
    rw [List.drop_eq_getElem_cons hlt, joinF_cons]
    simp only [rowB, List.append_assoc] at this ⊢
    exact_mod_cast this
theorem join_ev (rows : List (List Int)) (hr : ∀ r ∈ rows, r.length ≤ 65535) (hn : rows.length ≤ 1000000) : ∃ K, ∀ k, K ≤ k → octet_Join.f k rows = some (joinF rows) := by
  obtain ⟨K, hK⟩ := join_l0 rows hr hn rows.length 0 [] (by omega) (by omega) (by rw [List.length_nil]; omega)
  exact ⟨K, fun k hk => by unfold octet_Join.f; simpa using hK k hk⟩
theorem str_extract (l : List Int) (i j : Nat) (h : j ≤ l.length) : (strOfNums l).extract i j = strOfNums ((l.drop i).take (j - i)) := by
  apply ByteArray.ext
  apply Array.ext'
  simp [strOfNums, List.drop_take, List.map_take, List.map_drop]
theorem str_nil_iff (l : List Int) : (strOfNums l).toList = [] ↔ l = [] := by
  rw [Lib.toList_data]; simp [strOfNums]
def refRes (acc : List ByteArray) : Option (List (List Int)) → List ByteArray × Int
  | some rows => (acc ++ rows.map strOfNums, 0)
  | none => ([], 10)
theorem ref_part_l0 (fu : Nat) : ∀ (l : List Int) (acc : List ByteArray), l.length ≤ fu → (∀ x ∈ l, 0 ≤ x ∧ x ≤ 255) → l.length ≤ 1000000 → acc.length + l.length ≤ 1000000 →
    ∃ K, ∀ k, K ≤ k → paternosterref01_Part.l0 k (strOfNums l) acc = some (refRes acc (partsF fu l)) := by
  induction fu with
  | zero =>
    intro l acc hl hb hm ha
    obtain rfl : l = [] := List.eq_nil_of_length_eq_zero (by omega)
    refine ⟨1, fun k hk => ?_⟩
    obtain ⟨k, rfl⟩ : ∃ m, k = m + 1 := ⟨k - 1, by omega⟩
    simp only [paternosterref01_Part.l0]
    rw [if_pos ((str_nil_iff _).2 rfl)]
    simp [partsF, refRes]
  | succ fu ih =>
    intro l acc hl hb hm ha
    rcases l with _ | ⟨a, _ | ⟨b, r⟩⟩
    · refine ⟨1, fun k hk => ?_⟩
      obtain ⟨k, rfl⟩ : ∃ m, k = m + 1 := ⟨k - 1, by omega⟩
      simp only [paternosterref01_Part.l0]
      rw [if_pos ((str_nil_iff _).2 rfl)]
      simp [partsF, refRes]
    · refine ⟨1, fun k hk => ?_⟩
      obtain ⟨k, rfl⟩ : ∃ m, k = m + 1 := ⟨k - 1, by omega⟩
      simp only [paternosterref01_Part.l0]
      rw [if_neg (by rw [str_nil_iff]; simp), strOfNums_size, if_pos (by simp)]
      simp [partsF, refRes]
    · have h0 := hb a (by simp)
      have h1 := hb b (by simp)
      have hb0 : bt (strOfNums (a :: b :: r)) 0 = a := by have := bt_str (a :: b :: r) hb 0 (by simp); simpa using this
      have hb1 : bt (strOfNums (a :: b :: r)) 1 = b := by have := bt_str (a :: b :: r) hb 1 (by simp); simpa using this
      have hw : wrap64 (wrap64 (2 + wrap64 a) + wrap64 (256 * wrap64 b)) = 2 + (a + 256 * b) := by
        rw [w64 a (by omega), w64 b (by omega), w64 (2 + a) (by omega), w64 (256 * b) (by omega), w64 _ (by omega)]; omega
      have hlen : (a :: b :: r).length = r.length + 2 := rfl
      by_cases hfit : (a + 256 * b).toNat ≤ r.length
      · obtain ⟨K, hK⟩ := ih (r.drop (a + 256 * b).toNat) (acc ++ [strOfNums (r.take (a + 256 * b).toNat)]) (by rw [List.length_drop]; omega) (fun x hx => hb x (by simp [List.mem_of_mem_drop hx])) (by rw [List.length_drop]; omega) (by rw [List.length_drop, List.length_append, List.length_singleton]; omega)
        refine ⟨K + 1, fun k hk => ?_⟩
        obtain ⟨k, rfl⟩ : ∃ m, k = m + 1 := ⟨k - 1, by omega⟩
        simp only [paternosterref01_Part.l0]
        rw [if_neg (by rw [str_nil_iff]; simp), hb0, hb1, hw, strOfNums_size, hlen, if_neg (by omega), if_pos (by omega), if_pos (by omega), if_neg (by omega), if_pos (by omega), if_pos (by omega), if_pos (by omega), if_pos (by omega)]
        rw [str_extract _ _ _ (by rw [hlen]; omega), str_extract _ _ _ (by rw [hlen]; omega)]
        have e1 : (2 + (a + 256 * b)).toNat = (a + 256 * b).toNat + 2 := by omega
        rw [e1]
        have e2 : List.take (r.length + 2 - ((a + 256 * b).toNat + 2)) (List.drop ((a + 256 * b).toNat + 2) (a :: b :: r)) = r.drop (a + 256 * b).toNat := by
          rw [List.drop_succ_cons, List.drop_succ_cons, List.take_of_length_le (by rw [List.length_drop]; omega)]
        have e3 : List.take ((a + 256 * b).toNat + 2 - 2) (List.drop 2 (a :: b :: r)) = r.take (a + 256 * b).toNat := by simp
        rw [e2, e3, hK k (by omega)]
        simp only [partsF]
        rw [if_pos hfit]
        rcases partsF fu (r.drop (a + 256 * b).toNat) with _ | rows <;> simp [refRes]
      · refine ⟨1, fun k hk => ?_⟩
        obtain ⟨k, rfl⟩ : ∃ m, k = m + 1 := ⟨k - 1, by omega⟩
        simp only [paternosterref01_Part.l0]
        rw [if_neg (by rw [str_nil_iff]; simp), hb0, hb1, hw, strOfNums_size, hlen, if_neg (by omega), if_pos (by omega), if_pos (by omega), if_pos (by omega)]
        simp only [partsF]
        rw [if_neg hfit]
        rfl
theorem parts_join (rows : List (List Int)) (hr : ∀ r ∈ rows, r.length ≤ 65535) : ∀ fu, (joinF rows).length ≤ fu → partsF fu (joinF rows) = some rows := by
  induction rows with
  | nil => intro fu _; cases fu <;> rfl
  | cons r rs ih =>
    intro fu hfu
    have h1 := hr r (List.mem_cons_self ..)
    rw [joinF_cons, List.length_append, rowB_length] at hfu
    obtain ⟨fu, rfl⟩ : ∃ m, fu = m + 1 := ⟨fu - 1, by omega⟩
    rw [joinF_cons]
    have e : rowB r ++ joinF rs = ((r.length : Int) % 256) :: ((r.length : Int) / 256 % 256) :: (r ++ joinF rs) := by
      unfold rowB; rw [le_two]; rfl
    rw [e]
    simp only [partsF]
    have e2 : ((r.length : Int) % 256 + 256 * ((r.length : Int) / 256 % 256)).toNat = r.length := by omega
    rw [e2, if_pos (by rw [List.length_append]; omega), List.drop_left, List.take_left, ih (fun x hx => hr x (List.mem_cons_of_mem _ hx)) fu (by omega)]
    rfl
theorem part_ev (l : List Int) (hl : l.length ≤ 1000000) (hb : ∀ x ∈ l, 0 ≤ x ∧ x ≤ 255) : octet_Part.f l = some ((partsF l.length l).getD [], if (partsF l.length l).isSome then 0 else 10) := by
  unfold octet_Part.f; rw [if_pos ⟨by omega, hb⟩]
end Go.Proofs.YtbcijmpkmmcdeaaDoor.Pure
end
section
set_option linter.unusedVariables false
set_option linter.unusedSimpArgs false
namespace Go.Proofs.YtbcijmpkmmcdeaaDoor.Pure
open Go.RowKit Go.Proofs.YtbcijmpkmmcdeaaDoor.PAll Go.Proofs.YtbcijmpkmmcdeaaDoorW.PrintWords Go.Proofs.YtbcijmpkmmcdeaaDoorW.PrintLast Go.Proofs.YtbcijmpkmmcdeaaDoorW.PrintMore
abbrev B32 := BitVec 32
theorem xlc (a b c : B32) : a ^^^ (b ^^^ c) = b ^^^ (a ^^^ c) := by rw [← BitVec.xor_assoc, BitVec.xor_comm a b, BitVec.xor_assoc]
theorem shr_add (v : B32) (n m : Nat) : v >>> n >>> m = v >>> (n + m) := by
  apply BitVec.eq_of_toNat_eq
  simp only [BitVec.toNat_ushiftRight, Nat.shiftRight_add]
def bit1 (x : B32) : B32 := (x >>> 1) ^^^ (if x.getLsbD 0 then 0xEDB88320#32 else 0#32)
theorem bit1_xor (x y : B32) : bit1 (x ^^^ y) = bit1 x ^^^ bit1 y := by
  unfold bit1
  rw [BitVec.ushiftRight_xor_distrib, BitVec.getLsbD_xor]
  generalize x >>> 1 = a
  generalize y >>> 1 = b
  rcases x.getLsbD 0 <;> rcases y.getLsbD 0 <;> simp
  · rw [BitVec.xor_assoc]
  · rw [BitVec.xor_assoc, BitVec.xor_assoc, BitVec.xor_comm b]
  · rw [BitVec.xor_assoc, xlc _ b, BitVec.xor_self, BitVec.xor_zero]
def itb : Nat → B32 → B32
  | 0, x => x
  | n + 1, x => itb n (bit1 x)
theorem itb_add (m n : Nat) (x : B32) : itb n (itb m x) = itb (m + n) x := by
  induction m generalizing x with
  | zero => simp [itb]
  | succ m ih => rw [Nat.succ_add]; simp only [itb, ih]
theorem itb_succ (n : Nat) (x : B32) : itb (n + 1) x = bit1 (itb n x) := by
  have := itb_add n 1 x
  simp only [itb] at this
  exact this.symm
theorem bit1_low (x : B32) (h : x.getLsbD 0 = false) : bit1 x = x >>> 1 := by unfold bit1; rw [h]; simp
def one (b : Bool) : B32 := if b then 1#32 else 0#32
def Rb (x : B32) (l : List Bool) : B32 := l.foldl (fun x b => bit1 (x ^^^ one b)) x
theorem Rb_append (x : B32) (a b : List Bool) : Rb x (a ++ b) = Rb (Rb x a) b := by simp [Rb]
def bitsOf (n : Nat) (v : B32) : List Bool := (List.range n).map v.getLsbD
theorem Rb_bits (v x : B32) (n : Nat) : Rb x (bitsOf n v) = itb n (x ^^^ v) ^^^ (v >>> n) := by
  induction n with
  | zero => simp [bitsOf, Rb, itb, BitVec.xor_assoc]
  | succ n ih =>
    have e : bitsOf (n + 1) v = bitsOf n v ++ [v.getLsbD n] := by simp [bitsOf, List.range_succ]
    rw [e, Rb_append, ih, itb_succ]
    show bit1 (itb n (x ^^^ v) ^^^ v >>> n ^^^ one (v.getLsbD n)) = _
    rw [BitVec.xor_assoc, bit1_xor]
    congr 1
    have hl : (v >>> n ^^^ one (v.getLsbD n)).getLsbD 0 = false := by
      rw [BitVec.getLsbD_xor, BitVec.getLsbD_ushiftRight, Nat.add_zero]
      rcases v.getLsbD n <;> simp [one]
    rw [bit1_low _ hl, BitVec.ushiftRight_xor_distrib, shr_add]
    have hz : one (v.getLsbD n) >>> 1 = 0#32 := by rcases v.getLsbD n <;> decide
    rw [hz, BitVec.xor_zero]
def bv (x : Int) : B32 := BitVec.ofInt 32 x
theorem bits_bv (x y : Int) : Go.bits .xor .u32 x y = ((bv x ^^^ bv y).toNat : Int) := by
  have e : Go.bits .xor .u32 x y = IntKind.u32.wrap ((bv x ^^^ bv y).toNat : Int) := rfl
  rw [e, IntKind.wrap_u32]
  have := (bv x ^^^ bv y).isLt
  omega
theorem bv_nat (v : B32) : bv (v.toNat : Int) = v := by
  unfold bv; rw [BitVec.ofInt_natCast, BitVec.ofNat_toNat, BitVec.setWidth_eq]
theorem bv_mod (c : Int) : bv (c % 4294967296) = bv c := by
  apply BitVec.eq_of_toNat_eq
  unfold bv
  rw [BitVec.toNat_ofInt, BitVec.toNat_ofInt]
  congr 1
  exact Int.emod_emod_of_dvd _ (by decide)
theorem half_fin : ∀ i : Fin 16, halfL.getD i.val 0 = ((itb 4 (BitVec.ofNat 32 i.val)).toNat : Int) := by decide +kernel
theorem nib_bv (v : B32) : crcNib (v.toNat : Int) = ((itb 4 v).toNat : Int) := by
  have h15 : (v &&& 15#32).toNat = v.toNat % 16 := by rw [BitVec.toNat_and]; exact Nat.and_two_pow_sub_one_eq_mod v.toNat 4
  have hand : Go.bits .and .u32 (v.toNat : Int) 15 = ((v.toNat % 16 : Nat) : Int) := by
    have e : Go.bits .and .u32 (v.toNat : Int) 15 = IntKind.u32.wrap ((bv (v.toNat : Int) &&& 15#32).toNat : Int) := rfl
    rw [e, bv_nat, h15, IntKind.wrap_u32]; omega
  have hlt : v.toNat % 16 < 16 := Nat.mod_lt _ (by decide)
  unfold crcNib halfI
  rw [hand, Int.toNat_natCast, half_fin ⟨v.toNat % 16, hlt⟩, bits_bv, bv_nat]
  congr 2
  have hlo : BitVec.ofNat 32 (v.toNat % 16) = v &&& 15#32 := by
    apply BitVec.eq_of_toNat_eq; rw [h15, BitVec.toNat_ofNat, Nat.mod_eq_of_lt (by omega)]
  rw [hlo]
  have hdiv : bv ((v.toNat : Int) / 16) = v >>> 4 := by
    apply BitVec.eq_of_toNat_eq
    have e : ((v.toNat : Int) / 16) = ((v.toNat / 16 : Nat) : Int) := by omega
    rw [e]; unfold bv
    rw [BitVec.ofInt_natCast, BitVec.toNat_ofNat, BitVec.toNat_ushiftRight, Nat.shiftRight_eq_div_pow]
    have := v.isLt
    rw [Nat.mod_eq_of_lt (by omega)]
  rw [hdiv]
  have h0 := Rb_bits v 0#32 4
  have h1 := Rb_bits (v &&& 15#32) 0#32 4
  have hb : bitsOf 4 v = bitsOf 4 (v &&& 15#32) := by
    simp only [bitsOf]
    apply List.map_congr_left
    intro i hi
    simp only [List.mem_range] at hi
    rw [BitVec.getLsbD_and]
    rcases (show i = 0 ∨ i = 1 ∨ i = 2 ∨ i = 3 by omega) with rfl | rfl | rfl | rfl <;> simp
  have hz : (v &&& 15#32) >>> 4 = 0#32 := by
    apply BitVec.eq_of_toNat_eq
    rw [BitVec.toNat_ushiftRight, h15, Nat.shiftRight_eq_div_pow, BitVec.toNat_ofNat]
    omega
  rw [hz, BitVec.xor_zero] at h1
  rw [hb, h1, BitVec.zero_xor, BitVec.zero_xor] at h0
  rw [h0, BitVec.xor_comm, BitVec.xor_assoc, BitVec.xor_self, BitVec.xor_zero]
theorem byte_bv (v : B32) (c : Int) : crcByte (v.toNat : Int) c = ((itb 8 (v ^^^ bv c)).toNat : Int) := by
  unfold crcByte
  rw [bits_bv, bv_nat, bv_mod, nib_bv, nib_bv, itb_add]
def B (l : List Int) : List Bool := l.flatMap fun c => bitsOf 8 (bv c)
theorem B_append (a b : List Int) : B (a ++ b) = B a ++ B b := by simp [B]
theorem row_bv (l : List Int) (hb : ∀ x ∈ l, 0 ≤ x ∧ x ≤ 255) : ∀ v : B32, crcRow (v.toNat : Int) l = ((Rb v (B l)).toNat : Int) := by
  induction l with
  | nil => intro v; rfl
  | cons c l ih =>
    intro v
    have h := ih (fun x hx => hb x (List.mem_cons_of_mem _ hx)) (itb 8 (v ^^^ bv c))
    have hc := hb c (List.mem_cons_self ..)
    have hz : bv c >>> 8 = 0#32 := by
      obtain ⟨n, rfl⟩ := Int.eq_ofNat_of_zero_le hc.1
      apply BitVec.eq_of_toNat_eq
      unfold bv
      rw [BitVec.toNat_ushiftRight, BitVec.ofInt_natCast, BitVec.toNat_ofNat, Nat.shiftRight_eq_div_pow, BitVec.toNat_ofNat]
      rw [Nat.mod_eq_of_lt (by omega)]
      omega
    have e : B (c :: l) = bitsOf 8 (bv c) ++ B l := by simp [B]
    rw [e, Rb_append, Rb_bits, hz, BitVec.xor_zero, ← h]
    show crcRow (crcByte _ _) l = _
    rw [byte_bv]
theorem all_bv (rows : List (List Int)) (hb : ∀ r ∈ rows, ∀ x ∈ r, 0 ≤ x ∧ x ≤ 255) : ∀ v : B32, crcAll (v.toNat : Int) rows = ((Rb v (B rows.flatten)).toNat : Int) := by
  induction rows with
  | nil => intro v; rfl
  | cons r rows ih =>
    intro v
    have h := ih (fun x hx => hb x (List.mem_cons_of_mem _ hx)) (Rb v (B r))
    rw [List.flatten_cons, B_append, Rb_append, ← h]
    show crcAll (crcRow _ _) rows = _
    rw [row_bv r (hb r (List.mem_cons_self ..))]
def S (l : List Int) : B32 := 0xFFFFFFFF#32 ^^^ Rb 0xFFFFFFFF#32 (B l)
theorem of_ev (rows : List (List Int)) (hb : ∀ r ∈ rows, ∀ x ∈ r, 0 ≤ x ∧ x ≤ 255) (h1 : rows.length ≤ 1000000) (h2 : ∀ r ∈ rows, r.length ≤ 1000000) : crc_Of.f rows = some ((S rows.flatten).toNat : Int) := by
  unfold crc_Of.f
  rw [if_pos ⟨by omega, fun r hr => by have := h2 r hr; omega⟩]
  have h := all_bv rows hb 0xFFFFFFFF#32
  have e : ((0xFFFFFFFF#32 : B32).toNat : Int) = 4294967295 := by decide
  rw [e] at h
  rw [h, bits_bv, bv_nat]
  rfl
def sealed (l : List Int) : List Int := l ++ le 4 ((S l).toNat : Int)
theorem sealed_length (l : List Int) : (sealed l).length = l.length + 4 := by simp [sealed, le_length]
theorem sealed_range (l : List Int) (hb : ∀ x ∈ l, 0 ≤ x ∧ x ≤ 255) : ∀ x ∈ sealed l, 0 ≤ x ∧ x ≤ 255 := by
  intro x hx
  simp only [sealed, List.mem_append] at hx
  rcases hx with hx | hx
  · exact hb x hx
  · simp only [le, List.mem_map] at hx
    obtain ⟨i, _, rfl⟩ := hx
    exact dig_range _ _
theorem clone_ev (l : List Int) (h : l.length ≤ 1000000) : slices_Clone_byte_byte.f l = some l := by
  unfold slices_Clone_byte_byte.f
  simp only [Option.bind_some]
  rw [if_pos (by simp; omega), List.nil_append]
theorem seal_ev (l : List Int) (hb : ∀ x ∈ l, 0 ≤ x ∧ x ≤ 255) (hl : l.length ≤ 100000) : ∃ K, ∀ k, K ≤ k → crc_Seal.f k l = some (sealed l) := by
  have hlt := (S l).isLt
  obtain ⟨K, hK⟩ := put_ev 4 (by omega) (by omega) [((S l).toNat : Int)] (by simp)
  refine ⟨K, fun k hk => ?_⟩
  unfold crc_Seal.f
  rw [clone_ev l (by omega), of_ev [l] (by simpa using hb) (by simp) (by simp; omega)]
  simp only [Option.bind_some, List.flatten_cons, List.flatten_nil, List.append_nil]
  rw [wu64 _ (by omega)]
  have h := hK k hk
  have e : puts 4 [((S l).toNat : Int)] = le 4 ((S l).toNat : Int) := by simp [puts]
  rw [e] at h
  have h' : octet_Put.f k 4 [((S l).toNat : Int)] = some (le 4 ((S l).toNat : Int)) := h
  rw [h']
  simp only [Option.bind_some]
  rw [if_pos (by rw [le_length]; omega)]
  rfl
theorem eq_l0 (a b : List Int) (hab : a.length = b.length) (hl : a.length ≤ 1000000) (d : Nat) : ∀ (i k : Nat), a.length - i = d → i ≤ a.length → d < k →
    slices_Equal_byte_byte.l0 k a b (a.length : Int) (i : Int) = some (decide (a.drop i = b.drop i)) := by
  induction d with
  | zero =>
    intro i k hd hi hk
    obtain ⟨k, rfl⟩ : ∃ m, k = m + 1 := ⟨k - 1, by omega⟩
    simp only [slices_Equal_byte_byte.l0]
    rw [if_neg (by omega), List.drop_of_length_le (by omega), List.drop_of_length_le (by omega)]
    simp
  | succ d ih =>
    intro i k hd hi hk
    obtain ⟨k, rfl⟩ : ∃ m, k = m + 1 := ⟨k - 1, by omega⟩
    have h1 : i < a.length := by omega
    have h2 : i < b.length := by omega
    simp only [slices_Equal_byte_byte.l0]
    rw [if_pos (by omega), if_pos (by omega), if_pos (by omega), if_pos (by omega), rd_nat a i h1, rd_nat b i h2, List.drop_eq_getElem_cons h1, List.drop_eq_getElem_cons h2]
    by_cases he : a[i] = b[i]
    · rw [if_pos he, w64 _ (by omega)]
      have := ih (i + 1) k (by omega) (by omega) (by omega)
      have e : ((i + 1 : Nat) : Int) = (i : Int) + 1 := by omega
      rw [e] at this
      rw [this]
      simp only [he, List.cons.injEq, true_and]
    · rw [if_neg he]; simp only [he, List.cons.injEq, false_and, decide_false]
theorem eq_ev (a b : List Int) (hl : a.length ≤ 1000000) : ∀ k, a.length + 1 ≤ k → slices_Equal_byte_byte.f k a b = some (decide (a = b)) := by
  intro k hk
  unfold slices_Equal_byte_byte.f
  by_cases h : (a.length : Int) = (b.length : Int)
  · rw [if_pos h]
    have := eq_l0 a b (by omega) hl a.length 0 k (by omega) (by omega) (by omega)
    simpa using this
  · rw [if_neg h]
    have : a ≠ b := fun e => h (by rw [e])
    simp [this]
theorem open_short (l : List Int) (h : l.length < 4) (k : Nat) : crc_Open.f k l = some ([], false) := by
  unfold crc_Open.f
  rw [w64 _ (by omega), if_pos (by omega)]
theorem open_ev (l : List Int) (h : 4 ≤ l.length) (hb : ∀ x ∈ l, 0 ≤ x ∧ x ≤ 255) (hl : l.length ≤ 10000) :
    ∃ K, ∀ k, K ≤ k → crc_Open.f k l = some (if sealed (l.take (l.length - 4)) = l then (l.take (l.length - 4), true) else ([], false)) := by
  obtain ⟨K, hK⟩ := seal_ev (l.take (l.length - 4)) (fun x hx => hb x (List.mem_of_mem_take hx)) (by rw [List.length_take]; omega)
  refine ⟨K + l.length + 1, fun k hk => ?_⟩
  unfold crc_Open.f
  rw [w64 _ (by omega), if_neg (by omega), if_pos (by omega), if_pos (by omega), show ((l.length : Int) - 4).toNat = l.length - 4 by omega, hK k (by omega)]
  simp only [Option.bind_some]
  rw [eq_ev _ _ (by rw [sealed_length, List.length_take]; omega) k (by rw [sealed_length, List.length_take]; omega)]
  simp only [Option.bind_some]
  by_cases he : sealed (l.take (l.length - 4)) = l
  · rw [if_pos (by simpa using he), clone_ev _ (by rw [List.length_take]; omega), if_pos he]; rfl
  · rw [if_neg (by simpa using he), if_neg he]
theorem ref_half (X : B32) : (Int.tdiv (X.toNat : Int) (2 : Int)) % (4294967296 : Int) = ((X >>> 1).toNat : Int) := by
  rw [BitVec.toNat_ushiftRight, Nat.shiftRight_eq_div_pow, Int.tdiv_eq_ediv_of_nonneg (by omega)]
  have := X.isLt
  omega
theorem ref_odd (X : B32) : (Int.tmod (X.toNat : Int) (2 : Int) = (1 : Int)) ↔ X.getLsbD 0 = true := by
  have e : X.getLsbD 0 = X.toNat.testBit 0 := rfl
  rw [Int.tmod_eq_emod_of_nonneg (by omega), e, Nat.testBit_zero, decide_eq_true_iff]
  omega
theorem ref_l1 (s : ByteArray) (i : Int) (K : Nat) (r : Int) (d : Nat) : ∀ (j k : Nat) (X : B32), 8 - j = d → j ≤ 8 → d + K < k →
    (∀ k, K ≤ k → paternosterref02_Of.l0 k s ((itb d X).toNat : Int) (wrap64 (i + 1)) = some r) → paternosterref02_Of.l1 k s (X.toNat : Int) i (j : Int) = some r := by
  induction d with
  | zero =>
    intro j k X hd hj hk hK
    obtain ⟨k, rfl⟩ : ∃ m, k = m + 1 := ⟨k - 1, by omega⟩
    simp only [paternosterref02_Of.l1]
    rw [if_neg (by omega)]
    exact hK k (by omega)
  | succ d ih =>
    intro j k X hd hj hk hK
    obtain ⟨k, rfl⟩ : ∃ m, k = m + 1 := ⟨k - 1, by omega⟩
    have h := ih (j + 1) k (bit1 X) (by omega) (by omega) (by omega) hK
    have ej : (j : Int) + 1 = ((j + 1 : Nat) : Int) := by omega
    simp only [paternosterref02_Of.l1]
    rw [if_pos (by omega), ref_half, w64 _ (by omega), ej]
    by_cases ho : X.getLsbD 0 = true
    · rw [if_pos ((ref_odd X).2 ho), bits_bv, bv_nat]
      have e : bit1 X = X >>> 1 ^^^ bv 3988292384 := by unfold bit1; rw [ho]; rfl
      rw [← e]
      exact h
    · rw [if_neg (fun hc => ho ((ref_odd X).1 hc))]
      have e : bit1 X = X >>> 1 := bit1_low X (by simpa using ho)
      rw [← e]
      exact h
theorem ref_l0 (l : List Int) (hb : ∀ x ∈ l, 0 ≤ x ∧ x ≤ 255) (hl : l.length ≤ 1000000) (d : Nat) : ∀ (i : Nat), l.length - i = d → i ≤ l.length →
    ∃ K, ∀ k, K ≤ k → paternosterref02_Of.l0 k (strOfNums l) ((Rb 0xFFFFFFFF#32 (B (l.take i))).toNat : Int) (i : Int) = some ((S l).toNat : Int) := by
  induction d with
  | zero =>
    intro i hd hi
    refine ⟨1, fun k hk => ?_⟩
    obtain ⟨k, rfl⟩ : ∃ m, k = m + 1 := ⟨k - 1, by omega⟩
    simp only [paternosterref02_Of.l0]
    rw [strOfNums_size, if_neg (by omega), List.take_of_length_le (by omega)]
    unfold S
    generalize Rb 0xFFFFFFFF#32 (B l) = X
    have e : 0xFFFFFFFF#32 ^^^ X = ~~~X := by rw [BitVec.xor_comm]; exact BitVec.xor_allOnes
    rw [e, BitVec.toNat_not]
    have := X.isLt
    congr 1
    omega
  | succ d ih =>
    intro i hd hi
    have hlt : i < l.length := by omega
    obtain ⟨K, hK⟩ := ih (i + 1) (by omega) (by omega)
    refine ⟨K + 10, fun k hk => ?_⟩
    obtain ⟨k, rfl⟩ : ∃ m, k = m + 1 := ⟨k - 1, by omega⟩
    have ht : l.take (i + 1) = l.take i ++ [l[i]] := by rw [List.take_add_one, List.getElem?_eq_getElem hlt]; rfl
    have hc := hb l[i] (List.getElem_mem hlt)
    have hz : bv l[i] >>> 8 = 0#32 := by
      obtain ⟨n, hn⟩ := Int.eq_ofNat_of_zero_le hc.1
      apply BitVec.eq_of_toNat_eq
      rw [hn]
      unfold bv
      rw [BitVec.toNat_ushiftRight, BitVec.ofInt_natCast, BitVec.toNat_ofNat, Nat.shiftRight_eq_div_pow, BitVec.toNat_ofNat]
      rw [Nat.mod_eq_of_lt (by omega)]
      omega
    have hB : Rb 0xFFFFFFFF#32 (B (l.take (i + 1))) = itb 8 (Rb 0xFFFFFFFF#32 (B (l.take i)) ^^^ bv l[i]) := by
      have e1 : B [l[i]] = bitsOf 8 (bv l[i]) := by simp [B]
      rw [ht, B_append, Rb_append, e1, Rb_bits, hz, BitVec.xor_zero]
    simp only [paternosterref02_Of.l0]
    rw [strOfNums_size, if_pos (by omega), if_pos (by omega), bt_str l hb i hlt, bits_bv, bv_nat, bv_mod]
    have e0 : (0 : Int) = ((0 : Nat) : Int) := rfl
    rw [e0]
    refine ref_l1 _ _ K _ 8 0 k _ rfl (by omega) (by omega) (fun k hk => ?_)
    rw [w64 _ (by omega), ← hB, show (i : Int) + 1 = ((i + 1 : Nat) : Int) by omega]
    exact hK k hk
theorem ref_of_ev (l : List Int) (hb : ∀ x ∈ l, 0 ≤ x ∧ x ≤ 255) (hl : l.length ≤ 1000000) : ∃ K, ∀ k, K ≤ k → paternosterref02_Of.f k (strOfNums l) = some ((S l).toNat : Int) := by
  obtain ⟨K, hK⟩ := ref_l0 l hb hl l.length 0 (by omega) (by omega)
  refine ⟨K, fun k hk => ?_⟩
  exact hK k hk
theorem ref_seal_ev (l : List Int) (hb : ∀ x ∈ l, 0 ≤ x ∧ x ≤ 255) (hl : l.length ≤ 100000) : ∃ K, ∀ k, K ≤ k → paternosterref02_Seal.f k (strOfNums l) = some (strOfNums (sealed l)) := by
  obtain ⟨K, hK⟩ := ref_of_ev l hb (by omega)
  have hlt := (S l).isLt
  have hn := num_ev 4 (by omega) ((S l).toNat : Int) (by omega)
  refine ⟨K + 10, fun k hk => ?_⟩
  have h2 : paternosterref01_Num.f k 4 ((S l).toNat : Int) = some (strOfNums (le 4 ((S l).toNat : Int))) := hn k (by omega)
  unfold paternosterref02_Seal.f
  rw [hK k (by omega), Option.bind_some, wu64 _ (by omega), h2, Option.bind_some, strOfNums_size, strOfNums_size, le_length, if_pos (by omega), ← str_app]
  rfl
theorem str_inj (a b : List Int) (ha : ∀ x ∈ a, 0 ≤ x ∧ x ≤ 255) (hb : ∀ x ∈ b, 0 ≤ x ∧ x ≤ 255) (h : (strOfNums a).toList = (strOfNums b).toList) : a = b := by
  rw [Lib.toList_data, Lib.toList_data] at h
  simp only [strOfNums] at h
  have hl : a.length = b.length := by simpa using congrArg List.length h
  apply List.ext_getElem hl
  intro i h1 h2
  have hg : ((a.map fun n => UInt8.ofNat n.toNat))[i]'(by simpa using h1) = ((b.map fun n => UInt8.ofNat n.toNat))[i]'(by simpa using h2) := by simp only [h]
  simp only [List.getElem_map] at hg
  have h3 := congrArg UInt8.toNat hg
  have h4 := ha a[i] (List.getElem_mem h1)
  have h5 := hb b[i] (List.getElem_mem h2)
  simp at h3
  omega
theorem ref_open_ev (l : List Int) (h : 4 ≤ l.length) (hb : ∀ x ∈ l, 0 ≤ x ∧ x ≤ 255) (hl : l.length ≤ 10000) :
    ∃ K, ∀ k, K ≤ k → paternosterref02_Open.f k (strOfNums l) = some (if sealed (l.take (l.length - 4)) = l then (strOfNums (l.take (l.length - 4)), true) else (⟨#[]⟩, false)) := by
  have hbt : ∀ x ∈ l.take (l.length - 4), 0 ≤ x ∧ x ≤ 255 := fun x hx => hb x (List.mem_of_mem_take hx)
  obtain ⟨K, hK⟩ := ref_seal_ev (l.take (l.length - 4)) hbt (by rw [List.length_take]; omega)
  refine ⟨K, fun k hk => ?_⟩
  have hx : (strOfNums l).extract 0 (((l.length : Int) - 4)).toNat = strOfNums (l.take (l.length - 4)) := by
    rw [show ((l.length : Int) - 4).toNat = l.length - 4 by omega, str_extract _ _ _ (by omega), List.drop_zero, Nat.sub_zero]
  unfold paternosterref02_Open.f
  rw [strOfNums_size, if_neg (by omega), w64 _ (by omega), if_pos (by omega), if_pos (by omega), hx, hK k hk, Option.bind_some]
  by_cases he : sealed (l.take (l.length - 4)) = l
  · rw [if_pos he, if_pos (by rw [he])]
  · rw [if_neg he, if_neg (fun hc => he (str_inj _ _ (sealed_range _ hbt) hb hc))]
theorem ref_open_short (l : List Int) (h : l.length < 4) (k : Nat) : paternosterref02_Open.f k (strOfNums l) = some (⟨#[]⟩, false) := by
  unfold paternosterref02_Open.f
  rw [strOfNums_size, if_pos (by omega)]
end Go.Proofs.YtbcijmpkmmcdeaaDoor.Pure
end
