/- Texts of mine, put together (no statement stands here). -/
import Derived.Test.YtbcijmpkmmcdeaaDoorCMTells9
import Derived.Test.YtbcijmpkmmcdeaaDoorCMTells10
import Derived.Test.YtbcijmpkmmcdeaaDoorCMTells12
import Derived.Lib.Bytes
import Derived.OpenShut
import Derived.Laws.BitsLemmas
section
namespace Go.Proofs.YtbcijmpkmmcdeaaDoor.PAll
open Go.RowKit Go.Proofs.YtbcijmpkmmcdeaaDoorW.PrintWords Go.Proofs.YtbcijmpkmmcdeaaDoorW.PrintLast Go.Proofs.YtbcijmpkmmcdeaaDoorW.PrintMore
attribute [local go_sem] max2_int min2_int max_two min_two max_three min_three max_four min_four
set_option linter.unusedVariables false
set_option linter.unusedSimpArgs false
def paternosterref01_Part.l0 : Nat → ByteArray → List ByteArray → Option (List ByteArray × Int)
  | 0, _, _ => none
  | k + 1, x0, x4 => if x0.toList = ([] : List UInt8) then (some (x4, 0)) else (if (x0.size : Int) < 2 then (some (([] : List ByteArray), 10)) else (if 0 < (x0.size : Int) then (if 1 < (x0.size : Int) then (if (x0.size : Int) < (wrap64 ((wrap64 (2 + (wrap64 (bt x0 0)))) + (wrap64 (256 * (wrap64 (bt x0 1)))))) then (some (([] : List ByteArray), 10)) else (if 2 ≤ (wrap64 ((wrap64 (2 + (wrap64 (bt x0 0)))) + (wrap64 (256 * (wrap64 (bt x0 1)))))) then (if (wrap64 ((wrap64 (2 + (wrap64 (bt x0 0)))) + (wrap64 (256 * (wrap64 (bt x0 1)))))) ≤ (x0.size : Int) then (if x4.length < 8796093022208 then (if 0 ≤ (wrap64 ((wrap64 (2 + (wrap64 (bt x0 0)))) + (wrap64 (256 * (wrap64 (bt x0 1)))))) then (paternosterref01_Part.l0 k (x0.extract ((wrap64 ((wrap64 (2 + (wrap64 (bt x0 0)))) + (wrap64 (256 * (wrap64 (bt x0 1)))))) : Int).toNat x0.size) (x4 ++ [x0.extract 2 ((wrap64 ((wrap64 (2 + (wrap64 (bt x0 0)))) + (wrap64 (256 * (wrap64 (bt x0 1)))))) : Int).toNat])) else (none)) else (none)) else (none)) else (none))) else (none)) else (none)))
def paternosterref01_Part.f (k : Nat) (a0 : ByteArray) : Option (List ByteArray × Int) := paternosterref01_Part.l0 k a0 ([] : List ByteArray)
set_option maxHeartbeats 8000000 in
set_option maxRecDepth 100000 in
theorem paternosterref01_Part.calls (k : Nat) (a0 : ByteArray) (r1 : List ByteArray) (r2 : Int) (w : World) (h : paternosterref01_Part.f k a0 = some (r1, r2)) :
    Calls Tryd.prog 48 #[.string a0] w fun e w' => ∃ v0_ : Value, e = .returned (.tuple #[v0_, .int .i64 r2]) ∧ Kd.R Kd.string 9 w' w.heap.size (fun _ => True) v0_ r1 ∧ Below w.heap.size w w' := by
  have HB := Aside0.mk (Below.refl w.heap.size w)
  have H : (paternosterref01_Part.l0 k a0 ([] : List ByteArray)) = some (r1, r2) := h
  clear h
  have H' := Aside0.mk H
  clear H
  go_enter Tryd.func48, Tryd.ntmps48
  go_wp2
  repeat (go_quiet (fail); try go_wp2)
  go_loopg [0, 4] k (fun kq v0 v4 w' => ∃ (x0_1 : ByteArray) (x4_1 : List ByteArray), v0 = .string x0_1 ∧ Aside0 (paternosterref01_Part.l0 kq x0_1 x4_1 = some (r1, r2)) ∧ Aside0 (kq ≤ k) ∧ Aside0 (Kd.R Kd.string 9 w' w.heap.size (fun _ => True) v4 x4_1) ∧ Aside0 (Below w.heap.size w w'))
  case atStart => exact ⟨(a0), (([] : List ByteArray)), (by first | rfl | (simp; done) | (simp [*]; done)), H', ⟨Nat.le_refl _⟩, ⟨by first | exact Kd.R_nil _ _ _ _ _ | exact Kd.N_nil _ _ _ _ _ | exact Kd.V_nil _ _ _ _ _ | exact Kd.Q_nil _ _ _ _ _ | exact Kd.S_nil _ _ _ _ _⟩, ⟨by repeat (first | (with_reducible first | exact HB.out | apply below_alloc | apply pw_below_drewN | apply below_drew1) | exact HB.out)⟩⟩
  case round =>
    clear H'
    obtain ⟨x0_1, x4_1, rfl, HA, HK1, HO_4, HB⟩ := hrel
    cases gk with
    | zero => exact absurd HA.out (by simp [paternosterref01_Part.l0])
    | succ k1 =>
      have H := HA.out
      clear HA
      simp only [paternosterref01_Part.l0] at H
      by_cases c2 : x0_1.toList = ([] : List UInt8)
      · rw [if_pos c2] at H
        have c2b0 : (x0_1.toList == ([] : List UInt8)) = true := beq_iff_eq.mpr c2
        have c2b1 : (x0_1.toList != ([] : List UInt8)) = false := bne_eq_false_iff_eq.mpr c2
        clear c2
        simp only [Option.some.injEq, Prod.mk.injEq] at H
        obtain ⟨rfl, rfl⟩ := H
        go_wp2
        repeat (go_quiet (fail); try go_wp2)
        go_ret2
        exact ⟨_, by first | rfl | (simp [errW_none, errW_some] <;> rfl) | (simp [*, errW_none, errW_some] <;> rfl), by (with_reducible repeat (first | apply Kd.R_alloc | apply Kd.R_drewN | apply Kd.R_drew)); exact HO_4.out, by repeat (first | (with_reducible first | exact HB.out | apply below_alloc | apply pw_below_drewN | apply below_drew1) | exact HB.out)⟩
      · rw [if_neg c2] at H
        have c2b0 : (x0_1.toList == ([] : List UInt8)) = false := beq_eq_false_iff_ne.mpr c2
        have c2b1 : (x0_1.toList != ([] : List UInt8)) = true := bne_iff_ne.mpr c2
        by_cases c3 : (x0_1.size : Int) < 2
        · rw [if_pos c3] at H
          have c3b0 : decide ((x0_1.size : Int) < 2) = true := decide_eq_true c3
          have c3b1 : decide (x0_1.size < 2) = true := decide_eq_true (by omega)
          clear c3
          simp only [Option.some.injEq, Prod.mk.injEq] at H
          obtain ⟨rfl, rfl⟩ := H
          go_wp2
          repeat (go_quiet (fail); try go_wp2)
          go_ret2
          exact ⟨_, by first | rfl | (simp [errW_none, errW_some] <;> rfl) | (simp [*, errW_none, errW_some] <;> rfl), by first | exact Kd.R_nil _ _ _ _ _ | exact Kd.N_nil _ _ _ _ _ | exact Kd.V_nil _ _ _ _ _ | exact Kd.Q_nil _ _ _ _ _ | exact Kd.S_nil _ _ _ _ _, by repeat (first | (with_reducible first | exact HB.out | apply below_alloc | apply pw_below_drewN | apply below_drew1) | exact HB.out)⟩
        · rw [if_neg c3] at H
          have c3b0 : decide ((x0_1.size : Int) < 2) = false := decide_eq_false c3
          have c3b1 : decide (x0_1.size < 2) = false := decide_eq_false (by omega)
          clear c3
          by_cases c4 : 0 < (x0_1.size : Int)
          · rw [if_pos c4] at H
            have c4b0 : decide (0 < (x0_1.size : Int)) = true := decide_eq_true c4
            have c4b1 : decide (0 < x0_1.size) = true := decide_eq_true (by omega)
            clear c4
            by_cases c6 : 1 < (x0_1.size : Int)
            · rw [if_pos c6] at H
              have c6b0 : decide (1 < (x0_1.size : Int)) = true := decide_eq_true c6
              have c6b1 : decide (1 < x0_1.size) = true := decide_eq_true (by omega)
              clear c6
              by_cases c8 : (x0_1.size : Int) < (wrap64 ((wrap64 (2 + (wrap64 (bt x0_1 0)))) + (wrap64 (256 * (wrap64 (bt x0_1 1))))))
              · rw [if_pos c8] at H
                have c8b0 : decide ((x0_1.size : Int) < (wrap64 ((wrap64 (2 + (wrap64 (bt x0_1 0)))) + (wrap64 (256 * (wrap64 (bt x0_1 1))))))) = true := decide_eq_true c8
                clear c8
                simp only [Option.some.injEq, Prod.mk.injEq] at H
                obtain ⟨rfl, rfl⟩ := H
                have p5 : 0 ≤ (0 : Int) := (by omega)
                have q5 : 0 < x0_1.size := (by have : (0 : Int) < (x0_1.size : Int) := of_decide_eq_true (by first | (with_reducible assumption) | assumption); omega)
                have hx5 : ∀ h : 0 < x0_1.size, ((x0_1[0]'h).toNat : Int) = bt x0_1 0 := bt_at x0_1 0
                clear p5
                have qi5 : (0 < (x0_1.size : Int)) = True := eq_true (of_decide_eq_true (by first | (with_reducible assumption) | assumption))
                replace q5 := eq_true q5
                have p7 : 0 ≤ (1 : Int) := (by omega)
                have q7 : 1 < x0_1.size := (by have : (1 : Int) < (x0_1.size : Int) := of_decide_eq_true (by first | (with_reducible assumption) | assumption); omega)
                have hx7 : ∀ h : 1 < x0_1.size, ((x0_1[1]'h).toNat : Int) = bt x0_1 1 := bt_at x0_1 1
                clear p7
                have qi7 : (1 < (x0_1.size : Int)) = True := eq_true (of_decide_eq_true (by first | (with_reducible assumption) | assumption))
                replace q7 := eq_true q7
                go_wp2
                repeat (go_quiet (fail); try go_wp2)
                go_ret2
                exact ⟨_, by first | rfl | (simp [errW_none, errW_some] <;> rfl) | (simp [*, errW_none, errW_some] <;> rfl), by first | exact Kd.R_nil _ _ _ _ _ | exact Kd.N_nil _ _ _ _ _ | exact Kd.V_nil _ _ _ _ _ | exact Kd.Q_nil _ _ _ _ _ | exact Kd.S_nil _ _ _ _ _, by repeat (first | (with_reducible first | exact HB.out | apply below_alloc | apply pw_below_drewN | apply below_drew1) | exact HB.out)⟩
              · rw [if_neg c8] at H
                have c8b0 : decide ((x0_1.size : Int) < (wrap64 ((wrap64 (2 + (wrap64 (bt x0_1 0)))) + (wrap64 (256 * (wrap64 (bt x0_1 1))))))) = false := decide_eq_false c8
                clear c8
                by_cases c11 : 2 ≤ (wrap64 ((wrap64 (2 + (wrap64 (bt x0_1 0)))) + (wrap64 (256 * (wrap64 (bt x0_1 1))))))
                · rw [if_pos c11] at H
                  have c11b0 := eq_true c11
                  have c11b1 : decide (2 ≤ (wrap64 ((wrap64 (2 + (wrap64 (bt x0_1 0)))) + (wrap64 (256 * (wrap64 (bt x0_1 1))))))) = true := decide_eq_true c11
                  by_cases c12 : (wrap64 ((wrap64 (2 + (wrap64 (bt x0_1 0)))) + (wrap64 (256 * (wrap64 (bt x0_1 1)))))) ≤ (x0_1.size : Int)
                  · rw [if_pos c12] at H
                    have c12b0 := eq_true c12
                    have c12b1 : decide ((wrap64 ((wrap64 (2 + (wrap64 (bt x0_1 0)))) + (wrap64 (256 * (wrap64 (bt x0_1 1)))))) ≤ (x0_1.size : Int)) = true := decide_eq_true c12
                    by_cases c13 : x4_1.length < 8796093022208
                    · rw [if_pos c13] at H
                      have LMc13 := Aside0.mk c13
                      clear c13
                      obtain ⟨y231, hy231⟩ : ∃ y_ : List ByteArray, y_ = (x4_1 ++ [x0_1.extract 2 ((wrap64 ((wrap64 (2 + (wrap64 (bt x0_1 0)))) + (wrap64 (256 * (wrap64 (bt x0_1 1)))))) : Int).toNat]) := ⟨_, rfl⟩
                      replace H : (if 0 ≤ (wrap64 ((wrap64 (2 + (wrap64 (bt x0_1 0)))) + (wrap64 (256 * (wrap64 (bt x0_1 1)))))) then (paternosterref01_Part.l0 k1 (x0_1.extract ((wrap64 ((wrap64 (2 + (wrap64 (bt x0_1 0)))) + (wrap64 (256 * (wrap64 (bt x0_1 1)))))) : Int).toNat x0_1.size) y231) else (none)) = some (r1, r2) := by first | (rw [hy231]; with_reducible exact H) | (have H2_ := (Option.bind_some _ _).symm.trans H; rw [hy231]; with_reducible exact H2_) | (have H2_ := (Option.bind_some _ _).symm.trans H; with_reducible exact H2_) | with_reducible exact H | (rw [hy231]; exact H) | exact H
                      have Ny231 := Aside0.mk hy231
                      clear hy231
                      obtain ⟨ji14, hji14⟩ : ∃ j_ : Int, (wrap64 ((wrap64 (2 + (wrap64 (bt x0_1 0)))) + (wrap64 (256 * (wrap64 (bt x0_1 1)))))) = j_ := ⟨_, rfl⟩
                      replace H : (if 0 ≤ (ji14) then (paternosterref01_Part.l0 k1 (x0_1.extract ((ji14) : Int).toNat x0_1.size) y231) else (none)) = some (r1, r2) := by first | (rw [hji14] at H; exact H) | (simp only [hji14] at H ⊢; exact H)
                      (try rw [hji14] at c8b0)
                      (try rw [hji14] at c11b0)
                      (try rw [hji14] at c11b1)
                      (try rw [hji14] at c11)
                      (try rw [hji14] at c12b0)
                      (try rw [hji14] at c12b1)
                      (try rw [hji14] at c12)
                      (try rw [hji14] at Ny231)
                      have hji14w : (IntKind.i64.wrap ((wrap64 (2 + (wrap64 (bt x0_1 0)))) + (wrap64 (256 * (wrap64 (bt x0_1 1)))))) = ji14 := (i64_w _).trans hji14
                      by_cases c15 : 0 ≤ (ji14)
                      · rw [if_pos c15] at H
                        have c15b0 := eq_true c15
                        have c15b1 : decide (0 ≤ (ji14)) = true := decide_eq_true c15
                        clear c15
                        have c16b0 := eq_true (of_decide_eq_true (by first | (with_reducible assumption) | assumption) : (ji14) ≤ (x0_1.size : Int))
                        have H' := Aside0.mk H
                        clear H
                        have p5 : 0 ≤ (0 : Int) := (by omega)
                        have q5 : 0 < x0_1.size := (by have : (0 : Int) < (x0_1.size : Int) := of_decide_eq_true (by first | (with_reducible assumption) | assumption); omega)
                        have hx5 : ∀ h : 0 < x0_1.size, ((x0_1[0]'h).toNat : Int) = bt x0_1 0 := bt_at x0_1 0
                        clear p5
                        have qi5 : (0 < (x0_1.size : Int)) = True := eq_true (of_decide_eq_true (by first | (with_reducible assumption) | assumption))
                        replace q5 := eq_true q5
                        have p7 : 0 ≤ (1 : Int) := (by omega)
                        have q7 : 1 < x0_1.size := (by have : (1 : Int) < (x0_1.size : Int) := of_decide_eq_true (by first | (with_reducible assumption) | assumption); omega)
                        have hx7 : ∀ h : 1 < x0_1.size, ((x0_1[1]'h).toNat : Int) = bt x0_1 1 := bt_at x0_1 1
                        clear p7
                        have qi7 : (1 < (x0_1.size : Int)) = True := eq_true (of_decide_eq_true (by first | (with_reducible assumption) | assumption))
                        replace q7 := eq_true q7
                        have p9 : 0 ≤ (0 : Int) := (by omega)
                        have q9 : 0 < x0_1.size := (by have : (0 : Int) < (x0_1.size : Int) := of_decide_eq_true (by first | (with_reducible assumption) | assumption); omega)
                        have hx9 : ∀ h : 0 < x0_1.size, ((x0_1[0]'h).toNat : Int) = bt x0_1 0 := bt_at x0_1 0
                        clear p9
                        have qi9 : (0 < (x0_1.size : Int)) = True := eq_true (of_decide_eq_true (by first | (with_reducible assumption) | assumption))
                        replace q9 := eq_true q9
                        have p10 : 0 ≤ (1 : Int) := (by omega)
                        have q10 : 1 < x0_1.size := (by have : (1 : Int) < (x0_1.size : Int) := of_decide_eq_true (by first | (with_reducible assumption) | assumption); omega)
                        have hx10 : ∀ h : 1 < x0_1.size, ((x0_1[1]'h).toNat : Int) = bt x0_1 1 := bt_at x0_1 1
                        clear p10
                        have qi10 : (1 < (x0_1.size : Int)) = True := eq_true (of_decide_eq_true (by first | (with_reducible assumption) | assumption))
                        replace q10 := eq_true q10
                        go_wp2_with (first | ((with_reducible refine gate_builtin (b := .append) (xs := #[.tmp 34, .tmp 38]) rfl ?_); (try (refine gate_guard (by rfl) ?_; dsimp only)); at_builtin; refine Kd.R_append Kd.string (w0 := w) w.heap.size rfl (.tmp 34) (.tmp 38) 109 9 (.string ⟨#[]⟩) 16 rfl Tryd.underlying109 info9 rfl (by decide) (by omega) u4 x4_1 (x0_1.extract 2 ((ji14) : Int).toNat) [.string (x0_1.extract 2 ((ji14) : Int).toNat)] (fun _ => True) (fun _ => False) rfl rfl ?aP (fun _ hk => hk.elim) ?aF ?aO ?aB ?aS ?aL ?_; (case aP => exact rfl); (case aB => exact (by repeat (first | (with_reducible first | exact HB.out | apply below_alloc | apply pw_below_drewN | apply below_drew1) | exact HB.out))); (case aF => exact (fun _ _ => trivial)); (case aO => exact (by (with_reducible repeat (first | apply Kd.R_alloc | apply Kd.R_drewN | apply Kd.R_drew)); exact HO_4.out)); (case aS => exact (below_size (by repeat (first | (with_reducible first | exact HB.out | apply below_alloc | apply pw_below_drewN | apply below_drew1) | exact HB.out)))); (case aL => have := LMc13.out; omega); intro v232 w17 ho hb hg hat; rw [← Ny231.out] at ho; have n0_ := Aside0.mk (hb); have n1_ := Aside0.mk (ho); clear HB; clear HO_4; have HB := n0_; have HO233 := n1_; clear n0_ n1_; clear ho hb hg hat))
                        repeat (go_quiet (first | ((with_reducible refine gate_builtin (b := .append) (xs := #[.tmp 34, .tmp 38]) rfl ?_); (try (refine gate_guard (by rfl) ?_; dsimp only)); at_builtin; refine Kd.R_append Kd.string (w0 := w) w.heap.size rfl (.tmp 34) (.tmp 38) 109 9 (.string ⟨#[]⟩) 16 rfl Tryd.underlying109 info9 rfl (by decide) (by omega) u4 x4_1 (x0_1.extract 2 ((ji14) : Int).toNat) [.string (x0_1.extract 2 ((ji14) : Int).toNat)] (fun _ => True) (fun _ => False) rfl rfl ?aP (fun _ hk => hk.elim) ?aF ?aO ?aB ?aS ?aL ?_; (case aP => exact rfl); (case aB => exact (by repeat (first | (with_reducible first | exact HB.out | apply below_alloc | apply pw_below_drewN | apply below_drew1) | exact HB.out))); (case aF => exact (fun _ _ => trivial)); (case aO => exact (by (with_reducible repeat (first | apply Kd.R_alloc | apply Kd.R_drewN | apply Kd.R_drew)); exact HO_4.out)); (case aS => exact (below_size (by repeat (first | (with_reducible first | exact HB.out | apply below_alloc | apply pw_below_drewN | apply below_drew1) | exact HB.out)))); (case aL => have := LMc13.out; omega); intro v232 w17 ho hb hg hat; rw [← Ny231.out] at ho; have n0_ := Aside0.mk (hb); have n1_ := Aside0.mk (ho); clear HB; clear HO_4; have HB := n0_; have HO233 := n1_; clear n0_ n1_; clear ho hb hg hat)); try go_wp2_with (first | ((with_reducible refine gate_builtin (b := .append) (xs := #[.tmp 34, .tmp 38]) rfl ?_); (try (refine gate_guard (by rfl) ?_; dsimp only)); at_builtin; refine Kd.R_append Kd.string (w0 := w) w.heap.size rfl (.tmp 34) (.tmp 38) 109 9 (.string ⟨#[]⟩) 16 rfl Tryd.underlying109 info9 rfl (by decide) (by omega) u4 x4_1 (x0_1.extract 2 ((ji14) : Int).toNat) [.string (x0_1.extract 2 ((ji14) : Int).toNat)] (fun _ => True) (fun _ => False) rfl rfl ?aP (fun _ hk => hk.elim) ?aF ?aO ?aB ?aS ?aL ?_; (case aP => exact rfl); (case aB => exact (by repeat (first | (with_reducible first | exact HB.out | apply below_alloc | apply pw_below_drewN | apply below_drew1) | exact HB.out))); (case aF => exact (fun _ _ => trivial)); (case aO => exact (by (with_reducible repeat (first | apply Kd.R_alloc | apply Kd.R_drewN | apply Kd.R_drew)); exact HO_4.out)); (case aS => exact (below_size (by repeat (first | (with_reducible first | exact HB.out | apply below_alloc | apply pw_below_drewN | apply below_drew1) | exact HB.out)))); (case aL => have := LMc13.out; omega); intro v232 w17 ho hb hg hat; rw [← Ny231.out] at ho; have n0_ := Aside0.mk (hb); have n1_ := Aside0.mk (ho); clear HB; clear HO_4; have HB := n0_; have HO233 := n1_; clear n0_ n1_; clear ho hb hg hat)))
                        go_roundg k1
                        case measure => have := HK1.out; omega
                        case rel => exact ⟨(x0_1.extract ((ji14) : Int).toNat x0_1.size), (y231), (by first | rfl | (simp; done) | (simp only [← hji14] <;> (first | rfl | simp)) | (simp [*]; done)), H', ⟨by have := HK1.out; omega⟩, ⟨by (with_reducible repeat (first | apply Kd.R_alloc | apply Kd.R_drewN | apply Kd.R_drew)); exact HO233.out⟩, ⟨by repeat (first | (with_reducible first | exact HB.out | apply below_alloc | apply pw_below_drewN | apply below_drew1) | exact HB.out)⟩⟩
                      · rw [if_neg c15] at H
                        exact absurd H (by simp)
                    · rw [if_neg c13] at H
                      exact absurd H (by simp)
                  · rw [if_neg c12] at H
                    exact absurd H (by simp)
                · rw [if_neg c11] at H
                  exact absurd H (by simp)
            · rw [if_neg c6] at H
              exact absurd H (by simp)
          · rw [if_neg c4] at H
            exact absurd H (by simp)
end Go.Proofs.YtbcijmpkmmcdeaaDoor.PAll
end
section
namespace Go.Proofs.YtbcijmpkmmcdeaaDoor.PAll
open Go.RowKit Go.Proofs.YtbcijmpkmmcdeaaDoorW.PrintWords Go.Proofs.YtbcijmpkmmcdeaaDoorW.PrintLast Go.Proofs.YtbcijmpkmmcdeaaDoorW.PrintMore
attribute [local go_sem] max2_int min2_int max_two min_two max_three min_three max_four min_four
set_option linter.unusedVariables false
set_option linter.unusedSimpArgs false
mutual
def paternosterref01_Get.j0 : Nat → Int → ByteArray → Bool → Option (List Int × Int)
  | 0, _, _, _ => none
  | k + 1, x0, x1, x14 => if x14 = true then (some (([] : List Int), 1)) else (if x0 = 0 then (none) else (if ((x1.size : Int) % x0) > 0 then (some (([] : List Int), 10)) else (paternosterref01_Get.l0 k x0 x1 ([] : List Int))))
def paternosterref01_Get.l0 : Nat → Int → ByteArray → List Int → Option (List Int × Int)
  | 0, _, _, _ => none
  | k + 1, x0, x1, x6 => if x1.toList = ([] : List UInt8) then (some (x6, 0)) else (paternosterref01_Get.l1 k x0 x1 x6 0 (wrap64 (x0 - 1)))
def paternosterref01_Get.l1 : Nat → Int → ByteArray → List Int → Int → Int → Option (List Int × Int)
  | 0, _, _, _, _, _ => none
  | k + 1, x0, x1, x6, x7, x8 => if x8 ≥ 0 then (if 0 ≤ x8 then (if x8 < (x1.size : Int) then (paternosterref01_Get.l1 k x0 x1 x6 (IntKind.u64.wrap ((IntKind.u64.wrap (256 * x7)) + (IntKind.u64.wrap (bt x1 x8)))) (wrap64 (x8 - 1))) else (none)) else (none)) else (if x6.length < 17592186044416 then (if 0 ≤ x0 then (if x0 ≤ (x1.size : Int) then (paternosterref01_Get.l0 k x0 (x1.extract (x0 : Int).toNat x1.size) (x6 ++ [x7])) else (none)) else (none)) else (none))
end
def paternosterref01_Get.f (k : Nat) (a0 : Int) (a1 : ByteArray) : Option (List Int × Int) := if a0 < 1 then (paternosterref01_Get.j0 k a0 a1 true) else (paternosterref01_Get.j0 k a0 a1 (decide (a0 > 8)))
set_option maxHeartbeats 8000000 in
set_option maxRecDepth 100000 in
theorem paternosterref01_Get.calls (k : Nat) (a0 : Int) (a1 : ByteArray) (r1 : List Int) (r2 : Int) (w : World) (h : paternosterref01_Get.f k a0 a1 = some (r1, r2)) :
    Calls Tryd.prog 68 #[.int .i64 a0, .string a1] w fun e w' => ∃ v0_ : Value, e = .returned (.tuple #[v0_, .int .i64 r2]) ∧ Kd.R (Kd.int .u64) 53 w' w.heap.size (fun _ => True) v0_ r1 ∧ Below w.heap.size w w' := by
  have HB := Aside0.mk (Below.refl w.heap.size w)
  have H : (if a0 < 1 then (paternosterref01_Get.j0 k a0 a1 true) else (paternosterref01_Get.j0 k a0 a1 (decide (a0 > 8)))) = some (r1, r2) := h
  clear h
  have HC3 := Aside0.mk H
  clear H
  go_enter Tryd.func68, Tryd.ntmps68
  go_upto_region 1 with (fail)
  go_cut [14] (fun v14 wc => ∃ (kq : Nat) (x14_2 : Bool), v14 = .bool x14_2 ∧ Aside0 (paternosterref01_Get.j0 kq a0 a1 x14_2 = some (r1, r2)) ∧ Aside0 (kq ≤ k) ∧ Aside0 (Below w.heap.size w wc))
  case first =>
    have H := HC3.out
    clear HC3
    by_cases c4 : a0 < 1
    · rw [if_pos c4] at H
      have c4b0 : decide (a0 < 1) = true := decide_eq_true c4
      clear c4
      (first | rw [c4b0] | (simp only [i64_w, i32_w]; rw [c4b0]) | skip)
      have H' := Aside0.mk H
      clear H
      go_wp2
      go_meet
      case rel => exact ⟨_, (true), (by first | rfl | (simp; done) | (simp [*]; done)), H', ⟨by first | omega | exact Nat.le_refl _⟩, ⟨by repeat (first | (with_reducible first | exact HB.out | apply below_alloc | apply pw_below_drewN | apply below_drew1) | exact HB.out)⟩⟩
    · rw [if_neg c4] at H
      have c4b0 : decide (a0 < 1) = false := decide_eq_false c4
      clear c4
      (first | rw [c4b0] | (simp only [i64_w, i32_w]; rw [c4b0]) | skip)
      have H' := Aside0.mk H
      clear H
      go_wp2
      go_meet
      case rel => exact ⟨_, (decide (a0 > 8)), (by first | rfl | (simp; done) | (simp [*]; done)), H', ⟨by first | omega | exact Nat.le_refl _⟩, ⟨by repeat (first | (with_reducible first | exact HB.out | apply below_alloc | apply pw_below_drewN | apply below_drew1) | exact HB.out)⟩⟩
  case rest =>
    clear HC3
    try clear p2
    try clear c4
    try clear c4b0
    obtain ⟨kq, x14_2, rfl, HA, HJ2, HB⟩ := hcut
    cases kq with
    | zero => exact absurd HA.out (by simp [paternosterref01_Get.j0])
    | succ kj2 =>
      have H := HA.out
      clear HA
      simp only [paternosterref01_Get.j0] at H
      by_cases c5 : x14_2 = true
      · subst c5
        have H1 : (some (([] : List Int), 1)) = some (r1, r2) := by rw [if_pos rfl] at H; exact H
        clear H
        have H := H1
        clear H1
        simp only [Option.some.injEq, Prod.mk.injEq] at H
        obtain ⟨rfl, rfl⟩ := H
        go_wp2
        go_ret2
        exact ⟨_, by first | rfl | (simp [errW_none, errW_some] <;> rfl) | (simp [*, errW_none, errW_some] <;> rfl), by first | exact Kd.R_nil _ _ _ _ _ | exact Kd.N_nil _ _ _ _ _ | exact Kd.V_nil _ _ _ _ _ | exact Kd.Q_nil _ _ _ _ _ | exact Kd.S_nil _ _ _ _ _, by repeat (first | (with_reducible first | exact HB.out | apply below_alloc | apply pw_below_drewN | apply below_drew1) | exact HB.out)⟩
      · replace c5 := Bool.eq_false_iff.mpr c5
        subst c5
        have H1 : (if a0 = 0 then (none) else (if ((a1.size : Int) % a0) > 0 then (some (([] : List Int), 10)) else (paternosterref01_Get.l0 kj2 a0 a1 ([] : List Int)))) = some (r1, r2) := by rw [if_neg (show ¬ (false = true) by decide)] at H; exact H
        clear H
        have H := H1
        clear H1
        by_cases c6 : a0 = 0
        · rw [if_pos c6] at H
          exact absurd H (by simp)
        · rw [if_neg c6] at H
          have c6b0 : (a0 == 0) = false := beq_eq_false_iff_ne.mpr c6
          have c6b1 : (a0 != 0) = true := bne_iff_ne.mpr c6
          by_cases c7 : ((a1.size : Int) % a0) > 0
          · rw [if_pos c7] at H
            have c7b0 : decide (0 < ((a1.size : Int) % a0)) = true := decide_eq_true c7
            clear c7
            simp only [Option.some.injEq, Prod.mk.injEq] at H
            obtain ⟨rfl, rfl⟩ := H
            go_wp2
            go_ret2
            exact ⟨_, by first | rfl | (simp [errW_none, errW_some] <;> rfl) | (simp [*, errW_none, errW_some] <;> rfl), by first | exact Kd.R_nil _ _ _ _ _ | exact Kd.N_nil _ _ _ _ _ | exact Kd.V_nil _ _ _ _ _ | exact Kd.Q_nil _ _ _ _ _ | exact Kd.S_nil _ _ _ _ _, by repeat (first | (with_reducible first | exact HB.out | apply below_alloc | apply pw_below_drewN | apply below_drew1) | exact HB.out)⟩
          · rw [if_neg c7] at H
            have c7b0 : decide (0 < ((a1.size : Int) % a0)) = false := decide_eq_false c7
            clear c7
            have H' := Aside0.mk H
            clear H
            go_wp2
            go_loopg [1, 6] kj2 (fun kq v1 v6 w' => ∃ (x1_2 : ByteArray) (x6_2 : List Int), v1 = .string x1_2 ∧ Aside0 (paternosterref01_Get.l0 kq a0 x1_2 x6_2 = some (r1, r2)) ∧ Aside0 (kq ≤ kj2) ∧ Aside0 (Kd.R (Kd.int .u64) 53 w' w.heap.size (fun _ => True) v6 x6_2) ∧ Aside0 (Below w.heap.size w w'))
            case atStart => exact ⟨(a1), (([] : List Int)), (by first | rfl | (simp; done) | (simp [*]; done)), H', ⟨Nat.le_refl _⟩, ⟨by first | exact Kd.R_nil _ _ _ _ _ | exact Kd.N_nil _ _ _ _ _ | exact Kd.V_nil _ _ _ _ _ | exact Kd.Q_nil _ _ _ _ _ | exact Kd.S_nil _ _ _ _ _⟩, ⟨by repeat (first | (with_reducible first | exact HB.out | apply below_alloc | apply pw_below_drewN | apply below_drew1) | exact HB.out)⟩⟩
            case round =>
              clear H'
              try clear p2
              try clear c4
              try clear c4b0
              try clear c5
              try clear c6
              try clear c6b0
              try clear c6b1
              try clear c7
              try clear c7b0
              try clear p2
              obtain ⟨x1_2, x6_2, rfl, HA, HK2, HO_6, HB⟩ := hrel
              cases gk with
              | zero => exact absurd HA.out (by simp [paternosterref01_Get.l0])
              | succ k2 =>
                have H := HA.out
                clear HA
                simp only [paternosterref01_Get.l0] at H
                by_cases c8 : x1_2.toList = ([] : List UInt8)
                · rw [if_pos c8] at H
                  have c8b0 : (x1_2.toList == ([] : List UInt8)) = true := beq_iff_eq.mpr c8
                  have c8b1 : (x1_2.toList != ([] : List UInt8)) = false := bne_eq_false_iff_eq.mpr c8
                  clear c8
                  simp only [Option.some.injEq, Prod.mk.injEq] at H
                  obtain ⟨rfl, rfl⟩ := H
                  go_wp2
                  go_ret2
                  exact ⟨_, by first | rfl | (simp [errW_none, errW_some] <;> rfl) | (simp [*, errW_none, errW_some] <;> rfl), by (with_reducible repeat (first | apply Kd.R_alloc | apply Kd.R_drewN | apply Kd.R_drew)); exact HO_6.out, by repeat (first | (with_reducible first | exact HB.out | apply below_alloc | apply pw_below_drewN | apply below_drew1) | exact HB.out)⟩
                · rw [if_neg c8] at H
                  have c8b0 : (x1_2.toList == ([] : List UInt8)) = false := beq_eq_false_iff_ne.mpr c8
                  have c8b1 : (x1_2.toList != ([] : List UInt8)) = true := bne_iff_ne.mpr c8
                  have H' := Aside0.mk H
                  clear H
                  go_wp2
                  go_loopg [7, 8] k2 (fun kq v7 v8 w' => ∃ (x7_3 : Int) (x8_3 : Int), v7 = .int .u64 x7_3 ∧ v8 = .int .i64 x8_3 ∧ Aside0 (paternosterref01_Get.l1 kq a0 x1_2 x6_2 x7_3 x8_3 = some (r1, r2)) ∧ Aside0 (kq ≤ k2) ∧ Aside0 (Kd.R (Kd.int .u64) 53 w' w.heap.size (fun _ => True) u6 x6_2) ∧ Aside0 (Below w.heap.size w w'))
                  case atStart => exact ⟨(0), (wrap64 (a0 - 1)), (by first | rfl | (simp; done) | (simp [*]; done)), (by first | rfl | (simp; done) | (simp [*]; done)), H', ⟨Nat.le_refl _⟩, ⟨by (with_reducible repeat (first | apply Kd.R_alloc | apply Kd.R_drewN | apply Kd.R_drew)); exact HO_6.out⟩, ⟨by repeat (first | (with_reducible first | exact HB.out | apply below_alloc | apply pw_below_drewN | apply below_drew1) | exact HB.out)⟩⟩
                  case round =>
                    clear H'
                    try clear p2
                    try clear c4
                    try clear c4b0
                    try clear c5
                    try clear c6
                    try clear c6b0
                    try clear c6b1
                    try clear p6
                    try clear c7
                    try clear c7b0
                    try clear c8
                    try clear c8b0
                    try clear c8b1
                    try clear p2
                    obtain ⟨x7_3, x8_3, rfl, rfl, HA, HK3, HO_6, HB⟩ := hrel
                    cases gk with
                    | zero => exact absurd HA.out (by simp [paternosterref01_Get.l1])
                    | succ k3 =>
                      have H := HA.out
                      clear HA
                      simp only [paternosterref01_Get.l1] at H
                      by_cases c9 : x8_3 ≥ 0
                      · rw [if_pos c9] at H
                        have c9b0 : decide (0 ≤ x8_3) = true := decide_eq_true c9
                        clear c9
                        by_cases c10 : 0 ≤ x8_3
                        · rw [if_pos c10] at H
                          have c10b0 : decide (0 ≤ x8_3) = true := decide_eq_true c10
                          clear c10
                          by_cases c11 : x8_3 < (x1_2.size : Int)
                          · rw [if_pos c11] at H
                            have c11b0 : decide (x8_3 < (x1_2.size : Int)) = true := decide_eq_true c11
                            clear c11
                            have H' := Aside0.mk H
                            clear H
                            have p12 : 0 ≤ (x8_3 : Int) := of_decide_eq_true (by first | (with_reducible assumption) | assumption)
                            have q12 : x8_3 < (x1_2.size : Int) := of_decide_eq_true (by first | (with_reducible assumption) | assumption)
                            have hx12 := bt_at x1_2 x8_3
                            replace p12 := eq_true p12
                            replace q12 := eq_true q12
                            go_wp2
                            go_roundg k3
                            case measure => have := HJ2.out; have := HK2.out; have := HK3.out; omega
                            case rel => exact ⟨(IntKind.u64.wrap ((IntKind.u64.wrap (256 * x7_3)) + (IntKind.u64.wrap (bt x1_2 x8_3)))), (wrap64 (x8_3 - 1)), (by first | rfl | (simp; done) | (simp [*]; done)), (by first | rfl | (simp; done) | (simp [*]; done)), H', ⟨by have := HJ2.out; have := HK2.out; have := HK3.out; omega⟩, ⟨by (with_reducible repeat (first | apply Kd.R_alloc | apply Kd.R_drewN | apply Kd.R_drew)); exact HO_6.out⟩, ⟨by repeat (first | (with_reducible first | exact HB.out | apply below_alloc | apply pw_below_drewN | apply below_drew1) | exact HB.out)⟩⟩
                          · rw [if_neg c11] at H
                            exact absurd H (by simp)
                        · rw [if_neg c10] at H
                          exact absurd H (by simp)
                      · rw [if_neg c9] at H
                        have c9b0 : decide (0 ≤ x8_3) = false := decide_eq_false c9
                        clear c9
                        by_cases c13 : x6_2.length < 17592186044416
                        · rw [if_pos c13] at H
                          have LMc13 := Aside0.mk c13
                          clear c13
                          obtain ⟨y234, hy234⟩ : ∃ y_ : List Int, y_ = (x6_2 ++ [x7_3]) := ⟨_, rfl⟩
                          replace H : (if 0 ≤ a0 then (if a0 ≤ (x1_2.size : Int) then (paternosterref01_Get.l0 k3 a0 (x1_2.extract (a0 : Int).toNat x1_2.size) y234) else (none)) else (none)) = some (r1, r2) := by first | (rw [hy234]; with_reducible exact H) | (have H2_ := (Option.bind_some _ _).symm.trans H; rw [hy234]; with_reducible exact H2_) | (have H2_ := (Option.bind_some _ _).symm.trans H; with_reducible exact H2_) | with_reducible exact H | (rw [hy234]; exact H) | exact H
                          have Ny234 := Aside0.mk hy234
                          clear hy234
                          by_cases c14 : 0 ≤ a0
                          · rw [if_pos c14] at H
                            have c14b0 := eq_true c14
                            have c14b1 : decide (0 ≤ a0) = true := decide_eq_true c14
                            clear c14
                            by_cases c15 : a0 ≤ (x1_2.size : Int)
                            · rw [if_pos c15] at H
                              have c15b0 := eq_true c15
                              have c15b1 : decide (a0 ≤ (x1_2.size : Int)) = true := decide_eq_true c15
                              clear c15
                              have H' := Aside0.mk H
                              clear H
                              go_wp2_with (first | ((with_reducible refine gate_builtin (b := .append) (xs := #[.tmp 35, .tmp 37]) rfl ?_); at_builtin; refine Kd.R_append (Kd.int .u64) (w0 := w) w.heap.size rfl (.tmp 35) (.tmp 37) 100 53 (.int .u64 0) 8 rfl Tryd.underlying100 info53 rfl (by decide) (by omega) u6 x6_2 x7_3 [.int .u64 x7_3] (fun _ => True) (fun _ => False) rfl rfl ?aP (fun _ hk => hk.elim) ?aF ?aO ?aB ?aS ?aL ?_; (case aP => exact rfl); (case aB => exact (by repeat (first | (with_reducible first | exact HB.out | apply below_alloc | apply pw_below_drewN | apply below_drew1) | exact HB.out))); (case aF => exact (fun _ _ => trivial)); (case aO => exact (by (with_reducible repeat (first | apply Kd.R_alloc | apply Kd.R_drewN | apply Kd.R_drew)); exact HO_6.out)); (case aS => exact (below_size (by repeat (first | (with_reducible first | exact HB.out | apply below_alloc | apply pw_below_drewN | apply below_drew1) | exact HB.out)))); (case aL => have := LMc13.out; omega); intro v235 w16 ho hb hg hat; rw [← Ny234.out] at ho; have n0_ := Aside0.mk (hb); have n1_ := Aside0.mk (ho); clear HB; clear HO_6; have HB := n0_; have HO236 := n1_; clear n0_ n1_; clear ho hb hg hat))
                              go_roundg k3
                              case measure => have := HJ2.out; have := HK2.out; have := HK3.out; omega
                              case rel => exact ⟨(x1_2.extract (a0 : Int).toNat x1_2.size), (y234), (by first | rfl | (simp; done) | (simp [*]; done)), H', ⟨by have := HJ2.out; have := HK2.out; have := HK3.out; omega⟩, ⟨by (with_reducible repeat (first | apply Kd.R_alloc | apply Kd.R_drewN | apply Kd.R_drew)); exact HO236.out⟩, ⟨by repeat (first | (with_reducible first | exact HB.out | apply below_alloc | apply pw_below_drewN | apply below_drew1) | exact HB.out)⟩⟩
                            · rw [if_neg c15] at H
                              exact absurd H (by simp)
                          · rw [if_neg c14] at H
                            exact absurd H (by simp)
                        · rw [if_neg c13] at H
                          exact absurd H (by simp)
end Go.Proofs.YtbcijmpkmmcdeaaDoor.PAll
end
section
set_option linter.unusedVariables false
set_option linter.unusedSimpArgs false
namespace Go.Proofs.YtbcijmpkmmcdeaaDoor.Pure
open Go.RowKit Go.Proofs.YtbcijmpkmmcdeaaDoor.PAll Go.Proofs.YtbcijmpkmmcdeaaDoorW.PrintWords Go.Proofs.YtbcijmpkmmcdeaaDoorW.PrintLast Go.Proofs.YtbcijmpkmmcdeaaDoorW.PrintMore
theorem w64 (n : Int) (h : -9223372036854775808 ≤ n ∧ n ≤ 9223372036854775807) : wrap64 n = n := by unfold wrap64; omega
theorem wu64 (n : Int) (h : 0 ≤ n ∧ n < 18446744073709551616) : IntKind.u64.wrap n = n := by
  simp only [IntKind.wrap, IntKind.signed, IntKind.bits]; simp; omega
def dig (x : Int) (i : Nat) : Int := x / 2 ^ (8 * i) % 256
def le (n : Nat) (x : Int) : List Int := (List.range n).map (dig x)
def puts (n : Nat) (l : List Int) : List Int := l.flatMap (le n)
theorem le_length (n : Nat) (x : Int) : (le n x).length = n := by simp [le]
theorem dig_range (x : Int) (i : Nat) : 0 ≤ dig x i ∧ dig x i ≤ 255 := by unfold dig; omega
theorem puts_cons (n : Nat) (a : Int) (r : List Int) : puts n (a :: r) = le n a ++ puts n r := by simp [puts]
theorem may_true (n : Int) (h : 1 ≤ n ∧ n ≤ 8) : octet_may.f n = some true := by unfold octet_may.f; rw [if_pos (by omega), decide_eq_true (by omega)]
theorem put_l1 (n : Nat) (hn : n ≤ 8) (x : Int) (l : List Int) (j : Int) (r : List Int) (acc0 : List Int) (K : Nat) (hb : acc0.length + 8 ≤ 140737488355327)
    (hK : ∀ k, K ≤ k → octet_Put.l0 k n (acc0 ++ le n x) l (l.length : Int) (wrap64 (j + 1)) = some r) (d : Nat) : ∀ (k i : Nat), n - i = d → i ≤ n → d + K < k →
    octet_Put.l1 k n (acc0 ++ le i x) x l (l.length : Int) j n (i : Int) = some r := by
  induction d with
  | zero =>
    intro k i hd hi hk
    obtain ⟨k, rfl⟩ : ∃ m, k = m + 1 := ⟨k - 1, by omega⟩
    obtain rfl : i = n := by omega
    simp only [octet_Put.l1]
    rw [if_neg (by omega)]
    exact hK k (by omega)
  | succ d ih =>
    intro k i hd hi hk
    obtain ⟨k, rfl⟩ : ∃ m, k = m + 1 := ⟨k - 1, by omega⟩
    simp only [octet_Put.l1]
    have hs : shr .u64 x (wrap64 (8 * (i : Int))) % 256 = dig x i := by
      rw [w64 _ (by omega)]
      unfold shr dig
      rw [show min (8 * (i : Int)).toNat IntKind.u64.bits = 8 * i by simp [IntKind.bits]; omega]
    rw [if_pos (by omega), w64 (8 * (i : Int)) (by omega), if_pos (by omega), if_pos (by rw [List.length_append, le_length]; omega), ← w64 (8 * (i : Int)) (by omega), hs, w64 ((i : Int) + 1) (by omega)]
    have := ih k (i + 1) (by omega) (by omega) (by omega)
    rw [show le (i + 1) x = le i x ++ [dig x i] by simp [le, List.range_succ], ← List.append_assoc] at this
    exact_mod_cast this
theorem put_l0 (n : Nat) (hn : n ≤ 8) (l : List Int) (d : Nat) : ∀ (j : Nat) (acc : List Int), l.length - j = d → j ≤ l.length → acc.length + 8 * d + 8 ≤ 140737488355327 → l.length ≤ 140737488355327 →
    ∃ K, ∀ k, K ≤ k → octet_Put.l0 k n acc l (l.length : Int) j = some (acc ++ puts n (l.drop j)) := by
  induction d with
  | zero =>
    intro j acc hd hj hb _
    refine ⟨1, fun k hk => ?_⟩
    obtain ⟨k, rfl⟩ : ∃ m, k = m + 1 := ⟨k - 1, by omega⟩
    simp only [octet_Put.l0]
    rw [if_neg (by omega), List.drop_of_length_le (by omega)]
    simp [puts]
  | succ d ih =>
    intro j acc hd hj hb hl
    have hlt : j < l.length := by omega
    obtain ⟨K, hK⟩ := ih (j + 1) (acc ++ le n l[j]) (by omega) (by omega) (by rw [List.length_append, le_length]; omega) hl
    refine ⟨n + K + 2, fun k hk => ?_⟩
    obtain ⟨k, rfl⟩ : ∃ m, k = m + 1 := ⟨k - 1, by omega⟩
    simp only [octet_Put.l0]
    have hrd : rd l (j : Int) = l[j] := by unfold rd; rw [Int.toNat_natCast, List.getD_eq_getElem?_getD, List.getElem?_eq_getElem hlt, Option.getD_some]
    rw [if_pos (by omega), if_pos (by omega), if_pos (by omega), hrd]
    have h0 := put_l1 n hn l[j] l j (acc ++ puts n (l.drop j)) acc K (by omega) (fun k hk => by
      rw [w64 ((j : Int) + 1) (by omega)]
      have := hK k hk
      rw [List.append_assoc] at this
      rw [List.drop_eq_getElem_cons hlt, puts_cons]
      exact_mod_cast this) n k 0 (by omega) (by omega) (by omega)
    simpa [le] using h0
theorem put_ev (n : Nat) (h1 : 1 ≤ n) (h8 : n ≤ 8) (l : List Int) (hl : l.length ≤ 1099511627776) : ∃ K, ∀ k, K ≤ k → octet_Put.f k n l = some (puts n l) := by
  obtain ⟨K, hK⟩ := put_l0 n h8 l l.length 0 [] (by omega) (by omega) (by rw [List.length_nil]; omega) (by omega)
  refine ⟨K, fun k hk => ?_⟩
  unfold octet_Put.f
  rw [may_true n (by omega)]
  simpa using hK k hk
theorem str_app (a b : List Int) : strOfNums (a ++ b) = strOfNums a ++ strOfNums b := by
  apply ByteArray.ext
  simp [strOfNums]
theorem num_l0 (n : Nat) (hn : n ≤ 8) (x0 : Int) (hx : 0 ≤ x0 ∧ x0 < 18446744073709551616) (d : Nat) : ∀ (k i : Nat), n - i = d → i ≤ n → d < k →
    paternosterref01_Num.l0 k n (x0 / 2 ^ (8 * i)) (strOfNums (le i x0)) i = some (strOfNums (le n x0)) := by
  induction d with
  | zero =>
    intro k i hd hi hk
    obtain ⟨k, rfl⟩ : ∃ m, k = m + 1 := ⟨k - 1, by omega⟩
    obtain rfl : i = n := by omega
    simp only [paternosterref01_Num.l0]
    rw [if_neg (by omega)]
  | succ d ih =>
    intro k i hd hi hk
    obtain ⟨k, rfl⟩ : ∃ m, k = m + 1 := ⟨k - 1, by omega⟩
    simp only [paternosterref01_Num.l0]
    have hp : (0 : Int) < 2 ^ (8 * i) := Int.pow_pos (by decide)
    have hq0 : 0 ≤ x0 / 2 ^ (8 * i) := Int.ediv_nonneg hx.1 (Int.le_of_lt hp)
    have hq1 : x0 / 2 ^ (8 * i) ≤ x0 := Int.ediv_le_self _ hx.1
    have e1 : Int.tmod (x0 / 2 ^ (8 * i)) 256 % 256 = dig x0 i := by
      rw [Int.tmod_eq_emod_of_nonneg hq0]; unfold dig; omega
    have e2 : IntKind.u64.wrap (Int.tdiv (x0 / 2 ^ (8 * i)) 256) = x0 / 2 ^ (8 * (i + 1)) := by
      rw [Int.tdiv_eq_ediv_of_nonneg hq0, wu64 _ (by omega), Int.ediv_ediv, if_neg (fun h => absurd h.1 (Int.not_lt.2 (Int.le_of_lt hp))), Int.sub_zero, Nat.mul_add, Int.pow_add]; rfl
    rw [if_pos (by omega), if_pos (by omega)]
    simp only [Option.bind_some]
    rw [if_pos (by rw [strOfNums_size, strOfNums_size, le_length, List.length_singleton]; omega), e1, e2, ← str_app, show le i x0 ++ [dig x0 i] = le (i + 1) x0 by simp [le, List.range_succ], w64 ((i : Int) + 1) (by omega)]
    exact_mod_cast ih k (i + 1) (by omega) (by omega) (by omega)
theorem num_ev (n : Nat) (hn : n ≤ 8) (x0 : Int) (hx : 0 ≤ x0 ∧ x0 < 18446744073709551616) : ∀ k, 10 ≤ k → paternosterref01_Num.f k n x0 = some (strOfNums (le n x0)) := by
  intro k hk
  unfold paternosterref01_Num.f
  have := num_l0 n hn x0 hx n k 0 (by omega) (by omega) (by omega)
  rw [Nat.mul_zero, Int.pow_zero, Int.ediv_one] at this
  exact this
theorem bt_str (l : List Int) (hb : ∀ x ∈ l, 0 ≤ x ∧ x ≤ 255) (i : Nat) (hi : i < l.length) : bt (strOfNums l) (i : Int) = l[i] := by
  have h := hb l[i] (List.getElem_mem hi)
  unfold bt
  rw [dif_pos (by rw [Int.toNat_natCast, strOfNums_size]; exact hi)]
  have e : ((strOfNums l)[(i : Int).toNat]'(by rw [Int.toNat_natCast, strOfNums_size]; exact hi)) = UInt8.ofNat l[i].toNat := by
    show (l.map fun n => UInt8.ofNat n.toNat).toArray[(i : Int).toNat]'_ = _
    simp
  rw [e]
  simp
  omega
theorem str_drop (l : List Int) (n : Nat) (h : n ≤ l.length) : (strOfNums l).extract n (strOfNums l).size = strOfNums (l.drop n) := by
  apply ByteArray.ext
  apply Array.ext'
  rw [strOfNums_size]
  simp [strOfNums, List.take_of_length_le]
theorem rd_nat (l : List Int) (i : Nat) (hi : i < l.length) : rd l (i : Int) = l[i] := by
  unfold rd; rw [Int.toNat_natCast, List.getD_eq_getElem?_getD, List.getElem?_eq_getElem hi, Option.getD_some]
theorem ref_get_l1 (n : Nat) (h1 : 1 ≤ n) (h8 : n ≤ 8) (l acc : List Int) (hl : n ≤ l.length) (hb : ∀ x ∈ l, 0 ≤ x ∧ x ≤ 255) (hacc : acc.length < 1000000) (K : Nat) (r : List Int × Int)
    (hK : ∀ k, K ≤ k → paternosterref01_Get.l0 k n (strOfNums (l.drop n)) (acc ++ [leNum (l.take n)]) = some r) : ∀ (i : Nat) (k : Nat), i ≤ n → i + K < k →
    paternosterref01_Get.l1 k n (strOfNums l) acc (leNum ((l.take n).drop i)) (wrap64 ((i : Int) - 1)) = some r := by
  intro i
  induction i with
  | zero =>
    intro k hi hk
    obtain ⟨k, rfl⟩ : ∃ m, k = m + 1 := ⟨k - 1, by omega⟩
    simp only [paternosterref01_Get.l1]
    rw [w64 _ (by omega), if_neg (by omega), if_pos (by omega), if_pos (by omega), if_pos (by rw [strOfNums_size]; omega), Int.toNat_natCast, str_drop _ _ hl, List.drop_zero]
    exact hK k (by omega)
  | succ i ih =>
    intro k hi hk
    obtain ⟨k, rfl⟩ : ∃ m, k = m + 1 := ⟨k - 1, by omega⟩
    have hlt : i < l.length := by omega
    have hx := hb l[i] (List.getElem_mem hlt)
    have hcons : (l.take n).drop i = l[i] :: (l.take n).drop (i + 1) := by
      rw [List.drop_eq_getElem_cons (by rw [List.length_take]; omega), List.getElem_take]
    have hr : ∀ x ∈ (l.take n).drop (i + 1), 0 ≤ x ∧ x ≤ 255 := fun x hx => hb x (List.mem_of_mem_take (List.mem_of_mem_drop hx))
    have hlt2 := leNum_lt _ hr
    have hlen : ((l.take n).drop (i + 1)).length = n - (i + 1) := by rw [List.length_drop, List.length_take]; omega
    rw [hlen] at hlt2
    have hp : (256 : Int) ^ (n - (i + 1)) ≤ 256 ^ 7 := by
      rcases (show n - (i + 1) = 0 ∨ n - (i + 1) = 1 ∨ n - (i + 1) = 2 ∨ n - (i + 1) = 3 ∨ n - (i + 1) = 4 ∨ n - (i + 1) = 5 ∨ n - (i + 1) = 6 ∨ n - (i + 1) = 7 by omega) with h | h | h | h | h | h | h | h <;> rw [h] <;> decide
    have hp7 : (256 : Int) ^ 7 = 72057594037927936 := by decide
    simp only [paternosterref01_Get.l1]
    have e : ((i + 1 : Nat) : Int) - 1 = (i : Int) := by omega
    rw [e, w64 _ (by omega), if_pos (by omega), if_pos (by omega), if_pos (by rw [strOfNums_size]; omega), bt_str l hb i hlt]
    rw [wu64 (256 * _) (by omega), wu64 (l[i]) (by omega), wu64 _ (by omega)]
    have h2 := ih k (by omega) (by omega)
    rw [hcons] at h2
    have e2 : leNum (l[i] :: (l.take n).drop (i + 1)) = 256 * leNum ((l.take n).drop (i + 1)) + l[i] := by simp only [leNum]; omega
    rw [e2] at h2
    exact h2
theorem ref_get_l0 (n : Nat) (h1 : 1 ≤ n) (h8 : n ≤ 8) (m : Nat) : ∀ (l acc : List Int), l.length = m * n → (∀ x ∈ l, 0 ≤ x ∧ x ≤ 255) → acc.length + m < 1000000 →
    ∃ K, ∀ k, K ≤ k → paternosterref01_Get.l0 k n (strOfNums l) acc = some (acc ++ gets n m l, 0) := by
  induction m with
  | zero =>
    intro l acc hl hb _
    obtain rfl : l = [] := List.eq_nil_of_length_eq_zero (by omega)
    refine ⟨1, fun k hk => ?_⟩
    obtain ⟨k, rfl⟩ : ∃ m, k = m + 1 := ⟨k - 1, by omega⟩
    simp only [paternosterref01_Get.l0]
    rw [if_pos (by simp [strOfNums, Lib.toList_data])]
    simp [gets]
  | succ m ih =>
    intro l acc hl hb ha
    have hnl : n ≤ l.length := by rw [hl, Nat.add_mul, Nat.one_mul]; omega
    obtain ⟨K, hK⟩ := ih (l.drop n) (acc ++ [leNum (l.take n)]) (by rw [List.length_drop, hl, Nat.add_mul, Nat.one_mul]; omega) (fun x hx => hb x (List.mem_of_mem_drop hx)) (by simp; omega)
    refine ⟨n + K + 2, fun k hk => ?_⟩
    obtain ⟨k, rfl⟩ : ∃ m, k = m + 1 := ⟨k - 1, by omega⟩
    simp only [paternosterref01_Get.l0]
    have hne : (strOfNums l).toList ≠ [] := by
      intro h
      have h2 : (strOfNums l).toList.length = l.length := by rw [Lib.toList_data]; simp [strOfNums]
      rw [h] at h2
      simp only [List.length_nil] at h2
      omega
    rw [if_neg hne]
    have h0 := ref_get_l1 n h1 h8 l acc hnl hb (by omega) K _ hK n k (Nat.le_refl _) (by omega)
    rw [List.drop_of_length_le (by rw [List.length_take]; omega)] at h0
    have e : acc ++ gets n (m + 1) l = acc ++ [leNum (l.take n)] ++ gets n m (l.drop n) := by
      rw [List.append_assoc]
      congr 1
      unfold gets
      rw [List.range_succ_eq_map, List.map_cons, List.map_map, Nat.zero_mul, List.drop_zero]
      show _ = _ :: _
      congr 1
      apply List.map_congr_left
      intro j _
      simp only [Function.comp, List.drop_drop]
      congr 3
      rw [Nat.succ_mul, Nat.add_comm]
    rw [e]
    exact h0
theorem ref_get_ev (n : Nat) (h1 : 1 ≤ n) (h8 : n ≤ 8) (l : List Int) (hm : (l.length : Int) % n = 0) (hb : ∀ x ∈ l, 0 ≤ x ∧ x ≤ 255) (hl : l.length < 1000000) :
    ∃ K, ∀ k, K ≤ k → paternosterref01_Get.f k n (strOfNums l) = some (gets n (l.length / n) l, 0) := by
  have hd : l.length = l.length / n * n := by
    have h2 : l.length % n = 0 := by exact_mod_cast hm
    have := Nat.div_add_mod l.length n
    rw [h2, Nat.add_zero, Nat.mul_comm] at this
    exact this.symm
  have hq : l.length / n ≤ l.length := Nat.div_le_self _ _
  obtain ⟨K, hK⟩ := ref_get_l0 n h1 h8 (l.length / n) l [] hd hb (by rw [List.length_nil]; omega)
  refine ⟨K + 1, fun k hk => ?_⟩
  obtain ⟨k, rfl⟩ : ∃ m, k = m + 1 := ⟨k - 1, by omega⟩
  unfold paternosterref01_Get.f
  rw [if_neg (by omega), decide_eq_false (by omega)]
  simp only [paternosterref01_Get.j0]
  rw [if_neg (by decide), if_neg (by omega), strOfNums_size, if_neg (by omega), hK k (by omega), List.nil_append]
def rowB (r : List Int) : List Int := le 2 (r.length : Int) ++ r
theorem str_extract (l : List Int) (i j : Nat) (h : j ≤ l.length) : (strOfNums l).extract i j = strOfNums ((l.drop i).take (j - i)) := by
  apply ByteArray.ext
  apply Array.ext'
  simp [strOfNums, List.drop_take, List.map_take, List.map_drop]
theorem str_nil_iff (l : List Int) : (strOfNums l).toList = [] ↔ l = [] := by
  rw [Lib.toList_data]; simp [strOfNums]
def refRes (acc : List ByteArray) : Option (List (List Int)) → List ByteArray × Int
  | some rows => (acc ++ rows.map strOfNums, 0)
  | none => ([], 10)
theorem ref_part_l0 (fu : Nat) : ∀ (l : List Int) (acc : List ByteArray), l.length ≤ fu → (∀ x ∈ l, 0 ≤ x ∧ x ≤ 255) → l.length ≤ 1000000 → acc.length + l.length ≤ 1000000 →
    ∃ K, ∀ k, K ≤ k → paternosterref01_Part.l0 k (strOfNums l) acc = some (refRes acc (partsF fu l)) := by
  induction fu with
  | zero =>
    intro l acc hl hb hm ha
    obtain rfl : l = [] := List.eq_nil_of_length_eq_zero (by omega)
    refine ⟨1, fun k hk => ?_⟩
    obtain ⟨k, rfl⟩ : ∃ m, k = m + 1 := ⟨k - 1, by omega⟩
    simp only [paternosterref01_Part.l0]
    rw [if_pos ((str_nil_iff _).2 rfl)]
    simp [partsF, refRes]
  | succ fu ih =>
    intro l acc hl hb hm ha
    rcases l with _ | ⟨a, _ | ⟨b, r⟩⟩
    · refine ⟨1, fun k hk => ?_⟩
      obtain ⟨k, rfl⟩ : ∃ m, k = m + 1 := ⟨k - 1, by omega⟩
      simp only [paternosterref01_Part.l0]
      rw [if_pos ((str_nil_iff _).2 rfl)]
      simp [partsF, refRes]
    · refine ⟨1, fun k hk => ?_⟩
      obtain ⟨k, rfl⟩ : ∃ m, k = m + 1 := ⟨k - 1, by omega⟩
      simp only [paternosterref01_Part.l0]
      rw [if_neg (by rw [str_nil_iff]; simp), strOfNums_size, if_pos (by simp)]
      simp [partsF, refRes]
    · have h0 := hb a (by simp)
      have h1 := hb b (by simp)
      have hb0 : bt (strOfNums (a :: b :: r)) 0 = a := by have := bt_str (a :: b :: r) hb 0 (by simp); simpa using this
      have hb1 : bt (strOfNums (a :: b :: r)) 1 = b := by have := bt_str (a :: b :: r) hb 1 (by simp); simpa using this
      have hw : wrap64 (wrap64 (2 + wrap64 a) + wrap64 (256 * wrap64 b)) = 2 + (a + 256 * b) := by
        rw [w64 a (by omega), w64 b (by omega), w64 (2 + a) (by omega), w64 (256 * b) (by omega), w64 _ (by omega)]; omega
      have hlen : (a :: b :: r).length = r.length + 2 := rfl
      by_cases hfit : (a + 256 * b).toNat ≤ r.length
      · obtain ⟨K, hK⟩ := ih (r.drop (a + 256 * b).toNat) (acc ++ [strOfNums (r.take (a + 256 * b).toNat)]) (by rw [List.length_drop]; omega) (fun x hx => hb x (by simp [List.mem_of_mem_drop hx])) (by rw [List.length_drop]; omega) (by rw [List.length_drop, List.length_append, List.length_singleton]; omega)
        refine ⟨K + 1, fun k hk => ?_⟩
        obtain ⟨k, rfl⟩ : ∃ m, k = m + 1 := ⟨k - 1, by omega⟩
        simp only [paternosterref01_Part.l0]
        rw [if_neg (by rw [str_nil_iff]; simp), hb0, hb1, hw, strOfNums_size, hlen, if_neg (by omega), if_pos (by omega), if_pos (by omega), if_neg (by omega), if_pos (by omega), if_pos (by omega), if_pos (by omega), if_pos (by omega)]
        rw [str_extract _ _ _ (by rw [hlen]; omega), str_extract _ _ _ (by rw [hlen]; omega)]
        have e1 : (2 + (a + 256 * b)).toNat = (a + 256 * b).toNat + 2 := by omega
        rw [e1]
        have e2 : List.take (r.length + 2 - ((a + 256 * b).toNat + 2)) (List.drop ((a + 256 * b).toNat + 2) (a :: b :: r)) = r.drop (a + 256 * b).toNat := by
          rw [List.drop_succ_cons, List.drop_succ_cons, List.take_of_length_le (by rw [List.length_drop]; omega)]
        have e3 : List.take ((a + 256 * b).toNat + 2 - 2) (List.drop 2 (a :: b :: r)) = r.take (a + 256 * b).toNat := by simp
        rw [e2, e3, hK k (by omega)]
        simp only [partsF]
        rw [if_pos hfit]
        rcases partsF fu (r.drop (a + 256 * b).toNat) with _ | rows <;> simp [refRes]
      · refine ⟨1, fun k hk => ?_⟩
        obtain ⟨k, rfl⟩ : ∃ m, k = m + 1 := ⟨k - 1, by omega⟩
        simp only [paternosterref01_Part.l0]
        rw [if_neg (by rw [str_nil_iff]; simp), hb0, hb1, hw, strOfNums_size, hlen, if_neg (by omega), if_pos (by omega), if_pos (by omega), if_pos (by omega)]
        simp only [partsF]
        rw [if_neg hfit]
        rfl
theorem part_ev (l : List Int) (hl : l.length ≤ 1000000) (hb : ∀ x ∈ l, 0 ≤ x ∧ x ≤ 255) : octet_Part.f l = some ((partsF l.length l).getD [], if (partsF l.length l).isSome then 0 else 10) := by
  unfold octet_Part.f; rw [if_pos ⟨by omega, hb⟩]
end Go.Proofs.YtbcijmpkmmcdeaaDoor.Pure
end
section
set_option linter.unusedVariables false
set_option linter.unusedSimpArgs false
namespace Go.Proofs.YtbcijmpkmmcdeaaDoor.Pure
open Go.RowKit Go.Proofs.YtbcijmpkmmcdeaaDoor.PAll Go.Proofs.YtbcijmpkmmcdeaaDoorW.PrintWords Go.Proofs.YtbcijmpkmmcdeaaDoorW.PrintLast Go.Proofs.YtbcijmpkmmcdeaaDoorW.PrintMore
abbrev B32 := BitVec 32
theorem xlc (a b c : B32) : a ^^^ (b ^^^ c) = b ^^^ (a ^^^ c) := by rw [← BitVec.xor_assoc, BitVec.xor_comm a b, BitVec.xor_assoc]
theorem shr_add (v : B32) (n m : Nat) : v >>> n >>> m = v >>> (n + m) := by
  apply BitVec.eq_of_toNat_eq
  simp only [BitVec.toNat_ushiftRight, Nat.shiftRight_add]
def bit1 (x : B32) : B32 := (x >>> 1) ^^^ (if x.getLsbD 0 then 0xEDB88320#32 else 0#32)
theorem bit1_xor (x y : B32) : bit1 (x ^^^ y) = bit1 x ^^^ bit1 y := by
  unfold bit1
  rw [BitVec.ushiftRight_xor_distrib, BitVec.getLsbD_xor]
  generalize x >>> 1 = a
  generalize y >>> 1 = b
  rcases x.getLsbD 0 <;> rcases y.getLsbD 0 <;> simp
  · rw [BitVec.xor_assoc]
  · rw [BitVec.xor_assoc, BitVec.xor_assoc, BitVec.xor_comm b]
  · rw [BitVec.xor_assoc, xlc _ b, BitVec.xor_self, BitVec.xor_zero]
def itb : Nat → B32 → B32
  | 0, x => x
  | n + 1, x => itb n (bit1 x)
theorem itb_add (m n : Nat) (x : B32) : itb n (itb m x) = itb (m + n) x := by
  induction m generalizing x with
  | zero => simp [itb]
  | succ m ih => rw [Nat.succ_add]; simp only [itb, ih]
theorem itb_succ (n : Nat) (x : B32) : itb (n + 1) x = bit1 (itb n x) := by
  have := itb_add n 1 x
  simp only [itb] at this
  exact this.symm
theorem bit1_low (x : B32) (h : x.getLsbD 0 = false) : bit1 x = x >>> 1 := by unfold bit1; rw [h]; simp
def one (b : Bool) : B32 := if b then 1#32 else 0#32
def Rb (x : B32) (l : List Bool) : B32 := l.foldl (fun x b => bit1 (x ^^^ one b)) x
theorem Rb_append (x : B32) (a b : List Bool) : Rb x (a ++ b) = Rb (Rb x a) b := by simp [Rb]
def bitsOf (n : Nat) (v : B32) : List Bool := (List.range n).map v.getLsbD
theorem Rb_bits (v x : B32) (n : Nat) : Rb x (bitsOf n v) = itb n (x ^^^ v) ^^^ (v >>> n) := by
  induction n with
  | zero => simp [bitsOf, Rb, itb, BitVec.xor_assoc]
  | succ n ih =>
    have e : bitsOf (n + 1) v = bitsOf n v ++ [v.getLsbD n] := by simp [bitsOf, List.range_succ]
    rw [e, Rb_append, ih, itb_succ]
    show bit1 (itb n (x ^^^ v) ^^^ v >>> n ^^^ one (v.getLsbD n)) = _
    rw [BitVec.xor_assoc, bit1_xor]
    congr 1
    have hl : (v >>> n ^^^ one (v.getLsbD n)).getLsbD 0 = false := by
      rw [BitVec.getLsbD_xor, BitVec.getLsbD_ushiftRight, Nat.add_zero]
      rcases v.getLsbD n <;> simp [one]
    rw [bit1_low _ hl, BitVec.ushiftRight_xor_distrib, shr_add]
    have hz : one (v.getLsbD n) >>> 1 = 0#32 := by rcases v.getLsbD n <;> decide
    rw [hz, BitVec.xor_zero]
def bv (x : Int) : B32 := BitVec.ofInt 32 x
theorem bits_bv (x y : Int) : Go.bits .xor .u32 x y = ((bv x ^^^ bv y).toNat : Int) := by
  have e : Go.bits .xor .u32 x y = IntKind.u32.wrap ((bv x ^^^ bv y).toNat : Int) := rfl
  rw [e, IntKind.wrap_u32]
  have := (bv x ^^^ bv y).isLt
  omega
theorem bv_nat (v : B32) : bv (v.toNat : Int) = v := by
  unfold bv; rw [BitVec.ofInt_natCast, BitVec.ofNat_toNat, BitVec.setWidth_eq]
theorem bv_mod (c : Int) : bv (c % 4294967296) = bv c := by
  apply BitVec.eq_of_toNat_eq
  unfold bv
  rw [BitVec.toNat_ofInt, BitVec.toNat_ofInt]
  congr 1
  exact Int.emod_emod_of_dvd _ (by decide)
theorem half_fin : ∀ i : Fin 16, halfL.getD i.val 0 = ((itb 4 (BitVec.ofNat 32 i.val)).toNat : Int) := by decide +kernel
theorem nib_bv (v : B32) : crcNib (v.toNat : Int) = ((itb 4 v).toNat : Int) := by
  have h15 : (v &&& 15#32).toNat = v.toNat % 16 := by rw [BitVec.toNat_and]; exact Nat.and_two_pow_sub_one_eq_mod v.toNat 4
  have hand : Go.bits .and .u32 (v.toNat : Int) 15 = ((v.toNat % 16 : Nat) : Int) := by
    have e : Go.bits .and .u32 (v.toNat : Int) 15 = IntKind.u32.wrap ((bv (v.toNat : Int) &&& 15#32).toNat : Int) := rfl
    rw [e, bv_nat, h15, IntKind.wrap_u32]; omega
  have hlt : v.toNat % 16 < 16 := Nat.mod_lt _ (by decide)
  unfold crcNib halfI
  rw [hand, Int.toNat_natCast, half_fin ⟨v.toNat % 16, hlt⟩, bits_bv, bv_nat]
  congr 2
  have hlo : BitVec.ofNat 32 (v.toNat % 16) = v &&& 15#32 := by
    apply BitVec.eq_of_toNat_eq; rw [h15, BitVec.toNat_ofNat, Nat.mod_eq_of_lt (by omega)]
  rw [hlo]
  have hdiv : bv ((v.toNat : Int) / 16) = v >>> 4 := by
    apply BitVec.eq_of_toNat_eq
    have e : ((v.toNat : Int) / 16) = ((v.toNat / 16 : Nat) : Int) := by omega
    rw [e]; unfold bv
    rw [BitVec.ofInt_natCast, BitVec.toNat_ofNat, BitVec.toNat_ushiftRight, Nat.shiftRight_eq_div_pow]
    have := v.isLt
    rw [Nat.mod_eq_of_lt (by omega)]
  rw [hdiv]
  have h0 := Rb_bits v 0#32 4
  have h1 := Rb_bits (v &&& 15#32) 0#32 4
  have hb : bitsOf 4 v = bitsOf 4 (v &&& 15#32) := by
    simp only [bitsOf]
    apply List.map_congr_left
    intro i hi
    simp only [List.mem_range] at hi
    rw [BitVec.getLsbD_and]
    rcases (show i = 0 ∨ i = 1 ∨ i = 2 ∨ i = 3 by omega) with rfl | rfl | rfl | rfl <;> simp
  have hz : (v &&& 15#32) >>> 4 = 0#32 := by
    apply BitVec.eq_of_toNat_eq
    rw [BitVec.toNat_ushiftRight, h15, Nat.shiftRight_eq_div_pow, BitVec.toNat_ofNat]
    omega
  rw [hz, BitVec.xor_zero] at h1
  rw [hb, h1, BitVec.zero_xor, BitVec.zero_xor] at h0
  rw [h0, BitVec.xor_comm, BitVec.xor_assoc, BitVec.xor_self, BitVec.xor_zero]
theorem byte_bv (v : B32) (c : Int) : crcByte (v.toNat : Int) c = ((itb 8 (v ^^^ bv c)).toNat : Int) := by
  unfold crcByte
  rw [bits_bv, bv_nat, bv_mod, nib_bv, nib_bv, itb_add]
def B (l : List Int) : List Bool := l.flatMap fun c => bitsOf 8 (bv c)
theorem B_append (a b : List Int) : B (a ++ b) = B a ++ B b := by simp [B]
theorem row_bv (l : List Int) (hb : ∀ x ∈ l, 0 ≤ x ∧ x ≤ 255) : ∀ v : B32, crcRow (v.toNat : Int) l = ((Rb v (B l)).toNat : Int) := by
  induction l with
  | nil => intro v; rfl
  | cons c l ih =>
    intro v
    have h := ih (fun x hx => hb x (List.mem_cons_of_mem _ hx)) (itb 8 (v ^^^ bv c))
    have hc := hb c (List.mem_cons_self ..)
    have hz : bv c >>> 8 = 0#32 := by
      obtain ⟨n, rfl⟩ := Int.eq_ofNat_of_zero_le hc.1
      apply BitVec.eq_of_toNat_eq
      unfold bv
      rw [BitVec.toNat_ushiftRight, BitVec.ofInt_natCast, BitVec.toNat_ofNat, Nat.shiftRight_eq_div_pow, BitVec.toNat_ofNat]
      rw [Nat.mod_eq_of_lt (by omega)]
      omega
    have e : B (c :: l) = bitsOf 8 (bv c) ++ B l := by simp [B]
    rw [e, Rb_append, Rb_bits, hz, BitVec.xor_zero, ← h]
    show crcRow (crcByte _ _) l = _
    rw [byte_bv]
theorem all_bv (rows : List (List Int)) (hb : ∀ r ∈ rows, ∀ x ∈ r, 0 ≤ x ∧ x ≤ 255) : ∀ v : B32, crcAll (v.toNat : Int) rows = ((Rb v (B rows.flatten)).toNat : Int) := by
  induction rows with
  | nil => intro v; rfl
  | cons r rows ih =>
    intro v
    have h := ih (fun x hx => hb x (List.mem_cons_of_mem _ hx)) (Rb v (B r))
    rw [List.flatten_cons, B_append, Rb_append, ← h]
    show crcAll (crcRow _ _) rows = _
    rw [row_bv r (hb r (List.mem_cons_self ..))]
def S (l : List Int) : B32 := 0xFFFFFFFF#32 ^^^ Rb 0xFFFFFFFF#32 (B l)
theorem of_ev (rows : List (List Int)) (hb : ∀ r ∈ rows, ∀ x ∈ r, 0 ≤ x ∧ x ≤ 255) (h1 : rows.length ≤ 1000000) (h2 : ∀ r ∈ rows, r.length ≤ 1000000) : crc_Of.f rows = some ((S rows.flatten).toNat : Int) := by
  unfold crc_Of.f
  rw [if_pos ⟨by omega, fun r hr => by have := h2 r hr; omega⟩]
  have h := all_bv rows hb 0xFFFFFFFF#32
  have e : ((0xFFFFFFFF#32 : B32).toNat : Int) = 4294967295 := by decide
  rw [e] at h
  rw [h, bits_bv, bv_nat]
  rfl
def sealed (l : List Int) : List Int := l ++ le 4 ((S l).toNat : Int)
theorem sealed_length (l : List Int) : (sealed l).length = l.length + 4 := by simp [sealed, le_length]
theorem sealed_range (l : List Int) (hb : ∀ x ∈ l, 0 ≤ x ∧ x ≤ 255) : ∀ x ∈ sealed l, 0 ≤ x ∧ x ≤ 255 := by
  intro x hx
  simp only [sealed, List.mem_append] at hx
  rcases hx with hx | hx
  · exact hb x hx
  · simp only [le, List.mem_map] at hx
    obtain ⟨i, _, rfl⟩ := hx
    exact dig_range _ _
theorem clone_ev (l : List Int) (h : l.length ≤ 1000000) : slices_Clone_byte_byte.f l = some l := by
  unfold slices_Clone_byte_byte.f
  simp only [Option.bind_some]
  rw [if_pos (by simp; omega), List.nil_append]
theorem seal_ev (l : List Int) (hb : ∀ x ∈ l, 0 ≤ x ∧ x ≤ 255) (hl : l.length ≤ 100000) : ∃ K, ∀ k, K ≤ k → crc_Seal.f k l = some (sealed l) := by
  have hlt := (S l).isLt
  obtain ⟨K, hK⟩ := put_ev 4 (by omega) (by omega) [((S l).toNat : Int)] (by simp)
  refine ⟨K, fun k hk => ?_⟩
  unfold crc_Seal.f
  rw [clone_ev l (by omega), of_ev [l] (by simpa using hb) (by simp) (by simp; omega)]
  simp only [Option.bind_some, List.flatten_cons, List.flatten_nil, List.append_nil]
  rw [wu64 _ (by omega)]
  have h := hK k hk
  have e : puts 4 [((S l).toNat : Int)] = le 4 ((S l).toNat : Int) := by simp [puts]
  rw [e] at h
  have h' : octet_Put.f k 4 [((S l).toNat : Int)] = some (le 4 ((S l).toNat : Int)) := h
  rw [h']
  simp only [Option.bind_some]
  rw [if_pos (by rw [le_length]; omega)]
  rfl
theorem eq_l0 (a b : List Int) (hab : a.length = b.length) (hl : a.length ≤ 1000000) (d : Nat) : ∀ (i k : Nat), a.length - i = d → i ≤ a.length → d < k →
    slices_Equal_byte_byte.l0 k a b (a.length : Int) (i : Int) = some (decide (a.drop i = b.drop i)) := by
  induction d with
  | zero =>
    intro i k hd hi hk
    obtain ⟨k, rfl⟩ : ∃ m, k = m + 1 := ⟨k - 1, by omega⟩
    simp only [slices_Equal_byte_byte.l0]
    rw [if_neg (by omega), List.drop_of_length_le (by omega), List.drop_of_length_le (by omega)]
    simp
  | succ d ih =>
    intro i k hd hi hk
    obtain ⟨k, rfl⟩ : ∃ m, k = m + 1 := ⟨k - 1, by omega⟩
    have h1 : i < a.length := by omega
    have h2 : i < b.length := by omega
    simp only [slices_Equal_byte_byte.l0]
    rw [if_pos (by omega), if_pos (by omega), if_pos (by omega), if_pos (by omega), rd_nat a i h1, rd_nat b i h2, List.drop_eq_getElem_cons h1, List.drop_eq_getElem_cons h2]
    by_cases he : a[i] = b[i]
    · rw [if_pos he, w64 _ (by omega)]
      have := ih (i + 1) k (by omega) (by omega) (by omega)
      have e : ((i + 1 : Nat) : Int) = (i : Int) + 1 := by omega
      rw [e] at this
      rw [this]
      simp only [he, List.cons.injEq, true_and]
    · rw [if_neg he]; simp only [he, List.cons.injEq, false_and, decide_false]
theorem eq_ev (a b : List Int) (hl : a.length ≤ 1000000) : ∀ k, a.length + 1 ≤ k → slices_Equal_byte_byte.f k a b = some (decide (a = b)) := by
  intro k hk
  unfold slices_Equal_byte_byte.f
  by_cases h : (a.length : Int) = (b.length : Int)
  · rw [if_pos h]
    have := eq_l0 a b (by omega) hl a.length 0 k (by omega) (by omega) (by omega)
    simpa using this
  · rw [if_neg h]
    have : a ≠ b := fun e => h (by rw [e])
    simp [this]
theorem open_short (l : List Int) (h : l.length < 4) (k : Nat) : crc_Open.f k l = some ([], false) := by
  unfold crc_Open.f
  rw [w64 _ (by omega), if_pos (by omega)]
theorem open_ev (l : List Int) (h : 4 ≤ l.length) (hb : ∀ x ∈ l, 0 ≤ x ∧ x ≤ 255) (hl : l.length ≤ 10000) :
    ∃ K, ∀ k, K ≤ k → crc_Open.f k l = some (if sealed (l.take (l.length - 4)) = l then (l.take (l.length - 4), true) else ([], false)) := by
  obtain ⟨K, hK⟩ := seal_ev (l.take (l.length - 4)) (fun x hx => hb x (List.mem_of_mem_take hx)) (by rw [List.length_take]; omega)
  refine ⟨K + l.length + 1, fun k hk => ?_⟩
  unfold crc_Open.f
  rw [w64 _ (by omega), if_neg (by omega), if_pos (by omega), if_pos (by omega), show ((l.length : Int) - 4).toNat = l.length - 4 by omega, hK k (by omega)]
  simp only [Option.bind_some]
  rw [eq_ev _ _ (by rw [sealed_length, List.length_take]; omega) k (by rw [sealed_length, List.length_take]; omega)]
  simp only [Option.bind_some]
  by_cases he : sealed (l.take (l.length - 4)) = l
  · rw [if_pos (by simpa using he), clone_ev _ (by rw [List.length_take]; omega), if_pos he]; rfl
  · rw [if_neg (by simpa using he), if_neg he]
theorem ref_half (X : B32) : (Int.tdiv (X.toNat : Int) (2 : Int)) % (4294967296 : Int) = ((X >>> 1).toNat : Int) := by
  rw [BitVec.toNat_ushiftRight, Nat.shiftRight_eq_div_pow, Int.tdiv_eq_ediv_of_nonneg (by omega)]
  have := X.isLt
  omega
theorem ref_odd (X : B32) : (Int.tmod (X.toNat : Int) (2 : Int) = (1 : Int)) ↔ X.getLsbD 0 = true := by
  have e : X.getLsbD 0 = X.toNat.testBit 0 := rfl
  rw [Int.tmod_eq_emod_of_nonneg (by omega), e, Nat.testBit_zero, decide_eq_true_iff]
  omega
theorem ref_l1 (s : ByteArray) (i : Int) (K : Nat) (r : Int) (d : Nat) : ∀ (j k : Nat) (X : B32), 8 - j = d → j ≤ 8 → d + K < k →
    (∀ k, K ≤ k → paternosterref02_Of.l0 k s ((itb d X).toNat : Int) (wrap64 (i + 1)) = some r) → paternosterref02_Of.l1 k s (X.toNat : Int) i (j : Int) = some r := by
  induction d with
  | zero =>
    intro j k X hd hj hk hK
    obtain ⟨k, rfl⟩ : ∃ m, k = m + 1 := ⟨k - 1, by omega⟩
    simp only [paternosterref02_Of.l1]
    rw [if_neg (by omega)]
    exact hK k (by omega)
  | succ d ih =>
    intro j k X hd hj hk hK
    obtain ⟨k, rfl⟩ : ∃ m, k = m + 1 := ⟨k - 1, by omega⟩
    have h := ih (j + 1) k (bit1 X) (by omega) (by omega) (by omega) hK
    have ej : (j : Int) + 1 = ((j + 1 : Nat) : Int) := by omega
    simp only [paternosterref02_Of.l1]
    rw [if_pos (by omega), ref_half, w64 _ (by omega), ej]
    by_cases ho : X.getLsbD 0 = true
    · rw [if_pos ((ref_odd X).2 ho), bits_bv, bv_nat]
      have e : bit1 X = X >>> 1 ^^^ bv 3988292384 := by unfold bit1; rw [ho]; rfl
      rw [← e]
      exact h
    · rw [if_neg (fun hc => ho ((ref_odd X).1 hc))]
      have e : bit1 X = X >>> 1 := bit1_low X (by simpa using ho)
      rw [← e]
      exact h
theorem ref_l0 (l : List Int) (hb : ∀ x ∈ l, 0 ≤ x ∧ x ≤ 255) (hl : l.length ≤ 1000000) (d : Nat) : ∀ (i : Nat), l.length - i = d → i ≤ l.length →
    ∃ K, ∀ k, K ≤ k → paternosterref02_Of.l0 k (strOfNums l) ((Rb 0xFFFFFFFF#32 (B (l.take i))).toNat : Int) (i : Int) = some ((S l).toNat : Int) := by
  induction d with
  | zero =>
    intro i hd hi
    refine ⟨1, fun k hk => ?_⟩
    obtain ⟨k, rfl⟩ : ∃ m, k = m + 1 := ⟨k - 1, by omega⟩
    simp only [paternosterref02_Of.l0]
    rw [strOfNums_size, if_neg (by omega), List.take_of_length_le (by omega)]
    unfold S
    generalize Rb 0xFFFFFFFF#32 (B l) = X
    have e : 0xFFFFFFFF#32 ^^^ X = ~~~X := by rw [BitVec.xor_comm]; exact BitVec.xor_allOnes
    rw [e, BitVec.toNat_not]
    have := X.isLt
    congr 1
    omega
  | succ d ih =>
    intro i hd hi
    have hlt : i < l.length := by omega
    obtain ⟨K, hK⟩ := ih (i + 1) (by omega) (by omega)
    refine ⟨K + 10, fun k hk => ?_⟩
    obtain ⟨k, rfl⟩ : ∃ m, k = m + 1 := ⟨k - 1, by omega⟩
    have ht : l.take (i + 1) = l.take i ++ [l[i]] := by rw [List.take_add_one, List.getElem?_eq_getElem hlt]; rfl
    have hc := hb l[i] (List.getElem_mem hlt)
    have hz : bv l[i] >>> 8 = 0#32 := by
      obtain ⟨n, hn⟩ := Int.eq_ofNat_of_zero_le hc.1
      apply BitVec.eq_of_toNat_eq
      rw [hn]
      unfold bv
      rw [BitVec.toNat_ushiftRight, BitVec.ofInt_natCast, BitVec.toNat_ofNat, Nat.shiftRight_eq_div_pow, BitVec.toNat_ofNat]
      rw [Nat.mod_eq_of_lt (by omega)]
      omega
    have hB : Rb 0xFFFFFFFF#32 (B (l.take (i + 1))) = itb 8 (Rb 0xFFFFFFFF#32 (B (l.take i)) ^^^ bv l[i]) := by
      have e1 : B [l[i]] = bitsOf 8 (bv l[i]) := by simp [B]
      rw [ht, B_append, Rb_append, e1, Rb_bits, hz, BitVec.xor_zero]
    simp only [paternosterref02_Of.l0]
    rw [strOfNums_size, if_pos (by omega), if_pos (by omega), bt_str l hb i hlt, bits_bv, bv_nat, bv_mod]
    have e0 : (0 : Int) = ((0 : Nat) : Int) := rfl
    rw [e0]
    refine ref_l1 _ _ K _ 8 0 k _ rfl (by omega) (by omega) (fun k hk => ?_)
    rw [w64 _ (by omega), ← hB, show (i : Int) + 1 = ((i + 1 : Nat) : Int) by omega]
    exact hK k hk
theorem ref_of_ev (l : List Int) (hb : ∀ x ∈ l, 0 ≤ x ∧ x ≤ 255) (hl : l.length ≤ 1000000) : ∃ K, ∀ k, K ≤ k → paternosterref02_Of.f k (strOfNums l) = some ((S l).toNat : Int) := by
  obtain ⟨K, hK⟩ := ref_l0 l hb hl l.length 0 (by omega) (by omega)
  refine ⟨K, fun k hk => ?_⟩
  exact hK k hk
theorem ref_seal_ev (l : List Int) (hb : ∀ x ∈ l, 0 ≤ x ∧ x ≤ 255) (hl : l.length ≤ 100000) : ∃ K, ∀ k, K ≤ k → paternosterref02_Seal.f k (strOfNums l) = some (strOfNums (sealed l)) := by
  obtain ⟨K, hK⟩ := ref_of_ev l hb (by omega)
  have hlt := (S l).isLt
  have hn := num_ev 4 (by omega) ((S l).toNat : Int) (by omega)
  refine ⟨K + 10, fun k hk => ?_⟩
  have h2 : paternosterref01_Num.f k 4 ((S l).toNat : Int) = some (strOfNums (le 4 ((S l).toNat : Int))) := hn k (by omega)
  unfold paternosterref02_Seal.f
  rw [hK k (by omega), Option.bind_some, wu64 _ (by omega), h2, Option.bind_some, strOfNums_size, strOfNums_size, le_length, if_pos (by omega), ← str_app]
  rfl
theorem str_inj (a b : List Int) (ha : ∀ x ∈ a, 0 ≤ x ∧ x ≤ 255) (hb : ∀ x ∈ b, 0 ≤ x ∧ x ≤ 255) (h : (strOfNums a).toList = (strOfNums b).toList) : a = b := by
  rw [Lib.toList_data, Lib.toList_data] at h
  simp only [strOfNums] at h
  have hl : a.length = b.length := by simpa using congrArg List.length h
  apply List.ext_getElem hl
  intro i h1 h2
  have hg : ((a.map fun n => UInt8.ofNat n.toNat))[i]'(by simpa using h1) = ((b.map fun n => UInt8.ofNat n.toNat))[i]'(by simpa using h2) := by simp only [h]
  simp only [List.getElem_map] at hg
  have h3 := congrArg UInt8.toNat hg
  have h4 := ha a[i] (List.getElem_mem h1)
  have h5 := hb b[i] (List.getElem_mem h2)
  simp at h3
  omega
theorem ref_open_ev (l : List Int) (h : 4 ≤ l.length) (hb : ∀ x ∈ l, 0 ≤ x ∧ x ≤ 255) (hl : l.length ≤ 10000) :
    ∃ K, ∀ k, K ≤ k → paternosterref02_Open.f k (strOfNums l) = some (if sealed (l.take (l.length - 4)) = l then (strOfNums (l.take (l.length - 4)), true) else (⟨#[]⟩, false)) := by
  have hbt : ∀ x ∈ l.take (l.length - 4), 0 ≤ x ∧ x ≤ 255 := fun x hx => hb x (List.mem_of_mem_take hx)
  obtain ⟨K, hK⟩ := ref_seal_ev (l.take (l.length - 4)) hbt (by rw [List.length_take]; omega)
  refine ⟨K, fun k hk => ?_⟩
  have hx : (strOfNums l).extract 0 (((l.length : Int) - 4)).toNat = strOfNums (l.take (l.length - 4)) := by
    rw [show ((l.length : Int) - 4).toNat = l.length - 4 by omega, str_extract _ _ _ (by omega), List.drop_zero, Nat.sub_zero]
  unfold paternosterref02_Open.f
  rw [strOfNums_size, if_neg (by omega), w64 _ (by omega), if_pos (by omega), if_pos (by omega), hx, hK k hk, Option.bind_some]
  by_cases he : sealed (l.take (l.length - 4)) = l
  · rw [if_pos he, if_pos (by rw [he])]
  · rw [if_neg he, if_neg (fun hc => he (str_inj _ _ (sealed_range _ hbt) hb hc))]
theorem ref_open_short (l : List Int) (h : l.length < 4) (k : Nat) : paternosterref02_Open.f k (strOfNums l) = some (⟨#[]⟩, false) := by
  unfold paternosterref02_Open.f
  rw [strOfNums_size, if_pos (by omega)]
end Go.Proofs.YtbcijmpkmmcdeaaDoor.Pure
end
section
namespace Go.Proofs.YtbcijmpkmmcdeaaDoor.SF
open Go.RowKit Go.Sx Go.Proofs.YtbcijmpkmmcdeaaDoor.PAll Go.Proofs.YtbcijmpkmmcdeaaDoorW.PrintWords Go.Proofs.YtbcijmpkmmcdeaaDoorW.PrintLast Go.Proofs.YtbcijmpkmmcdeaaDoorW.PrintMore
open Go.Proofs.YtbcijmpkmmcdeaaDoor.Pure (le puts le_length put_ev rowB sealed sealed_length sealed_range seal_ev)
set_option linter.unusedVariables false
set_option linter.unusedSimpArgs false
set_option maxRecDepth 100000
theorem C_at {α : Type} {k : Kd α} {W : World} {A : Option Addr} {n j : Nat} {xs : List α} {p : α} (h : Kd.C k W A n xs) (hp : xs[j]? = some p) (hn : n = xs.length) : ∃ ad cs, A = some ad ∧ k.K W p cs ∧ ∀ i u, cs[i]? = some u → W.cell? ((ad.add (j * k.sz)).add i) = some u := by
  have hj := (List.getElem?_eq_some_iff.1 hp).1
  obtain ⟨ad, e, hc⟩ := h.2.2 (by omega)
  obtain ⟨cs, hl, hK, hcell⟩ := hc j p hp
  refine ⟨ad, cs, e, hK, fun i u hu => ?_⟩
  rw [Sx.add_add]
  exact hcell i u hu
theorem C51_at {W : World} {A : Option Addr} {j : Nat} {xs : List S51} {p : S51} (h : Kd.C k51 W A xs.length xs) (hp : xs[j]? = some p) : ∃ ad, A = some ad ∧ ∀ i u, [Value.int .i64 p.f0, Value.int .i64 p.f1][i]? = some u → W.cell? ((ad.add (j * 2)).add i) = some u := by
  obtain ⟨ad, cs, e, hK, hc⟩ := C_at h hp rfl
  obtain rfl := k51_open hK
  exact ⟨ad, e, hc⟩
theorem wrap_nat {n : Nat} (h : n + 1 < 9223372036854775808) : IntKind.i64.wrap ((n : Int) + 1) = ((n + 1 : Nat) : Int) := by
  simp only [IntKind.wrap, IntKind.signed, IntKind.bits]; simp; omega
end Go.Proofs.YtbcijmpkmmcdeaaDoor.SF
end
section
namespace Go.Sx
open Go.RowKit
set_option linter.unusedVariables false
set_option linter.unusedSimpArgs false
section
variable {P : Program} {ops : Array Oper} {Q : Exit → Act → World → Prop} {w0 : World} {N : Fr} {l : List Oper} {env : Env} {hp : List Item} {o : Oper}
theorem HeapOK.lift {w w' : World} {res : List Item} (hw : HeapOK w0 hp w) (h : HeapOK w (res ++ [old w]) w') (hs : res.all (fun x => !x.sh) = true := by rfl) : HeapOK w0 (res ++ hp) w' := by
  have hb := h.toBelow (List.mem_append_right _ List.mem_cons_self)
  have h1 := hw.below hb
  have hap := List.pairwise_append.1 h.apart
  have far : ∀ x ∈ res, ∀ k, x.foot k → w.heap.size ≤ k := fun x hx k hk => by
    have hxs : x.sh = false := by simpa using List.all_eq_true.1 hs x hx
    rcases Nat.lt_or_ge k w.heap.size with h2 | h2
    · exact absurd (show (old w).foot k from h2) ((hap.2.2 x hx _ List.mem_cons_self).l hxs k hk)
    · exact h2
  refine ⟨h1.os, h1.tape, h1.output, h1.size, fun x hx => ?_, fun x hx => ?_, List.pairwise_append.2 ⟨hap.1, h1.apart, fun x hx y hy => .inr fun k hk hk2 => ?_⟩⟩
  · rcases List.mem_append.1 hx with hx | hx
    · exact h.ok x (List.mem_append_left _ hx)
    · exact h1.ok x hx
  · rcases List.mem_append.1 hx with hx | hx
    · exact h.bound x (List.mem_append_left _ hx)
    · exact h1.bound x hx
  · have := far x hx k hk
    have := hw.bound y hy k hk2
    omega
theorem HeapOK.lift1 {w w' : World} {x : Item} (hw : HeapOK w0 hp w) (h : HeapOK w [x, old w] w') (hs : x.sh = false := by rfl) : HeapOK w0 (x :: hp) w' := HeapOK.lift (res := [x]) hw h (by simp [hs])
theorem q_indexV {T E : TypeId} {x y : Operand} {n sz : Nat} {k : IntKind} {i : Int} {cs : Array Value} {v : Value} (ho : o.op = .index T x y) (hx : evE x env = some (.agg cs)) (hy : evE y env = some (.int k i)) (hT : P.underlying T = some (.array n E)) (hs : P.sizeIs E = some sz) (hm : P.manyB E = some false) (h0 : 0 ≤ i) (h1 : i < n) (hv : cs[i.toNat * sz]? = some v) : OpQ P o env w0 hp v := q_run fun a w he hh => by
  simp [execOp, ho, ev_of he hx, ev_of he hy, Instr.index, asIntOf, run_underlying hT, run_sizeOf hs, h0, h1, part, run_isAgg hm, hv]
theorem fq_ctt {fn : Func} {R : Ending → World → Prop} {t u u2 : Nat} {T : TypeId} {b i : Nat} {cs : List Value} {x x2 : Value} {T' : TypeId} {n : Nat} {e : Exit} (he : e = .ret ∨ e = .normal) (hr : fn.results = #[.cell t T, .tmp u, .tmp u2]) (hv : look t env = some (.pointer (some ⟨b, 0, none⟩))) (hx : look u env = some x) (hx2 : look u2 env = some x2) (hi : hp[i]? = some (.blk b cs T')) (hT : P.manyB T = some true) (hs : P.sizeIs T = some n) (hn : cs.length = n)
    (h : ∀ w, HeapOK w0 hp w → R (.returned (.tuple #[.agg cs.toArray, x, x2])) w) (hd0 : N.ds = [] := by rfl) : FQ (bodyPost P fn R) e w0 N env hp := fun a w hh => by
  have hrun : (results fn a.tmps).run P w = .ok (.tuple #[.agg cs.toArray, x, x2]) w := by
    have h1 := run_loadCells_list (P := P) w ⟨b, 0, none⟩ cs (readsAll hi w hh.heap)
    rw [hn] at h1
    have hg : ∀ (t : Nat) (v : Value), look t env = some v → a.tmps[t]?.getD undef = v := fun t v ht => by rw [← Array.getD_eq_getD_getElem?]; exact hh.env t v ht
    simp [results, hr, hg t _ hv, hg u _ hx, hg u2 _ hx2, asAddr, loadVar, run_isAgg hT, run_sizeOf hs, h1]
  rcases he with rfl | rfl
  · exact bodyPost_ret hrun (hh.defers.trans hd0) (h w hh.heap)
  · exact bodyPost_end hrun (hh.defers.trans hd0) (h w hh.heap)
end
end Go.Sx
end
