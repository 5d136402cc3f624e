-- Written by myprint.py: the kit's print.py over this seat's translation, with contracts of my own.
import Derived.Test.YtdlmnaoaninkaaaPAllx0
namespace Go.Proofs.Ytdlmnaoaninkaaa.PAll
open Go.RowKit Go.Proofs.YtdlmnaoaninkaaaW.PrintWords Go.Proofs.YtdlmnaoaninkaaaW.PrintLast Go.Proofs.YtdlmnaoaninkaaaW.PrintMore
attribute [local go_sem] max2_int min2_int max_two min_two max_three min_three max_four min_four   -- for this text's walks alone
set_option linter.unusedVariables false
set_option linter.unusedSimpArgs false

/-! ### paternosterref01_Row: function 17 -/
def paternosterref01_Row.f (a0 : ByteArray) : Option (ByteArray) := if (a0.size : Int) > 65535 then (if 0 ≤ 65535 then (if 65535 ≤ (a0.size : Int) then ((some (([((a0.extract 0 65535).size : Int) % 256, (wrap64 (((a0.extract 0 65535).size : Int) / 256)) % 256] : List Int) : List Int)).bind fun y149 => (if (strOfNums y149).size + (a0.extract 0 65535).size ≤ 9223372036854775807 then (some ((strOfNums y149) ++ (a0.extract 0 65535))) else (none))) else (none)) else (none)) else ((some (([(a0.size : Int) % 256, (wrap64 ((a0.size : Int) / 256)) % 256] : List Int) : List Int)).bind fun y152 => (if (strOfNums y152).size + a0.size ≤ 9223372036854775807 then (some ((strOfNums y152) ++ a0)) else (none)))
set_option maxHeartbeats 8000000 in
set_option maxRecDepth 100000 in
theorem paternosterref01_Row.calls (a0 : ByteArray) (r : ByteArray) (w : World) (h : paternosterref01_Row.f a0 = some r) :
    Calls Try.prog 17 #[.string a0] w fun e w' => e = .returned (.string r) ∧ Below w.heap.size w w' := by
  have HB := Aside0.mk (Below.refl w.heap.size w)
  have H : (if (a0.size : Int) > 65535 then (if 0 ≤ 65535 then (if 65535 ≤ (a0.size : Int) then ((some (([((a0.extract 0 65535).size : Int) % 256, (wrap64 (((a0.extract 0 65535).size : Int) / 256)) % 256] : List Int) : List Int)).bind fun y149 => (if (strOfNums y149).size + (a0.extract 0 65535).size ≤ 9223372036854775807 then (some ((strOfNums y149) ++ (a0.extract 0 65535))) else (none))) else (none)) else (none)) else ((some (([(a0.size : Int) % 256, (wrap64 ((a0.size : Int) / 256)) % 256] : List Int) : List Int)).bind fun y152 => (if (strOfNums y152).size + a0.size ≤ 9223372036854775807 then (some ((strOfNums y152) ++ a0)) else (none)))) = some r := h
  clear h
  by_cases c2 : (a0.size : Int) > 65535
  · rw [if_pos c2] at H
    have c2b0 : decide (65535 < (a0.size : Int)) = true := decide_eq_true c2
    have c2b1 : decide (65535 < a0.size) = true := decide_eq_true (by omega)
    clear c2
    by_cases c3 : 0 ≤ 65535
    · rw [if_pos c3] at H
      have c3b0 := eq_true c3
      have c3b1 : decide (0 ≤ 65535) = true := decide_eq_true c3
      clear c3
      by_cases c4 : 65535 ≤ (a0.size : Int)
      · rw [if_pos c4] at H
        have c4b0 := eq_true c4
        have c4b1 : decide (65535 ≤ (a0.size : Int)) = true := decide_eq_true c4
        clear c4
        obtain ⟨y149, hy149⟩ : ∃ y_ : List Int, y_ = (([((a0.extract 0 65535).size : Int) % 256, (wrap64 (((a0.extract 0 65535).size : Int) / 256)) % 256] : List Int)) := ⟨_, rfl⟩
        replace H : (if (strOfNums y149).size + (a0.extract 0 65535).size ≤ 9223372036854775807 then (some ((strOfNums y149) ++ (a0.extract 0 65535))) else (none)) = some r := by first | (rw [hy149]; with_reducible exact H) | (have H2_ := (Option.bind_some _ _).symm.trans H; rw [hy149]; with_reducible exact H2_) | (have H2_ := (Option.bind_some _ _).symm.trans H; with_reducible exact H2_) | with_reducible exact H | (rw [hy149]; exact H) | exact H
        have Ny149 : Aside0 (y149 = ([((min 65535 a0.size : Nat) : Int) % 256, ((min 65535 a0.size : Nat) : Int) / 256] : List Int)) := ⟨hy149.trans (by have e_ : (a0.extract 0 65535).size = min 65535 a0.size := (by rw [ByteArray.size_extract]; omega); rw [e_, show wrap64 (((min 65535 a0.size : Nat) : Int) / 256) = ((min 65535 a0.size : Nat) : Int) / 256 from by (unfold wrap64; omega)]; congr 2; omega)⟩
        clear hy149
        by_cases c5 : (strOfNums y149).size + (a0.extract 0 65535).size ≤ 9223372036854775807
        · rw [if_pos c5] at H
          have c5b0 := eq_true c5
          have c5b1 : decide ((strOfNums y149).size + (a0.extract 0 65535).size ≤ 9223372036854775807) = true := decide_eq_true c5
          try have c5b2 : (9223372036854775807 < (strOfNums y149).size + (a0.extract 0 65535).size) = False := eq_false (Nat.not_lt.2 c5)
          obtain rfl := Option.some.inj H
          go_enter Try.func17, Try.ntmps17
          go_wp2_with (first | ((with_reducible refine gate_dst (N := 16) rfl ?_); refine Kd.R_lit (Kd.int .u8) _ 5 ?hg (N := 16) ?hd (xs := ([((min 65535 a0.size : Nat) : Int) % 256, ((min 65535 a0.size : Nat) : Int) / 256] : List Int)) (inner := [.int .u8 (((min 65535 a0.size : Nat) : Int) % 256), .int .u8 (((min 65535 a0.size : Nat) : Int) / 256)]) (ok := fun _ => True) (okp := fun _ => True) ?hr ?hp (fun _ hk => hk) trivial (Below.refl _ _) (Nat.le_refl _) (by simp) ?_; (case hd => rfl); (case hg => rfl); (case hr => first | (go_simp; done) | (go_simp; rfl)); (case hp => exact (Reps.one (show Kd.M (Kd.int .u8) _ _ _ (((min 65535 a0.size : Nat) : Int) % 256) [.int .u8 (((min 65535 a0.size : Nat) : Int) % 256)] from rfl) (Reps.one (show Kd.M (Kd.int .u8) _ _ _ (((min 65535 a0.size : Nat) : Int) / 256) [.int .u8 (((min 65535 a0.size : Nat) : Int) / 256)] from rfl) (Reps.none _ _)))); intro v150 w6 ho7 hb hg_ hnew_; clear hg_ hnew_; (first | rw [← Ny149.out] at ho7 | (simp only [Int.reduceToNat] at ho7; rw [← Ny149.out] at ho7)); have n0_ := Aside0.mk (Kd.R_lower ho7 (below_size (by repeat (first | (with_reducible first | exact HB.out | apply below_alloc | apply pw_below_drewN | apply below_drew1) | exact HB.out)))); have n1_ := Aside0.mk (below_step (by repeat (first | (with_reducible first | exact HB.out | apply below_alloc | apply pw_below_drewN | apply below_drew1) | exact HB.out)) hb); clear HB; have HO151 := n0_; have HB := n1_; clear n0_ n1_; clear hb ho7; have hcv8 := own_string (P := Try.prog) Try.underlying26 Try.underlying5 Try.underlying9 (Kd.own_of_R HO151.out)))
          go_ret
          exact ⟨by first | rfl | (simp [errW_none, errW_some] <;> rfl) | (simp [*, errW_none, errW_some] <;> rfl), by repeat (first | (with_reducible first | exact HB.out | apply below_alloc | apply pw_below_drewN | apply below_drew1) | exact HB.out)⟩
        · rw [if_neg c5] at H
          exact absurd H (by simp)
      · rw [if_neg c4] at H
        exact absurd H (by simp)
    · rw [if_neg c3] at H
      exact absurd H (by simp)
  · rw [if_neg c2] at H
    have c2b0 : decide (65535 < (a0.size : Int)) = false := decide_eq_false c2
    have c2b1 : decide (65535 < a0.size) = false := decide_eq_false (by omega)
    clear c2
    obtain ⟨y152, hy152⟩ : ∃ y_ : List Int, y_ = (([(a0.size : Int) % 256, (wrap64 ((a0.size : Int) / 256)) % 256] : List Int)) := ⟨_, rfl⟩
    replace H : (if (strOfNums y152).size + a0.size ≤ 9223372036854775807 then (some ((strOfNums y152) ++ a0)) else (none)) = some r := by first | (rw [hy152]; with_reducible exact H) | (have H2_ := (Option.bind_some _ _).symm.trans H; rw [hy152]; with_reducible exact H2_) | (have H2_ := (Option.bind_some _ _).symm.trans H; with_reducible exact H2_) | with_reducible exact H | (rw [hy152]; exact H) | exact H
    have Ny152 : Aside0 (y152 = ([(a0.size : Int) % 256, (a0.size : Int) / 256 % 256] : List Int)) := ⟨hy152.trans (by have e_ := of_decide_eq_false c2b0; rw [show wrap64 ((a0.size : Int) / 256) = (a0.size : Int) / 256 from by (unfold wrap64; omega)])⟩
    clear hy152
    by_cases c9 : (strOfNums y152).size + a0.size ≤ 9223372036854775807
    · rw [if_pos c9] at H
      have c9b0 := eq_true c9
      have c9b1 : decide ((strOfNums y152).size + a0.size ≤ 9223372036854775807) = true := decide_eq_true c9
      try have c9b2 : (9223372036854775807 < (strOfNums y152).size + a0.size) = False := eq_false (Nat.not_lt.2 c9)
      obtain rfl := Option.some.inj H
      go_enter Try.func17, Try.ntmps17
      go_wp2_with (first | ((with_reducible refine gate_dst (N := 16) rfl ?_); refine Kd.R_lit (Kd.int .u8) _ 5 ?hg (N := 16) ?hd (xs := ([(a0.size : Int) % 256, (a0.size : Int) / 256 % 256] : List Int)) (inner := [.int .u8 ((a0.size : Int) % 256), .int .u8 ((a0.size : Int) / 256 % 256)]) (ok := fun _ => True) (okp := fun _ => True) ?hr ?hp (fun _ hk => hk) trivial (Below.refl _ _) (Nat.le_refl _) (by simp) ?_; (case hd => rfl); (case hg => rfl); (case hr => first | (go_simp; done) | (go_simp; rfl)); (case hp => exact (Reps.one (show Kd.M (Kd.int .u8) _ _ _ ((a0.size : Int) % 256) [.int .u8 ((a0.size : Int) % 256)] from rfl) (Reps.one (show Kd.M (Kd.int .u8) _ _ _ ((a0.size : Int) / 256 % 256) [.int .u8 ((a0.size : Int) / 256 % 256)] from rfl) (Reps.none _ _)))); intro v153 w10 ho11 hb hg_ hnew_; clear hg_ hnew_; (first | rw [← Ny152.out] at ho11 | (simp only [Int.reduceToNat] at ho11; rw [← Ny152.out] at ho11)); have n0_ := Aside0.mk (Kd.R_lower ho11 (below_size (by repeat (first | (with_reducible first | exact HB.out | apply below_alloc | apply pw_below_drewN | apply below_drew1) | exact HB.out)))); have n1_ := Aside0.mk (below_step (by repeat (first | (with_reducible first | exact HB.out | apply below_alloc | apply pw_below_drewN | apply below_drew1) | exact HB.out)) hb); clear HB; have HO154 := n0_; have HB := n1_; clear n0_ n1_; clear hb ho11; have hcv12 := own_string (P := Try.prog) Try.underlying26 Try.underlying5 Try.underlying9 (Kd.own_of_R HO154.out)))
      go_ret
      exact ⟨by first | rfl | (simp [errW_none, errW_some] <;> rfl) | (simp [*, errW_none, errW_some] <;> rfl), by repeat (first | (with_reducible first | exact HB.out | apply below_alloc | apply pw_below_drewN | apply below_drew1) | exact HB.out)⟩
    · rw [if_neg c9] at H
      exact absurd H (by simp)

end Go.Proofs.Ytdlmnaoaninkaaa.PAll
