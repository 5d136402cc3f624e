/- OctetSizes, the plain law: sizes that may not be put nothing, and nothing is got by them. No condition. -/
import Derived.Test.YtdlmnaoaninkaaaPAllx19
import Derived.Test.YtdlmnaoaninkaaaOct
import Derived.OpenShut
set_option linter.unusedVariables false
set_option linter.unusedSimpArgs false
namespace Go.Proofs.Ytdlmnaoaninkaaa.Pure
open Go.RowKit Go.Proofs.Ytdlmnaoaninkaaa.PAll Go.Proofs.YtdlmnaoaninkaaaW.PrintWords Go.Proofs.YtdlmnaoaninkaaaW.PrintLast Go.Proofs.YtdlmnaoaninkaaaW.PrintMore

theorem get_bad (a0 : Int) (h : a0 < 1 ∨ 8 < a0) (l : List Int) : octet_Get.f a0 l = some ([], 1) := by unfold octet_Get.f; rw [if_pos h]
theorem get_short (n : Nat) (h1 : 1 ≤ n) (h8 : n ≤ 8) (l : List Int) (h : (l.length : Int) % n ≠ 0) : octet_Get.f n l = some ([], 10) := by unfold octet_Get.f; rw [if_neg (by omega), if_pos h]
theorem get_good (n : Nat) (h1 : 1 ≤ n) (h8 : n ≤ 8) (l : List Int) (h : (l.length : Int) % n = 0) (hl : l.length ≤ 1099511627776) (hb : ∀ x ∈ l, 0 ≤ x ∧ x ≤ 255) : octet_Get.f n l = some (gets n (l.length / n) l, 0) := by
  unfold octet_Get.f; rw [if_neg (by omega), if_neg (by omega), if_pos ⟨hl, hb⟩, Int.toNat_natCast]
theorem gets_length (n m : Nat) (l : List Int) : (gets n m l).length = m := by simp [gets]

theorem sizes_j0 (x0 : Int) (l1 l2 : List Int) (h1 : l1.length ≤ 60) (h2 : l2.length ≤ 300) (hb : ∀ x ∈ l2, 0 ≤ x ∧ x ≤ 255) : ∃ k, paternosterlaw01_OctetSizes.j0 k x0 l1 l2 false = some true := by
  by_cases hx : x0 < 1 ∨ 8 < x0
  · refine ⟨1, ?_⟩
    simp only [paternosterlaw01_OctetSizes.j0]
    rw [if_neg (by simp), put_none x0 hx, get_bad x0 hx]
    simp only [Option.bind_some, List.length_nil]
    rcases hx with hx | hx
    · rw [if_pos hx]; simp
    · rw [if_neg (by omega), if_pos (by omega)]; simp
  · obtain ⟨n, rfl⟩ := Int.eq_ofNat_of_zero_le (show 0 ≤ x0 by omega)
    obtain ⟨K, hK⟩ := put_ev n (by omega) (by omega) l1 (by omega)
    have hm8 : n * l1.length ≤ 8 * 60 := Nat.mul_le_mul (by omega) h1
    refine ⟨K + 1, ?_⟩
    simp only [paternosterlaw01_OctetSizes.j0]
    rw [if_neg (by simp), hK K (Nat.le_refl _)]
    simp only [Option.bind_some]
    have hw : wrap64 ((n : Int) * (l1.length : Int)) = ((n * l1.length : Nat) : Int) := by
      rw [show ((n : Int) * (l1.length : Int)) = ((n * l1.length : Nat) : Int) by simp]; exact w64 _ (by omega)
    by_cases hd : (l2.length : Int) % n = 0
    · rw [get_good n (by omega) (by omega) l2 hd (by omega) hb]
      simp only [Option.bind_some]
      have hdm : l2.length / n * n ≤ l2.length := Nat.div_mul_le_self _ _
      have hw2 : wrap64 (((l2.length / n : Nat) : Int) * (n : Int)) = ((l2.length / n * n : Nat) : Int) := by
        rw [show (((l2.length / n : Nat) : Int) * (n : Int)) = ((l2.length / n * n : Nat) : Int) by simp]; exact w64 _ (by omega)
      rw [if_neg (by omega), if_neg (by omega), if_pos (by rw [hw, puts_length]), if_neg (by omega), if_pos (by simp [hd]), gets_length, hw2]
      simp only [Option.some.injEq, decide_eq_true_eq]
      omega
    · rw [get_short n (by omega) (by omega) l2 hd]
      simp only [Option.bind_some]
      rw [if_neg (by omega), if_neg (by omega), if_pos (by rw [hw, puts_length]), if_neg (by omega), if_pos (by simp [hd]), List.length_nil]
      rw [show wrap64 (((0 : Nat) : Int) * (n : Int)) = 0 by rw [show (((0 : Nat) : Int) * (n : Int)) = 0 by simp]; exact w64 0 (by omega)]
      simp

theorem sizes_big (x0 : Int) (l1 l2 : List Int) : paternosterlaw01_OctetSizes.j0 1 x0 l1 l2 true = some true := by
  simp only [paternosterlaw01_OctetSizes.j0, if_true]

theorem OctetSizes (a0 : Int) (l1 l2 : List Int) (w2 : ∀ x ∈ l2, (Lit.int .u8 x).wf = true) : ∃ k, paternosterlaw01_OctetSizes.f k a0 l1 l2 = some true := by
  by_cases h1 : (l1.length : Int) > 60
  · refine ⟨1, ?_⟩
    unfold paternosterlaw01_OctetSizes.f paternosterlaw01_awake.f
    simp only [Option.bind_some, if_true]
    rw [if_pos h1]; exact sizes_big a0 l1 l2
  · by_cases h2 : (l2.length : Int) > 300
    · refine ⟨1, ?_⟩
      unfold paternosterlaw01_OctetSizes.f paternosterlaw01_awake.f
      simp only [Option.bind_some, if_true]
      rw [if_neg h1, decide_eq_true h2]; exact sizes_big a0 l1 l2
    · obtain ⟨k, hk⟩ := sizes_j0 a0 l1 l2 (by omega) (by omega) (fun x hx => Go.bounds_u8 (w2 x hx))
      refine ⟨k, ?_⟩
      unfold paternosterlaw01_OctetSizes.f paternosterlaw01_awake.f
      simp only [Option.bind_some, if_true]
      rw [if_neg h1, decide_eq_false h2]; exact hk
end Go.Proofs.Ytdlmnaoaninkaaa.Pure
