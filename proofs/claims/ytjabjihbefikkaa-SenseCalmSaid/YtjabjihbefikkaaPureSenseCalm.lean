/- SenseCalm: for every sense and every number of ticks, what stays as it is taken to be changes nothing. No condition. -/
import Derived.Test.YtjabjihbefikkaaPSenseCalmx2
import Derived.OpenShut
namespace Go.Proofs.Ytjabjihbefikkaa.Pure
open Go.RowKit Go.Proofs.Ytjabjihbefikkaa.PSenseCalm Go.Proofs.YtjabjihbefikkaaW.PrintWords Go.Proofs.YtjabjihbefikkaaW.PrintLast

theorem calm_wrap (n : Int) (h : -9223372036854775808 ≤ n ∧ n ≤ 9223372036854775807) : wrap64 n = n := by unfold wrap64; omega

theorem calm_step (b : Bool) (c m : Int) : sense_Sense_Step.f b c b m = some (b, 0, false) := by
  unfold sense_Sense_Step.f; simp

theorem calm_awake : paternosterlaw18_awake.f = some true := by decide +kernel

theorem calm_loop (b : Bool) (z m : Int) (h0 : 0 ≤ z) (d : Nat) : ∀ (k : Nat) (i c : Int), 0 ≤ i → i ≤ 300 → 300 - i ≤ d → d < k →
    paternosterlaw18_SenseCalm.l0 k b z m i b c = some true := by
  have hz : wrap64 (Int.tmod z 300) = z % 300 := by
    rw [Int.tmod_eq_emod_of_nonneg h0]; exact calm_wrap _ (by omega)
  induction d with
  | zero =>
    intro k i c h2 h3 hd hk
    obtain ⟨k, rfl⟩ : ∃ m, k = m + 1 := ⟨k - 1, by omega⟩
    simp only [paternosterlaw18_SenseCalm.l0]
    rw [hz, if_neg (by omega)]; simp
  | succ d ih =>
    intro k i c h2 h3 hd hk
    obtain ⟨k, rfl⟩ : ∃ m, k = m + 1 := ⟨k - 1, by omega⟩
    simp only [paternosterlaw18_SenseCalm.l0]
    rw [hz]
    by_cases hi : i < z % 300
    · rw [if_pos hi, calm_step]
      simp only [Option.bind_some]
      rw [if_neg (by simp), if_neg (by simp), calm_wrap (i + 1) (by omega)]
      exact ih k (i + 1) 0 (by omega) (by omega) (by omega) (by omega)
    · rw [if_neg hi]; simp

theorem SenseCalm : paternosterlaw18_SenseCalm.Pure := by
  intro a0 a1 a2 w1 w2
  refine ⟨400, ?_⟩
  have h1 : 0 ≤ a1 ∧ a1 ≤ 255 := Go.bounds_u8 w1
  have h2 : 0 ≤ a2 ∧ a2 ≤ 65535 := Go.bounds_u16 w2
  have hm : wrap64 ((wrap64 (Int.tmod a1 200)) + 1) = a1 % 200 + 1 := by
    rw [Int.tmod_eq_emod_of_nonneg h1.1, calm_wrap (a1 % 200) (by omega), calm_wrap _ (by omega)]
  unfold paternosterlaw18_SenseCalm.f
  rw [calm_awake]
  simp only [Option.bind_some, if_true]
  rw [hm, if_neg (by omega)]
  exact calm_loop a0 a2 _ h2.1 301 400 0 _ (by omega) (by omega) (by omega) (by omega)

end Go.Proofs.Ytjabjihbefikkaa.Pure
