/- SenseFlickers: for every sense, however many ticks, what isn't so for too few ticks on end changes nothing; what is changes it just then. No condition. -/
import Derived.Test.YtjabjihbefikkaaPSenseFlickersx2
import Derived.OpenShut
namespace Go.Proofs.Ytjabjihbefikkaa.Pure
open Go.RowKit Go.Proofs.Ytjabjihbefikkaa.PSenseFlickers Go.Proofs.YtjabjihbefikkaaW.PrintWords Go.Proofs.YtjabjihbefikkaaW.PrintLast

theorem flk_wrap (n : Int) (h : -9223372036854775808 ≤ n ∧ n ≤ 9223372036854775807) : wrap64 n = n := by unfold wrap64; omega

theorem flk_same (b : Bool) (c m : Int) : sense_Sense_Step.f b c b m = some (b, 0, false) := by
  unfold sense_Sense_Step.f; simp

theorem flk_less (b : Bool) (c m : Int) (h0 : 0 ≤ c) (h1 : c + 1 < m) (hm : m ≤ 1000) : sense_Sense_Step.f b c (!b) m = some (b, c + 1, false) := by
  unfold sense_Sense_Step.f
  rw [flk_wrap (c + 1) (by omega), if_neg (by cases b <;> simp), if_neg (by omega)]

theorem flk_last (b : Bool) (c m : Int) (h0 : 0 ≤ c) (h1 : c + 1 = m) (hm : m ≤ 1000) : sense_Sense_Step.f b c (!b) m = some (!b, 0, true) := by
  unfold sense_Sense_Step.f
  rw [flk_wrap (c + 1) (by omega), if_neg (by cases b <;> simp), if_pos (by omega)]

theorem flk_awake : paternosterlaw18_awake.f = some true := by decide +kernel

theorem flk_l2 (b : Bool) (m : Int) (h0 : 0 < m) (h1 : m ≤ 1000) (d : Nat) : ∀ (k : Nat) (i : Int), 0 ≤ i → i < m → m - i = d → d + 1 < k →
    paternosterlaw18_SenseFlickers.l2 k b m i b i = some true := by
  induction d with
  | zero => intro k i h2 h3 hd hk; omega
  | succ d ih =>
    intro k i h2 h3 hd hk
    obtain ⟨k, rfl⟩ : ∃ m, k = m + 1 := ⟨k - 1, by omega⟩
    simp only [paternosterlaw18_SenseFlickers.l2]
    rw [if_pos h3]
    by_cases hi : i + 1 < m
    · rw [flk_less b i m h2 hi h1]
      simp only [Option.bind_some]
      rw [if_neg (by rw [flk_wrap (m - 1) (by omega)]; simp; omega), flk_wrap (i + 1) (by omega)]
      exact ih k (i + 1) (by omega) (by omega) (by omega) (by omega)
    · rw [flk_last b i m h2 (by omega) h1]
      simp only [Option.bind_some]
      rw [if_neg (by rw [flk_wrap (m - 1) (by omega)]; simp; omega), flk_wrap (i + 1) (by omega)]
      obtain ⟨k, rfl⟩ : ∃ m, k = m + 1 := ⟨k - 1, by omega⟩
      simp only [paternosterlaw18_SenseFlickers.l2]
      rw [if_neg (by omega), if_pos (by cases b <;> simp)]; simp

/-- One run: the inner rounds, then the calm step, and the next run. -/
theorem flk_l1 (b : Bool) (l : List Int) (m : Int) (i : Int) (n : Int) (h0 : 0 < m) (h1 : m ≤ 1000) (hn : n < m) (hl : l.length ≤ 60) (hi : 0 ≤ i) (hi2 : i < l.length) (K : Nat)
    (hK : ∀ k, K ≤ k → paternosterlaw18_SenseFlickers.l0 k b l m (i + 1) b 0 = some true) (d : Nat) : ∀ (k : Nat) (j : Int), 0 ≤ j → (j ≤ n ∨ j = 0) → n - j ≤ d → d + K < k →
    paternosterlaw18_SenseFlickers.l1 k b l m i n j b j = some true := by
  induction d with
  | zero =>
    intro k j h2 h3 hd hk
    obtain ⟨k, rfl⟩ : ∃ m, k = m + 1 := ⟨k - 1, by omega⟩
    simp only [paternosterlaw18_SenseFlickers.l1]
    rw [if_neg (by omega), flk_same]
    simp only [Option.bind_some]
    rw [if_neg (by simp), if_neg (by simp), flk_wrap (i + 1) (by omega)]
    exact hK k (by omega)
  | succ d ih =>
    intro k j h2 h3 hd hk
    by_cases hj : j < n
    · obtain ⟨k, rfl⟩ : ∃ m, k = m + 1 := ⟨k - 1, by omega⟩
      simp only [paternosterlaw18_SenseFlickers.l1]
      rw [if_pos hj, flk_less b j m h2 (by omega) h1]
      simp only [Option.bind_some]
      rw [if_neg (by simp), if_neg (by simp), flk_wrap (j + 1) (by omega)]
      exact ih k (j + 1) (by omega) (by omega) (by omega) (by omega)
    · obtain ⟨k, rfl⟩ : ∃ m, k = m + 1 := ⟨k - 1, by omega⟩
      simp only [paternosterlaw18_SenseFlickers.l1]
      rw [if_neg hj, flk_same]
      simp only [Option.bind_some]
      rw [if_neg (by simp), if_neg (by simp), flk_wrap (i + 1) (by omega)]
      exact hK k (by omega)

theorem flk_l0 (b : Bool) (l : List Int) (m : Int) (h0 : 0 < m) (h1 : m ≤ 1000) (hl : l.length ≤ 60) (hw : ∀ x ∈ l, 0 ≤ x ∧ x ≤ 255) (d : Nat) : ∀ (i : Int), 0 ≤ i → (l.length : Int) - i ≤ d →
    ∃ K, ∀ k, K ≤ k → paternosterlaw18_SenseFlickers.l0 k b l m i b 0 = some true := by
  induction d with
  | zero =>
    intro i h2 hd
    refine ⟨m.toNat + 3, fun k hk => ?_⟩
    obtain ⟨k, rfl⟩ : ∃ m, k = m + 1 := ⟨k - 1, by omega⟩
    simp only [paternosterlaw18_SenseFlickers.l0]
    rw [if_neg (by omega)]
    exact flk_l2 b m h0 h1 m.toNat k 0 (by omega) (by omega) (by omega) (by omega)
  | succ d ih =>
    intro i h2 hd
    by_cases hi : i < (l.length : Int)
    · obtain ⟨K, hK⟩ := ih (i + 1) (by omega) (by omega)
      have hr : 0 ≤ rd l i ∧ rd l i ≤ 255 := by
        unfold rd
        rw [List.getD_eq_getElem?_getD, List.getElem?_eq_getElem (by omega), Option.getD_some]
        exact hw _ (List.getElem_mem _)
      have hx : Int.tmod (wrap64 (rd l i)) m = rd l i % m := by
        rw [flk_wrap (rd l i) (by omega), Int.tmod_eq_emod_of_nonneg hr.1]
      refine ⟨K + m.toNat + 3, fun k hk => ?_⟩
      obtain ⟨k, rfl⟩ : ∃ m, k = m + 1 := ⟨k - 1, by omega⟩
      simp only [paternosterlaw18_SenseFlickers.l0]
      rw [if_pos hi, if_pos h2, if_neg (by omega), hx]
      have hlt := Int.emod_lt_of_pos (rd l i) h0
      exact flk_l1 b l m i _ h0 h1 hlt hl h2 hi K hK m.toNat k 0 (by omega) (by omega) (by omega) (by omega)
    · refine ⟨m.toNat + 3, fun k hk => ?_⟩
      obtain ⟨k, rfl⟩ : ∃ m, k = m + 1 := ⟨k - 1, by omega⟩
      simp only [paternosterlaw18_SenseFlickers.l0]
      rw [if_neg hi]
      exact flk_l2 b m h0 h1 m.toNat k 0 (by omega) (by omega) (by omega) (by omega)

theorem SenseFlickers (a0 : Bool) (a1 : Int) (l2 : List Int) (w1 : (Lit.int .u8 a1).wf = true) (w2 : ∀ x ∈ l2, (Lit.int .u8 x).wf = true) : ∃ k, paternosterlaw18_SenseFlickers.f k a0 a1 l2 = some true := by
  have h1 : 0 ≤ a1 ∧ a1 ≤ 255 := Go.bounds_u8 w1
  have hm : wrap64 ((wrap64 (Int.tmod a1 30)) + 1) = a1 % 30 + 1 := by
    rw [Int.tmod_eq_emod_of_nonneg h1.1, flk_wrap (a1 % 30) (by omega), flk_wrap _ (by omega)]
  by_cases hl : (l2.length : Int) > 60
  · refine ⟨0, ?_⟩
    unfold paternosterlaw18_SenseFlickers.f
    rw [flk_awake]
    simp only [Option.bind_some, if_true]
    rw [if_pos hl]
  · obtain ⟨K, hK⟩ := flk_l0 a0 l2 (a1 % 30 + 1) (by omega) (by omega) (by omega) (fun x hx => Go.bounds_u8 (w2 x hx)) l2.length 0 (by omega) (by omega)
    refine ⟨K, ?_⟩
    unfold paternosterlaw18_SenseFlickers.f
    rw [flk_awake]
    simp only [Option.bind_some, if_true]
    rw [if_neg hl, hm]
    exact hK K (Nat.le_refl _)

end Go.Proofs.Ytjabjihbefikkaa.Pure
