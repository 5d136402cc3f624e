/- SenseOther, the plain law: one that is told the other thing each time takes for bad what the first takes for good. No condition. -/
import Derived.Test.YtjabjihbefikkaaPSenseOtherx3
import Derived.OpenShut
namespace Go.Proofs.Ytjabjihbefikkaa.Pure
open Go.RowKit Go.Proofs.Ytjabjihbefikkaa.PSenseOther Go.Proofs.YtjabjihbefikkaaW.PrintWords Go.Proofs.YtjabjihbefikkaaW.PrintLast

theorem oth_wrap (n : Int) (h : -9223372036854775808 ≤ n ∧ n ≤ 9223372036854775807) : wrap64 n = n := by unfold wrap64; omega

theorem oth_same (b : Bool) (c m : Int) : sense_Sense_Step.f b c b m = some (b, 0, false) := by
  unfold sense_Sense_Step.f; simp

theorem oth_less (b : Bool) (c m : Int) (h0 : 0 ≤ c) (h1 : c + 1 < m) (hm : m ≤ 1000) : sense_Sense_Step.f b c (!b) m = some (b, c + 1, false) := by
  unfold sense_Sense_Step.f
  rw [oth_wrap (c + 1) (by omega), if_neg (by cases b <;> simp), if_neg (by omega)]

theorem oth_last (b : Bool) (c m : Int) (h0 : 0 ≤ c) (h1 : c + 1 = m) (hm : m ≤ 1000) : sense_Sense_Step.f b c (!b) m = some (!b, 0, true) := by
  unfold sense_Sense_Step.f
  rw [oth_wrap (c + 1) (by omega), if_neg (by cases b <;> simp), if_pos (by omega)]

theorem oth_run (l : List Bool) (m : Int) (hm0 : 0 < m) (hm : m ≤ 1000) (hl : l.length ≤ 200) (d : Nat) : ∀ (k : Nat) (g : Bool) (c i : Int), 0 ≤ i → i ≤ l.length → (l.length : Int) - i = d → 2 * d < k → 0 ≤ c → c < m →
    paternosterlaw18_SenseOther.l0 k l m i g c (!g) c = some true := by
  induction d with
  | zero =>
    intro k g c i h0 h1 hd hk _ _
    obtain ⟨k, rfl⟩ : ∃ m, k = m + 1 := ⟨k - 1, by omega⟩
    simp only [paternosterlaw18_SenseOther.l0]
    rw [if_neg (by omega)]
  | succ d ih =>
    intro k g c i h0 h1 hd hk hc0 hc1
    obtain ⟨k, rfl⟩ : ∃ m, k = m + 1 := ⟨k - 1, by omega⟩
    obtain ⟨k, rfl⟩ : ∃ m, k = m + 1 := ⟨k - 1, by omega⟩
    simp only [paternosterlaw18_SenseOther.l0]
    rw [if_pos (by omega), if_pos h0]
    generalize hx : rdOf false l i = x
    have next : ∀ g' c', 0 ≤ c' → c' < m → (m = 1 → g' = x) → paternosterlaw18_SenseOther.j1 (k + 1) l m i false g' c' (!g') c' = some true := by
      intro g' c' h2 h3 h4
      have IH := ih k g' c' (i + 1) (by omega) (by omega) (by omega) (by omega) h2 h3
      simp only [paternosterlaw18_SenseOther.j1]
      rw [if_neg (by simp), hx, oth_wrap (i + 1) (by omega)]
      by_cases e : m = 1
      · rw [if_pos e, if_pos h0, if_pos (by omega), if_neg (by simp [h4 e])]; exact IH
      · rw [if_neg e]; exact IH
    by_cases e : x = g
    · subst e
      rw [oth_same x c m]
      simp only [Option.bind_some]
      rw [oth_same (!x) c m]
      simp only [Option.bind_some]
      rw [if_neg (by simp), if_neg (by simp)]
      simp only [if_true]
      rw [if_neg (by simp)]
      exact next x 0 (Int.le_refl _) hm0 (fun _ => rfl)
    · have e' : x = !g := by cases x <;> cases g <;> simp_all
      subst e'
      by_cases e2 : c + 1 < m
      · rw [oth_less g c m hc0 e2 hm]
        simp only [Option.bind_some]
        rw [show (!(!g)) = !(!g) from rfl, oth_less (!g) c m hc0 e2 hm]
        simp only [Option.bind_some]
        rw [if_neg (by simp), if_neg (by simp)]
        simp only [if_true]
        rw [if_neg (by simp)]
        exact next g (c + 1) (by omega) e2 (fun h => by omega)
      · rw [oth_last g c m hc0 (by omega) hm]
        simp only [Option.bind_some]
        rw [oth_last (!g) c m hc0 (by omega) hm]
        simp only [Option.bind_some]
        rw [if_neg (by simp), if_neg (by simp)]
        simp only [if_true]
        rw [show ((!g) != !g) = false by simp]
        exact next (!g) 0 (Int.le_refl _) hm0 (fun _ => rfl)

theorem oth_awake : paternosterlaw18_awake.f = some true := by decide +kernel

theorem SenseOther (a0 : Bool) (a1 : Int) (l2 : List Bool) (w1 : (Lit.int .u8 a1).wf = true) : ∃ k, paternosterlaw18_SenseOther.f k a0 a1 l2 = some true := by
  have h1 : 0 ≤ a1 ∧ a1 ≤ 255 := Go.bounds_u8 w1
  have hm : wrap64 ((wrap64 (Int.tmod a1 200)) + 1) = a1 % 200 + 1 := by
    rw [Int.tmod_eq_emod_of_nonneg h1.1, oth_wrap (a1 % 200) (by omega), oth_wrap _ (by omega)]
  refine ⟨2 * l2.length + 400, ?_⟩
  unfold paternosterlaw18_SenseOther.f
  rw [oth_awake]
  simp only [Option.bind_some, if_true]
  by_cases hl : (l2.length : Int) > 200
  · rw [if_pos hl]
  · rw [if_neg hl, hm]
    exact oth_run l2 _ (by omega) (by omega) (by omega) l2.length _ a0 0 0 (by omega) (by omega) (by omega) (by omega) (Int.le_refl _) (by omega)

end Go.Proofs.Ytjabjihbefikkaa.Pure
