/- OctetLow, the plain law: of a number that doesn't fit its lowest bytes are got. No condition. -/
import Derived.Test.YtdlmnaoaninkaaaPAllx21
import Derived.Test.YtdlmnaoaninkaaaOct
import Derived.OpenShut
set_option linter.unusedVariables false
set_option linter.unusedSimpArgs false
namespace Go.Proofs.Ytdlmnaoaninkaaa.Pure
open Go.RowKit Go.Proofs.Ytdlmnaoaninkaaa.PAll Go.Proofs.YtdlmnaoaninkaaaW.PrintWords Go.Proofs.YtdlmnaoaninkaaaW.PrintLast

theorem low_l1 (l : List Int) (e : Int) (r : Bool) (d : Nat) : ∀ (k : Nat) (x : Int) (i : Int), 8 - i = d → d < k → 0 ≤ i → e = 0 → l.length = 1 → (rd l 0 == x / 256 ^ d) = r →
    paternosterlaw01_OctetLow.l1 k l e x i = some r := by
  induction d with
  | zero =>
    intro k x i hd hk hi he hl hr
    obtain ⟨k, rfl⟩ : ∃ m, k = m + 1 := ⟨k - 1, by omega⟩
    simp only [paternosterlaw01_OctetLow.l1]
    rw [if_neg (by omega), if_pos he, if_pos (by omega), if_pos (by omega)]
    simpa using hr
  | succ d ih =>
    intro k x i hd hk hi he hl hr
    obtain ⟨k, rfl⟩ : ∃ m, k = m + 1 := ⟨k - 1, by omega⟩
    simp only [paternosterlaw01_OctetLow.l1]
    rw [if_pos (by omega), w64 (i + 1) (by omega)]
    refine ih k (x / 256) (i + 1) (by omega) (by omega) (by omega) he hl ?_
    rw [Int.ediv_ediv, if_neg (fun h => absurd h.1 (by decide)), Int.sub_zero, Int.mul_comm, ← Int.pow_succ]
    exact hr

theorem low_l0 (l : List Int) (e n : Int) (r : Bool) (K : Nat) (d : Nat) : ∀ (k : Nat) (x : Int) (i : Int), 8 - i = d → d + K < k → 0 ≤ i → 0 ≤ x → x < 18446744073709551616 →
    (∀ k, K ≤ k → paternosterlaw01_OctetLow.l1 k l e (x * 256 ^ d % 18446744073709551616) n = some r) → paternosterlaw01_OctetLow.l0 k n l e x i = some r := by
  induction d with
  | zero =>
    intro k x i hd hk hi h0 h1 hK
    obtain ⟨k, rfl⟩ : ∃ m, k = m + 1 := ⟨k - 1, by omega⟩
    simp only [paternosterlaw01_OctetLow.l0]
    rw [if_neg (by omega)]
    have := hK k (by omega)
    rwa [Int.pow_zero, Int.mul_one, Int.emod_eq_of_lt h0 h1] at this
  | succ d ih =>
    intro k x i hd hk hi h0 h1 hK
    obtain ⟨k, rfl⟩ : ∃ m, k = m + 1 := ⟨k - 1, by omega⟩
    simp only [paternosterlaw01_OctetLow.l0]
    rw [if_pos (by omega), w64 (i + 1) (by omega), show IntKind.u64.wrap (x * 256) = x * 256 % 18446744073709551616 from by simp [IntKind.wrap, IntKind.signed, IntKind.bits]]
    refine ih k (x * 256 % 18446744073709551616) (i + 1) (by omega) (by omega) (by omega) (Int.emod_nonneg _ (by decide)) (Int.emod_lt_of_pos _ (by decide)) (fun k hk => ?_)
    have := hK k hk
    rw [Int.pow_succ, Int.mul_comm (256 ^ d), ← Int.mul_assoc] at this
    rw [Int.mul_emod, Int.emod_emod_of_dvd _ (Int.dvd_refl _), ← Int.mul_emod]
    exact this

theorem low_num (x : Int) (n : Nat) (hn : n ≤ 8) : x * 256 ^ (8 - n) % 18446744073709551616 / 256 ^ (8 - n) = x % 2 ^ (8 * n) := by
  have e : (18446744073709551616 : Int) = 2 ^ (8 * n) * 256 ^ (8 - n) := by
    rw [pow_256, ← Int.pow_add, show 8 * n + 8 * (8 - n) = 64 by omega]; rfl
  have hp : (0 : Int) < 256 ^ (8 - n) := Int.pow_pos (by decide)
  rw [e, Int.mul_comm x, Int.mul_comm (2 ^ (8 * n)), Int.mul_emod_mul_of_pos _ _ hp, Int.mul_ediv_cancel_left _ (Int.ne_of_gt hp)]

theorem OctetLow : paternosterlaw01_OctetLow.Pure := by
  intro a0 a1 w1 w2
  have h1 := Go.bounds_u8 w1
  have h2 := Go.bounds_u64 w2
  obtain ⟨n, hn, hn1, hn7⟩ : ∃ n : Nat, wrap64 ((wrap64 (Int.tmod a0 7)) + 1) = (n : Int) ∧ 1 ≤ n ∧ n ≤ 7 := by
    rw [Int.tmod_eq_emod_of_nonneg h1.1, w64 (a0 % 7) (by omega), w64 _ (by omega)]
    exact ⟨(a0 % 7 + 1).toNat, by omega, by omega, by omega⟩
  obtain ⟨K, hK⟩ := put_ev n hn1 (by omega) [a1] (by simp)
  have hg := get_put n hn1 (by omega) [a1] (by simp) (by simpa using h2.1)
  refine ⟨K + 100, ?_⟩
  unfold paternosterlaw01_OctetLow.f paternosterlaw01_awake.f
  simp only [Option.bind_some, if_true]
  rw [hn, hK _ (by omega)]
  simp only [Option.bind_some]
  rw [hg]
  simp only [Option.bind_some]
  refine low_l0 _ _ _ _ 50 (8 - n) _ a1 n (by omega) (by omega) (by omega) h2.1 (by omega) (fun k hk => ?_)
  refine low_l1 _ _ _ (8 - n) k _ n (by omega) (by omega) (by omega) rfl rfl ?_
  rw [low_num a1 n (by omega)]
  simp [rd]
end Go.Proofs.Ytdlmnaoaninkaaa.Pure
