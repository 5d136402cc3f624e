/- The floors of bits, rising, in plain words (no statement stands here). -/
import Derived.Test.YthjmlmognbenoaaDoorTz
namespace Go.Proofs.YthjmlmognbenoaaDoor.PAll
open Go.RowKit Go.Proofs.YthjmlmognbenoaaDoorW.PrintWords Go.Proofs.YthjmlmognbenoaaDoorW.PrintLast Go.Proofs.YthjmlmognbenoaaDoorW.PrintMore
set_option linter.unusedVariables false
set_option linter.unusedSimpArgs false
/-- The places of the bits that are 1. -/
def floL (n : Nat) : List Nat := (List.range 32).filter fun i => n.testBit i
theorem filter_first (p : Nat → Bool) (t : Nat) : ∀ (len s : Nat), s ≤ t → t < s + len → p t = true → (∀ i, s ≤ i → i < t → p i = false) →
    (List.range' s len).filter p = t :: (List.range' s len).filter (fun i => p i && decide (i ≠ t)) := by
  intro len
  induction len with
  | zero => intro s h1 h2; omega
  | succ len ih =>
    intro s h1 h2 h3 h4
    rw [List.range'_succ]
    by_cases hs : s = t
    · subst hs
      rw [List.filter_cons_of_pos h3, List.filter_cons_of_neg (by simp)]
      congr 1
      apply List.filter_congr
      intro i hi
      rw [List.mem_range'_1] at hi
      have : i ≠ s := by omega
      simp [this]
    · rw [List.filter_cons_of_neg (by rw [h4 s (Nat.le_refl _) (by omega)]; simp), List.filter_cons_of_neg (by rw [h4 s (Nat.le_refl _) (by omega)]; simp)]
      exact ih (s + 1) (by omega) (by omega) h3 (fun i hi1 hi2 => h4 i (by omega) hi2)
theorem low_off (k m : Nat) : (2 ^ k * (2 * m + 1)) &&& (2 ^ k * (2 * m + 1) - 1) = 2 ^ k * (2 * m) := by
  have hp : 0 < 2 ^ k := Nat.pow_pos (by decide)
  have e : 2 ^ k * (2 * m + 1) - 1 = 2 ^ k * (2 * m) + (2 ^ k - 1) := by rw [Nat.mul_add, Nat.mul_one]; omega
  apply Nat.eq_of_testBit_eq
  intro i
  rw [e, Nat.testBit_and, Nat.testBit_two_pow_mul, Nat.testBit_two_pow_mul, Nat.testBit_two_pow_mul_add _ (by omega)]
  by_cases hi : i < k
  · have : ¬ k ≤ i := by omega
    simp [this]
  · have h1 : k ≤ i := by omega
    rw [if_neg hi]
    simp only [h1, decide_true, Bool.true_and]
    cases hj : i - k with
    | zero => simp [Nat.testBit_zero]
    | succ j =>
      rw [Nat.testBit_succ, Nat.testBit_succ]
      have e1 : (2 * m + 1) / 2 = m := by omega
      have e2 : 2 * m / 2 = m := by omega
      rw [e1, e2, Bool.and_self]
theorem low_bits (k m i : Nat) : (2 ^ k * (2 * m)).testBit i = ((2 ^ k * (2 * m + 1)).testBit i && decide (i ≠ k)) := by
  rw [Nat.testBit_two_pow_mul, Nat.testBit_two_pow_mul]
  by_cases hi : k ≤ i
  · simp only [hi, decide_true, Bool.true_and]
    cases hj : i - k with
    | zero =>
      have : i = k := by omega
      simp [Nat.testBit_zero, this]
    | succ j =>
      rw [Nat.testBit_succ, Nat.testBit_succ]
      have e1 : (2 * m + 1) / 2 = m := by omega
      have e2 : 2 * m / 2 = m := by omega
      have : i ≠ k := by omega
      simp [e1, e2, this]
  · simp [hi]
theorem floL_zero : floL 0 = [] := by unfold floL; simp
theorem floL_step (n : Nat) (h0 : 0 < n) (h1 : n < 4294967296) : floL n = tzN 32 n :: floL (n &&& (n - 1)) := by
  obtain ⟨m, hm, hk⟩ := tz_form 32 n h0 h1
  generalize tzN 32 n = k at hm hk
  have hlo : ∀ i, i < k → n.testBit i = false := by
    intro i hi
    rw [hm, Nat.testBit_two_pow_mul]
    have : ¬ k ≤ i := by omega
    simp [this]
  have hkk : n.testBit k = true := by rw [hm, Nat.testBit_two_pow_mul]; simp [Nat.testBit_zero]
  have hn : n &&& (n - 1) = 2 ^ k * (2 * m) := by rw [hm]; exact low_off k m
  unfold floL
  rw [List.range_eq_range', filter_first _ k 32 0 (Nat.zero_le _) (by omega) hkk (fun i _ hi => hlo i hi), hn]
  congr 1
  apply List.filter_congr
  intro i _
  rw [low_bits k m i, ← hm]
theorem floL_lt (n t : Nat) (h : t ∈ floL n) : t < 32 := by
  unfold floL at h
  exact List.mem_range.1 (List.mem_filter.1 h).1
theorem floL_and (n : Nat) (h : n < 4294967296) : n &&& (n - 1) < 4294967296 := Nat.lt_of_le_of_lt Nat.and_le_left h
/-- x &= x - 1, as the walk says it. -/
theorem bits_off (n : Nat) (h0 : 0 < n) (h1 : n < 4294967296) : Go.bits .and .u32 (n : Int) (((n : Int) - 1) % 4294967296) = ((n &&& (n - 1) : Nat) : Int) := by
  have e : ((n : Int) - 1) % 4294967296 = ((n - 1 : Nat) : Int) := by omega
  rw [e, bits_and32, BitVec.toNat_and, BitVec.ofInt_natCast, BitVec.ofInt_natCast, BitVec.toNat_ofNat, BitVec.toNat_ofNat, Nat.mod_eq_of_lt (show n < 2 ^ 32 from h1), Nat.mod_eq_of_lt (show n - 1 < 2 ^ 32 by omega), IntKind.wrap_u32]
  have := floL_and n h1
  omega
end Go.Proofs.YthjmlmognbenoaaDoor.PAll
