/- The walk of bits.TrailingZeros32, by hand (no statement stands here). -/
import Derived.Test.YthjmlmognbenoaaDoorBits
namespace Go.Proofs.YthjmlmognbenoaaDoor.PAll
open Go.RowKit Go.Proofs.YthjmlmognbenoaaDoorW.PrintWords Go.Proofs.YthjmlmognbenoaaDoorW.PrintLast Go.Proofs.YthjmlmognbenoaaDoorW.PrintMore
set_option linter.unusedVariables false
set_option linter.unusedSimpArgs false
def dbL : List Int := [0, 1, 28, 2, 29, 14, 24, 3, 30, 22, 20, 15, 25, 17, 4, 8, 31, 27, 13, 23, 21, 19, 16, 7, 26, 12, 18, 6, 11, 5, 10, 9]
/-- The table's cells hold what is laid. -/
def Deb (w : World) : Prop := ∀ i : Nat, i < 32 → w.cell? ⟨0, i, none⟩ = some (.int .u8 (dbL.getD i 0))
/-- The lowest bit that is 1. -/
def tzN : Nat → Nat → Nat
  | 0, _ => 0
  | k + 1, n => if n % 2 = 1 then 0 else tzN k (n / 2) + 1
theorem tz_form (f : Nat) : ∀ n, 0 < n → n < 2 ^ f → ∃ m, n = 2 ^ tzN f n * (2 * m + 1) ∧ tzN f n < f := by
  induction f with
  | zero => intro n h0 h1; simp at h1; omega
  | succ f ih =>
    intro n h0 h1
    unfold tzN
    split
    · exact ⟨n / 2, by rw [Nat.pow_zero]; omega, by omega⟩
    · rename_i hc
      obtain ⟨m, hm, hk⟩ := ih (n / 2) (by omega) (by rw [Nat.pow_succ] at h1; omega)
      refine ⟨m, ?_, by omega⟩
      have e : n = 2 * (n / 2) := by omega
      rw [Nat.pow_succ, Nat.mul_right_comm, ← hm]
      omega
theorem low_bit (k m n : Nat) (hk : k ≤ n) (hlt : 2 ^ k * (2 * m + 1) < 2 ^ n) : (2 ^ k * (2 * m + 1)) &&& (2 ^ n - 2 ^ k * (2 * m + 1)) = 2 ^ k := by
  apply Nat.eq_of_testBit_eq
  intro i
  have e : 2 ^ n - 2 ^ k * (2 * m + 1) = 2 ^ k * (2 ^ (n - k) - (2 * m + 1)) := by
    rw [Nat.mul_sub, ← Nat.pow_add, Nat.add_sub_cancel' hk]
  rw [e, Nat.testBit_and, Nat.testBit_two_pow_mul, Nat.testBit_two_pow_mul, Nat.testBit_two_pow]
  by_cases hi : k ≤ i
  · have h2 : 2 * m < 2 ^ (n - k) := by
      have : 2 ^ k * (2 * m + 1) < 2 ^ k * 2 ^ (n - k) := by rw [← Nat.pow_add, Nat.add_sub_cancel' hk]; exact hlt
      have := Nat.lt_of_mul_lt_mul_left this
      omega
    rw [Nat.testBit_two_pow_sub_succ h2]
    simp only [hi, decide_true, Bool.true_and]
    by_cases he : i = k
    · subst he
      have hnk : 0 < n - i := by
        rcases Nat.eq_zero_or_pos (n - i) with h0 | h0
        · have hni : n = i := by omega
          rw [hni] at hlt
          have : 2 ^ i * 1 ≤ 2 ^ i * (2 * m + 1) := Nat.mul_le_mul_left _ (by omega)
          omega
        · exact h0
      simp [Nat.testBit_zero, hnk]
    · obtain ⟨j, hj⟩ : ∃ j, i - k = j + 1 := ⟨i - k - 1, by omega⟩
      rw [hj, Nat.testBit_succ, Nat.testBit_succ]
      have e1 : (2 * m + 1) / 2 = m := by omega
      have e2 : 2 * m / 2 = m := by omega
      rw [e1, e2]
      have hne : ¬ k = i := fun h => he h.symm
      cases m.testBit j <;> simp [hne]
  · have hne : ¬ k = i := by omega
    simp [hi, hne]
def lowI (x : Int) : Int := Go.bits .and .u32 x (-x % 4294967296)
set_option maxRecDepth 100000 in
set_option maxHeartbeats 2000000 in
theorem tz_calls (x : Int) (hx : 0 < x ∧ x < 4294967296) (ix : Nat) (hix : ix < 32) (he : (lowI x * 125613361 % 4294967296) / 134217728 = (ix : Int)) (w : World) (hd : Deb w) :
    Calls Tryd.prog 27 #[.int .u32 x] w fun e w' => e = .returned (.int .i64 (dbL.getD ix 0)) ∧ Drawn0 w w' := by
  have hc := hd ix hix
  have hne : (x == 0) = false := by simp; omega
  have p1 : ((0 : Int) ≤ (ix : Int)) = True := eq_true (by omega)
  have q1 : ((ix : Int) < (32 : Int)) = True := eq_true (by omega)
  have hfin : ∀ i : Fin 32, 0 ≤ dbL.getD i.val 0 ∧ dbL.getD i.val 0 < 32 := by decide
  have hb := hfin ⟨ix, hix⟩
  have hw : wrap64 (dbL.getD ix 0) = dbL.getD ix 0 := by unfold wrap64; simp only at hb; omega
  generalize dbL.getD ix 0 = v at hc hw ⊢
  clear hx hfin hb
  unfold lowI at he
  go_enter Tryd.func27, Tryd.ntmps27
  go_wp2
  go_ret
  exact ⟨by first | rfl | (rw [hw]; rfl) | (simp only [hw]; rfl), by repeat (first | exact Drawn0.refl _ | apply Drawn0.step)⟩
theorem bits_and32 (x y : Int) : Go.bits .and .u32 x y = IntKind.u32.wrap (((BitVec.ofInt 32 x &&& BitVec.ofInt 32 y).toNat : Nat) : Int) := rfl
theorem lowI_eq (n : Nat) (h0 : 0 < n) (h1 : n < 4294967296) : lowI (n : Int) = ((2 ^ tzN 32 n : Nat) : Int) ∧ tzN 32 n < 32 := by
  obtain ⟨m, hm, hk⟩ := tz_form 32 n h0 h1
  refine ⟨?_, hk⟩
  have en : -(n : Int) % 4294967296 = ((4294967296 - n : Nat) : Int) := by omega
  have hl := low_bit (tzN 32 n) m 32 (by omega) (by rw [← hm]; exact h1)
  rw [← hm] at hl
  unfold lowI
  rw [en, bits_and32, BitVec.toNat_and, BitVec.ofInt_natCast, BitVec.ofInt_natCast, BitVec.toNat_ofNat, BitVec.toNat_ofNat, Nat.mod_eq_of_lt (show n < 2 ^ 32 from h1), Nat.mod_eq_of_lt (show 4294967296 - n < 2 ^ 32 by omega)]
  have hl2 : n &&& (4294967296 - n) = 2 ^ tzN 32 n := hl
  rw [hl2, IntKind.wrap_u32]
  have := Nat.pow_le_pow_right (show 0 < 2 by omega) (show tzN 32 n ≤ 31 by omega)
  omega
theorem db_fin : ∀ k : Fin 32, (((2 ^ k.val : Nat) : Int) * 125613361 % 4294967296) / 134217728 < 32 ∧ 0 ≤ (((2 ^ k.val : Nat) : Int) * 125613361 % 4294967296) / 134217728 ∧ dbL.getD ((((2 ^ k.val : Nat) : Int) * 125613361 % 4294967296) / 134217728).toNat 0 = (k.val : Int) := by decide +kernel
/-- TrailingZeros32, in plain words. -/
theorem tz_nat (n : Nat) (h0 : 0 < n) (h1 : n < 4294967296) (w : World) (hd : Deb w) : Calls Tryd.prog 27 #[.int .u32 (n : Int)] w fun e w' => e = .returned (.int .i64 (tzN 32 n : Int)) ∧ Drawn0 w w' := by
  obtain ⟨h2, h3⟩ := lowI_eq n h0 h1
  obtain ⟨P, hP⟩ : ∃ P, P = (((2 ^ tzN 32 n : Nat) : Int) * 125613361 % 4294967296) / 134217728 := ⟨_, rfl⟩
  have g := db_fin ⟨tzN 32 n, h3⟩
  rw [show (((2 ^ (⟨tzN 32 n, h3⟩ : Fin 32).val : Nat) : Int) * 125613361 % 4294967296) / 134217728 = P from hP.symm] at g
  obtain ⟨g1, g2, g3⟩ := g
  have he : (lowI (n : Int) * 125613361 % 4294967296) / 134217728 = (P.toNat : Int) := by
    rw [h2, ← hP, Int.toNat_of_nonneg g2]
  have h := tz_calls (n : Int) ⟨by omega, by omega⟩ P.toNat (by omega) he w hd
  rw [g3] at h
  exact h
end Go.Proofs.YthjmlmognbenoaaDoor.PAll
