/- Plain lemmas on bits (no statement stands here). -/
import Derived.Test.YthjmlmognbenoaaDoorBits
namespace Go.Proofs.YthjmlmognbenoaaDoor.PAll
set_option linter.unusedVariables false
theorem popN_add (b : Nat) : ∀ (a n : Nat), popN (a + b) n = popN a n + popN b (n / 2 ^ a)
  | 0, n => by simp [popN]
  | a + 1, n => by
    rw [show a + 1 + b = (a + b) + 1 by omega]
    simp only [popN]
    rw [popN_add b a (n / 2), Nat.div_div_eq_div_mul, Nat.pow_succ, Nat.mul_comm 2, Nat.add_assoc]
theorem popN_mod : ∀ (a n : Nat), popN a (n % 2 ^ a) = popN a n
  | 0, n => by simp [popN]
  | a + 1, n => by
    simp only [popN]
    rw [Nat.pow_succ, Nat.mul_comm, Nat.mod_mul_right_mod, Nat.mod_mul_right_div_self, popN_mod a (n / 2)]
theorem onesI_pop (n : Nat) (h : n < 4294967296) : onesI (n : Int) = (popN 32 n : Int) := by
  have h1 : popN 32 n = popN 8 n + (popN 8 (n / 256) + (popN 8 (n / 65536) + popN 8 (n / 16777216))) := by
    rw [show (32 : Nat) = 8 + 24 from rfl, popN_add 24 8 n, show (24 : Nat) = 8 + 16 from rfl, popN_add 16 8 (n / 2 ^ 8), show (16 : Nat) = 8 + 8 from rfl, popN_add 8 8 (n / 2 ^ 8 / 2 ^ 8), Nat.div_div_eq_div_mul, Nat.div_div_eq_div_mul]
  have e0 : ((n : Int) % 256).toNat = n % 256 := by omega
  have e1 : ((n : Int) / 256 % 256).toNat = n / 256 % 256 := by omega
  have e2 : ((n : Int) / 65536 % 256).toNat = n / 65536 % 256 := by omega
  have e3 : ((n : Int) / 16777216).toNat = n / 16777216 := by omega
  have m0 : popN 8 (n % 256) = popN 8 n := popN_mod 8 n
  have m1 : popN 8 (n / 256 % 256) = popN 8 (n / 256) := popN_mod 8 _
  have m2 : popN 8 (n / 65536 % 256) = popN 8 (n / 65536) := popN_mod 8 _
  unfold onesI
  rw [e0, e1, e2, e3, m0, m1, m2, h1]
  generalize popN 8 n = a
  generalize popN 8 (n / 256) = b
  generalize popN 8 (n / 65536) = c
  generalize popN 8 (n / 16777216) = d
  omega
end Go.Proofs.YthjmlmognbenoaaDoor.PAll
