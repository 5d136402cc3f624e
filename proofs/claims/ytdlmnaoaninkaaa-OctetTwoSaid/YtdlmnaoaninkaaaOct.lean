/- Plain lemmas on what octet computes (no statement stands here). -/
import Derived.Test.YtdlmnaoaninkaaaPAllx2
import Derived.Test.YtdlmnaoaninkaaaPAllx4
import Derived.Test.YtdlmnaoaninkaaaPAllx9
import Derived.Lib.Bytes
set_option linter.unusedVariables false
set_option linter.unusedSimpArgs false
namespace Go.Proofs.Ytdlmnaoaninkaaa.Pure
open Go.RowKit Go.Proofs.Ytdlmnaoaninkaaa.PAll Go.Proofs.YtdlmnaoaninkaaaW.PrintWords Go.Proofs.YtdlmnaoaninkaaaW.PrintLast Go.Proofs.YtdlmnaoaninkaaaW.PrintMore

theorem w64 (n : Int) (h : -9223372036854775808 ≤ n ∧ n ≤ 9223372036854775807) : wrap64 n = n := by unfold wrap64; omega
theorem wu64 (n : Int) (h : 0 ≤ n ∧ n < 18446744073709551616) : IntKind.u64.wrap n = n := by
  simp only [IntKind.wrap, IntKind.signed, IntKind.bits]; simp; omega

/-- Byte i of a number. -/
def dig (x : Int) (i : Nat) : Int := x / 2 ^ (8 * i) % 256
/-- The n lowest bytes of a number, the lowest first. -/
def le (n : Nat) (x : Int) : List Int := (List.range n).map (dig x)
def puts (n : Nat) (l : List Int) : List Int := l.flatMap (le n)
theorem le_length (n : Nat) (x : Int) : (le n x).length = n := by simp [le]
theorem puts_length (n : Nat) (l : List Int) : (puts n l).length = n * l.length := by
  induction l with
  | nil => simp [puts]
  | cons a r ih => simp only [puts, List.flatMap_cons, List.length_append, le_length, List.length_cons] at *; rw [ih, Nat.mul_add, Nat.mul_one, Nat.add_comm]
theorem dig_range (x : Int) (i : Nat) : 0 ≤ dig x i ∧ dig x i ≤ 255 := by unfold dig; omega
theorem puts_range (n : Nat) (l : List Int) : ∀ x ∈ puts n l, 0 ≤ x ∧ x ≤ 255 := by
  intro x hx
  simp only [puts, le, List.mem_flatMap, List.mem_map] at hx
  obtain ⟨a, _, i, _, rfl⟩ := hx
  exact dig_range a i
theorem puts_append (n : Nat) (a b : List Int) : puts n (a ++ b) = puts n a ++ puts n b := by simp [puts]

theorem puts_cons (n : Nat) (a : Int) (r : List Int) : puts n (a :: r) = le n a ++ puts n r := by simp [puts]

theorem may_true (n : Int) (h : 1 ≤ n ∧ n ≤ 8) : octet_may.f n = some true := by unfold octet_may.f; rw [if_pos (by omega), decide_eq_true (by omega)]
theorem may_false (n : Int) (h : n < 1 ∨ 8 < n) : octet_may.f n = some false := by
  unfold octet_may.f
  rcases h with h | h
  · rw [if_neg (by omega)]
  · rw [if_pos (by omega), decide_eq_false (by omega)]

theorem put_l1 (n : Nat) (hn : n ≤ 8) (x : Int) (l : List Int) (j : Int) (r : List Int) (acc0 : List Int) (K : Nat) (hb : acc0.length + 8 ≤ 140737488355327)
    (hK : ∀ k, K ≤ k → octet_Put.l0 k n (acc0 ++ le n x) l (l.length : Int) (wrap64 (j + 1)) = some r) (d : Nat) : ∀ (k i : Nat), n - i = d → i ≤ n → d + K < k →
    octet_Put.l1 k n (acc0 ++ le i x) x l (l.length : Int) j n (i : Int) = some r := by
  induction d with
  | zero =>
    intro k i hd hi hk
    obtain ⟨k, rfl⟩ : ∃ m, k = m + 1 := ⟨k - 1, by omega⟩
    obtain rfl : i = n := by omega
    simp only [octet_Put.l1]
    rw [if_neg (by omega)]
    exact hK k (by omega)
  | succ d ih =>
    intro k i hd hi hk
    obtain ⟨k, rfl⟩ : ∃ m, k = m + 1 := ⟨k - 1, by omega⟩
    simp only [octet_Put.l1]
    have hs : shr .u64 x (wrap64 (8 * (i : Int))) % 256 = dig x i := by
      rw [w64 _ (by omega)]
      unfold shr dig
      rw [show min (8 * (i : Int)).toNat IntKind.u64.bits = 8 * i by simp [IntKind.bits]; omega]
    rw [if_pos (by omega), w64 (8 * (i : Int)) (by omega), if_pos (by omega), if_pos (by rw [List.length_append, le_length]; omega), ← w64 (8 * (i : Int)) (by omega), hs, w64 ((i : Int) + 1) (by omega)]
    have := ih k (i + 1) (by omega) (by omega) (by omega)
    rw [show le (i + 1) x = le i x ++ [dig x i] by simp [le, List.range_succ], ← List.append_assoc] at this
    exact_mod_cast this

theorem put_l0 (n : Nat) (hn : n ≤ 8) (l : List Int) (d : Nat) : ∀ (j : Nat) (acc : List Int), l.length - j = d → j ≤ l.length → acc.length + 8 * d + 8 ≤ 140737488355327 → l.length ≤ 140737488355327 →
    ∃ K, ∀ k, K ≤ k → octet_Put.l0 k n acc l (l.length : Int) j = some (acc ++ puts n (l.drop j)) := by
  induction d with
  | zero =>
    intro j acc hd hj hb _
    refine ⟨1, fun k hk => ?_⟩
    obtain ⟨k, rfl⟩ : ∃ m, k = m + 1 := ⟨k - 1, by omega⟩
    simp only [octet_Put.l0]
    rw [if_neg (by omega), List.drop_of_length_le (by omega)]
    simp [puts]
  | succ d ih =>
    intro j acc hd hj hb hl
    have hlt : j < l.length := by omega
    obtain ⟨K, hK⟩ := ih (j + 1) (acc ++ le n l[j]) (by omega) (by omega) (by rw [List.length_append, le_length]; omega) hl
    refine ⟨n + K + 2, fun k hk => ?_⟩
    obtain ⟨k, rfl⟩ : ∃ m, k = m + 1 := ⟨k - 1, by omega⟩
    simp only [octet_Put.l0]
    have hrd : rd l (j : Int) = l[j] := by unfold rd; rw [Int.toNat_natCast, List.getD_eq_getElem?_getD, List.getElem?_eq_getElem hlt, Option.getD_some]
    rw [if_pos (by omega), if_pos (by omega), if_pos (by omega), hrd]
    have h0 := put_l1 n hn l[j] l j (acc ++ puts n (l.drop j)) acc K (by omega) (fun k hk => by
      rw [w64 ((j : Int) + 1) (by omega)]
      have := hK k hk
      rw [List.append_assoc] at this
      rw [List.drop_eq_getElem_cons hlt, puts_cons]
      exact_mod_cast this) n k 0 (by omega) (by omega) (by omega)
    simpa [le] using h0

/-- octet.Put: the bytes of numbers. -/
theorem put_ev (n : Nat) (h1 : 1 ≤ n) (h8 : n ≤ 8) (l : List Int) (hl : l.length ≤ 1099511627776) : ∃ K, ∀ k, K ≤ k → octet_Put.f k n l = some (puts n l) := by
  obtain ⟨K, hK⟩ := put_l0 n h8 l l.length 0 [] (by omega) (by omega) (by rw [List.length_nil]; omega) (by omega)
  refine ⟨K, fun k hk => ?_⟩
  unfold octet_Put.f
  rw [may_true n (by omega)]
  simpa using hK k hk
theorem put_none (n : Int) (h : n < 1 ∨ 8 < n) (l : List Int) (k : Nat) : octet_Put.f k n l = some [] := by
  unfold octet_Put.f
  rw [may_false n h]; simp

theorem emod_mul' (x a b : Int) (ha : 0 < a) (hb : 0 < b) : x % (a * b) = x % a + a * (x / a % b) := by
  have h1 : x = a * b * (x / a / b) + (x % a + a * (x / a % b)) := by
    have e1 := Int.mul_ediv_add_emod x a
    have e2 := Int.mul_ediv_add_emod (x / a) b
    rw [Int.mul_assoc]
    calc x = a * (x / a) + x % a := e1.symm
      _ = a * (b * (x / a / b) + x / a % b) + x % a := by rw [e2]
      _ = _ := by rw [Int.mul_add]; omega
  have h2 := Int.emod_nonneg x (Int.ne_of_gt ha)
  have h3 := Int.emod_lt_of_pos x ha
  have h4 := Int.emod_nonneg (x / a) (Int.ne_of_gt hb)
  have h5 := Int.emod_lt_of_pos (x / a) hb
  have h6 : a * (x / a % b) ≤ a * (b - 1) := Int.mul_le_mul_of_nonneg_left (by omega) (Int.le_of_lt ha)
  have h7 : 0 ≤ a * (x / a % b) := Int.mul_nonneg (Int.le_of_lt ha) h4
  rw [Int.mul_sub, Int.mul_one] at h6
  conv => lhs; rw [h1]
  rw [Int.mul_add_emod_self_left, Int.emod_eq_of_lt (by omega) (by omega)]

/-- A number out of its bytes. -/
theorem leNum_le (x : Int) (h0 : 0 ≤ x) (n : Nat) : leNum (le n x) = x % 2 ^ (8 * n) := by
  induction n with
  | zero => simp [le, leNum]
  | succ n ih =>
    rw [show le (n + 1) x = le n x ++ [dig x n] by simp [le, List.range_succ], leNum_snoc, ih, le_length, pow_256]
    unfold dig
    have e : (2 : Int) ^ (8 * (n + 1)) = 2 ^ (8 * n) * 256 := by rw [Nat.mul_add, Int.pow_add]; rfl
    rw [e]
    have hp : (0 : Int) < 2 ^ (8 * n) := Int.pow_pos (by decide)
    rw [Int.mul_comm (x / 2 ^ (8 * n) % 256), emod_mul' x _ 256 hp (by decide)]

theorem gets_puts (n : Nat) (l : List Int) (h0 : ∀ x ∈ l, 0 ≤ x) : gets n l.length (puts n l) = l.map (fun x => x % 2 ^ (8 * n)) := by
  induction l with
  | nil => rfl
  | cons a r ih =>
    have ih := ih (fun x hx => h0 x (List.mem_cons_of_mem _ hx))
    unfold gets at *
    rw [List.length_cons, List.range_succ_eq_map, List.map_cons, List.map_map, puts_cons, List.map_cons, ← ih]
    congr 1
    · simp only [Nat.zero_mul, List.drop_zero]
      rw [List.take_left' (le_length n a), leNum_le a (h0 a (List.mem_cons_self ..))]
    · apply List.map_congr_left
      intro j _
      simp only [Function.comp, Nat.succ_mul]
      rw [Nat.add_comm, ← List.drop_drop, List.drop_left' (le_length n a)]

/-- octet.Get of what was put. -/
theorem get_put (n : Nat) (h1 : 1 ≤ n) (h8 : n ≤ 8) (l : List Int) (hl : l.length ≤ 100000000000) (h0 : ∀ x ∈ l, 0 ≤ x) : octet_Get.f n (puts n l) = some (l.map (fun x => x % 2 ^ (8 * n)), 0) := by
  unfold octet_Get.f
  have hlen := puts_length n l
  rw [if_neg (by omega), if_neg (by rw [hlen]; simp), if_pos ⟨by rw [hlen]; have := Nat.mul_le_mul_right l.length h8; omega, puts_range n l⟩]
  rw [Int.toNat_natCast, hlen, Nat.mul_div_cancel_left _ (by omega), gets_puts n l h0]
end Go.Proofs.Ytdlmnaoaninkaaa.Pure
