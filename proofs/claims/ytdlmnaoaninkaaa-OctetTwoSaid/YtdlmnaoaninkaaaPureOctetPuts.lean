/- OctetPuts, the plain law: the bytes of any numbers, in any size, are the document's. No condition. -/
import Derived.Test.YtdlmnaoaninkaaaPAllx10
import Derived.Test.YtdlmnaoaninkaaaOct
import Derived.OpenShut
set_option linter.unusedVariables false
set_option linter.unusedSimpArgs false
namespace Go.Proofs.Ytdlmnaoaninkaaa.Pure
open Go.RowKit Go.Proofs.Ytdlmnaoaninkaaa.PAll Go.Proofs.YtdlmnaoaninkaaaW.PrintWords Go.Proofs.YtdlmnaoaninkaaaW.PrintLast Go.Proofs.YtdlmnaoaninkaaaW.PrintMore

theorem str_app (a b : List Int) : strOfNums (a ++ b) = strOfNums a ++ strOfNums b := by
  apply ByteArray.ext
  simp [strOfNums]

/-- The document's bytes of a number. -/
theorem num_l0 (n : Nat) (hn : n ≤ 8) (x0 : Int) (hx : 0 ≤ x0 ∧ x0 < 18446744073709551616) (d : Nat) : ∀ (k i : Nat), n - i = d → i ≤ n → d < k →
    paternosterref01_Num.l0 k n (x0 / 2 ^ (8 * i)) (strOfNums (le i x0)) i = some (strOfNums (le n x0)) := by
  induction d with
  | zero =>
    intro k i hd hi hk
    obtain ⟨k, rfl⟩ : ∃ m, k = m + 1 := ⟨k - 1, by omega⟩
    obtain rfl : i = n := by omega
    simp only [paternosterref01_Num.l0]
    rw [if_neg (by omega)]
  | succ d ih =>
    intro k i hd hi hk
    obtain ⟨k, rfl⟩ : ∃ m, k = m + 1 := ⟨k - 1, by omega⟩
    simp only [paternosterref01_Num.l0]
    have hp : (0 : Int) < 2 ^ (8 * i) := Int.pow_pos (by decide)
    have hq0 : 0 ≤ x0 / 2 ^ (8 * i) := Int.ediv_nonneg hx.1 (Int.le_of_lt hp)
    have hq1 : x0 / 2 ^ (8 * i) ≤ x0 := Int.ediv_le_self _ hx.1
    have e1 : Int.tmod (x0 / 2 ^ (8 * i)) 256 % 256 = dig x0 i := by
      rw [Int.tmod_eq_emod_of_nonneg hq0]; unfold dig; omega
    have e2 : IntKind.u64.wrap (Int.tdiv (x0 / 2 ^ (8 * i)) 256) = x0 / 2 ^ (8 * (i + 1)) := by
      rw [Int.tdiv_eq_ediv_of_nonneg hq0, wu64 _ (by omega), Int.ediv_ediv, if_neg (fun h => absurd h.1 (Int.not_lt.2 (Int.le_of_lt hp))), Int.sub_zero, Nat.mul_add, Int.pow_add]; rfl
    rw [if_pos (by omega), if_pos (by omega)]
    simp only [Option.bind_some]
    rw [if_pos (by rw [strOfNums_size, strOfNums_size, le_length, List.length_singleton]; omega), e1, e2, ← str_app, show le i x0 ++ [dig x0 i] = le (i + 1) x0 by simp [le, List.range_succ], w64 ((i : Int) + 1) (by omega)]
    exact_mod_cast ih k (i + 1) (by omega) (by omega) (by omega)
theorem num_ev (n : Nat) (hn : n ≤ 8) (x0 : Int) (hx : 0 ≤ x0 ∧ x0 < 18446744073709551616) : ∀ k, 10 ≤ k → paternosterref01_Num.f k n x0 = some (strOfNums (le n x0)) := by
  intro k hk
  unfold paternosterref01_Num.f
  have := num_l0 n hn x0 hx n k 0 (by omega) (by omega) (by omega)
  rw [Nat.mul_zero, Int.pow_zero, Int.ediv_one] at this
  exact this
theorem num_bad (n : Int) (h : n < 1 ∨ 8 < n) (x0 : Int) : ∀ k, 1 ≤ k → paternosterref01_Num.f k n x0 = some ⟨#[]⟩ := by
  intro k hk
  obtain ⟨k, rfl⟩ : ∃ m, k = m + 1 := ⟨k - 1, by omega⟩
  unfold paternosterref01_Num.f
  simp only [paternosterref01_Num.l0]
  rcases h with h | h
  · rw [if_neg (by omega)]
  · rw [if_pos (by omega), if_neg (by omega)]

theorem empty_str : strOfNums [] = ⟨#[]⟩ := rfl

theorem puts_law_good (n : Nat) (h1 : 1 ≤ n) (h8 : n ≤ 8) (l : List Int) (hl : l.length ≤ 100) (hb : ∀ x ∈ l, 0 ≤ x ∧ x ≤ 18446744073709551615) (K : Nat) (hK : ∀ k, K ≤ k → octet_Put.f k n l = some (puts n l)) (d : Nat) : ∀ (k j : Nat), l.length - j = d → j ≤ l.length → d + K + 12 < k →
    paternosterlaw01_OctetPuts.l0 k n l (strOfNums (puts n (l.take j))) j = some true := by
  induction d with
  | zero =>
    intro k j hd hj hk
    obtain ⟨k, rfl⟩ : ∃ m, k = m + 1 := ⟨k - 1, by omega⟩
    simp only [paternosterlaw01_OctetPuts.l0]
    rw [if_neg (by omega), hK k (by omega), List.take_of_length_le (by omega)]
    simp
  | succ d ih =>
    intro k j hd hj hk
    obtain ⟨k, rfl⟩ : ∃ m, k = m + 1 := ⟨k - 1, by omega⟩
    have hlt : j < l.length := by omega
    have hrd : rd l (j : Int) = l[j] := by unfold rd; rw [Int.toNat_natCast, List.getD_eq_getElem?_getD, List.getElem?_eq_getElem hlt, Option.getD_some]
    have hbj := hb l[j] (List.getElem_mem _)
    simp only [paternosterlaw01_OctetPuts.l0]
    rw [if_pos (by omega), if_pos (by omega), hrd, num_ev n h8 l[j] (by omega) k (by omega)]
    simp only [Option.bind_some]
    have hpl := puts_length n (l.take j)
    have htl : (l.take j).length = j := by rw [List.length_take]; omega
    have hm8 : n * j ≤ 8 * 100 := Nat.mul_le_mul h8 (by omega)
    rw [if_pos (by rw [strOfNums_size, strOfNums_size, le_length, hpl, htl]; omega), ← str_app, w64 ((j : Int) + 1) (by omega)]
    have := ih k (j + 1) (by omega) (by omega) (by omega)
    rw [List.take_add_one, List.getElem?_eq_getElem hlt, Option.toList_some, puts_append, puts_cons] at this
    simp only [puts, List.flatMap_nil, List.append_nil] at this
    exact_mod_cast this

theorem puts_law_bad (n : Int) (h : n < 1 ∨ 8 < n) (l : List Int) (hl : l.length ≤ 100) (d : Nat) : ∀ (k j : Nat), l.length - j = d → j ≤ l.length → d + 12 < k →
    paternosterlaw01_OctetPuts.l0 k n l ⟨#[]⟩ j = some true := by
  induction d with
  | zero =>
    intro k j hd hj hk
    obtain ⟨k, rfl⟩ : ∃ m, k = m + 1 := ⟨k - 1, by omega⟩
    simp only [paternosterlaw01_OctetPuts.l0]
    rw [if_neg (by omega), put_none n h]
    simp [empty_str]
  | succ d ih =>
    intro k j hd hj hk
    obtain ⟨k, rfl⟩ : ∃ m, k = m + 1 := ⟨k - 1, by omega⟩
    simp only [paternosterlaw01_OctetPuts.l0]
    rw [if_pos (by omega), if_pos (by omega), num_bad n h _ k (by omega)]
    simp only [Option.bind_some]
    rw [if_pos (by decide), w64 ((j : Int) + 1) (by omega)]
    have := ih k (j + 1) (by omega) (by omega) (by omega)
    exact_mod_cast this

theorem OctetPuts (a0 : Int) (l1 : List Int) (w1 : ∀ x ∈ l1, (Lit.int .u64 x).wf = true) : ∃ k, paternosterlaw01_OctetPuts.f k a0 l1 = some true := by
  have hb : ∀ x ∈ l1, 0 ≤ x ∧ x ≤ 18446744073709551615 := fun x hx => Go.bounds_u64 (w1 x hx)
  by_cases h1 : (l1.length : Int) > 100
  · refine ⟨1, ?_⟩
    unfold paternosterlaw01_OctetPuts.f paternosterlaw01_awake.f
    simp only [Option.bind_some, if_true]
    rw [if_pos h1]
  · by_cases hx : a0 < 1 ∨ 8 < a0
    · refine ⟨200, ?_⟩
      unfold paternosterlaw01_OctetPuts.f paternosterlaw01_awake.f
      simp only [Option.bind_some, if_true]
      rw [if_neg h1]
      exact puts_law_bad a0 hx l1 (by omega) l1.length 200 0 (by omega) (by omega) (by omega)
    · obtain ⟨n, rfl⟩ := Int.eq_ofNat_of_zero_le (show 0 ≤ a0 by omega)
      obtain ⟨K, hK⟩ := put_ev n (by omega) (by omega) l1 (by omega)
      refine ⟨200 + K, ?_⟩
      unfold paternosterlaw01_OctetPuts.f paternosterlaw01_awake.f
      simp only [Option.bind_some, if_true]
      rw [if_neg h1]
      exact puts_law_good n (by omega) (by omega) l1 (by omega) hb K hK l1.length (200 + K) 0 (by omega) (by omega) (by omega)
end Go.Proofs.Ytdlmnaoaninkaaa.Pure
