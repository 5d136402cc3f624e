/- Plain lemmas on what is sealed, and opened (no statement stands here). -/
import Derived.Test.YtmegcockgohkhaaDoorCrc
import Derived.Test.YtmegcockgohkhaaDoorOct
import Derived.Test.YtmegcockgohkhaaDoorPAllx7
set_option linter.unusedVariables false
set_option linter.unusedSimpArgs false
namespace Go.Proofs.YtmegcockgohkhaaDoor.Pure
open Go.RowKit Go.Proofs.YtmegcockgohkhaaDoor.PAll Go.Proofs.YtmegcockgohkhaaDoorW.PrintWords Go.Proofs.YtmegcockgohkhaaDoorW.PrintLast Go.Proofs.YtmegcockgohkhaaDoorW.PrintMore

theorem dig_bit (v : B32) (i j : Nat) (hj : j < 8) : (bv (dig (v.toNat : Int) i)).getLsbD j = v.getLsbD (8 * i + j) := by
  have e : dig (v.toNat : Int) i = ((v.toNat / 2 ^ (8 * i) % 256 : Nat) : Int) := by unfold dig; first | (rw [Int.natCast_emod, Int.natCast_ediv, Int.natCast_pow]; rfl) | (rw [Int.natCast_mod, Int.natCast_div, Int.natCast_pow]; rfl)
  rw [e]
  unfold bv
  rw [BitVec.ofInt_natCast, BitVec.getLsbD_ofNat]
  have h256 : (256 : Nat) = 2 ^ 8 := by decide
  rw [h256, Nat.testBit_mod_two_pow, Nat.testBit_div_two_pow]
  rw [decide_eq_true hj, decide_eq_true (show j < 32 by omega)]
  simp [BitVec.getLsbD, Nat.add_comm]
theorem B_le4 (v : B32) : B (le 4 (v.toNat : Int)) = bitsOf 32 v := by
  have h8 : ∀ i, bitsOf 8 (bv (dig (v.toNat : Int) i)) = (List.range 8).map (fun j => v.getLsbD (8 * i + j)) := by
    intro i
    unfold bitsOf
    apply List.map_congr_left
    intro j hj
    exact dig_bit v i j (List.mem_range.1 hj)
  unfold B le
  rw [show (List.range 4).map (dig (v.toNat : Int)) = [dig (v.toNat : Int) 0, dig (v.toNat : Int) 1, dig (v.toNat : Int) 2, dig (v.toNat : Int) 3] from rfl]
  simp only [List.flatMap_cons, List.flatMap_nil, h8]
  rfl
def sealed (l : List Int) : List Int := l ++ le 4 ((S l).toNat : Int)
theorem sealed_length (l : List Int) : (sealed l).length = l.length + 4 := by simp [sealed, le_length]
theorem sealed_range (l : List Int) (hb : ∀ x ∈ l, 0 ≤ x ∧ x ≤ 255) : ∀ x ∈ sealed l, 0 ≤ x ∧ x ≤ 255 := by
  intro x hx
  simp only [sealed, List.mem_append] at hx
  rcases hx with hx | hx
  · exact hb x hx
  · simp only [le, List.mem_map] at hx
    obtain ⟨i, _, rfl⟩ := hx
    exact dig_range _ _
/-- All that is sealed has one register. -/
theorem sealed_reg (l : List Int) : Rb 0xFFFFFFFF#32 (B (sealed l)) = itb 32 0xFFFFFFFF#32 := by
  unfold sealed
  rw [B_append, Rb_append, B_le4, Rb_bits]
  have hz : S l >>> 32 = 0#32 := by
    apply BitVec.eq_of_toNat_eq
    rw [BitVec.toNat_ushiftRight, Nat.shiftRight_eq_div_pow]
    exact Nat.div_eq_of_lt (S l).isLt
  rw [hz, BitVec.xor_zero]
  congr 1
  unfold S
  rw [xlc, BitVec.xor_self, BitVec.xor_zero]

theorem clone_ev (l : List Int) (h : l.length ≤ 1000000) : slices_Clone_byte_byte.f l = some l := by
  unfold slices_Clone_byte_byte.f
  simp only [Option.bind_some]
  rw [if_pos (by simp; omega), List.nil_append]
theorem seal_ev (l : List Int) (hb : ∀ x ∈ l, 0 ≤ x ∧ x ≤ 255) (hl : l.length ≤ 100000) : ∃ K, ∀ k, K ≤ k → crc_Seal.f k l = some (sealed l) := by
  have hlt := (S l).isLt
  obtain ⟨K, hK⟩ := put_ev 4 (by omega) (by omega) [((S l).toNat : Int)] (by simp)
  refine ⟨K, fun k hk => ?_⟩
  unfold crc_Seal.f
  rw [clone_ev l (by omega), of_ev [l] (by simpa using hb) (by simp) (by simp; omega)]
  simp only [Option.bind_some, List.flatten_cons, List.flatten_nil, List.append_nil]
  rw [wu64 _ (by omega)]
  have h := hK k hk
  have e : puts 4 [((S l).toNat : Int)] = le 4 ((S l).toNat : Int) := by simp [puts]
  rw [e] at h
  have h' : octet_Put.f k 4 [((S l).toNat : Int)] = some (le 4 ((S l).toNat : Int)) := h
  rw [h']
  simp only [Option.bind_some]
  rw [if_pos (by rw [le_length]; omega)]
  rfl
theorem rd_nat (l : List Int) (i : Nat) (hi : i < l.length) : rd l (i : Int) = l[i] := by
  unfold rd; rw [Int.toNat_natCast, List.getD_eq_getElem?_getD, List.getElem?_eq_getElem hi, Option.getD_some]
theorem eq_l0 (a b : List Int) (hab : a.length = b.length) (hl : a.length ≤ 1000000) (d : Nat) : ∀ (i k : Nat), a.length - i = d → i ≤ a.length → d < k →
    slices_Equal_byte_byte.l0 k a b (a.length : Int) (i : Int) = some (decide (a.drop i = b.drop i)) := by
  induction d with
  | zero =>
    intro i k hd hi hk
    obtain ⟨k, rfl⟩ : ∃ m, k = m + 1 := ⟨k - 1, by omega⟩
    simp only [slices_Equal_byte_byte.l0]
    rw [if_neg (by omega), List.drop_of_length_le (by omega), List.drop_of_length_le (by omega)]
    simp
  | succ d ih =>
    intro i k hd hi hk
    obtain ⟨k, rfl⟩ : ∃ m, k = m + 1 := ⟨k - 1, by omega⟩
    have h1 : i < a.length := by omega
    have h2 : i < b.length := by omega
    simp only [slices_Equal_byte_byte.l0]
    rw [if_pos (by omega), if_pos (by omega), if_pos (by omega), if_pos (by omega), rd_nat a i h1, rd_nat b i h2, List.drop_eq_getElem_cons h1, List.drop_eq_getElem_cons h2]
    by_cases he : a[i] = b[i]
    · rw [if_pos he, w64 _ (by omega)]
      have := ih (i + 1) k (by omega) (by omega) (by omega)
      have e : ((i + 1 : Nat) : Int) = (i : Int) + 1 := by omega
      rw [e] at this
      rw [this]
      simp only [he, List.cons.injEq, true_and]
    · rw [if_neg he]; simp only [he, List.cons.injEq, false_and, decide_false]
theorem eq_ev (a b : List Int) (hl : a.length ≤ 1000000) : ∀ k, a.length + 1 ≤ k → slices_Equal_byte_byte.f k a b = some (decide (a = b)) := by
  intro k hk
  unfold slices_Equal_byte_byte.f
  by_cases h : (a.length : Int) = (b.length : Int)
  · rw [if_pos h]
    have := eq_l0 a b (by omega) hl a.length 0 k (by omega) (by omega) (by omega)
    simpa using this
  · rw [if_neg h]
    have : a ≠ b := fun e => h (by rw [e])
    simp [this]
theorem open_short (l : List Int) (h : l.length < 4) (k : Nat) : crc_Open.f k l = some ([], false) := by
  unfold crc_Open.f
  rw [w64 _ (by omega), if_pos (by omega)]
theorem open_ev (l : List Int) (h : 4 ≤ l.length) (hb : ∀ x ∈ l, 0 ≤ x ∧ x ≤ 255) (hl : l.length ≤ 10000) :
    ∃ K, ∀ k, K ≤ k → crc_Open.f k l = some (if sealed (l.take (l.length - 4)) = l then (l.take (l.length - 4), true) else ([], false)) := by
  obtain ⟨K, hK⟩ := seal_ev (l.take (l.length - 4)) (fun x hx => hb x (List.mem_of_mem_take hx)) (by rw [List.length_take]; omega)
  refine ⟨K + l.length + 1, fun k hk => ?_⟩
  unfold crc_Open.f
  rw [w64 _ (by omega), if_neg (by omega), if_pos (by omega), if_pos (by omega), show ((l.length : Int) - 4).toNat = l.length - 4 by omega, hK k (by omega)]
  simp only [Option.bind_some]
  rw [eq_ev _ _ (by rw [sealed_length, List.length_take]; omega) k (by rw [sealed_length, List.length_take]; omega)]
  simp only [Option.bind_some]
  by_cases he : sealed (l.take (l.length - 4)) = l
  · rw [if_pos (by simpa using he), clone_ev _ (by rw [List.length_take]; omega), if_pos he]; rfl
  · rw [if_neg (by simpa using he), if_neg he]
theorem open_sealed (l : List Int) (hb : ∀ x ∈ l, 0 ≤ x ∧ x ≤ 255) (hl : l.length ≤ 9000) : ∃ K, ∀ k, K ≤ k → crc_Open.f k (sealed l) = some (l, true) := by
  obtain ⟨K, hK⟩ := open_ev (sealed l) (by rw [sealed_length]; omega) (sealed_range l hb) (by rw [sealed_length]; omega)
  refine ⟨K, fun k hk => ?_⟩
  have e : (sealed l).take ((sealed l).length - 4) = l := by rw [sealed_length, Nat.add_sub_cancel]; unfold sealed; rw [List.take_left]
  rw [hK k hk, e, if_pos rfl]
/-- What is opened has the register of all that is sealed. -/
theorem not_open (l : List Int) (h : 4 ≤ l.length) (hb : ∀ x ∈ l, 0 ≤ x ∧ x ≤ 255) (hl : l.length ≤ 10000) (hne : Rb 0xFFFFFFFF#32 (B l) ≠ itb 32 0xFFFFFFFF#32) : ∃ K, ∀ k, K ≤ k → crc_Open.f k l = some ([], false) := by
  obtain ⟨K, hK⟩ := open_ev l h hb hl
  refine ⟨K, fun k hk => ?_⟩
  rw [hK k hk, if_neg]
  intro e
  have := sealed_reg (l.take (l.length - 4))
  rw [e] at this
  exact hne this
end Go.Proofs.YtmegcockgohkhaaDoor.Pure
