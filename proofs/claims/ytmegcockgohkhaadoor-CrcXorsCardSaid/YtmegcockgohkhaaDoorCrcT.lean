/- Plain lemmas on a burst of bits (no statement stands here). -/
import Derived.Test.YtmegcockgohkhaaDoorPAllx15
import Derived.Test.YtmegcockgohkhaaDoorCrcS
import Derived.OpenShut
set_option linter.unusedVariables false
set_option linter.unusedSimpArgs false
namespace Go.Proofs.YtmegcockgohkhaaDoor.Pure
open Go.RowKit Go.Proofs.YtmegcockgohkhaaDoor.PAll Go.Proofs.YtmegcockgohkhaaDoorW.PrintWords Go.Proofs.YtmegcockgohkhaaDoorW.PrintLast Go.Proofs.YtmegcockgohkhaaDoorW.PrintMore

/-- Bit p of bytes. -/
def bitAt (l : List Int) (p : Nat) : Bool := (bv (l.getD (p / 8) 0)).getLsbD (p % 8)
theorem B_bits (l : List Int) : B l = (List.range (8 * l.length)).map (bitAt l) := by
  induction l with
  | nil => rfl
  | cons c l ih =>
    have e : B (c :: l) = bitsOf 8 (bv c) ++ B l := by simp [B]
    rw [e, ih, List.length_cons, show 8 * (l.length + 1) = 8 + 8 * l.length by omega, List.range_add, List.map_append]
    have e1 : bitsOf 8 (bv c) = (List.range 8).map (bitAt (c :: l)) := by
      unfold bitsOf
      apply List.map_congr_left
      intro j hj
      have hj := List.mem_range.1 hj
      unfold bitAt
      rw [Nat.div_eq_of_lt hj, Nat.mod_eq_of_lt hj]; rfl
    have e2 : (List.range (8 * l.length)).map (bitAt l) = ((List.range (8 * l.length)).map (8 + ·)).map (bitAt (c :: l)) := by
      rw [List.map_map]
      apply List.map_congr_left
      intro j hj
      simp only [Function.comp, bitAt]
      rw [show (8 + j) / 8 = j / 8 + 1 by omega, show (8 + j) % 8 = j % 8 by omega, List.getD_cons_succ]
    rw [e1, e2]
theorem zm {α : Type} (g h : α → Bool) (l : List α) : List.zipWith (· ^^ ·) (l.map g) (l.map h) = l.map fun a => (g a ^^ h a) := by
  induction l with
  | nil => rfl
  | cons a l ih => simp only [List.map_cons, List.zipWith_cons_cons, ih]
/-- A burst: the bits of a word from a place on. -/
def burst (bit i : Nat) (t : B32) (p : Nat) : Bool := decide (bit ≤ p ∧ p < bit + i) && t.getLsbD (p - bit)
theorem burst_bits (bit n : Nat) (t : B32) (h : bit + 32 ≤ n) : (List.range n).map (burst bit 32 t) = List.replicate bit false ++ bitsOf 32 t ++ List.replicate (n - bit - 32) false := by
  obtain ⟨m, rfl⟩ : ∃ m, n = bit + 32 + m := ⟨n - bit - 32, by omega⟩
  rw [List.range_add, List.range_add, List.map_append, List.map_append, List.map_map, List.map_map, show bit + 32 + m - bit - 32 = m by omega]
  congr 1
  · congr 1
    · apply List.eq_replicate_iff.2
      refine ⟨by simp, fun b hb => ?_⟩
      simp only [List.mem_map, List.mem_range] at hb
      obtain ⟨p, hp, rfl⟩ := hb
      unfold burst
      rw [decide_eq_false (by omega)]; rfl
    · unfold bitsOf
      apply List.map_congr_left
      intro j hj
      have hj := List.mem_range.1 hj
      simp only [Function.comp, burst]
      rw [decide_eq_true (by omega), show bit + j - bit = j by omega]; rfl
  · apply List.eq_replicate_iff.2
    refine ⟨by simp, fun b hb => ?_⟩
    simp only [List.mem_map, List.mem_range, Function.comp] at hb
    obtain ⟨p, hp, rfl⟩ := hb
    unfold burst
    rw [decide_eq_false (by omega)]; rfl
theorem burst_reg (bit n : Nat) (t : B32) (h : bit + 32 ≤ n) (ht : t ≠ 0#32) : Rb 0#32 ((List.range n).map (burst bit 32 t)) ≠ 0#32 := by
  rw [burst_bits bit n t h, Rb_append, Rb_append, Rb_zeros, Rb_zeros, itb_zero, Rb_bits, BitVec.zero_xor]
  have hz : t >>> 32 = 0#32 := by
    apply BitVec.eq_of_toNat_eq
    rw [BitVec.toNat_ushiftRight, Nat.shiftRight_eq_div_pow]
    exact Nat.div_eq_of_lt t.isLt
  rw [hz, BitVec.xor_zero, itb_add]
  exact fun h => ht (itb_inj _ _ h)
/-- Bytes that part from sealed ones by a burst have another register. -/
theorem turned_reg (b l : List Int) (bit : Nat) (t : B32) (hl : l.length = (sealed b).length) (h : bit + 32 ≤ 8 * l.length) (ht : t ≠ 0#32)
    (hbits : ∀ p, p < 8 * l.length → bitAt l p = (bitAt (sealed b) p ^^ burst bit 32 t p)) : Rb 0xFFFFFFFF#32 (B l) ≠ itb 32 0xFFFFFFFF#32 := by
  have e : B l = List.zipWith (· ^^ ·) (B (sealed b)) ((List.range (8 * l.length)).map (burst bit 32 t)) := by
    rw [B_bits, B_bits, ← hl, zm]
    apply List.map_congr_left
    intro p hp
    exact hbits p (List.mem_range.1 hp)
  have hx := Rb_xor (B (sealed b)) ((List.range (8 * l.length)).map (burst bit 32 t)) 0xFFFFFFFF#32 0#32 (by rw [B_length, List.length_map, List.length_range, hl])
  rw [BitVec.xor_zero, ← e, sealed_reg] at hx
  rw [hx]
  intro hc
  apply burst_reg bit (8 * l.length) t h ht
  have h2 : itb 32 0xFFFFFFFF#32 ^^^ (itb 32 0xFFFFFFFF#32 ^^^ Rb 0#32 ((List.range (8 * l.length)).map (burst bit 32 t))) = itb 32 0xFFFFFFFF#32 ^^^ itb 32 0xFFFFFFFF#32 := by rw [hc]
  rwa [← BitVec.xor_assoc, BitVec.xor_self, BitVec.zero_xor] at h2

theorem xor8 (a m : Nat) (ha : a < 256) (hm : m < 256) : Go.bits .xor .u8 (a : Int) (m : Int) = ((a ^^^ m : Nat) : Int) := by
  have hx : a ^^^ m < 2 ^ 8 := Nat.xor_lt_two_pow (by omega) (by omega)
  have h1 : (BitVec.ofInt 8 (a : Int)).toNat = a := by rw [BitVec.ofInt_natCast, BitVec.toNat_ofNat]; exact Nat.mod_eq_of_lt (by omega)
  have h2 : (BitVec.ofInt 8 (m : Int)).toNat = m := by rw [BitVec.ofInt_natCast, BitVec.toNat_ofNat]; exact Nat.mod_eq_of_lt (by omega)
  have e : Go.bits .xor .u8 (a : Int) (m : Int) = IntKind.u8.wrap ((BitVec.ofInt 8 (a : Int) ^^^ BitVec.ofInt 8 (m : Int)).toNat : Int) := rfl
  rw [e, BitVec.toNat_xor, h1, h2]
  simp only [IntKind.wrap, IntKind.signed, IntKind.bits]
  simp
  omega
theorem bv_bit (a j : Nat) (hj : j < 32) : (bv (a : Int)).getLsbD j = a.testBit j := by
  unfold bv; rw [BitVec.ofInt_natCast, BitVec.getLsbD_ofNat, decide_eq_true hj, Bool.true_and]
theorem flip_bits (l : List Int) (hb : ∀ x ∈ l, 0 ≤ x ∧ x ≤ 255) (P : Nat) (hP : P < 8 * l.length) (p : Nat) (hp : p < 8 * l.length) :
    bitAt (l.set (P / 8) (Go.bits .xor .u8 (rd l ((P / 8 : Nat) : Int)) ((2 ^ (P % 8) : Nat) : Int))) p = (bitAt l p ^^ decide (p = P)) := by
  have hq : P / 8 < l.length := by omega
  have hx := hb l[P / 8] (List.getElem_mem hq)
  obtain ⟨a, ha⟩ := Int.eq_ofNat_of_zero_le hx.1
  have hpow : 2 ^ (P % 8) < 256 := Nat.lt_of_lt_of_le (Nat.pow_lt_pow_right (by decide) (Nat.mod_lt P (by decide))) (by decide)
  unfold bitAt
  rw [rd_nat l _ hq, ha, xor8 a _ (by omega) hpow]
  by_cases e : p / 8 = P / 8
  · rw [e, List.getD_eq_getElem?_getD, List.getElem?_set_self hq, Option.getD_some, List.getD_eq_getElem?_getD, List.getElem?_eq_getElem hq, Option.getD_some, ha, bv_bit _ _ (by omega), bv_bit _ _ (by omega), Nat.testBit_xor, Nat.testBit_two_pow]
    congr 1
    apply decide_eq_decide.2
    omega
  · rw [List.getD_eq_getElem?_getD, List.getElem?_set_ne (fun h => e h.symm), ← List.getD_eq_getElem?_getD, decide_eq_false (fun h => e (by rw [h])), Bool.xor_false]
theorem flip_range (l : List Int) (hb : ∀ x ∈ l, 0 ≤ x ∧ x ≤ 255) (q : Nat) (a m : Int) : ∀ x ∈ l.set q (Go.bits .xor .u8 a m), 0 ≤ x ∧ x ≤ 255 := by
  intro x hx
  rcases List.mem_or_eq_of_mem_set hx with h | h
  · exact hb x h
  · rw [h]; exact ⟨bits_lo_u8 _ _ _, bits_hi_u8 _ _ _⟩

theorem turns_l1 (x2 : Int) (l : List Int) (hl : l.length ≤ 2000) (bit i : Nat) (hp : bit + i < 8 * l.length) (K : Nat) (r : Bool)
    (hK : ∀ k, K ≤ k → paternosterlaw02_CrcTurns.l0 k ((Int.tdiv x2 2) % 4294967296) (l.set ((bit + i) / 8) (Go.bits .xor .u8 (rd l (((bit + i) / 8 : Nat) : Int)) ((2 ^ ((bit + i) % 8) : Nat) : Int))) (bit : Int) ((i + 1 : Nat) : Int) = some r) (d : Nat) :
    ∀ (j k : Nat), (bit + i) % 8 - j = d → j ≤ (bit + i) % 8 → d + K < k → paternosterlaw02_CrcTurns.l1 k x2 l (bit : Int) (i : Int) ((2 ^ j : Nat) : Int) (j : Int) = some r := by
  have ht : Int.tmod (wrap64 ((bit : Int) + (i : Int))) 8 = (((bit + i) % 8 : Nat) : Int) := by
    rw [w64 _ (by omega), Int.tmod_eq_emod_of_nonneg (by omega)]; omega
  have hd : Int.tdiv (wrap64 ((bit : Int) + (i : Int))) 8 = (((bit + i) / 8 : Nat) : Int) := by
    rw [w64 _ (by omega), Int.tdiv_eq_ediv_of_nonneg (by omega)]; omega
  induction d with
  | zero =>
    intro j k hd2 hj hk
    obtain ⟨k, rfl⟩ : ∃ m, k = m + 1 := ⟨k - 1, by omega⟩
    simp only [paternosterlaw02_CrcTurns.l1]
    rw [ht, hd, w64 (((bit + i) / 8 : Nat) : Int) (by omega), if_neg (by omega), if_pos (by omega), if_pos (by omega), w64 _ (by omega), Int.toNat_natCast]
    have e : j = (bit + i) % 8 := by omega
    rw [e, show (i : Int) + 1 = ((i + 1 : Nat) : Int) by omega]
    exact hK k (by omega)
  | succ d ih =>
    intro j k hd2 hj hk
    obtain ⟨k, rfl⟩ : ∃ m, k = m + 1 := ⟨k - 1, by omega⟩
    have hpow : 2 ^ j ≤ 64 := by
      have : j ≤ 6 := by omega
      rcases (show j = 0 ∨ j = 1 ∨ j = 2 ∨ j = 3 ∨ j = 4 ∨ j = 5 ∨ j = 6 by omega) with rfl | rfl | rfl | rfl | rfl | rfl | rfl <;> decide
    have e : (((2 ^ j : Nat) : Int) * 2) % 256 = ((2 ^ (j + 1) : Nat) : Int) := by rw [Nat.pow_succ]; omega
    have := ih (j + 1) k (by omega) (by omega) (by omega)
    simp only [paternosterlaw02_CrcTurns.l1]
    rw [ht, if_pos (by omega), e, w64 _ (by omega), show (j : Int) + 1 = ((j + 1 : Nat) : Int) by omega]
    exact this

theorem q_div (q : Nat) (h : q < 4294967296) : (Int.tdiv (q : Int) 2) % 4294967296 = ((q / 2 : Nat) : Int) := by rw [Int.tdiv_eq_ediv_of_nonneg (by omega)]; omega
theorem q_mod (q : Nat) : Int.tmod (q : Int) 2 = ((q % 2 : Nat) : Int) := by rw [Int.tmod_eq_emod_of_nonneg (by omega)]; omega
theorem turns_l0 (b : List Int) (hb0 : ∀ x ∈ b, 0 ≤ x ∧ x ≤ 255) (hl0 : b.length ≤ 1000) (bit T : Nat) (hT : T < 4294967296) (hT0 : T ≠ 0) (hbit : bit + 32 ≤ 8 * (sealed b).length) (d : Nat) :
    ∀ (i : Nat) (l : List Int), 32 - i = d → i ≤ 32 → l.length = (sealed b).length → (∀ x ∈ l, 0 ≤ x ∧ x ≤ 255) → (∀ p, p < 8 * l.length → bitAt l p = (bitAt (sealed b) p ^^ burst bit i (bv (T : Int)) p)) →
    ∃ K, ∀ k, K ≤ k → paternosterlaw02_CrcTurns.l0 k ((T / 2 ^ i : Nat) : Int) l (bit : Int) (i : Int) = some true := by
  have hsl := sealed_length b
  induction d with
  | zero =>
    intro i l hd hi hl hb hbits
    obtain rfl : i = 32 := by omega
    have hne : bv (T : Int) ≠ 0#32 := by
      intro h
      have := congrArg BitVec.toNat h
      unfold bv at this
      rw [BitVec.ofInt_natCast, BitVec.toNat_ofNat, Nat.mod_eq_of_lt (by omega)] at this
      exact hT0 (by simpa using this)
    obtain ⟨K, hK⟩ := not_open l (by omega) hb (by omega) (turned_reg b l bit (bv (T : Int)) hl (by omega) hne hbits)
    refine ⟨K + 1, fun k hk => ?_⟩
    obtain ⟨k, rfl⟩ : ∃ m, k = m + 1 := ⟨k - 1, by omega⟩
    simp only [paternosterlaw02_CrcTurns.l0]
    rw [if_neg (by decide), hK k (by omega)]
    rfl
  | succ d ih =>
    intro i l hd hi hl hb hbits
    have hTi : T / 2 ^ i < 4294967296 := Nat.lt_of_le_of_lt (Nat.div_le_self _ _) hT
    have hdiv : (Int.tdiv ((T / 2 ^ i : Nat) : Int) 2) % 4294967296 = ((T / 2 ^ (i + 1) : Nat) : Int) := by
      rw [Nat.pow_succ, ← Nat.div_div_eq_div_mul]
      exact q_div _ hTi
    have hmod : Int.tmod ((T / 2 ^ i : Nat) : Int) 2 = ((T / 2 ^ i % 2 : Nat) : Int) := by
      exact q_mod _
    have htb : (bv (T : Int)).getLsbD i = decide (T / 2 ^ i % 2 = 1) := by rw [bv_bit _ _ (by omega), Nat.testBit_eq_decide_div_mod_eq]
    by_cases h1 : T / 2 ^ i % 2 = 1
    · obtain ⟨K, hK⟩ := ih (i + 1) (l.set ((bit + i) / 8) (Go.bits .xor .u8 (rd l (((bit + i) / 8 : Nat) : Int)) ((2 ^ ((bit + i) % 8) : Nat) : Int))) (by omega) (by omega) (by rw [List.length_set, hl]) (flip_range l hb _ _ _) (by
        intro p hp
        rw [List.length_set] at hp
        rw [flip_bits l hb (bit + i) (by omega) p hp, hbits p hp, Bool.xor_assoc]
        congr 1
        unfold burst
        by_cases e : p = bit + i
        · subst e
          rw [decide_eq_false (show ¬ (bit ≤ bit + i ∧ bit + i < bit + i) by omega), decide_eq_true (show bit ≤ bit + i ∧ bit + i < bit + (i + 1) by omega), decide_eq_true (rfl : bit + i = bit + i), show bit + i - bit = i by omega, htb, decide_eq_true h1]; rfl
        · rw [decide_eq_false e, Bool.xor_false]
          congr 1
          apply decide_eq_decide.2
          omega)
      refine ⟨K + 20, fun k hk => ?_⟩
      obtain ⟨k, rfl⟩ : ∃ m, k = m + 1 := ⟨k - 1, by omega⟩
      simp only [paternosterlaw02_CrcTurns.l0]
      rw [if_pos (by omega), hmod, if_pos (by rw [h1]; rfl)]
      have := turns_l1 ((T / 2 ^ i : Nat) : Int) l (by omega) bit i (by omega) K true (by rw [hdiv]; exact hK) ((bit + i) % 8) 0 k (by omega) (by omega) (by omega)
      simpa using this
    · obtain ⟨K, hK⟩ := ih (i + 1) l (by omega) (by omega) hl hb (by
        intro p hp
        rw [hbits p hp]
        congr 1
        unfold burst
        by_cases e : p = bit + i
        · subst e
          rw [decide_eq_false (show ¬ (bit ≤ bit + i ∧ bit + i < bit + i) by omega), decide_eq_true (show bit ≤ bit + i ∧ bit + i < bit + (i + 1) by omega), show bit + i - bit = i by omega, htb, decide_eq_false h1]; rfl
        · congr 1
          apply decide_eq_decide.2
          omega)
      refine ⟨K + 1, fun k hk => ?_⟩
      obtain ⟨k, rfl⟩ : ∃ m, k = m + 1 := ⟨k - 1, by omega⟩
      simp only [paternosterlaw02_CrcTurns.l0]
      rw [if_pos (by omega), hmod, if_neg (show ¬ ((T / 2 ^ i % 2 : Nat) : Int) = 1 from fun hc => h1 (Int.ofNat_inj.mp hc)), hdiv, w64 _ (by omega), show (i : Int) + 1 = ((i + 1 : Nat) : Int) by omega]
      exact hK k (by omega)

end Go.Proofs.YtmegcockgohkhaaDoor.Pure
