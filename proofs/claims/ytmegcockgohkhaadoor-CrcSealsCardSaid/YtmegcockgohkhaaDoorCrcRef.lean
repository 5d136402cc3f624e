/- Plain lemmas on the document's sum (no statement stands here). -/
import Derived.Test.YtmegcockgohkhaaDoorCrcS
import Derived.Test.YtmegcockgohkhaaDoorPAllx13
import Derived.Lib.Bytes
set_option linter.unusedVariables false
set_option linter.unusedSimpArgs false
namespace Go.Proofs.YtmegcockgohkhaaDoor.Pure
open Go.RowKit Go.Proofs.YtmegcockgohkhaaDoor.PAll Go.Proofs.YtmegcockgohkhaaDoorW.PrintWords Go.Proofs.YtmegcockgohkhaaDoorW.PrintLast Go.Proofs.YtmegcockgohkhaaDoorW.PrintMore

theorem str_app (a b : List Int) : strOfNums (a ++ b) = strOfNums a ++ strOfNums b := by
  apply ByteArray.ext
  simp [strOfNums]

/-- The document's bytes of a number. -/
theorem num_l0 (n : Nat) (hn : n ≤ 8) (x0 : Int) (hx : 0 ≤ x0 ∧ x0 < 18446744073709551616) (d : Nat) : ∀ (k i : Nat), n - i = d → i ≤ n → d < k →
    paternosterref01_Num.l0 k n (x0 / 2 ^ (8 * i)) (strOfNums (le i x0)) i = some (strOfNums (le n x0)) := by
  induction d with
  | zero =>
    intro k i hd hi hk
    obtain ⟨k, rfl⟩ : ∃ m, k = m + 1 := ⟨k - 1, by omega⟩
    obtain rfl : i = n := by omega
    simp only [paternosterref01_Num.l0]
    rw [if_neg (by omega)]
  | succ d ih =>
    intro k i hd hi hk
    obtain ⟨k, rfl⟩ : ∃ m, k = m + 1 := ⟨k - 1, by omega⟩
    simp only [paternosterref01_Num.l0]
    have hp : (0 : Int) < 2 ^ (8 * i) := Int.pow_pos (by decide)
    have hq0 : 0 ≤ x0 / 2 ^ (8 * i) := Int.ediv_nonneg hx.1 (Int.le_of_lt hp)
    have hq1 : x0 / 2 ^ (8 * i) ≤ x0 := Int.ediv_le_self _ hx.1
    have e1 : Int.tmod (x0 / 2 ^ (8 * i)) 256 % 256 = dig x0 i := by
      rw [Int.tmod_eq_emod_of_nonneg hq0]; unfold dig; omega
    have e2 : IntKind.u64.wrap (Int.tdiv (x0 / 2 ^ (8 * i)) 256) = x0 / 2 ^ (8 * (i + 1)) := by
      rw [Int.tdiv_eq_ediv_of_nonneg hq0, wu64 _ (by omega), Int.ediv_ediv, if_neg (fun h => absurd h.1 (Int.not_lt.2 (Int.le_of_lt hp))), Int.sub_zero, Nat.mul_add, Int.pow_add]; rfl
    rw [if_pos (by omega), if_pos (by omega)]
    simp only [Option.bind_some]
    rw [if_pos (by rw [strOfNums_size, strOfNums_size, le_length, List.length_singleton]; omega), e1, e2, ← str_app, show le i x0 ++ [dig x0 i] = le (i + 1) x0 by simp [le, List.range_succ], w64 ((i : Int) + 1) (by omega)]
    exact_mod_cast ih k (i + 1) (by omega) (by omega) (by omega)
theorem num_ev (n : Nat) (hn : n ≤ 8) (x0 : Int) (hx : 0 ≤ x0 ∧ x0 < 18446744073709551616) : ∀ k, 10 ≤ k → paternosterref01_Num.f k n x0 = some (strOfNums (le n x0)) := by
  intro k hk
  unfold paternosterref01_Num.f
  have := num_l0 n hn x0 hx n k 0 (by omega) (by omega) (by omega)
  rw [Nat.mul_zero, Int.pow_zero, Int.ediv_one] at this
  exact this
theorem bt_str (l : List Int) (hb : ∀ x ∈ l, 0 ≤ x ∧ x ≤ 255) (i : Nat) (hi : i < l.length) : bt (strOfNums l) (i : Int) = l[i] := by
  have h := hb l[i] (List.getElem_mem hi)
  unfold bt
  rw [dif_pos (by rw [Int.toNat_natCast, strOfNums_size]; exact hi)]
  have e : ((strOfNums l)[(i : Int).toNat]'(by rw [Int.toNat_natCast, strOfNums_size]; exact hi)) = UInt8.ofNat l[i].toNat := by
    show (l.map fun n => UInt8.ofNat n.toNat).toArray[(i : Int).toNat]'_ = _
    simp
  rw [e]
  simp
  omega
theorem str_extract (l : List Int) (i j : Nat) (h : j ≤ l.length) : (strOfNums l).extract i j = strOfNums ((l.drop i).take (j - i)) := by
  apply ByteArray.ext
  apply Array.ext'
  simp [strOfNums, List.drop_take, List.map_take, List.map_drop]
theorem str_nil_iff (l : List Int) : (strOfNums l).toList = [] ↔ l = [] := by
  rw [Lib.toList_data]; simp [strOfNums]


theorem ref_half (X : B32) : (Int.tdiv (X.toNat : Int) (2 : Int)) % (4294967296 : Int) = ((X >>> 1).toNat : Int) := by
  rw [BitVec.toNat_ushiftRight, Nat.shiftRight_eq_div_pow, Int.tdiv_eq_ediv_of_nonneg (by omega)]
  have := X.isLt
  omega
theorem ref_odd (X : B32) : (Int.tmod (X.toNat : Int) (2 : Int) = (1 : Int)) ↔ X.getLsbD 0 = true := by
  have e : X.getLsbD 0 = X.toNat.testBit 0 := rfl
  rw [Int.tmod_eq_emod_of_nonneg (by omega), e, Nat.testBit_zero, decide_eq_true_iff]
  omega
theorem ref_l1 (s : ByteArray) (i : Int) (K : Nat) (r : Int) (d : Nat) : ∀ (j k : Nat) (X : B32), 8 - j = d → j ≤ 8 → d + K < k →
    (∀ k, K ≤ k → paternosterref02_Of.l0 k s ((itb d X).toNat : Int) (wrap64 (i + 1)) = some r) → paternosterref02_Of.l1 k s (X.toNat : Int) i (j : Int) = some r := by
  induction d with
  | zero =>
    intro j k X hd hj hk hK
    obtain ⟨k, rfl⟩ : ∃ m, k = m + 1 := ⟨k - 1, by omega⟩
    simp only [paternosterref02_Of.l1]
    rw [if_neg (by omega)]
    exact hK k (by omega)
  | succ d ih =>
    intro j k X hd hj hk hK
    obtain ⟨k, rfl⟩ : ∃ m, k = m + 1 := ⟨k - 1, by omega⟩
    have h := ih (j + 1) k (bit1 X) (by omega) (by omega) (by omega) hK
    have ej : (j : Int) + 1 = ((j + 1 : Nat) : Int) := by omega
    simp only [paternosterref02_Of.l1]
    rw [if_pos (by omega), ref_half, w64 _ (by omega), ej]
    by_cases ho : X.getLsbD 0 = true
    · rw [if_pos ((ref_odd X).2 ho), bits_bv, bv_nat]
      have e : bit1 X = X >>> 1 ^^^ bv 3988292384 := by unfold bit1; rw [ho]; rfl
      rw [← e]
      exact h
    · rw [if_neg (fun hc => ho ((ref_odd X).1 hc))]
      have e : bit1 X = X >>> 1 := bit1_low X (by simpa using ho)
      rw [← e]
      exact h
theorem ref_l0 (l : List Int) (hb : ∀ x ∈ l, 0 ≤ x ∧ x ≤ 255) (hl : l.length ≤ 1000000) (d : Nat) : ∀ (i : Nat), l.length - i = d → i ≤ l.length →
    ∃ K, ∀ k, K ≤ k → paternosterref02_Of.l0 k (strOfNums l) ((Rb 0xFFFFFFFF#32 (B (l.take i))).toNat : Int) (i : Int) = some ((S l).toNat : Int) := by
  induction d with
  | zero =>
    intro i hd hi
    refine ⟨1, fun k hk => ?_⟩
    obtain ⟨k, rfl⟩ : ∃ m, k = m + 1 := ⟨k - 1, by omega⟩
    simp only [paternosterref02_Of.l0]
    rw [strOfNums_size, if_neg (by omega), List.take_of_length_le (by omega)]
    unfold S
    generalize Rb 0xFFFFFFFF#32 (B l) = X
    have e : 0xFFFFFFFF#32 ^^^ X = ~~~X := by rw [BitVec.xor_comm]; exact BitVec.xor_allOnes
    rw [e, BitVec.toNat_not]
    have := X.isLt
    congr 1
    omega
  | succ d ih =>
    intro i hd hi
    have hlt : i < l.length := by omega
    obtain ⟨K, hK⟩ := ih (i + 1) (by omega) (by omega)
    refine ⟨K + 10, fun k hk => ?_⟩
    obtain ⟨k, rfl⟩ : ∃ m, k = m + 1 := ⟨k - 1, by omega⟩
    have ht : l.take (i + 1) = l.take i ++ [l[i]] := by rw [List.take_add_one, List.getElem?_eq_getElem hlt]; rfl
    have hc := hb l[i] (List.getElem_mem hlt)
    have hz : bv l[i] >>> 8 = 0#32 := by
      obtain ⟨n, hn⟩ := Int.eq_ofNat_of_zero_le hc.1
      apply BitVec.eq_of_toNat_eq
      rw [hn]
      unfold bv
      rw [BitVec.toNat_ushiftRight, BitVec.ofInt_natCast, BitVec.toNat_ofNat, Nat.shiftRight_eq_div_pow, BitVec.toNat_ofNat]
      rw [Nat.mod_eq_of_lt (by omega)]
      omega
    have hB : Rb 0xFFFFFFFF#32 (B (l.take (i + 1))) = itb 8 (Rb 0xFFFFFFFF#32 (B (l.take i)) ^^^ bv l[i]) := by
      have e1 : B [l[i]] = bitsOf 8 (bv l[i]) := by simp [B]
      rw [ht, B_append, Rb_append, e1, Rb_bits, hz, BitVec.xor_zero]
    simp only [paternosterref02_Of.l0]
    rw [strOfNums_size, if_pos (by omega), if_pos (by omega), bt_str l hb i hlt, bits_bv, bv_nat, bv_mod]
    have e0 : (0 : Int) = ((0 : Nat) : Int) := rfl
    rw [e0]
    refine ref_l1 _ _ K _ 8 0 k _ rfl (by omega) (by omega) (fun k hk => ?_)
    rw [w64 _ (by omega), ← hB, show (i : Int) + 1 = ((i + 1 : Nat) : Int) by omega]
    exact hK k hk
theorem ref_of_ev (l : List Int) (hb : ∀ x ∈ l, 0 ≤ x ∧ x ≤ 255) (hl : l.length ≤ 1000000) : ∃ K, ∀ k, K ≤ k → paternosterref02_Of.f k (strOfNums l) = some ((S l).toNat : Int) := by
  obtain ⟨K, hK⟩ := ref_l0 l hb hl l.length 0 (by omega) (by omega)
  refine ⟨K, fun k hk => ?_⟩
  exact hK k hk
theorem ref_seal_ev (l : List Int) (hb : ∀ x ∈ l, 0 ≤ x ∧ x ≤ 255) (hl : l.length ≤ 100000) : ∃ K, ∀ k, K ≤ k → paternosterref02_Seal.f k (strOfNums l) = some (strOfNums (sealed l)) := by
  obtain ⟨K, hK⟩ := ref_of_ev l hb (by omega)
  have hlt := (S l).isLt
  have hn := num_ev 4 (by omega) ((S l).toNat : Int) (by omega)
  refine ⟨K + 10, fun k hk => ?_⟩
  have h2 : paternosterref01_Num.f k 4 ((S l).toNat : Int) = some (strOfNums (le 4 ((S l).toNat : Int))) := hn k (by omega)
  unfold paternosterref02_Seal.f
  rw [hK k (by omega), Option.bind_some, wu64 _ (by omega), h2, Option.bind_some, strOfNums_size, strOfNums_size, le_length, if_pos (by omega), ← str_app]
  rfl
theorem str_inj (a b : List Int) (ha : ∀ x ∈ a, 0 ≤ x ∧ x ≤ 255) (hb : ∀ x ∈ b, 0 ≤ x ∧ x ≤ 255) (h : (strOfNums a).toList = (strOfNums b).toList) : a = b := by
  rw [Lib.toList_data, Lib.toList_data] at h
  simp only [strOfNums] at h
  have hl : a.length = b.length := by simpa using congrArg List.length h
  apply List.ext_getElem hl
  intro i h1 h2
  have hg : ((a.map fun n => UInt8.ofNat n.toNat))[i]'(by simpa using h1) = ((b.map fun n => UInt8.ofNat n.toNat))[i]'(by simpa using h2) := by simp only [h]
  simp only [List.getElem_map] at hg
  have h3 := congrArg UInt8.toNat hg
  have h4 := ha a[i] (List.getElem_mem h1)
  have h5 := hb b[i] (List.getElem_mem h2)
  simp at h3
  omega
theorem ref_open_ev (l : List Int) (h : 4 ≤ l.length) (hb : ∀ x ∈ l, 0 ≤ x ∧ x ≤ 255) (hl : l.length ≤ 10000) :
    ∃ K, ∀ k, K ≤ k → paternosterref02_Open.f k (strOfNums l) = some (if sealed (l.take (l.length - 4)) = l then (strOfNums (l.take (l.length - 4)), true) else (⟨#[]⟩, false)) := by
  have hbt : ∀ x ∈ l.take (l.length - 4), 0 ≤ x ∧ x ≤ 255 := fun x hx => hb x (List.mem_of_mem_take hx)
  obtain ⟨K, hK⟩ := ref_seal_ev (l.take (l.length - 4)) hbt (by rw [List.length_take]; omega)
  refine ⟨K, fun k hk => ?_⟩
  have hx : (strOfNums l).extract 0 (((l.length : Int) - 4)).toNat = strOfNums (l.take (l.length - 4)) := by
    rw [show ((l.length : Int) - 4).toNat = l.length - 4 by omega, str_extract _ _ _ (by omega), List.drop_zero, Nat.sub_zero]
  unfold paternosterref02_Open.f
  rw [strOfNums_size, if_neg (by omega), w64 _ (by omega), if_pos (by omega), if_pos (by omega), hx, hK k hk, Option.bind_some]
  by_cases he : sealed (l.take (l.length - 4)) = l
  · rw [if_pos he, if_pos (by rw [he])]
  · rw [if_neg he, if_neg (fun hc => he (str_inj _ _ (sealed_range _ hbt) hb hc))]
theorem ref_open_short (l : List Int) (h : l.length < 4) (k : Nat) : paternosterref02_Open.f k (strOfNums l) = some (⟨#[]⟩, false) := by
  unfold paternosterref02_Open.f
  rw [strOfNums_size, if_pos (by omega)]
end Go.Proofs.YtmegcockgohkhaaDoor.Pure
