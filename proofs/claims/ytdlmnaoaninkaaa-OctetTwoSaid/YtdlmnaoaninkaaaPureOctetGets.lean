/- OctetGets, the plain law: what is got of any bytes, or the error, is the document's. No condition. -/
import Derived.Test.YtdlmnaoaninkaaaPAllx12
import Derived.Test.YtdlmnaoaninkaaaPureOctetSizes
set_option linter.unusedVariables false
set_option linter.unusedSimpArgs false
namespace Go.Proofs.Ytdlmnaoaninkaaa.Pure
open Go.RowKit Go.Proofs.Ytdlmnaoaninkaaa.PAll Go.Proofs.YtdlmnaoaninkaaaW.PrintWords Go.Proofs.YtdlmnaoaninkaaaW.PrintLast Go.Proofs.YtdlmnaoaninkaaaW.PrintMore

theorem bt_str (l : List Int) (hb : ∀ x ∈ l, 0 ≤ x ∧ x ≤ 255) (i : Nat) (hi : i < l.length) : bt (strOfNums l) (i : Int) = l[i] := by
  have h := hb l[i] (List.getElem_mem hi)
  unfold bt
  rw [dif_pos (by rw [Int.toNat_natCast, strOfNums_size]; exact hi)]
  have e : ((strOfNums l)[(i : Int).toNat]'(by rw [Int.toNat_natCast, strOfNums_size]; exact hi)) = UInt8.ofNat l[i].toNat := by
    show (l.map fun n => UInt8.ofNat n.toNat).toArray[(i : Int).toNat]'_ = _
    simp
  rw [e]
  simp
  omega
theorem str_drop (l : List Int) (n : Nat) (h : n ≤ l.length) : (strOfNums l).extract n (strOfNums l).size = strOfNums (l.drop n) := by
  apply ByteArray.ext
  apply Array.ext'
  rw [strOfNums_size]
  simp [strOfNums, List.take_of_length_le]
theorem rd_nat (l : List Int) (i : Nat) (hi : i < l.length) : rd l (i : Int) = l[i] := by
  unfold rd; rw [Int.toNat_natCast, List.getD_eq_getElem?_getD, List.getElem?_eq_getElem hi, Option.getD_some]

theorem ref_get_l1 (n : Nat) (h1 : 1 ≤ n) (h8 : n ≤ 8) (l acc : List Int) (hl : n ≤ l.length) (hb : ∀ x ∈ l, 0 ≤ x ∧ x ≤ 255) (hacc : acc.length < 1000000) (K : Nat) (r : List Int × Int)
    (hK : ∀ k, K ≤ k → paternosterref01_Get.l0 k n (strOfNums (l.drop n)) (acc ++ [leNum (l.take n)]) = some r) : ∀ (i : Nat) (k : Nat), i ≤ n → i + K < k →
    paternosterref01_Get.l1 k n (strOfNums l) acc (leNum ((l.take n).drop i)) (wrap64 ((i : Int) - 1)) = some r := by
  intro i
  induction i with
  | zero =>
    intro k hi hk
    obtain ⟨k, rfl⟩ : ∃ m, k = m + 1 := ⟨k - 1, by omega⟩
    simp only [paternosterref01_Get.l1]
    rw [w64 _ (by omega), if_neg (by omega), if_pos (by omega), if_pos (by omega), if_pos (by rw [strOfNums_size]; omega), Int.toNat_natCast, str_drop _ _ hl, List.drop_zero]
    exact hK k (by omega)
  | succ i ih =>
    intro k hi hk
    obtain ⟨k, rfl⟩ : ∃ m, k = m + 1 := ⟨k - 1, by omega⟩
    have hlt : i < l.length := by omega
    have hx := hb l[i] (List.getElem_mem hlt)
    have hcons : (l.take n).drop i = l[i] :: (l.take n).drop (i + 1) := by
      rw [List.drop_eq_getElem_cons (by rw [List.length_take]; omega), List.getElem_take]
    have hr : ∀ x ∈ (l.take n).drop (i + 1), 0 ≤ x ∧ x ≤ 255 := fun x hx => hb x (List.mem_of_mem_take (List.mem_of_mem_drop hx))
    have hlt2 := leNum_lt _ hr
    have hlen : ((l.take n).drop (i + 1)).length = n - (i + 1) := by rw [List.length_drop, List.length_take]; omega
    rw [hlen] at hlt2
    have hp : (256 : Int) ^ (n - (i + 1)) ≤ 256 ^ 7 := by
      rcases (show n - (i + 1) = 0 ∨ n - (i + 1) = 1 ∨ n - (i + 1) = 2 ∨ n - (i + 1) = 3 ∨ n - (i + 1) = 4 ∨ n - (i + 1) = 5 ∨ n - (i + 1) = 6 ∨ n - (i + 1) = 7 by omega) with h | h | h | h | h | h | h | h <;> rw [h] <;> decide
    have hp7 : (256 : Int) ^ 7 = 72057594037927936 := by decide
    simp only [paternosterref01_Get.l1]
    have e : ((i + 1 : Nat) : Int) - 1 = (i : Int) := by omega
    rw [e, w64 _ (by omega), if_pos (by omega), if_pos (by omega), if_pos (by rw [strOfNums_size]; omega), bt_str l hb i hlt]
    rw [wu64 (256 * _) (by omega), wu64 (l[i]) (by omega), wu64 _ (by omega)]
    have h2 := ih k (by omega) (by omega)
    rw [hcons] at h2
    have e2 : leNum (l[i] :: (l.take n).drop (i + 1)) = 256 * leNum ((l.take n).drop (i + 1)) + l[i] := by simp only [leNum]; omega
    rw [e2] at h2
    exact h2

theorem ref_get_l0 (n : Nat) (h1 : 1 ≤ n) (h8 : n ≤ 8) (m : Nat) : ∀ (l acc : List Int), l.length = m * n → (∀ x ∈ l, 0 ≤ x ∧ x ≤ 255) → acc.length + m < 1000000 →
    ∃ K, ∀ k, K ≤ k → paternosterref01_Get.l0 k n (strOfNums l) acc = some (acc ++ gets n m l, 0) := by
  induction m with
  | zero =>
    intro l acc hl hb _
    obtain rfl : l = [] := List.eq_nil_of_length_eq_zero (by omega)
    refine ⟨1, fun k hk => ?_⟩
    obtain ⟨k, rfl⟩ : ∃ m, k = m + 1 := ⟨k - 1, by omega⟩
    simp only [paternosterref01_Get.l0]
    rw [if_pos (by simp [strOfNums, Lib.toList_data])]
    simp [gets]
  | succ m ih =>
    intro l acc hl hb ha
    have hnl : n ≤ l.length := by rw [hl, Nat.add_mul, Nat.one_mul]; omega
    obtain ⟨K, hK⟩ := ih (l.drop n) (acc ++ [leNum (l.take n)]) (by rw [List.length_drop, hl, Nat.add_mul, Nat.one_mul]; omega) (fun x hx => hb x (List.mem_of_mem_drop hx)) (by simp; omega)
    refine ⟨n + K + 2, fun k hk => ?_⟩
    obtain ⟨k, rfl⟩ : ∃ m, k = m + 1 := ⟨k - 1, by omega⟩
    simp only [paternosterref01_Get.l0]
    have hne : (strOfNums l).toList ≠ [] := by
      intro h
      have h2 : (strOfNums l).toList.length = l.length := by rw [Lib.toList_data]; simp [strOfNums]
      rw [h] at h2
      simp only [List.length_nil] at h2
      omega
    rw [if_neg hne]
    have h0 := ref_get_l1 n h1 h8 l acc hnl hb (by omega) K _ hK n k (Nat.le_refl _) (by omega)
    rw [List.drop_of_length_le (by rw [List.length_take]; omega)] at h0
    have e : acc ++ gets n (m + 1) l = acc ++ [leNum (l.take n)] ++ gets n m (l.drop n) := by
      rw [List.append_assoc]
      congr 1
      unfold gets
      rw [List.range_succ_eq_map, List.map_cons, List.map_map, Nat.zero_mul, List.drop_zero]
      show _ = _ :: _
      congr 1
      apply List.map_congr_left
      intro j _
      simp only [Function.comp, List.drop_drop]
      congr 3
      rw [Nat.succ_mul, Nat.add_comm]
    rw [e]
    exact h0

/-- What the document's Get tells. -/
theorem ref_get_ev (n : Nat) (h1 : 1 ≤ n) (h8 : n ≤ 8) (l : List Int) (hm : (l.length : Int) % n = 0) (hb : ∀ x ∈ l, 0 ≤ x ∧ x ≤ 255) (hl : l.length < 1000000) :
    ∃ K, ∀ k, K ≤ k → paternosterref01_Get.f k n (strOfNums l) = some (gets n (l.length / n) l, 0) := by
  have hd : l.length = l.length / n * n := by
    have h2 : l.length % n = 0 := by exact_mod_cast hm
    have := Nat.div_add_mod l.length n
    rw [h2, Nat.add_zero, Nat.mul_comm] at this
    exact this.symm
  have hq : l.length / n ≤ l.length := Nat.div_le_self _ _
  obtain ⟨K, hK⟩ := ref_get_l0 n h1 h8 (l.length / n) l [] hd hb (by rw [List.length_nil]; omega)
  refine ⟨K + 1, fun k hk => ?_⟩
  obtain ⟨k, rfl⟩ : ∃ m, k = m + 1 := ⟨k - 1, by omega⟩
  unfold paternosterref01_Get.f
  rw [if_neg (by omega), decide_eq_false (by omega)]
  simp only [paternosterref01_Get.j0]
  rw [if_neg (by decide), if_neg (by omega), strOfNums_size, if_neg (by omega), hK k (by omega), List.nil_append]
theorem ref_get_short (n : Nat) (h1 : 1 ≤ n) (h8 : n ≤ 8) (l : List Int) (hm : (l.length : Int) % n ≠ 0) (k : Nat) (hk : 1 ≤ k) : paternosterref01_Get.f k n (strOfNums l) = some ([], 10) := by
  obtain ⟨k, rfl⟩ : ∃ m, k = m + 1 := ⟨k - 1, by omega⟩
  unfold paternosterref01_Get.f
  rw [if_neg (by omega), decide_eq_false (by omega)]
  simp only [paternosterref01_Get.j0]
  have := Int.emod_nonneg (l.length : Int) (show (n : Int) ≠ 0 by omega)
  rw [if_neg (by decide), if_neg (by omega), strOfNums_size, if_pos (by omega)]
theorem ref_get_bad (a0 : Int) (h : a0 < 1 ∨ 8 < a0) (b : ByteArray) (k : Nat) (hk : 1 ≤ k) : paternosterref01_Get.f k a0 b = some ([], 1) := by
  obtain ⟨k, rfl⟩ : ∃ m, k = m + 1 := ⟨k - 1, by omega⟩
  unfold paternosterref01_Get.f
  rcases Classical.em (a0 < 1) with h1 | h1
  · rw [if_pos h1]; simp only [paternosterref01_Get.j0]; rw [if_pos trivial]
  · rw [if_neg h1, decide_eq_true (by omega)]; simp only [paternosterref01_Get.j0]; rw [if_pos trivial]

theorem gets_law_l0 (x : List Int) (hx : x.length < 1000000) (d : Nat) : ∀ (i k : Nat), x.length - i = d → i ≤ x.length → d < k → paternosterlaw01_OctetGets.l0 k x x (i : Int) = some true := by
  induction d with
  | zero =>
    intro i k hd hi hk
    obtain ⟨k, rfl⟩ : ∃ m, k = m + 1 := ⟨k - 1, by omega⟩
    simp only [paternosterlaw01_OctetGets.l0]
    rw [if_neg (by omega)]
  | succ d ih =>
    intro i k hd hi hk
    obtain ⟨k, rfl⟩ : ∃ m, k = m + 1 := ⟨k - 1, by omega⟩
    simp only [paternosterlaw01_OctetGets.l0]
    rw [if_pos (by omega), if_pos (by omega), if_pos (by omega), if_pos trivial, w64 _ (by omega)]
    exact_mod_cast ih (i + 1) k (by omega) (by omega) (by omega)
theorem gets_law_j0 (x : List Int) (hx : x.length < 1000000) : ∀ k, x.length + 2 ≤ k → paternosterlaw01_OctetGets.j0 k x x false = some true := by
  intro k hk
  obtain ⟨k, rfl⟩ : ∃ m, k = m + 1 := ⟨k - 1, by omega⟩
  simp only [paternosterlaw01_OctetGets.j0]
  rw [if_neg (by decide)]
  exact gets_law_l0 x hx x.length 0 k (by omega) (by omega) (by omega)

/-- The law: true for every size and every bytes. -/
theorem OctetGets (a0 : Int) (l1 : List Int) (w1 : ∀ x ∈ l1, (Lit.int .u8 x).wf = true) : ∃ k, paternosterlaw01_OctetGets.f k a0 l1 = some true := by
  have hb : ∀ x ∈ l1, 0 ≤ x ∧ x ≤ 255 := fun x hx => by
    have := w1 x hx
    simp [Lit.wf, IntKind.min, IntKind.max, IntKind.signed, IntKind.bits] at this
    omega
  unfold paternosterlaw01_OctetGets.f paternosterlaw01_awake.f
  simp only [Option.bind_some, if_true]
  by_cases hl : (l1.length : Int) > 300
  · exact ⟨0, by rw [if_pos hl]⟩
  simp only [if_neg hl]
  by_cases hx : a0 < 1 ∨ 8 < a0
  · refine ⟨2, ?_⟩
    rw [get_bad a0 hx, ref_get_bad a0 hx _ 2 (by omega)]
    simp only [Option.bind_some]
    exact gets_law_j0 [] (by decide) 2 (by decide)
  obtain ⟨n, rfl⟩ := Int.eq_ofNat_of_zero_le (show 0 ≤ a0 by omega)
  by_cases hm : (l1.length : Int) % n = 0
  · obtain ⟨K, hK⟩ := ref_get_ev n (by omega) (by omega) l1 hm hb (by omega)
    have hq : l1.length / n ≤ l1.length := Nat.div_le_self _ _
    refine ⟨K + 400, ?_⟩
    rw [get_good n (by omega) (by omega) l1 hm (by omega) hb, hK _ (by omega)]
    simp only [Option.bind_some]
    rw [if_pos trivial]
    have := gets_law_j0 (gets n (l1.length / n) l1) (by rw [gets_length]; omega) (K + 400) (by rw [gets_length]; omega)
    simpa using this
  · refine ⟨2, ?_⟩
    rw [get_short n (by omega) (by omega) l1 hm, ref_get_short n (by omega) (by omega) l1 hm 2 (by omega)]
    simp only [Option.bind_some]
    exact gets_law_j0 [] (by decide) 2 (by decide)
end Go.Proofs.Ytdlmnaoaninkaaa.Pure
