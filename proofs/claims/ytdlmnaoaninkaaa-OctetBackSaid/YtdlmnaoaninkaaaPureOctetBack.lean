/- OctetBack, the plain law: what is put is got as it was, of numbers that fit; what is joined is parted; cut anywhere it is short, or fewer rows. No condition. -/
import Derived.Test.YtdlmnaoaninkaaaPAllx16
import Derived.Test.YtdlmnaoaninkaaaJoin
set_option linter.unusedVariables false
set_option linter.unusedSimpArgs false
namespace Go.Proofs.Ytdlmnaoaninkaaa.Pure
open Go.RowKit Go.Proofs.Ytdlmnaoaninkaaa.PAll Go.Proofs.YtdlmnaoaninkaaaW.PrintWords Go.Proofs.YtdlmnaoaninkaaaW.PrintLast Go.Proofs.YtdlmnaoaninkaaaW.PrintMore

theorem part_ev' (l : List Int) (hl : l.length ≤ 1000000) (hb : ∀ x ∈ l, 0 ≤ x ∧ x ≤ 255) : octet_Part.f l = some ((partsF l.length l).getD [], if (partsF l.length l).isSome then 0 else 10) := by
  unfold octet_Part.f; rw [if_pos ⟨by omega, hb⟩]

theorem back_end (x2 : List (List Int)) (hr : ∀ r ∈ x2, r.length ≤ 600) (hn : x2.length ≤ 20) (hb : ∀ x ∈ joinF x2, 0 ≤ x ∧ x ≤ 255) (x3 : Int) (h3 : 0 ≤ x3 ∧ x3 ≤ 65535) (x16 : List (List Int)) (k : Nat) (hk : 1 ≤ k) :
    paternosterlaw01_OctetBack.l3 k x2 x3 (joinF x2) x16 (x2.length : Int) = some true := by
  obtain ⟨k, rfl⟩ : ∃ m, k = m + 1 := ⟨k - 1, by omega⟩
  have hl := joinF_length_le 600 x2 hr
  simp only [paternosterlaw01_OctetBack.l3]
  rw [if_neg (by omega), w64 (_ + 1) (by omega), w64 x3 (by omega), if_neg (by omega)]
  have ht : Int.tmod x3 (((joinF x2).length : Int) + 1) = x3 % (((joinF x2).length : Int) + 1) := Int.tmod_eq_emod_of_nonneg h3.1
  have hm1 := Int.emod_nonneg x3 (show (((joinF x2).length : Int) + 1) ≠ 0 by omega)
  have hm2 := Int.emod_lt_of_pos x3 (show (0 : Int) < ((joinF x2).length : Int) + 1 by omega)
  rw [ht, if_pos hm1, if_pos (by omega)]
  generalize (x3 % (((joinF x2).length : Int) + 1)).toNat = m
  have hlt : ((joinF x2).take m).length ≤ (joinF x2).length := by rw [List.length_take]; omega
  rw [part_ev' _ (by omega) (fun x hx => hb x (List.mem_of_mem_take hx))]
  simp only [Option.bind_some]
  rcases hp : partsF ((joinF x2).take m).length ((joinF x2).take m) with _ | ps
  · simp
  · have := parts_cut x2 (fun r h => by have := hr r h; omega) _ m ps hp
    simp
    omega

theorem back_l3 (x2 : List (List Int)) (hr : ∀ r ∈ x2, r.length ≤ 600) (hn : x2.length ≤ 20) (hb : ∀ x ∈ joinF x2, 0 ≤ x ∧ x ≤ 255) (x3 : Int) (h3 : 0 ≤ x3 ∧ x3 ≤ 65535) (d : Nat) : ∀ (j k : Nat), x2.length - j = d → j ≤ x2.length → d < k →
    paternosterlaw01_OctetBack.l3 k x2 x3 (joinF x2) x2 (j : Int) = some true := by
  induction d with
  | zero =>
    intro j k hd hj hk
    obtain rfl : j = x2.length := by omega
    exact back_end x2 hr hn hb x3 h3 x2 k (by omega)
  | succ d ih =>
    intro j k hd hj hk
    obtain ⟨k, rfl⟩ : ∃ m, k = m + 1 := ⟨k - 1, by omega⟩
    simp only [paternosterlaw01_OctetBack.l3]
    rw [if_pos (by omega), if_pos (by omega), if_pos (by omega), if_pos trivial, w64 _ (by omega)]
    exact_mod_cast ih (j + 1) k (by omega) (by omega) (by omega)

theorem back_l2 (x1 : List Int) (h1 : x1.length ≤ 60) (x2 : List (List Int)) (hr : ∀ r ∈ x2, r.length ≤ 600) (hn : x2.length ≤ 20) (hb : ∀ x ∈ joinF x2, 0 ≤ x ∧ x ≤ 255) (x3 : Int) (h3 : 0 ≤ x3 ∧ x3 ≤ 65535) (d : Nat) : ∀ (j k : Nat), x1.length - j = d → j ≤ x1.length → d + 30 < k →
    paternosterlaw01_OctetBack.l2 k x1 x2 x3 x1 (joinF x2) x2 (j : Int) = some true := by
  induction d with
  | zero =>
    intro j k hd hj hk
    obtain ⟨k, rfl⟩ : ∃ m, k = m + 1 := ⟨k - 1, by omega⟩
    simp only [paternosterlaw01_OctetBack.l2]
    rw [if_neg (by omega)]
    exact back_l3 x2 hr hn hb x3 h3 x2.length 0 k (by omega) (by omega) (by omega)
  | succ d ih =>
    intro j k hd hj hk
    obtain ⟨k, rfl⟩ : ∃ m, k = m + 1 := ⟨k - 1, by omega⟩
    simp only [paternosterlaw01_OctetBack.l2]
    rw [if_pos (by omega), if_pos (by omega), if_pos (by omega), if_pos trivial, w64 _ (by omega)]
    exact_mod_cast ih (j + 1) k (by omega) (by omega) (by omega)

theorem back_mid (x1 : List Int) (h1 : x1.length ≤ 60) (x2 : List (List Int)) (hr : ∀ r ∈ x2, r.length ≤ 600) (hn : x2.length ≤ 20) (hb2 : ∀ r ∈ x2, ∀ x ∈ r, 0 ≤ x ∧ x ≤ 255) (x3 : Int) (h3 : 0 ≤ x3 ∧ x3 ≤ 65535)
    (n : Nat) (hn1 : 1 ≤ n) (hn8 : n ≤ 8) (hb1 : ∀ x ∈ x1, 0 ≤ x ∧ x ≤ 18446744073709551615) (hf : ∀ x ∈ x1, x < 2 ^ (8 * n)) :
    ∃ K, ∀ k, K ≤ k → ((octet_Put.f k n x1).bind fun t178 => ((octet_Get.f n t178).bind fun bt181 => ((octet_Join.f k x2).bind fun t185 => ((octet_Part.f t185).bind fun bt188 => (if bt181.2 = 0 then (if bt188.2 = 0 then (if (bt181.1.length : Int) = (x1.length : Int) then (paternosterlaw01_OctetBack.j3 k x1 x2 x3 bt181.1 t185 bt188.1 ((bt188.1.length : Int) != (x2.length : Int))) else (paternosterlaw01_OctetBack.j3 k x1 x2 x3 bt181.1 t185 bt188.1 true)) else (paternosterlaw01_OctetBack.j3 k x1 x2 x3 bt181.1 t185 bt188.1 true)) else (paternosterlaw01_OctetBack.j3 k x1 x2 x3 bt181.1 t185 bt188.1 true)))))) = some true := by
  have hr' : ∀ r ∈ x2, r.length ≤ 65535 := fun r h => by have := hr r h; omega
  have hjb := joinF_range x2 hb2
  have hjl := joinF_length_le 600 x2 hr
  obtain ⟨K1, hK1⟩ := put_ev n hn1 hn8 x1 (by omega)
  obtain ⟨K2, hK2⟩ := join_ev x2 hr' (by omega)
  have hpl := puts_length n x1
  have hml : n * x1.length ≤ 8 * x1.length := Nat.mul_le_mul_right _ hn8
  have hget : octet_Get.f n (puts n x1) = some (x1, 0) := by
    have hm : (((puts n x1).length : Nat) : Int) % n = 0 := by rw [hpl]; push_cast; exact Int.mul_emod_right _ _
    rw [get_good n hn1 hn8 _ hm (by omega) (puts_range n x1), hpl, Nat.mul_div_cancel_left _ (by omega), gets_puts n x1 (fun x hx => (hb1 x hx).1)]
    congr 2
    conv => rhs; rw [← List.map_id x1]
    apply List.map_congr_left
    intro x hx
    exact Int.emod_eq_of_lt (hb1 x hx).1 (hf x hx)
  refine ⟨K1 + K2 + 100, fun k hk => ?_⟩
  rw [hK1 k (by omega), hK2 k (by omega)]
  simp only [Option.bind_some]
  rw [hget]
  simp only [Option.bind_some]
  rw [part_ev' _ (by omega) hjb, parts_join x2 hr' _ (Nat.le_refl _)]
  obtain ⟨k, rfl⟩ : ∃ m, k = m + 1 := ⟨k - 1, by omega⟩
  simp only [Option.bind_some, Option.getD_some, Option.isSome_some, if_true]
  simp only [paternosterlaw01_OctetBack.j3]
  rw [if_neg (by simp)]
  exact back_l2 x1 h1 x2 hr hn hjb x3 h3 x1.length 0 k (by omega) (by omega) (by omega)

theorem back_l1 (x1 : List Int) (h1 : x1.length ≤ 60) (x2 : List (List Int)) (hn : x2.length ≤ 20) (hb2 : ∀ r ∈ x2, ∀ x ∈ r, 0 ≤ x ∧ x ≤ 255) (x3 : Int) (h3 : 0 ≤ x3 ∧ x3 ≤ 65535)
    (n : Nat) (hn1 : 1 ≤ n) (hn8 : n ≤ 8) (hb1 : ∀ x ∈ x1, 0 ≤ x ∧ x ≤ 18446744073709551615) (hf : ∀ x ∈ x1, x < 2 ^ (8 * n)) (d : Nat) : ∀ (j : Nat), x2.length - j = d → j ≤ x2.length → (∀ r ∈ x2.take j, r.length ≤ 600) →
    ∃ K, ∀ k, K ≤ k → paternosterlaw01_OctetBack.l1 k x1 x2 x3 n (j : Int) = some true := by
  induction d with
  | zero =>
    intro j hd hj hr
    rw [List.take_of_length_le (by omega)] at hr
    obtain ⟨K, hK⟩ := back_mid x1 h1 x2 hr hn hb2 x3 h3 n hn1 hn8 hb1 hf
    refine ⟨K + 1, fun k hk => ?_⟩
    obtain ⟨k, rfl⟩ : ∃ m, k = m + 1 := ⟨k - 1, by omega⟩
    simp only [paternosterlaw01_OctetBack.l1]
    rw [if_neg (by omega)]
    exact hK k (by omega)
  | succ d ih =>
    intro j hd hj hr
    have hlt : j < x2.length := by omega
    by_cases hbig : ((x2[j]).length : Int) > 600
    · refine ⟨1, fun k hk => ?_⟩
      obtain ⟨k, rfl⟩ : ∃ m, k = m + 1 := ⟨k - 1, by omega⟩
      simp only [paternosterlaw01_OctetBack.l1]
      rw [if_pos (by omega), if_pos (by omega), rdL2_nat x2 j hlt, if_pos hbig]
    have ht : x2.take (j + 1) = x2.take j ++ [x2[j]] := by rw [List.take_add_one, List.getElem?_eq_getElem hlt]; rfl
    obtain ⟨K, hK⟩ := ih (j + 1) (by omega) (by omega) (by
      intro r h
      rw [ht, List.mem_append, List.mem_singleton] at h
      rcases h with h | rfl
      · exact hr r h
      · omega)
    refine ⟨K + 1, fun k hk => ?_⟩
    obtain ⟨k, rfl⟩ : ∃ m, k = m + 1 := ⟨k - 1, by omega⟩
    simp only [paternosterlaw01_OctetBack.l1]
    rw [if_pos (by omega), if_pos (by omega), rdL2_nat x2 j hlt, if_neg hbig, w64 _ (by omega)]
    exact_mod_cast hK k (by omega)

theorem back_l0 (x1 : List Int) (h1 : x1.length ≤ 60) (x2 : List (List Int)) (hn : x2.length ≤ 20) (hb2 : ∀ r ∈ x2, ∀ x ∈ r, 0 ≤ x ∧ x ≤ 255) (x3 : Int) (h3 : 0 ≤ x3 ∧ x3 ≤ 65535)
    (n : Nat) (hn1 : 1 ≤ n) (hn8 : n ≤ 8) (hb1 : ∀ x ∈ x1, 0 ≤ x ∧ x ≤ 18446744073709551615) (d : Nat) : ∀ (j : Nat), x1.length - j = d → j ≤ x1.length → (∀ x ∈ x1.take j, x < 2 ^ (8 * n)) →
    ∃ K, ∀ k, K ≤ k → paternosterlaw01_OctetBack.l0 k x1 x2 x3 n (j : Int) = some true := by
  induction d with
  | zero =>
    intro j hd hj hf
    rw [List.take_of_length_le (by omega)] at hf
    obtain ⟨K, hK⟩ := back_l1 x1 h1 x2 hn hb2 x3 h3 n hn1 hn8 hb1 hf x2.length 0 (by omega) (by omega) (by simp)
    refine ⟨K + 1, fun k hk => ?_⟩
    obtain ⟨k, rfl⟩ : ∃ m, k = m + 1 := ⟨k - 1, by omega⟩
    simp only [paternosterlaw01_OctetBack.l0]
    rw [if_neg (by omega)]
    exact hK k (by omega)
  | succ d ih =>
    intro j hd hj hf
    have hlt : j < x1.length := by omega
    have hx := hb1 x1[j] (List.getElem_mem hlt)
    have ht : x1.take (j + 1) = x1.take j ++ [x1[j]] := by rw [List.take_add_one, List.getElem?_eq_getElem hlt]; rfl
    have step (h : x1[j] < 2 ^ (8 * n)) := ih (j + 1) (by omega) (by omega) (by
      intro r hr
      rw [ht, List.mem_append, List.mem_singleton] at hr
      rcases hr with hr | rfl
      · exact hf r hr
      · exact h)
    have hp : (0 : Int) < 2 ^ (8 * n) := Int.pow_pos (by decide)
    by_cases h8 : n = 8
    · subst h8
      have hp8 : (2 : Int) ^ (8 * 8) = 18446744073709551616 := by decide
      obtain ⟨K, hK⟩ := step (by rw [hp8]; omega)
      refine ⟨K + 1, fun k hk => ?_⟩
      obtain ⟨k, rfl⟩ : ∃ m, k = m + 1 := ⟨k - 1, by omega⟩
      simp only [paternosterlaw01_OctetBack.l0]
      rw [if_pos (by omega), if_neg (by omega), w64 _ (by omega)]
      exact_mod_cast hK k (by omega)
    have hs : shr .u64 x1[j] (IntKind.u64.wrap (wrap64 (8 * (n : Int)))) = x1[j] / 2 ^ (8 * n) := by
      rw [w64 _ (by omega), wu64 _ (by omega)]
      unfold shr
      rw [show min (8 * (n : Int)).toNat IntKind.u64.bits = 8 * n by simp [IntKind.bits]; omega]
    have hge : 0 ≤ IntKind.u64.wrap (wrap64 (8 * (n : Int))) := by rw [w64 _ (by omega), wu64 _ (by omega)]; omega
    by_cases hfit : x1[j] < 2 ^ (8 * n)
    · obtain ⟨K, hK⟩ := step hfit
      refine ⟨K + 1, fun k hk => ?_⟩
      obtain ⟨k, rfl⟩ : ∃ m, k = m + 1 := ⟨k - 1, by omega⟩
      simp only [paternosterlaw01_OctetBack.l0]
      rw [if_pos (by omega), if_pos (by omega), if_pos (by omega), if_pos hge, rd_nat x1 j hlt, hs, Int.ediv_eq_zero_of_lt hx.1 hfit, if_neg (by omega), w64 _ (by omega)]
      exact_mod_cast hK k (by omega)
    · refine ⟨1, fun k hk => ?_⟩
      obtain ⟨k, rfl⟩ : ∃ m, k = m + 1 := ⟨k - 1, by omega⟩
      have hpos : 0 < x1[j] / 2 ^ (8 * n) := by have := (Int.le_ediv_iff_mul_le (a := 1) (b := x1[j]) hp).2 (by rw [Int.one_mul]; omega); omega
      simp only [paternosterlaw01_OctetBack.l0]
      rw [if_pos (by omega), if_pos (by omega), if_pos (by omega), if_pos hge, rd_nat x1 j hlt, hs, if_pos hpos]

/-- The law: true for every size, numbers, rows and cut. -/
theorem OctetBack (a0 : Int) (l1 : List Int) (l2 : List (List Int)) (a3 : Int) (w0 : (Lit.int .u8 a0).wf = true) (w1 : ∀ x ∈ l1, (Lit.int .u64 x).wf = true) (w2 : ∀ r ∈ l2, ∀ x ∈ r, (Lit.int .u8 x).wf = true) (w3 : (Lit.int .u16 a3).wf = true) :
    ∃ k, paternosterlaw01_OctetBack.f k a0 l1 l2 a3 = some true := by
  have b0 := Go.bounds_u8 w0
  have b3 := Go.bounds_u16 w3
  unfold paternosterlaw01_OctetBack.f paternosterlaw01_awake.f
  simp only [Option.bind_some, if_true]
  by_cases h1 : (l1.length : Int) > 60
  · exact ⟨1, by rw [if_pos h1]; simp only [paternosterlaw01_OctetBack.j0, if_true]⟩
  simp only [if_neg h1]
  by_cases h2 : (l2.length : Int) > 20
  · exact ⟨1, by rw [decide_eq_true h2]; simp only [paternosterlaw01_OctetBack.j0, if_true]⟩
  have hn : wrap64 (wrap64 (Int.tmod a0 8) + 1) = (((a0 % 8).toNat + 1 : Nat) : Int) := by
    rw [Int.tmod_eq_emod_of_nonneg b0.1, w64 (a0 % 8) (by omega), w64 _ (by omega)]; omega
  rw [decide_eq_false h2, hn]
  obtain ⟨K, hK⟩ := back_l0 l1 (by omega) l2 (by omega) (fun r hr x hx => Go.bounds_u8 (w2 r hr x hx)) a3 (by omega) ((a0 % 8).toNat + 1) (by omega) (by omega) (fun x hx => Go.bounds_u64 (w1 x hx)) l1.length 0 (by omega) (by omega) (by simp)
  refine ⟨K + 1, ?_⟩
  simp only [paternosterlaw01_OctetBack.j0]
  rw [if_neg (by decide)]
  exact hK K (Nat.le_refl _)
end Go.Proofs.Ytdlmnaoaninkaaa.Pure
