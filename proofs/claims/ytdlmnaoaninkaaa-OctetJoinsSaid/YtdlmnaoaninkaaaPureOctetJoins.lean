/- OctetJoins, the plain law: the bytes of rows, and the rows of bytes, or the error, are the document's. No condition. -/
import Derived.Test.YtdlmnaoaninkaaaPAllx15
import Derived.Test.YtdlmnaoaninkaaaJoin
set_option linter.unusedVariables false
set_option linter.unusedSimpArgs false
namespace Go.Proofs.Ytdlmnaoaninkaaa.Pure
open Go.RowKit Go.Proofs.Ytdlmnaoaninkaaa.PAll Go.Proofs.YtdlmnaoaninkaaaW.PrintWords Go.Proofs.YtdlmnaoaninkaaaW.PrintLast Go.Proofs.YtdlmnaoaninkaaaW.PrintMore

theorem part_ev (l : List Int) (hl : l.length ≤ 1000000) (hb : ∀ x ∈ l, 0 ≤ x ∧ x ≤ 255) : octet_Part.f l = some ((partsF l.length l).getD [], if (partsF l.length l).isSome then 0 else 10) := by
  unfold octet_Part.f; rw [if_pos ⟨by omega, hb⟩]
theorem rdOf_nat (l : List ByteArray) (i : Nat) (hi : i < l.length) : rdOf ByteArray.empty l (i : Int) = l[i] := by
  unfold rdOf; rw [Int.toNat_natCast, List.getD_eq_getElem?_getD, List.getElem?_eq_getElem hi, Option.getD_some]

theorem joins_l1 (x0 ps : List (List Int)) (hr : ∀ r ∈ x0, r.length ≤ 65535) (hn : x0.length ≤ 20) (hps : ps.length ≤ 1000000) (d : Nat) : ∀ (j : Nat), ps.length - j = d → j ≤ ps.length →
    ∃ K, ∀ k, K ≤ k → paternosterlaw01_OctetJoins.l1 k x0 (strOfNums (joinF x0)) ps (ps.map strOfNums) (j : Int) = some true := by
  induction d with
  | zero =>
    intro j hd hj
    obtain ⟨K, hK⟩ := join_ev x0 hr (by omega)
    refine ⟨K + 1, fun k hk => ?_⟩
    obtain ⟨k, rfl⟩ : ∃ m, k = m + 1 := ⟨k - 1, by omega⟩
    simp only [paternosterlaw01_OctetJoins.l1]
    rw [if_neg (by omega), hK k (by omega)]
    simp
  | succ d ih =>
    intro j hd hj
    obtain ⟨K, hK⟩ := ih (j + 1) (by omega) (by omega)
    refine ⟨K + 1, fun k hk => ?_⟩
    obtain ⟨k, rfl⟩ : ∃ m, k = m + 1 := ⟨k - 1, by omega⟩
    have hlt : j < ps.length := by omega
    simp only [paternosterlaw01_OctetJoins.l1]
    rw [if_pos (by omega), if_pos (by omega), if_pos (by rw [List.length_map]; omega), rdL2_nat ps j hlt, rdOf_nat _ j (by rw [List.length_map]; omega), if_pos (by rw [List.getElem_map]), w64 _ (by omega)]
    exact_mod_cast hK k (by omega)

theorem joins_tail (x0 : List (List Int)) (x1 : List Int) (hr : ∀ r ∈ x0, r.length ≤ 65535) (hn : x0.length ≤ 20) (h1 : x1.length ≤ 600) (hb : ∀ x ∈ x1, 0 ≤ x ∧ x ≤ 255) :
    ∃ K, ∀ k, K ≤ k → ((octet_Part.f x1).bind fun bt162 => ((paternosterref01_Part.f k (strOfNums x1)).bind fun bt166 => (if (bt162.1.length : Int) = (bt166.1.length : Int) then (paternosterlaw01_OctetJoins.j2 k x0 (strOfNums (joinF x0)) bt162.1 bt166.1 (bt162.2 != bt166.2)) else (paternosterlaw01_OctetJoins.j2 k x0 (strOfNums (joinF x0)) bt162.1 bt166.1 true)))) = some true := by
  obtain ⟨K, hK⟩ := ref_part_l0 x1.length x1 [] (Nat.le_refl _) hb (by omega) (by rw [List.length_nil]; omega)
  rw [part_ev x1 (by omega) hb]
  simp only [Option.bind_some]
  unfold paternosterref01_Part.f
  have hlen : ∀ fu (l : List Int) (p : List (List Int)), partsF fu l = some p → p.length ≤ fu := by
    intro fu
    induction fu with
    | zero => intro l p h; cases l <;> simp [partsF] at h; subst h; simp
    | succ fu ih =>
      intro l p h
      rcases l with _ | ⟨a, _ | ⟨b, r⟩⟩
      · simp [partsF] at h; subst h; simp
      · simp [partsF] at h
      · simp only [partsF] at h
        split at h
        · rcases hp : partsF fu (r.drop (a + 256 * b).toNat) with _ | p'
          · rw [hp] at h; simp at h
          · rw [hp] at h; simp only [Option.map_some, Option.some.injEq] at h; subst h
            have := ih _ _ hp
            simp only [List.length_cons]; omega
        · simp at h
  rcases hp : partsF x1.length x1 with _ | ps
  · rw [hp] at hK
    obtain ⟨K2, hK2⟩ := joins_l1 x0 [] hr hn (by simp) 0 0 rfl (by simp)
    refine ⟨K + K2 + 1, fun k hk => ?_⟩
    rw [hK k (by omega)]
    obtain ⟨k, rfl⟩ : ∃ m, k = m + 1 := ⟨k - 1, by omega⟩
    simp only [Option.bind_some, refRes, Option.getD_none]
    rw [if_pos (by simp)]
    simp only [paternosterlaw01_OctetJoins.j2]
    rw [if_neg (by decide)]
    exact hK2 k (by omega)
  · rw [hp] at hK
    have hl := hlen _ _ _ hp
    obtain ⟨K2, hK2⟩ := joins_l1 x0 ps hr hn (by omega) ps.length 0 (by omega) (by omega)
    refine ⟨K + K2 + 1, fun k hk => ?_⟩
    rw [hK k (by omega)]
    obtain ⟨k, rfl⟩ : ∃ m, k = m + 1 := ⟨k - 1, by omega⟩
    simp only [Option.bind_some, refRes, Option.getD_some, List.nil_append]
    rw [if_pos (by rw [List.length_map])]
    simp only [paternosterlaw01_OctetJoins.j2]
    rw [if_neg (by simp)]
    exact hK2 k (by omega)

theorem joins_l0 (x0 : List (List Int)) (x1 : List Int) (hn : x0.length ≤ 20) (h1 : x1.length ≤ 600) (hb : ∀ x ∈ x1, 0 ≤ x ∧ x ≤ 255) (d : Nat) : ∀ (j : Nat), x0.length - j = d → j ≤ x0.length → (∀ r ∈ x0.take j, r.length ≤ 600) →
    ∃ K, ∀ k, K ≤ k → paternosterlaw01_OctetJoins.l0 k x0 x1 (strOfNums (joinF (x0.take j))) (j : Int) = some true := by
  induction d with
  | zero =>
    intro j hd hj hr
    rw [List.take_of_length_le (by omega)] at hr ⊢
    obtain ⟨K, hK⟩ := joins_tail x0 x1 (fun r h => by have := hr r h; omega) hn h1 hb
    refine ⟨K + 1, fun k hk => ?_⟩
    obtain ⟨k, rfl⟩ : ∃ m, k = m + 1 := ⟨k - 1, by omega⟩
    simp only [paternosterlaw01_OctetJoins.l0]
    rw [if_neg (by omega)]
    exact hK k (by omega)
  | succ d ih =>
    intro j hd hj hr
    have hlt : j < x0.length := by omega
    by_cases hbig : ((x0[j]).length : Int) > 600
    · refine ⟨1, fun k hk => ?_⟩
      obtain ⟨k, rfl⟩ : ∃ m, k = m + 1 := ⟨k - 1, by omega⟩
      simp only [paternosterlaw01_OctetJoins.l0]
      rw [if_pos (by omega), if_pos (by omega), rdL2_nat x0 j hlt, if_pos hbig]
    have ht : x0.take (j + 1) = x0.take j ++ [x0[j]] := by rw [List.take_add_one, List.getElem?_eq_getElem hlt]; rfl
    obtain ⟨K, hK⟩ := ih (j + 1) (by omega) (by omega) (by
      intro r h
      rw [ht, List.mem_append, List.mem_singleton] at h
      rcases h with h | rfl
      · exact hr r h
      · omega)
    refine ⟨K + 1, fun k hk => ?_⟩
    obtain ⟨k, rfl⟩ : ∃ m, k = m + 1 := ⟨k - 1, by omega⟩
    have hsz := joinF_length_le 600 (x0.take j) hr
    have htl : (x0.take j).length ≤ 20 := by rw [List.length_take]; omega
    simp only [paternosterlaw01_OctetJoins.l0]
    rw [if_pos (by omega), if_pos (by omega), rdL2_nat x0 j hlt, if_neg hbig, row_ev _ (by omega)]
    simp only [Option.bind_some]
    rw [strOfNums_size, strOfNums_size, rowB_length, if_pos (by omega), w64 _ (by omega), ← str_app]
    have e : joinF (x0.take j) ++ rowB x0[j] = joinF (x0.take (j + 1)) := by rw [ht, joinF_append]; simp [joinF]
    rw [e]
    exact_mod_cast hK k (by omega)

/-- The law: true for every rows and every bytes. -/
theorem OctetJoins (l0 : List (List Int)) (l1 : List Int) (w1 : ∀ x ∈ l1, (Lit.int .u8 x).wf = true) : ∃ k, paternosterlaw01_OctetJoins.f k l0 l1 = some true := by
  unfold paternosterlaw01_OctetJoins.f paternosterlaw01_awake.f
  simp only [Option.bind_some, if_true]
  by_cases h0 : (l0.length : Int) > 20
  · exact ⟨1, by rw [if_pos h0]; simp only [paternosterlaw01_OctetJoins.j0, if_true]⟩
  simp only [if_neg h0]
  by_cases h1 : (l1.length : Int) > 600
  · exact ⟨1, by rw [decide_eq_true h1]; simp only [paternosterlaw01_OctetJoins.j0, if_true]⟩
  obtain ⟨K, hK⟩ := joins_l0 l0 l1 (by omega) (by omega) (fun x hx => Go.bounds_u8 (w1 x hx)) l0.length 0 (by omega) (by omega) (by simp)
  refine ⟨K + 1, ?_⟩
  rw [decide_eq_false h1]
  simp only [paternosterlaw01_OctetJoins.j0]
  rw [if_neg (by decide)]
  exact hK K (Nat.le_refl _)
end Go.Proofs.Ytdlmnaoaninkaaa.Pure
