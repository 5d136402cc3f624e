/- Plain lemmas on rows that are joined, and parted (no statement stands here). -/
import Derived.Test.YtdlmnaoaninkaaaPureOctetPuts
import Derived.Test.YtdlmnaoaninkaaaPureOctetGets
import Derived.Test.YtdlmnaoaninkaaaPAllx6
import Derived.Test.YtdlmnaoaninkaaaPAllx7
import Derived.Test.YtdlmnaoaninkaaaPAllx13
import Derived.Test.YtdlmnaoaninkaaaPAllx14
set_option linter.unusedVariables false
set_option linter.unusedSimpArgs false
namespace Go.Proofs.Ytdlmnaoaninkaaa.Pure
open Go.RowKit Go.Proofs.Ytdlmnaoaninkaaa.PAll Go.Proofs.YtdlmnaoaninkaaaW.PrintWords Go.Proofs.YtdlmnaoaninkaaaW.PrintLast Go.Proofs.YtdlmnaoaninkaaaW.PrintMore

theorem le_two (x : Int) : le 2 x = [x % 256, x / 256 % 256] := by simp [le, dig, List.range_succ]
def rowB (r : List Int) : List Int := le 2 (r.length : Int) ++ r
def joinF (rows : List (List Int)) : List Int := rows.flatMap rowB
theorem joinF_nil : joinF [] = [] := rfl
theorem joinF_cons (r : List Int) (rs : List (List Int)) : joinF (r :: rs) = rowB r ++ joinF rs := by simp [joinF]
theorem joinF_append (a b : List (List Int)) : joinF (a ++ b) = joinF a ++ joinF b := by simp [joinF]
theorem rowB_length (r : List Int) : (rowB r).length = r.length + 2 := by simp [rowB, le_length]; omega
theorem joinF_length_le (m : Nat) (rows : List (List Int)) (h : ∀ r ∈ rows, r.length ≤ m) : (joinF rows).length ≤ (m + 2) * rows.length := by
  induction rows with
  | nil => simp [joinF]
  | cons r rs ih =>
    have h1 := h r (List.mem_cons_self ..)
    have h2 := ih (fun x hx => h x (List.mem_cons_of_mem _ hx))
    rw [joinF_cons, List.length_append, rowB_length, List.length_cons, Nat.mul_add, Nat.mul_one]
    omega
theorem rowB_range (r : List Int) (h : ∀ x ∈ r, 0 ≤ x ∧ x ≤ 255) : ∀ x ∈ rowB r, 0 ≤ x ∧ x ≤ 255 := by
  intro x hx
  simp only [rowB, List.mem_append] at hx
  rcases hx with hx | hx
  · simp only [le, List.mem_map] at hx
    obtain ⟨i, _, rfl⟩ := hx
    exact dig_range _ _
  · exact h x hx
theorem joinF_range (rows : List (List Int)) (h : ∀ r ∈ rows, ∀ x ∈ r, 0 ≤ x ∧ x ≤ 255) : ∀ x ∈ joinF rows, 0 ≤ x ∧ x ≤ 255 := by
  intro x hx
  simp only [joinF, List.mem_flatMap] at hx
  obtain ⟨r, hr, hx⟩ := hx
  exact rowB_range r (h r hr) x hx

theorem row_ev (r : List Int) (h : r.length ≤ 65535) : paternosterref01_Row.f (strOfNums r) = some (strOfNums (rowB r)) := by
  unfold paternosterref01_Row.f
  rw [strOfNums_size, if_neg (by omega)]
  simp only [Option.bind_some]
  rw [strOfNums_size, if_pos (by simp only [List.length_cons, List.length_nil]; omega), w64 _ (by omega), ← str_app, ← le_two]
  rfl

theorem rdL2_nat (l : List (List Int)) (i : Nat) (hi : i < l.length) : rd_L2 l (i : Int) = l[i] := by
  unfold rd_L2; rw [Int.toNat_natCast, List.getD_eq_getElem?_getD, List.getElem?_eq_getElem hi, Option.getD_some]

theorem join_l0 (rows : List (List Int)) (hr : ∀ r ∈ rows, r.length ≤ 65535) (hn : rows.length ≤ 1000000) (d : Nat) : ∀ (j : Nat) (acc : List Int), rows.length - j = d → j ≤ rows.length → acc.length + 65537 * d ≤ 100000000000 →
    ∃ K, ∀ k, K ≤ k → octet_Join.l0 k acc rows (rows.length : Int) j = some (acc ++ joinF (rows.drop j)) := by
  induction d with
  | zero =>
    intro j acc hd hj hb
    refine ⟨1, fun k hk => ?_⟩
    obtain ⟨k, rfl⟩ : ∃ m, k = m + 1 := ⟨k - 1, by omega⟩
    simp only [octet_Join.l0]
    rw [if_neg (by omega), List.drop_of_length_le (by omega), joinF_nil, List.append_nil]
  | succ d ih =>
    intro j acc hd hj hb
    have hlt : j < rows.length := by omega
    have hrl := hr rows[j] (List.getElem_mem hlt)
    obtain ⟨K, hK⟩ := ih (j + 1) (acc ++ rowB rows[j]) (by omega) (by omega) (by rw [List.length_append, rowB_length]; omega)
    obtain ⟨K2, hK2⟩ := put_ev 2 (by omega) (by omega) [((rows[j]).length : Int)] (by rw [List.length_singleton]; omega)
    refine ⟨K + K2 + 1, fun k hk => ?_⟩
    obtain ⟨k, rfl⟩ : ∃ m, k = m + 1 := ⟨k - 1, by omega⟩
    have hmn : mn ((rows[j]).length : Int) 65535 = ((rows[j]).length : Int) := by unfold mn; first | omega | (split <;> omega)
    have hput := hK2 k (by omega)
    have hp2 : puts 2 [((rows[j]).length : Int)] = le 2 ((rows[j]).length : Int) := by simp [puts]
    rw [hp2] at hput
    have hl2 : (le 2 ((rows[j]).length : Int)).length = 2 := le_length _ _
    simp only [octet_Join.l0]
    rw [if_pos (by omega), if_pos (by omega), if_pos (by omega), rdL2_nat rows j hlt, hmn, if_pos (by omega), if_pos (by omega), Int.toNat_natCast, List.take_length, wu64 _ (by omega)]
    have hput' : octet_Put.f k 2 [((rows[j]).length : Int)] = some (le 2 ((rows[j]).length : Int)) := hput
    rw [hput']
    simp only [Option.bind_some]
    rw [if_pos (by omega), if_pos (by rw [List.length_append]; omega), w64 _ (by omega)]
    have := hK k (by omega)
    rw [List.drop_eq_getElem_cons hlt, joinF_cons]
    simp only [rowB, List.append_assoc] at this ⊢
    exact_mod_cast this
theorem join_ev (rows : List (List Int)) (hr : ∀ r ∈ rows, r.length ≤ 65535) (hn : rows.length ≤ 1000000) : ∃ K, ∀ k, K ≤ k → octet_Join.f k rows = some (joinF rows) := by
  obtain ⟨K, hK⟩ := join_l0 rows hr hn rows.length 0 [] (by omega) (by omega) (by rw [List.length_nil]; omega)
  exact ⟨K, fun k hk => by unfold octet_Join.f; simpa using hK k hk⟩

theorem str_extract (l : List Int) (i j : Nat) (h : j ≤ l.length) : (strOfNums l).extract i j = strOfNums ((l.drop i).take (j - i)) := by
  apply ByteArray.ext
  apply Array.ext'
  simp [strOfNums, List.drop_take, List.map_take, List.map_drop]
theorem str_nil_iff (l : List Int) : (strOfNums l).toList = [] ↔ l = [] := by
  rw [Lib.toList_data]; simp [strOfNums]

def refRes (acc : List ByteArray) : Option (List (List Int)) → List ByteArray × Int
  | some rows => (acc ++ rows.map strOfNums, 0)
  | none => ([], 10)

theorem ref_part_l0 (fu : Nat) : ∀ (l : List Int) (acc : List ByteArray), l.length ≤ fu → (∀ x ∈ l, 0 ≤ x ∧ x ≤ 255) → l.length ≤ 1000000 → acc.length + l.length ≤ 1000000 →
    ∃ K, ∀ k, K ≤ k → paternosterref01_Part.l0 k (strOfNums l) acc = some (refRes acc (partsF fu l)) := by
  induction fu with
  | zero =>
    intro l acc hl hb hm ha
    obtain rfl : l = [] := List.eq_nil_of_length_eq_zero (by omega)
    refine ⟨1, fun k hk => ?_⟩
    obtain ⟨k, rfl⟩ : ∃ m, k = m + 1 := ⟨k - 1, by omega⟩
    simp only [paternosterref01_Part.l0]
    rw [if_pos ((str_nil_iff _).2 rfl)]
    simp [partsF, refRes]
  | succ fu ih =>
    intro l acc hl hb hm ha
    rcases l with _ | ⟨a, _ | ⟨b, r⟩⟩
    · refine ⟨1, fun k hk => ?_⟩
      obtain ⟨k, rfl⟩ : ∃ m, k = m + 1 := ⟨k - 1, by omega⟩
      simp only [paternosterref01_Part.l0]
      rw [if_pos ((str_nil_iff _).2 rfl)]
      simp [partsF, refRes]
    · refine ⟨1, fun k hk => ?_⟩
      obtain ⟨k, rfl⟩ : ∃ m, k = m + 1 := ⟨k - 1, by omega⟩
      simp only [paternosterref01_Part.l0]
      rw [if_neg (by rw [str_nil_iff]; simp), strOfNums_size, if_pos (by simp)]
      simp [partsF, refRes]
    · have h0 := hb a (by simp)
      have h1 := hb b (by simp)
      have hb0 : bt (strOfNums (a :: b :: r)) 0 = a := by have := bt_str (a :: b :: r) hb 0 (by simp); simpa using this
      have hb1 : bt (strOfNums (a :: b :: r)) 1 = b := by have := bt_str (a :: b :: r) hb 1 (by simp); simpa using this
      have hw : wrap64 (wrap64 (2 + wrap64 a) + wrap64 (256 * wrap64 b)) = 2 + (a + 256 * b) := by
        rw [w64 a (by omega), w64 b (by omega), w64 (2 + a) (by omega), w64 (256 * b) (by omega), w64 _ (by omega)]; omega
      have hlen : (a :: b :: r).length = r.length + 2 := rfl
      by_cases hfit : (a + 256 * b).toNat ≤ r.length
      · obtain ⟨K, hK⟩ := ih (r.drop (a + 256 * b).toNat) (acc ++ [strOfNums (r.take (a + 256 * b).toNat)]) (by rw [List.length_drop]; omega) (fun x hx => hb x (by simp [List.mem_of_mem_drop hx])) (by rw [List.length_drop]; omega) (by rw [List.length_drop, List.length_append, List.length_singleton]; omega)
        refine ⟨K + 1, fun k hk => ?_⟩
        obtain ⟨k, rfl⟩ : ∃ m, k = m + 1 := ⟨k - 1, by omega⟩
        simp only [paternosterref01_Part.l0]
        rw [if_neg (by rw [str_nil_iff]; simp), hb0, hb1, hw, strOfNums_size, hlen, if_neg (by omega), if_pos (by omega), if_pos (by omega), if_neg (by omega), if_pos (by omega), if_pos (by omega), if_pos (by omega), if_pos (by omega)]
        rw [str_extract _ _ _ (by rw [hlen]; omega), str_extract _ _ _ (by rw [hlen]; omega)]
        have e1 : (2 + (a + 256 * b)).toNat = (a + 256 * b).toNat + 2 := by omega
        rw [e1]
        have e2 : List.take (r.length + 2 - ((a + 256 * b).toNat + 2)) (List.drop ((a + 256 * b).toNat + 2) (a :: b :: r)) = r.drop (a + 256 * b).toNat := by
          rw [List.drop_succ_cons, List.drop_succ_cons, List.take_of_length_le (by rw [List.length_drop]; omega)]
        have e3 : List.take ((a + 256 * b).toNat + 2 - 2) (List.drop 2 (a :: b :: r)) = r.take (a + 256 * b).toNat := by simp
        rw [e2, e3, hK k (by omega)]
        simp only [partsF]
        rw [if_pos hfit]
        rcases partsF fu (r.drop (a + 256 * b).toNat) with _ | rows <;> simp [refRes]
      · refine ⟨1, fun k hk => ?_⟩
        obtain ⟨k, rfl⟩ : ∃ m, k = m + 1 := ⟨k - 1, by omega⟩
        simp only [paternosterref01_Part.l0]
        rw [if_neg (by rw [str_nil_iff]; simp), hb0, hb1, hw, strOfNums_size, hlen, if_neg (by omega), if_pos (by omega), if_pos (by omega), if_pos (by omega)]
        simp only [partsF]
        rw [if_neg hfit]
        rfl

theorem parts_join (rows : List (List Int)) (hr : ∀ r ∈ rows, r.length ≤ 65535) : ∀ fu, (joinF rows).length ≤ fu → partsF fu (joinF rows) = some rows := by
  induction rows with
  | nil => intro fu _; cases fu <;> rfl
  | cons r rs ih =>
    intro fu hfu
    have h1 := hr r (List.mem_cons_self ..)
    rw [joinF_cons, List.length_append, rowB_length] at hfu
    obtain ⟨fu, rfl⟩ : ∃ m, fu = m + 1 := ⟨fu - 1, by omega⟩
    rw [joinF_cons]
    have e : rowB r ++ joinF rs = ((r.length : Int) % 256) :: ((r.length : Int) / 256 % 256) :: (r ++ joinF rs) := by
      unfold rowB; rw [le_two]; rfl
    rw [e]
    simp only [partsF]
    have e2 : ((r.length : Int) % 256 + 256 * ((r.length : Int) / 256 % 256)).toNat = r.length := by omega
    rw [e2, if_pos (by rw [List.length_append]; omega), List.drop_left, List.take_left, ih (fun x hx => hr x (List.mem_cons_of_mem _ hx)) fu (by omega)]
    rfl

theorem parts_cut (rows : List (List Int)) (hr : ∀ r ∈ rows, r.length ≤ 65535) : ∀ fu n ps, partsF fu ((joinF rows).take n) = some ps → ps.length ≤ rows.length := by
  induction rows with
  | nil => intro fu n ps h; rw [joinF_nil, List.take_nil] at h; cases fu <;> simp [partsF] at h <;> subst h <;> simp
  | cons r rs ih =>
    intro fu n ps h
    have h1 := hr r (List.mem_cons_self ..)
    have e : joinF (r :: rs) = ((r.length : Int) % 256) :: ((r.length : Int) / 256 % 256) :: (r ++ joinF rs) := by
      rw [joinF_cons]; unfold rowB; rw [le_two]; rfl
    rw [e] at h
    rcases n with _ | _ | n
    · rw [List.take_zero] at h; cases fu <;> simp [partsF] at h <;> subst h <;> simp
    · rw [List.take_succ_cons, List.take_zero] at h; cases fu <;> simp [partsF] at h
    · rw [List.take_succ_cons, List.take_succ_cons] at h
      rcases fu with _ | fu
      · simp [partsF] at h
      simp only [partsF] at h
      have e2 : ((r.length : Int) % 256 + 256 * ((r.length : Int) / 256 % 256)).toNat = r.length := by omega
      rw [e2] at h
      split at h
      · rename_i hle
        rw [List.drop_take, List.drop_left] at h
        rcases hp : partsF fu ((joinF rs).take (n - r.length)) with _ | ps'
        · rw [hp] at h; simp at h
        · rw [hp] at h
          simp only [Option.map_some, Option.some.injEq] at h
          subst h
          have := ih (fun x hx => hr x (List.mem_cons_of_mem _ hx)) fu _ ps' hp
          simp only [List.length_cons]
          omega
      · simp at h
end Go.Proofs.Ytdlmnaoaninkaaa.Pure
