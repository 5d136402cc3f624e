/- OctetParts, the plain law: the bytes of a number are those of its lower part, and of its higher one behind. No condition. -/
import Derived.Test.YtdlmnaoaninkaaaPAllx18
import Derived.Test.YtdlmnaoaninkaaaOct
import Derived.OpenShut
set_option linter.unusedVariables false
set_option linter.unusedSimpArgs false
namespace Go.Proofs.Ytdlmnaoaninkaaa.Pure
open Go.RowKit Go.Proofs.Ytdlmnaoaninkaaa.PAll Go.Proofs.YtdlmnaoaninkaaaW.PrintWords Go.Proofs.YtdlmnaoaninkaaaW.PrintLast Go.Proofs.YtdlmnaoaninkaaaW.PrintMore

theorem le_split (n m : Nat) (x : Int) : le (n + m) x = le n x ++ le m (x / 2 ^ (8 * n)) := by
  unfold le
  rw [List.range_add, List.map_append, List.map_map]
  congr 1
  apply List.map_congr_left
  intro i _
  simp only [Function.comp, dig]
  rw [Int.ediv_ediv, if_neg (fun h => absurd h.1 (Int.not_lt.2 (Int.le_of_lt (Int.pow_pos (by decide))))), Int.sub_zero, ← Int.pow_add, Nat.mul_add]

theorem str_append (a b : List Int) : (strOfNums (a ++ b)).toList = (strOfNums a ++ strOfNums b).toList := by
  have : strOfNums (a ++ b) = strOfNums a ++ strOfNums b := by
    apply ByteArray.ext
    simp [strOfNums]
  rw [this]

theorem parts_shr (a0 : Int) (n : Nat) (h : n ≤ 8) : shr .u64 a0 (IntKind.u64.wrap (wrap64 (8 * (n : Int)))) = a0 / 2 ^ (8 * n) := by
  rw [w64 _ (by omega), wu64 _ (by omega)]
  unfold shr
  rw [show min (8 * (n : Int)).toNat IntKind.u64.bits = 8 * n by simp only [IntKind.bits]; omega]
theorem parts_nn (n : Nat) (h : n ≤ 8) : 0 ≤ IntKind.u64.wrap (wrap64 (8 * (n : Int))) := by
  rw [w64 _ (by omega), wu64 _ (by omega)]; omega

theorem parts_core (n m : Nat) (hn1 : 1 ≤ n) (hn4 : n ≤ 4) (hm1 : 1 ≤ m) (hm4 : m ≤ 4) (a0 : Int) : ∃ k, (octet_Put.f k ((n + m : Nat) : Int) (([a0] : List Int))).bind (fun t223 => ((octet_Put.f k (n : Int) (([a0] : List Int))).bind fun t229 => ((octet_Put.f k (m : Int) (([a0 / 2 ^ (8 * n)] : List Int))).bind fun t235 => (if (strOfNums t229).size + (strOfNums t235).size ≤ 9223372036854775807 then (if (strOfNums t223).toList = ((strOfNums t229) ++ (strOfNums t235)).toList then (some ((t223.length : Int) == ((n + m : Nat) : Int))) else (some false)) else (none))))) = some true := by
  obtain ⟨K1, hK1⟩ := put_ev (n + m) (by omega) (by omega) [a0] (by simp)
  obtain ⟨K2, hK2⟩ := put_ev n (by omega) (by omega) [a0] (by simp)
  obtain ⟨K3, hK3⟩ := put_ev m (by omega) (by omega) [a0 / 2 ^ (8 * n)] (by simp)
  refine ⟨K1 + K2 + K3, ?_⟩
  rw [hK1 _ (by omega)]
  simp only [Option.bind_some]
  rw [hK2 _ (by omega)]
  simp only [Option.bind_some]
  rw [hK3 _ (by omega)]
  simp only [Option.bind_some]
  have hl1 := puts_length n [a0]
  have hl2 := puts_length m [a0 / 2 ^ (8 * n)]
  have hl3 := puts_length (n + m) [a0]
  simp only [List.length_cons, List.length_nil] at hl1 hl2 hl3
  rw [if_pos (by rw [strOfNums_size, strOfNums_size]; omega), if_pos, hl3]
  · simp
  · rw [← str_append]
    congr 2
    simp only [puts, List.flatMap_cons, List.flatMap_nil, List.append_nil]
    exact le_split n m a0

theorem OctetParts : paternosterlaw01_OctetParts.Pure := by
  intro a0 a1 a2 w0 w1 w2
  have h1 := Go.bounds_u8 w1
  have h2 := Go.bounds_u8 w2
  obtain ⟨n, hn, hn1, hn4⟩ : ∃ n : Nat, wrap64 ((wrap64 (Int.tmod a1 4)) + 1) = (n : Int) ∧ 1 ≤ n ∧ n ≤ 4 := by
    rw [Int.tmod_eq_emod_of_nonneg h1.1, w64 (a1 % 4) (by omega), w64 _ (by omega)]
    exact ⟨(a1 % 4 + 1).toNat, by omega, by omega, by omega⟩
  obtain ⟨m, hm, hm1, hm4⟩ : ∃ n : Nat, wrap64 ((wrap64 (Int.tmod a2 4)) + 1) = (n : Int) ∧ 1 ≤ n ∧ n ≤ 4 := by
    rw [Int.tmod_eq_emod_of_nonneg h2.1, w64 (a2 % 4) (by omega), w64 _ (by omega)]
    exact ⟨(a2 % 4 + 1).toNat, by omega, by omega, by omega⟩
  have hnm : wrap64 ((n : Int) + (m : Int)) = ((n + m : Nat) : Int) := by rw [w64 _ (by omega)]; simp
  have hs := parts_shr a0 n (by omega)
  obtain ⟨k, hk⟩ := parts_core n m hn1 hn4 hm1 hm4 a0
  refine ⟨k, ?_⟩
  unfold paternosterlaw01_OctetParts.f paternosterlaw01_awake.f
  simp only [Option.bind_some, if_true]
  rw [hn, hm, hnm, hs]
  simp only [if_pos (parts_nn n (Nat.le_trans hn4 (by decide)))]
  exact hk
end Go.Proofs.Ytdlmnaoaninkaaa.Pure
