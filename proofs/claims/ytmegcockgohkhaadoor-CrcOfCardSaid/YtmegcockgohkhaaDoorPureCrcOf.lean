/- CrcOf: the sum of any bytes, parted anywhere, is the document's. No condition. -/
import Derived.Test.YtmegcockgohkhaaDoorCrcOfW
import Derived.Test.YtmegcockgohkhaaDoorCrcRef
import Derived.OpenShut
set_option linter.unusedVariables false
set_option linter.unusedSimpArgs false
namespace Go.Proofs.YtmegcockgohkhaaDoor.Pure
open Go.RowKit Go.Proofs.YtmegcockgohkhaaDoor.PAll Go.Proofs.YtmegcockgohkhaaDoorW.PrintWords Go.Proofs.YtmegcockgohkhaaDoorW.PrintLast Go.Proofs.YtmegcockgohkhaaDoorW.PrintMore
theorem parts3 (l : List Int) (i j : Nat) (h : i ≤ j) : l.take i ++ ((l.take j).drop i ++ ([] ++ (l.drop j ++ []))) = l := by
  rw [List.nil_append, List.append_nil, ← List.append_assoc]
  have e : l.take i = (l.take j).take i := by rw [List.take_take, Nat.min_eq_left h]
  rw [e, List.take_append_drop, List.take_append_drop]
theorem w_sum (i q : Nat) (h : i ≤ 2000) (h2 : q ≤ 2001) : wrap64 ((i : Int) + (q : Int)) = ((i + q : Nat) : Int) := by rw [w64 _ (by omega)]; omega
theorem w_nat (n : Nat) (h : n ≤ 70000) : wrap64 (n : Int) = (n : Int) := w64 _ (by omega)
theorem w_len (n : Nat) (h : n ≤ 2000) : wrap64 ((n : Int) + 1) = ((n + 1 : Nat) : Int) := by rw [w64 _ (by omega)]; omega
theorem w_rest (n i : Nat) (h : n ≤ 2000) (hi : i ≤ n) : wrap64 (wrap64 ((n : Int) - (i : Int)) + 1) = ((n - i + 1 : Nat) : Int) := by rw [w64 ((n : Int) - (i : Int)) (by omega), w64 _ (by omega)]; omega
theorem place1 (n n1 : Nat) (h : n ≤ 2000) (h1 : n1 ≤ 65535) : Int.tmod (wrap64 (n1 : Int)) (wrap64 ((n : Int) + 1)) = ((n1 % (n + 1) : Nat) : Int) := by
  rw [w_nat n1 (by omega), w_len n h, Int.tmod_eq_emod_of_nonneg (by omega)]
  first | rfl | exact (Int.natCast_mod _ _).symm
theorem place2 (n n2 i : Nat) (h : n ≤ 2000) (hi : i ≤ n) (h2 : n2 ≤ 65535) : wrap64 ((i : Int) + Int.tmod (wrap64 (n2 : Int)) (wrap64 (wrap64 ((n : Int) - (i : Int)) + 1))) = ((i + n2 % (n - i + 1) : Nat) : Int) := by
  have e : Int.tmod (wrap64 (n2 : Int)) (wrap64 (wrap64 ((n : Int) - (i : Int)) + 1)) = ((n2 % (n - i + 1) : Nat) : Int) := by
    rw [w_nat n2 (by omega), w_rest n i h hi, Int.tmod_eq_emod_of_nonneg (by omega)]
    first | rfl | exact (Int.natCast_mod _ _).symm
  have h3 : n2 % (n - i + 1) ≤ 2001 := by have := Nat.mod_lt n2 (show 0 < n - i + 1 by omega); omega
  rw [e, w_sum i _ (by omega) h3]
theorem CrcOf_all (A0 : Option Addr) (c0 : Nat) (l0 : List Int) (a1 a2 : Int) (w : World) (hr0 : Kd.C (Kd.int .u8) w A0 l0.length l0) (hc0 : l0.length ≤ c0) (hl_ : Half w) (w0 : ∀ x ∈ l0, (Lit.int .u8 x).wf = true) (w1 : (Lit.int .u16 a1).wf = true) (w2 : (Lit.int .u16 a2).wf = true) :
    Calls Tryd.prog 3 #[.slice A0 l0.length c0, .int .u16 a1, .int .u16 a2] w fun e w' => e = .returned (.bool true) ∧ Below w.heap.size w w' := by
  have hb0 : ∀ x ∈ l0, 0 ≤ x ∧ x ≤ 255 := fun x hx => Go.bounds_u8 (w0 x hx)
  have b1 := Go.bounds_u16 w1
  have b2 := Go.bounds_u16 w2
  clear w0 w1 w2
  obtain ⟨n1, rfl⟩ := Int.eq_ofNat_of_zero_le b1.1
  obtain ⟨n2, rfl⟩ := Int.eq_ofNat_of_zero_le b2.1
  by_cases hn : 2000 < l0.length
  · exact CrcOf_long A0 c0 l0 _ _ w hl_ hn
  have hn2 : l0.length ≤ 2000 := by omega
  have hk1 : n1 ≤ 65535 := by omega
  have hk2 : n2 ≤ 65535 := by omega
  clear b1 b2
  obtain ⟨K, hK⟩ := ref_of_ev l0 hb0 (by omega)
  have hi := place1 l0.length n1 hn2 hk1
  have m1 : n1 % (l0.length + 1) ≤ l0.length := Nat.le_of_lt_succ (Nat.mod_lt n1 (Nat.succ_pos _))
  generalize n1 % (l0.length + 1) = i at hi m1
  have hj := place2 l0.length n2 i hn2 m1 hk2
  have m2 : n2 % (l0.length - i + 1) ≤ l0.length - i := Nat.le_of_lt_succ (Nat.mod_lt n2 (Nat.succ_pos _))
  generalize n2 % (l0.length - i + 1) = d at hj m2
  have m3 : i + d ≤ l0.length := by clear hi hj; omega
  refine CrcOf_short K A0 c0 l0 (n1 : Int) (n2 : Int) ((S l0).toNat : Int) i (i + d) w hr0 hc0 hl_ hn2 hi hj (Nat.le_add_right _ _) m3 (hK K (Nat.le_refl _)) ?_ ?_
  all_goals clear hi hj
  · have h := of_ev [l0] (by simpa using hb0) (by simp) (by simp; omega)
    simpa using h
  · have hbt : ∀ x ∈ l0.take i, 0 ≤ x ∧ x ≤ 255 := fun x hx => hb0 x (List.mem_of_mem_take hx)
    have h := of_ev [l0.take i, (l0.take (i + d)).drop i, [], l0.drop (i + d)] (by
      intro r hr x hx
      simp only [List.mem_cons, List.not_mem_nil, or_false] at hr
      rcases hr with rfl | rfl | rfl | rfl
      · exact hb0 x (List.mem_of_mem_take hx)
      · exact hb0 x (List.mem_of_mem_take (List.mem_of_mem_drop hx))
      · cases hx
      · exact hb0 x (List.mem_of_mem_drop hx)) (by simp) (by
      intro r hr
      simp only [List.mem_cons, List.not_mem_nil, or_false] at hr
      rcases hr with rfl | rfl | rfl | rfl <;> simp <;> omega)
    rw [h]
    simp only [List.flatten_cons, List.flatten_nil]
    rw [parts3 l0 i (i + d) (Nat.le_add_right _ _)]
end Go.Proofs.YtmegcockgohkhaaDoor.Pure
