/- CrcTurns, the plain law: sealed bytes of which up to 32 bits on end are others aren't opened; as they were they are. No condition. -/
import Derived.Test.YtmegcockgohkhaaDoorPAllx15
import Derived.Test.YtmegcockgohkhaaDoorCrcT
import Derived.OpenShut
set_option linter.unusedVariables false
set_option linter.unusedSimpArgs false
namespace Go.Proofs.YtmegcockgohkhaaDoor.Pure
open Go.RowKit Go.Proofs.YtmegcockgohkhaaDoor.PAll Go.Proofs.YtmegcockgohkhaaDoorW.PrintWords Go.Proofs.YtmegcockgohkhaaDoorW.PrintLast Go.Proofs.YtmegcockgohkhaaDoorW.PrintMore

theorem turns_m (n : Nat) (h4 : 4 ≤ n) (h : n ≤ 2000) : wrap64 (wrap64 (8 * (n : Int)) - 31) = ((8 * n - 31 : Nat) : Int) := by
  rw [w64 (8 * _) (by omega), w64 _ (by omega)]; omega
theorem turns_bit (a1 : Int) (h : 0 ≤ a1 ∧ a1 ≤ 65535) (m : Nat) : Int.tmod (wrap64 a1) (m : Int) = ((a1.toNat % m : Nat) : Int) := by
  obtain ⟨a, rfl⟩ := Int.eq_ofNat_of_zero_le h.1
  rw [w64 _ (by omega), Int.tmod_eq_emod_of_nonneg (by omega)]
  rfl
theorem turns_len (n m : Nat) (h : m = n + 4) (hn : n ≤ 1000) : (m : Int) = wrap64 ((n : Int) + 4) := by
  rw [w64 _ (by omega)]; omega
theorem turns_j1 (l : List Int) (a1 T : Int) (bit K : Nat) (h0 : (wrap64 ((wrap64 (8 * (l.length : Int))) - 31)) ≠ 0) (hb : Int.tmod (wrap64 a1) (wrap64 ((wrap64 (8 * (l.length : Int))) - 31)) = (bit : Int))
    (h : paternosterlaw02_CrcTurns.l0 K T l (bit : Int) 0 = some true) : paternosterlaw02_CrcTurns.j1 (K + 1) a1 T l false = some true := by
  simp only [paternosterlaw02_CrcTurns.j1]
  rw [if_neg (by decide), if_neg h0, hb, h]
theorem turns_start (s : List Int) (bit : Nat) (t : B32) (p : Nat) : bitAt s p = (bitAt s p ^^ burst bit 0 t p) := by
  unfold burst
  rw [decide_eq_false (show ¬ (bit ≤ p ∧ p < bit + 0) by omega), Bool.false_and, Bool.xor_false]
theorem turns_run (l0 : List Int) (hb : ∀ x ∈ l0, 0 ≤ x ∧ x ≤ 255) (hl : l0.length ≤ 1000) (bit T : Nat) (hT : T < 4294967296) (hT0 : T ≠ 0) (hbit : bit + 32 ≤ 8 * (sealed l0).length) :
    ∃ K, ∀ k, K ≤ k → paternosterlaw02_CrcTurns.l0 k (T : Int) (sealed l0) (bit : Int) 0 = some true := by
  obtain ⟨K3, hK3⟩ := turns_l0 l0 hb hl bit T hT hT0 hbit 32 0 (sealed l0) rfl (Nat.zero_le _) rfl (sealed_range l0 hb) (fun p _ => turns_start _ _ _ _)
  refine ⟨K3, fun k hk => ?_⟩
  have := hK3 k hk
  rw [Nat.pow_zero, Nat.div_one] at this
  exact this
theorem turns_j0 (l0 : List Int) (hb : ∀ x ∈ l0, 0 ≤ x ∧ x ≤ 255) (hl : l0.length ≤ 1000) (a1 : Int) (b1 : 0 ≤ a1 ∧ a1 ≤ 65535) (T : Nat) (hT : T < 4294967296) (hT0 : T ≠ 0) : ∃ k, paternosterlaw02_CrcTurns.j0 k l0 a1 (T : Int) false = some true := by
  have hsl := sealed_length l0
  have hm := turns_m (sealed l0).length (by omega) (by omega)
  have hpos : 0 < 8 * (sealed l0).length - 31 := by omega
  have h32 : 8 * (sealed l0).length - 31 + 31 = 8 * (sealed l0).length := by omega
  generalize hM : 8 * (sealed l0).length - 31 = M at hm hpos h32
  have hlt : a1.toNat % M < M := Nat.mod_lt _ hpos
  obtain ⟨K, hK⟩ := seal_ev l0 hb (by omega)
  obtain ⟨K2, hK2⟩ := open_sealed l0 hb (by omega)
  obtain ⟨K3, hK3⟩ := turns_run l0 hb hl (a1.toNat % M) T hT hT0 (by omega)
  have hbit : Int.tmod (wrap64 a1) (wrap64 ((wrap64 (8 * ((sealed l0).length : Int))) - 31)) = ((a1.toNat % M : Nat) : Int) := by
    rw [hm]; exact turns_bit a1 b1 M
  have hj := turns_j1 (sealed l0) a1 T (a1.toNat % M) (K + K2 + K3) (by rw [hm]; omega) hbit (hK3 _ (by omega))
  refine ⟨K + K2 + K3 + 1 + 1, ?_⟩
  rw [paternosterlaw02_CrcTurns.j0, if_neg (by decide), hK (K + K2 + K3 + 1) (by omega), Option.bind_some, if_pos (turns_len l0.length (sealed l0).length hsl hl), hK2 (K + K2 + K3 + 1) (by omega), Option.bind_some, if_pos rfl]
  exact hj
theorem CrcTurns (l0 : List Int) (a1 a2 : Int) (w0 : ∀ x ∈ l0, (Lit.int .u8 x).wf = true) (w1 : (Lit.int .u16 a1).wf = true) (w2 : (Lit.int .u32 a2).wf = true) : ∃ k, paternosterlaw02_CrcTurns.f k l0 a1 a2 = some true := by
  have hb : ∀ x ∈ l0, 0 ≤ x ∧ x ≤ 255 := fun x hx => Go.bounds_u8 (w0 x hx)
  have b1 := Go.bounds_u16 w1
  have b2 := Go.bounds_u32 w2
  clear w0 w1 w2
  unfold paternosterlaw02_CrcTurns.f paternosterlaw02_awake.f
  simp only [Option.bind_some, if_true]
  by_cases h : (l0.length : Int) > 1000
  · exact ⟨1, by rw [if_pos h]; simp only [paternosterlaw02_CrcTurns.j0, if_true]⟩
  simp only [if_neg h]
  by_cases h2 : a2 = 0
  · exact ⟨1, by rw [beq_iff_eq.mpr h2]; simp only [paternosterlaw02_CrcTurns.j0, if_true]⟩
  rw [beq_eq_false_iff_ne.mpr h2]
  obtain ⟨T, rfl⟩ := Int.eq_ofNat_of_zero_le b2.1
  have hT : T < 4294967296 := by have := b2.2; omega
  have hT0 : T ≠ 0 := fun e => h2 (by rw [e]; rfl)
  exact turns_j0 l0 hb (by omega) a1 b1 T hT hT0
end Go.Proofs.YtmegcockgohkhaaDoor.Pure
