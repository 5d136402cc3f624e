/- CrcShort, the plain law: of fewer than four bytes nothing is opened; what is opened can be written over. No condition. -/
import Derived.Test.YtmegcockgohkhaaDoorPAllx18
import Derived.Test.YtmegcockgohkhaaDoorCrcS
import Derived.OpenShut
set_option linter.unusedVariables false
set_option linter.unusedSimpArgs false
namespace Go.Proofs.YtmegcockgohkhaaDoor.Pure
open Go.RowKit Go.Proofs.YtmegcockgohkhaaDoor.PAll Go.Proofs.YtmegcockgohkhaaDoorW.PrintWords Go.Proofs.YtmegcockgohkhaaDoorW.PrintLast Go.Proofs.YtmegcockgohkhaaDoorW.PrintMore
theorem short_l0 (x0 x6 : List Int) (h0 : x0.length ≤ 1000) (d : Nat) : ∀ (j k : Nat) (x8 : List Int), x8.length = x0.length → x0.length - j = d → j ≤ x0.length → d < k →
    paternosterlaw02_CrcShort.l0 k x0 [] false x6 (strOfNums x6) x8 true (j : Int) = some true := by
  induction d with
  | zero =>
    intro j k x8 hx hd hj hk
    obtain ⟨k, rfl⟩ : ∃ m, k = m + 1 := ⟨k - 1, by omega⟩
    simp only [paternosterlaw02_CrcShort.l0]
    rw [if_neg (by omega), if_pos (by omega), if_pos (by simp), if_neg (by decide), if_pos trivial, if_pos trivial, w64 _ (by omega), List.length_append, List.length_singleton, hx]
    simp
  | succ d ih =>
    intro j k x8 hx hd hj hk
    obtain ⟨k, rfl⟩ : ∃ m, k = m + 1 := ⟨k - 1, by omega⟩
    simp only [paternosterlaw02_CrcShort.l0]
    have e : (j : Int) + 1 = ((j + 1 : Nat) : Int) := by omega
    rw [if_pos (by omega), if_pos (by omega), w64 _ (by omega), e]
    exact ih (j + 1) k _ (by rw [List.length_set, hx]) (by omega) (by omega) (by omega)
theorem CrcShort (l0 : List Int) (w0 : ∀ x ∈ l0, (Lit.int .u8 x).wf = true) : ∃ k, paternosterlaw02_CrcShort.f k l0 = some true := by
  have hb : ∀ x ∈ l0, 0 ≤ x ∧ x ≤ 255 := fun x hx => Go.bounds_u8 (w0 x hx)
  unfold paternosterlaw02_CrcShort.f paternosterlaw02_awake.f
  simp only [Option.bind_some, if_true]
  by_cases h : (l0.length : Int) > 1000
  · exact ⟨0, by rw [if_pos h]⟩
  simp only [if_neg h]
  have hm : 0 ≤ mn (l0.length : Int) 3 ∧ mn (l0.length : Int) 3 ≤ (l0.length : Int) ∧ mn (l0.length : Int) 3 ≤ 3 := by
    unfold mn; split <;> omega
  obtain ⟨K, hK⟩ := seal_ev l0 hb (by omega)
  obtain ⟨K2, hK2⟩ := open_sealed l0 hb (by omega)
  refine ⟨K + K2 + 2000, ?_⟩
  rw [if_pos hm.1, if_pos hm.2.1, open_short _ (by rw [List.length_take]; omega), hK _ (by omega)]
  simp only [Option.bind_some]
  rw [hK2 _ (by omega)]
  simp only [Option.bind_some]
  exact short_l0 l0 _ (by omega) l0.length 0 _ l0 rfl (by omega) (by omega) (by omega)
end Go.Proofs.YtmegcockgohkhaaDoor.Pure
