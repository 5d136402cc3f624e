/- CrcSame, the plain law: all bytes that are sealed have one sum. No condition. -/
import Derived.Test.YtmegcockgohkhaaDoorPAllx17
import Derived.Test.YtmegcockgohkhaaDoorCrcS
import Derived.OpenShut
set_option linter.unusedVariables false
set_option linter.unusedSimpArgs false
namespace Go.Proofs.YtmegcockgohkhaaDoor.Pure
open Go.RowKit Go.Proofs.YtmegcockgohkhaaDoor.PAll Go.Proofs.YtmegcockgohkhaaDoorW.PrintWords Go.Proofs.YtmegcockgohkhaaDoorW.PrintLast Go.Proofs.YtmegcockgohkhaaDoorW.PrintMore
theorem CrcSame (l0 : List Int) (w0 : ∀ x ∈ l0, (Lit.int .u8 x).wf = true) : ∃ k, paternosterlaw02_CrcSame.f k l0 = some true := by
  have hb : ∀ x ∈ l0, 0 ≤ x ∧ x ≤ 255 := fun x hx => Go.bounds_u8 (w0 x hx)
  unfold paternosterlaw02_CrcSame.f paternosterlaw02_awake.f
  simp only [Option.bind_some, if_true]
  by_cases h : (l0.length : Int) > 2000
  · exact ⟨0, by rw [if_pos h]⟩
  simp only [if_neg h]
  obtain ⟨K, hK⟩ := seal_ev l0 hb (by omega)
  refine ⟨K, ?_⟩
  rw [hK K (Nat.le_refl _)]
  simp only [Option.bind_some]
  rw [of_ev [sealed l0] (by simpa using sealed_range l0 hb) (by simp) (by simp [sealed_length]; omega)]
  simp only [Option.bind_some, List.flatten_cons, List.flatten_nil, List.append_nil]
  unfold S
  rw [sealed_reg]
  decide +kernel
end Go.Proofs.YtmegcockgohkhaaDoor.Pure
