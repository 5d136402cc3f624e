/- CrcSeals, the plain law: any bytes with their sum, and what any bytes are ahead of theirs, are the document's. No condition. -/
import Derived.Test.YtmegcockgohkhaaDoorCrcSealsW
import Derived.Test.YtmegcockgohkhaaDoorCrcRef
import Derived.OpenShut
set_option linter.unusedVariables false
set_option linter.unusedSimpArgs false
namespace Go.Proofs.YtmegcockgohkhaaDoor.Pure
open Go.RowKit Go.Proofs.YtmegcockgohkhaaDoor.PAll Go.Proofs.YtmegcockgohkhaaDoorW.PrintWords Go.Proofs.YtmegcockgohkhaaDoorW.PrintLast Go.Proofs.YtmegcockgohkhaaDoorW.PrintMore
/-- What is opened, and what the document says of it. -/
theorem open_both (l : List Int) (hb : ∀ x ∈ l, 0 ≤ x ∧ x ≤ 255) (hl : l.length ≤ 10000) : ∃ (r : List Int) (is : Bool) (K : Nat), ∀ k, K ≤ k → crc_Open.f k l = some (r, is) ∧ paternosterref02_Open.f k (strOfNums l) = some (strOfNums r, is) := by
  by_cases h : l.length < 4
  · exact ⟨[], false, 0, fun k _ => ⟨open_short l h k, ref_open_short l h k⟩⟩
  obtain ⟨K, hK⟩ := open_ev l (by omega) hb hl
  obtain ⟨K2, hK2⟩ := ref_open_ev l (by omega) hb hl
  by_cases he : sealed (l.take (l.length - 4)) = l
  · exact ⟨_, _, K + K2, fun k hk => ⟨by rw [hK k (by omega), if_pos he], by rw [hK2 k (by omega), if_pos he]⟩⟩
  · exact ⟨[], false, K + K2, fun k hk => ⟨by rw [hK k (by omega), if_neg he], by rw [hK2 k (by omega), if_neg he]; rfl⟩⟩
theorem CrcSeals_all (A0 A1 : Option Addr) (c0 c1 : Nat) (l0 l1 : List Int) (w : World) (hr0 : Kd.C (Kd.int .u8) w A0 l0.length l0) (hc0 : l0.length ≤ c0) (hr1 : Kd.C (Kd.int .u8) w A1 l1.length l1) (hc1 : l1.length ≤ c1) (hl_ : Half w) (w0 : ∀ x ∈ l0, (Lit.int .u8 x).wf = true) (w1 : ∀ x ∈ l1, (Lit.int .u8 x).wf = true) :
    Calls Tryd.prog 4 #[.slice A0 l0.length c0, .slice A1 l1.length c1] w fun e w' => e = .returned (.bool true) ∧ Below w.heap.size w w' := by
  have hb0 : ∀ x ∈ l0, 0 ≤ x ∧ x ≤ 255 := fun x hx => Go.bounds_u8 (w0 x hx)
  have hb1 : ∀ x ∈ l1, 0 ≤ x ∧ x ≤ 255 := fun x hx => Go.bounds_u8 (w1 x hx)
  clear w0 w1
  by_cases hn : 1000 < l0.length ∨ 1000 < l1.length
  · exact CrcSeals_long A0 A1 c0 c1 l0 l1 w hl_ hn
  obtain ⟨r, is, K, hK⟩ := open_both l1 hb1 (by omega)
  obtain ⟨K2, hK2⟩ := seal_ev l0 hb0 (by omega)
  obtain ⟨K3, hK3⟩ := ref_seal_ev l0 hb0 (by omega)
  have h1 := hK (K + K2 + K3) (by omega)
  exact CrcSeals_short (K + K2 + K3) A0 A1 c0 c1 l0 l1 r (sealed l0) is w hr0 hc0 hr1 hc1 hl_ (by omega) (by omega) h1.1 h1.2 (hK2 _ (by omega)) (hK3 _ (by omega))
end Go.Proofs.YtmegcockgohkhaaDoor.Pure
