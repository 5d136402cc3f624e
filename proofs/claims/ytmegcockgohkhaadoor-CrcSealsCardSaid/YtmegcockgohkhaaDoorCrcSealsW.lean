/- The walk of the law CrcSeals, by hand (no statement stands here). -/
import Derived.Test.YtmegcockgohkhaaDoorPAllx8
import Derived.Test.YtmegcockgohkhaaDoorPAllx12
import Derived.Test.YtmegcockgohkhaaDoorPAllx13
import Derived.Deep.RegionHeld
namespace Go.Proofs.YtmegcockgohkhaaDoor.PAll
open Go.RowKit Go.Proofs.YtmegcockgohkhaaDoorW.PrintWords Go.Proofs.YtmegcockgohkhaaDoorW.PrintLast Go.Proofs.YtmegcockgohkhaaDoorW.PrintMore
attribute [local go_sem] max2_int min2_int max_two min_two max_three min_three max_four min_four
set_option linter.unusedVariables false
set_option linter.unusedSimpArgs false

set_option maxRecDepth 100000 in
set_option maxHeartbeats 4000000 in
theorem CrcSeals_long (A0 A1 : Option Addr) (c0 c1 : Nat) (l0 l1 : List Int) (w : World) (hl_ : Half w) (hn : 1000 < l0.length ∨ 1000 < l1.length) :
    Calls Tryd.prog 4 #[.slice A0 l0.length c0, .slice A1 l1.length c1] w fun e w' => e = .returned (.bool true) ∧ Below w.heap.size w w' := by
  by_cases h0 : 1000 < l0.length
  · have hd : decide (1000 < l0.length) = true := decide_eq_true h0
    have hd2 : decide ((1000 : Int) < (l0.length : Int)) = true := decide_eq_true (by omega)
    clear hn h0
    go_enter Tryd.func4, Tryd.ntmps4
    go_wp2_with (first | (go_at_call 9; refine (paternosterlaw02_awake.calls true _ rfl hl_).mono ?_; rintro e w1 ⟨rfl, hb1⟩))
    go_ret
    exact ⟨rfl, hb1⟩
  · have h1 : 1000 < l1.length := by omega
    have hd : decide (1000 < l0.length) = false := decide_eq_false h0
    have hd2 : decide ((1000 : Int) < (l0.length : Int)) = false := decide_eq_false (by omega)
    have hd3 : decide (1000 < l1.length) = true := decide_eq_true h1
    have hd4 : decide ((1000 : Int) < (l1.length : Int)) = true := decide_eq_true (by omega)
    clear hn h0 h1
    go_enter Tryd.func4, Tryd.ntmps4
    go_wp2_with (first | (go_at_call 9; refine (paternosterlaw02_awake.calls true _ rfl hl_).mono ?_; rintro e w1 ⟨rfl, hb1⟩))
    go_ret
    exact ⟨rfl, hb1⟩

set_option maxRecDepth 100000 in
set_option maxHeartbeats 4000000 in
theorem CrcSeals_short (k : Nat) (A0 A1 : Option Addr) (c0 c1 : Nat) (l0 l1 x s : List Int) (is : Bool) (w : World) (hr0 : Kd.C (Kd.int .u8) w A0 l0.length l0) (hc0 : l0.length ≤ c0) (hr1 : Kd.C (Kd.int .u8) w A1 l1.length l1) (hc1 : l1.length ≤ c1) (hl_ : Half w) (hn0 : l0.length ≤ 1000) (hn1 : l1.length ≤ 1000)
    (ho : crc_Open.f k l1 = some (x, is)) (hro : paternosterref02_Open.f k (strOfNums l1) = some (strOfNums x, is)) (hs : crc_Seal.f k l0 = some s) (hrs : paternosterref02_Seal.f k (strOfNums l0) = some (strOfNums s)) :
    Calls Tryd.prog 4 #[.slice A0 l0.length c0, .slice A1 l1.length c1] w fun e w' => e = .returned (.bool true) ∧ Below w.heap.size w w' := by
  have hd : decide (1000 < l0.length) = false := decide_eq_false (by omega)
  have hd2 : decide ((1000 : Int) < (l0.length : Int)) = false := decide_eq_false (by omega)
  have hd3 : decide (1000 < l1.length) = false := decide_eq_false (by omega)
  have hd4 : decide ((1000 : Int) < (l1.length : Int)) = false := decide_eq_false (by omega)
  have HR0 := Aside0.mk hr0
  have HR1 := Aside0.mk hr1
  have HL := Aside0.mk hl_
  have HO := Aside0.mk ho
  have HRO := Aside0.mk hro
  have HS := Aside0.mk hs
  have HRS := Aside0.mk hrs
  clear hr0 hr1 hl_ hn0 hn1 ho hro hs hrs
  go_enter Tryd.func4, Tryd.ntmps4
  go_wp2_with (first
    | (go_at_call 9; refine (paternosterlaw02_awake.calls true _ rfl HL.out).mono ?_; rintro e w1 ⟨rfl, hb1⟩; have HB := Aside0.mk hb1; clear hb1)
    | (go_at_call 12; refine (crc_Open.calls k A1 c1 l1 x is _ (Kd.C_below HR1.out HB.out) hc1 HO.out (Half.keep HL.out HB.out)).mono ?_; rintro e w2 ⟨v2, rfl, ho2, hb2⟩; obtain ⟨A2, c2, rfl⟩ := Kd.R_slice ho2; have HB2 := Aside0.mk (below_step HB.out hb2); have HO2 := Aside0.mk ho2; clear ho2 hb2; have hcv2 := Kd.C_string (P := Tryd.prog) (A := A1) (c := c1) Tryd.underlying22 Tryd.underlying5 Tryd.underlying9 (Kd.C_below HR1.out HB2.out))
    | (go_at_call 13; refine (paternosterref02_Open.calls k _ _ _ _ HRO.out).mono ?_; rintro e w3 ⟨rfl, hb3⟩; have HB3 := Aside0.mk (below_step HB2.out hb3); have HO3 := Aside0.mk (Kd.R_below HO2.out hb3); clear hb3 HO2 hcv2))
  have hcv0 : ∀ W : World, Below w3.heap.size w3 W → (convert 22 9 (.slice A0 l0.length c0)).run Tryd.prog W = .ok (.string (strOfNums l0)) W := fun W hb => Kd.C_string (P := Tryd.prog) Tryd.underlying22 Tryd.underlying5 Tryd.underlying9 (Kd.C_below HR0.out (below_step HB3.out hb))
  have hcvx : ∀ W : World, Below w3.heap.size w3 W → (convert 22 9 (.slice A2 x.length c2)).run Tryd.prog W = .ok (.string (strOfNums x)) W := fun W hb => own_string (P := Tryd.prog) Tryd.underlying22 Tryd.underlying5 Tryd.underlying9 (Kd.own_of_R (Kd.R_below HO3.out hb))
  go_region_held (fun w' => Below w3.heap.size w3 w') (first | assumption | exact below_drew (Below.refl _ _) | exact below_step (by assumption) hb4 | exact below_step (by assumption) hb5) (first
    | (go_at_call 14; refine (crc_Seal.calls k (fun k_ => k_ < w3.heap.size) A0 c0 l0 s _ ?_ HS.out ?_).mono ?_; (· exact Kd.V_mk hc0 (Kd.C_F (Kd.heap_int .u8) (Kd.C_below HR0.out (below_step HB3.out (by assumption))))); (· exact Half.keep HL.out (below_step HB3.out (by assumption))); rintro e w4 ⟨v4, rfl, ho4, hb4⟩; obtain ⟨A4, c4, rfl⟩ := Kd.R_slice ho4; have HO4 := Aside0.mk ho4; clear ho4; have hcv4 := own_string (P := Tryd.prog) Tryd.underlying22 Tryd.underlying5 Tryd.underlying9 (Kd.own_of_R HO4.out))
    | (go_at_call 15; refine (paternosterref02_Seal.calls k _ _ _ HRS.out).mono ?_; rintro e w5 ⟨rfl, hb5⟩; have hcv5 := own_string (P := Tryd.prog) Tryd.underlying22 Tryd.underlying5 Tryd.underlying9 (Kd.own_of_R (Kd.R_below HO4.out hb5))))
  all_goals go_wp2
  all_goals go_ret
  all_goals exact ⟨rfl, below_step HB3.out (by assumption)⟩
end Go.Proofs.YtmegcockgohkhaaDoor.PAll
