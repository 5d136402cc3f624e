/- The walk of bits.OnesCount32, by hand (no statement stands here). -/
import Derived.Test.YthjmlmognbenoaaDoorPAllx0
namespace Go.Proofs.YthjmlmognbenoaaDoor.PAll
open Go.RowKit Go.Proofs.YthjmlmognbenoaaDoorW.PrintWords Go.Proofs.YthjmlmognbenoaaDoorW.PrintLast Go.Proofs.YthjmlmognbenoaaDoorW.PrintMore
set_option linter.unusedVariables false
set_option linter.unusedSimpArgs false
/-- How many bits are 1. -/
def popN : Nat → Nat → Nat
  | 0, _ => 0
  | k + 1, n => n % 2 + popN k (n / 2)
theorem and255 (y : Int) (h : 0 ≤ y ∧ y < 4294967296) : Go.bits .and .u32 y 255 = y % 256 := by
  obtain ⟨n, rfl⟩ := Int.eq_ofNat_of_zero_le h.1
  have e : Go.bits .and .u32 (n : Int) 255 = IntKind.u32.wrap (((BitVec.ofInt 32 (n : Int) &&& BitVec.ofInt 32 255).toNat : Nat) : Int) := rfl
  rw [e, BitVec.toNat_and, BitVec.ofInt_natCast, BitVec.toNat_ofNat, show (BitVec.ofInt 32 255).toNat = 2 ^ 8 - 1 from rfl, Nat.and_two_pow_sub_one_eq_mod, IntKind.wrap_u32]
  omega
theorem tab_at (T : ByteArray) (hs : T.size = 256) (hT : (List.range 256).all (fun k => (T.data.getD k 0).toNat == popN 8 k) = true) (k : Nat) (h : k < T.size) : T[k].toNat = popN 8 k := by
  have h1 := List.all_eq_true.1 hT k (List.mem_range.2 (by omega))
  have h2 : T.data.getD k 0 = T[k] := by
    have : k < T.data.size := h
    rw [Array.getD_eq_getD_getElem?, Array.getElem?_eq_getElem this, Option.getD_some]
    rfl
  rw [h2] at h1
  simpa using h1
theorem pop8_le (k : Nat) : popN 8 k ≤ 8 := by
  simp only [popN]
  omega
def onesI (x : Int) : Int := (popN 8 (x / 16777216).toNat : Int) + popN 8 (x / 65536 % 256).toNat + popN 8 (x / 256 % 256).toNat + popN 8 (x % 256).toNat
set_option maxRecDepth 100000 in
set_option maxHeartbeats 4000000 in
theorem ones_calls (x : Int) (hx : 0 ≤ x ∧ x < 4294967296) (w : World) :
    Calls Tryd.prog 25 #[.int .u32 x] w fun e w' => e = .returned (.int .i64 (onesI x)) ∧ Drawn0 w w' := by
  have p1 : ((0 : Int) ≤ x / 16777216) = True := eq_true (by omega)
  have q1 : (x / 16777216 < (256 : Int)) = True := eq_true (by omega)
  have hA := and255 (x / 65536) (by omega)
  have hB := and255 (x / 256) (by omega)
  have hC := and255 x hx
  have p2 : ((0 : Int) ≤ x / 65536 % 256) = True := eq_true (by omega)
  have q2 : (x / 65536 % 256 < (256 : Int)) = True := eq_true (by omega)
  have p3 : ((0 : Int) ≤ x / 256 % 256) = True := eq_true (by omega)
  have q3 : (x / 256 % 256 < (256 : Int)) = True := eq_true (by omega)
  have p4 : ((0 : Int) ≤ x % 256) = True := eq_true (by omega)
  have q4 : (x % 256 < (256 : Int)) = True := eq_true (by omega)
  clear hx
  go_enter Tryd.func25, Tryd.ntmps25
  go_wp2
  go_quiet (fail)
  go_wp2
  go_ret
  refine ⟨?_, by repeat (first | exact Drawn0.refl _ | apply Drawn0.step)⟩
  show Ending.returned (Value.int IntKind.i64 (_ % 256)) = _
  rw [tab_at _ (by decide +kernel) (by decide +kernel) (x / 16777216).toNat, tab_at _ (by decide +kernel) (by decide +kernel) (x / 65536 % 256).toNat, tab_at _ (by decide +kernel) (by decide +kernel) (x / 256 % 256).toNat, tab_at _ (by decide +kernel) (by decide +kernel) (x % 256).toNat]
  have e1 := pop8_le (x / 16777216).toNat
  have e2 := pop8_le (x / 65536 % 256).toNat
  have e3 := pop8_le (x / 256 % 256).toNat
  have e4 := pop8_le (x % 256).toNat
  congr 2
  unfold onesI
  omega
end Go.Proofs.YthjmlmognbenoaaDoor.PAll
