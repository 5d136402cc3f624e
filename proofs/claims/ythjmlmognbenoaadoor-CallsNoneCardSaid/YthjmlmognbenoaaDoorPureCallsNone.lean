/- CallsNone, the plain law: where nobody calls no car should go anywhere; floors, and cars, that there aren't change nothing. No condition. -/
import Derived.Test.YthjmlmognbenoaaDoorPTwox13
import Derived.Test.YthjmlmognbenoaaDoorCl
set_option linter.unusedVariables false
set_option linter.unusedSimpArgs false
namespace Go.Proofs.YthjmlmognbenoaaDoor.Pure
open Go.RowKit Go.Proofs.YthjmlmognbenoaaDoor.PTwo Go.Proofs.YthjmlmognbenoaaDoorW.PrintWords Go.Proofs.YthjmlmognbenoaaDoorW.PrintLast Go.Proofs.YthjmlmognbenoaaDoorW.PrintMore
open Go.Proofs.YthjmlmognbenoaaDoor.PAll (floL popN onesI onesL nextI bestOf stepB firstOf orElse floL_zero floL_step)
theorem none_j3 (k n : Nat) (x0 x1 x2 : Int) (hn : n ≤ 64) (h0 : x0 = n ∨ n = 0) : paternosterlaw22_CallsNone.j3 (k + 1) x0 x1 x2 (n : Int) false 0 (CI (Z n)) = some true := by
  have hm := many_ev 0 (Z n) (by decide) (Z_ok n hn)
  have hd := done_ev 0 (Z n) x1 x2 true (by decide) (Z_ok n hn)
  have hz : off 0 (bitN x2 32) = 0 := Nat.le_zero.1 (off_le 0 _)
  have hz2 : (if 0 ≤ x1 ∧ x1 < ((Z n).length : Int) then (Z n).set x1.toNat (off ((Z n).getD x1.toNat 0) (bitN x2 32)) else Z n) = Z n := by
    split
    · have e : (Z n).getD x1.toNat 0 = 0 := by
        rw [List.getD_eq_getElem?_getD, List.getElem?_replicate]
        split <;> rfl
      rw [e, hz]
      exact List.set_replicate_self
    · rfl
  simp only [cond_true, hz] at hd
  rw [hz2] at hd
  rw [cnt_zero, cntL_zero] at hm
  simp only [paternosterlaw22_CallsNone.j3]
  have c0 : ((0 : Nat) : Int) = 0 := rfl
  rw [c0] at hm hd
  rw [if_neg (by decide), hm, Option.bind_some, if_pos rfl, hd, Option.bind_some]
  simp only
  rw [hm, Option.bind_some, if_pos rfl, if_pos (by omega)]
  split
  · rfl
  · rw [show ((n : Int) == 0) = true by simp; omega]
theorem none_j1 (k n : Nat) (x0 x1 x2 x3 : Int) (hn : n ≤ 64) (h0 : x0 = n ∨ n = 0) (x16 : Bool) (h16 : x16 = decide (0 ≤ x2 ∧ x2 < x3 ∧ x2 < 32)) : paternosterlaw22_CallsNone.j1 (k + 3) x0 x1 x2 x3 (n : Int) x16 0 (CI (Z n)) = some true := by
  have hz := Z_ok n hn
  have hh := hall_ev 0 (Z n) x2 x3 (by decide) hz.1
  have hc := car_ev 0 (Z n) x1 x2 x3 hz
  have c0 : ((0 : Nat) : Int) = 0 := rfl
  rw [c0] at hh hc
  rw [Nat.zero_or] at hh
  have hb : (bitN x2 x3 = 0) ↔ x16 = false := by
    rw [h16]
    unfold bitN
    have := Nat.two_pow_pos x2.toNat
    by_cases h : 0 ≤ x2 ∧ x2 < x3 ∧ x2 < 32
    · rw [if_pos h]; simp [h]
    · rw [if_neg h]; simp [h]
  have hlt := bitN_lt x2 x3
  have hcb := cnt_bit x2 x3
  have hml : calls_Calls_Many.f (bitN x2 x3 : Int) (CI (Z n)) = some ((cnt (bitN x2 x3) + 0 : Nat) : Int) := by
    have := many_ev (bitN x2 x3) (Z n) hlt hz
    rwa [cntL_zero] at this
  have hm0 : calls_Calls_Many.f 0 (CI (Z n)) = some 0 := by
    have := many_ev 0 (Z n) (by decide) hz
    rwa [cntL_zero, cnt_zero] at this
  have hj3 := none_j3 k n x0 x1 x2 hn h0
  have hln : (Z n).length = n := List.length_replicate
  have hg : ∀ c : Nat, (Z n).getD c 0 = 0 := fun c => by
    rw [List.getD_eq_getElem?_getD, List.getElem?_replicate]
    split <;> rfl
  simp only [paternosterlaw22_CallsNone.j1]
  rw [hh, Option.bind_some, hc]
  by_cases hbz : bitN x2 x3 = 0
  · have h16f := hb.1 hbz
    rw [if_pos hbz, Option.bind_some]
    have key : ∀ b, paternosterlaw22_CallsNone.j2 (k + 2) x0 x1 x2 (n : Int) x16 ((bitN x2 x3 : Int) != 0) false b 0 (CI (Z n)) (bitN x2 x3 : Int) (CI (Z n)) 0 (CI (Z n)) = some true := by
      intro b
      rw [h16f, hbz]
      simp only [paternosterlaw22_CallsNone.j2]
      rw [if_neg (by decide), if_neg (by decide), if_neg (by decide), if_neg (by decide)]
      rw [show (((0 : Nat) : Int)) = 0 from rfl, hm0, Option.bind_some, if_pos rfl, if_neg (by decide), Option.bind_some, if_pos rfl]
      exact hj3
    simp only
    rw [key, key, ite_self]
  · have h16t : x16 = true := by
      cases x16
      · exact absurd (hb.2 rfl) hbz
      · rfl
    rw [if_neg hbz] at hcb ⊢
    rw [hcb] at hml
    have hne : ((bitN x2 x3 : Int) != 0) = true := by simp; omega
    rw [hne]
    by_cases hcar : 0 ≤ x1 ∧ x1 < ((Z n).length : Int)
    · rw [if_pos hcar, Option.bind_some]
      obtain ⟨c, rfl⟩ := Int.eq_ofNat_of_zero_le hcar.1
      rw [hln] at hcar
      have hset : calls_Calls_Many.f 0 (CI ((Z n).set c ((Z n).getD c 0 ||| bitN x2 x3))) = some 1 := by
        rw [hg c, Nat.zero_or]
        have h1 := many_ev 0 ((Z n).set c (bitN x2 x3)) (by decide) (hz.set c _ hlt)
        have h2 := cntL_set (Z n) c (bitN x2 x3) (by rw [hln]; omega)
        rw [hg c, cnt_zero, cntL_zero, hcb] at h2
        rw [cnt_zero, show cntL ((Z n).set c (bitN x2 x3)) = 1 by omega] at h1
        exact h1
      simp only
      rw [if_pos (by omega), show decide ((c : Int) < (n : Int)) = true by simp; omega, Int.toNat_natCast, h16t]
      simp only [paternosterlaw22_CallsNone.j2]
      rw [if_neg (by decide), if_pos trivial, if_neg (by decide), if_pos trivial, if_pos trivial, hml, Option.bind_some, if_pos (by rfl), hset, Option.bind_some]
      exact hj3
    · rw [if_neg hcar, Option.bind_some]
      rw [hln] at hcar
      have key : paternosterlaw22_CallsNone.j2 (k + 2) x0 x1 x2 (n : Int) true true false false 0 (CI (Z n)) (bitN x2 x3 : Int) (CI (Z n)) 0 (CI (Z n)) = some true := by
        simp only [paternosterlaw22_CallsNone.j2]
        rw [if_neg (by decide), if_pos trivial, if_neg (by decide), if_pos trivial, if_neg (by decide), hm0, Option.bind_some, if_pos rfl, hml, Option.bind_some, if_pos (by rfl)]
        exact hj3
      simp only
      rw [h16t]
      by_cases h1 : x1 ≥ 0
      · rw [if_pos h1, show decide (x1 < (n : Int)) = false by simp; omega]
        exact key
      · rw [if_neg h1]
        exact key
theorem none_l0 (n : Nat) (x0 x1 x2 x3 p : Int) (hn : n ≤ 64) (h0 : x0 = n ∨ n = 0) (hp : 0 ≤ p ∧ p ≤ 1000000) : ∀ (d : Nat) (i : Int), i + d = n + 1 → -1 ≤ i → paternosterlaw22_CallsNone.l0 (d + 4) x0 x1 x2 x3 (n : Int) p i 0 (CI (Z n)) = some true
  | 0, i, hi, h1 => by
    simp only [paternosterlaw22_CallsNone.l0]
    rw [if_neg (by omega)]
    by_cases hx : x2 ≥ 0
    · rw [if_pos hx]
      by_cases hx3 : x2 < x3
      · rw [if_pos hx3]
        exact none_j1 0 n x0 x1 x2 x3 hn h0 _ (by simp [hx, hx3])
      · rw [if_neg hx3]
        exact none_j1 0 n x0 x1 x2 x3 hn h0 _ (by simp [hx3])
    · rw [if_neg hx]
      exact none_j1 0 n x0 x1 x2 x3 hn h0 _ (by simp [hx])
  | d + 1, i, hi, h1 => by
    have hz := Z_ok n hn
    have hx := next_ev 0 (Z n) i p 4294967295 (by decide) (by decide) hz hp
    have hg : ∀ c : Nat, (Z n).getD c 0 = 0 := fun c => by
      rw [List.getD_eq_getElem?_getD, List.getElem?_replicate]
      split <;> rfl
    rw [hg, Nat.zero_and, nextI_none', ite_self] at hx
    have ih := none_l0 n x0 x1 x2 x3 p hn h0 hp d (i + 1) (by omega) (by omega)
    rw [show d + 1 + 4 = (d + 4) + 1 by omega]
    simp only [paternosterlaw22_CallsNone.l0]
    rw [show (((0 : Nat) : Int)) = 0 from rfl, show ((4294967295 : Nat) : Int) = 4294967295 from rfl] at hx
    rw [if_pos (by omega), hx, Option.bind_some, if_pos rfl, w64s (i + 1) (by omega)]
    exact ih
theorem CallsNone : paternosterlaw22_CallsNone.Pure := by
  intro a0 a1 a2 a3 a4 w0 w1 w2 w3 w4
  obtain ⟨n, hn, h1, h2, _⟩ := new_ev a0
  have hp := pos_range a4 w4
  refine ⟨n + 2 + 4, ?_⟩
  unfold paternosterlaw22_CallsNone.f
  rw [awake_true, Option.bind_some, if_pos rfl, hn, Option.bind_some]
  simp only
  rw [CI_len, List.length_replicate]
  exact none_l0 n a0 a1 a2 a3 _ h1 h2 ⟨hp.1, by omega⟩ (n + 2) (-1) (by omega) (by omega)
end Go.Proofs.YthjmlmognbenoaaDoor.Pure
