/- CallsApart, the plain law: what is wanted in one car plays no part for another one; called for twice it is as once. No condition. -/
import Derived.Test.YthjmlmognbenoaaDoorPTwox15
import Derived.Test.YthjmlmognbenoaaDoorCl
set_option linter.unusedVariables false
set_option linter.unusedSimpArgs false
namespace Go.Proofs.YthjmlmognbenoaaDoor.Pure
open Go.RowKit Go.Proofs.YthjmlmognbenoaaDoor.PTwo Go.Proofs.YthjmlmognbenoaaDoorW.PrintWords Go.Proofs.YthjmlmognbenoaaDoorW.PrintLast Go.Proofs.YthjmlmognbenoaaDoorW.PrintMore
open Go.Proofs.YthjmlmognbenoaaDoor.PAll (floL popN onesI onesL nextI bestOf stepB firstOf orElse floL_zero floL_step)
theorem next_at (x f : Nat) (hf : f ∈ floL x) : nextI x 0 (8 * (f : Int)) = (f : Int) := by
  obtain ⟨g, hg, e, hb⟩ := nextI_own x 0 (8 * (f : Int)) (fun e => by rw [e] at hf; cases hf)
  have h1 := hb f hf
  unfold dist at h1
  rw [e]
  omega
theorem bitN_pos (f : Nat) : 2 ^ f ≠ 0 := Nat.ne_of_gt (Nat.two_pow_pos f)
theorem get_set_ne (L : List Nat) (x y v : Nat) (h : x ≠ y) : (L.set x v).getD y 0 = L.getD y 0 := by
  rw [List.getD_eq_getElem?_getD, List.getD_eq_getElem?_getD, List.getElem?_set_ne h]
theorem get_set_self (L : List Nat) (x v : Nat) (h : x < L.length) : (L.set x v).getD x 0 = v := by
  rw [List.getD_eq_getElem?_getD, List.getElem?_set_self h, Option.getD_some]
theorem apart_l1 (h : Nat) (L : List Nat) (x y f : Nat) (hh : h < 4294967296) (hL : Ok L) (hx : x < L.length) (hy : y < L.length) (hxy : x ≠ y) (hf : f < 32) : ∀ (d : Nat) (p : Int), 0 ≤ p → p ≤ 500 → 249 ≤ p + 31 * d →
    paternosterlaw22_CallsApart.l1 (d + 1) (x : Int) (y : Int) (f : Int) p (h : Int) (CI L) (h : Int) (CI (L.set x (L.getD x 0 ||| 2 ^ f))) (h : Int) (CI (L.set x (L.getD x 0 ||| 2 ^ f))) = some true := by
  have hv := or_lt (L.getD x 0) (2 ^ f) (hL.get x) (pow_lt32 f hf)
  have hL2 := hL.set x (L.getD x 0 ||| 2 ^ f) hv
  have hnc := fun p : Int => fun hp : 0 ≤ p ∧ p ≤ 1000000 => next_ev h L (y : Int) p 0 hh (by decide) hL hp
  have hnd := fun p : Int => fun hp : 0 ≤ p ∧ p ≤ 1000000 => next_ev h (L.set x (L.getD x 0 ||| 2 ^ f)) (y : Int) p 0 hh (by decide) hL2 hp
  have hne := fun p : Int => fun hp : 0 ≤ p ∧ p ≤ 1000000 => next_ev h (L.set x (L.getD x 0 ||| 2 ^ f)) (x : Int) p 0 hh (by decide) hL2 hp
  simp only [Int.toNat_natCast, Nat.and_zero, List.length_set, get_set_ne L x y _ hxy, get_set_self L x _ hx] at hnc hnd hne
  rw [show ((0 : Nat) : Int) = 0 from rfl] at hnc hnd hne
  have c1 : (0 ≤ (y : Int) ∧ (y : Int) < (L.length : Int)) := by omega
  have c2 : (0 ≤ (x : Int) ∧ (x : Int) < (L.length : Int)) := by omega
  simp only [c1, c2, and_self, if_true] at hnc hnd hne
  have hfm : f ∈ floL (L.getD x 0 ||| 2 ^ f) := (mem_or _ f f hf).2 (.inr rfl)
  have hat := next_at _ f hfm
  have hd := done_ev h (L.set x (L.getD x 0 ||| 2 ^ f)) (x : Int) (f : Int) false hh hL2
  rw [List.length_set, if_pos c2, bitN_at f hf, Int.toNat_natCast, get_set_self L x _ hx, cond_false, List.set_set] at hd
  have hoff : off (L.getD x 0 ||| 2 ^ f) (2 ^ f) < 4294967296 := Nat.lt_of_le_of_lt (off_le _ _) hv
  have hL3 := hL.set x (off (L.getD x 0 ||| 2 ^ f) (2 ^ f)) hoff
  have hn3 := next_ev h (L.set x (off (L.getD x 0 ||| 2 ^ f) (2 ^ f))) (y : Int) 0 0 hh (by decide) hL3 ⟨by decide, by decide⟩
  rw [List.length_set, if_pos c1, Int.toNat_natCast, get_set_ne L x y _ hxy, Nat.and_zero, show ((0 : Nat) : Int) = 0 from rfl] at hn3
  have hfin : ∀ k (p : Int), 249 ≤ p → paternosterlaw22_CallsApart.l1 (k + 1) (x : Int) (y : Int) (f : Int) p (h : Int) (CI L) (h : Int) (CI (L.set x (L.getD x 0 ||| 2 ^ f))) (h : Int) (CI (L.set x (L.getD x 0 ||| 2 ^ f))) = some true := fun k p hp => by
    simp only [paternosterlaw22_CallsApart.l1]
    rw [if_neg (by omega), hd, Option.bind_some]
    simp only
    rw [hn3, Option.bind_some, hnc 0 ⟨by decide, by decide⟩, Option.bind_some]
    simp
  intro d
  induction d with
  | zero => intro p h0 h1 h2; exact hfin 0 p (by omega)
  | succ d ih =>
    intro p h0 h1 h2
    by_cases hp : p < 249
    · have ih := ih (p + 31) (by omega) (by omega) (by omega)
      have key : ∀ m, paternosterlaw22_CallsApart.l1 m (x : Int) (y : Int) (f : Int) (p + 31) (h : Int) (CI L) (h : Int) (CI (L.set x (L.getD x 0 ||| 2 ^ f))) (h : Int) (CI (L.set x (L.getD x 0 ||| 2 ^ f))) = some true → paternosterlaw22_CallsApart.l1 (m + 1) (x : Int) (y : Int) (f : Int) p (h : Int) (CI L) (h : Int) (CI (L.set x (L.getD x 0 ||| 2 ^ f))) (h : Int) (CI (L.set x (L.getD x 0 ||| 2 ^ f))) = some true := fun m hm => by
        simp only [paternosterlaw22_CallsApart.l1]
        rw [if_pos hp, hnd p ⟨h0, by omega⟩, Option.bind_some, hnc p ⟨h0, by omega⟩, Option.bind_some, if_pos rfl, hne p ⟨h0, by omega⟩, Option.bind_some, Option.bind_some, if_pos rfl, w64s (8 * (f : Int)) (by omega), hne (8 * (f : Int)) (by omega), Option.bind_some, hat, if_pos rfl, w64s (p + 31) (by omega)]
        exact hm
      exact key _ ih
    · exact hfin _ p (by omega)
theorem apart_end (k : Nat) (l1 : List S30) (a4 : Int) (i h : Nat) (L : List Nat) (x y f : Nat) (hh : h < 4294967296) (hL : Ok L) (hx : x < L.length) (hy : y < L.length) (hxy : x ≠ y) (hf : f < 32) (hi : l1.length ≤ i) (ha : wrap64 (Int.tmod a4 32) = (f : Int)) :
    paternosterlaw22_CallsApart.l0 (k + 12) l1 a4 (x : Int) (y : Int) (i : Int) (h : Int) (CI L) = some true := by
  have hv := or_lt (L.getD x 0) (2 ^ f) (hL.get x) (pow_lt32 f hf)
  have hL2 := hL.set x (L.getD x 0 ||| 2 ^ f) hv
  have c2 : (0 ≤ (x : Int) ∧ (x : Int) < (L.length : Int)) := by omega
  have hfm : f ∈ floL (L.getD x 0 ||| 2 ^ f) := (mem_or _ f f hf).2 (.inr rfl)
  have hd := car_ev h L (x : Int) (f : Int) 32 hL
  rw [bitN_at f hf, if_neg (bitN_pos f), if_pos c2, Int.toNat_natCast] at hd
  have he := car_ev h (L.set x (L.getD x 0 ||| 2 ^ f)) (x : Int) (f : Int) 32 hL2
  rw [bitN_at f hf, if_neg (bitN_pos f), List.length_set, if_pos c2, Int.toNat_natCast, get_set_self L x _ hx, or_same _ f hf hfm, List.set_set] at he
  have hg := hall_ev h (L.set x (L.getD x 0 ||| 2 ^ f)) (f : Int) 32 hh hL2.1
  rw [bitN_at f hf] at hg
  have hgl := or_lt h (2 ^ f) hh (pow_lt32 f hf)
  have hfm2 : f ∈ floL (h ||| 2 ^ f) := (mem_or _ f f hf).2 (.inr rfl)
  have hq := hall_ev (h ||| 2 ^ f) (L.set x (L.getD x 0 ||| 2 ^ f)) (f : Int) 32 hgl hL2.1
  rw [bitN_at f hf, or_same _ f hf hfm2] at hq
  have hb : (((2 ^ f : Nat) : Int) != 0) = true := by
    rw [bne_iff_ne]
    have := bitN_pos f
    omega
  rw [hb] at hg hq
  have m1 := many_ev h (L.set x (L.getD x 0 ||| 2 ^ f)) hh hL2
  have m2 := many_ev (h ||| 2 ^ f) (L.set x (L.getD x 0 ||| 2 ^ f)) hgl hL2
  have m3 := many_ev h L hh hL
  have hcs := cntL_set L x (L.getD x 0 ||| 2 ^ f) hx
  have hco := cnt_or (L.getD x 0) f hf
  have hle : cntL (L.set x (L.getD x 0 ||| 2 ^ f)) ≤ cntL L + 1 ∧ cntL L ≤ cntL (L.set x (L.getD x 0 ||| 2 ^ f)) := by
    split at hco <;> omega
  have hcl : cntL L ≤ 32 * L.length := by
    have : ∀ M : List Nat, cntL M ≤ 32 * M.length := by
      intro M
      induction M with
      | nil => simp [cntL]
      | cons a M ih =>
        have := cnt_le a
        simp only [cntL, List.map_cons, List.sum_cons, List.length_cons] at ih ⊢
        omega
    exact this L
  have hch := cnt_le h
  have hlen := hL.1
  have hl := apart_l1 h L x y f hh hL hx hy hxy hf 9 0 (by decide) (by decide) (by decide)
  have w1 : wrap64 (((cnt h + cntL (L.set x (L.getD x 0 ||| 2 ^ f)) : Nat) : Int) - ((cnt h + cntL L : Nat) : Int)) = ((cnt h + cntL (L.set x (L.getD x 0 ||| 2 ^ f)) : Nat) : Int) - ((cnt h + cntL L : Nat) : Int) := w64s _ (by omega)
  have hl' := (paternosterlaw22_CallsApart.mono_l)
  rw [show k + 12 = (k + 11) + 1 by omega]
  simp only [paternosterlaw22_CallsApart.l0]
  rw [if_neg (by omega), ha, hd, Option.bind_some]
  simp only
  rw [he, Option.bind_some, hg, Option.bind_some]
  simp only
  rw [hq, Option.bind_some, if_pos trivial, if_pos trivial, if_pos trivial]
  simp only
  rw [if_pos trivial, m1, Option.bind_some, Option.bind_some, if_pos rfl, m2, Option.bind_some, Option.bind_some, if_pos rfl, Option.bind_some, m3, Option.bind_some, w1, if_neg (by omega), Option.bind_some, Option.bind_some, decide_eq_false (by omega), show k + 11 = (k + 10) + 1 by omega]
  simp only [paternosterlaw22_CallsApart.j2]
  rw [if_neg (by decide)]
  have mono : ∀ m, paternosterlaw22_CallsApart.l1 (9 + 1 + m) (x : Int) (y : Int) (f : Int) 0 (h : Int) (CI L) (h : Int) (CI (L.set x (L.getD x 0 ||| 2 ^ f))) (h : Int) (CI (L.set x (L.getD x 0 ||| 2 ^ f))) = some true := by
    intro m
    induction m with
    | zero => exact hl
    | succ m ih => exact (hl' (9 + 1 + m)).2.2.2 _ _ _ _ _ _ _ _ _ _ _ ih
  have := mono k
  rw [show 9 + 1 + k = k + 10 by omega] at this
  exact this
theorem apart_l0 (l1 : List S30) (hl : l1.length ≤ 60) (a4 : Int) (x y f : Nat) (hxy : x ≠ y) (hf : f < 32) (ha : wrap64 (Int.tmod a4 32) = (f : Int)) : ∀ (d i h : Nat) (L : List Nat), i + d = l1.length → h < 4294967296 → Ok L → x < L.length → y < L.length →
    paternosterlaw22_CallsApart.l0 (d + 12) l1 a4 (x : Int) (y : Int) (i : Int) (h : Int) (CI L) = some true := by
  intro d
  induction d with
  | zero => intro i h L hi hh hL hx hy; exact apart_end 0 l1 a4 i h L x y f hh hL hx hy hxy hf (by omega) ha
  | succ d ih =>
    intro i h L hi hh hL hx hy
    have step : ∀ m, (∀ (h : Nat) (L : List Nat), h < 4294967296 → Ok L → x < L.length → y < L.length → paternosterlaw22_CallsApart.l0 m l1 a4 (x : Int) (y : Int) ((i + 1 : Nat) : Int) (h : Int) (CI L) = some true) → paternosterlaw22_CallsApart.l0 (m + 1) l1 a4 (x : Int) (y : Int) (i : Int) (h : Int) (CI L) = some true := fun m ih => by
      have hi1 : wrap64 ((i : Int) + 1) = ((i + 1 : Nat) : Int) := by rw [w64s ((i : Int) + 1) (by omega)]; omega
      simp only [paternosterlaw22_CallsApart.l0]
      rw [if_pos (by omega), if_pos (by omega), hi1]
      by_cases h2 : (rd_T30 l1 (i : Int)).f0 < 2
      · rw [if_pos h2, hall_ev h L _ 32 hh hL.1, Option.bind_some]
        exact ih _ L (or_lt _ _ hh (bitN_lt _ _)) hL hx hy
      · rw [if_neg h2, car_ev h L _ _ 32 hL]
        by_cases hb : bitN (rd_T30 l1 (i : Int)).f2 32 = 0
        · rw [if_pos hb, Option.bind_some]
          exact ih h L hh hL hx hy
        · rw [if_neg hb]
          by_cases hc : 0 ≤ (rd_T30 l1 (i : Int)).f1 ∧ (rd_T30 l1 (i : Int)).f1 < (L.length : Int)
          · rw [if_pos hc, Option.bind_some]
            exact ih h _ hh (hL.set _ _ (or_lt _ _ (hL.get _) (bitN_lt _ _))) (by rw [List.length_set]; exact hx) (by rw [List.length_set]; exact hy)
          · rw [if_neg hc, Option.bind_some]
            exact ih h L hh hL hx hy
    have := step (d + 12) (fun h' L' => ih (i + 1) h' L' (by omega))
    rw [show d + 12 + 1 = d + 1 + 12 by omega] at this
    exact this
theorem u8_nat (a : Int) (h : (Lit.int .u8 a).wf = true) : ∃ n : Nat, a = n ∧ n < 256 := by
  simp [Lit.wf, IntKind.min, IntKind.max, IntKind.signed, IntKind.bits] at h
  exact ⟨a.toNat, by omega, by omega⟩
theorem CallsApart (a0 : Int) (l1 : List S30) (a2 a3 a4 : Int) (w0 : (Lit.int .u8 a0).wf = true) (w2 : (Lit.int .u8 a2).wf = true) (w3 : (Lit.int .u8 a3).wf = true) (w4 : (Lit.int .u8 a4).wf = true) : ∃ k, paternosterlaw22_CallsApart.f k a0 l1 a2 a3 a4 = some true := by
  obtain ⟨c, rfl, hc⟩ := u8_nat a0 w0
  obtain ⟨x, rfl, hx⟩ := u8_nat a2 w2
  obtain ⟨y, rfl, hy⟩ := u8_nat a3 w3
  obtain ⟨f, rfl, hf⟩ := u8_nat a4 w4
  have e0 : wrap64 ((wrap64 (Int.tmod (c : Int) 8)) + 2) = ((c % 8 + 2 : Nat) : Int) := by
    rw [Int.tmod_eq_emod_of_nonneg (by omega), w64s ((c : Int) % 8) (by omega), w64s _ (by omega)]
    omega
  have e4 : wrap64 (Int.tmod (f : Int) 32) = ((f % 32 : Nat) : Int) := by
    rw [Int.tmod_eq_emod_of_nonneg (by omega), w64s _ (by omega)]
    omega
  have hn : 2 ≤ c % 8 + 2 ∧ c % 8 + 2 ≤ 9 := by omega
  generalize c % 8 + 2 = n at e0 hn
  have e1 : ∀ z : Nat, z < 256 → Int.tmod (wrap64 (z : Int)) (n : Int) = ((z % n : Nat) : Int) := fun z hz => by
    rw [w64s _ (by omega), Int.tmod_eq_emod_of_nonneg (by omega)]
    rfl
  have hxn := Nat.mod_lt x (show 0 < n by omega)
  have hyn := Nat.mod_lt y (show 0 < n by omega)
  obtain ⟨n', hnew, h64, hn2, hn3⟩ := new_ev (n : Int)
  rw [if_neg (by omega), Int.toNat_natCast] at hn3
  subst hn3
  refine ⟨l1.length + 13, ?_⟩
  unfold paternosterlaw22_CallsApart.f
  rw [awake_true, Option.bind_some, if_pos rfl, e0, if_neg (by omega), e1 x hx, e1 y hy]
  by_cases hl : (l1.length : Int) > 60
  · rw [if_pos hl, show l1.length + 13 = (l1.length + 12) + 1 by omega]
    simp only [paternosterlaw22_CallsApart.j0]
    rfl
  · rw [if_neg hl, show l1.length + 13 = (l1.length + 12) + 1 by omega]
    simp only [paternosterlaw22_CallsApart.j0]
    by_cases hxy : x % n' = y % n'
    · rw [show (((x % n' : Nat) : Int) == ((y % n' : Nat) : Int)) = true by rw [hxy]; simp]
      rfl
    · rw [show (((x % n' : Nat) : Int) == ((y % n' : Nat) : Int)) = false by rw [beq_eq_false_iff_ne]; omega, if_neg (by decide), hnew, Option.bind_some]
      exact apart_l0 l1 (by omega) (f : Int) (x % n') (y % n') (f % 32) hxy (by omega) e4 l1.length 0 0 (Z n') (by omega) (by decide) (Z_ok n' h64) (by rw [List.length_replicate]; exact hxn) (by rw [List.length_replicate]; exact hyn)
end Go.Proofs.YthjmlmognbenoaaDoor.Pure
