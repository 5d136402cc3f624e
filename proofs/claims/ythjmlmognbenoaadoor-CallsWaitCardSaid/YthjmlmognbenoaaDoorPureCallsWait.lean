/- CallsWait, the plain law: where a car should go somebody in it wants to, or waits; there is no nearer one; done there, it isn't told any more. No condition. -/
import Derived.Test.YthjmlmognbenoaaDoorPTwox16
import Derived.Test.YthjmlmognbenoaaDoorCl
set_option linter.unusedVariables false
set_option linter.unusedSimpArgs false
namespace Go.Proofs.YthjmlmognbenoaaDoor.Pure
open Go.RowKit Go.Proofs.YthjmlmognbenoaaDoor.PTwo Go.Proofs.YthjmlmognbenoaaDoorW.PrintWords Go.Proofs.YthjmlmognbenoaaDoorW.PrintLast Go.Proofs.YthjmlmognbenoaaDoorW.PrintMore
open Go.Proofs.YthjmlmognbenoaaDoor.PAll (floL popN onesI onesL nextI bestOf stepB firstOf orElse floL_zero floL_step)
theorem wait_and (h hs f : Nat) (hm : f ∈ floL (h &&& hs)) : f ∈ floL h := by
  rw [mem_floL, Nat.testBit_and, Bool.and_eq_true] at hm
  exact (mem_floL h f).2 ⟨hm.1, hm.2.1⟩
theorem wait_gone (x f : Nat) (hf : f < 32) (hm : f ∈ floL (off x (2 ^ f))) : False := by
  rw [floL_off x f hf] at hm
  have := (List.mem_filter.1 hm).2
  simp at this
theorem wait_j3 (k : Nat) (L : List Nat) (h hs K f : Nat) (p : Int) (x17 x18 : Int) (hL : Ok L) (hh : h < 4294967296) (hs2 : hs < 4294967296) (hK : K < L.length) (hp : 0 ≤ p ∧ p ≤ 1000000) (hf : f < 32)
    (hm : f ∈ floL (L.getD K 0) ∨ (L.getD K 0 = 0 ∧ f ∈ floL h)) :
    paternosterlaw22_CallsWait.j3 (k + 1) (CI L) (h : Int) (hs : Int) (K : Int) p (f : Int) ((cnt h + cntL L : Nat) : Int) x17 x18 false (h : Int) (CI L) = some true := by
  have hd1 := done_ev h L (K : Int) (f : Int) true hh hL
  have hd2 := done_ev h L (K : Int) (f : Int) false hh hL
  rw [if_pos (by omega), bitN_at f hf, Int.toNat_natCast, cond_true] at hd1
  rw [if_pos (by omega), bitN_at f hf, Int.toNat_natCast, cond_false] at hd2
  have hoff : off (L.getD K 0) (2 ^ f) < 4294967296 := Nat.lt_of_le_of_lt (off_le _ _) (hL.get K)
  have hoh : off h (2 ^ f) < 4294967296 := Nat.lt_of_le_of_lt (off_le _ _) hh
  have hL2 := hL.set K (off (L.getD K 0) (2 ^ f)) hoff
  have hm1 := many_ev (off h (2 ^ f)) (L.set K (off (L.getD K 0) (2 ^ f))) hoh hL2
  have hm2 := many_ev h L hh hL
  have hcs := cntL_set L K (off (L.getD K 0) (2 ^ f)) hK
  have hlt : cnt (off h (2 ^ f)) + cntL (L.set K (off (L.getD K 0) (2 ^ f))) < cnt h + cntL L := by
    have h1 := cnt_off_le h f hf
    have h2 := cnt_off_le (L.getD K 0) f hf
    rcases hm with hm | hm
    · have h3 := cnt_off (L.getD K 0) f hf
      rw [if_pos hm] at h3
      have h4 : 0 < cnt (L.getD K 0) := List.length_pos_of_mem hm
      omega
    · have h3 := cnt_off h f hf
      rw [if_pos hm.2] at h3
      have h4 : 0 < cnt h := List.length_pos_of_mem hm.2
      omega
  have hnx := next_ev (off h (2 ^ f)) (L.set K (off (L.getD K 0) (2 ^ f))) (K : Int) p hs hoh hs2 hL2 hp
  rw [if_pos (by rw [List.length_set]; omega), Int.toNat_natCast] at hnx
  have hget : (L.set K (off (L.getD K 0) (2 ^ f))).getD K 0 = off (L.getD K 0) (2 ^ f) := by
    rw [List.getD_eq_getElem?_getD, List.getElem?_set_self hK, Option.getD_some]
  rw [hget] at hnx
  have hne : nextI (off (L.getD K 0) (2 ^ f)) (off h (2 ^ f) &&& hs) p ≠ (f : Int) := by
    rcases nextI_cases (off (L.getD K 0) (2 ^ f)) (off h (2 ^ f) &&& hs) p with ⟨_, _, e⟩ | ⟨g, hg, e, _⟩ | ⟨_, g, hg, e⟩
    · rw [e]; omega
    · rw [e]; intro e2
      have : g = f := by omega
      subst this
      exact wait_gone _ _ hf hg
    · rw [e]; intro e2
      have : g = f := by omega
      subst this
      exact wait_gone _ _ hf (wait_and _ _ _ hg)
  simp only [paternosterlaw22_CallsWait.j3]
  rw [if_neg (by decide), hd1, Option.bind_some, hd2, Option.bind_some]
  simp only
  rw [hm1, Option.bind_some, if_pos (by omega), hnx, Option.bind_some, if_neg hne, if_pos trivial, hm2, Option.bind_some]
  simp
theorem wait_l0 (L : List Nat) (h hs K f : Nat) (p : Int) (hL : Ok L) (hh : h < 4294967296) (hs2 : hs < 4294967296) (hK : K < L.length) (hp : 0 ≤ p ∧ p ≤ 1000000) (hf : f < 32)
    (hm : f ∈ floL (L.getD K 0) ∨ (L.getD K 0 = 0 ∧ f ∈ floL h)) (hb : ∀ g ∈ floL (L.getD K 0), dist p f ≤ dist p g) : ∀ (d g : Nat), g + d = 32 →
    paternosterlaw22_CallsWait.l0 (2 * d + 2) (CI L) (h : Int) (hs : Int) (K : Int) p (f : Int) ((cnt h + cntL L : Nat) : Int) (dist p f) (g : Int) (h : Int) (CI L) = some true
  | 0, g, hg => by
    simp only [paternosterlaw22_CallsWait.l0]
    rw [if_neg (by omega)]
    exact wait_j3 0 L h hs K f p _ _ hL hh hs2 hK hp hf hm
  | d + 1, g, hg => by
    have ih := wait_l0 L h hs K f p hL hh hs2 hK hp hf hm hb d (g + 1) (by omega)
    rw [show 2 * (d + 1) + 2 = (2 * d + 2) + 1 + 1 by omega]
    simp only [paternosterlaw22_CallsWait.l0]
    rw [if_pos (by omega), if_pos (by omega), if_pos (by rw [CI_len]; omega), CI_rd]
    by_cases h0 : L.getD K 0 = 0
    · rw [show (((L.getD K 0 : Nat) : Int) != 0) = false by rw [h0]; rfl]
      exact wait_j3 (2 * d + 2) L h hs K f p _ _ hL hh hs2 hK hp hf hm
    · rw [show (((L.getD K 0 : Nat) : Int) != 0) = true by rw [bne_iff_ne]; omega]
      have hs3 := shr_bit (L.getD K 0) g (by omega) (hL.get K)
      simp only [paternosterlaw22_CallsWait.j3]
      rw [if_pos trivial, if_pos (by omega), if_pos (by rw [CI_len]; omega), all_u64 g (by omega), if_pos (by omega), CI_rd, hs3, far_ev p g hp (by omega), w64s ((g : Int) + 1) (by omega)]
      by_cases hbit : (L.getD K 0).testBit g = true
      · have := hb g ((mem_floL _ _).2 ⟨by omega, hbit⟩)
        rw [if_pos hbit, if_pos rfl, if_neg (by omega)]
        exact ih
      · rw [if_neg hbit, if_neg (by decide)]
        exact ih
theorem idx_ev (a : Int) (n : Nat) (h : (Lit.int .u8 a).wf = true) (hn : 0 < n) : ∃ K : Nat, Int.tmod (wrap64 a) (n : Int) = (K : Int) ∧ K < n := by
  simp [Lit.wf, IntKind.min, IntKind.max, IntKind.signed, IntKind.bits] at h
  obtain ⟨m, rfl⟩ := Int.eq_ofNat_of_zero_le h.1
  rw [w64s _ (by omega), Int.tmod_eq_emod_of_nonneg (by omega)]
  exact ⟨m % n, by simp, Nat.mod_lt _ hn⟩
theorem CallsWait (l0 : List Int) (a1 a2 a3 a4 : Int) (w0 : ∀ x ∈ l0, (Lit.int .u32 x).wf = true) (w1 : (Lit.int .u32 a1).wf = true) (w2 : (Lit.int .u8 a2).wf = true) (w3 : (Lit.int .u8 a3).wf = true) (w4 : (Lit.int .u32 a4).wf = true) : ∃ k, paternosterlaw22_CallsWait.f k l0 a1 a2 a3 a4 = some true := by
  obtain ⟨h, rfl, hh⟩ := u32_nat a1 w1
  obtain ⟨hs, rfl, hs2⟩ := u32_nat a4 w4
  have hp := pos_range a3 w3
  obtain ⟨L, rfl, hLb, hLl⟩ := CI_of l0 (fun x hx => by
    obtain ⟨m, rfl, hm⟩ := u32_nat x (w0 x hx)
    omega)
  have hp1 : 0 ≤ Int.tmod (wrap64 a3) 249 ∧ Int.tmod (wrap64 a3) 249 ≤ 1000000 := ⟨hp.1, by omega⟩
  generalize hpe : Int.tmod (wrap64 a3) 249 = p at hp1
  refine ⟨68, ?_⟩
  unfold paternosterlaw22_CallsWait.f
  rw [awake_true, Option.bind_some, if_pos rfl, CI_len]
  by_cases hlen : (L.length : Int) > 64
  · rw [if_pos hlen]
    simp only [paternosterlaw22_CallsWait.j0]
    rfl
  · rw [if_neg hlen]
    by_cases hz : L.length = 0
    · rw [show ((L.length : Int) == 0) = true by simp; exact List.eq_nil_of_length_eq_zero hz]
      simp only [paternosterlaw22_CallsWait.j0]
      rfl
    · rw [show ((L.length : Int) == 0) = false by simp; exact fun e => hz (by rw [e]; rfl)]
      obtain ⟨K, hKe, hK⟩ := idx_ev a2 L.length w2 (by omega)
      have hL : Ok L := ⟨by omega, hLb⟩
      have hnx := next_ev h L (K : Int) p hs hh hs2 hL hp1
      rw [if_pos (by omega), Int.toNat_natCast] at hnx
      have hm := many_ev h L hh hL
      have hand : h &&& hs < 4294967296 := Nat.lt_of_le_of_lt Nat.and_le_left hh
      simp only [paternosterlaw22_CallsWait.j0]
      rw [if_neg (by decide), CI_len, if_neg (by omega), hKe, hpe, hnx, Option.bind_some, hm, Option.bind_some]
      rcases nextI_cases (L.getD K 0) (h &&& hs) p with ⟨h1, h2, e⟩ | ⟨f, hf, e, hb⟩ | ⟨h1, f, hf, e⟩
      · rw [e, if_pos (by decide), if_pos (by omega), if_pos (by omega), CI_rd, (floL_nil _ (hL.get K)).1 h1, if_pos (by rfl), u32_and_nat _ _ hh hs2, (floL_nil _ hand).1 h2]
        rfl
      · have hf2 := (mem_floL _ _).1 hf
        have hs3 := shr_bit (L.getD K 0) f hf2.1 (hL.get K)
        rw [hf2.2, if_pos rfl] at hs3
        rw [e, if_neg (by omega), if_neg (by omega), if_pos (by omega), if_pos (by omega), all_u64 f hf2.1, if_pos (by omega), CI_rd, hs3, if_neg (by decide)]
        simp only [paternosterlaw22_CallsWait.j1]
        rw [if_neg (by decide), far_ev p f hp1 hf2.1]
        exact wait_l0 L h hs K f p hL hh hs2 hK hp1 hf2.1 (.inl hf) hb 32 0 (by omega)
      · have hx0 := (floL_nil _ (hL.get K)).1 h1
        have hfh := wait_and _ _ _ hf
        have hf2 := (mem_floL _ _).1 hfh
        have hs3 := shr_bit (L.getD K 0) f hf2.1 (hL.get K)
        have hs4 := shr_bit h f hf2.1 hh
        rw [hf2.2, if_pos rfl] at hs4
        rw [hx0, Nat.zero_testBit, if_neg (by decide)] at hs3
        rw [e, if_neg (by omega), if_neg (by omega), if_pos (by omega), if_pos (by omega), all_u64 f hf2.1, if_pos (by omega), CI_rd, hx0, hs3, if_pos rfl, if_pos (by rfl), hs4]
        simp only [paternosterlaw22_CallsWait.j1]
        rw [if_neg (by decide), far_ev p f hp1 hf2.1]
        exact wait_l0 L h hs K f p hL hh hs2 hK hp1 hf2.1 (.inr ⟨hx0, hfh⟩) (by rw [h1]; simp) 32 0 (by omega)
end Go.Proofs.YthjmlmognbenoaaDoor.Pure
