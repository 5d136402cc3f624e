/- SenseTells, the plain law: for every list of at most 200 ticks the sense and the document's fold go together. No condition. -/
import Derived.Test.YtjabjihbefikkaaPSenseTellsx3
import Derived.OpenShut
namespace Go.Proofs.Ytjabjihbefikkaa.Pure
open Go.RowKit Go.Proofs.Ytjabjihbefikkaa.PSenseTells Go.Proofs.YtjabjihbefikkaaW.PrintWords Go.Proofs.YtjabjihbefikkaaW.PrintLast

theorem tel_wrap (n : Int) (h : -9223372036854775808 ≤ n ∧ n ≤ 9223372036854775807) : wrap64 n = n := by unfold wrap64; omega

/-- One tick of the document's fold. -/
def tel_step (m : Int) (s : Bool × Int × Bool) (x : Bool) : Bool × Int × Bool :=
  if (x == s.1) = true then (s.1, 0, false) else if s.2.1 + 1 ≥ m then (x, 0, true) else (s.1, s.2.1 + 1, false)

theorem tel_bounds (m : Int) (hm : 0 < m) (s : Bool × Int × Bool) (x : Bool) (h : 0 ≤ s.2.1 ∧ s.2.1 < m) : 0 ≤ (tel_step m s x).2.1 ∧ (tel_step m s x).2.1 < m := by
  unfold tel_step
  split
  · exact ⟨Int.le_refl _, hm⟩
  · split
    · exact ⟨Int.le_refl _, hm⟩
    · exact ⟨by simp only; omega, by simp only; omega⟩

theorem tel_sense (m : Int) (hm : m ≤ 1000) (s : Bool × Int × Bool) (x : Bool) (h : 0 ≤ s.2.1 ∧ s.2.1 < m) :
    sense_Sense_Step.f s.1 s.2.1 x m = some (tel_step m s x) := by
  unfold sense_Sense_Step.f tel_step
  rw [tel_wrap (s.2.1 + 1) (by omega)]
  by_cases e : s.1 = x
  · rw [if_pos (by simp [e]), if_pos (by simp [e])]; simp [e]
  · have e1 : ¬ (s.1 == x) = true := by simpa using e
    have e2 : ¬ (x == s.1) = true := by simpa using fun h => e h.symm
    rw [if_neg e1, if_neg e2]
    split <;> rfl

theorem tel_good (l : List Bool) (m : Int) (hm0 : 0 < m) (hm : m ≤ 1000) (hl : l.length ≤ 200) (d : Nat) : ∀ (k : Nat) (s : Bool × Int × Bool) (i : Int), 0 ≤ i → i ≤ l.length → (l.length : Int) - i = d → d < k → 0 ≤ s.2.1 → s.2.1 < m →
    paternosterref18_Good.l0 k s.1 l m s.2.1 s.2.2 i = some (((l.drop i.toNat).foldl (tel_step m) s).1, ((l.drop i.toNat).foldl (tel_step m) s).2.2) := by
  induction d with
  | zero =>
    intro k s i h0 h1 hd hk _ _
    obtain ⟨k, rfl⟩ : ∃ m, k = m + 1 := ⟨k - 1, by omega⟩
    simp only [paternosterref18_Good.l0]
    rw [if_neg (by omega), List.drop_of_length_le (by omega)]; rfl
  | succ d ih =>
    intro k s i h0 h1 hd hk hs0 hs1
    obtain ⟨k, rfl⟩ : ∃ m, k = m + 1 := ⟨k - 1, by omega⟩
    have hlt : i.toNat < l.length := by omega
    have hdr : l.drop i.toNat = l[i.toNat] :: l.drop (i + 1).toNat := by
      rw [show (i + 1).toNat = i.toNat + 1 by omega]; exact List.drop_eq_getElem_cons hlt
    have hrd : rdOf false l i = l[i.toNat] := by unfold rdOf; rw [List.getD_eq_getElem?_getD, List.getElem?_eq_getElem hlt, Option.getD_some]
    have hb := tel_bounds m hm0 s l[i.toNat] ⟨hs0, hs1⟩
    have IH := ih k (tel_step m s l[i.toNat]) (i + 1) (by omega) (by omega) (by omega) (by omega) hb.1 hb.2
    simp only [paternosterref18_Good.l0]
    rw [if_pos (by omega), if_pos h0, hrd, tel_wrap (s.2.1 + 1) (by omega), tel_wrap (i + 1) (by omega), hdr, List.foldl_cons, ← IH]
    unfold tel_step
    split
    · rfl
    · split <;> rfl

theorem tel_run (g : Bool) (l : List Bool) (m : Int) (hm0 : 0 < m) (hm : m ≤ 1000) (hl : l.length ≤ 200) (d : Nat) : ∀ (k : Nat) (s : Bool × Int × Bool) (i : Int), 0 ≤ i → i ≤ l.length → (l.length : Int) - i = d → d + 300 < k →
    s = (l.take i.toNat).foldl (tel_step m) (g, 0, false) → 0 ≤ s.2.1 → s.2.1 < m →
    paternosterlaw18_SenseTells.l0 k g l m i s.1 s.2.1 = some true := by
  induction d with
  | zero =>
    intro k s i h0 h1 hd hk _ _ _
    obtain ⟨k, rfl⟩ : ∃ m, k = m + 1 := ⟨k - 1, by omega⟩
    simp only [paternosterlaw18_SenseTells.l0]
    rw [if_neg (by omega)]
  | succ d ih =>
    intro k s i h0 h1 hd hk hs hs0 hs1
    obtain ⟨k, rfl⟩ : ∃ m, k = m + 1 := ⟨k - 1, by omega⟩
    have hlt : i.toNat < l.length := by omega
    have hrd : rdOf false l i = l[i.toNat] := by unfold rdOf; rw [List.getD_eq_getElem?_getD, List.getElem?_eq_getElem hlt, Option.getD_some]
    have hb := tel_bounds m hm0 s l[i.toNat] ⟨hs0, hs1⟩
    have htk : l.take (i + 1).toNat = l.take i.toNat ++ [l[i.toNat]] := by
      rw [show (i + 1).toNat = i.toNat + 1 by omega]; exact List.take_succ_eq_append_getElem hlt
    have hfold : (l.take (i + 1).toNat).foldl (tel_step m) (g, 0, false) = tel_step m s l[i.toNat] := by
      rw [htk, List.foldl_append, ← hs]; rfl
    have hlen : (l.take (i + 1).toNat).length = (i + 1).toNat := by rw [List.length_take]; omega
    have hgood := tel_good (l.take (i + 1).toNat) m hm0 hm (by omega) (i + 1).toNat k (g, 0, false) 0 (by omega) (by omega) (by omega) (by omega) (Int.le_refl _) hm0
    rw [show ((0 : Int).toNat) = 0 from rfl, List.drop_zero, hfold] at hgood
    have IH := ih k (tel_step m s l[i.toNat]) (i + 1) (by omega) (by omega) (by omega) (by omega) hfold.symm hb.1 hb.2
    simp only [paternosterlaw18_SenseTells.l0]
    rw [if_pos (by omega), if_pos h0, hrd, tel_sense m hm s _ ⟨hs0, hs1⟩]
    simp only [Option.bind_some]
    rw [tel_wrap (i + 1) (by omega), if_pos (by omega), if_pos (by omega)]
    unfold paternosterref18_Good.f
    rw [hgood]
    simp only [Option.bind_some]
    rw [if_neg (by simp), if_neg (by simp), if_neg (by omega), if_neg (by omega)]
    exact IH

theorem tel_awake : paternosterlaw18_awake.f = some true := by decide +kernel

theorem SenseTells (a0 : Bool) (a1 : Int) (l2 : List Bool) (w1 : (Lit.int .u8 a1).wf = true) : ∃ k, paternosterlaw18_SenseTells.f k a0 a1 l2 = some true := by
  have h1 : 0 ≤ a1 ∧ a1 ≤ 255 := Go.bounds_u8 w1
  have hm : wrap64 ((wrap64 (Int.tmod a1 200)) + 1) = a1 % 200 + 1 := by
    rw [Int.tmod_eq_emod_of_nonneg h1.1, tel_wrap (a1 % 200) (by omega), tel_wrap _ (by omega)]
  refine ⟨l2.length + 400, ?_⟩
  unfold paternosterlaw18_SenseTells.f
  rw [tel_awake]
  simp only [Option.bind_some, if_true]
  by_cases hl : (l2.length : Int) > 200
  · rw [if_pos hl]
  · rw [if_neg hl, hm]
    exact tel_run a0 l2 _ (by omega) (by omega) (by omega) l2.length _ (a0, 0, false) 0 (by omega) (by omega) (by omega) (by omega) rfl (Int.le_refl _) (by simp only; omega)

end Go.Proofs.Ytjabjihbefikkaa.Pure
