/- Walks (no statement stands here). -/
import Derived.Test.YthpfhglncbkinaaDoorSr2
import Derived.Test.YthpfhglncbkinaaDoorPAllx23
import Derived.Test.YthpfhglncbkinaaDoorSz
import Derived.Test.YthpfhglncbkinaaDoorSv
import Derived.Test.YthpfhglncbkinaaDoorWMore
import Derived.Test.YthpfhglncbkinaaDoorWLast
namespace Go.Proofs.YthpfhglncbkinaaDoor.SF
open Go.RowKit Go.Sx Go.Proofs.YthpfhglncbkinaaDoorW.PrintWords Go.Proofs.YthpfhglncbkinaaDoorW.PrintLast Go.Proofs.YthpfhglncbkinaaDoorW.PrintMore
set_option linter.unusedVariables false
set_option linter.unusedSimpArgs false
set_option maxRecDepth 100000
def gS (x : PAll.S40) : PAll.S44 := ⟨x.f0, x.f1, x.f2, x.f3, x.f4⟩
theorem gS_at (l : List PAll.S40) (j : Nat) : (l.map gS).getD j PAll.z44 = gS (l.getD j PAll.z40) := by
  rw [List.getD_eq_getElem?_getD, List.getElem?_map, List.getD_eq_getElem?_getD]
  cases l[j]? <;> rfl
theorem k40_heap : PAll.k40.Heap := Kd.heap_iso _ (Kd.heap_pair (Kd.heap_int _) (Kd.heap_pair (Kd.heap_int _) (Kd.heap_pair (Kd.heap_int _) (Kd.heap_pair (Kd.heap_slice _ (Kd.heap_int _)) (Kd.heap_int _)))))
theorem all_ev (l : List PAll.S40) (hn : l.length ≤ 1000000) : ∀ (d j k : Nat), j + d = l.length → d < k → PAll.paternosterlaw25_all.l0 k l ((l.take j).map gS) j = some (l.map gS)
  | 0, j, k, h, hk => by
    obtain ⟨k, rfl⟩ : ∃ m, k = m + 1 := ⟨k - 1, by omega⟩
    obtain rfl : j = l.length := by omega
    simp only [PAll.paternosterlaw25_all.l0]
    rw [if_neg (by omega), List.take_length]
  | d + 1, j, k, h, hk => by
    obtain ⟨k, rfl⟩ : ∃ m, k = m + 1 := ⟨k - 1, by omega⟩
    have hj : j < l.length := by omega
    simp only [PAll.paternosterlaw25_all.l0]
    rw [if_pos (by omega), if_pos (by omega), if_pos (by rw [List.length_map, List.length_take]; omega)]
    have hw : wrap64 ((j : Int) + 1) = ((j + 1 : Nat) : Int) := by unfold wrap64; omega
    have hr : PAll.rd_T40 l (j : Int) = l.getD j PAll.z40 := by unfold PAll.rd_T40; rw [Int.toNat_natCast]
    have e : (l.take j).map gS ++ [(⟨(PAll.rd_T40 l (j : Int)).f0, (PAll.rd_T40 l (j : Int)).f1, (PAll.rd_T40 l (j : Int)).f2, (PAll.rd_T40 l (j : Int)).f3, (PAll.rd_T40 l (j : Int)).f4⟩ : PAll.S44)] = (l.take (j + 1)).map gS := by
      rw [hr, List.take_succ_eq_append_getElem hj, List.map_append, List.getD_eq_getElem?_getD, List.getElem?_eq_getElem hj]
      rfl
    rw [hw, e]
    exact all_ev l hn d (j + 1) k (by omega) (by omega)
theorem all2_calls (A : Option Addr) (c : Nat) (l : List PAll.S40) (w : World) (hr : Kd.C PAll.k40 w A l.length l) (hc : l.length ≤ c) (hn : l.length ≤ 1000000) : Calls Tryd.prog 8 #[.slice A l.length c] w fun e w' => ∃ i : Option Addr × Nat, (Kd.C PAll.k44 w' i.1 (l.map gS).length (l.map gS) ∧ (l.map gS).length ≤ i.2) ∧ e = .returned (.slice i.1 (l.map gS).length i.2) ∧ Below w.heap.size w w' := by
  refine (PAll.paternosterlaw25_all.calls (l.length + 1) (fun k => k < w.heap.size) A c l (l.map gS) w (Kd.V_mk hc (Kd.C_F k40_heap hr)) (all_ev l hn l.length 0 (l.length + 1) (by omega) (by omega))).mono ?_
  rintro e w' ⟨v, rfl, hN, hb⟩
  have hV := Kd.N_V (base' := 0) hN
  obtain ⟨A2, c2, rfl⟩ := Kd.V_slice hV
  obtain ⟨_, h2, h3⟩ := Kd.V_reads' hV
  exact ⟨(A2, c2), ⟨h3, h2⟩, rfl, hb⟩
/-! ## what is told, and what the document says -/
theorem resI_congr {P Q : Nat → Bool} {n : Nat} (h : ∀ i, i < n → P i = Q i) : resI P n = resI Q n := by
  have key : ∀ m j, j + m = n → fi P m j = fi Q m j := by
    intro m
    induction m with
    | zero => intro j _; rfl
    | succ m ih =>
      intro j hj
      simp only [fi]
      rw [h j (by omega), ih (j + 1) (by omega)]
  unfold resI
  rw [key n 0 (by omega)]
def ff (P : Nat → Bool) (n k : Nat) : Int := match fi P (n - k) k with | some j => j | none => -1
theorem ff_zero (P : Nat → Bool) (n : Nat) : ff P n 0 = resI P n := rfl
theorem ff_end (P : Nat → Bool) (n : Nat) : ff P n n = -1 := by unfold ff; rw [Nat.sub_self]; rfl
theorem ff_yes {P : Nat → Bool} {n m : Nat} (hm : m < n) (h : P m = true) : (m : Int) = ff P n m := by
  unfold ff
  obtain ⟨d, hd⟩ : ∃ d, n - m = d + 1 := ⟨n - m - 1, by omega⟩
  rw [hd]
  simp only [fi, h, if_true]
theorem ff_no {P : Nat → Bool} {n m : Nat} (hm : m < n) (h : P m = false) : ff P n (m + 1) = ff P n m := by
  unfold ff
  obtain ⟨d, hd⟩ : ∃ d, n - m = d + 1 := ⟨n - m - 1, by omega⟩
  rw [hd, show n - (m + 1) = d by omega]
  simp only [fi, h, Bool.false_eq_true, if_false]
theorem knA_lag (lag : Int) (F : Nat → PAll.S40) : ∀ i, (knA lag F i).lag = mnI (mxI lag 0) 8
  | 0 => rfl
  | i + 1 => knA_lag lag F i
theorem told_next (K : Kn) (c : Int) (j : Nat) : (K.next c).told (j + 1) = if j + 1 < 8 then K.told j else 0 := by
  match j with
  | 0 | 1 | 2 | 3 | 4 | 5 | 6 => rfl
  | j + 7 => rw [if_neg (by omega)]; rfl
theorem knA_told (lag : Int) (F : Nat → PAll.S40) : ∀ i j, j < 8 → (knA lag F i).told j = if j < i then capI (F (i - 1 - j)).f2 else 0
  | 0, j, h => by
    rw [if_neg (by omega)]
    match j, h with
    | 0, _ | 1, _ | 2, _ | 3, _ | 4, _ | 5, _ | 6, _ | 7, _ => rfl
  | i + 1, 0, h => by rw [if_pos (by omega)]; rfl
  | i + 1, j + 1, h => by
    show ((knA lag F i).next (F i).f2).told (j + 1) = _
    rw [told_next, if_pos h, knA_told lag F i j (by omega)]
    by_cases hj : j < i
    · rw [if_pos hj, if_pos (by omega), show i + 1 - 1 - (j + 1) = i - 1 - j by omega]
    · rw [if_neg hj, if_neg (by omega)]
theorem most_eq (lag : Int) (F : Nat → PAll.S40) (i : Nat) : (knA lag F i).most (F i).f2 = refK lag (capL (fun j => gS (F j)) (i + 1)) := by
  unfold Kn.most
  rw [knA_lag]
  have hlen := capL_len (fun j => gS (F j)) (i + 1)
  have hL : ∃ L : Nat, (mnI (mxI lag 0) 8 = (L : Int)) ∧ (if 8 < (if lag < 0 then 0 else lag) then (8 : Int) else (if lag < 0 then 0 else lag)) = (L : Int) ∧ L ≤ 8 := by
    unfold mnI mxI
    refine ⟨(if (8 : Int) < (if lag < 0 then 0 else lag) then 8 else (if lag < 0 then 0 else lag)).toNat, ?_, ?_, ?_⟩ <;> (repeat' split) <;> omega
  obtain ⟨L, h1, h2, h3⟩ := hL
  unfold refK
  rw [h1, h2, hlen]
  by_cases h0 : 0 < (L : Int)
  · rw [if_pos h0, show ((L : Int) - 1).toNat = L - 1 by omega, knA_told lag F i (L - 1) (by omega)]
    by_cases hi : L - 1 < i
    · rw [if_pos hi, if_neg (by omega), show (((i + 1 : Nat) : Int) - 1 - (L : Int)).toNat = i - 1 - (L - 1) by omega, capL_get _ _ _ (by omega)]
      unfold capI mnI mxI gS
      dsimp only
      (repeat' split) <;> omega
    · rw [if_neg hi, if_pos (by omega)]
  · rw [if_neg h0, if_neg (by omega), show (((i + 1 : Nat) : Int) - 1 - (L : Int)).toNat = i by omega, capL_get _ _ _ (by omega)]
    unfold capI mnI mxI gS
    dsimp only
    (repeat' split) <;> omega
theorem over_eq (lag : Int) (l : List PAll.S40) (i : Nat) : overB (l.getD i PAll.z40) (knA lag (fun i => l.getD i PAll.z40) i) = over44 lag (fun j => (l.map gS).getD j PAll.z44) i := by
  unfold overB over44
  rw [most_eq lag (fun i => l.getD i PAll.z40) i]
  simp only [gS_at]
  rfl
theorem eq1 (lag : Int) (l : List PAll.S40) : resI (fun i => overB (l.getD i PAll.z40) (knA lag (fun i => l.getD i PAll.z40) i)) l.length = ff (over44 lag (fun j => (l.map gS).getD j PAll.z44)) l.length 0 := by
  rw [ff_zero]
  exact resI_congr (fun i _ => over_eq lag l i)
theorem f3_eq (l : List PAll.S40) : (fun j => ((l.map gS).getD j PAll.z44).f3) = (fun j => (l.getD j PAll.z40).f3) := funext fun j => by rw [gS_at]; rfl
theorem fi_lt (Q : Nat → Bool) : ∀ (m j : Nat), ∀ i, fi Q m j = some i → i < j + m
  | 0, j, i, h => by cases h
  | m + 1, j, i, h => by
    simp only [fi] at h
    split at h
    · cases h; omega
    · have := fi_lt Q m (j + 1) i h; omega
theorem eq2 (l : List PAll.S40) : brkI (fun j => (l.getD j PAll.z40).f3) l.length = ff (badAt (fun j => ((l.map gS).getD j PAll.z44).f3)) l.length 0 := by
  rw [ff_zero, f3_eq]
  unfold brkI accN resI
  cases h : fi (badAt fun j => (l.getD j PAll.z40).f3) l.length 0 with
  | none => simp
  | some j =>
    have := fi_lt _ _ _ _ h
    simp only
    rw [if_pos (by omega)]
theorem eq3 (car from_ F0 : Int) (l : List PAll.S40) (hF0 : (from_ < 0 → F0 = 0) ∧ (0 ≤ from_ → F0 = from_)) (hok : ∀ j, j < l.length → 0 ≤ (l.getD j PAll.z40).f4 ∧ (l.getD j PAll.z40).f4 < 18446744073709551616) : freesI car from_ l = resI (fun j => refHas ((l.map gS).getD (F0.toNat + j) PAll.z44).f4 car) (l.length - F0.toNat) := by
  unfold freesI
  have hK : (mnI (mxI from_ 0) l.length).toNat = F0.toNat ∨ (l.length ≤ F0.toNat ∧ (mnI (mxI from_ 0) l.length).toNat = l.length) := by
    unfold mnI mxI
    (repeat' split) <;> omega
  rcases hK with h | ⟨h1, h2⟩
  · rw [h]
    exact resI_congr (fun i hi => by
      rw [gS_at]
      have := hok (F0.toNat + i) (by omega)
      exact has_eq this.1 this.2)
  · rw [h2, Nat.sub_self, show l.length - F0.toNat = 0 by omega]
    rfl
theorem hok44 {l : List PAll.S40} (hok : ∀ x ∈ l, (Lit.int .u64 x.f4).wf = true) : ∀ j, j < l.length → 0 ≤ (l.getD j PAll.z40).f4 ∧ (l.getD j PAll.z40).f4 < 18446744073709551616 := by
  intro j hj
  have := hok (l.getD j PAll.z40) (by rw [List.getD_eq_getElem?_getD, List.getElem?_eq_getElem hj]; exact List.getElem_mem hj)
  generalize (l.getD j PAll.z40).f4 = y at this ⊢
  simp [Lit.wf, IntKind.min, IntKind.max, IntKind.signed, IntKind.bits] at this
  omega

end Go.Proofs.YthpfhglncbkinaaDoor.SF
