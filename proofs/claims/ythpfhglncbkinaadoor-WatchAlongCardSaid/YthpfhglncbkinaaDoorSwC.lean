/- Walks (no statement stands here). -/
import Derived.Test.YthpfhglncbkinaaDoorSr3
import Derived.Test.YthpfhglncbkinaaDoorPAllx0
import Derived.Test.YthpfhglncbkinaaDoorSz
import Derived.Test.YthpfhglncbkinaaDoorSv
import Derived.Test.YthpfhglncbkinaaDoorWMore
import Derived.Test.YthpfhglncbkinaaDoorWLast
namespace Go.Proofs.YthpfhglncbkinaaDoor.SF
open Go.RowKit Go.Sx Go.Proofs.YthpfhglncbkinaaDoorW.PrintWords Go.Proofs.YthpfhglncbkinaaDoorW.PrintLast Go.Proofs.YthpfhglncbkinaaDoorW.PrintMore
set_option linter.unusedVariables false
set_option linter.unusedSimpArgs false
set_option maxRecDepth 100000
def lastA (l : List PAll.S40) : Nat → List Int
  | 0 => []
  | k + 1 => (l.getD k PAll.z40).f3
def anyA : Nat → Bool
  | 0 => false
  | _ + 1 => true
def badA (lag : Int) (l : List PAll.S40) : Nat → Int
  | 0 => 0
  | k + 1 => badN (knA lag (fun j => l.getD j PAll.z40) k) (anyA k) (lastA l k) (l.getD k PAll.z40) (badA lag l k)
def hit (lag : Int) (l : List PAll.S40) (k : Nat) : Bool := over44 lag (fun j => (l.map gS).getD j PAll.z44) k || badAt (fun j => ((l.map gS).getD j PAll.z44).f3) k
def cntB (lag : Int) (l : List PAll.S40) : Nat → Int
  | 0 => 0
  | k + 1 => if hit lag l k then cntB lag l k + 1 else cntB lag l k
theorem isBad_hit (lag : Int) (l : List PAll.S40) (k : Nat) : isBad (knA lag (fun j => l.getD j PAll.z40) k) (anyA k) (lastA l k) (l.getD k PAll.z40) = hit lag l k := by
  unfold isBad hit
  rw [over_eq lag l k, f3_eq]
  cases k with
  | zero => rfl
  | succ k => rfl
theorem cnt_bd (lag : Int) (l : List PAll.S40) : ∀ k, 0 ≤ cntB lag l k ∧ cntB lag l k ≤ k
  | 0 => ⟨Int.le_refl _, Int.le_refl _⟩
  | k + 1 => by
    have := cnt_bd lag l k
    unfold cntB
    split <;> omega
theorem badA_cnt (lag : Int) (l : List PAll.S40) : ∀ k, k ≤ 1000000 → badA lag l k = cntB lag l k
  | 0, _ => rfl
  | k + 1, h => by
    have ih := badA_cnt lag l k (by omega)
    have hb := cnt_bd lag l k
    unfold badA cntB badN
    rw [isBad_hit, ih]
    split
    · exact wid (by omega) (by omega)
    · rfl
theorem cnt_yes1 {lag : Int} {l : List PAll.S40} {k : Nat} (h : over44 lag (fun j => (l.map gS).getD j PAll.z44) k = true) : cntB lag l (k + 1) = cntB lag l k + 1 := by
  have : hit lag l k = true := by unfold hit; rw [h]; rfl
  show (if hit lag l k then _ else _) = _
  rw [this]; rfl
theorem cnt_yes2 {lag : Int} {l : List PAll.S40} {k : Nat} (h : badAt (fun j => ((l.map gS).getD j PAll.z44).f3) k = true) : cntB lag l (k + 1) = cntB lag l k + 1 := by
  have : hit lag l k = true := by unfold hit; rw [h, Bool.or_true]
  show (if hit lag l k then _ else _) = _
  rw [this]; rfl
theorem cnt_no {lag : Int} {l : List PAll.S40} {k : Nat} (h1 : over44 lag (fun j => (l.map gS).getD j PAll.z44) k = false) (h2 : badAt (fun j => ((l.map gS).getD j PAll.z44).f3) k = false) : cntB lag l (k + 1) = cntB lag l k := by
  have : hit lag l k = false := by unfold hit; rw [h1, h2]; rfl
  show (if hit lag l k then _ else _) = _
  rw [this]; rfl
theorem cnt_zero (lag : Int) (l : List PAll.S40) : ∀ k, cntB lag l k = 0 ↔ ∀ j, j < k → hit lag l j = false
  | 0 => ⟨fun _ j h => absurd h (Nat.not_lt_zero _), fun _ => rfl⟩
  | k + 1 => by
    have ih := cnt_zero lag l k
    have hb := cnt_bd lag l k
    unfold cntB
    cases h : hit lag l k with
    | true =>
      rw [if_pos rfl]
      constructor
      · intro h0; omega
      · intro h0
        have := h0 k (by omega)
        rw [h] at this; cases this
    | false =>
      rw [if_neg (by simp), ih]
      constructor
      · intro h0 j hj
        rcases Nat.lt_succ_iff_lt_or_eq.1 hj with hj | rfl
        · exact h0 j hj
        · exact h
      · exact fun h0 j hj => h0 j (by omega)
theorem fi_iff (Q : Nat → Bool) : ∀ (m i : Nat), fi Q m i = none ↔ ∀ j, i ≤ j → j < i + m → Q j = false
  | 0, i => ⟨fun _ j h1 h2 => by omega, fun _ => rfl⟩
  | m + 1, i => by
    simp only [fi]
    cases h : Q i with
    | true =>
      simp only [if_true]
      constructor
      · intro h0; cases h0
      · intro h0; have := h0 i (by omega) (by omega); rw [h] at this; cases this
    | false =>
      simp only [Bool.false_eq_true, if_false]
      rw [fi_iff Q m (i + 1)]
      constructor
      · intro h0 j h1 h2
        rcases Nat.lt_or_eq_of_le h1 with h3 | rfl
        · exact h0 j (by omega) (by omega)
        · exact h
      · exact fun h0 j h1 h2 => h0 j (by omega) (by omega)
theorem resI_iff (Q : Nat → Bool) (m : Nat) : resI Q m = -1 ↔ ∀ j, j < m → Q j = false := by
  have := fi_iff Q m 0
  unfold resI
  cases h : fi Q m 0 with
  | none => exact ⟨fun _ j hj => (this.1 h) j (by omega) (by omega), fun _ => rfl⟩
  | some j =>
    constructor
    · intro h0; simp only at h0; omega
    · intro h0
      have := this.2 (fun j _ hj => h0 j (by omega))
      rw [h] at this; cases this
theorem knA_congr (lag : Int) {F G : Nat → PAll.S40} : ∀ i, (∀ j, j < i → F j = G j) → knA lag F i = knA lag G i
  | 0, _ => rfl
  | i + 1, h => by
    unfold knA
    rw [knA_congr lag i (fun j hj => h j (by omega)), h i (by omega)]
theorem take_getD (l : List PAll.S40) {k j : Nat} (h : j < k) : (l.take k).getD j PAll.z40 = l.getD j PAll.z40 := by
  rw [List.getD_eq_getElem?_getD, List.getElem?_take, if_pos h, List.getD_eq_getElem?_getD]
theorem brk_iff (rows : Nat → List Int) (n : Nat) : brkI rows n = -1 ↔ ∀ j, j < n → badAt rows j = false := by
  rw [← resI_iff (badAt rows) n]
  unfold brkI accN resI
  cases h : fi (badAt rows) n 0 with
  | none => simp
  | some j =>
    have := fi_lt _ _ _ _ h
    simp only
    rw [if_pos (by omega)]
theorem bad_congr {F G : Nat → List Int} {n j : Nat} (h : ∀ i, i < n → F i = G i) (hj : j < n) : badAt F j = badAt G j := by
  unfold badAt
  by_cases h0 : j = 0
  · rw [if_pos h0, if_pos h0, h 0 (by omega)]
  · rw [if_neg h0, if_neg h0, h (j - 1) (by omega), h j hj]
theorem fine_iff (lag : Int) (l : List PAll.S40) {k : Nat} (hk : k < l.length) :
    ((resI (fun i => overB ((l.take (k + 1)).getD i PAll.z40) (knA lag (fun i => (l.take (k + 1)).getD i PAll.z40) i)) (l.take (k + 1)).length == -1) && (brkI (fun j => ((l.take (k + 1)).getD j PAll.z40).f3) (l.take (k + 1)).length == -1)) = (cntB lag l (k + 1) == 0) := by
  have hlen : (l.take (k + 1)).length = k + 1 := by rw [List.length_take]; omega
  rw [Bool.eq_iff_iff, Bool.and_eq_true, beq_iff_eq, beq_iff_eq, beq_iff_eq, hlen, resI_iff, brk_iff, cnt_zero]
  have e1 : ∀ j, j < k + 1 → overB ((l.take (k + 1)).getD j PAll.z40) (knA lag (fun i => (l.take (k + 1)).getD i PAll.z40) j) = over44 lag (fun j => (l.map gS).getD j PAll.z44) j := by
    intro j hj
    rw [take_getD l hj, knA_congr lag (G := fun i => l.getD i PAll.z40) j (fun i hi => take_getD l (by omega)), over_eq]
  have e2 : ∀ j, j < k + 1 → badAt (fun j => ((l.take (k + 1)).getD j PAll.z40).f3) j = badAt (fun j => ((l.map gS).getD j PAll.z44).f3) j := by
    intro j hj
    rw [f3_eq]
    exact bad_congr (fun i hi => by rw [take_getD l hi]) hj
  constructor
  · rintro ⟨h1, h2⟩ j hj
    unfold hit
    rw [← e1 j hj, ← e2 j hj, h1 j hj, h2 j hj]; rfl
  · intro h
    refine ⟨fun j hj => ?_, fun j hj => ?_⟩
    · have := h j hj
      unfold hit at this
      rw [Bool.or_eq_false_iff] at this
      rw [e1 j hj]; exact this.1
    · have := h j hj
      unfold hit at this
      rw [Bool.or_eq_false_iff] at this
      rw [e2 j hj]; exact this.2
theorem Facts.take {w : World} {A : Option Addr} {l : List PAll.S40} {ad : Addr} {PA : Nat → Option Addr} {PC : Nat → Nat} (F : Facts w A l ad PA PC) {k : Nat} (hk : k ≤ l.length) : Facts w A (l.take k) ad PA (fun j => if j < k then PC j else ((l.take k).getD j PAll.z40).f3.length) := by
  have hlen : (l.take k).length = k := by rw [List.length_take]; omega
  refine ⟨fun h => F.hA (by omega), by rw [hlen]; have := F.hn; omega, fun j => ?_, fun j hj => ?_, fun j hj i u hu => ?_⟩
  · by_cases h : j < k
    · simp only [if_pos h]
      rw [take_getD l h]
      exact F.le j
    · simp only [if_neg h]
      exact Nat.le_refl _
  · rw [hlen] at hj
    rw [take_getD l hj]
    exact F.row j (by omega)
  · rw [hlen] at hj
    simp only [if_pos hj] at hu
    rw [take_getD l hj] at hu
    exact F.cell j (by omega) i u hu
theorem lastA_le {l : List PAll.S40} (h : ∀ j, j < l.length → (l.getD j PAll.z40).f3.length ≤ 64) : ∀ k, k ≤ l.length → (lastA l k).length ≤ 9223372036854775807
  | 0, _ => Nat.zero_le _
  | k + 1, hk => Nat.le_trans (h k (by omega)) (by decide)

set_option maxHeartbeats 1000000 in
theorem along_calls (lag : Int) (A : Option Addr) (c : Nat) (l : List PAll.S40) (w : World) (hl : NextL w) (hr : Kd.C PAll.k40 w A l.length l) (hc : l.length ≤ c) (hok : ∀ x ∈ l, (Lit.int .u64 x.f4).wf = true) : Calls Tryd.prog 4 #[.int .i64 lag, .slice A l.length c] w fun e w' => e = .returned (.bool true) ∧ Below w.heap.size w w' := by
  obtain ⟨ad, PA, PC, F⟩ := facts_of hr
  have hn := F.hn
  refine enter (w0 := w) (hp := [old w]) (env := [(0, .int .i64 lag), (1, .slice A l.length c)]) Tryd.func4 rfl 85 rfl (by simp) rfl (HeapOK.start _) ?_
  refine wc_seq ?_
  refine wc_region ?_
  refine wl_q (q_assign rfl rfl) rfl rfl (by decide) ?_
  refine wl_nil ?_
  refine fq_then ?_
  refine wc_seq ?_
  refine wc_region ?_
  refine wl_q (q_call rfl En6 rfl (fun w1 hw1 => awake_calls w1 (hl.below (hw1.toBelow (by simp))))) rfl rfl (by decide) ?_
  refine wl_q (q_assign rfl rfl) rfl rfl (by decide) ?_
  refine wl_nil ?_
  refine fq_then ?_
  refine wc_seq ?_
  refine wc_seq ?_
  refine wc_region ?_
  refine wl_q (q_move rfl rfl) rfl rfl (by decide) ?_
  refine wl_q (q_not rfl rfl) rfl rfl (by decide) ?_
  refine wl_nil ?_
  refine fq_then ?_
  refine wc_false rfl ?_
  refine wc_skip ?_
  refine fq_then ?_
  refine wc_seq ?_
  refine wc_region ?_
  refine wl_q (q_move rfl rfl) rfl rfl (by decide) ?_
  refine wl_q (q_call rfl En7 rfl (fun w1 hw1 => short_calls A c l w1 _ _ _ (F.below (hw1.toBelow (by simp))))) rfl rfl (by decide) ?_
  refine wl_q (q_assign rfl rfl) rfl rfl (by decide) ?_
  refine wl_nil ?_
  refine fq_then ?_
  refine wc_seq ?_
  refine wc_seq ?_
  refine wc_region ?_
  refine wl_q (q_move rfl rfl) rfl rfl (by decide) ?_
  refine wl_q (q_not rfl rfl) rfl rfl (by decide) ?_
  refine wl_nil ?_
  refine fq_then ?_
  refine wc_cond rfl (fun h19 => ?_) (fun h19 => ?_)
  · skip
    have q19 := h19
    try simp only [decide_eq_true_eq, decide_eq_false_iff_not, beq_iff_eq, beq_eq_false_iff_ne, bne_iff_ne, ne_eq, bne_eq_false_iff_eq, Int.not_lt, Int.not_le] at q19
    refine wc_seq ?_
    refine wc_region ?_
    refine wl_q (q_assign rfl rfl) rfl rfl (by decide) ?_
    refine wl_nil ?_
    refine fq_then ?_
    refine wc_ret ?_
    refine fq_then_ret ?_
    refine fq_ret1 rfl rfl (fun w1 H => ?_)
    refine ⟨congrArg (fun z => Ending.returned (Value.bool z)) rfl, ?_⟩
    first | exact H.toBelow (by simp) | exact hb2.trans ((H.toBelow (by simp)).mono hb2.size)
  · skip
    have q19 := h19
    try simp only [decide_eq_true_eq, decide_eq_false_iff_not, beq_iff_eq, beq_eq_false_iff_ne, bne_iff_ne, ne_eq, bne_eq_false_iff_eq, Int.not_lt, Int.not_le] at q19
    have hs : l.length ≤ 60 := by (have h21' : shortB l = true := by simpa using h19); unfold shortB at h21'; rw [Bool.and_eq_true, decide_eq_true_eq] at h21'; have := h21'.2; omega
    have hs2 : ∀ j, j < l.length → (l.getD j PAll.z40).f3.length ≤ 64 := by (have h21' : shortB l = true := by simpa using h19); unfold shortB at h21'; rw [Bool.and_eq_true, List.all_eq_true] at h21'; exact fun j hj => by have := h21'.1 (l.getD j PAll.z40) (by rw [List.getD_eq_getElem?_getD, List.getElem?_eq_getElem hj]; exact List.getElem_mem hj); simpa using this
    clear h19
    refine wc_skip ?_
    refine fq_then ?_
    refine wc_seq ?_
    refine wc_region ?_
    refine wl_q (q_move rfl rfl) rfl rfl (by decide) ?_
    refine wl_callB (ι := Option Addr × Nat) (fun i => .slice i.1 (l.map gS).length i.2) (fun i w' => Kd.C PAll.k44 w' i.1 (l.map gS).length (l.map gS) ∧ (l.map gS).length ≤ i.2) (by simp) rfl rfl rfl (by decide) En8 rfl (fun w1 hw1 => (all2_calls A c l w1 (Kd.C_below hr (hw1.toBelow (by simp))) hc (by omega)).mono (fun e w' h => h)) (fun i w2 hb2 hi2 => ?_)
    obtain ⟨ad4, PA4, PC4, F4⟩ := facts44_of hi2.1
    have F2 := F.below hb2
    have hl2 := hl.below hb2
    have hl4 : (l.map gS).length = l.length := List.length_map _
    have hok2 : ∀ j, j < (l.map gS).length → 0 ≤ ((l.map gS).getD j PAll.z44).f4 ∧ ((l.map gS).getD j PAll.z44).f4 < 18446744073709551616 := fun j hj => by rw [gS_at]; exact hok44 hok j (by rw [← hl4]; exact hj)
    refine wl_q (q_assign rfl rfl) rfl rfl (by decide) ?_
    refine wl_nil ?_
    refine fq_then ?_
    refine wc_seq ?_
    refine wc_region ?_
    refine wl_q (q_move rfl rfl) rfl rfl (by decide) ?_
    refine wl_call (ι := Nat × Nat) (fun b => .pointer (some ⟨b.1, 0, none⟩)) (fun b => .blk b.1 [.func (.func 35) #[] #[.pointer (some ⟨b.2, 0, none⟩)], .slice none 0 0, .bool false, .int .i64 0] 59 :: .blk b.2 (kn0 lag).cells 66 :: [old w2]) (fun _ => True) rfl rfl rfl (by decide) En15 rfl (fun w1 hw1 => new_calls w2 _ lag w1 hw1) (fun b _ => ?_)
    refine wl_own (E := 3) (sz := 1) ?_
    refine wl_at (hp' := [.blk b.1 [.func (.func 35) #[] #[.pointer (some ⟨b.2, 0, none⟩)], .slice none 0 0, .bool false, .int .i64 0] 59, .blk b.2 (kn0 lag).cells 66, .own 0 3 1 (.slice none 0 0) 0 [], old w2]) [1, 2, 0, 3] (by decide) rfl ?_
    refine wl_q (q_assign rfl rfl) rfl rfl (by decide) ?_
    refine wl_nil ?_
    refine fq_then ?_
    refine wc_seq ?_
    refine wc_region ?_
    refine wl_q (q_assign rfl rfl) rfl rfl (by decide) ?_
    refine wl_nil ?_
    refine fq_then ?_
    refine wc_seq ?_
    refine wc_seq ?_
    refine wc_region ?_
    refine wl_q (q_assign rfl rfl) rfl rfl (by decide) ?_
    refine wl_nil ?_
    refine fq_then ?_
    refine wc_block ?_
    refine wc_loop (ι := (Nat × Option Addr × Nat)) (fun q => [(0, .int .i64 lag), (1, .slice A l.length c), (7, .slice i.1 (l.map gS).length i.2), (8, .pointer (some ⟨b.1, 0, none⟩)), (9, .int .i64 (cntB lag l q.1)), (10, .int .i64 q.1)]) (fun q => [.blk b.1 [.func (.func 35) #[] #[.pointer (some ⟨b.2, 0, none⟩)], .slice q.2.1 (lastA l q.1).length q.2.2, .bool (anyA q.1), .int .i64 (badA lag l q.1)] 59, .blk b.2 (knA lag (fun j => l.getD j PAll.z40) q.1).cells 66, .own 0 3 1 (.slice q.2.1 (lastA l q.1).length q.2.2) (lastA l q.1).length (nums .i64 (lastA l q.1)), old w2]) (fun q => q.1 ≤ l.length) (fun q => l.length - q.1) (0, none, 0) (Nat.zero_le _) ⟨List.forall_mem_cons.2 ⟨rfl, List.forall_mem_cons.2 ⟨rfl, List.forall_mem_cons.2 ⟨rfl, List.forall_mem_cons.2 ⟨rfl, List.forall_mem_cons.2 ⟨rfl, List.forall_mem_cons.2 ⟨rfl, fun _ h => (by cases h)⟩⟩⟩⟩⟩⟩, List.Sublist.refl _⟩ ?_
    rintro ⟨k, LA, LC⟩ hkn
    simp only at hkn
    refine wc_seq ?_
    refine wc_seq ?_
    refine wc_region ?_
    refine wl_q (q_move rfl rfl) rfl rfl (by decide) ?_
    refine wl_q (q_move rfl rfl) rfl rfl (by decide) ?_
    refine wl_q (q_len rfl rfl Tryd.underlying22) rfl rfl (by decide) ?_
    refine wl_q (q_bin rfl rfl rfl rfl) rfl rfl (by decide) ?_
    refine wl_nil ?_
    refine fq_then ?_
    refine wc_cond rfl (fun h27 => ?_) (fun h27 => ?_)
    · skip
      have q27 := h27
      try simp only [decide_eq_true_eq, decide_eq_false_iff_not, beq_iff_eq, beq_eq_false_iff_ne, bne_iff_ne, ne_eq, bne_eq_false_iff_eq, Int.not_lt, Int.not_le] at q27
      have hlt : k < l.length := by (try simp only at q27); omega
      have htk : (l.take (k + 1)).length = k + 1 := by rw [List.length_take]; omega
      have FI := fine_iff lag l hlt
      have BA := badA_cnt lag l (k + 1) (by omega)
      have hcb := cnt_bd lag l k
      refine wc_skip ?_
      refine fq_then ?_
      refine wc_seq ?_
      refine wc_block ?_
      refine wc_seq ?_
      refine wc_seq ?_
      refine wc_region ?_
      refine wl_q (q_move rfl rfl) rfl rfl (by decide) ?_
      refine wl_q (q_move rfl rfl) rfl rfl (by decide) ?_
      refine wl_q (q_move rfl rfl) rfl rfl (by decide) ?_
      refine wl_q (q_call rfl En9 rfl (fun w1 hw1 => over2_calls lag k i.1 i.2 (l.map gS) w1 _ _ _ (F4.below (hw1.toBelow (by simp))) (by omega) (by omega))) rfl rfl (by decide) ?_
      refine wl_q (q_move rfl rfl) rfl rfl (by decide) ?_
      refine wl_split (t := 34) rfl (fun h34 => ?_) (fun h34 => ?_)
      · skip
        have q34 := h34
        try simp only [decide_eq_true_eq, decide_eq_false_iff_not, beq_iff_eq, beq_eq_false_iff_ne, bne_iff_ne, ne_eq, bne_eq_false_iff_eq, Int.not_lt, Int.not_le] at q34
        have CB := cnt_yes1 h34
        refine wl_skip (b := true) rfl rfl rfl rfl (by decide) ?_
        refine wl_skip (b := true) rfl rfl rfl rfl (by decide) ?_
        refine wl_skip (b := true) rfl rfl rfl rfl (by decide) ?_
        refine wl_q (q_pick rfl rfl rfl) rfl rfl (by decide) ?_
        refine wl_nil ?_
        refine fq_then ?_
        refine wc_true rfl ?_
        refine wc_region ?_
        refine wl_q (q_move rfl rfl) rfl rfl (by decide) ?_
        refine wl_q (q_bin rfl rfl rfl rfl) rfl rfl (by decide) ?_
        refine wl_eq (t := 40) rfl (congrArg (Value.int .i64) ((wid (by (try simp only); omega) (by (try simp only); omega)).trans CB.symm)) ?_
        refine wl_q (q_assign rfl rfl) rfl rfl (by decide) ?_
        refine wl_nil ?_
        refine fq_then ?_
        refine wc_seq ?_
        refine wc_region ?_
        refine wl_q (q_move rfl rfl) rfl rfl (by decide) ?_
        refine wl_q (q_move rfl rfl) rfl rfl (by decide) ?_
        refine wl_q (q_move rfl rfl) rfl rfl (by decide) ?_
        refine wl_q (q_bin rfl rfl rfl rfl) rfl rfl (by decide) ?_
        refine wl_eq (t := 44) rfl (congrArg (Value.int .i64) (wk1 hlt hn)) ?_
        refine wl_q (q_slice_hi rfl rfl rfl Tryd.underlying22 Sz40 (by omega) (by omega)) rfl rfl (by decide) ?_
        refine wl_eq (t := 45) rfl (show Value.slice A (((k + 1 : Nat) : Int)).toNat c = .slice A (l.take (k + 1)).length c by rw [htk, Int.toNat_natCast]) ?_
        refine wl_q (q_call rfl En11 rfl (fun w1 hw1 => Over_calls lag A c (l.take (k + 1)) w1 _ _ _ ((F2.below (hw1.toBelow (by simp))).take hlt))) rfl rfl (by decide) ?_
        refine wl_q (q_bin rfl rfl rfl rfl) rfl rfl (by decide) ?_
        refine wl_q (q_move rfl rfl) rfl rfl (by decide) ?_
        refine wl_split (t := 48) rfl (fun h48 => ?_) (fun h48 => ?_)
        · skip
          have q48 := h48
          try simp only [decide_eq_true_eq, decide_eq_false_iff_not, beq_iff_eq, beq_eq_false_iff_ne, bne_iff_ne, ne_eq, bne_eq_false_iff_eq, Int.not_lt, Int.not_le] at q48
          rw [h48, Bool.true_and] at FI
          refine wl_want (b := true) (q_move rfl rfl) rfl rfl rfl rfl (by decide) ?_
          refine wl_want (b := true) (q_move rfl rfl) rfl rfl rfl rfl (by decide) ?_
          refine wl_unguard (b := true) rfl rfl rfl ?_
          refine wl_q (q_bin rfl rfl rfl rfl) rfl rfl (by decide) ?_
          refine wl_eq (t := 51) rfl (congrArg (Value.int .i64) (wk1 hlt hn)) ?_
          refine wl_unguard (b := true) rfl rfl rfl ?_
          refine wl_q (q_slice_hi rfl rfl rfl Tryd.underlying22 Sz40 (by omega) (by omega)) rfl rfl (by decide) ?_
          refine wl_eq (t := 52) rfl (show Value.slice A (((k + 1 : Nat) : Int)).toNat c = .slice A (l.take (k + 1)).length c by rw [htk, Int.toNat_natCast]) ?_
          refine wl_want (b := true) (q_call rfl En12 rfl (fun w1 hw1 => breaks_calls A c (l.take (k + 1)) w1 _ _ _ ((F2.below (hw1.toBelow (by simp))).take hlt) (by rw [htk]; omega) (hl2.below (hw1.toBelow (by simp))))) rfl rfl rfl rfl (by decide) ?_
          refine wl_want (b := true) (q_bin rfl rfl rfl rfl) rfl rfl rfl rfl (by decide) ?_
          refine wl_q (q_pick rfl rfl rfl) rfl rfl (by decide) ?_
          refine wl_q (q_assign rfl rfl) rfl rfl (by decide) ?_
          refine wl_nil ?_
          refine fq_then ?_
          refine wc_seq ?_
          refine wc_region ?_
          refine wl_q (q_move rfl rfl) rfl rfl (by decide) ?_
          refine wl_q (q_move rfl rfl) rfl rfl (by decide) ?_
          refine wl_q (q_move rfl rfl) rfl rfl (by decide) ?_
          refine wl_q (q_indexO rfl rfl (F2.hA (by omega)) rfl Tryd.underlying22 Sz40 (by omega) (by omega)) rfl rfl (by decide) ?_
          refine wl_q (q_loadA (cs := cells5 (l.getD k PAll.z40) (PA k) (PC k)) rfl rfl Mn40 Sz40 rfl (reads_old (by simp) (F2.cell k hlt))) rfl rfl (by decide) ?_
          refine wl_call (ι := Option Addr × Nat) (fun _ => .bool (badA lag l (k + 1) == 0)) (fun j => [.blk b.1 [.func (.func 35) #[] #[.pointer (some ⟨b.2, 0, none⟩)], .slice j.1 (lastA l (k + 1)).length j.2, .bool (anyA (k + 1)), .int .i64 (badA lag l (k + 1))] 59, .blk b.2 (knA lag (fun j => l.getD j PAll.z40) (k + 1)).cells 66, .own 0 3 1 (.slice j.1 (lastA l (k + 1)).length j.2) (lastA l (k + 1)).length (nums .i64 (lastA l (k + 1))), old w2]) (fun _ => True) rfl rfl rfl (by decide) En16 rfl (fun w1 hw1 => tell2_calls w2 [] b.1 b.2 (knA lag (fun j => l.getD j PAll.z40) k) (knA_ok lag _ k) (lastA l k) LA LC (anyA k) (badA lag l k) (l.getD k PAll.z40) (PA k) (PC k) hl2 (F2.row k hlt) (F2.le k) (Nat.lt_of_le_of_lt (hs2 k hlt) (by decide)) (lastA_le hs2 k hkn) w1 hw1) (fun j _ => ?_)
          refine wl_q (q_move rfl rfl) rfl rfl (by decide) ?_
          refine wl_q (q_neqB rfl rfl rfl Tryd.underlying4) rfl rfl (by decide) ?_
          refine wl_q (q_move rfl rfl) rfl rfl (by decide) ?_
          refine wl_split (t := 64) rfl (fun h64 => ?_) (fun h64 => ?_)
          · skip
            exact absurd h64 (by rw [BA, ← FI]; simp)
          · skip
            have q64 := h64
            try simp only [decide_eq_true_eq, decide_eq_false_iff_not, beq_iff_eq, beq_eq_false_iff_ne, bne_iff_ne, ne_eq, bne_eq_false_iff_eq, Int.not_lt, Int.not_le] at q64
            refine wl_want (b := false) (q_move rfl rfl) rfl rfl rfl rfl (by decide) ?_
            refine wl_unguard (b := false) rfl rfl rfl ?_
            refine wl_call (ι := Unit) (fun _ => .int .i64 (badA lag l (k + 1))) (fun _ => [.blk b.1 [.func (.func 35) #[] #[.pointer (some ⟨b.2, 0, none⟩)], .slice j.1 (lastA l (k + 1)).length j.2, .bool (anyA (k + 1)), .int .i64 (badA lag l (k + 1))] 59, .blk b.2 (knA lag (fun j => l.getD j PAll.z40) (k + 1)).cells 66, .own 0 3 1 (.slice j.1 (lastA l (k + 1)).length j.2) (lastA l (k + 1)).length (nums .i64 (lastA l (k + 1))), old w2]) (fun _ => True) rfl rfl rfl (by decide) En17 rfl (fun w1 hw1 => (bad_calls w2 _ 0 b.1 _ _ _ (badA lag l (k + 1)) rfl w1 hw1).mono (fun e w' h => ⟨(), trivial, h.1, h.2⟩)) (fun _ _ => ?_)
            refine wl_want (b := false) (q_move rfl rfl) rfl rfl rfl rfl (by decide) ?_
            refine wl_want (b := false) (q_bin rfl rfl rfl rfl) rfl rfl rfl rfl (by decide) ?_
            refine wl_q (q_pick rfl rfl rfl) rfl rfl (by decide) ?_
            refine wl_q (q_move rfl rfl) rfl rfl (by decide) ?_
            refine wl_split (t := 70) rfl (fun h70 => ?_) (fun h70 => ?_)
            · skip
              exact absurd h70 (by rw [BA]; first | (rw [CB]; simp; done) | simp)
            · skip
              have q70 := h70
              try simp only [decide_eq_true_eq, decide_eq_false_iff_not, beq_iff_eq, beq_eq_false_iff_ne, bne_iff_ne, ne_eq, bne_eq_false_iff_eq, Int.not_lt, Int.not_le] at q70
              refine wl_want (b := false) (q_move rfl rfl) rfl rfl rfl rfl (by decide) ?_
              refine wl_want (b := false) (q_move rfl rfl) rfl rfl rfl rfl (by decide) ?_
              refine wl_want (b := false) (q_bin rfl rfl rfl rfl) rfl rfl rfl rfl (by decide) ?_
              refine wl_want (b := false) (q_neqB rfl rfl rfl Tryd.underlying4) rfl rfl rfl rfl (by decide) ?_
              refine wl_q (q_pick rfl rfl rfl) rfl rfl (by decide) ?_
              refine wl_nil ?_
              refine fq_then ?_
              refine wc_cond rfl (fun h75 => ?_) (fun h75 => ?_)
              · skip
                exact absurd h75 (by first | (rw [← CB, ← FI]; simp; done) | (rw [← FI]; simp))
              · skip
                have q75 := h75
                try simp only [decide_eq_true_eq, decide_eq_false_iff_not, beq_iff_eq, beq_eq_false_iff_ne, bne_iff_ne, ne_eq, bne_eq_false_iff_eq, Int.not_lt, Int.not_le] at q75
                refine wc_skip ?_
                refine fq_block ?_
                refine fq_then ?_
                refine wc_region ?_
                refine wl_q (q_move rfl rfl) rfl rfl (by decide) ?_
                refine wl_q (q_bin rfl rfl rfl rfl) rfl rfl (by decide) ?_
                refine wl_q (q_assign rfl rfl) rfl rfl (by decide) ?_
                refine wl_nil ?_
                refine fq_next (k + 1, j.1, j.2) (show k + 1 ≤ l.length by omega) (show l.length - (k + 1) < l.length - k by omega) ⟨List.forall_mem_cons.2 ⟨rfl, List.forall_mem_cons.2 ⟨rfl, List.forall_mem_cons.2 ⟨rfl, List.forall_mem_cons.2 ⟨rfl, List.forall_mem_cons.2 ⟨(congrArg (fun z => some (Value.int .i64 z)) (by first | rfl | exact CB.symm)), List.forall_mem_cons.2 ⟨(congrArg (fun z => some (Value.int .i64 z)) (wk1 hlt hn)), fun _ h => (by cases h)⟩⟩⟩⟩⟩⟩, List.Sublist.refl _⟩
        · skip
          have q48 := h48
          try simp only [decide_eq_true_eq, decide_eq_false_iff_not, beq_iff_eq, beq_eq_false_iff_ne, bne_iff_ne, ne_eq, bne_eq_false_iff_eq, Int.not_lt, Int.not_le] at q48
          rw [h48, Bool.false_and] at FI
          refine wl_skip (b := false) rfl rfl rfl rfl (by decide) ?_
          refine wl_skip (b := false) rfl rfl rfl rfl (by decide) ?_
          refine wl_skip (b := false) rfl rfl rfl rfl (by decide) ?_
          refine wl_skip (b := false) rfl rfl rfl rfl (by decide) ?_
          refine wl_skip (b := false) rfl rfl rfl rfl (by decide) ?_
          refine wl_skip (b := false) rfl rfl rfl rfl (by decide) ?_
          refine wl_q (q_pick rfl rfl rfl) rfl rfl (by decide) ?_
          refine wl_q (q_assign rfl rfl) rfl rfl (by decide) ?_
          refine wl_nil ?_
          refine fq_then ?_
          refine wc_seq ?_
          refine wc_region ?_
          refine wl_q (q_move rfl rfl) rfl rfl (by decide) ?_
          refine wl_q (q_move rfl rfl) rfl rfl (by decide) ?_
          refine wl_q (q_move rfl rfl) rfl rfl (by decide) ?_
          refine wl_q (q_indexO rfl rfl (F2.hA (by omega)) rfl Tryd.underlying22 Sz40 (by omega) (by omega)) rfl rfl (by decide) ?_
          refine wl_q (q_loadA (cs := cells5 (l.getD k PAll.z40) (PA k) (PC k)) rfl rfl Mn40 Sz40 rfl (reads_old (by simp) (F2.cell k hlt))) rfl rfl (by decide) ?_
          refine wl_call (ι := Option Addr × Nat) (fun _ => .bool (badA lag l (k + 1) == 0)) (fun j => [.blk b.1 [.func (.func 35) #[] #[.pointer (some ⟨b.2, 0, none⟩)], .slice j.1 (lastA l (k + 1)).length j.2, .bool (anyA (k + 1)), .int .i64 (badA lag l (k + 1))] 59, .blk b.2 (knA lag (fun j => l.getD j PAll.z40) (k + 1)).cells 66, .own 0 3 1 (.slice j.1 (lastA l (k + 1)).length j.2) (lastA l (k + 1)).length (nums .i64 (lastA l (k + 1))), old w2]) (fun _ => True) rfl rfl rfl (by decide) En16 rfl (fun w1 hw1 => tell2_calls w2 [] b.1 b.2 (knA lag (fun j => l.getD j PAll.z40) k) (knA_ok lag _ k) (lastA l k) LA LC (anyA k) (badA lag l k) (l.getD k PAll.z40) (PA k) (PC k) hl2 (F2.row k hlt) (F2.le k) (Nat.lt_of_le_of_lt (hs2 k hlt) (by decide)) (lastA_le hs2 k hkn) w1 hw1) (fun j _ => ?_)
          refine wl_q (q_move rfl rfl) rfl rfl (by decide) ?_
          refine wl_q (q_neqB rfl rfl rfl Tryd.underlying4) rfl rfl (by decide) ?_
          refine wl_q (q_move rfl rfl) rfl rfl (by decide) ?_
          refine wl_split (t := 64) rfl (fun h64 => ?_) (fun h64 => ?_)
          · skip
            exact absurd h64 (by rw [BA, ← FI]; simp)
          · skip
            have q64 := h64
            try simp only [decide_eq_true_eq, decide_eq_false_iff_not, beq_iff_eq, beq_eq_false_iff_ne, bne_iff_ne, ne_eq, bne_eq_false_iff_eq, Int.not_lt, Int.not_le] at q64
            refine wl_want (b := false) (q_move rfl rfl) rfl rfl rfl rfl (by decide) ?_
            refine wl_unguard (b := false) rfl rfl rfl ?_
            refine wl_call (ι := Unit) (fun _ => .int .i64 (badA lag l (k + 1))) (fun _ => [.blk b.1 [.func (.func 35) #[] #[.pointer (some ⟨b.2, 0, none⟩)], .slice j.1 (lastA l (k + 1)).length j.2, .bool (anyA (k + 1)), .int .i64 (badA lag l (k + 1))] 59, .blk b.2 (knA lag (fun j => l.getD j PAll.z40) (k + 1)).cells 66, .own 0 3 1 (.slice j.1 (lastA l (k + 1)).length j.2) (lastA l (k + 1)).length (nums .i64 (lastA l (k + 1))), old w2]) (fun _ => True) rfl rfl rfl (by decide) En17 rfl (fun w1 hw1 => (bad_calls w2 _ 0 b.1 _ _ _ (badA lag l (k + 1)) rfl w1 hw1).mono (fun e w' h => ⟨(), trivial, h.1, h.2⟩)) (fun _ _ => ?_)
            refine wl_want (b := false) (q_move rfl rfl) rfl rfl rfl rfl (by decide) ?_
            refine wl_want (b := false) (q_bin rfl rfl rfl rfl) rfl rfl rfl rfl (by decide) ?_
            refine wl_q (q_pick rfl rfl rfl) rfl rfl (by decide) ?_
            refine wl_q (q_move rfl rfl) rfl rfl (by decide) ?_
            refine wl_split (t := 70) rfl (fun h70 => ?_) (fun h70 => ?_)
            · skip
              exact absurd h70 (by rw [BA]; first | (rw [CB]; simp; done) | simp)
            · skip
              have q70 := h70
              try simp only [decide_eq_true_eq, decide_eq_false_iff_not, beq_iff_eq, beq_eq_false_iff_ne, bne_iff_ne, ne_eq, bne_eq_false_iff_eq, Int.not_lt, Int.not_le] at q70
              refine wl_want (b := false) (q_move rfl rfl) rfl rfl rfl rfl (by decide) ?_
              refine wl_want (b := false) (q_move rfl rfl) rfl rfl rfl rfl (by decide) ?_
              refine wl_want (b := false) (q_bin rfl rfl rfl rfl) rfl rfl rfl rfl (by decide) ?_
              refine wl_want (b := false) (q_neqB rfl rfl rfl Tryd.underlying4) rfl rfl rfl rfl (by decide) ?_
              refine wl_q (q_pick rfl rfl rfl) rfl rfl (by decide) ?_
              refine wl_nil ?_
              refine fq_then ?_
              refine wc_cond rfl (fun h75 => ?_) (fun h75 => ?_)
              · skip
                exact absurd h75 (by first | (rw [← CB, ← FI]; simp; done) | (rw [← FI]; simp))
              · skip
                have q75 := h75
                try simp only [decide_eq_true_eq, decide_eq_false_iff_not, beq_iff_eq, beq_eq_false_iff_ne, bne_iff_ne, ne_eq, bne_eq_false_iff_eq, Int.not_lt, Int.not_le] at q75
                refine wc_skip ?_
                refine fq_block ?_
                refine fq_then ?_
                refine wc_region ?_
                refine wl_q (q_move rfl rfl) rfl rfl (by decide) ?_
                refine wl_q (q_bin rfl rfl rfl rfl) rfl rfl (by decide) ?_
                refine wl_q (q_assign rfl rfl) rfl rfl (by decide) ?_
                refine wl_nil ?_
                refine fq_next (k + 1, j.1, j.2) (show k + 1 ≤ l.length by omega) (show l.length - (k + 1) < l.length - k by omega) ⟨List.forall_mem_cons.2 ⟨rfl, List.forall_mem_cons.2 ⟨rfl, List.forall_mem_cons.2 ⟨rfl, List.forall_mem_cons.2 ⟨rfl, List.forall_mem_cons.2 ⟨(congrArg (fun z => some (Value.int .i64 z)) (by first | rfl | exact CB.symm)), List.forall_mem_cons.2 ⟨(congrArg (fun z => some (Value.int .i64 z)) (wk1 hlt hn)), fun _ h => (by cases h)⟩⟩⟩⟩⟩⟩, List.Sublist.refl _⟩
      · skip
        have q34 := h34
        try simp only [decide_eq_true_eq, decide_eq_false_iff_not, beq_iff_eq, beq_eq_false_iff_ne, bne_iff_ne, ne_eq, bne_eq_false_iff_eq, Int.not_lt, Int.not_le] at q34
        refine wl_want (b := false) (q_move rfl rfl) rfl rfl rfl rfl (by decide) ?_
        refine wl_want (b := false) (q_move rfl rfl) rfl rfl rfl rfl (by decide) ?_
        refine wl_want (b := false) (q_call rfl En10 rfl (fun w1 hw1 => breaks2_calls k i.1 i.2 (l.map gS) w1 _ _ _ (F4.below (hw1.toBelow (by simp))) (by omega) (by omega))) rfl rfl rfl rfl (by decide) ?_
        refine wl_q (q_pick rfl rfl rfl) rfl rfl (by decide) ?_
        refine wl_nil ?_
        refine fq_then ?_
        refine wc_cond rfl (fun h38 => ?_) (fun h38 => ?_)
        · skip
          have q38 := h38
          try simp only [decide_eq_true_eq, decide_eq_false_iff_not, beq_iff_eq, beq_eq_false_iff_ne, bne_iff_ne, ne_eq, bne_eq_false_iff_eq, Int.not_lt, Int.not_le] at q38
          have CB := cnt_yes2 (lag := lag) h38
          refine wc_region ?_
          refine wl_q (q_move rfl rfl) rfl rfl (by decide) ?_
          refine wl_q (q_bin rfl rfl rfl rfl) rfl rfl (by decide) ?_
          refine wl_eq (t := 40) rfl (congrArg (Value.int .i64) ((wid (by (try simp only); omega) (by (try simp only); omega)).trans CB.symm)) ?_
          refine wl_q (q_assign rfl rfl) rfl rfl (by decide) ?_
          refine wl_nil ?_
          refine fq_then ?_
          refine wc_seq ?_
          refine wc_region ?_
          refine wl_q (q_move rfl rfl) rfl rfl (by decide) ?_
          refine wl_q (q_move rfl rfl) rfl rfl (by decide) ?_
          refine wl_q (q_move rfl rfl) rfl rfl (by decide) ?_
          refine wl_q (q_bin rfl rfl rfl rfl) rfl rfl (by decide) ?_
          refine wl_eq (t := 44) rfl (congrArg (Value.int .i64) (wk1 hlt hn)) ?_
          refine wl_q (q_slice_hi rfl rfl rfl Tryd.underlying22 Sz40 (by omega) (by omega)) rfl rfl (by decide) ?_
          refine wl_eq (t := 45) rfl (show Value.slice A (((k + 1 : Nat) : Int)).toNat c = .slice A (l.take (k + 1)).length c by rw [htk, Int.toNat_natCast]) ?_
          refine wl_q (q_call rfl En11 rfl (fun w1 hw1 => Over_calls lag A c (l.take (k + 1)) w1 _ _ _ ((F2.below (hw1.toBelow (by simp))).take hlt))) rfl rfl (by decide) ?_
          refine wl_q (q_bin rfl rfl rfl rfl) rfl rfl (by decide) ?_
          refine wl_q (q_move rfl rfl) rfl rfl (by decide) ?_
          refine wl_split (t := 48) rfl (fun h48 => ?_) (fun h48 => ?_)
          · skip
            have q48 := h48
            try simp only [decide_eq_true_eq, decide_eq_false_iff_not, beq_iff_eq, beq_eq_false_iff_ne, bne_iff_ne, ne_eq, bne_eq_false_iff_eq, Int.not_lt, Int.not_le] at q48
            rw [h48, Bool.true_and] at FI
            refine wl_want (b := true) (q_move rfl rfl) rfl rfl rfl rfl (by decide) ?_
            refine wl_want (b := true) (q_move rfl rfl) rfl rfl rfl rfl (by decide) ?_
            refine wl_unguard (b := true) rfl rfl rfl ?_
            refine wl_q (q_bin rfl rfl rfl rfl) rfl rfl (by decide) ?_
            refine wl_eq (t := 51) rfl (congrArg (Value.int .i64) (wk1 hlt hn)) ?_
            refine wl_unguard (b := true) rfl rfl rfl ?_
            refine wl_q (q_slice_hi rfl rfl rfl Tryd.underlying22 Sz40 (by omega) (by omega)) rfl rfl (by decide) ?_
            refine wl_eq (t := 52) rfl (show Value.slice A (((k + 1 : Nat) : Int)).toNat c = .slice A (l.take (k + 1)).length c by rw [htk, Int.toNat_natCast]) ?_
            refine wl_want (b := true) (q_call rfl En12 rfl (fun w1 hw1 => breaks_calls A c (l.take (k + 1)) w1 _ _ _ ((F2.below (hw1.toBelow (by simp))).take hlt) (by rw [htk]; omega) (hl2.below (hw1.toBelow (by simp))))) rfl rfl rfl rfl (by decide) ?_
            refine wl_want (b := true) (q_bin rfl rfl rfl rfl) rfl rfl rfl rfl (by decide) ?_
            refine wl_q (q_pick rfl rfl rfl) rfl rfl (by decide) ?_
            refine wl_q (q_assign rfl rfl) rfl rfl (by decide) ?_
            refine wl_nil ?_
            refine fq_then ?_
            refine wc_seq ?_
            refine wc_region ?_
            refine wl_q (q_move rfl rfl) rfl rfl (by decide) ?_
            refine wl_q (q_move rfl rfl) rfl rfl (by decide) ?_
            refine wl_q (q_move rfl rfl) rfl rfl (by decide) ?_
            refine wl_q (q_indexO rfl rfl (F2.hA (by omega)) rfl Tryd.underlying22 Sz40 (by omega) (by omega)) rfl rfl (by decide) ?_
            refine wl_q (q_loadA (cs := cells5 (l.getD k PAll.z40) (PA k) (PC k)) rfl rfl Mn40 Sz40 rfl (reads_old (by simp) (F2.cell k hlt))) rfl rfl (by decide) ?_
            refine wl_call (ι := Option Addr × Nat) (fun _ => .bool (badA lag l (k + 1) == 0)) (fun j => [.blk b.1 [.func (.func 35) #[] #[.pointer (some ⟨b.2, 0, none⟩)], .slice j.1 (lastA l (k + 1)).length j.2, .bool (anyA (k + 1)), .int .i64 (badA lag l (k + 1))] 59, .blk b.2 (knA lag (fun j => l.getD j PAll.z40) (k + 1)).cells 66, .own 0 3 1 (.slice j.1 (lastA l (k + 1)).length j.2) (lastA l (k + 1)).length (nums .i64 (lastA l (k + 1))), old w2]) (fun _ => True) rfl rfl rfl (by decide) En16 rfl (fun w1 hw1 => tell2_calls w2 [] b.1 b.2 (knA lag (fun j => l.getD j PAll.z40) k) (knA_ok lag _ k) (lastA l k) LA LC (anyA k) (badA lag l k) (l.getD k PAll.z40) (PA k) (PC k) hl2 (F2.row k hlt) (F2.le k) (Nat.lt_of_le_of_lt (hs2 k hlt) (by decide)) (lastA_le hs2 k hkn) w1 hw1) (fun j _ => ?_)
            refine wl_q (q_move rfl rfl) rfl rfl (by decide) ?_
            refine wl_q (q_neqB rfl rfl rfl Tryd.underlying4) rfl rfl (by decide) ?_
            refine wl_q (q_move rfl rfl) rfl rfl (by decide) ?_
            refine wl_split (t := 64) rfl (fun h64 => ?_) (fun h64 => ?_)
            · skip
              exact absurd h64 (by rw [BA, ← FI]; simp)
            · skip
              have q64 := h64
              try simp only [decide_eq_true_eq, decide_eq_false_iff_not, beq_iff_eq, beq_eq_false_iff_ne, bne_iff_ne, ne_eq, bne_eq_false_iff_eq, Int.not_lt, Int.not_le] at q64
              refine wl_want (b := false) (q_move rfl rfl) rfl rfl rfl rfl (by decide) ?_
              refine wl_unguard (b := false) rfl rfl rfl ?_
              refine wl_call (ι := Unit) (fun _ => .int .i64 (badA lag l (k + 1))) (fun _ => [.blk b.1 [.func (.func 35) #[] #[.pointer (some ⟨b.2, 0, none⟩)], .slice j.1 (lastA l (k + 1)).length j.2, .bool (anyA (k + 1)), .int .i64 (badA lag l (k + 1))] 59, .blk b.2 (knA lag (fun j => l.getD j PAll.z40) (k + 1)).cells 66, .own 0 3 1 (.slice j.1 (lastA l (k + 1)).length j.2) (lastA l (k + 1)).length (nums .i64 (lastA l (k + 1))), old w2]) (fun _ => True) rfl rfl rfl (by decide) En17 rfl (fun w1 hw1 => (bad_calls w2 _ 0 b.1 _ _ _ (badA lag l (k + 1)) rfl w1 hw1).mono (fun e w' h => ⟨(), trivial, h.1, h.2⟩)) (fun _ _ => ?_)
              refine wl_want (b := false) (q_move rfl rfl) rfl rfl rfl rfl (by decide) ?_
              refine wl_want (b := false) (q_bin rfl rfl rfl rfl) rfl rfl rfl rfl (by decide) ?_
              refine wl_q (q_pick rfl rfl rfl) rfl rfl (by decide) ?_
              refine wl_q (q_move rfl rfl) rfl rfl (by decide) ?_
              refine wl_split (t := 70) rfl (fun h70 => ?_) (fun h70 => ?_)
              · skip
                exact absurd h70 (by rw [BA]; first | (rw [CB]; simp; done) | simp)
              · skip
                have q70 := h70
                try simp only [decide_eq_true_eq, decide_eq_false_iff_not, beq_iff_eq, beq_eq_false_iff_ne, bne_iff_ne, ne_eq, bne_eq_false_iff_eq, Int.not_lt, Int.not_le] at q70
                refine wl_want (b := false) (q_move rfl rfl) rfl rfl rfl rfl (by decide) ?_
                refine wl_want (b := false) (q_move rfl rfl) rfl rfl rfl rfl (by decide) ?_
                refine wl_want (b := false) (q_bin rfl rfl rfl rfl) rfl rfl rfl rfl (by decide) ?_
                refine wl_want (b := false) (q_neqB rfl rfl rfl Tryd.underlying4) rfl rfl rfl rfl (by decide) ?_
                refine wl_q (q_pick rfl rfl rfl) rfl rfl (by decide) ?_
                refine wl_nil ?_
                refine fq_then ?_
                refine wc_cond rfl (fun h75 => ?_) (fun h75 => ?_)
                · skip
                  exact absurd h75 (by first | (rw [← CB, ← FI]; simp; done) | (rw [← FI]; simp))
                · skip
                  have q75 := h75
                  try simp only [decide_eq_true_eq, decide_eq_false_iff_not, beq_iff_eq, beq_eq_false_iff_ne, bne_iff_ne, ne_eq, bne_eq_false_iff_eq, Int.not_lt, Int.not_le] at q75
                  refine wc_skip ?_
                  refine fq_block ?_
                  refine fq_then ?_
                  refine wc_region ?_
                  refine wl_q (q_move rfl rfl) rfl rfl (by decide) ?_
                  refine wl_q (q_bin rfl rfl rfl rfl) rfl rfl (by decide) ?_
                  refine wl_q (q_assign rfl rfl) rfl rfl (by decide) ?_
                  refine wl_nil ?_
                  refine fq_next (k + 1, j.1, j.2) (show k + 1 ≤ l.length by omega) (show l.length - (k + 1) < l.length - k by omega) ⟨List.forall_mem_cons.2 ⟨rfl, List.forall_mem_cons.2 ⟨rfl, List.forall_mem_cons.2 ⟨rfl, List.forall_mem_cons.2 ⟨rfl, List.forall_mem_cons.2 ⟨(congrArg (fun z => some (Value.int .i64 z)) (by first | rfl | exact CB.symm)), List.forall_mem_cons.2 ⟨(congrArg (fun z => some (Value.int .i64 z)) (wk1 hlt hn)), fun _ h => (by cases h)⟩⟩⟩⟩⟩⟩, List.Sublist.refl _⟩
          · skip
            have q48 := h48
            try simp only [decide_eq_true_eq, decide_eq_false_iff_not, beq_iff_eq, beq_eq_false_iff_ne, bne_iff_ne, ne_eq, bne_eq_false_iff_eq, Int.not_lt, Int.not_le] at q48
            rw [h48, Bool.false_and] at FI
            refine wl_skip (b := false) rfl rfl rfl rfl (by decide) ?_
            refine wl_skip (b := false) rfl rfl rfl rfl (by decide) ?_
            refine wl_skip (b := false) rfl rfl rfl rfl (by decide) ?_
            refine wl_skip (b := false) rfl rfl rfl rfl (by decide) ?_
            refine wl_skip (b := false) rfl rfl rfl rfl (by decide) ?_
            refine wl_skip (b := false) rfl rfl rfl rfl (by decide) ?_
            refine wl_q (q_pick rfl rfl rfl) rfl rfl (by decide) ?_
            refine wl_q (q_assign rfl rfl) rfl rfl (by decide) ?_
            refine wl_nil ?_
            refine fq_then ?_
            refine wc_seq ?_
            refine wc_region ?_
            refine wl_q (q_move rfl rfl) rfl rfl (by decide) ?_
            refine wl_q (q_move rfl rfl) rfl rfl (by decide) ?_
            refine wl_q (q_move rfl rfl) rfl rfl (by decide) ?_
            refine wl_q (q_indexO rfl rfl (F2.hA (by omega)) rfl Tryd.underlying22 Sz40 (by omega) (by omega)) rfl rfl (by decide) ?_
            refine wl_q (q_loadA (cs := cells5 (l.getD k PAll.z40) (PA k) (PC k)) rfl rfl Mn40 Sz40 rfl (reads_old (by simp) (F2.cell k hlt))) rfl rfl (by decide) ?_
            refine wl_call (ι := Option Addr × Nat) (fun _ => .bool (badA lag l (k + 1) == 0)) (fun j => [.blk b.1 [.func (.func 35) #[] #[.pointer (some ⟨b.2, 0, none⟩)], .slice j.1 (lastA l (k + 1)).length j.2, .bool (anyA (k + 1)), .int .i64 (badA lag l (k + 1))] 59, .blk b.2 (knA lag (fun j => l.getD j PAll.z40) (k + 1)).cells 66, .own 0 3 1 (.slice j.1 (lastA l (k + 1)).length j.2) (lastA l (k + 1)).length (nums .i64 (lastA l (k + 1))), old w2]) (fun _ => True) rfl rfl rfl (by decide) En16 rfl (fun w1 hw1 => tell2_calls w2 [] b.1 b.2 (knA lag (fun j => l.getD j PAll.z40) k) (knA_ok lag _ k) (lastA l k) LA LC (anyA k) (badA lag l k) (l.getD k PAll.z40) (PA k) (PC k) hl2 (F2.row k hlt) (F2.le k) (Nat.lt_of_le_of_lt (hs2 k hlt) (by decide)) (lastA_le hs2 k hkn) w1 hw1) (fun j _ => ?_)
            refine wl_q (q_move rfl rfl) rfl rfl (by decide) ?_
            refine wl_q (q_neqB rfl rfl rfl Tryd.underlying4) rfl rfl (by decide) ?_
            refine wl_q (q_move rfl rfl) rfl rfl (by decide) ?_
            refine wl_split (t := 64) rfl (fun h64 => ?_) (fun h64 => ?_)
            · skip
              exact absurd h64 (by rw [BA, ← FI]; simp)
            · skip
              have q64 := h64
              try simp only [decide_eq_true_eq, decide_eq_false_iff_not, beq_iff_eq, beq_eq_false_iff_ne, bne_iff_ne, ne_eq, bne_eq_false_iff_eq, Int.not_lt, Int.not_le] at q64
              refine wl_want (b := false) (q_move rfl rfl) rfl rfl rfl rfl (by decide) ?_
              refine wl_unguard (b := false) rfl rfl rfl ?_
              refine wl_call (ι := Unit) (fun _ => .int .i64 (badA lag l (k + 1))) (fun _ => [.blk b.1 [.func (.func 35) #[] #[.pointer (some ⟨b.2, 0, none⟩)], .slice j.1 (lastA l (k + 1)).length j.2, .bool (anyA (k + 1)), .int .i64 (badA lag l (k + 1))] 59, .blk b.2 (knA lag (fun j => l.getD j PAll.z40) (k + 1)).cells 66, .own 0 3 1 (.slice j.1 (lastA l (k + 1)).length j.2) (lastA l (k + 1)).length (nums .i64 (lastA l (k + 1))), old w2]) (fun _ => True) rfl rfl rfl (by decide) En17 rfl (fun w1 hw1 => (bad_calls w2 _ 0 b.1 _ _ _ (badA lag l (k + 1)) rfl w1 hw1).mono (fun e w' h => ⟨(), trivial, h.1, h.2⟩)) (fun _ _ => ?_)
              refine wl_want (b := false) (q_move rfl rfl) rfl rfl rfl rfl (by decide) ?_
              refine wl_want (b := false) (q_bin rfl rfl rfl rfl) rfl rfl rfl rfl (by decide) ?_
              refine wl_q (q_pick rfl rfl rfl) rfl rfl (by decide) ?_
              refine wl_q (q_move rfl rfl) rfl rfl (by decide) ?_
              refine wl_split (t := 70) rfl (fun h70 => ?_) (fun h70 => ?_)
              · skip
                exact absurd h70 (by rw [BA]; first | (rw [CB]; simp; done) | simp)
              · skip
                have q70 := h70
                try simp only [decide_eq_true_eq, decide_eq_false_iff_not, beq_iff_eq, beq_eq_false_iff_ne, bne_iff_ne, ne_eq, bne_eq_false_iff_eq, Int.not_lt, Int.not_le] at q70
                refine wl_want (b := false) (q_move rfl rfl) rfl rfl rfl rfl (by decide) ?_
                refine wl_want (b := false) (q_move rfl rfl) rfl rfl rfl rfl (by decide) ?_
                refine wl_want (b := false) (q_bin rfl rfl rfl rfl) rfl rfl rfl rfl (by decide) ?_
                refine wl_want (b := false) (q_neqB rfl rfl rfl Tryd.underlying4) rfl rfl rfl rfl (by decide) ?_
                refine wl_q (q_pick rfl rfl rfl) rfl rfl (by decide) ?_
                refine wl_nil ?_
                refine fq_then ?_
                refine wc_cond rfl (fun h75 => ?_) (fun h75 => ?_)
                · skip
                  exact absurd h75 (by first | (rw [← CB, ← FI]; simp; done) | (rw [← FI]; simp))
                · skip
                  have q75 := h75
                  try simp only [decide_eq_true_eq, decide_eq_false_iff_not, beq_iff_eq, beq_eq_false_iff_ne, bne_iff_ne, ne_eq, bne_eq_false_iff_eq, Int.not_lt, Int.not_le] at q75
                  refine wc_skip ?_
                  refine fq_block ?_
                  refine fq_then ?_
                  refine wc_region ?_
                  refine wl_q (q_move rfl rfl) rfl rfl (by decide) ?_
                  refine wl_q (q_bin rfl rfl rfl rfl) rfl rfl (by decide) ?_
                  refine wl_q (q_assign rfl rfl) rfl rfl (by decide) ?_
                  refine wl_nil ?_
                  refine fq_next (k + 1, j.1, j.2) (show k + 1 ≤ l.length by omega) (show l.length - (k + 1) < l.length - k by omega) ⟨List.forall_mem_cons.2 ⟨rfl, List.forall_mem_cons.2 ⟨rfl, List.forall_mem_cons.2 ⟨rfl, List.forall_mem_cons.2 ⟨rfl, List.forall_mem_cons.2 ⟨(congrArg (fun z => some (Value.int .i64 z)) (by first | rfl | exact CB.symm)), List.forall_mem_cons.2 ⟨(congrArg (fun z => some (Value.int .i64 z)) (wk1 hlt hn)), fun _ h => (by cases h)⟩⟩⟩⟩⟩⟩, List.Sublist.refl _⟩
        · skip
          have q38 := h38
          try simp only [decide_eq_true_eq, decide_eq_false_iff_not, beq_iff_eq, beq_eq_false_iff_ne, bne_iff_ne, ne_eq, bne_eq_false_iff_eq, Int.not_lt, Int.not_le] at q38
          have CB := cnt_no h34 h38
          refine wc_skip ?_
          refine fq_then ?_
          refine wc_seq ?_
          refine wc_region ?_
          refine wl_q (q_move rfl rfl) rfl rfl (by decide) ?_
          refine wl_q (q_move rfl rfl) rfl rfl (by decide) ?_
          refine wl_q (q_move rfl rfl) rfl rfl (by decide) ?_
          refine wl_q (q_bin rfl rfl rfl rfl) rfl rfl (by decide) ?_
          refine wl_eq (t := 44) rfl (congrArg (Value.int .i64) (wk1 hlt hn)) ?_
          refine wl_q (q_slice_hi rfl rfl rfl Tryd.underlying22 Sz40 (by omega) (by omega)) rfl rfl (by decide) ?_
          refine wl_eq (t := 45) rfl (show Value.slice A (((k + 1 : Nat) : Int)).toNat c = .slice A (l.take (k + 1)).length c by rw [htk, Int.toNat_natCast]) ?_
          refine wl_q (q_call rfl En11 rfl (fun w1 hw1 => Over_calls lag A c (l.take (k + 1)) w1 _ _ _ ((F2.below (hw1.toBelow (by simp))).take hlt))) rfl rfl (by decide) ?_
          refine wl_q (q_bin rfl rfl rfl rfl) rfl rfl (by decide) ?_
          refine wl_q (q_move rfl rfl) rfl rfl (by decide) ?_
          refine wl_split (t := 48) rfl (fun h48 => ?_) (fun h48 => ?_)
          · skip
            have q48 := h48
            try simp only [decide_eq_true_eq, decide_eq_false_iff_not, beq_iff_eq, beq_eq_false_iff_ne, bne_iff_ne, ne_eq, bne_eq_false_iff_eq, Int.not_lt, Int.not_le] at q48
            rw [h48, Bool.true_and] at FI
            refine wl_want (b := true) (q_move rfl rfl) rfl rfl rfl rfl (by decide) ?_
            refine wl_want (b := true) (q_move rfl rfl) rfl rfl rfl rfl (by decide) ?_
            refine wl_unguard (b := true) rfl rfl rfl ?_
            refine wl_q (q_bin rfl rfl rfl rfl) rfl rfl (by decide) ?_
            refine wl_eq (t := 51) rfl (congrArg (Value.int .i64) (wk1 hlt hn)) ?_
            refine wl_unguard (b := true) rfl rfl rfl ?_
            refine wl_q (q_slice_hi rfl rfl rfl Tryd.underlying22 Sz40 (by omega) (by omega)) rfl rfl (by decide) ?_
            refine wl_eq (t := 52) rfl (show Value.slice A (((k + 1 : Nat) : Int)).toNat c = .slice A (l.take (k + 1)).length c by rw [htk, Int.toNat_natCast]) ?_
            refine wl_want (b := true) (q_call rfl En12 rfl (fun w1 hw1 => breaks_calls A c (l.take (k + 1)) w1 _ _ _ ((F2.below (hw1.toBelow (by simp))).take hlt) (by rw [htk]; omega) (hl2.below (hw1.toBelow (by simp))))) rfl rfl rfl rfl (by decide) ?_
            refine wl_want (b := true) (q_bin rfl rfl rfl rfl) rfl rfl rfl rfl (by decide) ?_
            refine wl_q (q_pick rfl rfl rfl) rfl rfl (by decide) ?_
            refine wl_q (q_assign rfl rfl) rfl rfl (by decide) ?_
            refine wl_nil ?_
            refine fq_then ?_
            refine wc_seq ?_
            refine wc_region ?_
            refine wl_q (q_move rfl rfl) rfl rfl (by decide) ?_
            refine wl_q (q_move rfl rfl) rfl rfl (by decide) ?_
            refine wl_q (q_move rfl rfl) rfl rfl (by decide) ?_
            refine wl_q (q_indexO rfl rfl (F2.hA (by omega)) rfl Tryd.underlying22 Sz40 (by omega) (by omega)) rfl rfl (by decide) ?_
            refine wl_q (q_loadA (cs := cells5 (l.getD k PAll.z40) (PA k) (PC k)) rfl rfl Mn40 Sz40 rfl (reads_old (by simp) (F2.cell k hlt))) rfl rfl (by decide) ?_
            refine wl_call (ι := Option Addr × Nat) (fun _ => .bool (badA lag l (k + 1) == 0)) (fun j => [.blk b.1 [.func (.func 35) #[] #[.pointer (some ⟨b.2, 0, none⟩)], .slice j.1 (lastA l (k + 1)).length j.2, .bool (anyA (k + 1)), .int .i64 (badA lag l (k + 1))] 59, .blk b.2 (knA lag (fun j => l.getD j PAll.z40) (k + 1)).cells 66, .own 0 3 1 (.slice j.1 (lastA l (k + 1)).length j.2) (lastA l (k + 1)).length (nums .i64 (lastA l (k + 1))), old w2]) (fun _ => True) rfl rfl rfl (by decide) En16 rfl (fun w1 hw1 => tell2_calls w2 [] b.1 b.2 (knA lag (fun j => l.getD j PAll.z40) k) (knA_ok lag _ k) (lastA l k) LA LC (anyA k) (badA lag l k) (l.getD k PAll.z40) (PA k) (PC k) hl2 (F2.row k hlt) (F2.le k) (Nat.lt_of_le_of_lt (hs2 k hlt) (by decide)) (lastA_le hs2 k hkn) w1 hw1) (fun j _ => ?_)
            refine wl_q (q_move rfl rfl) rfl rfl (by decide) ?_
            refine wl_q (q_neqB rfl rfl rfl Tryd.underlying4) rfl rfl (by decide) ?_
            refine wl_q (q_move rfl rfl) rfl rfl (by decide) ?_
            refine wl_split (t := 64) rfl (fun h64 => ?_) (fun h64 => ?_)
            · skip
              exact absurd h64 (by rw [BA, ← FI]; simp)
            · skip
              have q64 := h64
              try simp only [decide_eq_true_eq, decide_eq_false_iff_not, beq_iff_eq, beq_eq_false_iff_ne, bne_iff_ne, ne_eq, bne_eq_false_iff_eq, Int.not_lt, Int.not_le] at q64
              refine wl_want (b := false) (q_move rfl rfl) rfl rfl rfl rfl (by decide) ?_
              refine wl_unguard (b := false) rfl rfl rfl ?_
              refine wl_call (ι := Unit) (fun _ => .int .i64 (badA lag l (k + 1))) (fun _ => [.blk b.1 [.func (.func 35) #[] #[.pointer (some ⟨b.2, 0, none⟩)], .slice j.1 (lastA l (k + 1)).length j.2, .bool (anyA (k + 1)), .int .i64 (badA lag l (k + 1))] 59, .blk b.2 (knA lag (fun j => l.getD j PAll.z40) (k + 1)).cells 66, .own 0 3 1 (.slice j.1 (lastA l (k + 1)).length j.2) (lastA l (k + 1)).length (nums .i64 (lastA l (k + 1))), old w2]) (fun _ => True) rfl rfl rfl (by decide) En17 rfl (fun w1 hw1 => (bad_calls w2 _ 0 b.1 _ _ _ (badA lag l (k + 1)) rfl w1 hw1).mono (fun e w' h => ⟨(), trivial, h.1, h.2⟩)) (fun _ _ => ?_)
              refine wl_want (b := false) (q_move rfl rfl) rfl rfl rfl rfl (by decide) ?_
              refine wl_want (b := false) (q_bin rfl rfl rfl rfl) rfl rfl rfl rfl (by decide) ?_
              refine wl_q (q_pick rfl rfl rfl) rfl rfl (by decide) ?_
              refine wl_q (q_move rfl rfl) rfl rfl (by decide) ?_
              refine wl_split (t := 70) rfl (fun h70 => ?_) (fun h70 => ?_)
              · skip
                exact absurd h70 (by rw [BA]; first | (rw [CB]; simp; done) | simp)
              · skip
                have q70 := h70
                try simp only [decide_eq_true_eq, decide_eq_false_iff_not, beq_iff_eq, beq_eq_false_iff_ne, bne_iff_ne, ne_eq, bne_eq_false_iff_eq, Int.not_lt, Int.not_le] at q70
                refine wl_want (b := false) (q_move rfl rfl) rfl rfl rfl rfl (by decide) ?_
                refine wl_want (b := false) (q_move rfl rfl) rfl rfl rfl rfl (by decide) ?_
                refine wl_want (b := false) (q_bin rfl rfl rfl rfl) rfl rfl rfl rfl (by decide) ?_
                refine wl_want (b := false) (q_neqB rfl rfl rfl Tryd.underlying4) rfl rfl rfl rfl (by decide) ?_
                refine wl_q (q_pick rfl rfl rfl) rfl rfl (by decide) ?_
                refine wl_nil ?_
                refine fq_then ?_
                refine wc_cond rfl (fun h75 => ?_) (fun h75 => ?_)
                · skip
                  exact absurd h75 (by first | (rw [← CB, ← FI]; simp; done) | (rw [← FI]; simp))
                · skip
                  have q75 := h75
                  try simp only [decide_eq_true_eq, decide_eq_false_iff_not, beq_iff_eq, beq_eq_false_iff_ne, bne_iff_ne, ne_eq, bne_eq_false_iff_eq, Int.not_lt, Int.not_le] at q75
                  refine wc_skip ?_
                  refine fq_block ?_
                  refine fq_then ?_
                  refine wc_region ?_
                  refine wl_q (q_move rfl rfl) rfl rfl (by decide) ?_
                  refine wl_q (q_bin rfl rfl rfl rfl) rfl rfl (by decide) ?_
                  refine wl_q (q_assign rfl rfl) rfl rfl (by decide) ?_
                  refine wl_nil ?_
                  refine fq_next (k + 1, j.1, j.2) (show k + 1 ≤ l.length by omega) (show l.length - (k + 1) < l.length - k by omega) ⟨List.forall_mem_cons.2 ⟨rfl, List.forall_mem_cons.2 ⟨rfl, List.forall_mem_cons.2 ⟨rfl, List.forall_mem_cons.2 ⟨rfl, List.forall_mem_cons.2 ⟨(congrArg (fun z => some (Value.int .i64 z)) (by first | rfl | exact CB.symm)), List.forall_mem_cons.2 ⟨(congrArg (fun z => some (Value.int .i64 z)) (wk1 hlt hn)), fun _ h => (by cases h)⟩⟩⟩⟩⟩⟩, List.Sublist.refl _⟩
          · skip
            have q48 := h48
            try simp only [decide_eq_true_eq, decide_eq_false_iff_not, beq_iff_eq, beq_eq_false_iff_ne, bne_iff_ne, ne_eq, bne_eq_false_iff_eq, Int.not_lt, Int.not_le] at q48
            rw [h48, Bool.false_and] at FI
            refine wl_skip (b := false) rfl rfl rfl rfl (by decide) ?_
            refine wl_skip (b := false) rfl rfl rfl rfl (by decide) ?_
            refine wl_skip (b := false) rfl rfl rfl rfl (by decide) ?_
            refine wl_skip (b := false) rfl rfl rfl rfl (by decide) ?_
            refine wl_skip (b := false) rfl rfl rfl rfl (by decide) ?_
            refine wl_skip (b := false) rfl rfl rfl rfl (by decide) ?_
            refine wl_q (q_pick rfl rfl rfl) rfl rfl (by decide) ?_
            refine wl_q (q_assign rfl rfl) rfl rfl (by decide) ?_
            refine wl_nil ?_
            refine fq_then ?_
            refine wc_seq ?_
            refine wc_region ?_
            refine wl_q (q_move rfl rfl) rfl rfl (by decide) ?_
            refine wl_q (q_move rfl rfl) rfl rfl (by decide) ?_
            refine wl_q (q_move rfl rfl) rfl rfl (by decide) ?_
            refine wl_q (q_indexO rfl rfl (F2.hA (by omega)) rfl Tryd.underlying22 Sz40 (by omega) (by omega)) rfl rfl (by decide) ?_
            refine wl_q (q_loadA (cs := cells5 (l.getD k PAll.z40) (PA k) (PC k)) rfl rfl Mn40 Sz40 rfl (reads_old (by simp) (F2.cell k hlt))) rfl rfl (by decide) ?_
            refine wl_call (ι := Option Addr × Nat) (fun _ => .bool (badA lag l (k + 1) == 0)) (fun j => [.blk b.1 [.func (.func 35) #[] #[.pointer (some ⟨b.2, 0, none⟩)], .slice j.1 (lastA l (k + 1)).length j.2, .bool (anyA (k + 1)), .int .i64 (badA lag l (k + 1))] 59, .blk b.2 (knA lag (fun j => l.getD j PAll.z40) (k + 1)).cells 66, .own 0 3 1 (.slice j.1 (lastA l (k + 1)).length j.2) (lastA l (k + 1)).length (nums .i64 (lastA l (k + 1))), old w2]) (fun _ => True) rfl rfl rfl (by decide) En16 rfl (fun w1 hw1 => tell2_calls w2 [] b.1 b.2 (knA lag (fun j => l.getD j PAll.z40) k) (knA_ok lag _ k) (lastA l k) LA LC (anyA k) (badA lag l k) (l.getD k PAll.z40) (PA k) (PC k) hl2 (F2.row k hlt) (F2.le k) (Nat.lt_of_le_of_lt (hs2 k hlt) (by decide)) (lastA_le hs2 k hkn) w1 hw1) (fun j _ => ?_)
            refine wl_q (q_move rfl rfl) rfl rfl (by decide) ?_
            refine wl_q (q_neqB rfl rfl rfl Tryd.underlying4) rfl rfl (by decide) ?_
            refine wl_q (q_move rfl rfl) rfl rfl (by decide) ?_
            refine wl_split (t := 64) rfl (fun h64 => ?_) (fun h64 => ?_)
            · skip
              exact absurd h64 (by rw [BA, ← FI]; simp)
            · skip
              have q64 := h64
              try simp only [decide_eq_true_eq, decide_eq_false_iff_not, beq_iff_eq, beq_eq_false_iff_ne, bne_iff_ne, ne_eq, bne_eq_false_iff_eq, Int.not_lt, Int.not_le] at q64
              refine wl_want (b := false) (q_move rfl rfl) rfl rfl rfl rfl (by decide) ?_
              refine wl_unguard (b := false) rfl rfl rfl ?_
              refine wl_call (ι := Unit) (fun _ => .int .i64 (badA lag l (k + 1))) (fun _ => [.blk b.1 [.func (.func 35) #[] #[.pointer (some ⟨b.2, 0, none⟩)], .slice j.1 (lastA l (k + 1)).length j.2, .bool (anyA (k + 1)), .int .i64 (badA lag l (k + 1))] 59, .blk b.2 (knA lag (fun j => l.getD j PAll.z40) (k + 1)).cells 66, .own 0 3 1 (.slice j.1 (lastA l (k + 1)).length j.2) (lastA l (k + 1)).length (nums .i64 (lastA l (k + 1))), old w2]) (fun _ => True) rfl rfl rfl (by decide) En17 rfl (fun w1 hw1 => (bad_calls w2 _ 0 b.1 _ _ _ (badA lag l (k + 1)) rfl w1 hw1).mono (fun e w' h => ⟨(), trivial, h.1, h.2⟩)) (fun _ _ => ?_)
              refine wl_want (b := false) (q_move rfl rfl) rfl rfl rfl rfl (by decide) ?_
              refine wl_want (b := false) (q_bin rfl rfl rfl rfl) rfl rfl rfl rfl (by decide) ?_
              refine wl_q (q_pick rfl rfl rfl) rfl rfl (by decide) ?_
              refine wl_q (q_move rfl rfl) rfl rfl (by decide) ?_
              refine wl_split (t := 70) rfl (fun h70 => ?_) (fun h70 => ?_)
              · skip
                exact absurd h70 (by rw [BA]; first | (rw [CB]; simp; done) | simp)
              · skip
                have q70 := h70
                try simp only [decide_eq_true_eq, decide_eq_false_iff_not, beq_iff_eq, beq_eq_false_iff_ne, bne_iff_ne, ne_eq, bne_eq_false_iff_eq, Int.not_lt, Int.not_le] at q70
                refine wl_want (b := false) (q_move rfl rfl) rfl rfl rfl rfl (by decide) ?_
                refine wl_want (b := false) (q_move rfl rfl) rfl rfl rfl rfl (by decide) ?_
                refine wl_want (b := false) (q_bin rfl rfl rfl rfl) rfl rfl rfl rfl (by decide) ?_
                refine wl_want (b := false) (q_neqB rfl rfl rfl Tryd.underlying4) rfl rfl rfl rfl (by decide) ?_
                refine wl_q (q_pick rfl rfl rfl) rfl rfl (by decide) ?_
                refine wl_nil ?_
                refine fq_then ?_
                refine wc_cond rfl (fun h75 => ?_) (fun h75 => ?_)
                · skip
                  exact absurd h75 (by first | (rw [← CB, ← FI]; simp; done) | (rw [← FI]; simp))
                · skip
                  have q75 := h75
                  try simp only [decide_eq_true_eq, decide_eq_false_iff_not, beq_iff_eq, beq_eq_false_iff_ne, bne_iff_ne, ne_eq, bne_eq_false_iff_eq, Int.not_lt, Int.not_le] at q75
                  refine wc_skip ?_
                  refine fq_block ?_
                  refine fq_then ?_
                  refine wc_region ?_
                  refine wl_q (q_move rfl rfl) rfl rfl (by decide) ?_
                  refine wl_q (q_bin rfl rfl rfl rfl) rfl rfl (by decide) ?_
                  refine wl_q (q_assign rfl rfl) rfl rfl (by decide) ?_
                  refine wl_nil ?_
                  refine fq_next (k + 1, j.1, j.2) (show k + 1 ≤ l.length by omega) (show l.length - (k + 1) < l.length - k by omega) ⟨List.forall_mem_cons.2 ⟨rfl, List.forall_mem_cons.2 ⟨rfl, List.forall_mem_cons.2 ⟨rfl, List.forall_mem_cons.2 ⟨rfl, List.forall_mem_cons.2 ⟨(congrArg (fun z => some (Value.int .i64 z)) (by first | rfl | exact CB.symm)), List.forall_mem_cons.2 ⟨(congrArg (fun z => some (Value.int .i64 z)) (wk1 hlt hn)), fun _ h => (by cases h)⟩⟩⟩⟩⟩⟩, List.Sublist.refl _⟩
    · skip
      have q27 := h27
      try simp only [decide_eq_true_eq, decide_eq_false_iff_not, beq_iff_eq, beq_eq_false_iff_ne, bne_iff_ne, ne_eq, bne_eq_false_iff_eq, Int.not_lt, Int.not_le] at q27
      refine wc_exit ?_
      refine fq_then_exit ?_
      refine fq_then_exit ?_
      refine fq_block_hit ?_
      refine fq_then ?_
      refine wc_seq ?_
      refine wc_region ?_
      refine wl_q (q_assign rfl rfl) rfl rfl (by decide) ?_
      refine wl_nil ?_
      refine fq_then ?_
      refine wc_seq ?_
      refine wc_region ?_
      refine wl_q (q_move rfl rfl) rfl rfl (by decide) ?_
      refine wl_q (q_build rfl rfl (built_of Zr40 Pl40 (by simp only [fillL, List.map_cons, List.map_nil, Value.cells, List.getElem?_cons_zero, List.getElem?_cons_succ, List.length_cons, List.length_nil, Nat.reduceAdd, Nat.reduceLeDiff, Nat.le_refl, and_self, and_true, true_and, if_true, Nat.zero_add, spl, List.take_succ_cons, List.take_zero, List.take_nil, List.drop_succ_cons, List.drop_zero, List.drop_nil, List.nil_append, List.cons_append, List.append_nil]; rfl))) rfl rfl (by decide) ?_
      refine wl_q (q_call rfl En16 rfl (fun w1 hw1 => tellNil_calls _ w1)) rfl rfl (by decide) ?_
      refine wl_q (q_not rfl rfl) rfl rfl (by decide) ?_
      refine wl_q (q_move rfl rfl) rfl rfl (by decide) ?_
      refine wl_want (b := true) (q_move rfl rfl) rfl rfl rfl rfl (by decide) ?_
      refine wl_want (b := true) (q_call rfl En17 rfl (fun w1 hw1 => badNil_calls w1)) rfl rfl rfl rfl (by decide) ?_
      refine wl_want (b := true) (q_bin rfl rfl rfl rfl) rfl rfl rfl rfl (by decide) ?_
      refine wl_q (q_pick rfl rfl rfl) rfl rfl (by decide) ?_
      refine wl_q (q_assign rfl rfl) rfl rfl (by decide) ?_
      refine wl_nil ?_
      refine fq_then ?_
      refine wc_ret ?_
      refine fq_ret1 rfl rfl (fun w1 H => ?_)
      refine ⟨congrArg (fun z => Ending.returned (Value.bool z)) rfl, ?_⟩
      first | exact H.toBelow (by simp) | exact hb2.trans ((H.toBelow (by simp)).mono hb2.size)

end Go.Proofs.YthpfhglncbkinaaDoor.SF
