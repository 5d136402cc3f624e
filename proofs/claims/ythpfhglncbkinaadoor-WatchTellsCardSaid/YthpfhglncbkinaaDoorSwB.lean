/- Walks (no statement stands here). -/
import Derived.Test.YthpfhglncbkinaaDoorSr3
import Derived.Test.YthpfhglncbkinaaDoorPAllx0
import Derived.Test.YthpfhglncbkinaaDoorSz
import Derived.Test.YthpfhglncbkinaaDoorSv
import Derived.Test.YthpfhglncbkinaaDoorWMore
import Derived.Test.YthpfhglncbkinaaDoorWLast
namespace Go.Proofs.YthpfhglncbkinaaDoor.SF
open Go.RowKit Go.Sx Go.Proofs.YthpfhglncbkinaaDoorW.PrintWords Go.Proofs.YthpfhglncbkinaaDoorW.PrintLast Go.Proofs.YthpfhglncbkinaaDoorW.PrintMore
set_option linter.unusedVariables false
set_option linter.unusedSimpArgs false
set_option maxRecDepth 100000

theorem tells_calls (lag : Int) (A : Option Addr) (c : Nat) (l : List PAll.S40) (car from_ : Int) (w : World) (hl : NextL w) (hr : Kd.C PAll.k40 w A l.length l) (hc : l.length ≤ c) (hok : ∀ x ∈ l, (Lit.int .u64 x.f4).wf = true) : Calls Tryd.prog 3 #[.int .i64 lag, .slice A l.length c, .int .i64 car, .int .i64 from_] w fun e w' => e = .returned (.bool true) ∧ Below w.heap.size w w' := by
  obtain ⟨ad, PA, PC, F⟩ := facts_of hr
  have hn := F.hn
  obtain ⟨F0, hF0⟩ : ∃ F0 : Int, (from_ < 0 → F0 = 0) ∧ (0 ≤ from_ → F0 = from_) := ⟨if from_ < 0 then 0 else from_, by split <;> omega⟩
  refine enter (w0 := w) (hp := [old w]) (env := [(0, .int .i64 lag), (1, .slice A l.length c), (2, .int .i64 car), (3, .int .i64 from_)]) Tryd.func3 rfl 62 rfl (by simp) rfl (HeapOK.start _) ?_
  refine wc_seq ?_
  refine wc_region ?_
  refine wl_q (q_assign rfl rfl) rfl rfl (by decide) ?_
  refine wl_nil ?_
  refine fq_then ?_
  refine wc_seq ?_
  refine wc_region ?_
  refine wl_q (q_call rfl En6 rfl (fun w1 hw1 => awake_calls w1 (hl.below (hw1.toBelow (by simp))))) rfl rfl (by decide) ?_
  refine wl_q (q_assign rfl rfl) rfl rfl (by decide) ?_
  refine wl_nil ?_
  refine fq_then ?_
  refine wc_seq ?_
  refine wc_seq ?_
  refine wc_region ?_
  refine wl_q (q_move rfl rfl) rfl rfl (by decide) ?_
  refine wl_q (q_not rfl rfl) rfl rfl (by decide) ?_
  refine wl_nil ?_
  refine fq_then ?_
  refine wc_false rfl ?_
  refine wc_skip ?_
  refine fq_then ?_
  refine wc_seq ?_
  refine wc_region ?_
  refine wl_q (q_move rfl rfl) rfl rfl (by decide) ?_
  refine wl_q (q_call rfl En7 rfl (fun w1 hw1 => short_calls A c l w1 _ _ _ (F.below (hw1.toBelow (by simp))))) rfl rfl (by decide) ?_
  refine wl_q (q_assign rfl rfl) rfl rfl (by decide) ?_
  refine wl_nil ?_
  refine fq_then ?_
  refine wc_seq ?_
  refine wc_seq ?_
  refine wc_region ?_
  refine wl_q (q_move rfl rfl) rfl rfl (by decide) ?_
  refine wl_q (q_not rfl rfl) rfl rfl (by decide) ?_
  refine wl_nil ?_
  refine fq_then ?_
  refine wc_cond rfl (fun h21 => ?_) (fun h21 => ?_)
  · skip
    have q21 := h21
    try simp only [decide_eq_true_eq, decide_eq_false_iff_not, beq_iff_eq, beq_eq_false_iff_ne, bne_iff_ne, ne_eq, bne_eq_false_iff_eq, Int.not_lt, Int.not_le] at q21
    refine wc_seq ?_
    refine wc_region ?_
    refine wl_q (q_assign rfl rfl) rfl rfl (by decide) ?_
    refine wl_nil ?_
    refine fq_then ?_
    refine wc_ret ?_
    refine fq_then_ret ?_
    refine fq_ret1 rfl rfl (fun w1 H => ?_)
    refine ⟨congrArg (fun z => Ending.returned (Value.bool z)) ?_, ?_⟩
    · first | rfl | (rw [eq3 car from_ F0 l hF0 (hok44 hok), hl4]; simp)
    · first | exact H.toBelow (by simp) | exact hb2.trans ((H.toBelow (by simp)).mono hb2.size)
  · skip
    have q21 := h21
    try simp only [decide_eq_true_eq, decide_eq_false_iff_not, beq_iff_eq, beq_eq_false_iff_ne, bne_iff_ne, ne_eq, bne_eq_false_iff_eq, Int.not_lt, Int.not_le] at q21
    have hs : l.length ≤ 60 := by (have h21' : shortB l = true := by simpa using h21); unfold shortB at h21'; rw [Bool.and_eq_true, decide_eq_true_eq] at h21'; have := h21'.2; omega
    have hs2 : ∀ j, j < l.length → (l.getD j PAll.z40).f3.length ≤ 64 := by (have h21' : shortB l = true := by simpa using h21); unfold shortB at h21'; rw [Bool.and_eq_true, List.all_eq_true] at h21'; exact fun j hj => by have := h21'.1 (l.getD j PAll.z40) (by rw [List.getD_eq_getElem?_getD, List.getElem?_eq_getElem hj]; exact List.getElem_mem hj); simpa using this
    clear h21
    refine wc_skip ?_
    refine fq_then ?_
    refine wc_seq ?_
    refine wc_region ?_
    refine wl_q (q_move rfl rfl) rfl rfl (by decide) ?_
    refine wl_callB (ι := Option Addr × Nat) (fun i => .slice i.1 (l.map gS).length i.2) (fun i w' => Kd.C PAll.k44 w' i.1 (l.map gS).length (l.map gS) ∧ (l.map gS).length ≤ i.2) (by simp) rfl rfl rfl (by decide) En8 rfl (fun w1 hw1 => (all2_calls A c l w1 (Kd.C_below hr (hw1.toBelow (by simp))) hc (by omega)).mono (fun e w' h => h)) (fun i w2 hb2 hi2 => ?_)
    obtain ⟨ad4, PA4, PC4, F4⟩ := facts44_of hi2.1
    have F2 := F.below hb2
    have hl2 := hl.below hb2
    have hl4 : (l.map gS).length = l.length := List.length_map _
    have hok2 : ∀ j, j < (l.map gS).length → 0 ≤ ((l.map gS).getD j PAll.z44).f4 ∧ ((l.map gS).getD j PAll.z44).f4 < 18446744073709551616 := fun j hj => by rw [gS_at]; exact hok44 hok j (by rw [← hl4]; exact hj)
    refine wl_q (q_assign rfl rfl) rfl rfl (by decide) ?_
    refine wl_nil ?_
    refine fq_then ?_
    refine wc_seq ?_
    refine wc_region ?_
    refine wl_q (q_assign rfl rfl) rfl rfl (by decide) ?_
    refine wl_nil ?_
    refine fq_then ?_
    refine wc_seq ?_
    refine wc_region ?_
    refine wl_q (q_assign rfl rfl) rfl rfl (by decide) ?_
    refine wl_nil ?_
    refine fq_then ?_
    refine wc_seq ?_
    refine wc_seq ?_
    refine wc_region ?_
    refine wl_q (q_move rfl rfl) rfl rfl (by decide) ?_
    refine wl_q (q_len rfl rfl Tryd.underlying25) rfl rfl (by decide) ?_
    refine wl_q (q_bin rfl rfl rfl rfl) rfl rfl (by decide) ?_
    refine wl_q (q_assign rfl rfl) rfl rfl (by decide) ?_
    refine wl_nil ?_
    refine fq_then ?_
    refine wc_block ?_
    refine wc_loop (ι := Nat) (fun k => [(0, .int .i64 lag), (1, .slice A l.length c), (2, .int .i64 car), (3, .int .i64 from_), (11, .slice i.1 (l.map gS).length i.2), (12, .int .i64 (ff (over44 lag (fun j => (l.map gS).getD j PAll.z44)) l.length k)), (13, .int .i64 (ff (badAt (fun j => ((l.map gS).getD j PAll.z44).f3)) l.length k)), (14, .int .i64 ((k : Int) - 1))]) (fun k => [old w2]) (fun k => k ≤ l.length) (fun k => k) l.length (Nat.le_refl _) ⟨List.forall_mem_cons.2 ⟨rfl, List.forall_mem_cons.2 ⟨rfl, List.forall_mem_cons.2 ⟨rfl, List.forall_mem_cons.2 ⟨rfl, List.forall_mem_cons.2 ⟨rfl, List.forall_mem_cons.2 ⟨(congrArg (fun z => some (Value.int .i64 z)) (ff_end _ _).symm), List.forall_mem_cons.2 ⟨(congrArg (fun z => some (Value.int .i64 z)) (ff_end _ _).symm), List.forall_mem_cons.2 ⟨(congrArg (fun z => some (Value.int .i64 z)) ((wid (by omega) (by omega)).trans (by omega))), fun _ h => (by cases h)⟩⟩⟩⟩⟩⟩⟩⟩, List.Sublist.refl _⟩ ?_
    intro k hkn
    refine wc_seq ?_
    refine wc_seq ?_
    refine wc_region ?_
    refine wl_q (q_move rfl rfl) rfl rfl (by decide) ?_
    refine wl_q (q_bin rfl rfl rfl rfl) rfl rfl (by decide) ?_
    refine wl_nil ?_
    refine fq_then ?_
    refine wc_cond rfl (fun h28 => ?_) (fun h28 => ?_)
    · skip
      have q28 := h28
      try simp only [decide_eq_true_eq, decide_eq_false_iff_not, beq_iff_eq, beq_eq_false_iff_ne, bne_iff_ne, ne_eq, bne_eq_false_iff_eq, Int.not_lt, Int.not_le] at q28
      obtain ⟨m, rfl⟩ : ∃ m, k = m + 1 := ⟨k - 1, by omega⟩
      refine wc_skip ?_
      refine fq_then ?_
      refine wc_seq ?_
      refine wc_block ?_
      refine wc_seq ?_
      refine wc_seq ?_
      refine wc_region ?_
      refine wl_q (q_move rfl rfl) rfl rfl (by decide) ?_
      refine wl_q (q_move rfl rfl) rfl rfl (by decide) ?_
      refine wl_q (q_move rfl rfl) rfl rfl (by decide) ?_
      refine wl_eq (t := 33) rfl (congrArg (Value.int .i64) (show ((m + 1 : Nat) : Int) - 1 = (m : Int) by omega)) ?_
      refine wl_q (q_call rfl En9 rfl (fun w1 hw1 => over2_calls lag m i.1 i.2 (l.map gS) w1 _ _ _ (F4.below (hw1.toBelow (by simp))) (by omega) (by omega))) rfl rfl (by decide) ?_
      refine wl_nil ?_
      refine fq_then ?_
      refine wc_cond rfl (fun h34 => ?_) (fun h34 => ?_)
      · skip
        have q34 := h34
        try simp only [decide_eq_true_eq, decide_eq_false_iff_not, beq_iff_eq, beq_eq_false_iff_ne, bne_iff_ne, ne_eq, bne_eq_false_iff_eq, Int.not_lt, Int.not_le] at q34
        refine wc_region ?_
        refine wl_q (q_move rfl rfl) rfl rfl (by decide) ?_
        refine wl_eq (t := 35) rfl (congrArg (Value.int .i64) (show ((m + 1 : Nat) : Int) - 1 = (m : Int) by omega)) ?_
        refine wl_q (q_assign rfl rfl) rfl rfl (by decide) ?_
        refine wl_nil ?_
        refine fq_then ?_
        refine wc_seq ?_
        refine wc_region ?_
        refine wl_q (q_move rfl rfl) rfl rfl (by decide) ?_
        refine wl_q (q_move rfl rfl) rfl rfl (by decide) ?_
        refine wl_eq (t := 37) rfl (congrArg (Value.int .i64) (show ((m + 1 : Nat) : Int) - 1 = (m : Int) by omega)) ?_
        refine wl_q (q_call rfl En10 rfl (fun w1 hw1 => breaks2_calls m i.1 i.2 (l.map gS) w1 _ _ _ (F4.below (hw1.toBelow (by simp))) (by omega) (by omega))) rfl rfl (by decide) ?_
        refine wl_nil ?_
        refine fq_then ?_
        refine wc_cond rfl (fun h38 => ?_) (fun h38 => ?_)
        · skip
          have q38 := h38
          try simp only [decide_eq_true_eq, decide_eq_false_iff_not, beq_iff_eq, beq_eq_false_iff_ne, bne_iff_ne, ne_eq, bne_eq_false_iff_eq, Int.not_lt, Int.not_le] at q38
          refine wc_region ?_
          refine wl_q (q_move rfl rfl) rfl rfl (by decide) ?_
          refine wl_eq (t := 39) rfl (congrArg (Value.int .i64) (show ((m + 1 : Nat) : Int) - 1 = (m : Int) by omega)) ?_
          refine wl_q (q_assign rfl rfl) rfl rfl (by decide) ?_
          refine wl_nil ?_
          refine fq_block ?_
          refine fq_then ?_
          refine wc_region ?_
          refine wl_q (q_move rfl rfl) rfl rfl (by decide) ?_
          refine wl_eq (t := 29) rfl (congrArg (Value.int .i64) (show ((m + 1 : Nat) : Int) - 1 = (m : Int) by omega)) ?_
          refine wl_q (q_bin rfl rfl rfl rfl) rfl rfl (by decide) ?_
          refine wl_q (q_assign rfl rfl) rfl rfl (by decide) ?_
          refine wl_nil ?_
          refine fq_next m (by omega) (by omega) ⟨List.forall_mem_cons.2 ⟨rfl, List.forall_mem_cons.2 ⟨rfl, List.forall_mem_cons.2 ⟨rfl, List.forall_mem_cons.2 ⟨rfl, List.forall_mem_cons.2 ⟨rfl, List.forall_mem_cons.2 ⟨(congrArg (fun z => some (Value.int .i64 z)) (by first | exact ff_yes (by omega) h34 | exact ff_no (by omega) h34)), List.forall_mem_cons.2 ⟨(congrArg (fun z => some (Value.int .i64 z)) (by first | exact ff_yes (by omega) h38 | exact ff_no (by omega) h38)), List.forall_mem_cons.2 ⟨(congrArg (fun z => some (Value.int .i64 z)) (wid (by omega) (by omega))), fun _ h => (by cases h)⟩⟩⟩⟩⟩⟩⟩⟩, List.Sublist.refl _⟩
        · skip
          have q38 := h38
          try simp only [decide_eq_true_eq, decide_eq_false_iff_not, beq_iff_eq, beq_eq_false_iff_ne, bne_iff_ne, ne_eq, bne_eq_false_iff_eq, Int.not_lt, Int.not_le] at q38
          refine wc_skip ?_
          refine fq_block ?_
          refine fq_then ?_
          refine wc_region ?_
          refine wl_q (q_move rfl rfl) rfl rfl (by decide) ?_
          refine wl_eq (t := 29) rfl (congrArg (Value.int .i64) (show ((m + 1 : Nat) : Int) - 1 = (m : Int) by omega)) ?_
          refine wl_q (q_bin rfl rfl rfl rfl) rfl rfl (by decide) ?_
          refine wl_q (q_assign rfl rfl) rfl rfl (by decide) ?_
          refine wl_nil ?_
          refine fq_next m (by omega) (by omega) ⟨List.forall_mem_cons.2 ⟨rfl, List.forall_mem_cons.2 ⟨rfl, List.forall_mem_cons.2 ⟨rfl, List.forall_mem_cons.2 ⟨rfl, List.forall_mem_cons.2 ⟨rfl, List.forall_mem_cons.2 ⟨(congrArg (fun z => some (Value.int .i64 z)) (by first | exact ff_yes (by omega) h34 | exact ff_no (by omega) h34)), List.forall_mem_cons.2 ⟨(congrArg (fun z => some (Value.int .i64 z)) (by first | exact ff_yes (by omega) h38 | exact ff_no (by omega) h38)), List.forall_mem_cons.2 ⟨(congrArg (fun z => some (Value.int .i64 z)) (wid (by omega) (by omega))), fun _ h => (by cases h)⟩⟩⟩⟩⟩⟩⟩⟩, List.Sublist.refl _⟩
      · skip
        have q34 := h34
        try simp only [decide_eq_true_eq, decide_eq_false_iff_not, beq_iff_eq, beq_eq_false_iff_ne, bne_iff_ne, ne_eq, bne_eq_false_iff_eq, Int.not_lt, Int.not_le] at q34
        refine wc_skip ?_
        refine fq_then ?_
        refine wc_seq ?_
        refine wc_region ?_
        refine wl_q (q_move rfl rfl) rfl rfl (by decide) ?_
        refine wl_q (q_move rfl rfl) rfl rfl (by decide) ?_
        refine wl_eq (t := 37) rfl (congrArg (Value.int .i64) (show ((m + 1 : Nat) : Int) - 1 = (m : Int) by omega)) ?_
        refine wl_q (q_call rfl En10 rfl (fun w1 hw1 => breaks2_calls m i.1 i.2 (l.map gS) w1 _ _ _ (F4.below (hw1.toBelow (by simp))) (by omega) (by omega))) rfl rfl (by decide) ?_
        refine wl_nil ?_
        refine fq_then ?_
        refine wc_cond rfl (fun h38 => ?_) (fun h38 => ?_)
        · skip
          have q38 := h38
          try simp only [decide_eq_true_eq, decide_eq_false_iff_not, beq_iff_eq, beq_eq_false_iff_ne, bne_iff_ne, ne_eq, bne_eq_false_iff_eq, Int.not_lt, Int.not_le] at q38
          refine wc_region ?_
          refine wl_q (q_move rfl rfl) rfl rfl (by decide) ?_
          refine wl_eq (t := 39) rfl (congrArg (Value.int .i64) (show ((m + 1 : Nat) : Int) - 1 = (m : Int) by omega)) ?_
          refine wl_q (q_assign rfl rfl) rfl rfl (by decide) ?_
          refine wl_nil ?_
          refine fq_block ?_
          refine fq_then ?_
          refine wc_region ?_
          refine wl_q (q_move rfl rfl) rfl rfl (by decide) ?_
          refine wl_eq (t := 29) rfl (congrArg (Value.int .i64) (show ((m + 1 : Nat) : Int) - 1 = (m : Int) by omega)) ?_
          refine wl_q (q_bin rfl rfl rfl rfl) rfl rfl (by decide) ?_
          refine wl_q (q_assign rfl rfl) rfl rfl (by decide) ?_
          refine wl_nil ?_
          refine fq_next m (by omega) (by omega) ⟨List.forall_mem_cons.2 ⟨rfl, List.forall_mem_cons.2 ⟨rfl, List.forall_mem_cons.2 ⟨rfl, List.forall_mem_cons.2 ⟨rfl, List.forall_mem_cons.2 ⟨rfl, List.forall_mem_cons.2 ⟨(congrArg (fun z => some (Value.int .i64 z)) (by first | exact ff_yes (by omega) h34 | exact ff_no (by omega) h34)), List.forall_mem_cons.2 ⟨(congrArg (fun z => some (Value.int .i64 z)) (by first | exact ff_yes (by omega) h38 | exact ff_no (by omega) h38)), List.forall_mem_cons.2 ⟨(congrArg (fun z => some (Value.int .i64 z)) (wid (by omega) (by omega))), fun _ h => (by cases h)⟩⟩⟩⟩⟩⟩⟩⟩, List.Sublist.refl _⟩
        · skip
          have q38 := h38
          try simp only [decide_eq_true_eq, decide_eq_false_iff_not, beq_iff_eq, beq_eq_false_iff_ne, bne_iff_ne, ne_eq, bne_eq_false_iff_eq, Int.not_lt, Int.not_le] at q38
          refine wc_skip ?_
          refine fq_block ?_
          refine fq_then ?_
          refine wc_region ?_
          refine wl_q (q_move rfl rfl) rfl rfl (by decide) ?_
          refine wl_eq (t := 29) rfl (congrArg (Value.int .i64) (show ((m + 1 : Nat) : Int) - 1 = (m : Int) by omega)) ?_
          refine wl_q (q_bin rfl rfl rfl rfl) rfl rfl (by decide) ?_
          refine wl_q (q_assign rfl rfl) rfl rfl (by decide) ?_
          refine wl_nil ?_
          refine fq_next m (by omega) (by omega) ⟨List.forall_mem_cons.2 ⟨rfl, List.forall_mem_cons.2 ⟨rfl, List.forall_mem_cons.2 ⟨rfl, List.forall_mem_cons.2 ⟨rfl, List.forall_mem_cons.2 ⟨rfl, List.forall_mem_cons.2 ⟨(congrArg (fun z => some (Value.int .i64 z)) (by first | exact ff_yes (by omega) h34 | exact ff_no (by omega) h34)), List.forall_mem_cons.2 ⟨(congrArg (fun z => some (Value.int .i64 z)) (by first | exact ff_yes (by omega) h38 | exact ff_no (by omega) h38)), List.forall_mem_cons.2 ⟨(congrArg (fun z => some (Value.int .i64 z)) (wid (by omega) (by omega))), fun _ h => (by cases h)⟩⟩⟩⟩⟩⟩⟩⟩, List.Sublist.refl _⟩
    · skip
      have q28 := h28
      try simp only [decide_eq_true_eq, decide_eq_false_iff_not, beq_iff_eq, beq_eq_false_iff_ne, bne_iff_ne, ne_eq, bne_eq_false_iff_eq, Int.not_lt, Int.not_le] at q28
      obtain rfl : k = 0 := by omega
      refine wc_exit ?_
      refine fq_then_exit ?_
      refine fq_then_exit ?_
      refine fq_block_hit ?_
      refine fq_then ?_
      refine wc_seq ?_
      refine wc_region ?_
      refine wl_q (q_move rfl rfl) rfl rfl (by decide) ?_
      refine wl_q (q_move rfl rfl) rfl rfl (by decide) ?_
      refine wl_q (q_call rfl En11 rfl (fun w1 hw1 => Over_calls lag A c l w1 _ _ _ (F2.below (hw1.toBelow (by simp))))) rfl rfl (by decide) ?_
      refine wl_q (q_move rfl rfl) rfl rfl (by decide) ?_
      refine wl_q (q_bin rfl rfl rfl rfl) rfl rfl (by decide) ?_
      refine wl_q (q_move rfl rfl) rfl rfl (by decide) ?_
      refine wl_split (t := 45) rfl (fun h45 => ?_) (fun h45 => ?_)
      · skip
        have q45 := h45
        try simp only [decide_eq_true_eq, decide_eq_false_iff_not, beq_iff_eq, beq_eq_false_iff_ne, bne_iff_ne, ne_eq, bne_eq_false_iff_eq, Int.not_lt, Int.not_le] at q45
        refine wl_want (b := true) (q_move rfl rfl) rfl rfl rfl rfl (by decide) ?_
        refine wl_want (b := true) (q_call rfl En12 rfl (fun w1 hw1 => breaks_calls A c l w1 _ _ _ (F2.below (hw1.toBelow (by simp))) (by omega) (hl2.below (hw1.toBelow (by simp))))) rfl rfl rfl rfl (by decide) ?_
        refine wl_want (b := true) (q_move rfl rfl) rfl rfl rfl rfl (by decide) ?_
        refine wl_want (b := true) (q_bin rfl rfl rfl rfl) rfl rfl rfl rfl (by decide) ?_
        refine wl_q (q_pick rfl rfl rfl) rfl rfl (by decide) ?_
        refine wl_q (q_move rfl rfl) rfl rfl (by decide) ?_
        refine wl_split (t := 51) rfl (fun h51 => ?_) (fun h51 => ?_)
        · skip
          have q51 := h51
          try simp only [decide_eq_true_eq, decide_eq_false_iff_not, beq_iff_eq, beq_eq_false_iff_ne, bne_iff_ne, ne_eq, bne_eq_false_iff_eq, Int.not_lt, Int.not_le] at q51
          refine wl_want (b := true) (q_move rfl rfl) rfl rfl rfl rfl (by decide) ?_
          refine wl_want (b := true) (q_move rfl rfl) rfl rfl rfl rfl (by decide) ?_
          refine wl_want (b := true) (q_move rfl rfl) rfl rfl rfl rfl (by decide) ?_
          refine wl_want (b := true) (q_call rfl En13 rfl (fun w1 hw1 => frees_calls' car from_ A c l hc w1 _ _ _ (F2.below (hw1.toBelow (by simp))))) rfl rfl rfl rfl (by decide) ?_
          refine wl_want (b := true) (q_move rfl rfl) rfl rfl rfl rfl (by decide) ?_
          refine wl_want (b := true) (q_move rfl rfl) rfl rfl rfl rfl (by decide) ?_
          refine wl_want (b := true) (q_move rfl rfl) rfl rfl rfl rfl (by decide) ?_
          refine wl_want (b := true) (q_call rfl En14 rfl (fun w1 hw1 => frees2_calls car from_ F0 i.1 i.2 (l.map gS) w1 _ _ _ (F4.below (hw1.toBelow (by simp))) hF0 hok2 (by omega))) rfl rfl rfl rfl (by decide) ?_
          refine wl_want (b := true) (q_bin rfl rfl rfl rfl) rfl rfl rfl rfl (by decide) ?_
          refine wl_q (q_pick rfl rfl rfl) rfl rfl (by decide) ?_
          refine wl_q (q_assign rfl rfl) rfl rfl (by decide) ?_
          refine wl_nil ?_
          refine fq_then ?_
          refine wc_ret ?_
          refine fq_ret1 rfl rfl (fun w1 H => ?_)
          refine ⟨congrArg (fun z => Ending.returned (Value.bool z)) ?_, ?_⟩
          · first | rfl | (rw [eq3 car from_ F0 l hF0 (hok44 hok), hl4]; simp)
          · first | exact H.toBelow (by simp) | exact hb2.trans ((H.toBelow (by simp)).mono hb2.size)
        · skip
          exact absurd (eq2 l) (ne_of_beq_false h51)
      · skip
        exact absurd (eq1 lag l) (ne_of_beq_false h45)

end Go.Proofs.YthpfhglncbkinaaDoor.SF
