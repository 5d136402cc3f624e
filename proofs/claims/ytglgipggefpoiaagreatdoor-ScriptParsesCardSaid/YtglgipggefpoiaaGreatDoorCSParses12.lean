/- Texts of mine, put together (no statement stands here). -/
import Derived.Test.YtglgipggefpoiaaGreatDoorCSParses11
section
namespace Go.Proofs.YtglgipggefpoiaaGreatDoor.SF
open Go.RowKit Go.Sx Go.Proofs.YtglgipggefpoiaaGreatDoor.PAll Go.Proofs.YtglgipggefpoiaaGreatDoorW.PrintWords Go.Proofs.YtglgipggefpoiaaGreatDoorW.PrintLast Go.Proofs.YtglgipggefpoiaaGreatDoorW.PrintMore
set_option linter.unusedVariables false
set_option linter.unusedSimpArgs false
set_option maxRecDepth 100000
theorem below_F {w wF w1 : World} {hp : List Sx.Item} (hB : Below w.heap.size w wF) (H : HeapOK wF hp w1) {F : Nat → Prop} (hm : .ro F wF ∈ hp) (hF : ∀ k, k < w.heap.size → F k) : Below w.heap.size w w1 :=
  ⟨H.os.trans hB.os, H.tape.trans hB.tape, H.output.trans hB.output, Nat.le_trans hB.size H.size, fun k hk => (H.ok _ hm k (hF k hk)).trans (hB.block k hk)⟩
theorem count_len (s : ByteArray) : (splW s).length ≤ s.size + 2 := by
  rw [splW_len]
  have := Lib.count_le s.data.toList spB.data.toList
  have e : Lib.countB s spB = Lib.count s.data.toList spB.data.toList := rfl
  have e2 : s.data.toList.length = s.size := rfl
  omega
theorem blk_ne {w : World} {gw o b : Nat} {T : TypeId} {cs : List Value} {x : ByteArray} (h : w.cell? ⟨gw, o, none⟩ = some (.string x)) (hb : Blk w b cs T) (hn : ∀ k : Nat, cs[k]? ≠ some (.string x)) : gw ≠ b := by
  rintro rfl
  rw [cell_of_row w gw o cs.toArray T (0, 0) hb] at h
  exact hn o (by simpa using h)
theorem tick_form {s : ByteArray} (h : s.size ≤ 4096) (ht : tickW (splW s) = none) : tickP s = ((false, false, 0, 0, []), 11) := by
  unfold tickP; rw [if_neg (by omega), ht]
theorem tick_few {s : ByteArray} (h : (splW s).length < 4) : tickW (splW s) = none := by unfold tickW; rw [if_pos h]
theorem tick_bad {s : ByteArray} (h4 : 4 ≤ (splW s).length) (h : headBad (splW s) = true ∨ evsF (splW s).length (splW s).tail.tail.tail.tail = none) : tickW (splW s) = none := by
  unfold tickW
  rw [if_neg (by omega)]
  rcases h with h | h
  · rw [if_pos h]
  · split
    · rfl
    · rw [h]; rfl
theorem head_ok {ws : List ByteArray} (h : headBad ws = false) : ∃ v u, numP (hdB ws.tail.tail) = some v ∧ uintP (hdB ws.tail.tail.tail) = some u := by
  unfold headBad at h
  simp only [Bool.or_eq_false_iff] at h
  obtain ⟨⟨h1, _⟩, h2⟩ := h
  unfold numBad at h1
  simp only [Bool.or_eq_false_iff] at h1
  cases hv : numP (hdB ws.tail.tail) with
  | none => rw [hv] at h1; simp at h1
  | some v =>
    cases hu : uintP (hdB ws.tail.tail.tail) with
    | none => rw [hu] at h2; simp at h2
    | some u => exact ⟨v, u, rfl, rfl⟩
theorem tick_ok {s : ByteArray} {v : Int} {u : Nat} {L : List S49} (hs : s.size ≤ 4096) (h4 : 4 ≤ (splW s).length) (hb : headBad (splW s) = false) (he : evsF (splW s).length (splW s).tail.tail.tail.tail = some L) (hv : ∀ x, numP (hdB (splW s).tail.tail) = some x → v = x) (hu : ∀ x, uintP (hdB (splW s).tail.tail.tail) = some x → u = x) :
    tickP s = (((hdB (splW s)).toList == mainsB.toList, (hdB (splW s).tail).toList == genB.toList, v, u, L), 0) := by
  obtain ⟨x, y, h1, h2⟩ := head_ok hb
  unfold tickP tickW
  rw [if_neg (by omega), if_neg (by omega), hb, if_neg (by simp), he, h1, h2, hv x h1, hu y h2]
  rfl
theorem evs_step {K : Option (List S49)} {k : Nat} {w : ByteArray} {ws : List ByteArray} {L : List S49} (h : K = (evsF (k + 1) (w :: ws)).map (L ++ ·)) : (evBad false (w :: ws) = true → K = none) ∧ (evBad false (w :: ws) = false → K = (evsF k (evRest (w :: ws))).map ((L ++ [evVal (w :: ws)]) ++ ·)) := by
  rw [h]
  refine ⟨fun hb => ?_, fun hb => ?_⟩
  · rw [evsF, if_pos hb]; rfl
  · rw [evsF, if_neg (by rw [hb]; simp), Option.map_map]
    congr 1
    funext x
    simp
theorem evs_nil {k : Nat} : evsF k [] = some [] := by cases k <;> rfl
theorem puint_lt {l : List UInt8} (v : Nat) (h : Lib.parseUintB 64 l = .ok v) : v < 18446744073709551616 := by
  have := Lib.parseUintB_le h
  omega
set_option maxHeartbeats 4000000 in
theorem parse_calls (s : ByteArray) (w : World) (hL : Lw w) : Calls Tryz.prog 11 #[.string s] w fun e w' => ∃ q : Gh, e = .returned (.tuple #[.agg #[.bool (tickP s).1.1, .bool (tickP s).1.2.1, .int .i64 (tickP s).1.2.2.1, .int .u64 (tickP s).1.2.2.2.1, .slice q.1 (tickP s).1.2.2.2.2.length q.2], .int .i64 (tickP s).2]) ∧ RowE w' q (tickP s).1.2.2.2.2 ∧ Below w.heap.size w w' := by
  have hL0 := hL
  refine enter (w0 := w) (hp := [old w]) (env := [(0, .string s)]) Tryz.func11 rfl 85 rfl (by simp) rfl (HeapOK.start _) ?_
  refine wc_seq ?_
  refine wc_region ?_
  refine wl_alloc rfl rfl rfl (by decide) Zr25 (fun b1 => ?_)
  refine wl_q (q_assign rfl rfl) rfl rfl (by decide) ?_
  refine wl_nil ?_
  refine fq_then ?_
  refine wc_seq ?_
  refine wc_seq ?_
  refine wc_region ?_
  refine wl_q (q_move rfl rfl) rfl rfl (by decide) ?_
  refine wl_q (q_lenS rfl rfl Tryz.underlying9) rfl rfl (by decide) ?_
  refine wl_q (q_bin rfl rfl rfl rfl) rfl rfl (by decide) ?_
  refine wl_nil ?_
  refine fq_then ?_
  refine wc_cond rfl (fun h11 => ?_) (fun h11 => ?_)
  · skip
    have q11 := h11
    try simp only [decide_eq_true_eq, decide_eq_false_iff_not, beq_iff_eq, beq_eq_false_iff_ne, bne_iff_ne, ne_eq, bne_eq_false_iff_eq, Int.not_lt, Int.not_le] at q11
    have hsz : 4096 < s.size := by simp at h11; omega
    refine wc_seq ?_
    skip
    refine wc_region ?_
    refine wl_q (q_build rfl rfl (built_of Zr25 Pl25 (by simp only [fillL, List.map_cons, List.map_nil, Value.cells, List.getElem?_cons_zero, List.getElem?_cons_succ, List.length_cons, List.length_nil, Nat.reduceAdd, Nat.reduceLeDiff, Nat.le_refl, and_self, and_true, true_and, if_true, Nat.zero_add, spl, List.take_succ_cons, List.take_zero, List.take_nil, List.drop_succ_cons, List.drop_zero, List.drop_nil, List.nil_append, List.cons_append, List.append_nil] <;> rfl))) rfl rfl (by decide) ?_
    refine wl_store (i := 0) rfl rfl rfl rfl rfl rfl Sz25 rfl rfl (by simp) (by simp [Value.oneCell', rdc]) (by first | (simp only [List.take_succ_cons, List.take_zero, List.take_nil, List.drop_succ_cons, List.drop_zero, List.drop_nil, List.nil_append, List.cons_append, List.append_nil, List.length_cons, List.length_nil, Nat.reduceAdd, Nat.zero_add]; rfl) | rfl) (by first | (simp only [List.set_cons_zero, List.set_cons_succ]; rfl) | rfl) ?_
    refine wl_q (q_assign rfl rfl) rfl rfl (by decide) ?_
    refine wl_nil ?_
    refine fq_then ?_
    refine wc_ret ?_
    refine fq_then_ret ?_
    refine fq_cell_tmp (i := 0) (.inl rfl) rfl rfl rfl rfl Mn25 Sz25 rfl (fun w1 H => ?_)
    have ht : tickP s = ((false, false, 0, 0, []), 13) := by unfold tickP; rw [if_pos (by omega)]
    exact ⟨(none, 0), by rw [ht]; rfl, by rw [ht]; exact rowE_nil _, (by first | exact hB.next (H.toBelow (by simp)) | exact H.toBelow (by simp))⟩
  · skip
    have q11 := h11
    try simp only [decide_eq_true_eq, decide_eq_false_iff_not, beq_iff_eq, beq_eq_false_iff_ne, bne_iff_ne, ne_eq, bne_eq_false_iff_eq, Int.not_lt, Int.not_le] at q11
    have hsz : s.size ≤ 4096 := by simp at h11; omega
    refine wc_skip ?_
    refine fq_then ?_
    refine wc_seq ?_
    refine wc_region ?_
    refine wl_q (q_move rfl rfl) rfl rfl (by decide) ?_
    refine wl_callK (ι := Nat) (fun i => .slice (some ⟨i, 0, none⟩) (splW s).length (splW s).length) (fun i w w' => StrsG i w' (some ⟨i, 0, none⟩) (splW s)) rfl rfl rfl (by decide) En23 rfl (fun w1 hw1 => (split_calls s spB w1 (hL.below (hw1.toBelow (by simp))) (by omega) (by decide)).mono (fun e w' ⟨i, h1, h2, h3⟩ => ⟨i, strsG_of h2, h1, h3⟩)) (fun gw wa_ w_2 _ Hn_ _ hC_ => ?_)
    have hx_ := Hn_.toBelow (by simp)
    have fb_b1 : Blk w_2 b1 _ _ := Hn_.get (i := 0) rfl
    have hnb_b1 := Hn_.apart_oldR (i := 0) (j := 1) rfl rfl (by decide)
    have hL := hL.below hx_
    have hB := hx_
    have hs_q0 := hC_
    have hwz : ∀ x ∈ splW s, x.size ≤ 4096 := fun x hx => Nat.le_trans (splW_le s x hx) (by omega)
    refine wl_q (q_build rfl rfl (built_of Zr65 Pl65 (by simp only [fillL, List.map_cons, List.map_nil, Value.cells, List.getElem?_cons_zero, List.getElem?_cons_succ, List.length_cons, List.length_nil, Nat.reduceAdd, Nat.reduceLeDiff, Nat.le_refl, and_self, and_true, true_and, if_true, Nat.zero_add, spl, List.take_succ_cons, List.take_zero, List.take_nil, List.drop_succ_cons, List.drop_zero, List.drop_nil, List.nil_append, List.cons_append, List.append_nil] <;> rfl))) rfl rfl (by decide) ?_
    refine wl_box rfl rfl rfl (by decide) rfl rfl (fun b3 => ?_)
    refine wl_q (q_assign rfl rfl) rfl rfl (by decide) ?_
    refine wl_nil ?_
    refine fq_then ?_
    refine wc_seq ?_
    refine wc_seq ?_
    skip
    refine wc_region ?_
    refine wl_q (q_move rfl rfl) rfl rfl (by decide) ?_
    refine wl_q (q_nilCheck rfl rfl) rfl rfl (by decide) ?_
    refine wl_q (q_fa (o1 := 0) rfl rfl Fo65_0 rfl) rfl rfl (by decide) ?_
    refine wl_q (q_load rfl rfl Mn54 (reads1 (i := 0) rfl rfl)) rfl rfl (by decide) ?_
    refine wl_q (q_len rfl rfl Tryz.underlying54) rfl rfl (by decide) ?_
    refine wl_q (q_bin rfl rfl rfl rfl) rfl rfl (by decide) ?_
    refine wl_nil ?_
    refine fq_then ?_
    refine wc_cond rfl (fun h22 => ?_) (fun h22 => ?_)
    · skip
      have q22 := h22
      try simp only [decide_eq_true_eq, decide_eq_false_iff_not, beq_iff_eq, beq_eq_false_iff_ne, bne_iff_ne, ne_eq, bne_eq_false_iff_eq, Int.not_lt, Int.not_le] at q22
      refine wc_seq ?_
      skip
      refine wc_region ?_
      refine wl_q (q_build rfl rfl (built_of Zr25 Pl25 (by simp only [fillL, List.map_cons, List.map_nil, Value.cells, List.getElem?_cons_zero, List.getElem?_cons_succ, List.length_cons, List.length_nil, Nat.reduceAdd, Nat.reduceLeDiff, Nat.le_refl, and_self, and_true, true_and, if_true, Nat.zero_add, spl, List.take_succ_cons, List.take_zero, List.take_nil, List.drop_succ_cons, List.drop_zero, List.drop_nil, List.nil_append, List.cons_append, List.append_nil] <;> rfl))) rfl rfl (by decide) ?_
      refine wl_ground (fun w_4 Hn_ => ?_)
      have hx_ := Hn_.toBelow (by simp)
      have fb_b3 : Blk w_4 b3 _ _ := Hn_.get (i := 0) rfl
      have hne_b1_b3 := Nat.ne_of_lt (Nat.lt_of_lt_of_le fb_b1.lt (Hn_.apart_oldR (i := 0) (j := 1) rfl rfl (by decide)))
      have hnb_b3 := Nat.le_trans hB.size (Hn_.apart_oldR (i := 0) (j := 1) rfl rfl (by decide))
      have hL := hL.below hx_
      have fb_b1 := fb_b1.below hx_
      have hs_q0 := hs_q0.below hx_
      have hB := hB.next hx_
      refine wl_storeK fb_b1 rfl rfl rfl rfl rfl Sz25 rfl rfl (by first | (simp; done) | (simp [Value.oneCell', rdc]; done)) (by simp [Value.oneCell', rdc]) (by first | rfl | (simp only [List.take_succ_cons, List.take_zero, List.take_nil, List.drop_succ_cons, List.drop_zero, List.drop_nil, List.nil_append, List.cons_append, List.append_nil, List.length_cons, List.length_nil, Nat.reduceAdd, Nat.zero_add]; rfl)) (fun wa_5 w_6 Hn_ hu_ => ?_)
      have hx_ := Hn_.toBelow (by simp)
      have hL := hL.below hx_
      have fb_b1 := fb_b1.below hx_
      have hs_q0 := hs_q0.below hx_
      have fb_b3 := fb_b3.below hx_
      have hB := hB.next hx_
      have hs_ := hB.size
      have hB := hB.trans (hu_.below hnb_b1 hs_)
      have hL := Lw.updN hL0 hL hu_ hnb_b1
      have fb_b1 := hu_.now
      have hs_q0 := hs_q0.updI hu_ (by intro k x; rcases k with _ | _ | _ | _ | _ | k <;> simp [rdc])
      have fb_b3 := hu_.blkN fb_b3 (Ne.symm hne_b1_b3)
      refine wl_q (q_assign rfl rfl) rfl rfl (by decide) ?_
      refine wl_nil ?_
      refine fq_then ?_
      refine wc_ret ?_
      refine fq_then_ret ?_
      refine fq_cell_tmpK (.inl rfl) rfl rfl rfl (by simp) fb_b1 Mn25 Sz25 rfl (fun w1 H => ?_)
      have ht := tick_form hsz (tick_few (by simp at h22; omega))
      exact ⟨(none, 0), by rw [ht]; rfl, by rw [ht]; exact rowE_nil _, (by first | exact hB.next (H.toBelow (by simp)) | exact H.toBelow (by simp))⟩
    · skip
      have q22 := h22
      try simp only [decide_eq_true_eq, decide_eq_false_iff_not, beq_iff_eq, beq_eq_false_iff_ne, bne_iff_ne, ne_eq, bne_eq_false_iff_eq, Int.not_lt, Int.not_le] at q22
      have h4 : 4 ≤ (splW s).length := by simp at h22; omega
      refine wc_skip ?_
      refine fq_then ?_
      refine wc_seq ?_
      refine wc_region ?_
      refine wl_q (q_move rfl rfl) rfl rfl (by decide) ?_
      refine wl_ground (fun w_9 Hn_ => ?_)
      have hx_ := Hn_.toBelow (by simp)
      have fb_b3 : Blk w_9 b3 _ _ := Hn_.get (i := 0) rfl
      have hne_b1_b3 := Nat.ne_of_lt (Nat.lt_of_lt_of_le fb_b1.lt (Hn_.apart_oldR (i := 0) (j := 1) rfl rfl (by decide)))
      have hnb_b3 := Nat.le_trans hB.size (Hn_.apart_oldR (i := 0) (j := 1) rfl rfl (by decide))
      have hL := hL.below hx_
      have fb_b1 := fb_b1.below hx_
      have hs_q0 := hs_q0.below hx_
      have hB := hB.next hx_
      refine wl_callU (ι := Gh) (fun i => .bool ((hdB (splW s)).toList == mainsB.toList)) (fun i => rdc i (splW s).tail.length (isBad false (splW s) mainsB)) (fun i w w' => StrsG gw w' i.1 (splW s).tail ∧ (splW s).tail.length ≤ i.2) fb_b3 rfl rfl rfl (by decide) En24 rfl (fun w1 hw1 => (is_calls b3 ((some ⟨gw, 0, none⟩, (splW s).length) : Gh) (splW s) false mainsB w1 (fb_b3.below (hw1.toBelow (by simp))) (hs_q0.below (hw1.toBelow (by simp))) (Nat.le_refl _)).mono (fun e w' ⟨i, h1, h2, h3⟩ => ⟨i, h2, h1, h3⟩)) (fun q1 wa_7 w_8 Hn_ hu_ hC_ => ?_)
      have hx_ := Hn_.toBelow (by simp)
      have hL := hL.below hx_
      have fb_b1 := fb_b1.below hx_
      have hs_q0 := hs_q0.below hx_
      have fb_b3 := fb_b3.below hx_
      have hB := hB.next hx_
      have hs_ := hB.size
      have hB := hB.trans (hu_.below hnb_b3 hs_)
      have hL := Lw.updN hL0 hL hu_ hnb_b3
      have fb_b1 := hu_.blkN fb_b1 hne_b1_b3
      have hs_q0 := hs_q0.updI hu_ (by intro k x; rcases k with _ | _ | _ | _ | _ | k <;> simp [rdc])
      have fb_b3 := hu_.now
      obtain ⟨hs_q1, hc_q1⟩ := hC_
      refine wl_q (q_build rfl rfl (built_of Zr25 Pl25 (by simp only [fillL, List.map_cons, List.map_nil, Value.cells, List.getElem?_cons_zero, List.getElem?_cons_succ, List.length_cons, List.length_nil, Nat.reduceAdd, Nat.reduceLeDiff, Nat.le_refl, and_self, and_true, true_and, if_true, Nat.zero_add, spl, List.take_succ_cons, List.take_zero, List.take_nil, List.drop_succ_cons, List.drop_zero, List.drop_nil, List.nil_append, List.cons_append, List.append_nil] <;> rfl))) rfl rfl (by decide) ?_
      refine wl_alloc rfl rfl rfl (by decide) Zr25 (fun b10 => ?_)
      refine wl_store (i := 0) rfl rfl rfl rfl rfl rfl Sz25 rfl rfl (by simp) (by simp [Value.oneCell', rdc]) (by first | (simp only [List.take_succ_cons, List.take_zero, List.take_nil, List.drop_succ_cons, List.drop_zero, List.drop_nil, List.nil_append, List.cons_append, List.append_nil, List.length_cons, List.length_nil, Nat.reduceAdd, Nat.zero_add]; rfl) | rfl) (by first | (simp only [List.set_cons_zero, List.set_cons_succ]; rfl) | rfl) ?_
      refine wl_nil ?_
      refine fq_then ?_
      refine wc_seq ?_
      refine wc_region ?_
      refine wl_q (q_move rfl rfl) rfl rfl (by decide) ?_
      refine wl_ground (fun w_13 Hn_ => ?_)
      have hx_ := Hn_.toBelow (by simp)
      have fb_b10 : Blk w_13 b10 _ _ := Hn_.get (i := 0) rfl
      have hne_b1_b10 := Nat.ne_of_lt (Nat.lt_of_lt_of_le fb_b1.lt (Hn_.apart_oldR (i := 0) (j := 1) rfl rfl (by decide)))
      have hne_b3_b10 := Nat.ne_of_lt (Nat.lt_of_lt_of_le fb_b3.lt (Hn_.apart_oldR (i := 0) (j := 1) rfl rfl (by decide)))
      have hnb_b10 := Nat.le_trans hB.size (Hn_.apart_oldR (i := 0) (j := 1) rfl rfl (by decide))
      have hL := hL.below hx_
      have fb_b1 := fb_b1.below hx_
      have hs_q0 := hs_q0.below hx_
      have fb_b3 := fb_b3.below hx_
      have hs_q1 := hs_q1.below hx_
      have hB := hB.next hx_
      refine wl_callU (ι := Gh) (fun i => .bool ((hdB (splW s).tail).toList == genB.toList)) (fun i => rdc i (splW s).tail.tail.length (isBad (isBad false (splW s) mainsB) (splW s).tail genB)) (fun i w w' => StrsG gw w' i.1 (splW s).tail.tail ∧ (splW s).tail.tail.length ≤ i.2) fb_b3 rfl rfl rfl (by decide) En24 rfl (fun w1 hw1 => (is_calls b3 q1 (splW s).tail (isBad false (splW s) mainsB) genB w1 (fb_b3.below (hw1.toBelow (by simp))) (hs_q1.below (hw1.toBelow (by simp))) hc_q1).mono (fun e w' ⟨i, h1, h2, h3⟩ => ⟨i, h2, h1, h3⟩)) (fun q2 wa_11 w_12 Hn_ hu_ hC_ => ?_)
      have hx_ := Hn_.toBelow (by simp)
      have hL := hL.below hx_
      have fb_b1 := fb_b1.below hx_
      have hs_q0 := hs_q0.below hx_
      have fb_b3 := fb_b3.below hx_
      have hs_q1 := hs_q1.below hx_
      have fb_b10 := fb_b10.below hx_
      have hB := hB.next hx_
      have hs_ := hB.size
      have hB := hB.trans (hu_.below hnb_b3 hs_)
      have hL := Lw.updN hL0 hL hu_ hnb_b3
      have fb_b1 := hu_.blkN fb_b1 hne_b1_b3
      have hs_q0 := hs_q0.updI hu_ (by intro k x; rcases k with _ | _ | _ | _ | _ | k <;> simp [rdc])
      have fb_b3 := hu_.now
      have hs_q1 := hs_q1.updI hu_ (by intro k x; rcases k with _ | _ | _ | _ | _ | k <;> simp [rdc])
      have fb_b10 := hu_.blkN fb_b10 (Ne.symm hne_b3_b10)
      obtain ⟨hs_q2, hc_q2⟩ := hC_
      refine wl_q (q_fa (o1 := 1) rfl rfl Fo25_1 rfl) rfl rfl (by decide) ?_
      refine wl_storeK fb_b10 rfl rfl rfl rfl rfl Sz4 rfl rfl (by first | (simp; done) | (simp [Value.oneCell', rdc]; done)) (by simp [Value.oneCell', rdc]) (by first | rfl | (simp only [List.take_succ_cons, List.take_zero, List.take_nil, List.drop_succ_cons, List.drop_zero, List.drop_nil, List.nil_append, List.cons_append, List.append_nil, List.length_cons, List.length_nil, Nat.reduceAdd, Nat.zero_add]; rfl)) (fun wa_14 w_15 Hn_ hu_ => ?_)
      have hx_ := Hn_.toBelow (by simp)
      have hL := hL.below hx_
      have fb_b1 := fb_b1.below hx_
      have hs_q0 := hs_q0.below hx_
      have fb_b3 := fb_b3.below hx_
      have hs_q1 := hs_q1.below hx_
      have fb_b10 := fb_b10.below hx_
      have hs_q2 := hs_q2.below hx_
      have hB := hB.next hx_
      have hs_ := hB.size
      have hB := hB.trans (hu_.below hnb_b10 hs_)
      have hL := Lw.updN hL0 hL hu_ hnb_b10
      have fb_b1 := hu_.blkN fb_b1 hne_b1_b10
      have hs_q0 := hs_q0.updI hu_ (by intro k x; rcases k with _ | _ | _ | _ | _ | k <;> simp [rdc])
      have fb_b3 := hu_.blkN fb_b3 hne_b3_b10
      have hs_q1 := hs_q1.updI hu_ (by intro k x; rcases k with _ | _ | _ | _ | _ | k <;> simp [rdc])
      have fb_b10 := hu_.now
      have hs_q2 := hs_q2.updI hu_ (by intro k x; rcases k with _ | _ | _ | _ | _ | k <;> simp [rdc])
      refine wl_nil ?_
      refine fq_then ?_
      refine wc_seq ?_
      refine wc_region ?_
      refine wl_q (q_move rfl rfl) rfl rfl (by decide) ?_
      refine wl_callU (ι := (Gh × Int)) (fun i => .int .i64 i.2) (fun i => rdc i.1 (splW s).tail.tail.tail.length (numBad (isBad (isBad false (splW s) mainsB) (splW s).tail genB) (splW s).tail.tail)) (fun i w w' => (StrsG gw w' i.1.1 (splW s).tail.tail.tail ∧ (splW s).tail.tail.tail.length ≤ i.1.2) ∧ i64r i.2 ∧ ∀ v, numP (hdB (splW s).tail.tail) = some v → i.2 = v) fb_b3 rfl rfl rfl (by decide) En25 rfl (fun w1 hw1 => (num_calls b3 q2 (splW s).tail.tail (isBad (isBad false (splW s) mainsB) (splW s).tail genB) w1 (hL.below (hw1.toBelow (by simp))) (fb_b3.below (hw1.toBelow (by simp))) (hs_q2.below (hw1.toBelow (by simp))) hc_q2 (hd_sz (fun x hx => Nat.le_trans (hwz x (List.mem_of_mem_tail (List.mem_of_mem_tail hx))) (by decide)))).mono (fun e w' ⟨i, h1, h2, h3⟩ => ⟨i, h2, h1, h3⟩)) (fun ⟨q3, v_q3⟩ wa_16 w_17 Hn_ hu_ hC_ => ?_)
      have hx_ := Hn_.toBelow (by simp)
      have hL := hL.below hx_
      have fb_b1 := fb_b1.below hx_
      have hs_q0 := hs_q0.below hx_
      have fb_b3 := fb_b3.below hx_
      have hs_q1 := hs_q1.below hx_
      have fb_b10 := fb_b10.below hx_
      have hs_q2 := hs_q2.below hx_
      have hB := hB.next hx_
      have hs_ := hB.size
      have hB := hB.trans (hu_.below hnb_b3 hs_)
      have hL := Lw.updN hL0 hL hu_ hnb_b3
      have fb_b1 := hu_.blkN fb_b1 hne_b1_b3
      have hs_q0 := hs_q0.updI hu_ (by intro k x; rcases k with _ | _ | _ | _ | _ | k <;> simp [rdc])
      have fb_b3 := hu_.now
      have hs_q1 := hs_q1.updI hu_ (by intro k x; rcases k with _ | _ | _ | _ | _ | k <;> simp [rdc])
      have fb_b10 := hu_.blkN fb_b10 (Ne.symm hne_b3_b10)
      have hs_q2 := hs_q2.updI hu_ (by intro k x; rcases k with _ | _ | _ | _ | _ | k <;> simp [rdc])
      obtain ⟨⟨hs_q3, hc_q3⟩, hr_q3, hv_q3⟩ := hC_
      refine wl_q (q_fa (o1 := 2) rfl rfl Fo25_2 rfl) rfl rfl (by decide) ?_
      refine wl_storeK fb_b10 rfl rfl rfl rfl rfl Sz3 rfl rfl (by first | (simp; done) | (simp [Value.oneCell', rdc]; done)) (by simp [Value.oneCell', rdc]) (by first | rfl | (simp only [List.take_succ_cons, List.take_zero, List.take_nil, List.drop_succ_cons, List.drop_zero, List.drop_nil, List.nil_append, List.cons_append, List.append_nil, List.length_cons, List.length_nil, Nat.reduceAdd, Nat.zero_add]; rfl)) (fun wa_18 w_19 Hn_ hu_ => ?_)
      have hx_ := Hn_.toBelow (by simp)
      have hL := hL.below hx_
      have fb_b1 := fb_b1.below hx_
      have hs_q0 := hs_q0.below hx_
      have fb_b3 := fb_b3.below hx_
      have hs_q1 := hs_q1.below hx_
      have fb_b10 := fb_b10.below hx_
      have hs_q2 := hs_q2.below hx_
      have hs_q3 := hs_q3.below hx_
      have hB := hB.next hx_
      have hs_ := hB.size
      have hB := hB.trans (hu_.below hnb_b10 hs_)
      have hL := Lw.updN hL0 hL hu_ hnb_b10
      have fb_b1 := hu_.blkN fb_b1 hne_b1_b10
      have hs_q0 := hs_q0.updI hu_ (by intro k x; rcases k with _ | _ | _ | _ | _ | k <;> simp [rdc])
      have fb_b3 := hu_.blkN fb_b3 hne_b3_b10
      have hs_q1 := hs_q1.updI hu_ (by intro k x; rcases k with _ | _ | _ | _ | _ | k <;> simp [rdc])
      have fb_b10 := hu_.now
      have hs_q2 := hs_q2.updI hu_ (by intro k x; rcases k with _ | _ | _ | _ | _ | k <;> simp [rdc])
      have hs_q3 := hs_q3.updI hu_ (by intro k x; rcases k with _ | _ | _ | _ | _ | k <;> simp [rdc])
      refine wl_nil ?_
      refine fq_then ?_
      refine wc_seq ?_
      refine wc_region ?_
      refine wl_q (q_move rfl rfl) rfl rfl (by decide) ?_
      refine wl_callU (ι := Gh) (fun i => .string (hdB (splW s).tail.tail.tail)) (fun i => rdc i (splW s).tail.tail.tail.tail.length ((numBad (isBad (isBad false (splW s) mainsB) (splW s).tail genB) (splW s).tail.tail) || (splW s).tail.tail.tail.isEmpty)) (fun i w w' => StrsG gw w' i.1 (splW s).tail.tail.tail.tail ∧ (splW s).tail.tail.tail.tail.length ≤ i.2) fb_b3 rfl rfl rfl (by decide) En26 rfl (fun w1 hw1 => (next_calls b3 q3 (splW s).tail.tail.tail (numBad (isBad (isBad false (splW s) mainsB) (splW s).tail genB) (splW s).tail.tail) w1 (fb_b3.below (hw1.toBelow (by simp))) (hs_q3.below (hw1.toBelow (by simp))) hc_q3).mono (fun e w' ⟨i, h1, h2, h3⟩ => ⟨i, h2, h1, h3⟩)) (fun q4 wa_20 w_21 Hn_ hu_ hC_ => ?_)
      have hx_ := Hn_.toBelow (by simp)
      have hL := hL.below hx_
      have fb_b1 := fb_b1.below hx_
      have hs_q0 := hs_q0.below hx_
      have fb_b3 := fb_b3.below hx_
      have hs_q1 := hs_q1.below hx_
      have fb_b10 := fb_b10.below hx_
      have hs_q2 := hs_q2.below hx_
      have hs_q3 := hs_q3.below hx_
      have hB := hB.next hx_
      have hs_ := hB.size
      have hB := hB.trans (hu_.below hnb_b3 hs_)
      have hL := Lw.updN hL0 hL hu_ hnb_b3
      have fb_b1 := hu_.blkN fb_b1 hne_b1_b3
      have hs_q0 := hs_q0.updI hu_ (by intro k x; rcases k with _ | _ | _ | _ | _ | k <;> simp [rdc])
      have fb_b3 := hu_.now
      have hs_q1 := hs_q1.updI hu_ (by intro k x; rcases k with _ | _ | _ | _ | _ | k <;> simp [rdc])
      have fb_b10 := hu_.blkN fb_b10 (Ne.symm hne_b3_b10)
      have hs_q2 := hs_q2.updI hu_ (by intro k x; rcases k with _ | _ | _ | _ | _ | k <;> simp [rdc])
      have hs_q3 := hs_q3.updI hu_ (by intro k x; rcases k with _ | _ | _ | _ | _ | k <;> simp [rdc])
      obtain ⟨hs_q4, hc_q4⟩ := hC_
      refine wl_q (q_assign rfl rfl) rfl rfl (by decide) ?_
      refine wl_nil ?_
      refine fq_then ?_
      refine wc_seq ?_
      refine wc_region ?_
      refine wl_q (q_move rfl rfl) rfl rfl (by decide) ?_
      refine wl_callK (ι := (Nat × Value)) (fun i => .tuple #[.int .u64 i.1, i.2]) (fun i w w' => PuintC (hdB (splW s).tail.tail.tail) i.1 i.2) rfl rfl rfl (by decide) En27 rfl (fun w1 hw1 => (puint_calls (hdB (splW s).tail.tail.tail) (hd_sz (fun x hx => Nat.le_trans (hwz x (List.mem_of_mem_tail (List.mem_of_mem_tail (List.mem_of_mem_tail hx)))) (by decide))) w1 (hL.below (hw1.toBelow (by simp))) puint_lt).mono (fun e w' ⟨i, h1, h2, h3⟩ => ⟨i, h2, h1, h3⟩)) (fun ⟨u, ev⟩ wa_ w_22 _ Hn_ _ hC_ => ?_)
      have hx_ := Hn_.toBelow (by simp)
      have hL := hL.below hx_
      have fb_b1 := fb_b1.below hx_
      have hs_q0 := hs_q0.below hx_
      have fb_b3 := fb_b3.below hx_
      have hs_q1 := hs_q1.below hx_
      have fb_b10 := fb_b10.below hx_
      have hs_q2 := hs_q2.below hx_
      have hs_q3 := hs_q3.below hx_
      have hs_q4 := hs_q4.below hx_
      have hB := hB.next hx_
      have hPu : PuintC (hdB (splW s).tail.tail.tail) u ev := hC_
      refine wl_q (q_move rfl rfl) rfl rfl (by decide) ?_
      refine wl_q (q_extract rfl rfl rfl) rfl rfl (by decide) ?_
      refine wl_q (q_extract rfl rfl rfl) rfl rfl (by decide) ?_
      refine wl_q (q_assign rfl rfl) rfl rfl (by decide) ?_
      refine wl_q (q_assign rfl rfl) rfl rfl (by decide) ?_
      refine wl_nil ?_
      refine fq_then ?_
      refine wc_seq ?_
      refine wc_region ?_
      refine wl_q (q_move rfl rfl) rfl rfl (by decide) ?_
      refine wl_q (q_move rfl rfl) rfl rfl (by decide) ?_
      refine wl_q (q_nilCheck rfl rfl) rfl rfl (by decide) ?_
      refine wl_q (q_fa (o1 := 1) rfl rfl Fo65_1 rfl) rfl rfl (by decide) ?_
      refine wl_q (q_load rfl rfl Mn4 (reads_blk (by simp) fb_b3 rfl)) rfl rfl (by decide) ?_
      refine wl_q (q_move rfl rfl) rfl rfl (by decide) ?_
      refine wl_split (t := 45) rfl (fun h45 => ?_) (fun h45 => ?_)
      · skip
        have q45 := h45
        try simp only [decide_eq_true_eq, decide_eq_false_iff_not, beq_iff_eq, beq_eq_false_iff_ne, bne_iff_ne, ne_eq, bne_eq_false_iff_eq, Int.not_lt, Int.not_le] at q45
        refine wl_skip (b := true) rfl rfl rfl rfl (by decide) ?_
        refine wl_skip (b := true) rfl rfl rfl rfl (by decide) ?_
        refine wl_q (q_pick rfl rfl rfl) rfl rfl (by decide) ?_
        refine wl_q (q_move rfl rfl) rfl rfl (by decide) ?_
        refine wl_skip (b := true) rfl rfl rfl rfl (by decide) ?_
        refine wl_skip (b := true) rfl rfl rfl rfl (by decide) ?_
        refine wl_skip (b := true) rfl rfl rfl rfl (by decide) ?_
        refine wl_skip (b := true) rfl rfl rfl rfl (by decide) ?_
        refine wl_q (q_pick rfl rfl rfl) rfl rfl (by decide) ?_
        refine wl_q (q_nilCheck rfl rfl) rfl rfl (by decide) ?_
        refine wl_q (q_fa (o1 := 1) rfl rfl Fo65_1 rfl) rfl rfl (by decide) ?_
        refine wl_storeK fb_b3 rfl rfl rfl rfl rfl Sz4 rfl rfl (by first | (simp; done) | (simp [Value.oneCell', rdc]; done)) (by simp [Value.oneCell', rdc]) (by first | rfl | (simp only [List.take_succ_cons, List.take_zero, List.take_nil, List.drop_succ_cons, List.drop_zero, List.drop_nil, List.nil_append, List.cons_append, List.append_nil, List.length_cons, List.length_nil, Nat.reduceAdd, Nat.zero_add]; rfl)) (fun wa_23 w_24 Hn_ hu_ => ?_)
        have hx_ := Hn_.toBelow (by simp)
        have hL := hL.below hx_
        have fb_b1 := fb_b1.below hx_
        have hs_q0 := hs_q0.below hx_
        have fb_b3 := fb_b3.below hx_
        have hs_q1 := hs_q1.below hx_
        have fb_b10 := fb_b10.below hx_
        have hs_q2 := hs_q2.below hx_
        have hs_q3 := hs_q3.below hx_
        have hs_q4 := hs_q4.below hx_
        have hB := hB.next hx_
        have hs_ := hB.size
        have hB := hB.trans (hu_.below hnb_b3 hs_)
        have hL := Lw.updN hL0 hL hu_ hnb_b3
        have fb_b1 := hu_.blkN fb_b1 hne_b1_b3
        have hs_q0 := hs_q0.updI hu_ (by intro k x; rcases k with _ | _ | _ | _ | _ | k <;> simp [rdc])
        have fb_b3 := hu_.now
        have hs_q1 := hs_q1.updI hu_ (by intro k x; rcases k with _ | _ | _ | _ | _ | k <;> simp [rdc])
        have fb_b10 := hu_.blkN fb_b10 (Ne.symm hne_b3_b10)
        have hs_q2 := hs_q2.updI hu_ (by intro k x; rcases k with _ | _ | _ | _ | _ | k <;> simp [rdc])
        have hs_q3 := hs_q3.updI hu_ (by intro k x; rcases k with _ | _ | _ | _ | _ | k <;> simp [rdc])
        have hs_q4 := hs_q4.updI hu_ (by intro k x; rcases k with _ | _ | _ | _ | _ | k <;> simp [rdc])
        refine wl_nil ?_
        refine fq_then ?_
        refine wc_seq ?_
        have fb_b3 : Blk w_24 b3 (rdc q4 (splW s).tail.tail.tail.tail.length (headBad (splW s))) 65 := by
          first | (simp only [headBad, h45, Bool.true_or]; exact fb_b3) | (simp only [headBad, h45, hPu.bad h49, Option.isNone_none, Bool.or_true]; exact fb_b3) | (simp only [headBad, h45, hPu.none h49, Bool.false_or]; exact fb_b3)
        refine wc_region ?_
        refine wl_q (q_move rfl rfl) rfl rfl (by decide) ?_
        refine wl_q (q_fa (o1 := 3) rfl rfl Fo25_3 rfl) rfl rfl (by decide) ?_
        refine wl_storeK fb_b10 rfl rfl rfl rfl rfl Sz22 rfl rfl (by first | (simp; done) | (simp [Value.oneCell', rdc]; done)) (by simp [Value.oneCell', rdc]) (by first | rfl | (simp only [List.take_succ_cons, List.take_zero, List.take_nil, List.drop_succ_cons, List.drop_zero, List.drop_nil, List.nil_append, List.cons_append, List.append_nil, List.length_cons, List.length_nil, Nat.reduceAdd, Nat.zero_add]; rfl)) (fun wa_25 w_26 Hn_ hu_ => ?_)
        have hx_ := Hn_.toBelow (by simp)
        have hL := hL.below hx_
        have fb_b1 := fb_b1.below hx_
        have hs_q0 := hs_q0.below hx_
        have fb_b3 := fb_b3.below hx_
        have hs_q1 := hs_q1.below hx_
        have fb_b10 := fb_b10.below hx_
        have hs_q2 := hs_q2.below hx_
        have hs_q3 := hs_q3.below hx_
        have hs_q4 := hs_q4.below hx_
        have hB := hB.next hx_
        have hs_ := hB.size
        have hB := hB.trans (hu_.below hnb_b10 hs_)
        have hL := Lw.updN hL0 hL hu_ hnb_b10
        have fb_b1 := hu_.blkN fb_b1 hne_b1_b10
        have hs_q0 := hs_q0.updI hu_ (by intro k x; rcases k with _ | _ | _ | _ | _ | k <;> simp [rdc])
        have fb_b3 := hu_.blkN fb_b3 hne_b3_b10
        have hs_q1 := hs_q1.updI hu_ (by intro k x; rcases k with _ | _ | _ | _ | _ | k <;> simp [rdc])
        have fb_b10 := hu_.now
        have hs_q2 := hs_q2.updI hu_ (by intro k x; rcases k with _ | _ | _ | _ | _ | k <;> simp [rdc])
        have hs_q3 := hs_q3.updI hu_ (by intro k x; rcases k with _ | _ | _ | _ | _ | k <;> simp [rdc])
        have hs_q4 := hs_q4.updI hu_ (by intro k x; rcases k with _ | _ | _ | _ | _ | k <;> simp [rdc])
        refine wl_nil ?_
        refine fq_then ?_
        refine wc_seq ?_
        refine wc_block ?_
        refine wc_ground (fun wF Hn_ => ?_)
        have hx_ := Hn_.toBelow (by simp)
        have hL := hL.below hx_
        have fb_b1 := fb_b1.below hx_
        have hs_q0 := hs_q0.below hx_
        have fb_b3 := fb_b3.below hx_
        have hs_q1 := hs_q1.below hx_
        have fb_b10 := fb_b10.below hx_
        have hs_q2 := hs_q2.below hx_
        have hs_q3 := hs_q3.below hx_
        have hs_q4 := hs_q4.below hx_
        have hB := hB.next hx_
        obtain ⟨o_, x_, hgc⟩ : ∃ o x, wF.cell? ⟨gw, o, none⟩ = some (.string x) := by
          obtain ⟨o, _, hc⟩ := hs_q0 (by intro h; rw [h] at h4; simp at h4)
          have hl0 : 0 < (splW s).length := by omega
          exact ⟨o + 0, _, hc 0 _ (List.getElem?_eq_getElem hl0)⟩
        have hg_b1 : gw ≠ b1 := blk_ne hgc fb_b1 (by intro k; rcases k with _ | _ | _ | _ | _ | k <;> simp [rdc])
        have hg_b10 : gw ≠ b10 := blk_ne hgc fb_b10 (by intro k; rcases k with _ | _ | _ | _ | _ | k <;> simp [rdc])
        have hg_b3 : gw ≠ b3 := blk_ne hgc fb_b3 (by intro k; rcases k with _ | _ | _ | _ | _ | k <;> simp [rdc])
        have hgl : gw < wF.heap.size := block_lt_of_cell hgc
        have hszF := hB.size
        have hnK := count_len s
        refine wc_thaw 0 rfl (show b1 < wF.heap.size from fb_b1.lt) fb_b1 ?_
        refine wc_thaw 1 rfl (show b10 < wF.heap.size ∧ b10 ≠ b1 from ⟨fb_b10.lt, (Ne.symm hne_b1_b10)⟩) fb_b10 ?_
        refine wc_own (E := 49) (sz := 3) ?_
        refine wc_thaw 3 rfl (show (b3 < wF.heap.size ∧ b3 ≠ b1) ∧ b3 ≠ b10 from ⟨⟨fb_b3.lt, (Ne.symm hne_b1_b3)⟩, hne_b3_b10⟩) fb_b3 ?_
        have hF0 : ∀ k, k < w.heap.size → ((k < wF.heap.size ∧ k ≠ b1) ∧ k ≠ b10) ∧ k ≠ b3 := fun k hk => ⟨⟨⟨by omega, by omega⟩, by omega⟩, by omega⟩
        have hFg : ((gw < wF.heap.size ∧ gw ≠ b1) ∧ gw ≠ b10) ∧ gw ≠ b3 := ⟨⟨⟨hgl, hg_b1⟩, hg_b10⟩, hg_b3⟩
        refine wc_loop (ι := (Nat × Nat × List S49 × List ByteArray × Bool × Gh × Gh)) (fun ⟨n, k, L, ws, bad, q, qe⟩ => [(2, .pointer (some ⟨b1, 0, none⟩)), (3, .int .i64 0), (4, .pointer (some ⟨b3, 0, none⟩)), (5, .pointer (some ⟨b10, 0, none⟩))]) (fun ⟨n, k, L, ws, bad, q, qe⟩ => [.blk b3 (rdc q ws.length bad) 65, .own 0 49 3 (.slice qe.1 n qe.2) n (L.flatMap c49), .blk b10 [.bool ((hdB (splW s)).toList == mainsB.toList), .bool ((hdB (splW s).tail).toList == genB.toList), .int .i64 v_q3, .int .u64 u, .slice qe.1 n qe.2] 25, .blk b1 [.bool false, .bool false, .int .i64 0, .int .u64 0, .slice none 0 0] 25, .ro (fun k => ((k < wF.heap.size ∧ k ≠ b1) ∧ k ≠ b10) ∧ k ≠ b3) wF]) (fun ⟨n, k, L, ws, bad, q, qe⟩ => n = L.length ∧ n + k ≤ 5000 ∧ ws.length ≤ k ∧ StrsG gw wF q.1 ws ∧ ws.length ≤ q.2 ∧ (∀ x ∈ ws, x.size ≤ 4096) ∧ (bad = false → headBad (splW s) = false ∧ evsF (splW s).length (splW s).tail.tail.tail.tail = (evsF k ws).map (L ++ ·)) ∧ (bad = true → headBad (splW s) = true ∨ evsF (splW s).length (splW s).tail.tail.tail.tail = none)) (fun ⟨n, k, L, ws, bad, q, qe⟩ => ws.length) (0, (splW s).length, [], (splW s).tail.tail.tail.tail, headBad (splW s), q4, (none, 0)) ⟨rfl, by omega, by simp only [List.length_tail]; omega, hs_q4, hc_q4, fun x hx => hwz x (List.mem_of_mem_tail (List.mem_of_mem_tail (List.mem_of_mem_tail (List.mem_of_mem_tail hx)))), fun h => ⟨h, by simp⟩, fun h => .inl h⟩ ⟨List.forall_mem_cons.2 ⟨rfl, List.forall_mem_cons.2 ⟨rfl, List.forall_mem_cons.2 ⟨rfl, List.forall_mem_cons.2 ⟨rfl, fun _ h => (by cases h)⟩⟩⟩⟩, List.Sublist.refl _⟩ ?_
        rintro ⟨n, k, L, ws, bad, q, qe⟩ ⟨hnL, hnk, hwk, hsq, hcq, hwsz, hbf, hbt⟩
        dsimp only at hnL hnk hwk hsq hcq hwsz hbf hbt ⊢
        refine wc_seq ?_
        refine wc_seq ?_
        refine wc_region ?_
        refine wl_q (q_move rfl rfl) rfl rfl (by decide) ?_
        refine wl_q (q_nilCheck rfl rfl) rfl rfl (by decide) ?_
        refine wl_q (q_fa (o1 := 0) rfl rfl Fo65_0 rfl) rfl rfl (by decide) ?_
        refine wl_q (q_load rfl rfl Mn54 (reads1 (i := 0) rfl rfl)) rfl rfl (by decide) ?_
        refine wl_q (q_len rfl rfl Tryz.underlying54) rfl rfl (by decide) ?_
        refine wl_q (q_bin rfl rfl rfl rfl) rfl rfl (by decide) ?_
        refine wl_q (q_move rfl rfl) rfl rfl (by decide) ?_
        refine wl_split (t := 65) rfl (fun h65 => ?_) (fun h65 => ?_)
        · skip
          have q65 := h65
          try simp only [decide_eq_true_eq, decide_eq_false_iff_not, beq_iff_eq, beq_eq_false_iff_ne, bne_iff_ne, ne_eq, bne_eq_false_iff_eq, Int.not_lt, Int.not_le] at q65
          refine wl_want (b := true) (q_move rfl rfl) rfl rfl rfl rfl (by decide) ?_
          refine wl_want (b := true) (q_nilCheck rfl rfl) rfl rfl rfl rfl (by decide) ?_
          refine wl_want (b := true) (q_fa (o1 := 1) rfl rfl Fo65_1 rfl) rfl rfl rfl rfl (by decide) ?_
          refine wl_want (b := true) (q_load rfl rfl Mn4 (reads1 (i := 0) rfl rfl)) rfl rfl rfl rfl (by decide) ?_
          refine wl_want (b := true) (q_not rfl rfl) rfl rfl rfl rfl (by decide) ?_
          refine wl_q (q_pick rfl rfl rfl) rfl rfl (by decide) ?_
          refine wl_nil ?_
          refine fq_then ?_
          refine wc_cond rfl (fun h71 => ?_) (fun h71 => ?_)
          · skip
            have q71 := h71
            try simp only [decide_eq_true_eq, decide_eq_false_iff_not, beq_iff_eq, beq_eq_false_iff_ne, bne_iff_ne, ne_eq, bne_eq_false_iff_eq, Int.not_lt, Int.not_le] at q71
            refine wc_skip ?_
            refine fq_then ?_
            refine wc_block ?_
            have hbd : bad = false := by simpa using h71
            subst hbd
            obtain ⟨qi_, hqi⟩ := ev_inh hsq hcq
            haveI : Nonempty (EvI gw wF ws) := ⟨⟨((qi_, evVal ws), 0), hqi⟩⟩
            refine wc_any Fol (any_drawG (ι := (EvI gw wF ws)) 5 1 [(3, fun X => [.blk b3 (rdc (X 3).1.1.1 (evRest ws).length (evBad false ws)) 65]), (4, fun X => [.blk (X 4).1.2 _ 49])] [⟨[], [], []⟩, ⟨[], [], []⟩, ⟨[], [], []⟩, ⟨[5], [], []⟩, ⟨[], [], [3]⟩] (by kernel_rfl) (ChainG.yield [] [] (fun X => q_fa (o1 := 4) rfl rfl Fo25_4 rfl) rfl rfl (fun _ => rfl) (fun _ _ => rfl) (fun X Y h0 h => ⟨by first | rfl | simp only [h0], by first | rfl | simp only [h0]⟩) (ChainG.yield [] [] (fun X => q_load rfl rfl Mn23 (reads1 (i := 1) rfl rfl)) rfl rfl (fun _ => rfl) (fun _ _ => rfl) (fun X Y h0 h => ⟨by first | rfl | simp only [h0], by first | rfl | simp only [h0]⟩) (ChainG.yield [] [] (fun X => q_move rfl rfl) rfl rfl (fun _ => rfl) (fun _ _ => rfl) (fun X Y h0 h => ⟨by first | rfl | simp only [h0], by first | rfl | simp only [h0]⟩) (ChainG.ope (fun (X : Nat → (EvI gw wF ws)) => .agg #[.int .i64 (X 3).1.1.2.f0, .int .i64 (X 3).1.1.2.f1, .int .i64 (X 3).1.1.2.f2]) [5] [] (fun X => oe_call rfl En28 rfl (fun R w1 hw1 => event_items hw1 (by simp) hL0 hL hF0 hFg hsq hcq (fun x hx => Nat.le_trans (hwsz x hx) (by decide)))) rfl rfl (fun X Y h0 h => ⟨by first | rfl | (show (.agg #[.int .i64 (X 3).1.1.2.f0, .int .i64 (X 3).1.1.2.f1, .int .i64 (X 3).1.1.2.f2] : Value) = .agg #[.int .i64 (Y 3).1.1.2.f0, .int .i64 (Y 3).1.1.2.f1, .int .i64 (Y 3).1.1.2.f2]; simp only [h0]), by first | rfl | (show ([.blk b3 (rdc (X 3).1.1.1 (evRest ws).length (evBad false ws)) 65] : List Sx.Item) = [.blk b3 (rdc (Y 3).1.1.1 (evRest ws).length (evBad false ws)) 65]; simp only [h0])⟩) (ChainG.mkG (fun x => x.1.2) (fun k => (⟨((qi_, evVal ws), k), hqi⟩ : EvI gw wF ws)) (fun _ => rfl) (fun b => .slice (some ⟨b, 0, none⟩) 1 1) [3] (fun X => om_buildSlice rfl rfl Tryz.underlying23 (built_one Sz49 (by decide) Zs49 (by decide) rfl rfl)) rfl rfl (fun _ => rfl) (fun _ _ => rfl) (fun X Y h0 h => ⟨by first | rfl | simp only [h0, h 3 (by decide)], by first | rfl | (show ([.blk (X 4).1.2 _ 49] : List Sx.Item) = [.blk (Y 4).1.2 _ 49]; simp only [h0, h 3 (by decide)])⟩) (ChainG.nil _ _)))))) rfl rfl (fun X => [_, _, _, _, _, _]) (fun _ => rfl) (fun X => ?_))
            generalize X 3 = ev1
            generalize (X 4).1.2 = b27
            refine wl_append (i := 2) (m := 1) (news := [.int .i64 ev1.1.1.2.f0, .int .i64 ev1.1.1.2.f1, .int .i64 ev1.1.1.2.f2]) rfl rfl rfl (by decide) Tryz.underlying23 Ap49 (by decide) rfl rfl rfl (readsAll (i := 1) rfl) rfl (by simp [Value.oneCell']) (by unfold maxLen; omega) (by omega) (fun v77 _ => ?_)
            refine wl_ownForm (i := 2) rfl (fun A77 c77 e77 f77 => ?_)
            subst e77
            skip
            refine wl_q (q_fa (o1 := 4) rfl rfl Fo25_4 rfl) rfl rfl (by decide) ?_
            refine wl_store (i := 3) rfl rfl rfl rfl rfl rfl Sz23 rfl rfl (by simp) (by simp [Value.oneCell', rdc]) (by first | (simp only [List.take_succ_cons, List.take_zero, List.take_nil, List.drop_succ_cons, List.drop_zero, List.drop_nil, List.nil_append, List.cons_append, List.append_nil, List.length_cons, List.length_nil, Nat.reduceAdd, Nat.zero_add]; rfl) | rfl) (by first | (simp only [List.set_cons_zero, List.set_cons_succ]; rfl) | rfl) ?_
            refine wl_nil ?_
            refine fq_block ?_
            refine fq_ownEq 2 (v' := .slice A77 (n + 1) c77) (n' := n + 1) (xs' := (L ++ [ev1.1.1.2]).flatMap c49) rfl rfl rfl (by rw [List.flatMap_append]; rfl) ?_
            refine fq_next (n + 1, k - 1, L ++ [ev1.1.1.2], evRest ws, evBad false ws, ev1.1.1.1, (A77, c77)) (by
                obtain ⟨⟨e1, e2⟩, e3⟩ := ev1.2
                have hb0 := hbf rfl
                have hne : ws ≠ [] := by intro h; subst h; simp at h65
                obtain ⟨w0_, ws_, rfl⟩ := List.exists_cons_of_ne_nil hne
                obtain ⟨k, rfl⟩ : ∃ j, k = j + 1 := ⟨k - 1, by simp at hwk; omega⟩
                obtain ⟨st1, st2⟩ := evs_step hb0.2
                have hrl := rest_lt hne
                obtain ⟨jd, hjd⟩ := rest_drop (w0_ :: ws_)
                exact ⟨by simp [hnL], by simp; omega, by simp only [Nat.add_sub_cancel]; simp at hwk hrl ⊢; omega, e1, e2, fun x hx => hwsz x (List.mem_of_mem_drop (hjd ▸ hx)), fun hb => ⟨hb0.1, by rw [evVal_of e3 hb]; exact st2 hb⟩, fun hb => .inr (st1 hb)⟩) (rest_lt (by intro h; subst h; simp at h65)) ⟨List.forall_mem_cons.2 ⟨rfl, List.forall_mem_cons.2 ⟨rfl, List.forall_mem_cons.2 ⟨rfl, List.forall_mem_cons.2 ⟨rfl, fun _ h => (by cases h)⟩⟩⟩⟩, List.Sublist.cons_cons _ (List.Sublist.cons _ (List.Sublist.cons_cons _ (List.Sublist.cons_cons _ (List.Sublist.cons_cons _ (List.Sublist.cons_cons _ (List.Sublist.refl []))))))⟩
          · skip
            have q71 := h71
            try simp only [decide_eq_true_eq, decide_eq_false_iff_not, beq_iff_eq, beq_eq_false_iff_ne, bne_iff_ne, ne_eq, bne_eq_false_iff_eq, Int.not_lt, Int.not_le] at q71
            skip
            refine wc_exit ?_
            refine fq_then_exit ?_
            refine fq_then_exit ?_
            refine fq_block_hit ?_
            refine fq_then ?_
            refine wc_seq ?_
            refine wc_seq ?_
            refine wc_region ?_
            refine wl_q (q_move rfl rfl) rfl rfl (by decide) ?_
            refine wl_q (q_nilCheck rfl rfl) rfl rfl (by decide) ?_
            refine wl_q (q_fa (o1 := 1) rfl rfl Fo65_1 rfl) rfl rfl (by decide) ?_
            refine wl_q (q_load rfl rfl Mn4 (reads1 (i := 0) rfl rfl)) rfl rfl (by decide) ?_
            refine wl_nil ?_
            refine fq_then ?_
            refine wc_cond rfl (fun h82 => ?_) (fun h82 => ?_)
            · skip
              have q82 := h82
              try simp only [decide_eq_true_eq, decide_eq_false_iff_not, beq_iff_eq, beq_eq_false_iff_ne, bne_iff_ne, ne_eq, bne_eq_false_iff_eq, Int.not_lt, Int.not_le] at q82
              refine wc_seq ?_
              skip
              refine wc_region ?_
              refine wl_q (q_build rfl rfl (built_of Zr25 Pl25 (by simp only [fillL, List.map_cons, List.map_nil, Value.cells, List.getElem?_cons_zero, List.getElem?_cons_succ, List.length_cons, List.length_nil, Nat.reduceAdd, Nat.reduceLeDiff, Nat.le_refl, and_self, and_true, true_and, if_true, Nat.zero_add, spl, List.take_succ_cons, List.take_zero, List.take_nil, List.drop_succ_cons, List.drop_zero, List.drop_nil, List.nil_append, List.cons_append, List.append_nil] <;> rfl))) rfl rfl (by decide) ?_
              refine wl_store (i := 3) rfl rfl rfl rfl rfl rfl Sz25 rfl rfl (by simp) (by simp [Value.oneCell', rdc]) (by first | (simp only [List.take_succ_cons, List.take_zero, List.take_nil, List.drop_succ_cons, List.drop_zero, List.drop_nil, List.nil_append, List.cons_append, List.append_nil, List.length_cons, List.length_nil, Nat.reduceAdd, Nat.zero_add]; rfl) | rfl) (by first | (simp only [List.set_cons_zero, List.set_cons_succ]; rfl) | rfl) ?_
              refine wl_q (q_assign rfl rfl) rfl rfl (by decide) ?_
              refine wl_nil ?_
              refine fq_then ?_
              refine wc_ret ?_
              refine fq_then_ret ?_
              refine fq_cell_tmp (i := 3) (.inl rfl) rfl rfl rfl rfl Mn25 Sz25 rfl (fun w1 H => ?_)
              have hfb : headBad (splW s) = true ∨ evsF (splW s).length (splW s).tail.tail.tail.tail = none := hbt (by exact h82)
              have ht := tick_form hsz (tick_bad h4 hfb)
              exact ⟨(none, 0), by rw [ht]; rfl, by rw [ht]; exact rowE_nil _, below_F hB H (by simp) hF0⟩
            · skip
              have h9 : bad = true := by simpa using h71
              rw [h9] at h82; cases h82
        · skip
          have q65 := h65
          try simp only [decide_eq_true_eq, decide_eq_false_iff_not, beq_iff_eq, beq_eq_false_iff_ne, bne_iff_ne, ne_eq, bne_eq_false_iff_eq, Int.not_lt, Int.not_le] at q65
          refine wl_skip (b := false) rfl rfl rfl rfl (by decide) ?_
          refine wl_skip (b := false) rfl rfl rfl rfl (by decide) ?_
          refine wl_skip (b := false) rfl rfl rfl rfl (by decide) ?_
          refine wl_skip (b := false) rfl rfl rfl rfl (by decide) ?_
          refine wl_skip (b := false) rfl rfl rfl rfl (by decide) ?_
          refine wl_q (q_pick rfl rfl rfl) rfl rfl (by decide) ?_
          refine wl_nil ?_
          refine fq_then ?_
          refine wc_false rfl ?_
          refine wc_exit ?_
          refine fq_then_exit ?_
          refine fq_then_exit ?_
          refine fq_block_hit ?_
          refine fq_then ?_
          refine wc_seq ?_
          refine wc_seq ?_
          refine wc_region ?_
          refine wl_q (q_move rfl rfl) rfl rfl (by decide) ?_
          refine wl_q (q_nilCheck rfl rfl) rfl rfl (by decide) ?_
          refine wl_q (q_fa (o1 := 1) rfl rfl Fo65_1 rfl) rfl rfl (by decide) ?_
          refine wl_q (q_load rfl rfl Mn4 (reads1 (i := 0) rfl rfl)) rfl rfl (by decide) ?_
          refine wl_nil ?_
          refine fq_then ?_
          refine wc_cond rfl (fun h82 => ?_) (fun h82 => ?_)
          · skip
            have q82 := h82
            try simp only [decide_eq_true_eq, decide_eq_false_iff_not, beq_iff_eq, beq_eq_false_iff_ne, bne_iff_ne, ne_eq, bne_eq_false_iff_eq, Int.not_lt, Int.not_le] at q82
            refine wc_seq ?_
            skip
            refine wc_region ?_
            refine wl_q (q_build rfl rfl (built_of Zr25 Pl25 (by simp only [fillL, List.map_cons, List.map_nil, Value.cells, List.getElem?_cons_zero, List.getElem?_cons_succ, List.length_cons, List.length_nil, Nat.reduceAdd, Nat.reduceLeDiff, Nat.le_refl, and_self, and_true, true_and, if_true, Nat.zero_add, spl, List.take_succ_cons, List.take_zero, List.take_nil, List.drop_succ_cons, List.drop_zero, List.drop_nil, List.nil_append, List.cons_append, List.append_nil] <;> rfl))) rfl rfl (by decide) ?_
            refine wl_store (i := 3) rfl rfl rfl rfl rfl rfl Sz25 rfl rfl (by simp) (by simp [Value.oneCell', rdc]) (by first | (simp only [List.take_succ_cons, List.take_zero, List.take_nil, List.drop_succ_cons, List.drop_zero, List.drop_nil, List.nil_append, List.cons_append, List.append_nil, List.length_cons, List.length_nil, Nat.reduceAdd, Nat.zero_add]; rfl) | rfl) (by first | (simp only [List.set_cons_zero, List.set_cons_succ]; rfl) | rfl) ?_
            refine wl_q (q_assign rfl rfl) rfl rfl (by decide) ?_
            refine wl_nil ?_
            refine fq_then ?_
            refine wc_ret ?_
            refine fq_then_ret ?_
            refine fq_cell_tmp (i := 3) (.inl rfl) rfl rfl rfl rfl Mn25 Sz25 rfl (fun w1 H => ?_)
            have hfb : headBad (splW s) = true ∨ evsF (splW s).length (splW s).tail.tail.tail.tail = none := hbt (by exact h82)
            have ht := tick_form hsz (tick_bad h4 hfb)
            exact ⟨(none, 0), by rw [ht]; rfl, by rw [ht]; exact rowE_nil _, below_F hB H (by simp) hF0⟩
          · skip
            have q82 := h82
            try simp only [decide_eq_true_eq, decide_eq_false_iff_not, beq_iff_eq, beq_eq_false_iff_ne, bne_iff_ne, ne_eq, bne_eq_false_iff_eq, Int.not_lt, Int.not_le] at q82
            refine wc_skip ?_
            refine fq_then ?_
            refine wc_seq ?_
            refine wc_region ?_
            refine wl_q (q_loadA rfl rfl Mn25 Sz25 rfl (readsAll (i := 2) rfl)) rfl rfl (by decide) ?_
            refine wl_store (i := 3) rfl rfl rfl rfl rfl rfl Sz25 rfl rfl (by simp) (by simp [Value.oneCell', rdc]) (by first | (simp only [List.take_succ_cons, List.take_zero, List.take_nil, List.drop_succ_cons, List.drop_zero, List.drop_nil, List.nil_append, List.cons_append, List.append_nil, List.length_cons, List.length_nil, Nat.reduceAdd, Nat.zero_add]; rfl) | rfl) (by first | (simp only [List.set_cons_zero, List.set_cons_succ]; rfl) | rfl) ?_
            refine wl_q (q_assign rfl rfl) rfl rfl (by decide) ?_
            refine wl_nil ?_
            refine fq_then ?_
            refine wc_ret ?_
            refine fq_cell_tmp (i := 3) (.inl rfl) rfl rfl rfl rfl Mn25 Sz25 rfl (fun w1 H => ?_)
            have hb0 := hbf h82
            have hws0 : ws = [] := by simpa using h65
            subst hws0
            rw [evs_nil] at hb0
            have ht := tick_ok (v := v_q3) (u := u) (L := L) hsz h4 hb0.1 (by rw [hb0.2]; simp) hv_q3 hPu.val
            exact ⟨qe, by rw [ht]; subst hnL; rfl, by rw [ht]; exact rowE_of (L := L) (H.get (i := 1) rfl) hnL (by omega), below_F hB H (by simp) hF0⟩
      · skip
        have q45 := h45
        try simp only [decide_eq_true_eq, decide_eq_false_iff_not, beq_iff_eq, beq_eq_false_iff_ne, bne_iff_ne, ne_eq, bne_eq_false_iff_eq, Int.not_lt, Int.not_le] at q45
        refine wl_want (b := false) (q_move rfl rfl) rfl rfl rfl rfl (by decide) ?_
        refine wl_want (b := false) (q_neqErr rfl rfl (by kernel_rfl) hPu.ev) rfl rfl rfl rfl (by decide) ?_
        refine wl_q (q_pick rfl rfl rfl) rfl rfl (by decide) ?_
        refine wl_q (q_move rfl rfl) rfl rfl (by decide) ?_
        refine wl_split (t := 49) rfl (fun h49 => ?_) (fun h49 => ?_)
        · skip
          have q49 := h49
          try simp only [decide_eq_true_eq, decide_eq_false_iff_not, beq_iff_eq, beq_eq_false_iff_ne, bne_iff_ne, ne_eq, bne_eq_false_iff_eq, Int.not_lt, Int.not_le] at q49
          refine wl_skip (b := true) rfl rfl rfl rfl (by decide) ?_
          refine wl_skip (b := true) rfl rfl rfl rfl (by decide) ?_
          refine wl_skip (b := true) rfl rfl rfl rfl (by decide) ?_
          refine wl_skip (b := true) rfl rfl rfl rfl (by decide) ?_
          refine wl_q (q_pick rfl rfl rfl) rfl rfl (by decide) ?_
          refine wl_q (q_nilCheck rfl rfl) rfl rfl (by decide) ?_
          refine wl_q (q_fa (o1 := 1) rfl rfl Fo65_1 rfl) rfl rfl (by decide) ?_
          refine wl_storeK fb_b3 rfl rfl rfl rfl rfl Sz4 rfl rfl (by first | (simp; done) | (simp [Value.oneCell', rdc]; done)) (by simp [Value.oneCell', rdc]) (by first | rfl | (simp only [List.take_succ_cons, List.take_zero, List.take_nil, List.drop_succ_cons, List.drop_zero, List.drop_nil, List.nil_append, List.cons_append, List.append_nil, List.length_cons, List.length_nil, Nat.reduceAdd, Nat.zero_add]; rfl)) (fun wa_28 w_29 Hn_ hu_ => ?_)
          have hx_ := Hn_.toBelow (by simp)
          have hL := hL.below hx_
          have fb_b1 := fb_b1.below hx_
          have hs_q0 := hs_q0.below hx_
          have fb_b3 := fb_b3.below hx_
          have hs_q1 := hs_q1.below hx_
          have fb_b10 := fb_b10.below hx_
          have hs_q2 := hs_q2.below hx_
          have hs_q3 := hs_q3.below hx_
          have hs_q4 := hs_q4.below hx_
          have hB := hB.next hx_
          have hs_ := hB.size
          have hB := hB.trans (hu_.below hnb_b3 hs_)
          have hL := Lw.updN hL0 hL hu_ hnb_b3
          have fb_b1 := hu_.blkN fb_b1 hne_b1_b3
          have hs_q0 := hs_q0.updI hu_ (by intro k x; rcases k with _ | _ | _ | _ | _ | k <;> simp [rdc])
          have fb_b3 := hu_.now
          have hs_q1 := hs_q1.updI hu_ (by intro k x; rcases k with _ | _ | _ | _ | _ | k <;> simp [rdc])
          have fb_b10 := hu_.blkN fb_b10 (Ne.symm hne_b3_b10)
          have hs_q2 := hs_q2.updI hu_ (by intro k x; rcases k with _ | _ | _ | _ | _ | k <;> simp [rdc])
          have hs_q3 := hs_q3.updI hu_ (by intro k x; rcases k with _ | _ | _ | _ | _ | k <;> simp [rdc])
          have hs_q4 := hs_q4.updI hu_ (by intro k x; rcases k with _ | _ | _ | _ | _ | k <;> simp [rdc])
          refine wl_nil ?_
          refine fq_then ?_
          refine wc_seq ?_
          have fb_b3 : Blk w_29 b3 (rdc q4 (splW s).tail.tail.tail.tail.length (headBad (splW s))) 65 := by
            first | (simp only [headBad, h45, Bool.true_or]; exact fb_b3) | (simp only [headBad, h45, hPu.bad h49, Option.isNone_none, Bool.or_true]; exact fb_b3) | (simp only [headBad, h45, hPu.none h49, Bool.false_or]; exact fb_b3)
          refine wc_region ?_
          refine wl_q (q_move rfl rfl) rfl rfl (by decide) ?_
          refine wl_q (q_fa (o1 := 3) rfl rfl Fo25_3 rfl) rfl rfl (by decide) ?_
          refine wl_storeK fb_b10 rfl rfl rfl rfl rfl Sz22 rfl rfl (by first | (simp; done) | (simp [Value.oneCell', rdc]; done)) (by simp [Value.oneCell', rdc]) (by first | rfl | (simp only [List.take_succ_cons, List.take_zero, List.take_nil, List.drop_succ_cons, List.drop_zero, List.drop_nil, List.nil_append, List.cons_append, List.append_nil, List.length_cons, List.length_nil, Nat.reduceAdd, Nat.zero_add]; rfl)) (fun wa_30 w_31 Hn_ hu_ => ?_)
          have hx_ := Hn_.toBelow (by simp)
          have hL := hL.below hx_
          have fb_b1 := fb_b1.below hx_
          have hs_q0 := hs_q0.below hx_
          have fb_b3 := fb_b3.below hx_
          have hs_q1 := hs_q1.below hx_
          have fb_b10 := fb_b10.below hx_
          have hs_q2 := hs_q2.below hx_
          have hs_q3 := hs_q3.below hx_
          have hs_q4 := hs_q4.below hx_
          have hB := hB.next hx_
          have hs_ := hB.size
          have hB := hB.trans (hu_.below hnb_b10 hs_)
          have hL := Lw.updN hL0 hL hu_ hnb_b10
          have fb_b1 := hu_.blkN fb_b1 hne_b1_b10
          have hs_q0 := hs_q0.updI hu_ (by intro k x; rcases k with _ | _ | _ | _ | _ | k <;> simp [rdc])
          have fb_b3 := hu_.blkN fb_b3 hne_b3_b10
          have hs_q1 := hs_q1.updI hu_ (by intro k x; rcases k with _ | _ | _ | _ | _ | k <;> simp [rdc])
          have fb_b10 := hu_.now
          have hs_q2 := hs_q2.updI hu_ (by intro k x; rcases k with _ | _ | _ | _ | _ | k <;> simp [rdc])
          have hs_q3 := hs_q3.updI hu_ (by intro k x; rcases k with _ | _ | _ | _ | _ | k <;> simp [rdc])
          have hs_q4 := hs_q4.updI hu_ (by intro k x; rcases k with _ | _ | _ | _ | _ | k <;> simp [rdc])
          refine wl_nil ?_
          refine fq_then ?_
          refine wc_seq ?_
          refine wc_block ?_
          refine wc_ground (fun wF Hn_ => ?_)
          have hx_ := Hn_.toBelow (by simp)
          have hL := hL.below hx_
          have fb_b1 := fb_b1.below hx_
          have hs_q0 := hs_q0.below hx_
          have fb_b3 := fb_b3.below hx_
          have hs_q1 := hs_q1.below hx_
          have fb_b10 := fb_b10.below hx_
          have hs_q2 := hs_q2.below hx_
          have hs_q3 := hs_q3.below hx_
          have hs_q4 := hs_q4.below hx_
          have hB := hB.next hx_
          obtain ⟨o_, x_, hgc⟩ : ∃ o x, wF.cell? ⟨gw, o, none⟩ = some (.string x) := by
            obtain ⟨o, _, hc⟩ := hs_q0 (by intro h; rw [h] at h4; simp at h4)
            have hl0 : 0 < (splW s).length := by omega
            exact ⟨o + 0, _, hc 0 _ (List.getElem?_eq_getElem hl0)⟩
          have hg_b1 : gw ≠ b1 := blk_ne hgc fb_b1 (by intro k; rcases k with _ | _ | _ | _ | _ | k <;> simp [rdc])
          have hg_b10 : gw ≠ b10 := blk_ne hgc fb_b10 (by intro k; rcases k with _ | _ | _ | _ | _ | k <;> simp [rdc])
          have hg_b3 : gw ≠ b3 := blk_ne hgc fb_b3 (by intro k; rcases k with _ | _ | _ | _ | _ | k <;> simp [rdc])
          have hgl : gw < wF.heap.size := block_lt_of_cell hgc
          have hszF := hB.size
          have hnK := count_len s
          refine wc_thaw 0 rfl (show b1 < wF.heap.size from fb_b1.lt) fb_b1 ?_
          refine wc_thaw 1 rfl (show b10 < wF.heap.size ∧ b10 ≠ b1 from ⟨fb_b10.lt, (Ne.symm hne_b1_b10)⟩) fb_b10 ?_
          refine wc_own (E := 49) (sz := 3) ?_
          refine wc_thaw 3 rfl (show (b3 < wF.heap.size ∧ b3 ≠ b1) ∧ b3 ≠ b10 from ⟨⟨fb_b3.lt, (Ne.symm hne_b1_b3)⟩, hne_b3_b10⟩) fb_b3 ?_
          have hF0 : ∀ k, k < w.heap.size → ((k < wF.heap.size ∧ k ≠ b1) ∧ k ≠ b10) ∧ k ≠ b3 := fun k hk => ⟨⟨⟨by omega, by omega⟩, by omega⟩, by omega⟩
          have hFg : ((gw < wF.heap.size ∧ gw ≠ b1) ∧ gw ≠ b10) ∧ gw ≠ b3 := ⟨⟨⟨hgl, hg_b1⟩, hg_b10⟩, hg_b3⟩
          refine wc_loop (ι := (Nat × Nat × List S49 × List ByteArray × Bool × Gh × Gh)) (fun ⟨n, k, L, ws, bad, q, qe⟩ => [(2, .pointer (some ⟨b1, 0, none⟩)), (3, .int .i64 0), (4, .pointer (some ⟨b3, 0, none⟩)), (5, .pointer (some ⟨b10, 0, none⟩))]) (fun ⟨n, k, L, ws, bad, q, qe⟩ => [.blk b3 (rdc q ws.length bad) 65, .own 0 49 3 (.slice qe.1 n qe.2) n (L.flatMap c49), .blk b10 [.bool ((hdB (splW s)).toList == mainsB.toList), .bool ((hdB (splW s).tail).toList == genB.toList), .int .i64 v_q3, .int .u64 u, .slice qe.1 n qe.2] 25, .blk b1 [.bool false, .bool false, .int .i64 0, .int .u64 0, .slice none 0 0] 25, .ro (fun k => ((k < wF.heap.size ∧ k ≠ b1) ∧ k ≠ b10) ∧ k ≠ b3) wF]) (fun ⟨n, k, L, ws, bad, q, qe⟩ => n = L.length ∧ n + k ≤ 5000 ∧ ws.length ≤ k ∧ StrsG gw wF q.1 ws ∧ ws.length ≤ q.2 ∧ (∀ x ∈ ws, x.size ≤ 4096) ∧ (bad = false → headBad (splW s) = false ∧ evsF (splW s).length (splW s).tail.tail.tail.tail = (evsF k ws).map (L ++ ·)) ∧ (bad = true → headBad (splW s) = true ∨ evsF (splW s).length (splW s).tail.tail.tail.tail = none)) (fun ⟨n, k, L, ws, bad, q, qe⟩ => ws.length) (0, (splW s).length, [], (splW s).tail.tail.tail.tail, headBad (splW s), q4, (none, 0)) ⟨rfl, by omega, by simp only [List.length_tail]; omega, hs_q4, hc_q4, fun x hx => hwz x (List.mem_of_mem_tail (List.mem_of_mem_tail (List.mem_of_mem_tail (List.mem_of_mem_tail hx)))), fun h => ⟨h, by simp⟩, fun h => .inl h⟩ ⟨List.forall_mem_cons.2 ⟨rfl, List.forall_mem_cons.2 ⟨rfl, List.forall_mem_cons.2 ⟨rfl, List.forall_mem_cons.2 ⟨rfl, fun _ h => (by cases h)⟩⟩⟩⟩, List.Sublist.refl _⟩ ?_
          rintro ⟨n, k, L, ws, bad, q, qe⟩ ⟨hnL, hnk, hwk, hsq, hcq, hwsz, hbf, hbt⟩
          dsimp only at hnL hnk hwk hsq hcq hwsz hbf hbt ⊢
          refine wc_seq ?_
          refine wc_seq ?_
          refine wc_region ?_
          refine wl_q (q_move rfl rfl) rfl rfl (by decide) ?_
          refine wl_q (q_nilCheck rfl rfl) rfl rfl (by decide) ?_
          refine wl_q (q_fa (o1 := 0) rfl rfl Fo65_0 rfl) rfl rfl (by decide) ?_
          refine wl_q (q_load rfl rfl Mn54 (reads1 (i := 0) rfl rfl)) rfl rfl (by decide) ?_
          refine wl_q (q_len rfl rfl Tryz.underlying54) rfl rfl (by decide) ?_
          refine wl_q (q_bin rfl rfl rfl rfl) rfl rfl (by decide) ?_
          refine wl_q (q_move rfl rfl) rfl rfl (by decide) ?_
          refine wl_split (t := 65) rfl (fun h65 => ?_) (fun h65 => ?_)
          · skip
            have q65 := h65
            try simp only [decide_eq_true_eq, decide_eq_false_iff_not, beq_iff_eq, beq_eq_false_iff_ne, bne_iff_ne, ne_eq, bne_eq_false_iff_eq, Int.not_lt, Int.not_le] at q65
            refine wl_want (b := true) (q_move rfl rfl) rfl rfl rfl rfl (by decide) ?_
            refine wl_want (b := true) (q_nilCheck rfl rfl) rfl rfl rfl rfl (by decide) ?_
            refine wl_want (b := true) (q_fa (o1 := 1) rfl rfl Fo65_1 rfl) rfl rfl rfl rfl (by decide) ?_
            refine wl_want (b := true) (q_load rfl rfl Mn4 (reads1 (i := 0) rfl rfl)) rfl rfl rfl rfl (by decide) ?_
            refine wl_want (b := true) (q_not rfl rfl) rfl rfl rfl rfl (by decide) ?_
            refine wl_q (q_pick rfl rfl rfl) rfl rfl (by decide) ?_
            refine wl_nil ?_
            refine fq_then ?_
            refine wc_cond rfl (fun h71 => ?_) (fun h71 => ?_)
            · skip
              have q71 := h71
              try simp only [decide_eq_true_eq, decide_eq_false_iff_not, beq_iff_eq, beq_eq_false_iff_ne, bne_iff_ne, ne_eq, bne_eq_false_iff_eq, Int.not_lt, Int.not_le] at q71
              refine wc_skip ?_
              refine fq_then ?_
              refine wc_block ?_
              have hbd : bad = false := by simpa using h71
              subst hbd
              obtain ⟨qi_, hqi⟩ := ev_inh hsq hcq
              haveI : Nonempty (EvI gw wF ws) := ⟨⟨((qi_, evVal ws), 0), hqi⟩⟩
              refine wc_any Fol (any_drawG (ι := (EvI gw wF ws)) 5 1 [(3, fun X => [.blk b3 (rdc (X 3).1.1.1 (evRest ws).length (evBad false ws)) 65]), (4, fun X => [.blk (X 4).1.2 _ 49])] [⟨[], [], []⟩, ⟨[], [], []⟩, ⟨[], [], []⟩, ⟨[5], [], []⟩, ⟨[], [], [3]⟩] (by kernel_rfl) (ChainG.yield [] [] (fun X => q_fa (o1 := 4) rfl rfl Fo25_4 rfl) rfl rfl (fun _ => rfl) (fun _ _ => rfl) (fun X Y h0 h => ⟨by first | rfl | simp only [h0], by first | rfl | simp only [h0]⟩) (ChainG.yield [] [] (fun X => q_load rfl rfl Mn23 (reads1 (i := 1) rfl rfl)) rfl rfl (fun _ => rfl) (fun _ _ => rfl) (fun X Y h0 h => ⟨by first | rfl | simp only [h0], by first | rfl | simp only [h0]⟩) (ChainG.yield [] [] (fun X => q_move rfl rfl) rfl rfl (fun _ => rfl) (fun _ _ => rfl) (fun X Y h0 h => ⟨by first | rfl | simp only [h0], by first | rfl | simp only [h0]⟩) (ChainG.ope (fun (X : Nat → (EvI gw wF ws)) => .agg #[.int .i64 (X 3).1.1.2.f0, .int .i64 (X 3).1.1.2.f1, .int .i64 (X 3).1.1.2.f2]) [5] [] (fun X => oe_call rfl En28 rfl (fun R w1 hw1 => event_items hw1 (by simp) hL0 hL hF0 hFg hsq hcq (fun x hx => Nat.le_trans (hwsz x hx) (by decide)))) rfl rfl (fun X Y h0 h => ⟨by first | rfl | (show (.agg #[.int .i64 (X 3).1.1.2.f0, .int .i64 (X 3).1.1.2.f1, .int .i64 (X 3).1.1.2.f2] : Value) = .agg #[.int .i64 (Y 3).1.1.2.f0, .int .i64 (Y 3).1.1.2.f1, .int .i64 (Y 3).1.1.2.f2]; simp only [h0]), by first | rfl | (show ([.blk b3 (rdc (X 3).1.1.1 (evRest ws).length (evBad false ws)) 65] : List Sx.Item) = [.blk b3 (rdc (Y 3).1.1.1 (evRest ws).length (evBad false ws)) 65]; simp only [h0])⟩) (ChainG.mkG (fun x => x.1.2) (fun k => (⟨((qi_, evVal ws), k), hqi⟩ : EvI gw wF ws)) (fun _ => rfl) (fun b => .slice (some ⟨b, 0, none⟩) 1 1) [3] (fun X => om_buildSlice rfl rfl Tryz.underlying23 (built_one Sz49 (by decide) Zs49 (by decide) rfl rfl)) rfl rfl (fun _ => rfl) (fun _ _ => rfl) (fun X Y h0 h => ⟨by first | rfl | simp only [h0, h 3 (by decide)], by first | rfl | (show ([.blk (X 4).1.2 _ 49] : List Sx.Item) = [.blk (Y 4).1.2 _ 49]; simp only [h0, h 3 (by decide)])⟩) (ChainG.nil _ _)))))) rfl rfl (fun X => [_, _, _, _, _, _]) (fun _ => rfl) (fun X => ?_))
              generalize X 3 = ev1
              generalize (X 4).1.2 = b32
              refine wl_append (i := 2) (m := 1) (news := [.int .i64 ev1.1.1.2.f0, .int .i64 ev1.1.1.2.f1, .int .i64 ev1.1.1.2.f2]) rfl rfl rfl (by decide) Tryz.underlying23 Ap49 (by decide) rfl rfl rfl (readsAll (i := 1) rfl) rfl (by simp [Value.oneCell']) (by unfold maxLen; omega) (by omega) (fun v77 _ => ?_)
              refine wl_ownForm (i := 2) rfl (fun A77 c77 e77 f77 => ?_)
              subst e77
              skip
              refine wl_q (q_fa (o1 := 4) rfl rfl Fo25_4 rfl) rfl rfl (by decide) ?_
              refine wl_store (i := 3) rfl rfl rfl rfl rfl rfl Sz23 rfl rfl (by simp) (by simp [Value.oneCell', rdc]) (by first | (simp only [List.take_succ_cons, List.take_zero, List.take_nil, List.drop_succ_cons, List.drop_zero, List.drop_nil, List.nil_append, List.cons_append, List.append_nil, List.length_cons, List.length_nil, Nat.reduceAdd, Nat.zero_add]; rfl) | rfl) (by first | (simp only [List.set_cons_zero, List.set_cons_succ]; rfl) | rfl) ?_
              refine wl_nil ?_
              refine fq_block ?_
              refine fq_ownEq 2 (v' := .slice A77 (n + 1) c77) (n' := n + 1) (xs' := (L ++ [ev1.1.1.2]).flatMap c49) rfl rfl rfl (by rw [List.flatMap_append]; rfl) ?_
              refine fq_next (n + 1, k - 1, L ++ [ev1.1.1.2], evRest ws, evBad false ws, ev1.1.1.1, (A77, c77)) (by
                  obtain ⟨⟨e1, e2⟩, e3⟩ := ev1.2
                  have hb0 := hbf rfl
                  have hne : ws ≠ [] := by intro h; subst h; simp at h65
                  obtain ⟨w0_, ws_, rfl⟩ := List.exists_cons_of_ne_nil hne
                  obtain ⟨k, rfl⟩ : ∃ j, k = j + 1 := ⟨k - 1, by simp at hwk; omega⟩
                  obtain ⟨st1, st2⟩ := evs_step hb0.2
                  have hrl := rest_lt hne
                  obtain ⟨jd, hjd⟩ := rest_drop (w0_ :: ws_)
                  exact ⟨by simp [hnL], by simp; omega, by simp only [Nat.add_sub_cancel]; simp at hwk hrl ⊢; omega, e1, e2, fun x hx => hwsz x (List.mem_of_mem_drop (hjd ▸ hx)), fun hb => ⟨hb0.1, by rw [evVal_of e3 hb]; exact st2 hb⟩, fun hb => .inr (st1 hb)⟩) (rest_lt (by intro h; subst h; simp at h65)) ⟨List.forall_mem_cons.2 ⟨rfl, List.forall_mem_cons.2 ⟨rfl, List.forall_mem_cons.2 ⟨rfl, List.forall_mem_cons.2 ⟨rfl, fun _ h => (by cases h)⟩⟩⟩⟩, List.Sublist.cons_cons _ (List.Sublist.cons _ (List.Sublist.cons_cons _ (List.Sublist.cons_cons _ (List.Sublist.cons_cons _ (List.Sublist.cons_cons _ (List.Sublist.refl []))))))⟩
            · skip
              have q71 := h71
              try simp only [decide_eq_true_eq, decide_eq_false_iff_not, beq_iff_eq, beq_eq_false_iff_ne, bne_iff_ne, ne_eq, bne_eq_false_iff_eq, Int.not_lt, Int.not_le] at q71
              skip
              refine wc_exit ?_
              refine fq_then_exit ?_
              refine fq_then_exit ?_
              refine fq_block_hit ?_
              refine fq_then ?_
              refine wc_seq ?_
              refine wc_seq ?_
              refine wc_region ?_
              refine wl_q (q_move rfl rfl) rfl rfl (by decide) ?_
              refine wl_q (q_nilCheck rfl rfl) rfl rfl (by decide) ?_
              refine wl_q (q_fa (o1 := 1) rfl rfl Fo65_1 rfl) rfl rfl (by decide) ?_
              refine wl_q (q_load rfl rfl Mn4 (reads1 (i := 0) rfl rfl)) rfl rfl (by decide) ?_
              refine wl_nil ?_
              refine fq_then ?_
              refine wc_cond rfl (fun h82 => ?_) (fun h82 => ?_)
              · skip
                have q82 := h82
                try simp only [decide_eq_true_eq, decide_eq_false_iff_not, beq_iff_eq, beq_eq_false_iff_ne, bne_iff_ne, ne_eq, bne_eq_false_iff_eq, Int.not_lt, Int.not_le] at q82
                refine wc_seq ?_
                skip
                refine wc_region ?_
                refine wl_q (q_build rfl rfl (built_of Zr25 Pl25 (by simp only [fillL, List.map_cons, List.map_nil, Value.cells, List.getElem?_cons_zero, List.getElem?_cons_succ, List.length_cons, List.length_nil, Nat.reduceAdd, Nat.reduceLeDiff, Nat.le_refl, and_self, and_true, true_and, if_true, Nat.zero_add, spl, List.take_succ_cons, List.take_zero, List.take_nil, List.drop_succ_cons, List.drop_zero, List.drop_nil, List.nil_append, List.cons_append, List.append_nil] <;> rfl))) rfl rfl (by decide) ?_
                refine wl_store (i := 3) rfl rfl rfl rfl rfl rfl Sz25 rfl rfl (by simp) (by simp [Value.oneCell', rdc]) (by first | (simp only [List.take_succ_cons, List.take_zero, List.take_nil, List.drop_succ_cons, List.drop_zero, List.drop_nil, List.nil_append, List.cons_append, List.append_nil, List.length_cons, List.length_nil, Nat.reduceAdd, Nat.zero_add]; rfl) | rfl) (by first | (simp only [List.set_cons_zero, List.set_cons_succ]; rfl) | rfl) ?_
                refine wl_q (q_assign rfl rfl) rfl rfl (by decide) ?_
                refine wl_nil ?_
                refine fq_then ?_
                refine wc_ret ?_
                refine fq_then_ret ?_
                refine fq_cell_tmp (i := 3) (.inl rfl) rfl rfl rfl rfl Mn25 Sz25 rfl (fun w1 H => ?_)
                have hfb : headBad (splW s) = true ∨ evsF (splW s).length (splW s).tail.tail.tail.tail = none := hbt (by exact h82)
                have ht := tick_form hsz (tick_bad h4 hfb)
                exact ⟨(none, 0), by rw [ht]; rfl, by rw [ht]; exact rowE_nil _, below_F hB H (by simp) hF0⟩
              · skip
                have h9 : bad = true := by simpa using h71
                rw [h9] at h82; cases h82
          · skip
            have q65 := h65
            try simp only [decide_eq_true_eq, decide_eq_false_iff_not, beq_iff_eq, beq_eq_false_iff_ne, bne_iff_ne, ne_eq, bne_eq_false_iff_eq, Int.not_lt, Int.not_le] at q65
            refine wl_skip (b := false) rfl rfl rfl rfl (by decide) ?_
            refine wl_skip (b := false) rfl rfl rfl rfl (by decide) ?_
            refine wl_skip (b := false) rfl rfl rfl rfl (by decide) ?_
            refine wl_skip (b := false) rfl rfl rfl rfl (by decide) ?_
            refine wl_skip (b := false) rfl rfl rfl rfl (by decide) ?_
            refine wl_q (q_pick rfl rfl rfl) rfl rfl (by decide) ?_
            refine wl_nil ?_
            refine fq_then ?_
            refine wc_false rfl ?_
            refine wc_exit ?_
            refine fq_then_exit ?_
            refine fq_then_exit ?_
            refine fq_block_hit ?_
            refine fq_then ?_
            refine wc_seq ?_
            refine wc_seq ?_
            refine wc_region ?_
            refine wl_q (q_move rfl rfl) rfl rfl (by decide) ?_
            refine wl_q (q_nilCheck rfl rfl) rfl rfl (by decide) ?_
            refine wl_q (q_fa (o1 := 1) rfl rfl Fo65_1 rfl) rfl rfl (by decide) ?_
            refine wl_q (q_load rfl rfl Mn4 (reads1 (i := 0) rfl rfl)) rfl rfl (by decide) ?_
            refine wl_nil ?_
            refine fq_then ?_
            refine wc_cond rfl (fun h82 => ?_) (fun h82 => ?_)
            · skip
              have q82 := h82
              try simp only [decide_eq_true_eq, decide_eq_false_iff_not, beq_iff_eq, beq_eq_false_iff_ne, bne_iff_ne, ne_eq, bne_eq_false_iff_eq, Int.not_lt, Int.not_le] at q82
              refine wc_seq ?_
              skip
              refine wc_region ?_
              refine wl_q (q_build rfl rfl (built_of Zr25 Pl25 (by simp only [fillL, List.map_cons, List.map_nil, Value.cells, List.getElem?_cons_zero, List.getElem?_cons_succ, List.length_cons, List.length_nil, Nat.reduceAdd, Nat.reduceLeDiff, Nat.le_refl, and_self, and_true, true_and, if_true, Nat.zero_add, spl, List.take_succ_cons, List.take_zero, List.take_nil, List.drop_succ_cons, List.drop_zero, List.drop_nil, List.nil_append, List.cons_append, List.append_nil] <;> rfl))) rfl rfl (by decide) ?_
              refine wl_store (i := 3) rfl rfl rfl rfl rfl rfl Sz25 rfl rfl (by simp) (by simp [Value.oneCell', rdc]) (by first | (simp only [List.take_succ_cons, List.take_zero, List.take_nil, List.drop_succ_cons, List.drop_zero, List.drop_nil, List.nil_append, List.cons_append, List.append_nil, List.length_cons, List.length_nil, Nat.reduceAdd, Nat.zero_add]; rfl) | rfl) (by first | (simp only [List.set_cons_zero, List.set_cons_succ]; rfl) | rfl) ?_
              refine wl_q (q_assign rfl rfl) rfl rfl (by decide) ?_
              refine wl_nil ?_
              refine fq_then ?_
              refine wc_ret ?_
              refine fq_then_ret ?_
              refine fq_cell_tmp (i := 3) (.inl rfl) rfl rfl rfl rfl Mn25 Sz25 rfl (fun w1 H => ?_)
              have hfb : headBad (splW s) = true ∨ evsF (splW s).length (splW s).tail.tail.tail.tail = none := hbt (by exact h82)
              have ht := tick_form hsz (tick_bad h4 hfb)
              exact ⟨(none, 0), by rw [ht]; rfl, by rw [ht]; exact rowE_nil _, below_F hB H (by simp) hF0⟩
            · skip
              have q82 := h82
              try simp only [decide_eq_true_eq, decide_eq_false_iff_not, beq_iff_eq, beq_eq_false_iff_ne, bne_iff_ne, ne_eq, bne_eq_false_iff_eq, Int.not_lt, Int.not_le] at q82
              refine wc_skip ?_
              refine fq_then ?_
              refine wc_seq ?_
              refine wc_region ?_
              refine wl_q (q_loadA rfl rfl Mn25 Sz25 rfl (readsAll (i := 2) rfl)) rfl rfl (by decide) ?_
              refine wl_store (i := 3) rfl rfl rfl rfl rfl rfl Sz25 rfl rfl (by simp) (by simp [Value.oneCell', rdc]) (by first | (simp only [List.take_succ_cons, List.take_zero, List.take_nil, List.drop_succ_cons, List.drop_zero, List.drop_nil, List.nil_append, List.cons_append, List.append_nil, List.length_cons, List.length_nil, Nat.reduceAdd, Nat.zero_add]; rfl) | rfl) (by first | (simp only [List.set_cons_zero, List.set_cons_succ]; rfl) | rfl) ?_
              refine wl_q (q_assign rfl rfl) rfl rfl (by decide) ?_
              refine wl_nil ?_
              refine fq_then ?_
              refine wc_ret ?_
              refine fq_cell_tmp (i := 3) (.inl rfl) rfl rfl rfl rfl Mn25 Sz25 rfl (fun w1 H => ?_)
              have hb0 := hbf h82
              have hws0 : ws = [] := by simpa using h65
              subst hws0
              rw [evs_nil] at hb0
              have ht := tick_ok (v := v_q3) (u := u) (L := L) hsz h4 hb0.1 (by rw [hb0.2]; simp) hv_q3 hPu.val
              exact ⟨qe, by rw [ht]; subst hnL; rfl, by rw [ht]; exact rowE_of (L := L) (H.get (i := 1) rfl) hnL (by omega), below_F hB H (by simp) hF0⟩
        · skip
          have q49 := h49
          try simp only [decide_eq_true_eq, decide_eq_false_iff_not, beq_iff_eq, beq_eq_false_iff_ne, bne_iff_ne, ne_eq, bne_eq_false_iff_eq, Int.not_lt, Int.not_le] at q49
          refine wl_want (b := false) (q_move rfl rfl) rfl rfl rfl rfl (by decide) ?_
          refine wl_want (b := false) (q_call rfl En18 rfl (fun w1 hw1 => fu_calls u hPu.1 w1 (hL.below (hw1.toBelow (by simp))))) rfl rfl rfl rfl (by decide) ?_
          refine wl_want (b := false) (q_move rfl rfl) rfl rfl rfl rfl (by decide) ?_
          refine wl_want (b := false) (q_eqlStr rfl (.inr ⟨rfl, rfl⟩) rfl rfl (fun w => rfl)) rfl rfl rfl rfl (by decide) ?_
          refine wl_q (q_pick rfl rfl rfl) rfl rfl (by decide) ?_
          refine wl_q (q_nilCheck rfl rfl) rfl rfl (by decide) ?_
          refine wl_q (q_fa (o1 := 1) rfl rfl Fo65_1 rfl) rfl rfl (by decide) ?_
          refine wl_storeK fb_b3 rfl rfl rfl rfl rfl Sz4 rfl rfl (by first | (simp; done) | (simp [Value.oneCell', rdc]; done)) (by simp [Value.oneCell', rdc]) (by first | rfl | (simp only [List.take_succ_cons, List.take_zero, List.take_nil, List.drop_succ_cons, List.drop_zero, List.drop_nil, List.nil_append, List.cons_append, List.append_nil, List.length_cons, List.length_nil, Nat.reduceAdd, Nat.zero_add]; rfl)) (fun wa_33 w_34 Hn_ hu_ => ?_)
          have hx_ := Hn_.toBelow (by simp)
          have hL := hL.below hx_
          have fb_b1 := fb_b1.below hx_
          have hs_q0 := hs_q0.below hx_
          have fb_b3 := fb_b3.below hx_
          have hs_q1 := hs_q1.below hx_
          have fb_b10 := fb_b10.below hx_
          have hs_q2 := hs_q2.below hx_
          have hs_q3 := hs_q3.below hx_
          have hs_q4 := hs_q4.below hx_
          have hB := hB.next hx_
          have hs_ := hB.size
          have hB := hB.trans (hu_.below hnb_b3 hs_)
          have hL := Lw.updN hL0 hL hu_ hnb_b3
          have fb_b1 := hu_.blkN fb_b1 hne_b1_b3
          have hs_q0 := hs_q0.updI hu_ (by intro k x; rcases k with _ | _ | _ | _ | _ | k <;> simp [rdc])
          have fb_b3 := hu_.now
          have hs_q1 := hs_q1.updI hu_ (by intro k x; rcases k with _ | _ | _ | _ | _ | k <;> simp [rdc])
          have fb_b10 := hu_.blkN fb_b10 (Ne.symm hne_b3_b10)
          have hs_q2 := hs_q2.updI hu_ (by intro k x; rcases k with _ | _ | _ | _ | _ | k <;> simp [rdc])
          have hs_q3 := hs_q3.updI hu_ (by intro k x; rcases k with _ | _ | _ | _ | _ | k <;> simp [rdc])
          have hs_q4 := hs_q4.updI hu_ (by intro k x; rcases k with _ | _ | _ | _ | _ | k <;> simp [rdc])
          refine wl_nil ?_
          refine fq_then ?_
          refine wc_seq ?_
          have fb_b3 : Blk w_34 b3 (rdc q4 (splW s).tail.tail.tail.tail.length (headBad (splW s))) 65 := by
            first | (simp only [headBad, h45, Bool.true_or]; exact fb_b3) | (simp only [headBad, h45, hPu.bad h49, Option.isNone_none, Bool.or_true]; exact fb_b3) | (simp only [headBad, h45, hPu.none h49, Bool.false_or]; exact fb_b3)
          refine wc_region ?_
          refine wl_q (q_move rfl rfl) rfl rfl (by decide) ?_
          refine wl_q (q_fa (o1 := 3) rfl rfl Fo25_3 rfl) rfl rfl (by decide) ?_
          refine wl_storeK fb_b10 rfl rfl rfl rfl rfl Sz22 rfl rfl (by first | (simp; done) | (simp [Value.oneCell', rdc]; done)) (by simp [Value.oneCell', rdc]) (by first | rfl | (simp only [List.take_succ_cons, List.take_zero, List.take_nil, List.drop_succ_cons, List.drop_zero, List.drop_nil, List.nil_append, List.cons_append, List.append_nil, List.length_cons, List.length_nil, Nat.reduceAdd, Nat.zero_add]; rfl)) (fun wa_35 w_36 Hn_ hu_ => ?_)
          have hx_ := Hn_.toBelow (by simp)
          have hL := hL.below hx_
          have fb_b1 := fb_b1.below hx_
          have hs_q0 := hs_q0.below hx_
          have fb_b3 := fb_b3.below hx_
          have hs_q1 := hs_q1.below hx_
          have fb_b10 := fb_b10.below hx_
          have hs_q2 := hs_q2.below hx_
          have hs_q3 := hs_q3.below hx_
          have hs_q4 := hs_q4.below hx_
          have hB := hB.next hx_
          have hs_ := hB.size
          have hB := hB.trans (hu_.below hnb_b10 hs_)
          have hL := Lw.updN hL0 hL hu_ hnb_b10
          have fb_b1 := hu_.blkN fb_b1 hne_b1_b10
          have hs_q0 := hs_q0.updI hu_ (by intro k x; rcases k with _ | _ | _ | _ | _ | k <;> simp [rdc])
          have fb_b3 := hu_.blkN fb_b3 hne_b3_b10
          have hs_q1 := hs_q1.updI hu_ (by intro k x; rcases k with _ | _ | _ | _ | _ | k <;> simp [rdc])
          have fb_b10 := hu_.now
          have hs_q2 := hs_q2.updI hu_ (by intro k x; rcases k with _ | _ | _ | _ | _ | k <;> simp [rdc])
          have hs_q3 := hs_q3.updI hu_ (by intro k x; rcases k with _ | _ | _ | _ | _ | k <;> simp [rdc])
          have hs_q4 := hs_q4.updI hu_ (by intro k x; rcases k with _ | _ | _ | _ | _ | k <;> simp [rdc])
          refine wl_nil ?_
          refine fq_then ?_
          refine wc_seq ?_
          refine wc_block ?_
          refine wc_ground (fun wF Hn_ => ?_)
          have hx_ := Hn_.toBelow (by simp)
          have hL := hL.below hx_
          have fb_b1 := fb_b1.below hx_
          have hs_q0 := hs_q0.below hx_
          have fb_b3 := fb_b3.below hx_
          have hs_q1 := hs_q1.below hx_
          have fb_b10 := fb_b10.below hx_
          have hs_q2 := hs_q2.below hx_
          have hs_q3 := hs_q3.below hx_
          have hs_q4 := hs_q4.below hx_
          have hB := hB.next hx_
          obtain ⟨o_, x_, hgc⟩ : ∃ o x, wF.cell? ⟨gw, o, none⟩ = some (.string x) := by
            obtain ⟨o, _, hc⟩ := hs_q0 (by intro h; rw [h] at h4; simp at h4)
            have hl0 : 0 < (splW s).length := by omega
            exact ⟨o + 0, _, hc 0 _ (List.getElem?_eq_getElem hl0)⟩
          have hg_b1 : gw ≠ b1 := blk_ne hgc fb_b1 (by intro k; rcases k with _ | _ | _ | _ | _ | k <;> simp [rdc])
          have hg_b10 : gw ≠ b10 := blk_ne hgc fb_b10 (by intro k; rcases k with _ | _ | _ | _ | _ | k <;> simp [rdc])
          have hg_b3 : gw ≠ b3 := blk_ne hgc fb_b3 (by intro k; rcases k with _ | _ | _ | _ | _ | k <;> simp [rdc])
          have hgl : gw < wF.heap.size := block_lt_of_cell hgc
          have hszF := hB.size
          have hnK := count_len s
          refine wc_thaw 0 rfl (show b1 < wF.heap.size from fb_b1.lt) fb_b1 ?_
          refine wc_thaw 1 rfl (show b10 < wF.heap.size ∧ b10 ≠ b1 from ⟨fb_b10.lt, (Ne.symm hne_b1_b10)⟩) fb_b10 ?_
          refine wc_own (E := 49) (sz := 3) ?_
          refine wc_thaw 3 rfl (show (b3 < wF.heap.size ∧ b3 ≠ b1) ∧ b3 ≠ b10 from ⟨⟨fb_b3.lt, (Ne.symm hne_b1_b3)⟩, hne_b3_b10⟩) fb_b3 ?_
          have hF0 : ∀ k, k < w.heap.size → ((k < wF.heap.size ∧ k ≠ b1) ∧ k ≠ b10) ∧ k ≠ b3 := fun k hk => ⟨⟨⟨by omega, by omega⟩, by omega⟩, by omega⟩
          have hFg : ((gw < wF.heap.size ∧ gw ≠ b1) ∧ gw ≠ b10) ∧ gw ≠ b3 := ⟨⟨⟨hgl, hg_b1⟩, hg_b10⟩, hg_b3⟩
          refine wc_loop (ι := (Nat × Nat × List S49 × List ByteArray × Bool × Gh × Gh)) (fun ⟨n, k, L, ws, bad, q, qe⟩ => [(2, .pointer (some ⟨b1, 0, none⟩)), (3, .int .i64 0), (4, .pointer (some ⟨b3, 0, none⟩)), (5, .pointer (some ⟨b10, 0, none⟩))]) (fun ⟨n, k, L, ws, bad, q, qe⟩ => [.blk b3 (rdc q ws.length bad) 65, .own 0 49 3 (.slice qe.1 n qe.2) n (L.flatMap c49), .blk b10 [.bool ((hdB (splW s)).toList == mainsB.toList), .bool ((hdB (splW s).tail).toList == genB.toList), .int .i64 v_q3, .int .u64 u, .slice qe.1 n qe.2] 25, .blk b1 [.bool false, .bool false, .int .i64 0, .int .u64 0, .slice none 0 0] 25, .ro (fun k => ((k < wF.heap.size ∧ k ≠ b1) ∧ k ≠ b10) ∧ k ≠ b3) wF]) (fun ⟨n, k, L, ws, bad, q, qe⟩ => n = L.length ∧ n + k ≤ 5000 ∧ ws.length ≤ k ∧ StrsG gw wF q.1 ws ∧ ws.length ≤ q.2 ∧ (∀ x ∈ ws, x.size ≤ 4096) ∧ (bad = false → headBad (splW s) = false ∧ evsF (splW s).length (splW s).tail.tail.tail.tail = (evsF k ws).map (L ++ ·)) ∧ (bad = true → headBad (splW s) = true ∨ evsF (splW s).length (splW s).tail.tail.tail.tail = none)) (fun ⟨n, k, L, ws, bad, q, qe⟩ => ws.length) (0, (splW s).length, [], (splW s).tail.tail.tail.tail, headBad (splW s), q4, (none, 0)) ⟨rfl, by omega, by simp only [List.length_tail]; omega, hs_q4, hc_q4, fun x hx => hwz x (List.mem_of_mem_tail (List.mem_of_mem_tail (List.mem_of_mem_tail (List.mem_of_mem_tail hx)))), fun h => ⟨h, by simp⟩, fun h => .inl h⟩ ⟨List.forall_mem_cons.2 ⟨rfl, List.forall_mem_cons.2 ⟨rfl, List.forall_mem_cons.2 ⟨rfl, List.forall_mem_cons.2 ⟨rfl, fun _ h => (by cases h)⟩⟩⟩⟩, List.Sublist.refl _⟩ ?_
          rintro ⟨n, k, L, ws, bad, q, qe⟩ ⟨hnL, hnk, hwk, hsq, hcq, hwsz, hbf, hbt⟩
          dsimp only at hnL hnk hwk hsq hcq hwsz hbf hbt ⊢
          refine wc_seq ?_
          refine wc_seq ?_
          refine wc_region ?_
          refine wl_q (q_move rfl rfl) rfl rfl (by decide) ?_
          refine wl_q (q_nilCheck rfl rfl) rfl rfl (by decide) ?_
          refine wl_q (q_fa (o1 := 0) rfl rfl Fo65_0 rfl) rfl rfl (by decide) ?_
          refine wl_q (q_load rfl rfl Mn54 (reads1 (i := 0) rfl rfl)) rfl rfl (by decide) ?_
          refine wl_q (q_len rfl rfl Tryz.underlying54) rfl rfl (by decide) ?_
          refine wl_q (q_bin rfl rfl rfl rfl) rfl rfl (by decide) ?_
          refine wl_q (q_move rfl rfl) rfl rfl (by decide) ?_
          refine wl_split (t := 65) rfl (fun h65 => ?_) (fun h65 => ?_)
          · skip
            have q65 := h65
            try simp only [decide_eq_true_eq, decide_eq_false_iff_not, beq_iff_eq, beq_eq_false_iff_ne, bne_iff_ne, ne_eq, bne_eq_false_iff_eq, Int.not_lt, Int.not_le] at q65
            refine wl_want (b := true) (q_move rfl rfl) rfl rfl rfl rfl (by decide) ?_
            refine wl_want (b := true) (q_nilCheck rfl rfl) rfl rfl rfl rfl (by decide) ?_
            refine wl_want (b := true) (q_fa (o1 := 1) rfl rfl Fo65_1 rfl) rfl rfl rfl rfl (by decide) ?_
            refine wl_want (b := true) (q_load rfl rfl Mn4 (reads1 (i := 0) rfl rfl)) rfl rfl rfl rfl (by decide) ?_
            refine wl_want (b := true) (q_not rfl rfl) rfl rfl rfl rfl (by decide) ?_
            refine wl_q (q_pick rfl rfl rfl) rfl rfl (by decide) ?_
            refine wl_nil ?_
            refine fq_then ?_
            refine wc_cond rfl (fun h71 => ?_) (fun h71 => ?_)
            · skip
              have q71 := h71
              try simp only [decide_eq_true_eq, decide_eq_false_iff_not, beq_iff_eq, beq_eq_false_iff_ne, bne_iff_ne, ne_eq, bne_eq_false_iff_eq, Int.not_lt, Int.not_le] at q71
              refine wc_skip ?_
              refine fq_then ?_
              refine wc_block ?_
              have hbd : bad = false := by simpa using h71
              subst hbd
              obtain ⟨qi_, hqi⟩ := ev_inh hsq hcq
              haveI : Nonempty (EvI gw wF ws) := ⟨⟨((qi_, evVal ws), 0), hqi⟩⟩
              refine wc_any Fol (any_drawG (ι := (EvI gw wF ws)) 5 1 [(3, fun X => [.blk b3 (rdc (X 3).1.1.1 (evRest ws).length (evBad false ws)) 65]), (4, fun X => [.blk (X 4).1.2 _ 49])] [⟨[], [], []⟩, ⟨[], [], []⟩, ⟨[], [], []⟩, ⟨[5], [], []⟩, ⟨[], [], [3]⟩] (by kernel_rfl) (ChainG.yield [] [] (fun X => q_fa (o1 := 4) rfl rfl Fo25_4 rfl) rfl rfl (fun _ => rfl) (fun _ _ => rfl) (fun X Y h0 h => ⟨by first | rfl | simp only [h0], by first | rfl | simp only [h0]⟩) (ChainG.yield [] [] (fun X => q_load rfl rfl Mn23 (reads1 (i := 1) rfl rfl)) rfl rfl (fun _ => rfl) (fun _ _ => rfl) (fun X Y h0 h => ⟨by first | rfl | simp only [h0], by first | rfl | simp only [h0]⟩) (ChainG.yield [] [] (fun X => q_move rfl rfl) rfl rfl (fun _ => rfl) (fun _ _ => rfl) (fun X Y h0 h => ⟨by first | rfl | simp only [h0], by first | rfl | simp only [h0]⟩) (ChainG.ope (fun (X : Nat → (EvI gw wF ws)) => .agg #[.int .i64 (X 3).1.1.2.f0, .int .i64 (X 3).1.1.2.f1, .int .i64 (X 3).1.1.2.f2]) [5] [] (fun X => oe_call rfl En28 rfl (fun R w1 hw1 => event_items hw1 (by simp) hL0 hL hF0 hFg hsq hcq (fun x hx => Nat.le_trans (hwsz x hx) (by decide)))) rfl rfl (fun X Y h0 h => ⟨by first | rfl | (show (.agg #[.int .i64 (X 3).1.1.2.f0, .int .i64 (X 3).1.1.2.f1, .int .i64 (X 3).1.1.2.f2] : Value) = .agg #[.int .i64 (Y 3).1.1.2.f0, .int .i64 (Y 3).1.1.2.f1, .int .i64 (Y 3).1.1.2.f2]; simp only [h0]), by first | rfl | (show ([.blk b3 (rdc (X 3).1.1.1 (evRest ws).length (evBad false ws)) 65] : List Sx.Item) = [.blk b3 (rdc (Y 3).1.1.1 (evRest ws).length (evBad false ws)) 65]; simp only [h0])⟩) (ChainG.mkG (fun x => x.1.2) (fun k => (⟨((qi_, evVal ws), k), hqi⟩ : EvI gw wF ws)) (fun _ => rfl) (fun b => .slice (some ⟨b, 0, none⟩) 1 1) [3] (fun X => om_buildSlice rfl rfl Tryz.underlying23 (built_one Sz49 (by decide) Zs49 (by decide) rfl rfl)) rfl rfl (fun _ => rfl) (fun _ _ => rfl) (fun X Y h0 h => ⟨by first | rfl | simp only [h0, h 3 (by decide)], by first | rfl | (show ([.blk (X 4).1.2 _ 49] : List Sx.Item) = [.blk (Y 4).1.2 _ 49]; simp only [h0, h 3 (by decide)])⟩) (ChainG.nil _ _)))))) rfl rfl (fun X => [_, _, _, _, _, _]) (fun _ => rfl) (fun X => ?_))
              generalize X 3 = ev1
              generalize (X 4).1.2 = b37
              refine wl_append (i := 2) (m := 1) (news := [.int .i64 ev1.1.1.2.f0, .int .i64 ev1.1.1.2.f1, .int .i64 ev1.1.1.2.f2]) rfl rfl rfl (by decide) Tryz.underlying23 Ap49 (by decide) rfl rfl rfl (readsAll (i := 1) rfl) rfl (by simp [Value.oneCell']) (by unfold maxLen; omega) (by omega) (fun v77 _ => ?_)
              refine wl_ownForm (i := 2) rfl (fun A77 c77 e77 f77 => ?_)
              subst e77
              skip
              refine wl_q (q_fa (o1 := 4) rfl rfl Fo25_4 rfl) rfl rfl (by decide) ?_
              refine wl_store (i := 3) rfl rfl rfl rfl rfl rfl Sz23 rfl rfl (by simp) (by simp [Value.oneCell', rdc]) (by first | (simp only [List.take_succ_cons, List.take_zero, List.take_nil, List.drop_succ_cons, List.drop_zero, List.drop_nil, List.nil_append, List.cons_append, List.append_nil, List.length_cons, List.length_nil, Nat.reduceAdd, Nat.zero_add]; rfl) | rfl) (by first | (simp only [List.set_cons_zero, List.set_cons_succ]; rfl) | rfl) ?_
              refine wl_nil ?_
              refine fq_block ?_
              refine fq_ownEq 2 (v' := .slice A77 (n + 1) c77) (n' := n + 1) (xs' := (L ++ [ev1.1.1.2]).flatMap c49) rfl rfl rfl (by rw [List.flatMap_append]; rfl) ?_
              refine fq_next (n + 1, k - 1, L ++ [ev1.1.1.2], evRest ws, evBad false ws, ev1.1.1.1, (A77, c77)) (by
                  obtain ⟨⟨e1, e2⟩, e3⟩ := ev1.2
                  have hb0 := hbf rfl
                  have hne : ws ≠ [] := by intro h; subst h; simp at h65
                  obtain ⟨w0_, ws_, rfl⟩ := List.exists_cons_of_ne_nil hne
                  obtain ⟨k, rfl⟩ : ∃ j, k = j + 1 := ⟨k - 1, by simp at hwk; omega⟩
                  obtain ⟨st1, st2⟩ := evs_step hb0.2
                  have hrl := rest_lt hne
                  obtain ⟨jd, hjd⟩ := rest_drop (w0_ :: ws_)
                  exact ⟨by simp [hnL], by simp; omega, by simp only [Nat.add_sub_cancel]; simp at hwk hrl ⊢; omega, e1, e2, fun x hx => hwsz x (List.mem_of_mem_drop (hjd ▸ hx)), fun hb => ⟨hb0.1, by rw [evVal_of e3 hb]; exact st2 hb⟩, fun hb => .inr (st1 hb)⟩) (rest_lt (by intro h; subst h; simp at h65)) ⟨List.forall_mem_cons.2 ⟨rfl, List.forall_mem_cons.2 ⟨rfl, List.forall_mem_cons.2 ⟨rfl, List.forall_mem_cons.2 ⟨rfl, fun _ h => (by cases h)⟩⟩⟩⟩, List.Sublist.cons_cons _ (List.Sublist.cons _ (List.Sublist.cons_cons _ (List.Sublist.cons_cons _ (List.Sublist.cons_cons _ (List.Sublist.cons_cons _ (List.Sublist.refl []))))))⟩
            · skip
              have q71 := h71
              try simp only [decide_eq_true_eq, decide_eq_false_iff_not, beq_iff_eq, beq_eq_false_iff_ne, bne_iff_ne, ne_eq, bne_eq_false_iff_eq, Int.not_lt, Int.not_le] at q71
              skip
              refine wc_exit ?_
              refine fq_then_exit ?_
              refine fq_then_exit ?_
              refine fq_block_hit ?_
              refine fq_then ?_
              refine wc_seq ?_
              refine wc_seq ?_
              refine wc_region ?_
              refine wl_q (q_move rfl rfl) rfl rfl (by decide) ?_
              refine wl_q (q_nilCheck rfl rfl) rfl rfl (by decide) ?_
              refine wl_q (q_fa (o1 := 1) rfl rfl Fo65_1 rfl) rfl rfl (by decide) ?_
              refine wl_q (q_load rfl rfl Mn4 (reads1 (i := 0) rfl rfl)) rfl rfl (by decide) ?_
              refine wl_nil ?_
              refine fq_then ?_
              refine wc_cond rfl (fun h82 => ?_) (fun h82 => ?_)
              · skip
                have q82 := h82
                try simp only [decide_eq_true_eq, decide_eq_false_iff_not, beq_iff_eq, beq_eq_false_iff_ne, bne_iff_ne, ne_eq, bne_eq_false_iff_eq, Int.not_lt, Int.not_le] at q82
                refine wc_seq ?_
                skip
                refine wc_region ?_
                refine wl_q (q_build rfl rfl (built_of Zr25 Pl25 (by simp only [fillL, List.map_cons, List.map_nil, Value.cells, List.getElem?_cons_zero, List.getElem?_cons_succ, List.length_cons, List.length_nil, Nat.reduceAdd, Nat.reduceLeDiff, Nat.le_refl, and_self, and_true, true_and, if_true, Nat.zero_add, spl, List.take_succ_cons, List.take_zero, List.take_nil, List.drop_succ_cons, List.drop_zero, List.drop_nil, List.nil_append, List.cons_append, List.append_nil] <;> rfl))) rfl rfl (by decide) ?_
                refine wl_store (i := 3) rfl rfl rfl rfl rfl rfl Sz25 rfl rfl (by simp) (by simp [Value.oneCell', rdc]) (by first | (simp only [List.take_succ_cons, List.take_zero, List.take_nil, List.drop_succ_cons, List.drop_zero, List.drop_nil, List.nil_append, List.cons_append, List.append_nil, List.length_cons, List.length_nil, Nat.reduceAdd, Nat.zero_add]; rfl) | rfl) (by first | (simp only [List.set_cons_zero, List.set_cons_succ]; rfl) | rfl) ?_
                refine wl_q (q_assign rfl rfl) rfl rfl (by decide) ?_
                refine wl_nil ?_
                refine fq_then ?_
                refine wc_ret ?_
                refine fq_then_ret ?_
                refine fq_cell_tmp (i := 3) (.inl rfl) rfl rfl rfl rfl Mn25 Sz25 rfl (fun w1 H => ?_)
                have hfb : headBad (splW s) = true ∨ evsF (splW s).length (splW s).tail.tail.tail.tail = none := hbt (by exact h82)
                have ht := tick_form hsz (tick_bad h4 hfb)
                exact ⟨(none, 0), by rw [ht]; rfl, by rw [ht]; exact rowE_nil _, below_F hB H (by simp) hF0⟩
              · skip
                have h9 : bad = true := by simpa using h71
                rw [h9] at h82; cases h82
          · skip
            have q65 := h65
            try simp only [decide_eq_true_eq, decide_eq_false_iff_not, beq_iff_eq, beq_eq_false_iff_ne, bne_iff_ne, ne_eq, bne_eq_false_iff_eq, Int.not_lt, Int.not_le] at q65
            refine wl_skip (b := false) rfl rfl rfl rfl (by decide) ?_
            refine wl_skip (b := false) rfl rfl rfl rfl (by decide) ?_
            refine wl_skip (b := false) rfl rfl rfl rfl (by decide) ?_
            refine wl_skip (b := false) rfl rfl rfl rfl (by decide) ?_
            refine wl_skip (b := false) rfl rfl rfl rfl (by decide) ?_
            refine wl_q (q_pick rfl rfl rfl) rfl rfl (by decide) ?_
            refine wl_nil ?_
            refine fq_then ?_
            refine wc_false rfl ?_
            refine wc_exit ?_
            refine fq_then_exit ?_
            refine fq_then_exit ?_
            refine fq_block_hit ?_
            refine fq_then ?_
            refine wc_seq ?_
            refine wc_seq ?_
            refine wc_region ?_
            refine wl_q (q_move rfl rfl) rfl rfl (by decide) ?_
            refine wl_q (q_nilCheck rfl rfl) rfl rfl (by decide) ?_
            refine wl_q (q_fa (o1 := 1) rfl rfl Fo65_1 rfl) rfl rfl (by decide) ?_
            refine wl_q (q_load rfl rfl Mn4 (reads1 (i := 0) rfl rfl)) rfl rfl (by decide) ?_
            refine wl_nil ?_
            refine fq_then ?_
            refine wc_cond rfl (fun h82 => ?_) (fun h82 => ?_)
            · skip
              have q82 := h82
              try simp only [decide_eq_true_eq, decide_eq_false_iff_not, beq_iff_eq, beq_eq_false_iff_ne, bne_iff_ne, ne_eq, bne_eq_false_iff_eq, Int.not_lt, Int.not_le] at q82
              refine wc_seq ?_
              skip
              refine wc_region ?_
              refine wl_q (q_build rfl rfl (built_of Zr25 Pl25 (by simp only [fillL, List.map_cons, List.map_nil, Value.cells, List.getElem?_cons_zero, List.getElem?_cons_succ, List.length_cons, List.length_nil, Nat.reduceAdd, Nat.reduceLeDiff, Nat.le_refl, and_self, and_true, true_and, if_true, Nat.zero_add, spl, List.take_succ_cons, List.take_zero, List.take_nil, List.drop_succ_cons, List.drop_zero, List.drop_nil, List.nil_append, List.cons_append, List.append_nil] <;> rfl))) rfl rfl (by decide) ?_
              refine wl_store (i := 3) rfl rfl rfl rfl rfl rfl Sz25 rfl rfl (by simp) (by simp [Value.oneCell', rdc]) (by first | (simp only [List.take_succ_cons, List.take_zero, List.take_nil, List.drop_succ_cons, List.drop_zero, List.drop_nil, List.nil_append, List.cons_append, List.append_nil, List.length_cons, List.length_nil, Nat.reduceAdd, Nat.zero_add]; rfl) | rfl) (by first | (simp only [List.set_cons_zero, List.set_cons_succ]; rfl) | rfl) ?_
              refine wl_q (q_assign rfl rfl) rfl rfl (by decide) ?_
              refine wl_nil ?_
              refine fq_then ?_
              refine wc_ret ?_
              refine fq_then_ret ?_
              refine fq_cell_tmp (i := 3) (.inl rfl) rfl rfl rfl rfl Mn25 Sz25 rfl (fun w1 H => ?_)
              have hfb : headBad (splW s) = true ∨ evsF (splW s).length (splW s).tail.tail.tail.tail = none := hbt (by exact h82)
              have ht := tick_form hsz (tick_bad h4 hfb)
              exact ⟨(none, 0), by rw [ht]; rfl, by rw [ht]; exact rowE_nil _, below_F hB H (by simp) hF0⟩
            · skip
              have q82 := h82
              try simp only [decide_eq_true_eq, decide_eq_false_iff_not, beq_iff_eq, beq_eq_false_iff_ne, bne_iff_ne, ne_eq, bne_eq_false_iff_eq, Int.not_lt, Int.not_le] at q82
              refine wc_skip ?_
              refine fq_then ?_
              refine wc_seq ?_
              refine wc_region ?_
              refine wl_q (q_loadA rfl rfl Mn25 Sz25 rfl (readsAll (i := 2) rfl)) rfl rfl (by decide) ?_
              refine wl_store (i := 3) rfl rfl rfl rfl rfl rfl Sz25 rfl rfl (by simp) (by simp [Value.oneCell', rdc]) (by first | (simp only [List.take_succ_cons, List.take_zero, List.take_nil, List.drop_succ_cons, List.drop_zero, List.drop_nil, List.nil_append, List.cons_append, List.append_nil, List.length_cons, List.length_nil, Nat.reduceAdd, Nat.zero_add]; rfl) | rfl) (by first | (simp only [List.set_cons_zero, List.set_cons_succ]; rfl) | rfl) ?_
              refine wl_q (q_assign rfl rfl) rfl rfl (by decide) ?_
              refine wl_nil ?_
              refine fq_then ?_
              refine wc_ret ?_
              refine fq_cell_tmp (i := 3) (.inl rfl) rfl rfl rfl rfl Mn25 Sz25 rfl (fun w1 H => ?_)
              have hb0 := hbf h82
              have hws0 : ws = [] := by simpa using h65
              subst hws0
              rw [evs_nil] at hb0
              have ht := tick_ok (v := v_q3) (u := u) (L := L) hsz h4 hb0.1 (by rw [hb0.2]; simp) hv_q3 hPu.val
              exact ⟨qe, by rw [ht]; subst hnL; rfl, by rw [ht]; exact rowE_of (L := L) (H.get (i := 1) rfl) hnL (by omega), below_F hB H (by simp) hF0⟩
end Go.Proofs.YtglgipggefpoiaaGreatDoor.SF
end
