/- Texts of mine, put together (no statement stands here). -/
import Derived.Test.YtbcijmpkmmcdeaaDoorCMSafe15
import Derived.Test.YtbcijmpkmmcdeaaDoorCMSafe9
import Derived.Deep.RegionHeld
import Derived.WalkMore
import Derived.OpenShut
section
namespace Go.Proofs.YtbcijmpkmmcdeaaDoor.SF
open Go.RowKit Go.Sx Go.Proofs.YtbcijmpkmmcdeaaDoor.PAll Go.Proofs.YtbcijmpkmmcdeaaDoorW.PrintWords Go.Proofs.YtbcijmpkmmcdeaaDoorW.PrintLast Go.Proofs.YtbcijmpkmmcdeaaDoorW.PrintMore
set_option linter.unusedVariables false
set_option linter.unusedSimpArgs false
set_option maxRecDepth 100000
set_option maxHeartbeats 1000000 in
theorem TearI_calls (s0 s1 was : List Int) (wrote : Bool) (n : Int) (p0 p1 p2 : Option Addr × Nat) (w : World) (hJ : Jn.ok w (⟨s0, s1, 0, was, wrote⟩ : Jn) p0 p1 p2) (h0 : s0.length < 17592186044416) (h1 : s1.length < 17592186044416) (h2 : was.length < 17592186044416) :
    Calls Tryd.prog 31 #[.agg #[.slice p0.1 s0.length p0.2, .slice p1.1 s1.length p1.2, .int .i64 0, .slice p2.1 was.length p2.2, .bool wrote], .int .i64 n] w fun e w' => ∃ q : Gh, e = .returned (.agg (((⟨s0, s1, 0, was, wrote⟩ : Jn).tear n).cells q p1 p2).toArray) ∧ ((q = p0 ∧ (⟨s0, s1, 0, was, wrote⟩ : Jn).tear n = (⟨s0, s1, 0, was, wrote⟩ : Jn) ∧ Below w.heap.size w w') ∨ (((⟨s0, s1, 0, was, wrote⟩ : Jn).tear n).s1 = s1 ∧ ((⟨s0, s1, 0, was, wrote⟩ : Jn).tear n).was = was ∧ HeapOK w [.own 0 5 1 (.slice q.1 ((⟨s0, s1, 0, was, wrote⟩ : Jn).tear n).s0.length q.2) ((⟨s0, s1, 0, was, wrote⟩ : Jn).tear n).s0.length (nums .u8 ((⟨s0, s1, 0, was, wrote⟩ : Jn).tear n).s0), old w] w')) := by
  have hN : RowC w p0 s0 := hJ.1
  have hcap := hN.1
  refine enter (w0 := w) (hp := [old w]) (env := [(0, .agg #[.slice p0.1 s0.length p0.2, .slice p1.1 s1.length p1.2, .int .i64 0, .slice p2.1 was.length p2.2, .bool wrote]), (1, .int .i64 n)]) Tryd.func31 rfl 41 rfl (by simp) rfl (HeapOK.start _) ?_
  refine wc_seq ?_
  refine wc_region ?_
  refine wl_box rfl rfl rfl (by decide) rfl rfl (fun b1 => ?_)
  refine wl_alloc rfl rfl rfl (by decide) Zr38 (fun b2 => ?_)
  refine wl_nil ?_
  refine fq_then ?_
  refine wc_seq ?_
  refine wc_region ?_
  refine wl_q (q_fa (o1 := 2) rfl rfl Fo38_1 rfl) rfl rfl (by decide) ?_
  refine wl_q (q_load rfl rfl Mn3 (reads1 (i := 1) rfl rfl)) rfl rfl (by decide) ?_
  refine wl_q (q_fa (o1 := 0) rfl rfl Fo38_0 rfl) rfl rfl (by decide) ?_
  refine wl_q (q_indexB (off := 0) rfl rfl rfl Tryd.underlying36 Sz22 (by decide) (by decide) rfl) rfl rfl (by decide) ?_
  refine wl_q (q_load rfl rfl Mn22 (reads1 (i := 1) rfl rfl)) rfl rfl (by decide) ?_
  refine wl_q (q_assign rfl rfl) rfl rfl (by decide) ?_
  refine wl_nil ?_
  refine fq_then ?_
  refine wc_seq ?_
  refine wc_region ?_
  refine wl_q (q_move rfl rfl) rfl rfl (by decide) ?_
  refine wl_q (q_max rfl rfl rfl) rfl rfl (by decide) ?_
  refine wl_eq (t := 12) rfl (show Value.int .i64 (if n < 0 then 0 else n) = .int .i64 ((n.toNat : Nat) : Int) from congrArg (Value.int .i64) (by split <;> omega)) ?_
  refine wl_q (q_assign rfl rfl) rfl rfl (by decide) ?_
  refine wl_nil ?_
  refine fq_then ?_
  refine wc_seq ?_
  refine wc_seq ?_
  refine wc_region ?_
  refine wl_q (q_fa (o1 := 4) rfl rfl Fo38_3 rfl) rfl rfl (by decide) ?_
  refine wl_q (q_load rfl rfl Mn4 (reads1 (i := 1) rfl rfl)) rfl rfl (by decide) ?_
  refine wl_q (q_not rfl rfl) rfl rfl (by decide) ?_
  refine wl_q (q_move rfl rfl) rfl rfl (by decide) ?_
  refine wl_split (t := 16) rfl (fun h16 => ?_) (fun h16 => ?_)
  · skip
    have q16 := h16
    try simp only [decide_eq_true_eq, decide_eq_false_iff_not, beq_iff_eq, beq_eq_false_iff_ne, bne_iff_ne, ne_eq, bne_eq_false_iff_eq, Int.not_lt, Int.not_le] at q16
    refine wl_skip (b := true) rfl rfl rfl rfl (by decide) ?_
    refine wl_skip (b := true) rfl rfl rfl rfl (by decide) ?_
    refine wl_skip (b := true) rfl rfl rfl rfl (by decide) ?_
    refine wl_skip (b := true) rfl rfl rfl rfl (by decide) ?_
    refine wl_q (q_pick rfl rfl rfl) rfl rfl (by decide) ?_
    refine wl_nil ?_
    refine fq_then ?_
    refine wc_true rfl ?_
    refine wc_seq ?_
    refine wc_region ?_
    refine wl_q (q_loadA rfl rfl Mn38 Sz38 rfl (readsAll (i := 1) rfl)) rfl rfl (by decide) ?_
    refine wl_store (i := 0) rfl rfl rfl rfl rfl rfl Sz38 rfl rfl (by simp) (by simp [Value.oneCell']) (by first | (simp only [List.take_succ_cons, List.take_zero, List.take_nil, List.drop_succ_cons, List.drop_zero, List.drop_nil, List.nil_append, List.cons_append, List.append_nil, List.length_cons, List.length_nil, Nat.reduceAdd, Nat.zero_add]; rfl) | rfl) (by first | (simp only [List.set_cons_zero, List.set_cons_succ]; rfl) | rfl) ?_
    refine wl_nil ?_
    refine fq_then ?_
    refine wc_ret ?_
    refine fq_then_ret ?_
    refine fq_cell (i := 0) (.inl rfl) rfl rfl rfl Mn38 Sz38 rfl (fun w1 H => ?_)
    have e : (⟨s0, s1, 0, was, wrote⟩ : Jn).tear n = (⟨s0, s1, 0, was, wrote⟩ : Jn) := by (unfold Jn.tear; rw [if_pos (by first | exact .inl (by simpa using h16) | (right; show s0.length ≤ n.toNat; omega))])
    rw [e]
    exact ⟨p0, rfl, .inl ⟨rfl, rfl, H.toBelow (by simp)⟩⟩
  · skip
    have q16 := h16
    try simp only [decide_eq_true_eq, decide_eq_false_iff_not, beq_iff_eq, beq_eq_false_iff_ne, bne_iff_ne, ne_eq, bne_eq_false_iff_eq, Int.not_lt, Int.not_le] at q16
    refine wl_want (b := false) (q_move rfl rfl) rfl rfl rfl rfl (by decide) ?_
    refine wl_want (b := false) (q_move rfl rfl) rfl rfl rfl rfl (by decide) ?_
    refine wl_want (b := false) (q_len rfl rfl Tryd.underlying22) rfl rfl rfl rfl (by decide) ?_
    refine wl_want (b := false) (q_bin rfl rfl rfl rfl) rfl rfl rfl rfl (by decide) ?_
    refine wl_q (q_pick rfl rfl rfl) rfl rfl (by decide) ?_
    refine wl_nil ?_
    refine fq_then ?_
    refine wc_cond rfl (fun h21 => ?_) (fun h21 => ?_)
    · skip
      have q21 := h21
      try simp only [decide_eq_true_eq, decide_eq_false_iff_not, beq_iff_eq, beq_eq_false_iff_ne, bne_iff_ne, ne_eq, bne_eq_false_iff_eq, Int.not_lt, Int.not_le] at q21
      refine wc_seq ?_
      refine wc_region ?_
      refine wl_q (q_loadA rfl rfl Mn38 Sz38 rfl (readsAll (i := 1) rfl)) rfl rfl (by decide) ?_
      refine wl_store (i := 0) rfl rfl rfl rfl rfl rfl Sz38 rfl rfl (by simp) (by simp [Value.oneCell']) (by first | (simp only [List.take_succ_cons, List.take_zero, List.take_nil, List.drop_succ_cons, List.drop_zero, List.drop_nil, List.nil_append, List.cons_append, List.append_nil, List.length_cons, List.length_nil, Nat.reduceAdd, Nat.zero_add]; rfl) | rfl) (by first | (simp only [List.set_cons_zero, List.set_cons_succ]; rfl) | rfl) ?_
      refine wl_nil ?_
      refine fq_then ?_
      refine wc_ret ?_
      refine fq_then_ret ?_
      refine fq_cell (i := 0) (.inl rfl) rfl rfl rfl Mn38 Sz38 rfl (fun w1 H => ?_)
      have e : (⟨s0, s1, 0, was, wrote⟩ : Jn).tear n = (⟨s0, s1, 0, was, wrote⟩ : Jn) := by (unfold Jn.tear; rw [if_pos (by first | exact .inl (by simpa using h16) | (right; show s0.length ≤ n.toNat; omega))])
      rw [e]
      exact ⟨p0, rfl, .inl ⟨rfl, rfl, H.toBelow (by simp)⟩⟩
    · skip
      have q21 := h21
      try simp only [decide_eq_true_eq, decide_eq_false_iff_not, beq_iff_eq, beq_eq_false_iff_ne, bne_iff_ne, ne_eq, bne_eq_false_iff_eq, Int.not_lt, Int.not_le] at q21
      refine wc_skip ?_
      refine fq_then ?_
      refine wc_seq ?_
      refine wc_pick [1, 0, 2] (by decide) rfl ?_
      dsimp only [pickL, List.filterMap, List.getElem?_cons_zero, List.getElem?_cons_succ]
      refine wc_any Fol (any_drawG (ι := Gh) 18 1 [(5, fun X => [Sx.Item.own 0 5 1 (.slice (X 5).1 (s0.take n.toNat).length (X 5).2) (s0.take n.toNat).length (nums .u8 (s0.take n.toNat))]), (14, fun X => [Sx.Item.own 0 5 1 (.slice (X 14).1 ((s0.take n.toNat).length + (was.length - min n.toNat was.length)) (X 14).2) ((s0.take n.toNat).length + (was.length - min n.toNat was.length)) (nums .u8 (s0.take n.toNat) ++ nums .u8 (was.drop (min n.toNat was.length)))]), (17, fun X => [Sx.Item.blk b1 _ 38])] [⟨[], [], []⟩, ⟨[], [18], []⟩, ⟨[], [], []⟩, ⟨[], [], []⟩, ⟨[], [], []⟩, ⟨[], [], []⟩, ⟨[], [], []⟩, ⟨[], [18], []⟩, ⟨[], [], []⟩, ⟨[], [], []⟩, ⟨[], [18], []⟩, ⟨[], [18], []⟩, ⟨[], [18], []⟩, ⟨[], [], []⟩, ⟨[5], [], [5]⟩, ⟨[], [], []⟩, ⟨[], [], [5, 14]⟩, ⟨[18], [], [5, 14]⟩] (by kernel_rfl) (ChainG.yield [] [] (fun X => q_fa (o1 := 2) rfl rfl Fo38_1 rfl) rfl rfl (fun _ => rfl) (fun _ _ => rfl) (fun X Y h0 h => ⟨by first | rfl | simp only [h0], by first | rfl | simp only [h0]⟩) (ChainG.yield [18] [] (fun X => q_load rfl rfl Mn3 (reads1 (i := 0) rfl rfl)) rfl rfl (fun _ => rfl) (fun _ _ => rfl) (fun X Y h0 h => ⟨by first | rfl | simp only [h0], by first | rfl | simp only [h0]⟩) (ChainG.yield [] [] (fun X => q_move rfl rfl) rfl rfl (fun _ => rfl) (fun _ _ => rfl) (fun X Y h0 h => ⟨by first | rfl | simp only [h0], by first | rfl | simp only [h0]⟩) (ChainG.yield [] [] (fun X => q_move rfl rfl) rfl rfl (fun _ => rfl) (fun _ _ => rfl) (fun X Y h0 h => ⟨by first | rfl | simp only [h0], by first | rfl | simp only [h0]⟩) (ChainG.yield [] [] (fun X => OpQ.to (q_slice_hi rfl rfl rfl Tryd.underlying22 Sz5 (by omega) (by omega)) (show Value.slice p0.1 n.toNat p0.2 = .slice p0.1 (s0.take n.toNat).length p0.2 by rw [List.length_take, Nat.min_eq_left (by omega)])) rfl rfl (fun _ => rfl) (fun _ _ => rfl) (fun X Y h0 h => ⟨by first | rfl | simp only [h0], by first | rfl | simp only [h0]⟩) (ChainG.ope (fun (X : Nat → Gh) => .slice (X 5).1 (s0.take n.toNat).length (X 5).2) [] [] (fun X => (om_call (ι := Gh) rfl En39 rfl (fun R w1 hw1 => (cloneb_calls (l := (s0.take n.toNat)) hw1 (Kd.C_below (hN.take (by omega)).2 (hw1.toBelow (by simp))) (hN.take (by omega)).1 (by rw [List.length_take]; omega)).mono (fun e w' ⟨i, h1, h2, h3⟩ => ⟨i, h2, h3⟩)))) rfl rfl (fun X Y h0 h => ⟨by first | rfl | (show (.slice (X 5).1 (s0.take n.toNat).length (X 5).2 : Value) = .slice (Y 5).1 (s0.take n.toNat).length (Y 5).2; simp only [h0]), by first | rfl | (show ([Sx.Item.own 0 5 1 (.slice (X 5).1 (s0.take n.toNat).length (X 5).2) (s0.take n.toNat).length (nums .u8 (s0.take n.toNat))] : List Sx.Item) = [Sx.Item.own 0 5 1 (.slice (Y 5).1 (s0.take n.toNat).length (Y 5).2) (s0.take n.toNat).length (nums .u8 (s0.take n.toNat))]; simp only [h0])⟩) (ChainG.yield [] [] (fun X => q_fa (o1 := 3) rfl rfl Fo38_2 rfl) rfl rfl (fun _ => rfl) (fun _ _ => rfl) (fun X Y h0 h => ⟨by first | rfl | simp only [h0], by first | rfl | simp only [h0]⟩) (ChainG.yield [18] [] (fun X => q_load rfl rfl Mn22 (reads1 (i := 0) rfl rfl)) rfl rfl (fun _ => rfl) (fun _ _ => rfl) (fun X Y h0 h => ⟨by first | rfl | simp only [h0], by first | rfl | simp only [h0]⟩) (ChainG.yield [] [] (fun X => q_move rfl rfl) rfl rfl (fun _ => rfl) (fun _ _ => rfl) (fun X Y h0 h => ⟨by first | rfl | simp only [h0], by first | rfl | simp only [h0]⟩) (ChainG.yield [] [] (fun X => q_fa (o1 := 3) rfl rfl Fo38_2 rfl) rfl rfl (fun _ => rfl) (fun _ _ => rfl) (fun X Y h0 h => ⟨by first | rfl | simp only [h0], by first | rfl | simp only [h0]⟩) (ChainG.yield [18] [] (fun X => q_load rfl rfl Mn22 (reads1 (i := 0) rfl rfl)) rfl rfl (fun _ => rfl) (fun _ _ => rfl) (fun X Y h0 h => ⟨by first | rfl | simp only [h0], by first | rfl | simp only [h0]⟩) (ChainG.yield [18] [] (fun X => q_len rfl rfl Tryd.underlying22) rfl rfl (fun _ => rfl) (fun _ _ => rfl) (fun X Y h0 h => ⟨by first | rfl | simp only [h0], by first | rfl | simp only [h0]⟩) (ChainG.yield [18] [] (fun X => OpQ.to (q_min rfl rfl rfl) (show Value.int .i64 (if (was.length : Int) < (n.toNat : Int) then (was.length : Int) else (n.toNat : Int)) = .int .i64 ((min n.toNat was.length : Nat) : Int) from congrArg (Value.int .i64) (by split <;> omega))) rfl rfl (fun _ => rfl) (fun _ _ => rfl) (fun X Y h0 h => ⟨by first | rfl | simp only [h0], by first | rfl | simp only [h0]⟩) (ChainG.yield [] [] (fun X => q_slice_lo rfl rfl rfl Tryd.underlying22 Sz5 (by omega) (by omega)) rfl rfl (fun _ => rfl) (fun _ _ => rfl) (fun X Y h0 h => ⟨by first | rfl | simp only [h0], by first | rfl | simp only [h0]⟩) (ChainG.ope (fun (X : Nat → Gh) => .slice (X 14).1 ((s0.take n.toNat).length + (was.length - min n.toNat was.length)) (X 14).2) [5] [5] (fun X => oe_appendR (i := 0) (news := nums .u8 (was.drop (min n.toNat was.length))) rfl Tryd.underlying22 Ap5 (by decide) rfl rfl rfl (fun R w1 hw1 h0 => RowC.drop (hJ.2.2.below (hw1.toBelow (by simp))) (by omega) h0) (by simp [nums]) (fun u hu => by (unfold nums at hu; obtain ⟨x, _, rfl⟩ := List.mem_map.1 hu; rfl)) (by unfold maxLen; rw [List.length_take]; omega) (by rw [List.length_take]; omega)) rfl rfl (fun X Y h0 h => ⟨by first | rfl | (show (.slice (X 14).1 ((s0.take n.toNat).length + (was.length - min n.toNat was.length)) (X 14).2 : Value) = .slice (Y 14).1 ((s0.take n.toNat).length + (was.length - min n.toNat was.length)) (Y 14).2; simp only [h0, h 5 (by decide)]), by first | rfl | (show ([Sx.Item.own 0 5 1 (.slice (X 14).1 ((s0.take n.toNat).length + (was.length - min n.toNat was.length)) (X 14).2) ((s0.take n.toNat).length + (was.length - min n.toNat was.length)) (nums .u8 (s0.take n.toNat) ++ nums .u8 (was.drop (min n.toNat was.length)))] : List Sx.Item) = [Sx.Item.own 0 5 1 (.slice (Y 14).1 ((s0.take n.toNat).length + (was.length - min n.toNat was.length)) (Y 14).2) ((s0.take n.toNat).length + (was.length - min n.toNat was.length)) (nums .u8 (s0.take n.toNat) ++ nums .u8 (was.drop (min n.toNat was.length)))]; simp only [h0, h 5 (by decide)])⟩) (ChainG.yield [] [] (fun X => q_fa (o1 := 0) rfl rfl Fo38_0 rfl) rfl rfl (fun _ => rfl) (fun _ _ => rfl) (fun X Y h0 h => ⟨by first | rfl | simp only [h0], by first | rfl | simp only [h0]⟩) (ChainG.yield [] [5, 14] (fun X => q_indexB (off := 0) rfl rfl rfl Tryd.underlying36 Sz22 (by decide) (by decide) rfl) rfl rfl (fun _ => rfl) (fun _ _ => rfl) (fun X Y h0 h => ⟨by first | rfl | simp only [h0, h 5 (by decide), h 14 (by decide)], by first | rfl | simp only [h0, h 5 (by decide), h 14 (by decide)]⟩) (ChainG.store [18] [5, 14] (fun X => oe_storeAt (i := 0) rfl rfl rfl rfl Sz22 rfl rfl (by simp) (by simp [Value.oneCell']) rfl rfl) rfl rfl (fun _ => rfl) (fun _ _ => rfl) (fun X Y h0 h => ⟨by first | rfl | simp only [h0, h 5 (by decide), h 14 (by decide)], by first | rfl | (show ([Sx.Item.blk b1 _ 38] : List Sx.Item) = [Sx.Item.blk b1 _ 38]; simp only [h0, h 5 (by decide), h 14 (by decide)])⟩) (ChainG.nil _ _))))))))))))))))))) rfl rfl (fun X => [_, _, _, _]) (fun _ => rfl) (fun X => ?_))
      generalize X 14 = q
      try dsimp only [List.take_succ_cons, List.take_zero, List.take_nil, List.drop_succ_cons, List.drop_zero, List.drop_nil, List.nil_append, List.cons_append, List.append_nil, List.length_cons, List.length_nil, Nat.reduceAdd, Nat.zero_add]
      refine wl_nil ?_
      refine fq_then ?_
      refine wc_seq ?_
      refine wc_region ?_
      refine wl_q (q_loadA rfl rfl Mn38 Sz38 rfl (readsAll (i := 1) rfl)) rfl rfl (by decide) ?_
      refine wl_store (i := 2) rfl rfl rfl rfl rfl rfl Sz38 rfl rfl (by simp) (by simp [Value.oneCell']) (by first | (simp only [List.take_succ_cons, List.take_zero, List.take_nil, List.drop_succ_cons, List.drop_zero, List.drop_nil, List.nil_append, List.cons_append, List.append_nil, List.length_cons, List.length_nil, Nat.reduceAdd, Nat.zero_add]; rfl) | rfl) (by first | (simp only [List.set_cons_zero, List.set_cons_succ]; rfl) | rfl) ?_
      refine wl_nil ?_
      refine fq_then ?_
      refine wc_ret ?_
      refine fq_cell (i := 2) (.inl rfl) rfl rfl rfl Mn38 Sz38 rfl (fun w1 H => ?_)
      have e : (⟨s0, s1, 0, was, wrote⟩ : Jn).tear n = ⟨(s0.take n.toNat ++ was.drop (min n.toNat was.length)), s1, 0, was, wrote⟩ := by (unfold Jn.tear Jn.put Jn.now; rw [if_neg (fun h => h.elim (fun h => by (have h : wrote = false := h; rw [h] at h16; cases h16)) (fun h => by (have h : s0.length ≤ n.toNat := h; omega)))]; rfl)
      rw [e]
      have hlen : (s0.take n.toNat ++ was.drop (min n.toNat was.length)).length = (s0.take n.toNat).length + (was.length - min n.toNat was.length) := by rw [List.length_append, List.length_drop]
      have hap : nums .u8 (s0.take n.toNat) ++ nums .u8 (was.drop (min n.toNat was.length)) = nums .u8 (s0.take n.toNat ++ was.drop (min n.toNat was.length)) := (List.map_append ..).symm
      refine ⟨q, ?_, .inr ⟨rfl, rfl, ?_⟩⟩
      · simp only [Jn.cells, hlen]
      · simp only [hlen, ← hap]
        exact H.pick [0, 3] (by decide) rfl
end Go.Proofs.YtbcijmpkmmcdeaaDoor.SF
end
section
namespace Go.Proofs.YtbcijmpkmmcdeaaDoor.SF
open Go.RowKit Go.Sx Go.Proofs.YtbcijmpkmmcdeaaDoor.PAll Go.Proofs.YtbcijmpkmmcdeaaDoorW.PrintWords Go.Proofs.YtbcijmpkmmcdeaaDoorW.PrintLast Go.Proofs.YtbcijmpkmmcdeaaDoorW.PrintMore
open Go.Proofs.YtbcijmpkmmcdeaaDoor.PChk (sumP sum_ev sumP_bound)
set_option linter.unusedVariables false
set_option linter.unusedSimpArgs false
set_option maxRecDepth 100000
def J1s (bu ma : Int) (l : List S51) : Jn := ⟨[], jput bu ma l 1, 1, [], true⟩
def J2s (bu ma : Int) (l : List S51) (bu2 ma2 : Int) (l2 : List S51) : Jn := ⟨jput bu2 ma2 l2 2, jput bu ma l 1, 0, [], true⟩
theorem write1_is (bu ma : Int) (l : List S51) : J0.write bu ma l = J1s bu ma l := write_first (Nat.zero_le _) (Nat.zero_le _) (fun x hx => by cases hx) (fun x hx => by cases hx) 0 [] false bu ma l
theorem seq2 : IntKind.u64.wrap (1 + 1) = 2 := by decide
theorem load_J1 {bu ma : Int} {l : List S51} (hm : MayBe bu ma l) (hl : l.length ≤ 900) : jload (J1s bu ma l).s0 (J1s bu ma l).s1 = ⟨bu, ma, l, 1⟩ := load_put1 (a := []) (Nat.zero_le _) (fun x hx => by cases hx) hm hl
theorem write2_is {bu ma : Int} {l : List S51} (hm : MayBe bu ma l) (hl : l.length ≤ 900) (bu2 ma2 : Int) (l2 : List S51) : (J1s bu ma l).write bu2 ma2 l2 = J2s bu ma l bu2 ma2 l2 := by
  unfold Jn.write
  rw [load_J1 hm hl]
  simp only [seq2]
  rfl
theorem WriteA {p0 p1 : Gh} {bu ma cr : Int} {q : Gh} {l : List S51} {w : World} (hr : RowP w q l) (hl : l.length ≤ 900) (hh : Half w) :
    Calls Tryd.prog 33 #[.agg (J0.cells p0 p1 (none, 0)).toArray, .agg #[.int .i64 bu, .int .i64 ma, .int .i64 cr, .slice q.1 l.length q.2]] w fun e w' => ∃ i : Gh, e = .returned (.agg ((J1s bu ma l).cells p0 i p1).toArray) ∧ HeapOK w [.own 0 5 1 (.slice i.1 (jput bu ma l 1).length i.2) (jput bu ma l 1).length (nums .u8 (jput bu ma l 1)), old w] w' := by
  have h := Write1_calls J0 p0 p1 (none, 0) bu ma cr q.1 q.2 l w (J0_ok w _ _ _) Bytes_nil Bytes_nil hr.2 hr.1 (by omega) hh (by decide)
  rw [write1_is] at h
  exact h
theorem WriteB {p0 p1 p2 : Gh} {bu ma : Int} {l : List S51} {bu2 ma2 cr2 : Int} {q : Gh} {l2 : List S51} {w : World} (hJ : Jn.ok w (J1s bu ma l) p0 p1 p2) (hm : MayBe bu ma l) (hl : l.length ≤ 900) (hr : RowP w q l2) (hl2 : l2.length ≤ 900) (hh : Half w) :
    Calls Tryd.prog 33 #[.agg ((J1s bu ma l).cells p0 p1 p2).toArray, .agg #[.int .i64 bu2, .int .i64 ma2, .int .i64 cr2, .slice q.1 l2.length q.2]] w fun e w' => ∃ i : Gh, e = .returned (.agg ((J2s bu ma l bu2 ma2 l2).cells i p1 p0).toArray) ∧ HeapOK w [.own 0 5 1 (.slice i.1 (jput bu2 ma2 l2 2).length i.2) (jput bu2 ma2 l2 2).length (nums .u8 (jput bu2 ma2 l2 2)), old w] w' := by
  have h := Write0_calls (J1s bu ma l) p0 p1 p2 bu2 ma2 cr2 q.1 q.2 l2 w hJ Bytes_nil (jput_bytes hl) hr.2 hr.1 (by omega) hh (by rw [load_J1 hm hl]; exact of_decide_eq_true rfl)
  rw [write2_is hm hl, load_J1 hm hl] at h
  exact h
theorem J1_ok {w w0 : World} {hp : List Sx.Item} {i : Nat} {bu ma : Int} {l : List S51} {p0 p1 p2 : Gh} (h : HeapOK w0 hp w) (hi : hp[i]? = some (.own 0 5 1 (.slice p1.1 (jput bu ma l 1).length p1.2) (jput bu ma l 1).length (nums .u8 (jput bu ma l 1)))) (hl : l.length ≤ 900) : Jn.ok w (J1s bu ma l) p0 p1 p2 :=
  ⟨RowC.none _ _, rowC_of_own (h.get hi) rfl (jput_small (by omega)), RowC.none _ _⟩
theorem J2_ok {w w0 : World} {hp : List Sx.Item} {i j : Nat} {bu ma : Int} {l : List S51} {bu2 ma2 : Int} {l2 : List S51} {p0 p1 p2 : Gh} (h : HeapOK w0 hp w) (hi : hp[i]? = some (.own 0 5 1 (.slice p0.1 (jput bu2 ma2 l2 2).length p0.2) (jput bu2 ma2 l2 2).length (nums .u8 (jput bu2 ma2 l2 2)))) (hj : hp[j]? = some (.own 0 5 1 (.slice p1.1 (jput bu ma l 1).length p1.2) (jput bu ma l 1).length (nums .u8 (jput bu ma l 1)))) (hl : l.length ≤ 900) (hl2 : l2.length ≤ 900) : Jn.ok w (J2s bu ma l bu2 ma2 l2) p0 p1 p2 :=
  ⟨rowC_of_own (h.get hi) rfl (jput_small (by omega)), rowC_of_own (h.get hj) rfl (jput_small (by omega)), RowC.none _ _⟩
def T2s (bu ma : Int) (l : List S51) (bu2 ma2 : Int) (l2 : List S51) (n : Int) : Jn := ⟨(jput bu2 ma2 l2 2).take n.toNat, jput bu ma l 1, 0, [], true⟩
theorem tear2_is (bu ma : Int) (l : List S51) (bu2 ma2 : Int) (l2 : List S51) (n : Int) : (J2s bu ma l bu2 ma2 l2).tear n = T2s bu ma l bu2 ma2 l2 n := by
  unfold Jn.tear
  split
  · rename_i h
    rcases h with h | h
    · cases h
    · show J2s bu ma l bu2 ma2 l2 = ⟨_, _, _, _, _⟩
      rw [List.take_of_length_le (show (jput bu2 ma2 l2 2).length ≤ n.toNat from h)]
      rfl
  · show (⟨(jput bu2 ma2 l2 2).take n.toNat ++ ([] : List Int).drop _, _, _, _, _⟩ : Jn) = _
    rw [List.drop_nil, List.append_nil]
    rfl
theorem T2_b0 {bu2 ma2 : Int} {l2 : List S51} {n : Nat} (hl : l2.length ≤ 900) : Bytes ((jput bu2 ma2 l2 2).take n) := ⟨by rw [List.length_take]; have := (jput_bytes (bu := bu2) (ma := ma2) (seq := 2) hl).1; omega, fun x hx => (jput_bytes hl).2 x (List.mem_of_mem_take hx)⟩
theorem TearT {w0 w : World} {rest : List Sx.Item} {bu ma : Int} {l : List S51} {bu2 ma2 : Int} {l2 : List S51} {n : Int} {p0 p1 p2 : Gh} (hw : HeapOK w0 (.own 0 5 1 (.slice p0.1 (jput bu2 ma2 l2 2).length p0.2) (jput bu2 ma2 l2 2).length (nums .u8 (jput bu2 ma2 l2 2)) :: rest) w) (hJ : Jn.ok w (J2s bu ma l bu2 ma2 l2) p0 p1 p2) (hl : l.length ≤ 900) (hl2 : l2.length ≤ 900) :
    Calls Tryd.prog 31 #[.agg ((J2s bu ma l bu2 ma2 l2).cells p0 p1 p2).toArray, .int .i64 n] w fun e w' => ∃ q : Gh, e = .returned (.agg ((T2s bu ma l bu2 ma2 l2 n).cells q p1 p2).toArray) ∧ HeapOK w0 (.own 0 5 1 (.slice q.1 ((jput bu2 ma2 l2 2).take n.toNat).length q.2) ((jput bu2 ma2 l2 2).take n.toNat).length (nums .u8 ((jput bu2 ma2 l2 2).take n.toNat)) :: rest) w' := by
  have h1 : (jput bu2 ma2 l2 2).length ≤ 8000 := (jput_bytes hl2).1
  have h2 : (jput bu ma l 1).length ≤ 8000 := (jput_bytes hl).1
  have h := TearI_calls (jput bu2 ma2 l2 2) (jput bu ma l 1) [] true n p0 p1 p2 w hJ (by omega) (by omega) (Nat.zero_lt_of_lt (show 0 < 17592186044416 by decide))
  have ht := tear2_is bu ma l bu2 ma2 l2 n
  unfold J2s at ht
  refine h.mono (fun e w' ⟨q, h3, h4⟩ => ⟨q, ?_, ?_⟩)
  · rw [ht] at h3; exact h3
  · rcases h4 with ⟨rfl, h5, hb⟩ | ⟨_, _, h5⟩
    · rw [ht] at h5
      have h6 : (jput bu2 ma2 l2 2).take n.toNat = jput bu2 ma2 l2 2 := congrArg Jn.s0 h5
      rw [h6]
      exact hw.below hb
    · rw [ht] at h5
      exact (hw.sub (List.sublist_cons_self _ _)).lift1 h5
theorem T2_ok {w w0 : World} {hp : List Sx.Item} {i j : Nat} {bu ma : Int} {l : List S51} {bu2 ma2 : Int} {l2 : List S51} {n : Int} {p0 p1 p2 : Gh} (h : HeapOK w0 hp w) (hi : hp[i]? = some (.own 0 5 1 (.slice p0.1 ((jput bu2 ma2 l2 2).take n.toNat).length p0.2) ((jput bu2 ma2 l2 2).take n.toNat).length (nums .u8 ((jput bu2 ma2 l2 2).take n.toNat)))) (hj : hp[j]? = some (.own 0 5 1 (.slice p1.1 (jput bu ma l 1).length p1.2) (jput bu ma l 1).length (nums .u8 (jput bu ma l 1)))) (hl : l.length ≤ 900) (hl2 : l2.length ≤ 900) : Jn.ok w (T2s bu ma l bu2 ma2 l2 n) p0 p1 p2 := by
  have hb := (T2_b0 (bu2 := bu2) (ma2 := ma2) (n := n.toNat) hl2).1
  exact ⟨rowC_of_own (h.get hi) rfl (Nat.le_trans hb (of_decide_eq_true rfl)), rowC_of_own (h.get hj) rfl (jput_small (by omega)), RowC.none _ _⟩
end Go.Proofs.YtbcijmpkmmcdeaaDoor.SF
end
section
namespace Go.Proofs.YtbcijmpkmmcdeaaDoor.PChk
open Go.RowKit Go.Proofs.YtbcijmpkmmcdeaaDoor.PAll Go.Proofs.YtbcijmpkmmcdeaaDoorW.PrintWords Go.Proofs.YtbcijmpkmmcdeaaDoorW.PrintLast Go.Proofs.YtbcijmpkmmcdeaaDoorW.PrintMore
set_option linter.unusedVariables false
set_option linter.unusedSimpArgs false
theorem nodup_few : ∀ (n : Nat) (l : List Int), l.Nodup → (∀ x ∈ l, 0 ≤ x ∧ x < (n : Int)) → l.length ≤ n
  | 0, l, _, h => by
    cases l with
    | nil => exact Nat.le_refl _
    | cons x r => have := h x List.mem_cons_self; omega
  | n + 1, l, hd, h => by
    have h1 := List.length_eq_countP_add_countP (fun x => x == (n : Int)) (l := l)
    have h2 : l.countP (fun x => x == (n : Int)) ≤ 1 := List.nodup_iff_count.1 hd _
    have h3 := nodup_few n (l.filter fun x => !(x == (n : Int))) (hd.filter _) (fun x hx => by
      obtain ⟨hm, hn⟩ := List.mem_filter.1 hx
      have := h x hm
      have hn : x ≠ (n : Int) := by simpa using hn
      omega)
    rw [← List.countP_eq_length_filter] at h3
    have h4 : l.countP (fun x => !(x == (n : Int))) = l.countP (fun a => decide ¬(a == (n : Int)) = true) := by congr 1; funext a; cases a == (n : Int) <;> rfl
    omega
theorem rows64 (l : List S51) (n : Nat) (h : rowsB l n = true) (hn : n ≤ l.length) : n ≤ 64 := by
  have hrow : ∀ i, i < n → rowB l i = true := fun i hi => List.all_eq_true.1 h i (List.mem_range.2 hi)
  have hlen : ((l.take n).map S51.f0).length = n := by rw [List.length_map, List.length_take]; omega
  rw [← hlen]
  refine nodup_few 64 _ ?_ ?_
  · rw [List.nodup_iff_pairwise_ne, List.pairwise_iff_getElem]
    intro i j hi hj hij e
    rw [hlen] at hi hj
    have hr := hrow j hj
    unfold rowB at hr
    rw [rd_T51_nat l j (by omega)] at hr
    simp only [Bool.and_eq_true, Bool.not_eq_true', decide_eq_false_iff_not] at hr
    refine hr.1 ?_
    unfold ixf
    rw [if_pos]
    · omega
    · rw [List.findIdx_lt_length]
      refine ⟨l[i], ?_, ?_⟩
      · rw [List.mem_take_iff_getElem]
        exact ⟨i, by omega, rfl⟩
      · simp only [List.getElem_map, List.getElem_take] at e
        rw [e]; exact beq_self_eq_true _
  · intro x hx
    obtain ⟨p, hp, rfl⟩ := List.mem_map.1 hx
    obtain ⟨i, hi, rfl⟩ := List.mem_iff_getElem.1 hp
    rw [List.length_take] at hi
    have hr := hrow i (by omega)
    unfold rowB at hr
    rw [rd_T51_nat l i (by omega)] at hr
    simp only [Bool.and_eq_true] at hr
    rw [List.getElem_take]
    simpa [knB] using hr.2.1
set_option maxHeartbeats 4000000 in
set_option maxRecDepth 100000 in
theorem CheckL_calls (b m cr : Int) (A0 : Option Addr) (c0 : Nat) (l0 : List S51) (w : World) (hr0 : Kd.C k51 w A0 l0.length l0) (hc0 : l0.length ≤ c0) :
    Calls Tryd.prog 35 #[.agg #[.int .i64 b, .int .i64 m, .int .i64 cr, .slice A0 l0.length c0]] w fun e w' => e = .returned (.bool (chkB b m cr l0)) ∧ Below w.heap.size w w' := by
  have hu32 := Tryd.underlying32
  have hu51 := Tryd.underlying51
  have HR0 := Aside0.mk hr0
  have HC0 := Aside0.mk hc0
  have HL := Aside0.mk (show l0.length ≤ 9223372036854775807 from hr0.2.1)
  clear hr0 hc0
  have HG0 := Aside0.mk (blk_new w (.cells #[.int .i64 b, .int .i64 m, .int .i64 cr, .slice A0 l0.length c0] 32))
  have HB0 := Aside0.mk (below_alloc (Below.refl w.heap.size w) (.cells #[.int .i64 b, .int .i64 m, .int .i64 cr, .slice A0 l0.length c0] 32))
  go_enter Tryd.func35, Tryd.ntmps35
  go_wp2
  go_loopg [9] l0.length (fun g v9 w' => ∃ i : Nat, v9 = .int .i64 i ∧ Aside0 (g + i = l0.length) ∧ Aside0 (∀ p ∈ l0.take i, okP p) ∧ Aside0 (rowsB l0 i = true) ∧ Aside0 (w'.heap[w.heap.size]? = some (.cells #[.int .i64 b, .int .i64 m, .int .i64 cr, .slice A0 l0.length c0] 32 (0, 0))) ∧ Aside0 (Below w.heap.size w w'))
  case atStart => exact ⟨0, rfl, ⟨by omega⟩, ⟨by simp⟩, ⟨rfl⟩, HG0, HB0⟩
  case round =>
    clear HG0 HB0
    obtain ⟨i, rfl, HI, HV, HRB, HG, HB⟩ := hrel
    cases gk with
    | zero =>
      have hlt : decide ((i : Int) < (l0.length : Int)) = false := decide_eq_false (by have := HI.out; omega)
      have hi : i = l0.length := by have := HI.out; omega
      subst hi
      rw [List.take_length] at HV
      go_wp2
      obtain ⟨p1, hp1⟩ : ∃ p, p = pwB b := ⟨_, rfl⟩
      have h1 := pwB_ev b
      rw [← hp1] at h1
      obtain ⟨p2, hp2⟩ : ∃ p, p = pwB m := ⟨_, rfl⟩
      have h2 := pwB_ev m
      rw [← hp2] at h2
      obtain ⟨p3, hp3⟩ : ∃ p, p = pwB cr := ⟨_, rfl⟩
      have h3 := pwB_ev cr
      rw [← hp3] at h3
      have HCK := Aside0.mk (show chkB b m cr l0 = (p1 && (p2 && (p3 && decide (sumP l0 ≤ b)))) by unfold chkB; rw [HRB.out, Bool.true_and, ← hp1, ← hp2, ← hp3])
      clear hp1 hp2 hp3
      have H1 := Aside0.mk h1
      have H2 := Aside0.mk h2
      have H3 := Aside0.mk h3
      have g0 := (blk_cell HG.out 0).trans (rfl : _ = some (Value.int .i64 b))
      have g1 := (blk_cell HG.out 1).trans (rfl : _ = some (Value.int .i64 m))
      have g2 := (blk_cell HG.out 2).trans (rfl : _ = some (Value.int .i64 cr))
      clear h1 h2 h3 hlt
      have HQ := Aside0.mk (fun (x : Int) (r : Bool) (W : World) (h : ledger_power.f x = some r) => (ledger_power.calls x r W h).mono (fun e w' h => (⟨h.1, h.2.out⟩ : e = .returned (.bool r) ∧ ∃ m, w' = W.drewN m)))
      cases p1 with
      | false =>
        go_quiet (first | (go_at_call 61; exact Calls.quiet_of (HQ.out _ _ _ H1.out)))
        go_wp2
        go_ret
        exact ⟨by rw [HCK.out]; first | rfl | simp, by repeat (first | exact HB.out | apply pw_below_drewN | apply below_drew1)⟩
      | true =>
        cases p2 with
        | false =>
          go_quiet (first | (go_at_call 61; exact Calls.quiet_of (HQ.out _ _ _ H1.out)) | (go_at_call 61; exact Calls.quiet_of (HQ.out _ _ _ H2.out)))
          go_wp2
          go_ret
          exact ⟨by rw [HCK.out]; first | rfl | simp, by repeat (first | exact HB.out | apply pw_below_drewN | apply below_drew1)⟩
        | true =>
          cases p3 with
          | false =>
            go_quiet (first | (go_at_call 61; exact Calls.quiet_of (HQ.out _ _ _ H1.out)) | (go_at_call 61; exact Calls.quiet_of (HQ.out _ _ _ H2.out)) | (go_at_call 61; exact Calls.quiet_of (HQ.out _ _ _ H3.out)))
            go_wp2
            go_ret
            exact ⟨by rw [HCK.out]; first | rfl | simp, by repeat (first | exact HB.out | apply pw_below_drewN | apply below_drew1)⟩
          | true =>
            clear g0 g1 g2 HQ
            have g0 : ∀ W : World, Below wr.heap.size wr W → W.cell? ⟨w.heap.size, 0, none⟩ = some (.int .i64 b) := fun W hb => (blk_cell (blk_below HG.out hb) 0).trans rfl
            have g1 : ∀ W : World, Below wr.heap.size wr W → W.cell? ⟨w.heap.size, 1, none⟩ = some (.int .i64 m) := fun W hb => (blk_cell (blk_below HG.out hb) 1).trans rfl
            have g2 : ∀ W : World, Below wr.heap.size wr W → W.cell? ⟨w.heap.size, 2, none⟩ = some (.int .i64 cr) := fun W hb => (blk_cell (blk_below HG.out hb) 2).trans rfl
            have g3 : ∀ W : World, Below wr.heap.size wr W → W.cell? ⟨w.heap.size, 3, none⟩ = some (.slice A0 l0.length c0) := fun W hb => (blk_cell (blk_below HG.out hb) 3).trans rfl
            have HSM := Aside0.mk (sum_ev b m cr l0 HV.out (by have := rows64 l0 _ HRB.out (Nat.le_refl _); omega) (2 * l0.length + 2) (Nat.le_refl _))
            go_region_held (fun w' => Below wr.heap.size wr w') (first | assumption | exact below_step (by assumption) hb5 | (repeat (first | assumption | exact Below.refl _ _ | apply pw_below_drewN | apply below_drew1))) (first
              | (go_at_call 20; refine (ledger_Ledger_Sum.calls (2 * l0.length + 2) b m cr A0 c0 l0 _ _ (Kd.C_below HR0.out (below_step HB.out (by repeat (first | assumption | exact Below.refl _ _ | apply pw_below_drewN | apply below_drew1)))) HC0.out HSM.out).mono ?_; rintro e w5 ⟨rfl, hb5⟩)
              | (go_at_call 61; refine (ledger_power.calls b true _ H1.out).mono ?_; rintro e w' ⟨rfl, ⟨nd, rfl⟩⟩)
              | (go_at_call 61; refine (ledger_power.calls m true _ H2.out).mono ?_; rintro e w' ⟨rfl, ⟨nd, rfl⟩⟩)
              | (go_at_call 61; refine (ledger_power.calls cr true _ H3.out).mono ?_; rintro e w' ⟨rfl, ⟨nd, rfl⟩⟩))
            all_goals go_wp2
            all_goals go_ret
            all_goals exact ⟨by rw [HCK.out]; first | rfl | simp, below_step HB.out (by assumption)⟩
    | succ gko =>
      have hilt : i < l0.length := by have := HI.out; omega
      have hlt : decide ((i : Int) < (l0.length : Int)) = true := decide_eq_true (by omega)
      obtain ⟨ad1, e1, hx0, hx1⟩ := at_T51 HR0.out (i : Int) (by omega) (by omega)
      cases e1
      rw [Int.toNat_natCast] at hx0 hx1
      replace hx0 := (HB.out.cell (World.block_lt_of_cell? w _ hx0)).trans hx0
      replace hx1 := (HB.out.cell (World.block_lt_of_cell? w _ hx1)).trans hx1
      have hpv : (∀ q ∈ l0.take (i + 1), okP q) ↔ (∀ q ∈ l0.take i, okP q) ∧ okP (rd_T51 l0 (i : Int)) := by
        rw [List.take_add_one, List.getElem?_eq_getElem hilt, rd_T51_nat l0 i hilt]
        simp only [List.mem_append, Option.mem_toList, Option.mem_some_iff]
        constructor
        · intro h; exact ⟨fun q hq => h q (.inl hq), h _ (.inr rfl)⟩
        · rintro ⟨h1, h2⟩ q hq
          rcases hq with hq | hq
          · exact h1 q hq
          · first | (rw [← hq]; exact h2) | (rw [hq]; exact h2) | (subst hq; exact h2) | (have := Option.some.inj hq; first | (rw [← this]; exact h2) | (rw [this]; exact h2))
      have hno : rowB l0 i = false → chkB b m cr l0 = false := chkB_no b m cr l0 i hilt
      have hrb : rowsB l0 (i + 1) = (rowsB l0 i && rowB l0 i) := rowsB_succ l0 i
      have hrw : rowB l0 i = (!(decide (0 ≤ ixf (l0.take i) fun q => q.f0 == (rd_T51 l0 (i : Int)).f0)) && (knB (rd_T51 l0 (i : Int)).f0 && pwB (rd_T51 l0 (i : Int)).f1)) := rfl
      generalize rd_T51 l0 (i : Int) = p at hx0 hx1 hpv hrw
      have HPV := Aside0.mk hpv
      have HLT := Aside0.mk hilt
      have p1 : ((0 : Int) ≤ (i : Int)) = True := eq_true (by omega)
      have q1 : ((i : Int) < (l0.length : Int)) = True := eq_true (by omega)
      have g3 := fun o : Obj => (blk_cell (blk_alloc HG.out o) 3).trans (rfl : _ = some (Value.slice (some ad1) l0.length c0))
      have hcut := cut_to (P := Tryd.prog) 30 51 .i64 Tryd.underlying30 fit_i51.choose_spec (some ad1) l0.length c0 (i : Int) (by omega) (by omega) HC0.out
      rw [Int.toNat_natCast] at hcut
      obtain ⟨tw, htw⟩ : ∃ tw, tw = decide (0 ≤ ixf (l0.take i) fun q => q.f0 == p.f0) := ⟨_, rfl⟩
      have hcon : ∀ W : World, Below wr.heap.size wr W → W.cell? ⟨wr.heap.size, 0, none⟩ = some (.int .i64 p.f0) → Calls Tryd.prog 58 #[.slice (some ad1) i c0, .func (.func 59) #[] #[.pointer (some ⟨wr.heap.size, 0, none⟩)]] W fun e w' => e = .returned (.bool tw) ∧ Below W.heap.size W w' := fun W hb hc => by
        have hC := Kd.C_take (Kd.C_below HR0.out (below_step HB.out hb)) (Nat.le_of_lt HLT.out)
        have hlen : (l0.take i).length = i := by rw [List.length_take]; have := HLT.out; omega
        have h := contains.calls (some ad1) c0 (l0.take i) wr.heap.size p.f0 W hC (by rw [hlen]; have := HC0.out; have := HLT.out; omega) (by rw [hlen]; have := rows64 l0 i HRB.out (Nat.le_of_lt HLT.out); omega) hc
        rw [← htw] at h
        rwa [hlen] at h
      have HCON := Aside0.mk hcon
      obtain ⟨kb, hkbe⟩ : ∃ k, k = knB p.f0 := ⟨_, rfl⟩
      obtain ⟨pb, hpbe⟩ : ∃ k, k = pwB p.f1 := ⟨_, rfl⟩
      have hkb := knB_ev p.f0
      have hpb := pwB_ev p.f1
      rw [← hkbe] at hkb
      rw [← hpbe] at hpb
      rw [← htw, ← hkbe, ← hpbe] at hrw
      rw [hrw] at hno hrb
      have HNO := Aside0.mk hno
      have HRB2 := Aside0.mk hrb
      clear hpv hilt hcon htw hkbe hpbe hno hrb hrw
      have HKB := Aside0.mk hkb
      have HPB := Aside0.mk hpb
      have HC1 := Aside0.mk (blk_cell (blk_new wr (.cells #[.int .i64 p.f0, .int .i64 p.f1] 51)) 0)
      clear hkb hpb
      cases tw with
      | true =>
        go_wp2_with (first
          | (go_at_call 58; refine (HCON.out _ (below_alloc (Below.refl _ _) _) HC1.out).mono ?_; rintro e w2 ⟨rfl, hb2⟩; have HB2 := Aside0.mk (below_step (below_alloc HB.out _) hb2); clear hb2))
        go_ret
        exact ⟨by rw [HNO.out (by first | rfl | simp)]; first | rfl | simp, HB2.out⟩
      | false =>
        cases kb with
        | false =>
          go_wp2_with (first
            | (go_at_call 58; refine (HCON.out _ (below_alloc (Below.refl _ _) _) HC1.out).mono ?_; rintro e w2 ⟨rfl, hb2⟩; have HB2 := Aside0.mk (below_step (below_alloc HB.out _) hb2); have HN2 := Aside0.mk (blk_below (blk_new wr _) hb2); clear hb2; have n0 := (blk_cell HN2.out 0).trans (rfl : _ = some (Value.int .i64 p.f0)); have n1 := (blk_cell HN2.out 1).trans (rfl : _ = some (Value.int .i64 p.f1)))
            | (go_at_call 60; refine (ledger_known.calls p.f0 false _ HKB.out).mono ?_; rintro e w' ⟨rfl, ⟨nd, rfl⟩⟩))
          go_ret
          exact ⟨by rw [HNO.out (by first | rfl | simp)]; first | rfl | simp, by repeat (first | exact HB2.out | apply pw_below_drewN | apply below_drew1)⟩
        | true =>
          cases pb with
          | false =>
            go_wp2_with (first
              | (go_at_call 58; refine (HCON.out _ (below_alloc (Below.refl _ _) _) HC1.out).mono ?_; rintro e w2 ⟨rfl, hb2⟩; have HB2 := Aside0.mk (below_step (below_alloc HB.out _) hb2); have HN2 := Aside0.mk (blk_below (blk_new wr _) hb2); clear hb2; have n0 := (blk_cell HN2.out 0).trans (rfl : _ = some (Value.int .i64 p.f0)); have n1 := (blk_cell HN2.out 1).trans (rfl : _ = some (Value.int .i64 p.f1)))
              | (go_at_call 60; refine (ledger_known.calls p.f0 true _ HKB.out).mono ?_; rintro e w' ⟨rfl, ⟨nd, rfl⟩⟩)
              | (go_at_call 61; refine (ledger_power.calls p.f1 false _ HPB.out).mono ?_; rintro e w' ⟨rfl, ⟨nd2, rfl⟩⟩))
            go_ret
            exact ⟨by rw [HNO.out (by first | rfl | simp)]; first | rfl | simp, by repeat (first | exact HB2.out | apply pw_below_drewN | apply below_drew1)⟩
          | true =>
            go_wp2_with (first
              | (go_at_call 58; refine (HCON.out _ (below_alloc (Below.refl _ _) _) HC1.out).mono ?_; rintro e w2 ⟨rfl, hb2⟩; have HB2 := Aside0.mk (below_step (below_alloc HB.out _) hb2); have HN2 := Aside0.mk (blk_below (blk_new wr _) hb2); have HG2 := Aside0.mk (blk_below (blk_alloc HG.out _) hb2); clear hb2; have n0 := (blk_cell HN2.out 0).trans (rfl : _ = some (Value.int .i64 p.f0)); have n1 := (blk_cell HN2.out 1).trans (rfl : _ = some (Value.int .i64 p.f1)))
              | (go_at_call 60; refine (ledger_known.calls p.f0 true _ HKB.out).mono ?_; rintro e w' ⟨rfl, ⟨nd, rfl⟩⟩)
              | (go_at_call 61; refine (ledger_power.calls p.f1 true _ HPB.out).mono ?_; rintro e w' ⟨rfl, ⟨nd2, rfl⟩⟩))
            go_roundg gko
            case measure => omega
            case rel => exact ⟨i + 1, by rw [wi i (by have := rows64 l0 i HRB.out (Nat.le_of_lt HLT.out); omega)], ⟨by have := HI.out; omega⟩, ⟨HPV.out.2 ⟨HV.out, power_is _ HPB.out⟩⟩, ⟨by rw [HRB2.out, HRB.out]; rfl⟩, ⟨by repeat (first | exact HG2.out | apply blk_drewN | apply blk_drew)⟩, ⟨by repeat (first | exact HB2.out | apply pw_below_drewN | apply below_drew1)⟩⟩
end Go.Proofs.YtbcijmpkmmcdeaaDoor.PChk
end
