/- Texts of mine, put together (no statement stands here). -/
import Derived.Test.YtbcijmpkmmcdeaaDoorCMSafe16
section
namespace Go.Proofs.YtbcijmpkmmcdeaaDoor.SF
open Go.RowKit Go.Sx Go.Proofs.YtbcijmpkmmcdeaaDoor.PAll Go.Proofs.YtbcijmpkmmcdeaaDoorW.PrintWords Go.Proofs.YtbcijmpkmmcdeaaDoorW.PrintLast Go.Proofs.YtbcijmpkmmcdeaaDoorW.PrintMore
set_option linter.unusedVariables false
set_option linter.unusedSimpArgs false
set_option maxRecDepth 100000
theorem CheckL (a b c : Int) (q : Gh) (l : List S51) (w : World) (hr : RowP w q l) : Calls Tryd.prog 35 #[.agg #[.int .i64 a, .int .i64 b, .int .i64 c, .slice q.1 l.length q.2]] w fun e w' => e = .returned (.bool (PChk.chkB a b c l)) ∧ Below w.heap.size w w' := PChk.CheckL_calls a b c q.1 q.2 l w hr.2 hr.1
theorem HasK (bu ma cr : Int) (q : Gh) (l : List S51) (car : Int) (w : World) (hr : RowP w q l) (hl : l.length ≤ 1000) : Calls Tryd.prog 36 #[.agg #[.int .i64 bu, .int .i64 ma, .int .i64 cr, .slice q.1 l.length q.2], .int .i64 car] w fun e w' => e = .returned (.tuple #[.agg #[.int .i64 (hasP l car).1, .int .i64 (hasP l car).2.1], .bool (hasP l car).2.2]) ∧ Below w.heap.size w w' :=
  ledger_Ledger_Has.calls bu ma cr q.1 q.2 l car (hasP l car).1 (hasP l car).2.1 (hasP l car).2.2 w hr.2 hr.1 (has_ev bu ma cr l car (by omega))
theorem fst_step {l : List S28} {k : Nat} {m : S28} {c : Int} (h : l[k]? = some m) : decide (c ∉ (l.take (k + 1)).map S28.f0) = (decide (c ∉ (l.take k).map S28.f0) && (m.f0 != c)) := by
  rw [take_snoc h, ← Bool.decide_coe (_ && _)]
  simp only [List.mem_append, List.mem_singleton, Bool.and_eq_true, decide_eq_true_eq, bne_iff_ne, ne_eq, not_or]
  congr 1
  exact propext ⟨fun ⟨h1, h2⟩ => ⟨h1, fun e => h2 e.symm⟩, fun ⟨h1, h2⟩ => ⟨h1, fun e => h2 e.symm⟩⟩
theorem stp_step {s : List Int} {k : Nat} {x c : Int} (h : s[k]? = some x) : decide (c ∈ s.take (k + 1)) = (decide (c ∈ s.take k) || (x == c)) := by
  rw [List.take_add_one, h, ← Bool.decide_coe (_ || _)]
  simp only [Option.toList_some, List.mem_append, List.mem_singleton, Bool.or_eq_true, decide_eq_true_eq, beq_iff_eq]
  congr 1
  exact propext ⟨fun h => h.imp id (fun e => e.symm), fun h => h.imp id (fun e => e.symm)⟩
set_option maxHeartbeats 2000000 in
theorem safe_calls (bu ma cr tr : Int) (qw q : Gh) (lw : List S51) (l : List S28) (budget : Int) (w : World) (hr : RowP w qw lw) (hrm : RowM w q l) (hh : Half w) :
    Calls Tryd.prog 12 #[.agg #[.int .i64 bu, .int .i64 ma, .int .i64 cr, .slice qw.1 lw.length qw.2], .int .i64 tr, .slice q.1 l.length q.2, .int .i64 budget] w fun e w' => e = .returned (.bool true) ∧ Below w.heap.size w w' := by
  refine enter (w0 := w) (hp := [old w]) (env := [(0, .agg #[.int .i64 bu, .int .i64 ma, .int .i64 cr, .slice qw.1 lw.length qw.2]), (1, .int .i64 tr), (2, .slice q.1 l.length q.2), (3, .int .i64 budget)]) Tryd.func12 rfl 164 rfl (by simp) rfl (HeapOK.start _) ?_
  refine wc_seq ?_
  refine wc_region ?_
  refine wl_box rfl rfl rfl (by decide) rfl rfl (fun b1 => ?_)
  refine wl_q (q_assign rfl rfl) rfl rfl (by decide) ?_
  refine wl_nil ?_
  refine fq_then ?_
  refine wc_seq ?_
  refine wc_region ?_
  refine wl_q (q_call rfl En13 rfl (fun w1 hw1 => awake17_calls w1 (hh.keep (hw1.toBelow (by simp))))) rfl rfl (by decide) ?_
  refine wl_q (q_assign rfl rfl) rfl rfl (by decide) ?_
  refine wl_nil ?_
  refine fq_then ?_
  refine wc_seq ?_
  refine wc_seq ?_
  refine wc_region ?_
  refine wl_q (q_move rfl rfl) rfl rfl (by decide) ?_
  refine wl_q (q_not rfl rfl) rfl rfl (by decide) ?_
  refine wl_nil ?_
  refine fq_then ?_
  refine wc_false rfl ?_
  refine wc_skip ?_
  refine fq_then ?_
  refine wc_seq ?_
  refine wc_region ?_
  refine wl_q (q_move rfl rfl) rfl rfl (by decide) ?_
  refine wl_q (q_call rfl En14 rfl (fun w1 hw1 => few17_calls q l w1 (hrm.below (hw1.toBelow (by simp))))) rfl rfl (by decide) ?_
  refine wl_q (q_assign rfl rfl) rfl rfl (by decide) ?_
  refine wl_nil ?_
  refine fq_then ?_
  refine wc_seq ?_
  refine wc_seq ?_
  refine wc_region ?_
  refine wl_q (q_move rfl rfl) rfl rfl (by decide) ?_
  refine wl_q (q_not rfl rfl) rfl rfl (by decide) ?_
  refine wl_q (q_move rfl rfl) rfl rfl (by decide) ?_
  refine wl_split (t := 27) rfl (fun h27 => ?_) (fun h27 => ?_)
  · skip
    have q27 := h27
    try simp only [decide_eq_true_eq, decide_eq_false_iff_not, beq_iff_eq, beq_eq_false_iff_ne, bne_iff_ne, ne_eq, bne_eq_false_iff_eq, Int.not_lt, Int.not_le] at q27
    refine wl_skip (b := true) rfl rfl rfl rfl (by decide) ?_
    refine wl_skip (b := true) rfl rfl rfl rfl (by decide) ?_
    refine wl_skip (b := true) rfl rfl rfl rfl (by decide) ?_
    refine wl_q (q_pick rfl rfl rfl) rfl rfl (by decide) ?_
    refine wl_q (q_move rfl rfl) rfl rfl (by decide) ?_
    refine wl_skip (b := true) rfl rfl rfl rfl (by decide) ?_
    refine wl_skip (b := true) rfl rfl rfl rfl (by decide) ?_
    refine wl_skip (b := true) rfl rfl rfl rfl (by decide) ?_
    refine wl_skip (b := true) rfl rfl rfl rfl (by decide) ?_
    refine wl_q (q_pick rfl rfl rfl) rfl rfl (by decide) ?_
    refine wl_nil ?_
    refine fq_then ?_
    refine wc_true rfl ?_
    refine wc_seq ?_
    refine wc_region ?_
    refine wl_q (q_assign rfl rfl) rfl rfl (by decide) ?_
    refine wl_nil ?_
    refine fq_then ?_
    refine wc_ret ?_
    refine fq_then_ret ?_
    refine fq_ret1 rfl rfl (fun w1 H => ?_)
    exact ⟨rfl, (by first | exact hB.next (H.toBelow (by simp)) | exact H.toBelow (by simp))⟩
  · skip
    have q27 := h27
    try simp only [decide_eq_true_eq, decide_eq_false_iff_not, beq_iff_eq, beq_eq_false_iff_ne, bne_iff_ne, ne_eq, bne_eq_false_iff_eq, Int.not_lt, Int.not_le] at q27
    refine wl_want (b := false) (q_loadA rfl rfl Mn32 Sz32 rfl (readsAll (i := 0) rfl)) rfl rfl rfl rfl (by decide) ?_
    refine wl_want (b := false) (q_call rfl En35 rfl (fun w1 hw1 => CheckL bu ma cr qw lw w1 (hr.below (hw1.toBelow (by simp))))) rfl rfl rfl rfl (by decide) ?_
    refine wl_want (b := false) (q_not rfl rfl) rfl rfl rfl rfl (by decide) ?_
    refine wl_q (q_pick rfl rfl rfl) rfl rfl (by decide) ?_
    refine wl_q (q_move rfl rfl) rfl rfl (by decide) ?_
    refine wl_split (t := 32) rfl (fun h32 => ?_) (fun h32 => ?_)
    · skip
      have q32 := h32
      try simp only [decide_eq_true_eq, decide_eq_false_iff_not, beq_iff_eq, beq_eq_false_iff_ne, bne_iff_ne, ne_eq, bne_eq_false_iff_eq, Int.not_lt, Int.not_le] at q32
      refine wl_skip (b := true) rfl rfl rfl rfl (by decide) ?_
      refine wl_skip (b := true) rfl rfl rfl rfl (by decide) ?_
      refine wl_skip (b := true) rfl rfl rfl rfl (by decide) ?_
      refine wl_skip (b := true) rfl rfl rfl rfl (by decide) ?_
      refine wl_q (q_pick rfl rfl rfl) rfl rfl (by decide) ?_
      refine wl_nil ?_
      refine fq_then ?_
      refine wc_true rfl ?_
      refine wc_seq ?_
      refine wc_region ?_
      refine wl_q (q_assign rfl rfl) rfl rfl (by decide) ?_
      refine wl_nil ?_
      refine fq_then ?_
      refine wc_ret ?_
      refine fq_then_ret ?_
      refine fq_ret1 rfl rfl (fun w1 H => ?_)
      exact ⟨rfl, (by first | exact hB.next (H.toBelow (by simp)) | exact H.toBelow (by simp))⟩
    · skip
      have q32 := h32
      try simp only [decide_eq_true_eq, decide_eq_false_iff_not, beq_iff_eq, beq_eq_false_iff_ne, bne_iff_ne, ne_eq, bne_eq_false_iff_eq, Int.not_lt, Int.not_le] at q32
      refine wl_want (b := false) (q_fa (o1 := 3) rfl rfl Fo32_3 rfl) rfl rfl rfl rfl (by decide) ?_
      refine wl_want (b := false) (q_load rfl rfl Mn30 (reads1 (i := 0) rfl rfl)) rfl rfl rfl rfl (by decide) ?_
      refine wl_want (b := false) (q_len rfl rfl Tryd.underlying30) rfl rfl rfl rfl (by decide) ?_
      refine wl_want (b := false) (q_bin rfl rfl rfl rfl) rfl rfl rfl rfl (by decide) ?_
      refine wl_q (q_pick rfl rfl rfl) rfl rfl (by decide) ?_
      refine wl_nil ?_
      refine fq_then ?_
      refine wc_cond rfl (fun h37 => ?_) (fun h37 => ?_)
      · skip
        have q37 := h37
        try simp only [decide_eq_true_eq, decide_eq_false_iff_not, beq_iff_eq, beq_eq_false_iff_ne, bne_iff_ne, ne_eq, bne_eq_false_iff_eq, Int.not_lt, Int.not_le] at q37
        refine wc_seq ?_
        refine wc_region ?_
        refine wl_q (q_assign rfl rfl) rfl rfl (by decide) ?_
        refine wl_nil ?_
        refine fq_then ?_
        refine wc_ret ?_
        refine fq_then_ret ?_
        refine fq_ret1 rfl rfl (fun w1 H => ?_)
        exact ⟨rfl, (by first | exact hB.next (H.toBelow (by simp)) | exact H.toBelow (by simp))⟩
      · skip
        have q37 := h37
        try simp only [decide_eq_true_eq, decide_eq_false_iff_not, beq_iff_eq, beq_eq_false_iff_ne, bne_iff_ne, ne_eq, bne_eq_false_iff_eq, Int.not_lt, Int.not_le] at q37
        have hl1 : l.length ≤ 100 := by simpa using h27
        have hck : PChk.chkB bu ma cr lw = true := by simpa using h32
        have hlw : lw.length ≤ 64 := by simp at h37; omega
        have hm := mayBe_of hck
        have hB0 : 0 ≤ (mn (mx budget 0) 1048576) ∧ (mn (mx budget 0) 1048576) ≤ 1048576 ∧ (mn (mx budget 0) 1048576) ≤ (if budget < 0 then 0 else budget) := by (unfold mn mx; (repeat' split) <;> omega)
        have hinv := ag_inv (jload ((jput bu ma lw 2).take tr.toNat) (jput bu ma lw 1)).ps hB0.1 l l.length (Nat.le_refl _)
        have hln := hinv.ln
        refine wc_skip ?_
        refine fq_then ?_
        refine wc_seq ?_
        refine wc_any Fol (any_drawG (ι := (Gh × Gh)) 16 0 [(2, fun X => [Sx.Item.own 0 5 1 (.slice (X 2).1.1 (jput bu ma lw 1).length (X 2).1.2) (jput bu ma lw 1).length (nums .u8 (jput bu ma lw 1))]), (4, fun X => [Sx.Item.own 0 5 1 (.slice (X 4).1.1 (jput bu ma lw 2).length (X 4).1.2) (jput bu ma lw 2).length (nums .u8 (jput bu ma lw 2)), Sx.Item.own 0 5 1 (.slice (X 2).1.1 (jput bu ma lw 1).length (X 2).1.2) (jput bu ma lw 1).length (nums .u8 (jput bu ma lw 1))]), (6, fun X => [Sx.Item.own 0 5 1 (.slice (X 6).1.1 ((jput bu ma lw 2).take tr.toNat).length (X 6).1.2) ((jput bu ma lw 2).take tr.toNat).length (nums .u8 ((jput bu ma lw 2).take tr.toNat)), Sx.Item.own 0 5 1 (.slice (X 2).1.1 (jput bu ma lw 1).length (X 2).1.2) (jput bu ma lw 1).length (nums .u8 (jput bu ma lw 1))]), (9, fun X => [Sx.Item.own 0 3 1 (.slice (X 9).2.1 (agN (jload ((jput bu ma lw 2).take tr.toNat) (jput bu ma lw 1)).ps (mn (mx budget 0) 1048576) l l.length).stops.length (X 9).2.2) (agN (jload ((jput bu ma lw 2).take tr.toNat) (jput bu ma lw 1)).ps (mn (mx budget 0) 1048576) l l.length).stops.length (nums .i64 (agN (jload ((jput bu ma lw 2).take tr.toNat) (jput bu ma lw 1)).ps (mn (mx budget 0) 1048576) l l.length).stops), Sx.Item.own 0 51 2 (.slice (X 9).1.1 (agN (jload ((jput bu ma lw 2).take tr.toNat) (jput bu ma lw 1)).ps (mn (mx budget 0) 1048576) l l.length).out.length (X 9).1.2) (agN (jload ((jput bu ma lw 2).take tr.toNat) (jput bu ma lw 1)).ps (mn (mx budget 0) 1048576) l l.length).out.length ((agN (jload ((jput bu ma lw 2).take tr.toNat) (jput bu ma lw 1)).ps (mn (mx budget 0) 1048576) l l.length).out.flatMap pc51)]), (13, fun X => [Sx.Item.blk (X 13).1.2 _ 32]), (14, fun X => [Sx.Item.blk (X 13).1.2 [.int .i64 (mn (mx budget 0) 1048576), .int .i64 (jload ((jput bu ma lw 2).take tr.toNat) (jput bu ma lw 1)).mar, .int .i64 0, .slice (X 9).1.1 (agN (jload ((jput bu ma lw 2).take tr.toNat) (jput bu ma lw 1)).ps (mn (mx budget 0) 1048576) l l.length).out.length (X 9).1.2] 32])] [⟨[], [], []⟩, ⟨[], [], []⟩, ⟨[], [], [0]⟩, ⟨[], [], []⟩, ⟨[2], [], [0, 2]⟩, ⟨[], [], []⟩, ⟨[4], [], [0, 2, 4]⟩, ⟨[], [], []⟩, ⟨[], [], []⟩, ⟨[6], [], [0, 2, 4, 6]⟩, ⟨[], [], [0, 2, 4, 6, 9]⟩, ⟨[], [], [0, 2, 4, 6, 9]⟩, ⟨[], [], [0, 2, 4, 6, 9]⟩, ⟨[], [], []⟩, ⟨[13], [], [0, 2, 4, 6, 9, 13]⟩, ⟨[], [], [0, 2, 4, 6, 9, 13]⟩] (by kernel_rfl) (ChainG.ope (fun (X : Nat → (Gh × Gh)) => .agg (Jn.cells J0 (X 0).1 (X 0).2 (none, 0)).toArray) [] [] (fun X => oe_call rfl En16 rfl (fun R w1 hw1 => FromG.mono (fun e w' ⟨i, h1, h2⟩ => ⟨i, h1, hw1.below h2⟩))) rfl rfl (fun X Y h0 h => ⟨by first | rfl | (show (.agg (Jn.cells J0 (X 0).1 (X 0).2 (none, 0)).toArray : Value) = .agg (Jn.cells J0 (Y 0).1 (Y 0).2 (none, 0)).toArray; simp only [h0]), by first | rfl | simp only [h0]⟩) (ChainG.yield [] [] (fun X => q_loadA rfl rfl Mn32 Sz32 rfl (readsAll (i := 0) rfl)) rfl rfl (fun _ => rfl) (fun _ _ => rfl) (fun X Y h0 h => ⟨by first | rfl | simp only [h0], by first | rfl | simp only [h0]⟩) (ChainG.ope (fun (X : Nat → (Gh × Gh)) => .agg (Jn.cells (J1s bu ma lw) (X 0).1 (X 2).1 (X 0).2).toArray) [] [0] (fun X => oe_call rfl En33 rfl (fun R w1 hw1 => (WriteA (hr.below (hw1.toBelow (by simp))) (by omega) (hh.keep (hw1.toBelow (by simp)))).mono (fun e w' ⟨i, h1, h2⟩ => ⟨(i, i), h1, hw1.lift1 h2⟩))) rfl rfl (fun X Y h0 h => ⟨by first | rfl | (show (.agg (Jn.cells (J1s bu ma lw) (X 0).1 (X 2).1 (X 0).2).toArray : Value) = .agg (Jn.cells (J1s bu ma lw) (Y 0).1 (Y 2).1 (Y 0).2).toArray; simp only [h0, h 0 (by decide)]), by first | rfl | (show ([Sx.Item.own 0 5 1 (.slice (X 2).1.1 (jput bu ma lw 1).length (X 2).1.2) (jput bu ma lw 1).length (nums .u8 (jput bu ma lw 1))] : List Sx.Item) = [Sx.Item.own 0 5 1 (.slice (Y 2).1.1 (jput bu ma lw 1).length (Y 2).1.2) (jput bu ma lw 1).length (nums .u8 (jput bu ma lw 1))]; simp only [h0, h 0 (by decide)])⟩) (ChainG.yield [] [] (fun X => q_loadA rfl rfl Mn32 Sz32 rfl (readsAll (i := 0) rfl)) rfl rfl (fun _ => rfl) (fun _ _ => rfl) (fun X Y h0 h => ⟨by first | rfl | simp only [h0], by first | rfl | simp only [h0]⟩) (ChainG.ope (fun (X : Nat → (Gh × Gh)) => .agg (Jn.cells (J2s bu ma lw bu ma lw) (X 4).1 (X 2).1 (X 0).1).toArray) [2] [0, 2] (fun X => oe_call rfl En33 rfl (fun R w1 hw1 => (WriteB (p0 := (X 0).1) (p1 := (X 2).1) (p2 := (X 0).2) (J1_ok (i := 0) hw1 rfl (by omega)) hm (by omega) (hr.below (hw1.toBelow (by simp))) (by omega) (hh.keep (hw1.toBelow (by simp)))).mono (fun e w' ⟨i, h1, h2⟩ => ⟨(i, i), h1, hw1.lift1 h2⟩))) rfl rfl (fun X Y h0 h => ⟨by first | rfl | (show (.agg (Jn.cells (J2s bu ma lw bu ma lw) (X 4).1 (X 2).1 (X 0).1).toArray : Value) = .agg (Jn.cells (J2s bu ma lw bu ma lw) (Y 4).1 (Y 2).1 (Y 0).1).toArray; simp only [h0, h 0 (by decide), h 2 (by decide)]), by first | rfl | (show ([Sx.Item.own 0 5 1 (.slice (X 4).1.1 (jput bu ma lw 2).length (X 4).1.2) (jput bu ma lw 2).length (nums .u8 (jput bu ma lw 2)), Sx.Item.own 0 5 1 (.slice (X 2).1.1 (jput bu ma lw 1).length (X 2).1.2) (jput bu ma lw 1).length (nums .u8 (jput bu ma lw 1))] : List Sx.Item) = [Sx.Item.own 0 5 1 (.slice (Y 4).1.1 (jput bu ma lw 2).length (Y 4).1.2) (jput bu ma lw 2).length (nums .u8 (jput bu ma lw 2)), Sx.Item.own 0 5 1 (.slice (Y 2).1.1 (jput bu ma lw 1).length (Y 2).1.2) (jput bu ma lw 1).length (nums .u8 (jput bu ma lw 1))]; simp only [h0, h 0 (by decide), h 2 (by decide)])⟩) (ChainG.yield [] [] (fun X => q_move rfl rfl) rfl rfl (fun _ => rfl) (fun _ _ => rfl) (fun X Y h0 h => ⟨by first | rfl | simp only [h0], by first | rfl | simp only [h0]⟩) (ChainG.ope (fun (X : Nat → (Gh × Gh)) => .agg (Jn.cells (T2s bu ma lw bu ma lw tr) (X 6).1 (X 2).1 (X 0).1).toArray) [4] [0, 2, 4] (fun X => oe_call rfl En31 rfl (fun R w1 hw1 => (TearT (n := tr) (p0 := (X 4).1) (p1 := (X 2).1) (p2 := (X 0).1) hw1 (J2_ok (i := 0) (j := 1) hw1 rfl rfl (by omega) (by omega)) (by omega) (by omega)).mono (fun e w' ⟨q, h1, h2⟩ => ⟨(q, q), h1, h2⟩))) rfl rfl (fun X Y h0 h => ⟨by first | rfl | (show (.agg (Jn.cells (T2s bu ma lw bu ma lw tr) (X 6).1 (X 2).1 (X 0).1).toArray : Value) = .agg (Jn.cells (T2s bu ma lw bu ma lw tr) (Y 6).1 (Y 2).1 (Y 0).1).toArray; simp only [h0, h 0 (by decide), h 2 (by decide), h 4 (by decide)]), by first | rfl | (show ([Sx.Item.own 0 5 1 (.slice (X 6).1.1 ((jput bu ma lw 2).take tr.toNat).length (X 6).1.2) ((jput bu ma lw 2).take tr.toNat).length (nums .u8 ((jput bu ma lw 2).take tr.toNat)), Sx.Item.own 0 5 1 (.slice (X 2).1.1 (jput bu ma lw 1).length (X 2).1.2) (jput bu ma lw 1).length (nums .u8 (jput bu ma lw 1))] : List Sx.Item) = [Sx.Item.own 0 5 1 (.slice (Y 6).1.1 ((jput bu ma lw 2).take tr.toNat).length (Y 6).1.2) ((jput bu ma lw 2).take tr.toNat).length (nums .u8 ((jput bu ma lw 2).take tr.toNat)), Sx.Item.own 0 5 1 (.slice (Y 2).1.1 (jput bu ma lw 1).length (Y 2).1.2) (jput bu ma lw 1).length (nums .u8 (jput bu ma lw 1))]; simp only [h0, h 0 (by decide), h 2 (by decide), h 4 (by decide)])⟩) (ChainG.yield [] [] (fun X => q_move rfl rfl) rfl rfl (fun _ => rfl) (fun _ _ => rfl) (fun X Y h0 h => ⟨by first | rfl | simp only [h0], by first | rfl | simp only [h0]⟩) (ChainG.yield [] [] (fun X => q_move rfl rfl) rfl rfl (fun _ => rfl) (fun _ _ => rfl) (fun X Y h0 h => ⟨by first | rfl | simp only [h0], by first | rfl | simp only [h0]⟩) (ChainG.ope (fun (X : Nat → (Gh × Gh)) => .tuple #[.agg #[.int .i64 (mn (mx budget 0) 1048576), .int .i64 (jload ((jput bu ma lw 2).take tr.toNat) (jput bu ma lw 1)).mar, .int .i64 0, .slice (X 9).1.1 (agN (jload ((jput bu ma lw 2).take tr.toNat) (jput bu ma lw 1)).ps (mn (mx budget 0) 1048576) l l.length).out.length (X 9).1.2], .slice (X 9).2.1 (agN (jload ((jput bu ma lw 2).take tr.toNat) (jput bu ma lw 1)).ps (mn (mx budget 0) 1048576) l l.length).stops.length (X 9).2.2]) [6] [0, 2, 4, 6] (fun X => (oe_call rfl En15 rfl (fun R w1 hw1 => (Again_calls (T2s bu ma lw bu ma lw tr) (X 6).1 (X 2).1 (X 0).1 q.1 q.2 l budget w1 (T2_ok (i := 0) (j := 1) hw1 rfl rfl (by omega) (by omega)) (T2_b0 (by omega)) (jput_bytes (by omega)) (hh.keep (hw1.toBelow (by simp))) (hrm.below (hw1.toBelow (by simp))).2 hrm.1 (by omega) (Nat.le_trans (jload_len (T2_b0 (by omega)) (jput_bytes (by omega))) (of_decide_eq_true rfl))).mono (fun e w' ⟨qo, qs, h1, h2⟩ => ⟨(qo, qs), h1, hw1.lift2 h2⟩))).less (fun _ => List.sublist_append_left [_, _] _)) rfl rfl (fun X Y h0 h => ⟨by first | rfl | (show (.tuple #[.agg #[.int .i64 (mn (mx budget 0) 1048576), .int .i64 (jload ((jput bu ma lw 2).take tr.toNat) (jput bu ma lw 1)).mar, .int .i64 0, .slice (X 9).1.1 (agN (jload ((jput bu ma lw 2).take tr.toNat) (jput bu ma lw 1)).ps (mn (mx budget 0) 1048576) l l.length).out.length (X 9).1.2], .slice (X 9).2.1 (agN (jload ((jput bu ma lw 2).take tr.toNat) (jput bu ma lw 1)).ps (mn (mx budget 0) 1048576) l l.length).stops.length (X 9).2.2] : Value) = .tuple #[.agg #[.int .i64 (mn (mx budget 0) 1048576), .int .i64 (jload ((jput bu ma lw 2).take tr.toNat) (jput bu ma lw 1)).mar, .int .i64 0, .slice (Y 9).1.1 (agN (jload ((jput bu ma lw 2).take tr.toNat) (jput bu ma lw 1)).ps (mn (mx budget 0) 1048576) l l.length).out.length (Y 9).1.2], .slice (Y 9).2.1 (agN (jload ((jput bu ma lw 2).take tr.toNat) (jput bu ma lw 1)).ps (mn (mx budget 0) 1048576) l l.length).stops.length (Y 9).2.2]; simp only [h0, h 0 (by decide), h 2 (by decide), h 4 (by decide), h 6 (by decide)]), by first | rfl | (show ([Sx.Item.own 0 3 1 (.slice (X 9).2.1 (agN (jload ((jput bu ma lw 2).take tr.toNat) (jput bu ma lw 1)).ps (mn (mx budget 0) 1048576) l l.length).stops.length (X 9).2.2) (agN (jload ((jput bu ma lw 2).take tr.toNat) (jput bu ma lw 1)).ps (mn (mx budget 0) 1048576) l l.length).stops.length (nums .i64 (agN (jload ((jput bu ma lw 2).take tr.toNat) (jput bu ma lw 1)).ps (mn (mx budget 0) 1048576) l l.length).stops), Sx.Item.own 0 51 2 (.slice (X 9).1.1 (agN (jload ((jput bu ma lw 2).take tr.toNat) (jput bu ma lw 1)).ps (mn (mx budget 0) 1048576) l l.length).out.length (X 9).1.2) (agN (jload ((jput bu ma lw 2).take tr.toNat) (jput bu ma lw 1)).ps (mn (mx budget 0) 1048576) l l.length).out.length ((agN (jload ((jput bu ma lw 2).take tr.toNat) (jput bu ma lw 1)).ps (mn (mx budget 0) 1048576) l l.length).out.flatMap pc51)] : List Sx.Item) = [Sx.Item.own 0 3 1 (.slice (Y 9).2.1 (agN (jload ((jput bu ma lw 2).take tr.toNat) (jput bu ma lw 1)).ps (mn (mx budget 0) 1048576) l l.length).stops.length (Y 9).2.2) (agN (jload ((jput bu ma lw 2).take tr.toNat) (jput bu ma lw 1)).ps (mn (mx budget 0) 1048576) l l.length).stops.length (nums .i64 (agN (jload ((jput bu ma lw 2).take tr.toNat) (jput bu ma lw 1)).ps (mn (mx budget 0) 1048576) l l.length).stops), Sx.Item.own 0 51 2 (.slice (Y 9).1.1 (agN (jload ((jput bu ma lw 2).take tr.toNat) (jput bu ma lw 1)).ps (mn (mx budget 0) 1048576) l l.length).out.length (Y 9).1.2) (agN (jload ((jput bu ma lw 2).take tr.toNat) (jput bu ma lw 1)).ps (mn (mx budget 0) 1048576) l l.length).out.length ((agN (jload ((jput bu ma lw 2).take tr.toNat) (jput bu ma lw 1)).ps (mn (mx budget 0) 1048576) l l.length).out.flatMap pc51)]; simp only [h0, h 0 (by decide), h 2 (by decide), h 4 (by decide), h 6 (by decide)])⟩) (ChainG.yield [] [0, 2, 4, 6, 9] (fun X => q_move rfl rfl) rfl rfl (fun _ => rfl) (fun _ _ => rfl) (fun X Y h0 h => ⟨by first | rfl | simp only [h0, h 0 (by decide), h 2 (by decide), h 4 (by decide), h 6 (by decide), h 9 (by decide)], by first | rfl | simp only [h0, h 0 (by decide), h 2 (by decide), h 4 (by decide), h 6 (by decide), h 9 (by decide)]⟩) (ChainG.yield [] [0, 2, 4, 6, 9] (fun X => q_extract rfl rfl rfl) rfl rfl (fun _ => rfl) (fun _ _ => rfl) (fun X Y h0 h => ⟨by first | rfl | simp only [h0, h 0 (by decide), h 2 (by decide), h 4 (by decide), h 6 (by decide), h 9 (by decide)], by first | rfl | simp only [h0, h 0 (by decide), h 2 (by decide), h 4 (by decide), h 6 (by decide), h 9 (by decide)]⟩) (ChainG.yield [] [0, 2, 4, 6, 9] (fun X => q_extract rfl rfl rfl) rfl rfl (fun _ => rfl) (fun _ _ => rfl) (fun X Y h0 h => ⟨by first | rfl | simp only [h0, h 0 (by decide), h 2 (by decide), h 4 (by decide), h 6 (by decide), h 9 (by decide)], by first | rfl | simp only [h0, h 0 (by decide), h 2 (by decide), h 4 (by decide), h 6 (by decide), h 9 (by decide)]⟩) (ChainG.mkG (fun x => x.1.2) (fun k => ((none, k), (none, 0))) (fun _ => rfl) (fun b => .pointer (some ⟨b, 0, none⟩)) [] (fun X => om_alloc rfl Zr32) rfl rfl (fun _ => rfl) (fun _ _ => rfl) (fun X Y h0 h => ⟨by first | rfl | simp only [h0], by first | rfl | (show ([Sx.Item.blk (X 13).1.2 _ 32] : List Sx.Item) = [Sx.Item.blk (Y 13).1.2 _ 32]; simp only [h0])⟩) (ChainG.store [13] [0, 2, 4, 6, 9, 13] (fun X => oe_storeAt (X' := [Sx.Item.blk (X 13).1.2 [.int .i64 (mn (mx budget 0) 1048576), .int .i64 (jload ((jput bu ma lw 2).take tr.toNat) (jput bu ma lw 1)).mar, .int .i64 0, .slice (X 9).1.1 (agN (jload ((jput bu ma lw 2).take tr.toNat) (jput bu ma lw 1)).ps (mn (mx budget 0) 1048576) l l.length).out.length (X 9).1.2] 32]) (i := 0) rfl rfl rfl rfl Sz32 rfl rfl (by simp) (by simp [Value.oneCell']) rfl rfl) rfl rfl (fun _ => rfl) (fun _ _ => rfl) (fun X Y h0 h => ⟨by first | rfl | simp only [h0, h 0 (by decide), h 2 (by decide), h 4 (by decide), h 6 (by decide), h 9 (by decide), h 13 (by decide)], by first | rfl | (show ([Sx.Item.blk (X 13).1.2 [.int .i64 (mn (mx budget 0) 1048576), .int .i64 (jload ((jput bu ma lw 2).take tr.toNat) (jput bu ma lw 1)).mar, .int .i64 0, .slice (X 9).1.1 (agN (jload ((jput bu ma lw 2).take tr.toNat) (jput bu ma lw 1)).ps (mn (mx budget 0) 1048576) l l.length).out.length (X 9).1.2] 32] : List Sx.Item) = [Sx.Item.blk (Y 13).1.2 [.int .i64 (mn (mx budget 0) 1048576), .int .i64 (jload ((jput bu ma lw 2).take tr.toNat) (jput bu ma lw 1)).mar, .int .i64 0, .slice (Y 9).1.1 (agN (jload ((jput bu ma lw 2).take tr.toNat) (jput bu ma lw 1)).ps (mn (mx budget 0) 1048576) l l.length).out.length (Y 9).1.2] 32]; simp only [h0, h 0 (by decide), h 2 (by decide), h 4 (by decide), h 6 (by decide), h 9 (by decide), h 13 (by decide)])⟩) (ChainG.yield [] [0, 2, 4, 6, 9, 13] (fun X => q_assign rfl rfl) rfl rfl (fun _ => rfl) (fun _ _ => rfl) (fun X Y h0 h => ⟨by first | rfl | simp only [h0, h 0 (by decide), h 2 (by decide), h 4 (by decide), h 6 (by decide), h 9 (by decide), h 13 (by decide)], by first | rfl | simp only [h0, h 0 (by decide), h 2 (by decide), h 4 (by decide), h 6 (by decide), h 9 (by decide), h 13 (by decide)]⟩) (ChainG.nil _ _))))))))))))))))) rfl rfl (fun X => [_, _, _, _, _]) (fun _ => rfl) (fun X => ?_))
        generalize X 0 = g0
        generalize X 2 = g2
        generalize X 4 = g4
        generalize X 6 = g6
        generalize X 9 = g9
        generalize (X 13).1.2 = bx
        try dsimp only [List.take_succ_cons, List.take_zero, List.take_nil, List.drop_succ_cons, List.drop_zero, List.drop_nil, List.nil_append, List.cons_append, List.append_nil, List.length_cons, List.length_nil, Nat.reduceAdd, Nat.zero_add]
        refine wl_nil ?_
        refine fq_then ?_
        refine wc_seq ?_
        refine wc_seq ?_
        refine wc_region ?_
        refine wl_q (q_loadA rfl rfl Mn32 Sz32 rfl (readsAll (i := 2) rfl)) rfl rfl (by decide) ?_
        refine wl_q (OpQ.to (q_call rfl En35 rfl (fun w1 hw1 => check_calls (mn (mx budget 0) 1048576) (jload ((jput bu ma lw 2).take tr.toNat) (jput bu ma lw 1)).mar 0 g9.1 (agN (jload ((jput bu ma lw 2).take tr.toNat) (jput bu ma lw 1)).ps (mn (mx budget 0) 1048576) l l.length).out w1 ⟨own_cap (hw1.get (i := 1) rfl), C51_of_own (hw1.get (i := 1) rfl) (by omega)⟩ (by omega))) (congrArg Value.bool (chk_of hinv.nd hinv.rg ⟨hB0.1, hB0.2.1⟩ (jload_mar _ _) ⟨Int.le_refl 0, of_decide_eq_true rfl⟩ hinv.sm))) rfl rfl (by decide) ?_
        refine wl_q (q_not rfl rfl) rfl rfl (by decide) ?_
        refine wl_q (q_move rfl rfl) rfl rfl (by decide) ?_
        refine wl_want (b := false) (q_fa (o1 := 2) rfl rfl Fo32_2 rfl) rfl rfl rfl rfl (by decide) ?_
        refine wl_want (b := false) (q_load rfl rfl Mn3 (reads1 (i := 2) rfl rfl)) rfl rfl rfl rfl (by decide) ?_
        refine wl_want (b := false) (OpQ.to (q_bin rfl rfl rfl rfl) (congrArg Value.bool (by rfl))) rfl rfl rfl rfl (by decide) ?_
        refine wl_q (q_pick rfl rfl rfl) rfl rfl (by decide) ?_
        refine wl_q (q_move rfl rfl) rfl rfl (by decide) ?_
        refine wl_want (b := false) (q_loadA rfl rfl Mn32 Sz32 rfl (readsAll (i := 2) rfl)) rfl rfl rfl rfl (by decide) ?_
        refine wl_want (b := false) (q_call rfl En20 rfl (fun w1 hw1 => SumK (mn (mx budget 0) 1048576) (jload ((jput bu ma lw 2).take tr.toNat) (jput bu ma lw 1)).mar 0 g9.1 (agN (jload ((jput bu ma lw 2).take tr.toNat) (jput bu ma lw 1)).ps (mn (mx budget 0) 1048576) l l.length).out w1 ⟨own_cap (hw1.get (i := 1) rfl), C51_of_own (hw1.get (i := 1) rfl) (by omega)⟩ (fun p hp => (hinv.rg p hp).2) (by omega))) rfl rfl rfl rfl (by decide) ?_
        refine wl_want (b := false) (q_move rfl rfl) rfl rfl rfl rfl (by decide) ?_
        refine wl_want (b := false) (q_max rfl rfl rfl) rfl rfl rfl rfl (by decide) ?_
        refine wl_want (b := false) (OpQ.to (q_bin rfl rfl rfl rfl) (congrArg Value.bool (decide_eq_false (by have := hinv.sm; omega)))) rfl rfl rfl rfl (by decide) ?_
        refine wl_q (q_pick rfl rfl rfl) rfl rfl (by decide) ?_
        refine wl_q (q_move rfl rfl) rfl rfl (by decide) ?_
        refine wl_want (b := false) (q_fa (o1 := 3) rfl rfl Fo32_3 rfl) rfl rfl rfl rfl (by decide) ?_
        refine wl_want (b := false) (q_load rfl rfl Mn30 (reads1 (i := 2) rfl rfl)) rfl rfl rfl rfl (by decide) ?_
        refine wl_want (b := false) (q_len rfl rfl Tryd.underlying30) rfl rfl rfl rfl (by decide) ?_
        refine wl_want (b := false) (q_move rfl rfl) rfl rfl rfl rfl (by decide) ?_
        refine wl_want (b := false) (q_len rfl rfl Tryd.underlying33) rfl rfl rfl rfl (by decide) ?_
        refine wl_want (b := false) (q_bin rfl rfl rfl rfl) rfl rfl rfl rfl (by decide) ?_
        refine wl_want (b := false) (q_move rfl rfl) rfl rfl rfl rfl (by decide) ?_
        refine wl_want (b := false) (q_len rfl rfl Tryd.underlying23) rfl rfl rfl rfl (by decide) ?_
        refine wl_want (b := false) (OpQ.to (q_bin rfl rfl rfl rfl) (congrArg Value.bool (decide_eq_false (by rw [wrap_id (by omega)]; omega)))) rfl rfl rfl rfl (by decide) ?_
        refine wl_q (q_pick rfl rfl rfl) rfl rfl (by decide) ?_
        refine wl_nil ?_
        refine fq_then ?_
        refine wc_false rfl ?_
        refine wc_skip ?_
        refine fq_then ?_
        refine wc_seq ?_
        refine wc_seq ?_
        refine wc_ground (fun w_2 Hn_ => ?_)
        have hO : RowP w_2 g9.1 (agN (jload ((jput bu ma lw 2).take tr.toNat) (jput bu ma lw 1)).ps (mn (mx budget 0) 1048576) l l.length).out := ⟨own_cap (Hn_.get (i := 1) rfl), C51_of_own (Hn_.get (i := 1) rfl) (by omega)⟩
        have hS : RowI w_2 g9.2 (agN (jload ((jput bu ma lw 2).take tr.toNat) (jput bu ma lw 1)).ps (mn (mx budget 0) 1048576) l l.length).stops := ⟨own_cap (Hn_.get (i := 0) rfl), C_of_own (Hn_.get (i := 0) rfl) (by omega)⟩
        have hx_ := Hn_.toBelow (by simp)
        have fb_bx : Blk w_2 bx _ _ := Hn_.get (i := 2) rfl
        have fb_b1 : Blk w_2 b1 _ _ := Hn_.get (i := 3) rfl
        have hh := hh.keep hx_
        have hr := hr.below hx_
        have hrm := hrm.below hx_
        have hB := hx_
        skip
        refine wc_region ?_
        refine wl_q (q_assign rfl rfl) rfl rfl (by decide) ?_
        refine wl_nil ?_
        refine fq_then ?_
        refine wc_block ?_
        refine wc_loop (ι := Nat) (fun j => [(2, .slice q.1 l.length q.2), (11, .pointer (some ⟨bx, 0, none⟩)), (12, .slice g9.2.1 (agN (jload ((jput bu ma lw 2).take tr.toNat) (jput bu ma lw 1)).ps (mn (mx budget 0) 1048576) l l.length).stops.length g9.2.2), (13, .int .i64 (j : Nat))]) (fun j => [old w_2]) (fun j => j ≤ l.length) (fun j => l.length - j) 0 (Nat.zero_le _) ⟨List.forall_mem_cons.2 ⟨rfl, List.forall_mem_cons.2 ⟨rfl, List.forall_mem_cons.2 ⟨rfl, List.forall_mem_cons.2 ⟨rfl, fun _ h => (by cases h)⟩⟩⟩⟩, List.Sublist.refl _⟩ ?_
        intro j hj
        refine wc_seq ?_
        refine wc_seq ?_
        refine wc_region ?_
        refine wl_q (q_move rfl rfl) rfl rfl (by decide) ?_
        refine wl_q (q_move rfl rfl) rfl rfl (by decide) ?_
        refine wl_q (q_len rfl rfl Tryd.underlying23) rfl rfl (by decide) ?_
        refine wl_q (q_bin rfl rfl rfl rfl) rfl rfl (by decide) ?_
        refine wl_nil ?_
        refine fq_then ?_
        refine wc_cond rfl (fun h80 => ?_) (fun h80 => ?_)
        · skip
          have q80 := h80
          try simp only [decide_eq_true_eq, decide_eq_false_iff_not, beq_iff_eq, beq_eq_false_iff_ne, bne_iff_ne, ne_eq, bne_eq_false_iff_eq, Int.not_lt, Int.not_le] at q80
          obtain ⟨p, hp⟩ : ∃ p, l[j]? = some p := ⟨_, List.getElem?_eq_getElem (by omega)⟩
          obtain ⟨ad, hA, hra⟩ := hrm.at hp
          have wj : IntKind.i64.wrap ((j : Int) + 1) = ((j + 1 : Nat) : Int) := wrap_nat (by omega)
          refine wc_skip ?_
          refine fq_then ?_
          refine wc_seq ?_
          refine wc_block ?_
          refine wc_seq ?_
          refine wc_seq ?_
          refine wc_region ?_
          refine wl_q (q_move rfl rfl) rfl rfl (by decide) ?_
          refine wl_q (q_move rfl rfl) rfl rfl (by decide) ?_
          refine wl_q (q_indexO rfl rfl hA rfl Tryd.underlying23 Sz28 (by omega) (by omega)) rfl rfl (by decide) ?_
          refine wl_q (q_fax rfl rfl Fo28_0 rfl) rfl rfl (by decide) ?_
          refine wl_q (q_load rfl rfl Mn3 (reads_old (by simp) (cell_zero (hra.one (j := 0) rfl)))) rfl rfl (by decide) ?_
          refine wl_q (q_bin rfl rfl rfl rfl) rfl rfl (by decide) ?_
          refine wl_q (q_move rfl rfl) rfl rfl (by decide) ?_
          refine wl_split (t := 89) rfl (fun h89 => ?_) (fun h89 => ?_)
          · skip
            have q89 := h89
            try simp only [decide_eq_true_eq, decide_eq_false_iff_not, beq_iff_eq, beq_eq_false_iff_ne, bne_iff_ne, ne_eq, bne_eq_false_iff_eq, Int.not_lt, Int.not_le] at q89
            refine wl_skip (b := true) rfl rfl rfl rfl (by decide) ?_
            refine wl_skip (b := true) rfl rfl rfl rfl (by decide) ?_
            refine wl_skip (b := true) rfl rfl rfl rfl (by decide) ?_
            refine wl_skip (b := true) rfl rfl rfl rfl (by decide) ?_
            refine wl_skip (b := true) rfl rfl rfl rfl (by decide) ?_
            refine wl_skip (b := true) rfl rfl rfl rfl (by decide) ?_
            refine wl_q (q_pick rfl rfl rfl) rfl rfl (by decide) ?_
            refine wl_nil ?_
            refine fq_then ?_
            refine wc_true rfl ?_
            refine wc_exit ?_
            refine fq_then_exit ?_
            refine fq_block_hit ?_
            refine fq_then ?_
            refine wc_region ?_
            refine wl_q (q_move rfl rfl) rfl rfl (by decide) ?_
            refine wl_q (q_bin rfl rfl rfl rfl) rfl rfl (by decide) ?_
            refine wl_q (q_assign rfl rfl) rfl rfl (by decide) ?_
            refine wl_nil ?_
            refine fq_next (j + 1) (show j + 1 ≤ l.length by omega) (show l.length - (j + 1) < l.length - j by omega) ⟨List.forall_mem_cons.2 ⟨rfl, List.forall_mem_cons.2 ⟨rfl, List.forall_mem_cons.2 ⟨rfl, List.forall_mem_cons.2 ⟨(show some (Value.int .i64 (IntKind.i64.wrap ((j : Int) + 1))) = some (Value.int .i64 ((j + 1 : Nat) : Int)) from by rw [wj]), fun _ h => (by cases h)⟩⟩⟩⟩, List.Sublist.refl _⟩
          · skip
            have q89 := h89
            try simp only [decide_eq_true_eq, decide_eq_false_iff_not, beq_iff_eq, beq_eq_false_iff_ne, bne_iff_ne, ne_eq, bne_eq_false_iff_eq, Int.not_lt, Int.not_le] at q89
            refine wl_want (b := false) (q_move rfl rfl) rfl rfl rfl rfl (by decide) ?_
            refine wl_want (b := false) (q_move rfl rfl) rfl rfl rfl rfl (by decide) ?_
            refine wl_want (b := false) (q_indexO rfl rfl hA rfl Tryd.underlying23 Sz28 (by omega) (by omega)) rfl rfl rfl rfl (by decide) ?_
            refine wl_want (b := false) (q_fax rfl rfl Fo28_0 rfl) rfl rfl rfl rfl (by decide) ?_
            refine wl_want (b := false) (q_load rfl rfl Mn3 (reads_old (by simp) (cell_zero (hra.one (j := 0) rfl)))) rfl rfl rfl rfl (by decide) ?_
            refine wl_want (b := false) (q_bin rfl rfl rfl rfl) rfl rfl rfl rfl (by decide) ?_
            refine wl_q (q_pick rfl rfl rfl) rfl rfl (by decide) ?_
            refine wl_nil ?_
            refine fq_then ?_
            refine wc_cond rfl (fun h96 => ?_) (fun h96 => ?_)
            · skip
              have q96 := h96
              try simp only [decide_eq_true_eq, decide_eq_false_iff_not, beq_iff_eq, beq_eq_false_iff_ne, bne_iff_ne, ne_eq, bne_eq_false_iff_eq, Int.not_lt, Int.not_le] at q96
              refine wc_exit ?_
              refine fq_then_exit ?_
              refine fq_block_hit ?_
              refine fq_then ?_
              refine wc_region ?_
              refine wl_q (q_move rfl rfl) rfl rfl (by decide) ?_
              refine wl_q (q_bin rfl rfl rfl rfl) rfl rfl (by decide) ?_
              refine wl_q (q_assign rfl rfl) rfl rfl (by decide) ?_
              refine wl_nil ?_
              refine fq_next (j + 1) (show j + 1 ≤ l.length by omega) (show l.length - (j + 1) < l.length - j by omega) ⟨List.forall_mem_cons.2 ⟨rfl, List.forall_mem_cons.2 ⟨rfl, List.forall_mem_cons.2 ⟨rfl, List.forall_mem_cons.2 ⟨(show some (Value.int .i64 (IntKind.i64.wrap ((j : Int) + 1))) = some (Value.int .i64 ((j + 1 : Nat) : Int)) from by rw [wj]), fun _ h => (by cases h)⟩⟩⟩⟩, List.Sublist.refl _⟩
            · skip
              have q96 := h96
              try simp only [decide_eq_true_eq, decide_eq_false_iff_not, beq_iff_eq, beq_eq_false_iff_ne, bne_iff_ne, ne_eq, bne_eq_false_iff_eq, Int.not_lt, Int.not_le] at q96
              have hr63 : 0 ≤ p.f0 ∧ p.f0 ≤ 63 := by simp at h89 h96; omega
              refine wc_skip ?_
              refine fq_then ?_
              refine wc_seq ?_
              refine wc_region ?_
              refine wl_q (q_assign rfl rfl) rfl rfl (by decide) ?_
              refine wl_nil ?_
              refine fq_then ?_
              refine wc_seq ?_
              refine wc_seq ?_
              refine wc_region ?_
              refine wl_q (q_assign rfl rfl) rfl rfl (by decide) ?_
              refine wl_nil ?_
              refine fq_then ?_
              refine wc_block ?_
              refine wc_loop (ι := Nat) (fun k => [(2, .slice q.1 l.length q.2), (11, .pointer (some ⟨bx, 0, none⟩)), (12, .slice g9.2.1 (agN (jload ((jput bu ma lw 2).take tr.toNat) (jput bu ma lw 1)).ps (mn (mx budget 0) 1048576) l l.length).stops.length g9.2.2), (13, .int .i64 (j : Nat)), (14, .bool (decide (p.f0 ∉ (l.take k).map S28.f0))), (15, .int .i64 (k : Nat))]) (fun k => [old w_2]) (fun k => k ≤ j) (fun k => j - k) 0 (Nat.zero_le _) ⟨List.forall_mem_cons.2 ⟨rfl, List.forall_mem_cons.2 ⟨rfl, List.forall_mem_cons.2 ⟨rfl, List.forall_mem_cons.2 ⟨rfl, List.forall_mem_cons.2 ⟨(congrArg (fun b => some (Value.bool b)) (by rfl)), List.forall_mem_cons.2 ⟨rfl, fun _ h => (by cases h)⟩⟩⟩⟩⟩⟩, List.Sublist.refl _⟩ ?_
              intro k hk
              refine wc_seq ?_
              refine wc_seq ?_
              refine wc_region ?_
              refine wl_q (q_move rfl rfl) rfl rfl (by decide) ?_
              refine wl_q (q_move rfl rfl) rfl rfl (by decide) ?_
              refine wl_q (q_bin rfl rfl rfl rfl) rfl rfl (by decide) ?_
              refine wl_nil ?_
              refine fq_then ?_
              refine wc_cond rfl (fun h99 => ?_) (fun h99 => ?_)
              · skip
                have q99 := h99
                try simp only [decide_eq_true_eq, decide_eq_false_iff_not, beq_iff_eq, beq_eq_false_iff_ne, bne_iff_ne, ne_eq, bne_eq_false_iff_eq, Int.not_lt, Int.not_le] at q99
                obtain ⟨pk, hk2⟩ : ∃ p, l[k]? = some p := ⟨_, List.getElem?_eq_getElem (by omega)⟩
                obtain ⟨adk, hK, hrk⟩ := hrm.at hk2
                have wk : IntKind.i64.wrap ((k : Int) + 1) = ((k + 1 : Nat) : Int) := wrap_nat (by omega)
                refine wc_skip ?_
                refine fq_then ?_
                refine wc_seq ?_
                refine wc_block ?_
                cases hd103 : (decide (p.f0 ∉ (l.take k).map S28.f0))
                · skip
                  refine wc_draw 15 Fol (by kernel_rfl) (Chain.yield (q_move rfl rfl) rfl rfl (Chain.yield (q_move rfl rfl) rfl rfl (Chain.skip (b := false) rfl rfl rfl rfl (Chain.skip (b := false) rfl rfl rfl rfl (Chain.skip (b := false) rfl rfl rfl rfl (Chain.skip (b := false) rfl rfl rfl rfl (Chain.skip (b := false) rfl rfl rfl rfl (Chain.skip (b := false) rfl rfl rfl rfl (Chain.skip (b := false) rfl rfl rfl rfl (Chain.skip (b := false) rfl rfl rfl rfl (Chain.skip (b := false) rfl rfl rfl rfl (Chain.skip (b := false) rfl rfl rfl rfl (Chain.skip (b := false) rfl rfl rfl rfl (Chain.yield (q_pick rfl rfl rfl) rfl rfl (Chain.yield (q_assign rfl rfl) rfl rfl (Chain.nil _)))))))))))))))) ?_
                  refine wl_nil ?_
                  refine fq_block ?_
                  refine fq_then ?_
                  refine wc_region ?_
                  refine wl_q (q_move rfl rfl) rfl rfl (by decide) ?_
                  refine wl_q (q_bin rfl rfl rfl rfl) rfl rfl (by decide) ?_
                  refine wl_q (q_assign rfl rfl) rfl rfl (by decide) ?_
                  refine wl_nil ?_
                  refine fq_next (k + 1) (show k + 1 ≤ j by omega) (show j - (k + 1) < j - k by omega) ⟨List.forall_mem_cons.2 ⟨rfl, List.forall_mem_cons.2 ⟨rfl, List.forall_mem_cons.2 ⟨rfl, List.forall_mem_cons.2 ⟨rfl, List.forall_mem_cons.2 ⟨(congrArg (fun b => some (Value.bool b)) (by rw [fst_step hk2]; first | (rw [hd103, Bool.true_and]) | (rw [hd103]; rfl))), List.forall_mem_cons.2 ⟨(show some (Value.int .i64 (IntKind.i64.wrap ((k : Int) + 1))) = some (Value.int .i64 ((k + 1 : Nat) : Int)) from by rw [wk]), fun _ h => (by cases h)⟩⟩⟩⟩⟩⟩, List.Sublist.refl _⟩
                · skip
                  refine wc_draw 15 Fol (by kernel_rfl) (Chain.yield (q_move rfl rfl) rfl rfl (Chain.yield (q_move rfl rfl) rfl rfl (Chain.want (q_move rfl rfl) rfl rfl rfl rfl (Chain.want (q_move rfl rfl) rfl rfl rfl rfl (Chain.want (q_indexO rfl rfl hK rfl Tryd.underlying23 Sz28 (by omega) (by omega)) rfl rfl rfl rfl (Chain.want (q_fax rfl rfl Fo28_0 rfl) rfl rfl rfl rfl (Chain.want (q_load rfl rfl Mn3 (reads_old (by simp) (cell_zero (hrk.one (j := 0) rfl)))) rfl rfl rfl rfl (Chain.want (q_move rfl rfl) rfl rfl rfl rfl (Chain.want (q_move rfl rfl) rfl rfl rfl rfl (Chain.want (q_indexO rfl rfl hA rfl Tryd.underlying23 Sz28 (by omega) (by omega)) rfl rfl rfl rfl (Chain.want (q_fax rfl rfl Fo28_0 rfl) rfl rfl rfl rfl (Chain.want (q_load rfl rfl Mn3 (reads_old (by simp) (cell_zero (hra.one (j := 0) rfl)))) rfl rfl rfl rfl (Chain.want (q_bin rfl rfl rfl rfl) rfl rfl rfl rfl (Chain.yield (q_pick rfl rfl rfl) rfl rfl (Chain.yield (q_assign rfl rfl) rfl rfl (Chain.nil _)))))))))))))))) ?_
                  refine wl_nil ?_
                  refine fq_block ?_
                  refine fq_then ?_
                  refine wc_region ?_
                  refine wl_q (q_move rfl rfl) rfl rfl (by decide) ?_
                  refine wl_q (q_bin rfl rfl rfl rfl) rfl rfl (by decide) ?_
                  refine wl_q (q_assign rfl rfl) rfl rfl (by decide) ?_
                  refine wl_nil ?_
                  refine fq_next (k + 1) (show k + 1 ≤ j by omega) (show j - (k + 1) < j - k by omega) ⟨List.forall_mem_cons.2 ⟨rfl, List.forall_mem_cons.2 ⟨rfl, List.forall_mem_cons.2 ⟨rfl, List.forall_mem_cons.2 ⟨rfl, List.forall_mem_cons.2 ⟨(congrArg (fun b => some (Value.bool b)) (by rw [fst_step hk2]; first | (rw [hd103, Bool.true_and]) | (rw [hd103]; rfl))), List.forall_mem_cons.2 ⟨(show some (Value.int .i64 (IntKind.i64.wrap ((k : Int) + 1))) = some (Value.int .i64 ((k + 1 : Nat) : Int)) from by rw [wk]), fun _ h => (by cases h)⟩⟩⟩⟩⟩⟩, List.Sublist.refl _⟩
              · skip
                have q99 := h99
                try simp only [decide_eq_true_eq, decide_eq_false_iff_not, beq_iff_eq, beq_eq_false_iff_ne, bne_iff_ne, ne_eq, bne_eq_false_iff_eq, Int.not_lt, Int.not_le] at q99
                obtain rfl : j = k := by omega
                refine wc_exit ?_
                refine fq_then_exit ?_
                refine fq_then_exit ?_
                refine fq_block_hit ?_
                refine fq_then ?_
                refine wc_seq ?_
                refine wc_seq ?_
                refine wc_region ?_
                refine wl_q (q_move rfl rfl) rfl rfl (by decide) ?_
                refine wl_q (q_not rfl rfl) rfl rfl (by decide) ?_
                refine wl_nil ?_
                refine fq_then ?_
                refine wc_cond rfl (fun h117 => ?_) (fun h117 => ?_)
                · skip
                  have q117 := h117
                  try simp only [decide_eq_true_eq, decide_eq_false_iff_not, beq_iff_eq, beq_eq_false_iff_ne, bne_iff_ne, ne_eq, bne_eq_false_iff_eq, Int.not_lt, Int.not_le] at q117
                  refine wc_exit ?_
                  refine fq_then_exit ?_
                  refine fq_block_hit ?_
                  refine fq_then ?_
                  refine wc_region ?_
                  refine wl_q (q_move rfl rfl) rfl rfl (by decide) ?_
                  refine wl_q (q_bin rfl rfl rfl rfl) rfl rfl (by decide) ?_
                  refine wl_q (q_assign rfl rfl) rfl rfl (by decide) ?_
                  refine wl_nil ?_
                  refine fq_next (j + 1) (show j + 1 ≤ l.length by omega) (show l.length - (j + 1) < l.length - j by omega) ⟨List.forall_mem_cons.2 ⟨rfl, List.forall_mem_cons.2 ⟨rfl, List.forall_mem_cons.2 ⟨rfl, List.forall_mem_cons.2 ⟨(show some (Value.int .i64 (IntKind.i64.wrap ((j : Int) + 1))) = some (Value.int .i64 ((j + 1 : Nat) : Int)) from by rw [wj]), fun _ h => (by cases h)⟩⟩⟩⟩, List.Sublist.refl _⟩
                · skip
                  have q117 := h117
                  try simp only [decide_eq_true_eq, decide_eq_false_iff_not, beq_iff_eq, beq_eq_false_iff_ne, bne_iff_ne, ne_eq, bne_eq_false_iff_eq, Int.not_lt, Int.not_le] at q117
                  have hfst : p.f0 ∉ (l.take j).map S28.f0 := by simpa using h117
                  have hsafe := ag_safe (jload ((jput bu ma lw 2).take tr.toNat) (jput bu ma lw 1)).ps hB0.1 l hp hr63 hfst
                  refine wc_skip ?_
                  refine fq_then ?_
                  refine wc_seq ?_
                  refine wc_region ?_
                  refine wl_q (q_assign rfl rfl) rfl rfl (by decide) ?_
                  refine wl_nil ?_
                  refine fq_then ?_
                  refine wc_seq ?_
                  refine wc_seq ?_
                  refine wc_region ?_
                  refine wl_q (q_assign rfl rfl) rfl rfl (by decide) ?_
                  refine wl_nil ?_
                  refine fq_then ?_
                  refine wc_block ?_
                  refine wc_loop (ι := Nat) (fun k => [(2, .slice q.1 l.length q.2), (11, .pointer (some ⟨bx, 0, none⟩)), (12, .slice g9.2.1 (agN (jload ((jput bu ma lw 2).take tr.toNat) (jput bu ma lw 1)).ps (mn (mx budget 0) 1048576) l l.length).stops.length g9.2.2), (13, .int .i64 (j : Nat)), (16, .bool (decide (p.f0 ∈ (agN (jload ((jput bu ma lw 2).take tr.toNat) (jput bu ma lw 1)).ps (mn (mx budget 0) 1048576) l l.length).stops.take k))), (17, .int .i64 (k : Nat))]) (fun k => [old w_2]) (fun k => k ≤ (agN (jload ((jput bu ma lw 2).take tr.toNat) (jput bu ma lw 1)).ps (mn (mx budget 0) 1048576) l l.length).stops.length) (fun k => (agN (jload ((jput bu ma lw 2).take tr.toNat) (jput bu ma lw 1)).ps (mn (mx budget 0) 1048576) l l.length).stops.length - k) 0 (Nat.zero_le _) ⟨List.forall_mem_cons.2 ⟨rfl, List.forall_mem_cons.2 ⟨rfl, List.forall_mem_cons.2 ⟨rfl, List.forall_mem_cons.2 ⟨rfl, List.forall_mem_cons.2 ⟨(congrArg (fun b => some (Value.bool b)) (by rfl)), List.forall_mem_cons.2 ⟨rfl, fun _ h => (by cases h)⟩⟩⟩⟩⟩⟩, List.Sublist.refl _⟩ ?_
                  intro k hk
                  refine wc_seq ?_
                  refine wc_seq ?_
                  refine wc_region ?_
                  refine wl_q (q_move rfl rfl) rfl rfl (by decide) ?_
                  refine wl_q (q_move rfl rfl) rfl rfl (by decide) ?_
                  refine wl_q (q_len rfl rfl Tryd.underlying33) rfl rfl (by decide) ?_
                  refine wl_q (q_bin rfl rfl rfl rfl) rfl rfl (by decide) ?_
                  refine wl_nil ?_
                  refine fq_then ?_
                  refine wc_cond rfl (fun h121 => ?_) (fun h121 => ?_)
                  · skip
                    have q121 := h121
                    try simp only [decide_eq_true_eq, decide_eq_false_iff_not, beq_iff_eq, beq_eq_false_iff_ne, bne_iff_ne, ne_eq, bne_eq_false_iff_eq, Int.not_lt, Int.not_le] at q121
                    obtain ⟨x, hk2⟩ : ∃ p, (agN (jload ((jput bu ma lw 2).take tr.toNat) (jput bu ma lw 1)).ps (mn (mx budget 0) 1048576) l l.length).stops[k]? = some p := ⟨_, List.getElem?_eq_getElem (by omega)⟩
                    obtain ⟨adk, hK, hrk⟩ := hS.at hk2
                    have wk : IntKind.i64.wrap ((k : Int) + 1) = ((k + 1 : Nat) : Int) := wrap_nat (by omega)
                    refine wc_skip ?_
                    refine fq_then ?_
                    refine wc_seq ?_
                    refine wc_block ?_
                    cases hd125 : (decide (p.f0 ∈ (agN (jload ((jput bu ma lw 2).take tr.toNat) (jput bu ma lw 1)).ps (mn (mx budget 0) 1048576) l l.length).stops.take k))
                    · skip
                      refine wc_draw 14 Fol (by kernel_rfl) (Chain.yield (q_move rfl rfl) rfl rfl (Chain.yield (q_move rfl rfl) rfl rfl (Chain.want (q_move rfl rfl) rfl rfl rfl rfl (Chain.want (q_move rfl rfl) rfl rfl rfl rfl (Chain.want (q_indexO rfl rfl hK rfl Tryd.underlying33 Sz3 (by omega) (by omega)) rfl rfl rfl rfl (Chain.want (q_load rfl rfl Mn3 (reads_old (by simp) (cell_zero hrk))) rfl rfl rfl rfl (Chain.want (q_move rfl rfl) rfl rfl rfl rfl (Chain.want (q_move rfl rfl) rfl rfl rfl rfl (Chain.want (q_indexO rfl rfl hA rfl Tryd.underlying23 Sz28 (by omega) (by omega)) rfl rfl rfl rfl (Chain.want (q_fax rfl rfl Fo28_0 rfl) rfl rfl rfl rfl (Chain.want (q_load rfl rfl Mn3 (reads_old (by simp) (cell_zero (hra.one (j := 0) rfl)))) rfl rfl rfl rfl (Chain.want (q_bin rfl rfl rfl rfl) rfl rfl rfl rfl (Chain.yield (q_pick rfl rfl rfl) rfl rfl (Chain.yield (q_assign rfl rfl) rfl rfl (Chain.nil _))))))))))))))) ?_
                      refine wl_nil ?_
                      refine fq_block ?_
                      refine fq_then ?_
                      refine wc_region ?_
                      refine wl_q (q_move rfl rfl) rfl rfl (by decide) ?_
                      refine wl_q (q_bin rfl rfl rfl rfl) rfl rfl (by decide) ?_
                      refine wl_q (q_assign rfl rfl) rfl rfl (by decide) ?_
                      refine wl_nil ?_
                      refine fq_next (k + 1) (show k + 1 ≤ (agN (jload ((jput bu ma lw 2).take tr.toNat) (jput bu ma lw 1)).ps (mn (mx budget 0) 1048576) l l.length).stops.length by omega) (show (agN (jload ((jput bu ma lw 2).take tr.toNat) (jput bu ma lw 1)).ps (mn (mx budget 0) 1048576) l l.length).stops.length - (k + 1) < (agN (jload ((jput bu ma lw 2).take tr.toNat) (jput bu ma lw 1)).ps (mn (mx budget 0) 1048576) l l.length).stops.length - k by omega) ⟨List.forall_mem_cons.2 ⟨rfl, List.forall_mem_cons.2 ⟨rfl, List.forall_mem_cons.2 ⟨rfl, List.forall_mem_cons.2 ⟨rfl, List.forall_mem_cons.2 ⟨(congrArg (fun b => some (Value.bool b)) (by rw [stp_step hk2]; first | (rw [hd125, Bool.false_or]) | (rw [hd125]; rfl))), List.forall_mem_cons.2 ⟨(show some (Value.int .i64 (IntKind.i64.wrap ((k : Int) + 1))) = some (Value.int .i64 ((k + 1 : Nat) : Int)) from by rw [wk]), fun _ h => (by cases h)⟩⟩⟩⟩⟩⟩, List.Sublist.refl _⟩
                    · skip
                      refine wc_draw 14 Fol (by kernel_rfl) (Chain.yield (q_move rfl rfl) rfl rfl (Chain.yield (q_move rfl rfl) rfl rfl (Chain.skip (b := true) rfl rfl rfl rfl (Chain.skip (b := true) rfl rfl rfl rfl (Chain.skip (b := true) rfl rfl rfl rfl (Chain.skip (b := true) rfl rfl rfl rfl (Chain.skip (b := true) rfl rfl rfl rfl (Chain.skip (b := true) rfl rfl rfl rfl (Chain.skip (b := true) rfl rfl rfl rfl (Chain.skip (b := true) rfl rfl rfl rfl (Chain.skip (b := true) rfl rfl rfl rfl (Chain.skip (b := true) rfl rfl rfl rfl (Chain.yield (q_pick rfl rfl rfl) rfl rfl (Chain.yield (q_assign rfl rfl) rfl rfl (Chain.nil _))))))))))))))) ?_
                      refine wl_nil ?_
                      refine fq_block ?_
                      refine fq_then ?_
                      refine wc_region ?_
                      refine wl_q (q_move rfl rfl) rfl rfl (by decide) ?_
                      refine wl_q (q_bin rfl rfl rfl rfl) rfl rfl (by decide) ?_
                      refine wl_q (q_assign rfl rfl) rfl rfl (by decide) ?_
                      refine wl_nil ?_
                      refine fq_next (k + 1) (show k + 1 ≤ (agN (jload ((jput bu ma lw 2).take tr.toNat) (jput bu ma lw 1)).ps (mn (mx budget 0) 1048576) l l.length).stops.length by omega) (show (agN (jload ((jput bu ma lw 2).take tr.toNat) (jput bu ma lw 1)).ps (mn (mx budget 0) 1048576) l l.length).stops.length - (k + 1) < (agN (jload ((jput bu ma lw 2).take tr.toNat) (jput bu ma lw 1)).ps (mn (mx budget 0) 1048576) l l.length).stops.length - k by omega) ⟨List.forall_mem_cons.2 ⟨rfl, List.forall_mem_cons.2 ⟨rfl, List.forall_mem_cons.2 ⟨rfl, List.forall_mem_cons.2 ⟨rfl, List.forall_mem_cons.2 ⟨(congrArg (fun b => some (Value.bool b)) (by rw [stp_step hk2]; first | (rw [hd125, Bool.false_or]) | (rw [hd125]; rfl))), List.forall_mem_cons.2 ⟨(show some (Value.int .i64 (IntKind.i64.wrap ((k : Int) + 1))) = some (Value.int .i64 ((k + 1 : Nat) : Int)) from by rw [wk]), fun _ h => (by cases h)⟩⟩⟩⟩⟩⟩, List.Sublist.refl _⟩
                  · skip
                    have q121 := h121
                    try simp only [decide_eq_true_eq, decide_eq_false_iff_not, beq_iff_eq, beq_eq_false_iff_ne, bne_iff_ne, ne_eq, bne_eq_false_iff_eq, Int.not_lt, Int.not_le] at q121
                    obtain rfl : k = (agN (jload ((jput bu ma lw 2).take tr.toNat) (jput bu ma lw 1)).ps (mn (mx budget 0) 1048576) l l.length).stops.length := by omega
                    rw [List.take_length]
                    refine wc_exit ?_
                    refine fq_then_exit ?_
                    refine fq_then_exit ?_
                    refine fq_block_hit ?_
                    refine fq_then ?_
                    refine wc_seq ?_
                    refine wc_any Fol (any_drawG (ι := Gh) 13 0 [(10, fun X => [Sx.Item.blk (X 10).2 _ 51]), (11, fun X => [Sx.Item.blk (X 10).2 [.int .i64 (hasP (agN (jload ((jput bu ma lw 2).take tr.toNat) (jput bu ma lw 1)).ps (mn (mx budget 0) 1048576) l l.length).out p.f0).1, .int .i64 (hasP (agN (jload ((jput bu ma lw 2).take tr.toNat) (jput bu ma lw 1)).ps (mn (mx budget 0) 1048576) l l.length).out p.f0).2.1] 51])] [⟨[], [], []⟩, ⟨[], [], []⟩, ⟨[], [], []⟩, ⟨[], [], []⟩, ⟨[], [], []⟩, ⟨[], [], []⟩, ⟨[], [], []⟩, ⟨[], [], []⟩, ⟨[], [], []⟩, ⟨[], [], []⟩, ⟨[], [], []⟩, ⟨[10], [], [10]⟩, ⟨[], [], [10]⟩] (by kernel_rfl) (ChainG.yield [] [] (fun X => q_loadA rfl rfl Mn32 Sz32 rfl (reads_blkA (by simp) fb_bx)) rfl rfl (fun _ => rfl) (fun _ _ => rfl) (fun X Y h0 h => ⟨by first | rfl | simp only [h0], by first | rfl | simp only [h0]⟩) (ChainG.yield [] [] (fun X => q_move rfl rfl) rfl rfl (fun _ => rfl) (fun _ _ => rfl) (fun X Y h0 h => ⟨by first | rfl | simp only [h0], by first | rfl | simp only [h0]⟩) (ChainG.yield [] [] (fun X => q_move rfl rfl) rfl rfl (fun _ => rfl) (fun _ _ => rfl) (fun X Y h0 h => ⟨by first | rfl | simp only [h0], by first | rfl | simp only [h0]⟩) (ChainG.yield [] [] (fun X => q_indexO rfl rfl hA rfl Tryd.underlying23 Sz28 (by omega) (by omega)) rfl rfl (fun _ => rfl) (fun _ _ => rfl) (fun X Y h0 h => ⟨by first | rfl | simp only [h0], by first | rfl | simp only [h0]⟩) (ChainG.yield [] [] (fun X => q_fax rfl rfl Fo28_0 rfl) rfl rfl (fun _ => rfl) (fun _ _ => rfl) (fun X Y h0 h => ⟨by first | rfl | simp only [h0], by first | rfl | simp only [h0]⟩) (ChainG.yield [] [] (fun X => q_load rfl rfl Mn3 (reads_old (by simp) (cell_zero (hra.one (j := 0) rfl)))) rfl rfl (fun _ => rfl) (fun _ _ => rfl) (fun X Y h0 h => ⟨by first | rfl | simp only [h0], by first | rfl | simp only [h0]⟩) (ChainG.yield [] [] (fun X => q_call rfl En36 rfl (fun w1 hw1 => HasK (mn (mx budget 0) 1048576) (jload ((jput bu ma lw 2).take tr.toNat) (jput bu ma lw 1)).mar 0 g9.1 (agN (jload ((jput bu ma lw 2).take tr.toNat) (jput bu ma lw 1)).ps (mn (mx budget 0) 1048576) l l.length).out p.f0 w1 (hO.below (hw1.toBelow (by simp))) (by omega))) rfl rfl (fun _ => rfl) (fun _ _ => rfl) (fun X Y h0 h => ⟨by first | rfl | simp only [h0], by first | rfl | simp only [h0]⟩) (ChainG.yield [] [] (fun X => q_move rfl rfl) rfl rfl (fun _ => rfl) (fun _ _ => rfl) (fun X Y h0 h => ⟨by first | rfl | simp only [h0], by first | rfl | simp only [h0]⟩) (ChainG.yield [] [] (fun X => q_extract rfl rfl rfl) rfl rfl (fun _ => rfl) (fun _ _ => rfl) (fun X Y h0 h => ⟨by first | rfl | simp only [h0], by first | rfl | simp only [h0]⟩) (ChainG.yield [] [] (fun X => q_extract rfl rfl rfl) rfl rfl (fun _ => rfl) (fun _ _ => rfl) (fun X Y h0 h => ⟨by first | rfl | simp only [h0], by first | rfl | simp only [h0]⟩) (ChainG.mk (fun b => .pointer (some ⟨b, 0, none⟩)) [] (fun X => om_alloc rfl Zr51) rfl rfl (fun _ => rfl) (fun _ _ => rfl) (fun X Y h0 h => ⟨by first | rfl | simp only [h0], by first | rfl | (show ([Sx.Item.blk (X 10).2 _ 51] : List Sx.Item) = [Sx.Item.blk (Y 10).2 _ 51]; simp only [h0])⟩) (ChainG.store [10] [10] (fun X => oe_storeAt (X' := [Sx.Item.blk (X 10).2 [.int .i64 (hasP (agN (jload ((jput bu ma lw 2).take tr.toNat) (jput bu ma lw 1)).ps (mn (mx budget 0) 1048576) l l.length).out p.f0).1, .int .i64 (hasP (agN (jload ((jput bu ma lw 2).take tr.toNat) (jput bu ma lw 1)).ps (mn (mx budget 0) 1048576) l l.length).out p.f0).2.1] 51]) (i := 0) rfl rfl rfl rfl Sz51 rfl rfl (by simp) (by simp [Value.oneCell']) rfl rfl) rfl rfl (fun _ => rfl) (fun _ _ => rfl) (fun X Y h0 h => ⟨by first | rfl | simp only [h0, h 10 (by decide)], by first | rfl | (show ([Sx.Item.blk (X 10).2 [.int .i64 (hasP (agN (jload ((jput bu ma lw 2).take tr.toNat) (jput bu ma lw 1)).ps (mn (mx budget 0) 1048576) l l.length).out p.f0).1, .int .i64 (hasP (agN (jload ((jput bu ma lw 2).take tr.toNat) (jput bu ma lw 1)).ps (mn (mx budget 0) 1048576) l l.length).out p.f0).2.1] 51] : List Sx.Item) = [Sx.Item.blk (Y 10).2 [.int .i64 (hasP (agN (jload ((jput bu ma lw 2).take tr.toNat) (jput bu ma lw 1)).ps (mn (mx budget 0) 1048576) l l.length).out p.f0).1, .int .i64 (hasP (agN (jload ((jput bu ma lw 2).take tr.toNat) (jput bu ma lw 1)).ps (mn (mx budget 0) 1048576) l l.length).out p.f0).2.1] 51]; simp only [h0, h 10 (by decide)])⟩) (ChainG.yield [] [10] (fun X => q_assign rfl rfl) rfl rfl (fun _ => rfl) (fun _ _ => rfl) (fun X Y h0 h => ⟨by first | rfl | simp only [h0, h 10 (by decide)], by first | rfl | simp only [h0, h 10 (by decide)]⟩) (ChainG.nil _ _)))))))))))))) rfl rfl (fun X => [_, _]) (fun _ => rfl) (fun X => ?_))
                    generalize (X 10).2 = bh
                    try dsimp only [List.take_succ_cons, List.take_zero, List.take_nil, List.drop_succ_cons, List.drop_zero, List.drop_nil, List.nil_append, List.cons_append, List.append_nil, List.length_cons, List.length_nil, Nat.reduceAdd, Nat.zero_add]
                    refine wl_nil ?_
                    refine fq_then ?_
                    refine wc_seq ?_
                    cases hd152 : ((hasP (agN (jload ((jput bu ma lw 2).take tr.toNat) (jput bu ma lw 1)).ps (mn (mx budget 0) 1048576) l l.length).out p.f0).2.2)
                    · skip
                      refine wc_draw 17 Fol (by kernel_rfl) (Chain.yield (q_move rfl rfl) rfl rfl (Chain.yield (q_move rfl rfl) rfl rfl (Chain.yield (OpQ.to (q_eqlB rfl rfl rfl Tryd.underlying4) (congrArg Value.bool (by have h1 := hsafe.1; rw [hd152] at h1; revert h1; cases decide (p.f0 ∈ (agN (jload ((jput bu ma lw 2).take tr.toNat) (jput bu ma lw 1)).ps (mn (mx budget 0) 1048576) l l.length).stops) <;> intro h1 <;> first | rfl | cases h1))) rfl rfl (Chain.yield (q_move rfl rfl) rfl rfl (Chain.want (q_move rfl rfl) rfl rfl rfl rfl (Chain.want (q_move rfl rfl) rfl rfl rfl rfl (Chain.skip (b := false) rfl rfl rfl rfl (Chain.skip (b := false) rfl rfl rfl rfl (Chain.skip (b := false) rfl rfl rfl rfl (Chain.skip (b := false) rfl rfl rfl rfl (Chain.skip (b := false) rfl rfl rfl rfl (Chain.skip (b := false) rfl rfl rfl rfl (Chain.skip (b := false) rfl rfl rfl rfl (Chain.skip (b := false) rfl rfl rfl rfl (Chain.skip (b := false) rfl rfl rfl rfl (Chain.want (q_pick rfl rfl rfl) rfl rfl rfl rfl (Chain.yield (q_pick rfl rfl rfl) rfl rfl (Chain.nil _)))))))))))))))))) ?_
                      refine wl_nil ?_
                      refine fq_then ?_
                      refine wc_false rfl ?_
                      refine wc_skip ?_
                      refine fq_block ?_
                      refine fq_then ?_
                      refine wc_region ?_
                      refine wl_q (q_move rfl rfl) rfl rfl (by decide) ?_
                      refine wl_q (q_bin rfl rfl rfl rfl) rfl rfl (by decide) ?_
                      refine wl_q (q_assign rfl rfl) rfl rfl (by decide) ?_
                      refine wl_nil ?_
                      refine fq_next (j + 1) (show j + 1 ≤ l.length by omega) (show l.length - (j + 1) < l.length - j by omega) ⟨List.forall_mem_cons.2 ⟨rfl, List.forall_mem_cons.2 ⟨rfl, List.forall_mem_cons.2 ⟨rfl, List.forall_mem_cons.2 ⟨(show some (Value.int .i64 (IntKind.i64.wrap ((j : Int) + 1))) = some (Value.int .i64 ((j + 1 : Nat) : Int)) from by rw [wj]), fun _ h => (by cases h)⟩⟩⟩⟩, List.Sublist.cons _ (List.Sublist.cons_cons _ (List.Sublist.refl []))⟩
                    · skip
                      refine wc_draw 17 Fol (by kernel_rfl) (Chain.yield (q_move rfl rfl) rfl rfl (Chain.yield (q_move rfl rfl) rfl rfl (Chain.yield (OpQ.to (q_eqlB rfl rfl rfl Tryd.underlying4) (congrArg Value.bool (by have h1 := hsafe.1; rw [hd152] at h1; revert h1; cases decide (p.f0 ∈ (agN (jload ((jput bu ma lw 2).take tr.toNat) (jput bu ma lw 1)).ps (mn (mx budget 0) 1048576) l l.length).stops) <;> intro h1 <;> first | rfl | cases h1))) rfl rfl (Chain.yield (q_move rfl rfl) rfl rfl (Chain.want (q_move rfl rfl) rfl rfl rfl rfl (Chain.want (q_move rfl rfl) rfl rfl rfl rfl (Chain.want (q_fa (o1 := 1) rfl rfl Fo51_1 rfl) rfl rfl rfl rfl (Chain.want (q_load rfl rfl Mn3 (reads1 (i := 0) rfl rfl)) rfl rfl rfl rfl (Chain.want (q_move rfl rfl) rfl rfl rfl rfl (Chain.want (q_move rfl rfl) rfl rfl rfl rfl (Chain.want (q_indexO rfl rfl hA rfl Tryd.underlying23 Sz28 (by omega) (by omega)) rfl rfl rfl rfl (Chain.want (q_fax rfl rfl Fo28_1 rfl) rfl rfl rfl rfl (Chain.want (q_load rfl rfl Mn3 (reads_old (by simp) (cell_zero (hra.one (j := 1) rfl)))) rfl rfl rfl rfl (Chain.want (q_min rfl rfl rfl) rfl rfl rfl rfl (Chain.want (OpQ.to (q_bin rfl rfl rfl rfl) (congrArg Value.bool (decide_eq_false (by have := hsafe.2 hd152; omega)))) rfl rfl rfl rfl (Chain.want (q_pick rfl rfl rfl) rfl rfl rfl rfl (Chain.yield (q_pick rfl rfl rfl) rfl rfl (Chain.nil _)))))))))))))))))) ?_
                      refine wl_nil ?_
                      refine fq_then ?_
                      refine wc_false rfl ?_
                      refine wc_skip ?_
                      refine fq_block ?_
                      refine fq_then ?_
                      refine wc_region ?_
                      refine wl_q (q_move rfl rfl) rfl rfl (by decide) ?_
                      refine wl_q (q_bin rfl rfl rfl rfl) rfl rfl (by decide) ?_
                      refine wl_q (q_assign rfl rfl) rfl rfl (by decide) ?_
                      refine wl_nil ?_
                      refine fq_next (j + 1) (show j + 1 ≤ l.length by omega) (show l.length - (j + 1) < l.length - j by omega) ⟨List.forall_mem_cons.2 ⟨rfl, List.forall_mem_cons.2 ⟨rfl, List.forall_mem_cons.2 ⟨rfl, List.forall_mem_cons.2 ⟨(show some (Value.int .i64 (IntKind.i64.wrap ((j : Int) + 1))) = some (Value.int .i64 ((j + 1 : Nat) : Int)) from by rw [wj]), fun _ h => (by cases h)⟩⟩⟩⟩, List.Sublist.cons _ (List.Sublist.cons_cons _ (List.Sublist.refl []))⟩
        · skip
          have q80 := h80
          try simp only [decide_eq_true_eq, decide_eq_false_iff_not, beq_iff_eq, beq_eq_false_iff_ne, bne_iff_ne, ne_eq, bne_eq_false_iff_eq, Int.not_lt, Int.not_le] at q80
          refine wc_exit ?_
          refine fq_then_exit ?_
          refine fq_then_exit ?_
          refine fq_block_hit ?_
          refine fq_then ?_
          refine wc_seq ?_
          refine wc_region ?_
          refine wl_q (q_assign rfl rfl) rfl rfl (by decide) ?_
          refine wl_nil ?_
          refine fq_then ?_
          refine wc_ret ?_
          refine fq_ret1 rfl rfl (fun w1 H => ?_)
          exact ⟨rfl, (by first | exact hB.next (H.toBelow (by simp)) | exact H.toBelow (by simp))⟩
end Go.Proofs.YtbcijmpkmmcdeaaDoor.SF
end
