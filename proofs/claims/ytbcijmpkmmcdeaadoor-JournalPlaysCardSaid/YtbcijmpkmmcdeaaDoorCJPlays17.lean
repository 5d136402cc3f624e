/- Texts of mine, put together (no statement stands here). -/
import Derived.Test.YtbcijmpkmmcdeaaDoorCJPlays16
import Derived.Test.YtbcijmpkmmcdeaaDoorCJPlays14
import Derived.Test.YtbcijmpkmmcdeaaDoorCJPlays3
import Derived.Test.YtbcijmpkmmcdeaaDoorCJPlays4
import Derived.SizedLaws
import Derived.ChangeArms
import Derived.DataElems
import Derived.DataReads
import Derived.ProofKit
import Derived.OpenShut
import Derived.Test.YtbcijmpkmmcdeaaDoorCJPlays9
import Derived.ChangeSame
import Derived.Test.YtbcijmpkmmcdeaaDoorCJPlays15
section
namespace Go.Proofs.YtbcijmpkmmcdeaaDoor.SF
open Go.RowKit Go.Sx Go.Proofs.YtbcijmpkmmcdeaaDoor.PAll Go.Proofs.YtbcijmpkmmcdeaaDoorW.PrintWords Go.Proofs.YtbcijmpkmmcdeaaDoorW.PrintLast Go.Proofs.YtbcijmpkmmcdeaaDoorW.PrintMore
set_option linter.unusedVariables false
set_option linter.unusedSimpArgs false
set_option maxRecDepth 100000
def jcnt (i : Int) (b : List Int) : JL := if (jget b).err = 0 ∧ Int.tmod (jget b).seq 2 = i then ⟨(jget b).bud, (jget b).mar, (jget b).ps, (jget b).seq⟩ else ⟨0, 0, [], 0⟩
theorem jload_cnt {a b : List Int} (hA : Bytes a) (hB : Bytes b) : jload a b = if (jcnt 0 a).seq > (jcnt 1 b).seq then jcnt 0 a else jcnt 1 b := by
  have sa := jget_seq hA
  have sb := jget_seq hB
  have hb0 : (jget b).err = 0 ∧ Int.tmod (jget b).seq 2 = 1 → (0 : Int) < (jget b).seq := fun h2 => by
    have : (jget b).seq ≠ 0 := fun e => by rw [e] at h2; exact absurd h2.2 (by decide)
    omega
  have h00 : ∀ i, jone i b ⟨0, 0, [], 0⟩ = if (jget b).err = 0 ∧ Int.tmod (jget b).seq 2 = i ∧ (0 : Int) < (jget b).seq then ⟨(jget b).bud, (jget b).mar, (jget b).ps, (jget b).seq⟩ else ⟨0, 0, [], 0⟩ := fun _ => rfl
  unfold jload
  by_cases h2 : (jget b).err = 0 ∧ Int.tmod (jget b).seq 2 = 1
  · have hb1 := hb0 h2
    rw [show jcnt 1 b = ⟨(jget b).bud, (jget b).mar, (jget b).ps, (jget b).seq⟩ from if_pos h2]
    by_cases h1 : (jget a).err = 0 ∧ Int.tmod (jget a).seq 2 = 0
    · rw [show jcnt 0 a = ⟨(jget a).bud, (jget a).mar, (jget a).ps, (jget a).seq⟩ from if_pos h1]
      by_cases hc : (jget a).seq > (jget b).seq
      · rw [show jone 0 a ⟨0, 0, [], 0⟩ = ⟨(jget a).bud, (jget a).mar, (jget a).ps, (jget a).seq⟩ from if_pos ⟨h1.1, h1.2, show (0 : Int) < (jget a).seq by omega⟩]
        rw [if_pos hc]
        exact if_neg (fun x => absurd (show (jget a).seq < (jget b).seq from x.2.2) (by omega))
      · have hne : (jget a).seq ≠ (jget b).seq := fun e => by rw [e, h2.2] at h1; exact absurd h1.2 (by decide)
        rw [if_neg hc]
        by_cases hz : (0 : Int) < (jget a).seq
        · rw [show jone 0 a ⟨0, 0, [], 0⟩ = ⟨(jget a).bud, (jget a).mar, (jget a).ps, (jget a).seq⟩ from if_pos ⟨h1.1, h1.2, hz⟩]
          exact if_pos ⟨h2.1, h2.2, show (jget a).seq < (jget b).seq by omega⟩
        · rw [show jone 0 a ⟨0, 0, [], 0⟩ = ⟨0, 0, [], 0⟩ from if_neg (fun x => hz x.2.2)]
          exact if_pos ⟨h2.1, h2.2, hb1⟩
    · rw [show jcnt 0 a = ⟨0, 0, [], 0⟩ from if_neg h1, if_neg (show ¬ (0 : Int) > (jget b).seq by omega), show jone 0 a ⟨0, 0, [], 0⟩ = ⟨0, 0, [], 0⟩ from if_neg (fun x => h1 ⟨x.1, x.2.1⟩)]
      exact if_pos ⟨h2.1, h2.2, hb1⟩
  · rw [show jcnt 1 b = ⟨0, 0, [], 0⟩ from if_neg h2]
    by_cases h1 : (jget a).err = 0 ∧ Int.tmod (jget a).seq 2 = 0
    · rw [show jcnt 0 a = ⟨(jget a).bud, (jget a).mar, (jget a).ps, (jget a).seq⟩ from if_pos h1]
      by_cases hz : (0 : Int) < (jget a).seq
      · rw [show jone 0 a ⟨0, 0, [], 0⟩ = ⟨(jget a).bud, (jget a).mar, (jget a).ps, (jget a).seq⟩ from if_pos ⟨h1.1, h1.2, hz⟩, if_pos (show (jget a).seq > 0 from hz)]
        exact if_neg (fun x => h2 ⟨x.1, x.2.1⟩)
      · rw [show jone 0 a ⟨0, 0, [], 0⟩ = ⟨0, 0, [], 0⟩ from if_neg (fun x => hz x.2.2), if_neg (show ¬ (jget a).seq > 0 from hz)]
        exact if_neg (fun x => h2 ⟨x.1, x.2.1⟩)
    · rw [show jcnt 0 a = ⟨0, 0, [], 0⟩ from if_neg h1, if_neg (by decide), show jone 0 a ⟨0, 0, [], 0⟩ = ⟨0, 0, [], 0⟩ from if_neg (fun x => h1 ⟨x.1, x.2.1⟩)]
      exact if_neg (fun x => h2 ⟨x.1, x.2.1⟩)
theorem jn_ps (l : List S51) : (l.map to91).map to51 = l := by
  rw [List.map_map]
  exact List.map_id'' (fun p => rfl) l
set_option maxHeartbeats 1000000 in
theorem rcounts_calls {b : List Int} (hB : Bytes b) (p : Int) (w : World) : Calls Tryd.prog 57 #[.string (strOfNums b), .int .u64 p] w fun e w' => ∃ i : Gh, e = .returned (.tuple #[.agg #[.int .i64 (jcnt p b).bud, .int .i64 (jcnt p b).mar, .int .i64 0, .slice i.1 (jcnt p b).ps.length i.2], .int .u64 (jcnt p b).seq]) ∧ HeapOK w [.own 0 91 2 (.slice i.1 (jcnt p b).ps.length i.2) (jcnt p b).ps.length (((jcnt p b).ps.map to91).flatMap pc91), old w] w' := by
  refine enter (w0 := w) (hp := [old w]) (env := [(0, .string (strOfNums b)), (1, .int .u64 p)]) Tryd.func57 rfl 26 rfl (by simp) rfl (HeapOK.start _) ?_
  refine wc_seq ?_
  refine wc_region ?_
  refine wl_alloc rfl rfl rfl (by decide) Zr42 (fun b1 => ?_)
  refine wl_q (q_assign rfl rfl) rfl rfl (by decide) ?_
  refine wl_nil ?_
  refine fq_then ?_
  refine wc_seq ?_
  refine wc_region ?_
  refine wl_q (q_move rfl rfl) rfl rfl (by decide) ?_
  refine wl_call (ι := Gh) (fun i => .tuple #[.agg #[.int .i64 (jget b).bud, .int .i64 (jget b).mar, .int .i64 0, .slice i.1 (jget b).ps.length i.2], .int .u64 (jget b).seq, .int .i64 (jget b).err]) (fun i => .own 0 91 2 (.slice i.1 ((jget b)).ps.length i.2) ((jget b)).ps.length ((((jget b)).ps.map to91).flatMap pc91) :: _) (fun _ => True) rfl rfl rfl (by decide) En24 rfl (fun w1 hw1 => (rget_calls hB w1).mono (fun e w' ⟨i, h1, h2⟩ => ⟨i, trivial, h1, hw1.lift1 h2⟩)) (fun g _ => ?_)
  refine wl_q (q_move rfl rfl) rfl rfl (by decide) ?_
  refine wl_q (q_extract rfl rfl rfl) rfl rfl (by decide) ?_
  refine wl_q (q_extract rfl rfl rfl) rfl rfl (by decide) ?_
  refine wl_q (q_extract rfl rfl rfl) rfl rfl (by decide) ?_
  refine wl_alloc rfl rfl rfl (by decide) Zr42 (fun b2 => ?_)
  refine wl_store (i := 0) rfl rfl rfl rfl rfl rfl Sz42 rfl rfl (by simp) (by simp [Value.oneCell']) (by first | (simp only [List.take_succ_cons, List.take_zero, List.take_nil, List.drop_succ_cons, List.drop_zero, List.drop_nil, List.nil_append, List.cons_append, List.append_nil, List.length_cons, List.length_nil, Nat.reduceAdd, Nat.zero_add]; rfl) | rfl) (by first | (simp only [List.set_cons_zero, List.set_cons_succ]; rfl) | rfl) ?_
  refine wl_q (q_assign rfl rfl) rfl rfl (by decide) ?_
  refine wl_q (q_assign rfl rfl) rfl rfl (by decide) ?_
  refine wl_nil ?_
  refine fq_then ?_
  refine wc_seq ?_
  refine wc_seq ?_
  refine wc_region ?_
  refine wl_q (q_move rfl rfl) rfl rfl (by decide) ?_
  refine wl_q (q_bin rfl rfl rfl rfl) rfl rfl (by decide) ?_
  refine wl_q (q_move rfl rfl) rfl rfl (by decide) ?_
  refine wl_split (t := 17) rfl (fun h17 => ?_) (fun h17 => ?_)
  · skip
    have q17 := h17
    try simp only [decide_eq_true_eq, decide_eq_false_iff_not, beq_iff_eq, beq_eq_false_iff_ne, bne_iff_ne, ne_eq, bne_eq_false_iff_eq, Int.not_lt, Int.not_le] at q17
    refine wl_skip (b := true) rfl rfl rfl rfl (by decide) ?_
    refine wl_skip (b := true) rfl rfl rfl rfl (by decide) ?_
    refine wl_skip (b := true) rfl rfl rfl rfl (by decide) ?_
    refine wl_skip (b := true) rfl rfl rfl rfl (by decide) ?_
    refine wl_q (q_pick rfl rfl rfl) rfl rfl (by decide) ?_
    refine wl_nil ?_
    refine fq_then ?_
    refine wc_true rfl ?_
    refine wc_seq ?_
    refine wc_region ?_
    refine wl_q (q_build rfl rfl (built_of Zr42 Pl42 (by simp only [fillL, List.map_cons, List.map_nil, Value.cells, List.getElem?_cons_zero, List.getElem?_cons_succ, List.length_cons, List.length_nil, Nat.reduceAdd, Nat.reduceLeDiff, Nat.le_refl, and_self, and_true, true_and, if_true, Nat.zero_add, spl, List.take_succ_cons, List.take_zero, List.take_nil, List.drop_succ_cons, List.drop_zero, List.drop_nil, List.nil_append, List.cons_append, List.append_nil] <;> rfl))) rfl rfl (by decide) ?_
    refine wl_store (i := 2) rfl rfl rfl rfl rfl rfl Sz42 rfl rfl (by simp) (by simp [Value.oneCell']) (by first | (simp only [List.take_succ_cons, List.take_zero, List.take_nil, List.drop_succ_cons, List.drop_zero, List.drop_nil, List.nil_append, List.cons_append, List.append_nil, List.length_cons, List.length_nil, Nat.reduceAdd, Nat.zero_add]; rfl) | rfl) (by first | (simp only [List.set_cons_zero, List.set_cons_succ]; rfl) | rfl) ?_
    refine wl_q (q_assign rfl rfl) rfl rfl (by decide) ?_
    refine wl_nil ?_
    refine fq_then ?_
    refine wc_ret ?_
    refine fq_then_ret ?_
    refine fq_cell_tmp (i := 2) (.inl rfl) rfl rfl rfl rfl Mn42 Sz42 rfl (fun w1 H => ?_)
    rw [show jcnt p b = ⟨0, 0, [], 0⟩ from if_neg (fun h => by simp_all)]
    exact ⟨(none, 0), rfl, HeapOK.ownNil (H.pick [3] (by decide) rfl) 91 2⟩
  · skip
    have q17 := h17
    try simp only [decide_eq_true_eq, decide_eq_false_iff_not, beq_iff_eq, beq_eq_false_iff_ne, bne_iff_ne, ne_eq, bne_eq_false_iff_eq, Int.not_lt, Int.not_le] at q17
    refine wl_want (b := false) (q_move rfl rfl) rfl rfl rfl rfl (by decide) ?_
    refine wl_want (b := false) (q_rem rfl rfl rfl (by decide)) rfl rfl rfl rfl (by decide) ?_
    refine wl_want (b := false) (q_move rfl rfl) rfl rfl rfl rfl (by decide) ?_
    refine wl_want (b := false) (q_bin rfl rfl rfl rfl) rfl rfl rfl rfl (by decide) ?_
    refine wl_q (q_pick rfl rfl rfl) rfl rfl (by decide) ?_
    refine wl_nil ?_
    refine fq_then ?_
    refine wc_cond rfl (fun h22 => ?_) (fun h22 => ?_)
    · skip
      have q22 := h22
      try simp only [decide_eq_true_eq, decide_eq_false_iff_not, beq_iff_eq, beq_eq_false_iff_ne, bne_iff_ne, ne_eq, bne_eq_false_iff_eq, Int.not_lt, Int.not_le] at q22
      refine wc_seq ?_
      refine wc_region ?_
      refine wl_q (q_build rfl rfl (built_of Zr42 Pl42 (by simp only [fillL, List.map_cons, List.map_nil, Value.cells, List.getElem?_cons_zero, List.getElem?_cons_succ, List.length_cons, List.length_nil, Nat.reduceAdd, Nat.reduceLeDiff, Nat.le_refl, and_self, and_true, true_and, if_true, Nat.zero_add, spl, List.take_succ_cons, List.take_zero, List.take_nil, List.drop_succ_cons, List.drop_zero, List.drop_nil, List.nil_append, List.cons_append, List.append_nil] <;> rfl))) rfl rfl (by decide) ?_
      refine wl_store (i := 2) rfl rfl rfl rfl rfl rfl Sz42 rfl rfl (by simp) (by simp [Value.oneCell']) (by first | (simp only [List.take_succ_cons, List.take_zero, List.take_nil, List.drop_succ_cons, List.drop_zero, List.drop_nil, List.nil_append, List.cons_append, List.append_nil, List.length_cons, List.length_nil, Nat.reduceAdd, Nat.zero_add]; rfl) | rfl) (by first | (simp only [List.set_cons_zero, List.set_cons_succ]; rfl) | rfl) ?_
      refine wl_q (q_assign rfl rfl) rfl rfl (by decide) ?_
      refine wl_nil ?_
      refine fq_then ?_
      refine wc_ret ?_
      refine fq_then_ret ?_
      refine fq_cell_tmp (i := 2) (.inl rfl) rfl rfl rfl rfl Mn42 Sz42 rfl (fun w1 H => ?_)
      rw [show jcnt p b = ⟨0, 0, [], 0⟩ from if_neg (fun h => by simp_all)]
      exact ⟨(none, 0), rfl, HeapOK.ownNil (H.pick [3] (by decide) rfl) 91 2⟩
    · skip
      have q22 := h22
      try simp only [decide_eq_true_eq, decide_eq_false_iff_not, beq_iff_eq, beq_eq_false_iff_ne, bne_iff_ne, ne_eq, bne_eq_false_iff_eq, Int.not_lt, Int.not_le] at q22
      refine wc_skip ?_
      refine fq_then ?_
      refine wc_seq ?_
      refine wc_region ?_
      refine wl_q (q_loadA rfl rfl Mn42 Sz42 rfl (readsAll (i := 0) rfl)) rfl rfl (by decide) ?_
      refine wl_q (q_move rfl rfl) rfl rfl (by decide) ?_
      refine wl_store (i := 2) rfl rfl rfl rfl rfl rfl Sz42 rfl rfl (by simp) (by simp [Value.oneCell']) (by first | (simp only [List.take_succ_cons, List.take_zero, List.take_nil, List.drop_succ_cons, List.drop_zero, List.drop_nil, List.nil_append, List.cons_append, List.append_nil, List.length_cons, List.length_nil, Nat.reduceAdd, Nat.zero_add]; rfl) | rfl) (by first | (simp only [List.set_cons_zero, List.set_cons_succ]; rfl) | rfl) ?_
      refine wl_q (q_assign rfl rfl) rfl rfl (by decide) ?_
      refine wl_nil ?_
      refine fq_then ?_
      refine wc_ret ?_
      refine fq_cell_tmp (i := 2) (.inl rfl) rfl rfl rfl rfl Mn42 Sz42 rfl (fun w1 H => ?_)
      rw [show jcnt p b = ⟨(jget b).bud, (jget b).mar, (jget b).ps, (jget b).seq⟩ from if_pos ⟨by simp_all, by simp_all⟩]
      exact ⟨g, rfl, H.pick [1, 3] (by decide) rfl⟩
set_option maxHeartbeats 1000000 in
theorem rload_calls {a b : List Int} (hA : Bytes a) (hB : Bytes b) (la : Int) (wa : ByteArray) (w : World) : Calls Tryd.prog 29 #[.agg #[.string (strOfNums a), .string (strOfNums b), .int .i64 la, .string wa]] w fun e w' => ∃ i : Gh, e = .returned (.tuple #[.agg #[.int .i64 (jload a b).bud, .int .i64 (jload a b).mar, .int .i64 0, .slice i.1 (jload a b).ps.length i.2], .int .u64 (jload a b).seq, .bool (decide (0 < (jload a b).seq))]) ∧ HeapOK w [.own 0 91 2 (.slice i.1 (jload a b).ps.length i.2) (jload a b).ps.length (((jload a b).ps.map to91).flatMap pc91), old w] w' := by
  have hc0 : 0 ≤ (jcnt 0 a).seq := by unfold jcnt; split; exact jget_seq hA; exact Int.le_refl 0
  have hc1 : 0 ≤ (jcnt 1 b).seq := by unfold jcnt; split; exact jget_seq hB; exact Int.le_refl 0
  refine enter (w0 := w) (hp := [old w]) (env := [(0, .agg #[.string (strOfNums a), .string (strOfNums b), .int .i64 la, .string wa])]) Tryd.func29 rfl 30 rfl (by simp) rfl (HeapOK.start _) ?_
  refine wc_seq ?_
  refine wc_region ?_
  refine wl_box rfl rfl rfl (by decide) rfl rfl (fun b1 => ?_)
  refine wl_alloc rfl rfl rfl (by decide) Zr42 (fun b2 => ?_)
  refine wl_q (q_assign rfl rfl) rfl rfl (by decide) ?_
  refine wl_q (q_assign rfl rfl) rfl rfl (by decide) ?_
  refine wl_nil ?_
  refine fq_then ?_
  refine wc_seq ?_
  refine wc_region ?_
  refine wl_q (q_fa (o1 := 0) rfl rfl Fo46_0 rfl) rfl rfl (by decide) ?_
  refine wl_q (q_load rfl rfl Mn9 (reads1 (i := 1) rfl rfl)) rfl rfl (by decide) ?_
  refine wl_call (ι := Gh) (fun i => .tuple #[.agg #[.int .i64 (jcnt 0 a).bud, .int .i64 (jcnt 0 a).mar, .int .i64 0, .slice i.1 (jcnt 0 a).ps.length i.2], .int .u64 (jcnt 0 a).seq]) (fun i => .own 0 91 2 (.slice i.1 ((jcnt 0 a)).ps.length i.2) ((jcnt 0 a)).ps.length ((((jcnt 0 a)).ps.map to91).flatMap pc91) :: _) (fun _ => True) rfl rfl rfl (by decide) En57 rfl (fun w1 hw1 => (rcounts_calls hA 0 w1).mono (fun e w' ⟨i, h1, h2⟩ => ⟨i, trivial, h1, hw1.lift1 h2⟩)) (fun ga _ => ?_)
  refine wl_q (q_move rfl rfl) rfl rfl (by decide) ?_
  refine wl_q (q_extract rfl rfl rfl) rfl rfl (by decide) ?_
  refine wl_q (q_extract rfl rfl rfl) rfl rfl (by decide) ?_
  refine wl_alloc rfl rfl rfl (by decide) Zr42 (fun b3 => ?_)
  refine wl_store (i := 0) rfl rfl rfl rfl rfl rfl Sz42 rfl rfl (by simp) (by simp [Value.oneCell']) (by first | (simp only [List.take_succ_cons, List.take_zero, List.take_nil, List.drop_succ_cons, List.drop_zero, List.drop_nil, List.nil_append, List.cons_append, List.append_nil, List.length_cons, List.length_nil, Nat.reduceAdd, Nat.zero_add]; rfl) | rfl) (by first | (simp only [List.set_cons_zero, List.set_cons_succ]; rfl) | rfl) ?_
  refine wl_q (q_assign rfl rfl) rfl rfl (by decide) ?_
  refine wl_nil ?_
  refine fq_then ?_
  refine wc_seq ?_
  refine wc_region ?_
  refine wl_q (q_fa (o1 := 1) rfl rfl Fo46_1 rfl) rfl rfl (by decide) ?_
  refine wl_q (q_load rfl rfl Mn9 (reads1 (i := 3) rfl rfl)) rfl rfl (by decide) ?_
  refine wl_call (ι := Gh) (fun i => .tuple #[.agg #[.int .i64 (jcnt 1 b).bud, .int .i64 (jcnt 1 b).mar, .int .i64 0, .slice i.1 (jcnt 1 b).ps.length i.2], .int .u64 (jcnt 1 b).seq]) (fun i => .own 0 91 2 (.slice i.1 ((jcnt 1 b)).ps.length i.2) ((jcnt 1 b)).ps.length ((((jcnt 1 b)).ps.map to91).flatMap pc91) :: _) (fun _ => True) rfl rfl rfl (by decide) En57 rfl (fun w1 hw1 => (rcounts_calls hB 1 w1).mono (fun e w' ⟨i, h1, h2⟩ => ⟨i, trivial, h1, hw1.lift1 h2⟩)) (fun gb _ => ?_)
  refine wl_q (q_move rfl rfl) rfl rfl (by decide) ?_
  refine wl_q (q_extract rfl rfl rfl) rfl rfl (by decide) ?_
  refine wl_q (q_extract rfl rfl rfl) rfl rfl (by decide) ?_
  refine wl_alloc rfl rfl rfl (by decide) Zr42 (fun b4 => ?_)
  refine wl_store (i := 0) rfl rfl rfl rfl rfl rfl Sz42 rfl rfl (by simp) (by simp [Value.oneCell']) (by first | (simp only [List.take_succ_cons, List.take_zero, List.take_nil, List.drop_succ_cons, List.drop_zero, List.drop_nil, List.nil_append, List.cons_append, List.append_nil, List.length_cons, List.length_nil, Nat.reduceAdd, Nat.zero_add]; rfl) | rfl) (by first | (simp only [List.set_cons_zero, List.set_cons_succ]; rfl) | rfl) ?_
  refine wl_q (q_assign rfl rfl) rfl rfl (by decide) ?_
  refine wl_nil ?_
  refine fq_then ?_
  refine wc_seq ?_
  refine wc_seq ?_
  refine wc_region ?_
  refine wl_q (q_move rfl rfl) rfl rfl (by decide) ?_
  refine wl_q (q_move rfl rfl) rfl rfl (by decide) ?_
  refine wl_q (q_bin rfl rfl rfl rfl) rfl rfl (by decide) ?_
  refine wl_nil ?_
  refine fq_then ?_
  refine wc_cond rfl (fun h23 => ?_) (fun h23 => ?_)
  · skip
    have q23 := h23
    try simp only [decide_eq_true_eq, decide_eq_false_iff_not, beq_iff_eq, beq_eq_false_iff_ne, bne_iff_ne, ne_eq, bne_eq_false_iff_eq, Int.not_lt, Int.not_le] at q23
    have hj : jload a b = jcnt 0 a := by rw [jload_cnt hA hB]; exact if_pos (by omega)
    refine wc_seq ?_
    refine wc_region ?_
    refine wl_q (q_loadA rfl rfl Mn42 Sz42 rfl (readsAll (i := 2) rfl)) rfl rfl (by decide) ?_
    refine wl_q (q_move rfl rfl) rfl rfl (by decide) ?_
    refine wl_store (i := 4) rfl rfl rfl rfl rfl rfl Sz42 rfl rfl (by simp) (by simp [Value.oneCell']) (by first | (simp only [List.take_succ_cons, List.take_zero, List.take_nil, List.drop_succ_cons, List.drop_zero, List.drop_nil, List.nil_append, List.cons_append, List.append_nil, List.length_cons, List.length_nil, Nat.reduceAdd, Nat.zero_add]; rfl) | rfl) (by first | (simp only [List.set_cons_zero, List.set_cons_succ]; rfl) | rfl) ?_
    refine wl_q (q_assign rfl rfl) rfl rfl (by decide) ?_
    refine wl_q (q_assign rfl rfl) rfl rfl (by decide) ?_
    refine wl_nil ?_
    refine fq_then ?_
    refine wc_ret ?_
    refine fq_then_ret ?_
    refine fq_ctt (i := 4) (.inl rfl) rfl rfl rfl rfl rfl Mn42 Sz42 rfl (fun w1 H => ?_)
    rw [hj, decide_eq_true (show (0 : Int) < (jcnt 0 a).seq by omega)]
    exact ⟨ga, rfl, H.pick [3, 6] (by decide) rfl⟩
  · skip
    have q23 := h23
    try simp only [decide_eq_true_eq, decide_eq_false_iff_not, beq_iff_eq, beq_eq_false_iff_ne, bne_iff_ne, ne_eq, bne_eq_false_iff_eq, Int.not_lt, Int.not_le] at q23
    have hj : jload a b = jcnt 1 b := by rw [jload_cnt hA hB]; exact if_neg (by omega)
    refine wc_skip ?_
    refine fq_then ?_
    refine wc_seq ?_
    refine wc_region ?_
    refine wl_q (q_loadA rfl rfl Mn42 Sz42 rfl (readsAll (i := 0) rfl)) rfl rfl (by decide) ?_
    refine wl_q (q_move rfl rfl) rfl rfl (by decide) ?_
    refine wl_q (q_move rfl rfl) rfl rfl (by decide) ?_
    refine wl_q (q_bin rfl rfl rfl rfl) rfl rfl (by decide) ?_
    refine wl_store (i := 4) rfl rfl rfl rfl rfl rfl Sz42 rfl rfl (by simp) (by simp [Value.oneCell']) (by first | (simp only [List.take_succ_cons, List.take_zero, List.take_nil, List.drop_succ_cons, List.drop_zero, List.drop_nil, List.nil_append, List.cons_append, List.append_nil, List.length_cons, List.length_nil, Nat.reduceAdd, Nat.zero_add]; rfl) | rfl) (by first | (simp only [List.set_cons_zero, List.set_cons_succ]; rfl) | rfl) ?_
    refine wl_q (q_assign rfl rfl) rfl rfl (by decide) ?_
    refine wl_q (q_assign rfl rfl) rfl rfl (by decide) ?_
    refine wl_nil ?_
    refine fq_then ?_
    refine wc_ret ?_
    refine fq_ctt (i := 4) (.inl rfl) rfl rfl rfl rfl rfl Mn42 Sz42 rfl (fun w1 H => ?_)
    rw [hj]
    exact ⟨gb, rfl, H.pick [1, 6] (by decide) rfl⟩
theorem rputK (bu ma cr seq : Int) (q : Gh) (l : List S51) (w : World) (h : RowR w q (l.map to91)) (hl : l.length ≤ 1000) (hs : 0 ≤ seq ∧ seq < 18446744073709551616) :
    Calls Tryd.prog 26 #[.agg #[.int .i64 bu, .int .i64 ma, .int .i64 cr, .slice q.1 l.length q.2], .int .u64 seq] w fun e w' => e = .returned (.string (strOfNums (jput bu ma l seq))) ∧ Below w.heap.size w w' := by
  have e : (l.map to91).length = l.length := List.length_map ..
  have := RPut_calls bu ma cr seq q.1 q.2 (l.map to91) w h.2 h.1 (by omega) hs
  rw [e, jn_ps] at this
  exact this
set_option maxHeartbeats 1000000 in
theorem rwrite_calls {a b : List Int} (hA : Bytes a) (hB : Bytes b) (la : Int) (wa : ByteArray) (bu ma cr : Int) (q : Gh) (l : List S51) (w : World) (hr : RowR w q (l.map to91)) (hl : l.length ≤ 1000) : Calls Tryd.prog 34 #[.agg #[.string (strOfNums a), .string (strOfNums b), .int .i64 la, .string wa], .agg #[.int .i64 bu, .int .i64 ma, .int .i64 cr, .slice q.1 l.length q.2]] w fun e w' => e = .returned (if Int.tmod (IntKind.u64.wrap ((jload a b).seq + 1)) 2 = 0 then .agg #[.string (strOfNums (jput bu ma l (IntKind.u64.wrap ((jload a b).seq + 1)))), .string (strOfNums b), .int .i64 0, .string (strOfNums a)] else .agg #[.string (strOfNums a), .string (strOfNums (jput bu ma l (IntKind.u64.wrap ((jload a b).seq + 1)))), .int .i64 1, .string (strOfNums b)]) ∧ Below w.heap.size w w' := by
  refine enter (w0 := w) (hp := [old w]) (env := [(0, .agg #[.string (strOfNums a), .string (strOfNums b), .int .i64 la, .string wa]), (1, .agg #[.int .i64 bu, .int .i64 ma, .int .i64 cr, .slice q.1 l.length q.2])]) Tryd.func34 rfl 35 rfl (by simp) rfl (HeapOK.start _) ?_
  refine wc_seq ?_
  refine wc_region ?_
  refine wl_box rfl rfl rfl (by decide) rfl rfl (fun b1 => ?_)
  refine wl_box rfl rfl rfl (by decide) rfl rfl (fun b2 => ?_)
  refine wl_alloc rfl rfl rfl (by decide) Zr46 (fun b3 => ?_)
  refine wl_nil ?_
  refine fq_then ?_
  refine wc_seq ?_
  refine wc_region ?_
  refine wl_q (q_loadA rfl rfl Mn46 Sz46 rfl (readsAll (i := 2) rfl)) rfl rfl (by decide) ?_
  refine wl_call (ι := Gh) (fun i => .tuple #[.agg #[.int .i64 (jload a b).bud, .int .i64 (jload a b).mar, .int .i64 0, .slice i.1 (jload a b).ps.length i.2], .int .u64 (jload a b).seq, .bool (decide (0 < (jload a b).seq))]) (fun i => .own 0 91 2 (.slice i.1 ((jload a b)).ps.length i.2) ((jload a b)).ps.length ((((jload a b)).ps.map to91).flatMap pc91) :: _) (fun _ => True) rfl rfl rfl (by decide) En29 rfl (fun w1 hw1 => (rload_calls hA hB la wa w1).mono (fun e w' ⟨i, h1, h2⟩ => ⟨i, trivial, h1, hw1.lift1 h2⟩)) (fun g _ => ?_)
  refine wl_q (q_move rfl rfl) rfl rfl (by decide) ?_
  refine wl_q (q_extract rfl rfl rfl) rfl rfl (by decide) ?_
  refine wl_q (q_extract rfl rfl rfl) rfl rfl (by decide) ?_
  refine wl_q (q_extract rfl rfl rfl) rfl rfl (by decide) ?_
  refine wl_alloc rfl rfl rfl (by decide) Zr42 (fun b4 => ?_)
  refine wl_store (i := 0) rfl rfl rfl rfl rfl rfl Sz42 rfl rfl (by simp) (by simp [Value.oneCell']) (by first | (simp only [List.take_succ_cons, List.take_zero, List.take_nil, List.drop_succ_cons, List.drop_zero, List.drop_nil, List.nil_append, List.cons_append, List.append_nil, List.length_cons, List.length_nil, Nat.reduceAdd, Nat.zero_add]; rfl) | rfl) (by first | (simp only [List.set_cons_zero, List.set_cons_succ]; rfl) | rfl) ?_
  refine wl_q (q_assign rfl rfl) rfl rfl (by decide) ?_
  refine wl_q (q_assign rfl rfl) rfl rfl (by decide) ?_
  refine wl_nil ?_
  refine fq_then ?_
  refine wc_seq ?_
  refine wc_region ?_
  refine wl_q (q_loadA rfl rfl Mn42 Sz42 rfl (readsAll (i := 3) rfl)) rfl rfl (by decide) ?_
  refine wl_q (q_move rfl rfl) rfl rfl (by decide) ?_
  refine wl_q (q_bin rfl rfl rfl rfl) rfl rfl (by decide) ?_
  refine wl_q (q_call rfl En26 rfl (fun w1 hw1 => rputK bu ma cr (IntKind.u64.wrap ((jload a b).seq + 1)) q l w1 (hr.below (hw1.toBelow (by simp))) hl (u64_range _))) rfl rfl (by decide) ?_
  refine wl_q (q_assign rfl rfl) rfl rfl (by decide) ?_
  refine wl_nil ?_
  refine fq_then ?_
  refine wc_seq ?_
  refine wc_seq ?_
  refine wc_region ?_
  refine wl_q (q_move rfl rfl) rfl rfl (by decide) ?_
  refine wl_q (q_bin rfl rfl rfl rfl) rfl rfl (by decide) ?_
  refine wl_q (q_rem rfl rfl rfl (by decide)) rfl rfl (by decide) ?_
  refine wl_q (q_bin rfl rfl rfl rfl) rfl rfl (by decide) ?_
  refine wl_nil ?_
  refine fq_then ?_
  refine wc_cond rfl (fun h22 => ?_) (fun h22 => ?_)
  · skip
    have q22 := h22
    try simp only [decide_eq_true_eq, decide_eq_false_iff_not, beq_iff_eq, beq_eq_false_iff_ne, bne_iff_ne, ne_eq, bne_eq_false_iff_eq, Int.not_lt, Int.not_le] at q22
    rw [if_pos (by simpa using q22)]
    refine wc_seq ?_
    refine wc_region ?_
    refine wl_q (q_move rfl rfl) rfl rfl (by decide) ?_
    refine wl_q (q_fa (o1 := 1) rfl rfl Fo46_1 rfl) rfl rfl (by decide) ?_
    refine wl_q (q_load rfl rfl Mn9 (reads1 (i := 4) rfl rfl)) rfl rfl (by decide) ?_
    refine wl_q (q_fa (o1 := 0) rfl rfl Fo46_0 rfl) rfl rfl (by decide) ?_
    refine wl_q (q_load rfl rfl Mn9 (reads1 (i := 4) rfl rfl)) rfl rfl (by decide) ?_
    refine wl_q (q_build rfl rfl (built_of Zr46 Pl46 (by simp only [fillL, List.map_cons, List.map_nil, Value.cells, List.getElem?_cons_zero, List.getElem?_cons_succ, List.length_cons, List.length_nil, Nat.reduceAdd, Nat.reduceLeDiff, Nat.le_refl, and_self, and_true, true_and, if_true, Nat.zero_add, spl, List.take_succ_cons, List.take_zero, List.take_nil, List.drop_succ_cons, List.drop_zero, List.drop_nil, List.nil_append, List.cons_append, List.append_nil] <;> rfl))) rfl rfl (by decide) ?_
    refine wl_store (i := 2) rfl rfl rfl rfl rfl rfl Sz46 rfl rfl (by simp) (by simp [Value.oneCell']) (by first | (simp only [List.take_succ_cons, List.take_zero, List.take_nil, List.drop_succ_cons, List.drop_zero, List.drop_nil, List.nil_append, List.cons_append, List.append_nil, List.length_cons, List.length_nil, Nat.reduceAdd, Nat.zero_add]; rfl) | rfl) (by first | (simp only [List.set_cons_zero, List.set_cons_succ]; rfl) | rfl) ?_
    refine wl_nil ?_
    refine fq_then ?_
    refine wc_ret ?_
    refine fq_then_ret ?_
    refine fq_cell (i := 2) (.inl rfl) rfl rfl rfl Mn46 Sz46 rfl (fun w1 H => ?_)
    exact ⟨rfl, H.toBelow (by simp)⟩
  · skip
    have q22 := h22
    try simp only [decide_eq_true_eq, decide_eq_false_iff_not, beq_iff_eq, beq_eq_false_iff_ne, bne_iff_ne, ne_eq, bne_eq_false_iff_eq, Int.not_lt, Int.not_le] at q22
    rw [if_neg (by simpa using q22)]
    refine wc_skip ?_
    refine fq_then ?_
    refine wc_seq ?_
    refine wc_region ?_
    refine wl_q (q_fa (o1 := 0) rfl rfl Fo46_0 rfl) rfl rfl (by decide) ?_
    refine wl_q (q_load rfl rfl Mn9 (reads1 (i := 4) rfl rfl)) rfl rfl (by decide) ?_
    refine wl_q (q_move rfl rfl) rfl rfl (by decide) ?_
    refine wl_q (q_fa (o1 := 1) rfl rfl Fo46_1 rfl) rfl rfl (by decide) ?_
    refine wl_q (q_load rfl rfl Mn9 (reads1 (i := 4) rfl rfl)) rfl rfl (by decide) ?_
    refine wl_q (q_build rfl rfl (built_of Zr46 Pl46 (by simp only [fillL, List.map_cons, List.map_nil, Value.cells, List.getElem?_cons_zero, List.getElem?_cons_succ, List.length_cons, List.length_nil, Nat.reduceAdd, Nat.reduceLeDiff, Nat.le_refl, and_self, and_true, true_and, if_true, Nat.zero_add, spl, List.take_succ_cons, List.take_zero, List.take_nil, List.drop_succ_cons, List.drop_zero, List.drop_nil, List.nil_append, List.cons_append, List.append_nil] <;> rfl))) rfl rfl (by decide) ?_
    refine wl_store (i := 2) rfl rfl rfl rfl rfl rfl Sz46 rfl rfl (by simp) (by simp [Value.oneCell']) (by first | (simp only [List.take_succ_cons, List.take_zero, List.take_nil, List.drop_succ_cons, List.drop_zero, List.drop_nil, List.nil_append, List.cons_append, List.append_nil, List.length_cons, List.length_nil, Nat.reduceAdd, Nat.zero_add]; rfl) | rfl) (by first | (simp only [List.set_cons_zero, List.set_cons_succ]; rfl) | rfl) ?_
    refine wl_nil ?_
    refine fq_then ?_
    refine wc_ret ?_
    refine fq_cell (i := 2) (.inl rfl) rfl rfl rfl Mn46 Sz46 rfl (fun w1 H => ?_)
    exact ⟨rfl, H.toBelow (by simp)⟩
end Go.Proofs.YtbcijmpkmmcdeaaDoor.SF
end
section
namespace Go.Proofs.YtbcijmpkmmcdeaaDoor.Op
open Go.RowKit Go.Proofs.YtbcijmpkmmcdeaaDoorW.PrintWords
open Go.ChangeShapes Go.WideShapes
structure Opens {α : Type} (K : Kd α) (P : Program) (t : TypeId) (ok : α → Prop) : Prop where
  sz : P.cellsOf t = K.sz
  op : ∀ {H : Type} {enc : TypeId × Value → H} {w : World} {base : Nat} {spare : Nat → Bool} {held : Bool} {fuel : Nat} {cs : List Value} {x : DataW H × List MemPlace},
    DataW.trod enc P w base spare held fuel t cs = some x → ∃ a, K.K w a cs ∧ ok a
theorem Opens.int {P : Program} {t : TypeId} (k : IntKind) (ht : P.underlying t = some (.int k)) (hc : P.cellsOf t = 1) : Opens (Kd.int k) P t (fun n => (Lit.int k n).wf = true) :=
  ⟨hc, fun h => by obtain ⟨n, rfl, _, hw⟩ := DataW.trod_int ht h; exact ⟨n, rfl, hw⟩⟩
theorem Opens.bool {P : Program} {t : TypeId} (ht : P.underlying t = some .bool) (hc : P.cellsOf t = 1) : Opens Kd.bool P t (fun _ => True) :=
  ⟨hc, fun h => by obtain ⟨b, rfl, _⟩ := DataW.trod_bool ht h; exact ⟨b, rfl, trivial⟩⟩
theorem Opens.string {P : Program} {t : TypeId} (ht : P.underlying t = some .string) (hc : P.cellsOf t = 1) : Opens Kd.string P t (fun s => s.size ≤ maxLen) :=
  ⟨hc, fun h => by obtain ⟨s, rfl, _, hw⟩ := DataW.trod_string ht h; exact ⟨s, rfl, hw⟩⟩
theorem cells_at {w : World} {base : Nat} {a : Addr} {n : Nat} {cs : List Value} (h : w.cells? base a n = some cs) : cs.length = n ∧ ∀ i u, cs[i]? = some u → w.cell? (a.add i) = some u := by
  obtain ⟨_, hl, hc⟩ := World.cells?_some h
  refine ⟨hl, fun i u hu => ?_⟩
  have hi : i < n := by have := (List.getElem?_eq_some_iff.1 hu).1; omega
  rw [hc i hi, hu]
theorem Opens.slice {α : Type} {K : Kd α} {P : Program} {t e : TypeId} {ok : α → Prop} (ht : P.underlying t = some (.slice e)) (hc : P.cellsOf t = 1) (h : Opens K P e ok) :
    Opens (Kd.slice e K) P t (fun xs => xs.length ≤ maxLen ∧ ∀ x ∈ xs, ok x) := by
  refine ⟨hc, fun {H enc w base spare held fuel cs x} hx => ?_⟩
  rcases DataW.trod_slice ht hx with ⟨rfl, _⟩ | ⟨a, len, cap, elems, rest, n, _, rfl, _, _, hl, hm, hlen, hel, _, _⟩
  · exact ⟨[], ⟨none, 0, rfl, Nat.le_refl _, rfl, by simp, fun h0 => absurd h0 (by simp)⟩, by simp, by simp⟩
  · have each : ∀ i, i < len → ∃ a', ok a' ∧ ∃ cs, cs.length = K.sz ∧ K.K w a' cs ∧ ∀ j u, cs[j]? = some u → w.cell? (a.add (i * K.sz + j)) = some u := by
      intro i hi
      have h1 := hel i hi
      rw [List.getElem?_eq_getElem (by omega), Option.bind_eq_some_iff] at h1
      obtain ⟨cs', hcs, hy⟩ := h1
      obtain ⟨a', hk, ho⟩ := h.op hy
      obtain ⟨hlc, hcell⟩ := cells_at hcs
      refine ⟨a', ho, cs', by rw [hlc, h.sz], hk, fun j u hu => ?_⟩
      have := hcell j u hu
      rwa [h.sz, Addr.add_add] at this
    have pick : ∀ m, m ≤ len → ∃ xs : List α, xs.length = m ∧ (∀ x ∈ xs, ok x) ∧ ∀ i p, xs[i]? = some p → ∃ cs, cs.length = K.sz ∧ K.K w p cs ∧ ∀ j u, cs[j]? = some u → w.cell? (a.add (i * K.sz + j)) = some u := by
      intro m
      induction m with
      | zero => intro _; exact ⟨[], rfl, by simp, by simp⟩
      | succ m ih =>
        intro hm'
        obtain ⟨xs, hxl, hxo, hxc⟩ := ih (by omega)
        obtain ⟨a', ho, hcs⟩ := each m (by omega)
        refine ⟨xs ++ [a'], by simp [hxl], fun y hy => ?_, fun i p hp => ?_⟩
        · rcases List.mem_append.1 hy with hy | hy
          · exact hxo y hy
          · rw [List.mem_singleton.1 hy]; exact ho
        · by_cases hi : i < m
          · rw [List.getElem?_append_left (by omega)] at hp
            exact hxc i p hp
          · have : i = m := by
              have := (List.getElem?_eq_some_iff.1 hp).1
              simp [hxl] at this; omega
            subst this
            rw [List.getElem?_append_right (by omega), hxl] at hp
            simp at hp
            subst hp
            exact hcs
    obtain ⟨xs, hxl, hxo, hxc⟩ := pick len (Nat.le_refl _)
    refine ⟨xs, ⟨some a, cap, by rw [hxl], by omega, rfl, by unfold maxLen at hm; omega, fun _ => ⟨a, rfl, hxc⟩⟩, by omega, hxo⟩
end Go.Proofs.YtbcijmpkmmcdeaaDoor.Op
end
section
namespace Go.Proofs.YtbcijmpkmmcdeaaDoor.PAll
open Go.RowKit Go.Proofs.YtbcijmpkmmcdeaaDoorW.PrintWords Go.Proofs.YtbcijmpkmmcdeaaDoorW.PrintLast Go.Proofs.YtbcijmpkmmcdeaaDoorW.PrintMore
open Go.ChangeShapes Go.WideShapes
set_option linter.unusedVariables false
set_option linter.unusedSimpArgs false
set_option maxRecDepth 100000
theorem opens51 : Op.Opens k51 Tryd.prog 51 (fun _ => True) := by
  refine ⟨by kernel_rfl, fun {H enc w base spare held fuel cs x} hx => ?_⟩
  obtain ⟨y0, y1, n, _, hl, h0, h1⟩ := trod_struct2 Tryd.underlying51 hx
  have hc3 : Tryd.prog.cellsOf 3 = 1 := by kernel_rfl
  have hc51 : Tryd.prog.cellsOf 51 = 2 := by kernel_rfl
  rw [hc51] at hl
  match cs, hl with
  | [u, v], _ =>
    simp only [hc3, List.drop_zero, List.take_succ_cons, List.take_zero, List.drop_succ_cons] at h0 h1
    obtain ⟨a, ea, _, _⟩ := DataW.trod_int Tryd.underlying3 h0
    obtain ⟨b, eb, _, _⟩ := DataW.trod_int Tryd.underlying3 h1
    simp only [List.cons.injEq, and_true] at ea eb
    subst ea; subst eb
    exact ⟨⟨a, b⟩, ⟨_, _, rfl, rfl, rfl⟩, trivial⟩
theorem ledger_open {H : Type} {enc : TypeId × Value → H} {w : World} {base : Nat} {spare : Nat → Bool} {held : Bool} {fuel : Nat} {cs : List Value} {x : DataW H × List MemPlace} (h : DataW.trod enc Tryd.prog w base spare held fuel 32 cs = some x) :
    ∃ (b m cr : Int) (A : Option Addr) (c : Nat) (l : List S51), cs = [.int .i64 b, .int .i64 m, .int .i64 cr, .slice A l.length c] ∧ l.length ≤ c ∧ Kd.C k51 w A l.length l := by
  obtain ⟨xs, n, _, _, hl, hlen, hf⟩ := DataW.trod_struct Tryd.underlying32 h
  have hc3 : Tryd.prog.cellsOf 3 = 1 := by kernel_rfl
  have hc30 : Tryd.prog.cellsOf 30 = 1 := by kernel_rfl
  have hc32 : Tryd.prog.cellsOf 32 = 4 := by kernel_rfl
  rw [hc32] at hl
  match cs, hl, xs, hlen with
  | [u, v, y, z], _, [x0, x1, x2, x3], _ =>
    have f0 : DataW.trod enc Tryd.prog w base spare held n 3 (([u, v, y, z].drop 0).take (Tryd.prog.cellsOf 3)) = some x0 := hf 0 _ rfl
    have f1 : DataW.trod enc Tryd.prog w base spare held n 3 (([u, v, y, z].drop 1).take (Tryd.prog.cellsOf 3)) = some x1 := hf 1 _ rfl
    have f2 : DataW.trod enc Tryd.prog w base spare held n 3 (([u, v, y, z].drop 2).take (Tryd.prog.cellsOf 3)) = some x2 := hf 2 _ rfl
    have f3 : DataW.trod enc Tryd.prog w base spare held n 30 (([u, v, y, z].drop 3).take (Tryd.prog.cellsOf 30)) = some x3 := hf 3 _ rfl
    rw [hc3] at f0 f1 f2
    rw [hc30] at f3
    obtain ⟨a, ea, _, _⟩ := DataW.trod_int Tryd.underlying3 (show DataW.trod enc Tryd.prog w base spare held n 3 [u] = some x0 from f0)
    obtain ⟨b, eb, _, _⟩ := DataW.trod_int Tryd.underlying3 (show DataW.trod enc Tryd.prog w base spare held n 3 [v] = some x1 from f1)
    obtain ⟨c, ec, _, _⟩ := DataW.trod_int Tryd.underlying3 (show DataW.trod enc Tryd.prog w base spare held n 3 [y] = some x2 from f2)
    simp only [List.cons.injEq, and_true] at ea eb ec
    subst ea; subst eb; subst ec
    obtain ⟨l, ⟨A, cc, ez, hlc, hC⟩, _⟩ := (Op.Opens.slice (K := k51) Tryd.underlying30 hc30 opens51).op (show DataW.trod enc Tryd.prog w base spare held n 30 [z] = some x3 from f3)
    simp only [List.cons.injEq, and_true] at ez
    subst ez
    exact ⟨a, b, c, A, cc, l, rfl, hlc, hC⟩
end Go.Proofs.YtbcijmpkmmcdeaaDoor.PAll
end
section
namespace Go.Proofs.YtbcijmpkmmcdeaaDoor.SF
open Go.RowKit Go.Sx Go.Proofs.YtbcijmpkmmcdeaaDoor.PAll Go.Proofs.YtbcijmpkmmcdeaaDoorW.PrintWords Go.Proofs.YtbcijmpkmmcdeaaDoorW.PrintLast Go.Proofs.YtbcijmpkmmcdeaaDoorW.PrintMore
set_option linter.unusedVariables false
set_option linter.unusedSimpArgs false
set_option maxRecDepth 100000
structure S32 where
  f0 : Int
  f1 : Int
  f2 : Int
  f3 : List S51
def k32 : Kd S32 := Kd.iso (Kd.pair (Kd.int .i64) (Kd.pair (Kd.int .i64) (Kd.pair (Kd.int .i64) (Kd.slice 51 k51)))) (fun x : S32 => (x.f0, x.f1, x.f2, x.f3))
theorem k32_open {w : World} {x : S32} {cs : List Value} (h : k32.K w x cs) : ∃ g : Gh, cs = [.int .i64 x.f0, .int .i64 x.f1, .int .i64 x.f2, .slice g.1 x.f3.length g.2] ∧ RowP w g x.f3 := by
  obtain ⟨_, _, rfl, rfl, _, _, rfl, rfl, _, _, rfl, rfl, A, c, rfl, h1, h2⟩ := h
  exact ⟨(A, c), rfl, h1, h2⟩
theorem k32_mk {w : World} {g : Gh} (x : S32) (h : RowP w g x.f3) : k32.K w x [.int .i64 x.f0, .int .i64 x.f1, .int .i64 x.f2, .slice g.1 x.f3.length g.2] :=
  ⟨[_], [_, _, _], rfl, rfl, [_], [_, _], rfl, rfl, [_], [_], rfl, rfl, _, _, rfl, h.1, h.2⟩
def RowL (w : World) (q : Gh) (l : List S32) : Prop := l.length ≤ q.2 ∧ Kd.C k32 w q.1 l.length l
theorem RowL.below {w w' : World} {q : Gh} {l : List S32} (h : RowL w q l) (hb : Below w.heap.size w w') : RowL w' q l := ⟨h.1, Kd.C_below h.2 hb⟩
theorem RowL.at {w : World} {q : Gh} {l : List S32} {j : Nat} {p : S32} (h : RowL w q l) (hp : l[j]? = some p) : ∃ ad g, q.1 = some ad ∧ CellsAt w (ad.add (j * 4)) [.int .i64 p.f0, .int .i64 p.f1, .int .i64 p.f2, .slice g.1 p.f3.length g.2] ∧ RowP w g p.f3 := by
  obtain ⟨h1, h2, h3⟩ := h.2
  have hj : j < l.length := (List.getElem?_eq_some_iff.1 hp).1
  obtain ⟨ad, e, hc⟩ := h3 (by omega)
  obtain ⟨c, hs, hr, hcell⟩ := hc j p hp
  obtain ⟨g, rfl, hg⟩ := k32_open hr
  exact ⟨ad, g, e, fun i u hu => by rw [Sx.add_add]; exact hcell i u hu, hg⟩
theorem RowC.upd {b : Nat} {T : TypeId} {cs cs' : List Value} {w w' : World} {p : Gh} {l : List Int} (h : RowC w p l) (hu : Upd b T cs cs' w w') (hn : ∀ (k : Nat) (x : Int), cs[k]? ≠ some (.int .u8 x)) : RowC w' p l := by
  obtain ⟨h0, h1, h2, h3⟩ := h
  refine ⟨h0, h1, h2, fun hl => ?_⟩
  obtain ⟨ad, e, hc⟩ := h3 hl
  refine ⟨ad, e, fun j q hq => ?_⟩
  obtain ⟨c, hs, hr, hcell⟩ := hc j q hq
  refine ⟨c, hs, hr, fun i u hiu => ?_⟩
  have hx := hcell i u hiu
  refine hu.cell hx ?_
  have hr' : c = [.int .u8 q] := hr
  subst hr'
  match i, hiu with
  | 0, hiu =>
    cases hiu
    exact hu.ne hx (fun k => hn k q)
  | i + 1, hiu => simp at hiu
theorem Jn.ok.upd {b : Nat} {T : TypeId} {cs cs' : List Value} {w w' : World} {J : Jn} {p0 p1 p2 : Gh} (h : Jn.ok w J p0 p1 p2) (hu : Upd b T cs cs' w w') (hn : ∀ (k : Nat) (x : Int), cs[k]? ≠ some (.int .u8 x)) : Jn.ok w' J p0 p1 p2 := ⟨h.1.upd hu hn, h.2.1.upd hu hn, h.2.2.upd hu hn⟩
theorem cells_u8 (J : Jn) (p0 p1 p2 : Gh) : ∀ (k : Nat) (x : Int), (Jn.cells J p0 p1 p2)[k]? ≠ some (.int .u8 x) := by
  intro k x
  match k with
  | 0 => simp [Jn.cells]
  | 1 => simp [Jn.cells]
  | 2 => simp [Jn.cells]
  | 3 => simp [Jn.cells]
  | 4 => simp [Jn.cells]
  | k + 5 => simp [Jn.cells]
def JJ (L : List S32) : Nat → Jn
  | 0 => ⟨[], [], 0, [], false⟩
  | i + 1 => match L[i]? with
    | some p => (JJ L i).write p.f0 p.f1 p.f3
    | none => JJ L i
structure JInv (J : Jn) (i : Nat) : Prop where
  b0 : Bytes J.s0
  b1 : Bytes J.s1
  sq : (jload J.s0 J.s1).seq = i
theorem JInv.zero (L : List S32) : JInv (JJ L 0) 0 := ⟨Bytes_nil, Bytes_nil, by
  show (jload [] []).seq = 0
  rw [show jload [] [] = ⟨0, 0, [], 0⟩ from jload_short (by decide) (by decide) (fun x hx => by cases hx) (fun x hx => by cases hx)]⟩
end Go.Proofs.YtbcijmpkmmcdeaaDoor.SF
end
section
namespace Go.Proofs.YtbcijmpkmmcdeaaDoor.SF
open Go.RowKit Go.Sx Go.Proofs.YtbcijmpkmmcdeaaDoor.PAll Go.Proofs.YtbcijmpkmmcdeaaDoorW.PrintWords Go.Proofs.YtbcijmpkmmcdeaaDoorW.PrintLast Go.Proofs.YtbcijmpkmmcdeaaDoorW.PrintMore
open Go.Proofs.YtbcijmpkmmcdeaaDoor.PChk (sumP sum_ev)
set_option linter.unusedVariables false
set_option linter.unusedSimpArgs false
set_option maxRecDepth 100000
def RowM (w : World) (q : Gh) (l : List S28) : Prop := l.length ≤ q.2 ∧ Kd.C k28 w q.1 l.length l
theorem RowM.below {w w' : World} {q : Gh} {l : List S28} (h : RowM w q l) (hb : Below w.heap.size w w') : RowM w' q l := ⟨h.1, Kd.C_below h.2 hb⟩
theorem RowM.none (w : World) (q : Gh) : RowM w q [] := ⟨Nat.zero_le _, rfl, by decide, fun h => absurd h (by decide)⟩
theorem RowM.at {w : World} {q : Gh} {l : List S28} {j : Nat} {p : S28} (h : RowM w q l) (hp : l[j]? = some p) : ∃ ad, q.1 = some ad ∧ CellsAt w (ad.add (j * 2)) [.int .i64 p.f0, .int .i64 p.f1] := C28_at h.2 hp
end Go.Proofs.YtbcijmpkmmcdeaaDoor.SF
end
section
namespace Go.Proofs.YtbcijmpkmmcdeaaDoor.SF
open Go.RowKit Go.Sx Go.Proofs.YtbcijmpkmmcdeaaDoor.PAll Go.Proofs.YtbcijmpkmmcdeaaDoorW.PrintWords Go.Proofs.YtbcijmpkmmcdeaaDoorW.PrintLast Go.Proofs.YtbcijmpkmmcdeaaDoorW.PrintMore
set_option linter.unusedVariables false
set_option linter.unusedSimpArgs false
set_option maxRecDepth 100000
theorem WriteE (J : Jn) (p0 p1 p2 : Gh) (bu ma cr : Int) (q : Gh) (l : List S51) (w : World) (hJ : Jn.ok w J p0 p1 p2) (hB0 : Bytes J.s0) (hB1 : Bytes J.s1) (hr : RowP w q l) (hl : l.length ≤ 1000) (hh : Half w) {J2 : Jn} (hW : J.write bu ma l = J2) :
    Calls Tryd.prog 33 #[.agg (J.cells p0 p1 p2).toArray, .agg #[.int .i64 bu, .int .i64 ma, .int .i64 cr, .slice q.1 l.length q.2]] w fun e w' => ∃ i : Gh × Gh × Gh, Jn.ok w' J2 i.1 i.2.1 i.2.2 ∧ e = .returned (.agg (J2.cells i.1 i.2.1 i.2.2).toArray) ∧ Below w.heap.size w w' := by
  subst hW
  exact WriteK J p0 p1 p2 bu ma cr q l w hJ hB0 hB1 hr hl hh
theorem TearE (J : Jn) (n : Int) (p0 p1 p2 : Gh) (w : World) (hJ : Jn.ok w J p0 p1 p2) (hL : J.last = 0 ∨ J.last = 1) (h0 : J.s0.length < 17592186044416) (h1 : J.s1.length < 17592186044416) (h2 : J.was.length < 17592186044416) {J2 : Jn} (hT : J.tear n = J2) :
    Calls Tryd.prog 31 #[.agg (J.cells p0 p1 p2).toArray, .int .i64 n] w fun e w' => ∃ i : Gh × Gh × Gh, Jn.ok w' J2 i.1 i.2.1 i.2.2 ∧ e = .returned (.agg (J2.cells i.1 i.2.1 i.2.2).toArray) ∧ Below w.heap.size w w' := by
  subst hT
  exact (TearK J n p0 p1 p2 w hJ hL h0 h1 h2).mono (fun e w' ⟨i, h1, h2, h3⟩ => ⟨(i.1, i.2, p2), h1, h2, h3⟩)
end Go.Proofs.YtbcijmpkmmcdeaaDoor.SF
end
section
namespace Go.Proofs.YtbcijmpkmmcdeaaDoor.PAll
open Go.RowKit Go.Proofs.YtbcijmpkmmcdeaaDoorW.PrintWords Go.Proofs.YtbcijmpkmmcdeaaDoorW.PrintLast Go.Proofs.YtbcijmpkmmcdeaaDoorW.PrintMore
attribute [local go_sem] max2_int min2_int max_two min_two max_three min_three max_four min_four
set_option linter.unusedVariables false
set_option linter.unusedSimpArgs false
mutual
def paternosterref16_Tear.j0 : Nat → Int → ByteArray → ByteArray → ByteArray → Int → ByteArray → Option (ByteArray × ByteArray × Int × ByteArray)
  | 0, _, _, _, _, _, _ => none
  | k + 1, x1, x5, x337000, x337001, x337002, x337003 => if x1 < 0 then (paternosterref16_Tear.j1 k 0 x5 x337000 x337001 x337002 x337003) else (paternosterref16_Tear.j1 k x1 x5 x337000 x337001 x337002 x337003)
def paternosterref16_Tear.j1 : Nat → Int → ByteArray → ByteArray → ByteArray → Int → ByteArray → Option (ByteArray × ByteArray × Int × ByteArray)
  | 0, _, _, _, _, _, _ => none
  | k + 1, x1, x5, x337000, x337001, x337002, x337003 => if x337002 < 0 then (paternosterref16_Tear.j2 k x1 x5 true x337000 x337001 x337002 x337003) else (paternosterref16_Tear.j2 k x1 x5 (decide (x1 ≥ (x5.size : Int))) x337000 x337001 x337002 x337003)
def paternosterref16_Tear.j2 : Nat → Int → ByteArray → Bool → ByteArray → ByteArray → Int → ByteArray → Option (ByteArray × ByteArray × Int × ByteArray)
  | 0, _, _, _, _, _, _, _ => none
  | k + 1, x1, x5, x24, x337000, x337001, x337002, x337003 => if x24 = true then (some (x337000, x337001, x337002, x337003)) else (if 0 ≤ x1 then (if x1 ≤ (x5.size : Int) then (if x1 < (x337003.size : Int) then (if x1 ≤ (x337003.size : Int) then (if (x5.extract 0 (x1 : Int).toNat).size + (x337003.extract (x1 : Int).toNat x337003.size).size ≤ 9223372036854775807 then (if x337002 = 1 then (some (x337000, (x5.extract 0 (x1 : Int).toNat) ++ (x337003.extract (x1 : Int).toNat x337003.size), x337002, x337003)) else (some ((x5.extract 0 (x1 : Int).toNat) ++ (x337003.extract (x1 : Int).toNat x337003.size), x337001, x337002, x337003))) else (none)) else (none)) else (if x337002 = 1 then (some (x337000, x5.extract 0 (x1 : Int).toNat, x337002, x337003)) else (some (x5.extract 0 (x1 : Int).toNat, x337001, x337002, x337003)))) else (none)) else (none))
end
def paternosterref16_Tear.f (k : Nat) (a0_0 : ByteArray) (a0_1 : ByteArray) (a0_2 : Int) (a0_3 : ByteArray) (a1 : Int) : Option (ByteArray × ByteArray × Int × ByteArray) := if a0_2 = 1 then (paternosterref16_Tear.j0 k a1 a0_1 a0_0 a0_1 a0_2 a0_3) else (paternosterref16_Tear.j0 k a1 a0_0 a0_0 a0_1 a0_2 a0_3)
set_option maxHeartbeats 8000000 in
set_option maxRecDepth 100000 in
theorem paternosterref16_Tear.calls (k : Nat) (a0_0 : ByteArray) (a0_1 : ByteArray) (a0_2 : Int) (a0_3 : ByteArray) (a1 : Int) (r1 : ByteArray) (r2 : ByteArray) (r3 : Int) (r4 : ByteArray) (w : World) (h : paternosterref16_Tear.f k a0_0 a0_1 a0_2 a0_3 a1 = some (r1, r2, r3, r4)) :
    Calls Tryd.prog 32 #[.agg #[.string a0_0, .string a0_1, .int .i64 a0_2, .string a0_3], .int .i64 a1] w fun e w' => e = .returned (.agg #[.string r1, .string r2, .int .i64 r3, .string r4]) ∧ Below w.heap.size w w' := by
  have hu46 := Tryd.underlying46
  have HB := Aside0.mk (Below.refl w.heap.size w)
  have H : (if a0_2 = 1 then (paternosterref16_Tear.j0 k a1 a0_1 a0_0 a0_1 a0_2 a0_3) else (paternosterref16_Tear.j0 k a1 a0_0 a0_0 a0_1 a0_2 a0_3)) = some (r1, r2, r3, r4) := h
  clear h
  have HC3 := Aside0.mk H
  clear H
  go_enter Tryd.func32, Tryd.ntmps32
  go_upto_if 11 with (first | ((with_reducible refine gate_dst (N := 2) rfl ?_); (try (refine gate_guard (by rfl) ?_; dsimp only)); refine box_event ?hg (N := 2) ?hd (cs := #[.string a0_0, .string a0_1, .int .i64 a0_2, .string a0_3]) (t := 46) ?hr ?_; (case hd => rfl); (case hg => rfl); (case hr => first | (go_simp; done) | (go_simp; rfl)); intro gb336 hg w4 hbox hb; have n0_ := Aside0.mk (below_step (by repeat (first | (with_reducible first | exact HB.out | apply below_alloc | apply pw_below_drewN | apply below_drew1) | exact HB.out)) hb); have n1_ := Aside0.mk (hbox); have n2_ := Aside0.mk ((by rw [hg]; exact (below_size (by repeat (first | (with_reducible first | exact HB.out | apply below_alloc | apply pw_below_drewN | apply below_drew1) | exact HB.out))) : w.heap.size ≤ gb336)); have n3_ := Aside0.mk ((by rw [hg]; exact (below_size (by repeat (first | (with_reducible first | exact HB.out | apply below_alloc | apply pw_below_drewN | apply below_drew1) | exact HB.out))) : w.heap.size ≤ gb336)); clear HB; have HB := n0_; have BK336 := n1_; have GW336 := n2_; have GE336 := n3_; clear n0_ n1_ n2_ n3_; clear hb hbox hg) | ((with_reducible refine gate_dst (N := 4) rfl ?_); (try (refine gate_guard (by rfl) ?_; dsimp only)); refine box_event ?hg (N := 4) ?hd (cs := #[.string (⟨#[]⟩ : ByteArray), .string (⟨#[]⟩ : ByteArray), .int .i64 0, .string (⟨#[]⟩ : ByteArray)]) (t := 46) ?hr ?_; (case hd => rfl); (case hg => rfl); (case hr => first | (go_simp; done) | (go_simp; rfl)); intro gb337 hg w5 hbox hb; have n0_ := Aside0.mk (blk_below (g := gb336) (o := .cells #[.string a0_0, .string a0_1, .int .i64 a0_2, .string a0_3] 46 (0, 0)) (by (with_reducible repeat (first | refine blk_drewN ?_ _ | refine blk_drew ?_ | refine blk_alloc ?_ _)); exact BK336.out) hb); have n1_ := Aside0.mk (below_step (by repeat (first | (with_reducible first | exact HB.out | apply below_alloc | apply pw_below_drewN | apply below_drew1 | refine below_set ?_ GE336.out) | exact HB.out)) hb); have n2_ := Aside0.mk (hbox); have n3_ := Aside0.mk ((by rw [hg]; exact (below_size (by repeat (first | (with_reducible first | exact HB.out | apply below_alloc | apply pw_below_drewN | apply below_drew1 | refine below_set ?_ GE336.out) | exact HB.out))) : w.heap.size ≤ gb337)); have n4_ := Aside0.mk ((by rw [hg]; exact (below_size (by repeat (first | (with_reducible first | exact HB.out | apply below_alloc | apply pw_below_drewN | apply below_drew1 | refine below_set ?_ GE336.out) | exact HB.out))) : w.heap.size ≤ gb337)); have n5_ := Aside0.mk ((by rw [hg]; exact Nat.ne_of_lt (blk_lt (g := gb336) (o := .cells #[.string a0_0, .string a0_1, .int .i64 a0_2, .string a0_3] 46 (0, 0)) (by (with_reducible repeat (first | refine blk_drewN ?_ _ | refine blk_drew ?_ | refine blk_alloc ?_ _)); exact BK336.out)) : gb336 ≠ gb337)); have n6_ := Aside0.mk ((by rw [hg]; exact Nat.ne_of_gt (blk_lt (g := gb336) (o := .cells #[.string a0_0, .string a0_1, .int .i64 a0_2, .string a0_3] 46 (0, 0)) (by (with_reducible repeat (first | refine blk_drewN ?_ _ | refine blk_drew ?_ | refine blk_alloc ?_ _)); exact BK336.out)) : gb337 ≠ gb336)); clear BK336; clear HB; have BK336 := n0_; have HB := n1_; have BK337 := n2_; have GW337 := n3_; have GE337 := n4_; have NB336_337 := n5_; have NB337_336 := n6_; clear n0_ n1_ n2_ n3_ n4_ n5_ n6_; clear hb hbox hg; have hnb6 := NB336_337.out; have hnc6 := NB337_336.out; have hcz7_0 : w5.cell? ⟨gb336, 0, none⟩ = some (.string a0_0) := (blk_cell BK336.out 0).trans rfl; have hcz7_1 : w5.cell? ⟨gb336, 1, none⟩ = some (.string a0_1) := (blk_cell BK336.out 1).trans rfl; have hcz7_2 : w5.cell? ⟨gb336, 2, none⟩ = some (.int .i64 a0_2) := (blk_cell BK336.out 2).trans rfl; have hcz7_3 : w5.cell? ⟨gb336, 3, none⟩ = some (.string a0_3) := (blk_cell BK336.out 3).trans rfl; have hfz7_0 := blk_frozen BK336.out 0; have hfz7_1 := blk_frozen BK336.out 1; have hfz7_2 := blk_frozen BK336.out 2; have hfz7_3 := blk_frozen BK336.out 3))
  (try simp only [Act.put, List.setIfInBounds_toArray, List.set_cons_zero, List.set_cons_succ])
  go_cut [5] (fun v5 wc => ∃ (kq : Nat) (x5_2 : ByteArray), v5 = .string x5_2 ∧ Aside0 (paternosterref16_Tear.j0 kq a1 x5_2 a0_0 a0_1 a0_2 a0_3 = some (r1, r2, r3, r4)) ∧ Aside0 (kq ≤ k) ∧ Aside0 (wc.heap[gb336]? = some (.cells #[.string a0_0, .string a0_1, .int .i64 a0_2, .string a0_3] 46 (0, 0))) ∧ Aside0 (wc.heap[gb337]? = some (.cells #[.string (⟨#[]⟩ : ByteArray), .string (⟨#[]⟩ : ByteArray), .int .i64 0, .string (⟨#[]⟩ : ByteArray)] 46 (0, 0))) ∧ Aside0 (Below w.heap.size w wc))
  case first =>
    have H := HC3.out
    clear HC3
    by_cases c8 : a0_2 = 1
    · rw [if_pos c8] at H
      have c8b0 : (a0_2 == 1) = true := beq_iff_eq.mpr c8
      have c8b1 : (a0_2 != 1) = false := bne_eq_false_iff_eq.mpr c8
      clear c8
      (first | rw [c8b0] | (simp only [i64_w, i32_w]; rw [c8b0]) | skip)
      have H' := Aside0.mk H
      clear H
      have hnb9 := NB336_337.out
      have hnc9 := NB337_336.out
      have hcz10_0 : w5.cell? ⟨gb336, 0, none⟩ = some (.string a0_0) := (blk_cell BK336.out 0).trans rfl
      have hcz10_1 : w5.cell? ⟨gb336, 1, none⟩ = some (.string a0_1) := (blk_cell BK336.out 1).trans rfl
      have hcz10_2 : w5.cell? ⟨gb336, 2, none⟩ = some (.int .i64 a0_2) := (blk_cell BK336.out 2).trans rfl
      have hcz10_3 : w5.cell? ⟨gb336, 3, none⟩ = some (.string a0_3) := (blk_cell BK336.out 3).trans rfl
      have hfz10_0 := blk_frozen BK336.out 0
      have hfz10_1 := blk_frozen BK336.out 1
      have hfz10_2 := blk_frozen BK336.out 2
      have hfz10_3 := blk_frozen BK336.out 3
      go_wp2
      go_meet
      case rel => exact ⟨_, (a0_1), (by first | rfl | (simp; done) | (simp [*]; done)), H', ⟨by first | omega | exact Nat.le_refl _⟩, ⟨by (with_reducible repeat (first | refine blk_drewN ?_ _ | refine blk_drew ?_ | refine blk_alloc ?_ _)); exact BK336.out⟩, ⟨by (with_reducible repeat (first | refine blk_drewN ?_ _ | refine blk_drew ?_ | refine blk_alloc ?_ _)); exact BK337.out⟩, ⟨by repeat (first | (with_reducible first | exact HB.out | apply below_alloc | apply pw_below_drewN | apply below_drew1 | refine below_set ?_ GE336.out | refine below_set ?_ GE337.out) | exact HB.out)⟩⟩
    · rw [if_neg c8] at H
      have c8b0 : (a0_2 == 1) = false := beq_eq_false_iff_ne.mpr c8
      have c8b1 : (a0_2 != 1) = true := bne_iff_ne.mpr c8
      (first | rw [c8b0] | (simp only [i64_w, i32_w]; rw [c8b0]) | skip)
      have H' := Aside0.mk H
      clear H
      go_wp2
      go_meet
      case rel => exact ⟨_, (a0_0), (by first | rfl | (simp; done) | (simp [*]; done)), H', ⟨by first | omega | exact Nat.le_refl _⟩, ⟨by (with_reducible repeat (first | refine blk_drewN ?_ _ | refine blk_drew ?_ | refine blk_alloc ?_ _)); exact BK336.out⟩, ⟨by (with_reducible repeat (first | refine blk_drewN ?_ _ | refine blk_drew ?_ | refine blk_alloc ?_ _)); exact BK337.out⟩, ⟨by repeat (first | (with_reducible first | exact HB.out | apply below_alloc | apply pw_below_drewN | apply below_drew1 | refine below_set ?_ GE336.out | refine below_set ?_ GE337.out) | exact HB.out)⟩⟩
  case rest =>
    clear HC3
    try clear p2
    try clear c3
    try clear c6
    try clear c8
    try clear c8b0
    try clear c8b1
    try clear c9
    try clear hcz10_0
    try clear hcz10_1
    try clear hcz10_2
    try clear hcz10_3
    try clear hcz7_0
    try clear hcz7_1
    try clear hcz7_2
    try clear hcz7_3
    try clear hfz10_0
    try clear hfz10_1
    try clear hfz10_2
    try clear hfz10_3
    try clear hfz7_0
    try clear hfz7_1
    try clear hfz7_2
    try clear hfz7_3
    obtain ⟨kq, x5_2, rfl, HA, HJ2, BK336, BK337, HB⟩ := hcut
    cases kq with
    | zero => exact absurd HA.out (by simp [paternosterref16_Tear.j0])
    | succ kj2 =>
      have H := HA.out
      clear HA
      simp only [paternosterref16_Tear.j0] at H
      have HC11 := Aside0.mk H
      clear H
      go_upto_if 15 with (fail)
      go_cut [1] (fun v1 wc => ∃ (kq : Nat) (x1_10 : Int), v1 = .int .i64 x1_10 ∧ Aside0 (paternosterref16_Tear.j1 kq x1_10 x5_2 a0_0 a0_1 a0_2 a0_3 = some (r1, r2, r3, r4)) ∧ Aside0 (kq ≤ kj2) ∧ Aside0 (wc.heap[gb336]? = some (.cells #[.string a0_0, .string a0_1, .int .i64 a0_2, .string a0_3] 46 (0, 0))) ∧ Aside0 (wc.heap[gb337]? = some (.cells #[.string (⟨#[]⟩ : ByteArray), .string (⟨#[]⟩ : ByteArray), .int .i64 0, .string (⟨#[]⟩ : ByteArray)] 46 (0, 0))) ∧ Aside0 (Below w.heap.size w wc))
      case first =>
        have H := HC11.out
        clear HC11
        by_cases c12 : a1 < 0
        · rw [if_pos c12] at H
          have c12b0 : decide (a1 < 0) = true := decide_eq_true c12
          clear c12
          (first | rw [c12b0] | (simp only [i64_w, i32_w]; rw [c12b0]) | skip)
          have H' := Aside0.mk H
          clear H
          go_wp2
          go_meet
          case rel => exact ⟨_, (0), (by first | rfl | (simp; done) | (simp [*]; done)), H', ⟨by have := HJ2.out; first | omega | exact Nat.le_refl _⟩, ⟨by (with_reducible repeat (first | refine blk_drewN ?_ _ | refine blk_drew ?_ | refine blk_alloc ?_ _)); exact BK336.out⟩, ⟨by (with_reducible repeat (first | refine blk_drewN ?_ _ | refine blk_drew ?_ | refine blk_alloc ?_ _)); exact BK337.out⟩, ⟨by repeat (first | (with_reducible first | exact HB.out | apply below_alloc | apply pw_below_drewN | apply below_drew1 | refine below_set ?_ GE336.out | refine below_set ?_ GE337.out) | exact HB.out)⟩⟩
        · rw [if_neg c12] at H
          have c12b0 : decide (a1 < 0) = false := decide_eq_false c12
          clear c12
          (first | rw [c12b0] | (simp only [i64_w, i32_w]; rw [c12b0]) | skip)
          have H' := Aside0.mk H
          clear H
          go_wp2
          go_meet
          case rel => exact ⟨_, (a1), (by first | rfl | (simp; done) | (simp [*]; done)), H', ⟨by have := HJ2.out; first | omega | exact Nat.le_refl _⟩, ⟨by (with_reducible repeat (first | refine blk_drewN ?_ _ | refine blk_drew ?_ | refine blk_alloc ?_ _)); exact BK336.out⟩, ⟨by (with_reducible repeat (first | refine blk_drewN ?_ _ | refine blk_drew ?_ | refine blk_alloc ?_ _)); exact BK337.out⟩, ⟨by repeat (first | (with_reducible first | exact HB.out | apply below_alloc | apply pw_below_drewN | apply below_drew1 | refine below_set ?_ GE336.out | refine below_set ?_ GE337.out) | exact HB.out)⟩⟩
      case rest =>
        clear HC11
        try clear c1
        try clear p2
        try clear c3
        try clear c6
        try clear c8
        try clear c8b0
        try clear c8b1
        try clear c9
        try clear c12
        try clear c12b0
        try clear hcz10_0
        try clear hcz10_1
        try clear hcz10_2
        try clear hcz10_3
        try clear hcz7_0
        try clear hcz7_1
        try clear hcz7_2
        try clear hcz7_3
        try clear hfz10_0
        try clear hfz10_1
        try clear hfz10_2
        try clear hfz10_3
        try clear hfz7_0
        try clear hfz7_1
        try clear hfz7_2
        try clear hfz7_3
        try clear p2
        obtain ⟨kq, x1_10, rfl, HA, HJ10, BK336, BK337, HB⟩ := hcut
        cases kq with
        | zero => exact absurd HA.out (by simp [paternosterref16_Tear.j1])
        | succ kj10 =>
          have H := HA.out
          clear HA
          simp only [paternosterref16_Tear.j1] at H
          have HC13 := Aside0.mk H
          clear H
          go_upto_region 6 with (fail)
          go_cut [24] (fun v24 wc => ∃ (kq : Nat) (x24_12 : Bool), v24 = .bool x24_12 ∧ Aside0 (paternosterref16_Tear.j2 kq x1_10 x5_2 x24_12 a0_0 a0_1 a0_2 a0_3 = some (r1, r2, r3, r4)) ∧ Aside0 (kq ≤ kj10) ∧ Aside0 (wc.heap[gb336]? = some (.cells #[.string a0_0, .string a0_1, .int .i64 a0_2, .string a0_3] 46 (0, 0))) ∧ Aside0 (wc.heap[gb337]? = some (.cells #[.string (⟨#[]⟩ : ByteArray), .string (⟨#[]⟩ : ByteArray), .int .i64 0, .string (⟨#[]⟩ : ByteArray)] 46 (0, 0))) ∧ Aside0 (Below w.heap.size w wc))
          case first =>
            have H := HC13.out
            clear HC13
            by_cases c14 : a0_2 < 0
            · rw [if_pos c14] at H
              have c14b0 : decide (a0_2 < 0) = true := decide_eq_true c14
              clear c14
              (first | rw [c14b0] | (simp only [i64_w, i32_w]; rw [c14b0]) | skip)
              have H' := Aside0.mk H
              clear H
              have hnb15 := NB336_337.out
              have hnc15 := NB337_336.out
              have hcz16_0 : wc.cell? ⟨gb336, 0, none⟩ = some (.string a0_0) := (blk_cell BK336.out 0).trans rfl
              have hcz16_1 : wc.cell? ⟨gb336, 1, none⟩ = some (.string a0_1) := (blk_cell BK336.out 1).trans rfl
              have hcz16_2 : wc.cell? ⟨gb336, 2, none⟩ = some (.int .i64 a0_2) := (blk_cell BK336.out 2).trans rfl
              have hcz16_3 : wc.cell? ⟨gb336, 3, none⟩ = some (.string a0_3) := (blk_cell BK336.out 3).trans rfl
              have hfz16_0 := blk_frozen BK336.out 0
              have hfz16_1 := blk_frozen BK336.out 1
              have hfz16_2 := blk_frozen BK336.out 2
              have hfz16_3 := blk_frozen BK336.out 3
              go_wp2
              go_meet
              case rel => exact ⟨_, (true), (by first | rfl | (simp; done) | (simp [*]; done)), H', ⟨by have := HJ2.out; have := HJ10.out; first | omega | exact Nat.le_refl _⟩, ⟨by (with_reducible repeat (first | refine blk_drewN ?_ _ | refine blk_drew ?_ | refine blk_alloc ?_ _)); exact BK336.out⟩, ⟨by (with_reducible repeat (first | refine blk_drewN ?_ _ | refine blk_drew ?_ | refine blk_alloc ?_ _)); exact BK337.out⟩, ⟨by repeat (first | (with_reducible first | exact HB.out | apply below_alloc | apply pw_below_drewN | apply below_drew1 | refine below_set ?_ GE336.out | refine below_set ?_ GE337.out) | exact HB.out)⟩⟩
            · rw [if_neg c14] at H
              have c14b0 : decide (a0_2 < 0) = false := decide_eq_false c14
              clear c14
              (first | rw [c14b0] | (simp only [i64_w, i32_w]; rw [c14b0]) | skip)
              have H' := Aside0.mk H
              clear H
              have hnb17 := NB336_337.out
              have hnc17 := NB337_336.out
              have hcz18_0 : wc.cell? ⟨gb336, 0, none⟩ = some (.string a0_0) := (blk_cell BK336.out 0).trans rfl
              have hcz18_1 : wc.cell? ⟨gb336, 1, none⟩ = some (.string a0_1) := (blk_cell BK336.out 1).trans rfl
              have hcz18_2 : wc.cell? ⟨gb336, 2, none⟩ = some (.int .i64 a0_2) := (blk_cell BK336.out 2).trans rfl
              have hcz18_3 : wc.cell? ⟨gb336, 3, none⟩ = some (.string a0_3) := (blk_cell BK336.out 3).trans rfl
              have hfz18_0 := blk_frozen BK336.out 0
              have hfz18_1 := blk_frozen BK336.out 1
              have hfz18_2 := blk_frozen BK336.out 2
              have hfz18_3 := blk_frozen BK336.out 3
              go_wp2
              go_meet
              case rel => exact ⟨_, (decide (x1_10 ≥ (x5_2.size : Int))), (by first | rfl | (simp; done) | (simp [*]; done)), H', ⟨by have := HJ2.out; have := HJ10.out; first | omega | exact Nat.le_refl _⟩, ⟨by (with_reducible repeat (first | refine blk_drewN ?_ _ | refine blk_drew ?_ | refine blk_alloc ?_ _)); exact BK336.out⟩, ⟨by (with_reducible repeat (first | refine blk_drewN ?_ _ | refine blk_drew ?_ | refine blk_alloc ?_ _)); exact BK337.out⟩, ⟨by repeat (first | (with_reducible first | exact HB.out | apply below_alloc | apply pw_below_drewN | apply below_drew1 | refine below_set ?_ GE336.out | refine below_set ?_ GE337.out) | exact HB.out)⟩⟩
          case rest =>
            clear HC13
            try clear c1
            try clear p2
            try clear c3
            try clear c6
            try clear c8
            try clear c8b0
            try clear c8b1
            try clear c9
            try clear c12
            try clear c12b0
            try clear c14
            try clear c14b0
            try clear c15
            try clear c17
            try clear hcz10_0
            try clear hcz10_1
            try clear hcz10_2
            try clear hcz10_3
            try clear hcz16_0
            try clear hcz16_1
            try clear hcz16_2
            try clear hcz16_3
            try clear hcz18_0
            try clear hcz18_1
            try clear hcz18_2
            try clear hcz18_3
            try clear hcz7_0
            try clear hcz7_1
            try clear hcz7_2
            try clear hcz7_3
            try clear hfz10_0
            try clear hfz10_1
            try clear hfz10_2
            try clear hfz10_3
            try clear hfz16_0
            try clear hfz16_1
            try clear hfz16_2
            try clear hfz16_3
            try clear hfz18_0
            try clear hfz18_1
            try clear hfz18_2
            try clear hfz18_3
            try clear hfz7_0
            try clear hfz7_1
            try clear hfz7_2
            try clear hfz7_3
            try clear p2
            obtain ⟨kq, x24_12, rfl, HA, HJ12, BK336, BK337, HB⟩ := hcut
            cases kq with
            | zero => exact absurd HA.out (by simp [paternosterref16_Tear.j2])
            | succ kj12 =>
              have H := HA.out
              clear HA
              simp only [paternosterref16_Tear.j2] at H
              by_cases c19 : x24_12 = true
              · subst c19
                have H1 : (some (a0_0, a0_1, a0_2, a0_3)) = some (r1, r2, r3, r4) := by rw [if_pos rfl] at H; exact H
                clear H
                have H := H1
                clear H1
                simp only [Option.some.injEq, Prod.mk.injEq] at H
                obtain ⟨rfl, rfl, rfl, rfl⟩ := H
                have hnb20 := NB336_337.out
                have hnc20 := NB337_336.out
                have hcz21_0 : wc.cell? ⟨gb336, 0, none⟩ = some (.string a0_0) := (blk_cell BK336.out 0).trans rfl
                have hcz21_1 : wc.cell? ⟨gb336, 1, none⟩ = some (.string a0_1) := (blk_cell BK336.out 1).trans rfl
                have hcz21_2 : wc.cell? ⟨gb336, 2, none⟩ = some (.int .i64 a0_2) := (blk_cell BK336.out 2).trans rfl
                have hcz21_3 : wc.cell? ⟨gb336, 3, none⟩ = some (.string a0_3) := (blk_cell BK336.out 3).trans rfl
                have hfz21_0 := blk_frozen BK336.out 0
                have hfz21_1 := blk_frozen BK336.out 1
                have hfz21_2 := blk_frozen BK336.out 2
                have hfz21_3 := blk_frozen BK336.out 3
                have hcz22_0 : wc.cell? ⟨gb337, 0, none⟩ = some (.string (⟨#[]⟩ : ByteArray)) := (blk_cell BK337.out 0).trans rfl
                have hcz22_1 : wc.cell? ⟨gb337, 1, none⟩ = some (.string (⟨#[]⟩ : ByteArray)) := (blk_cell BK337.out 1).trans rfl
                have hcz22_2 : wc.cell? ⟨gb337, 2, none⟩ = some (.int .i64 0) := (blk_cell BK337.out 2).trans rfl
                have hcz22_3 : wc.cell? ⟨gb337, 3, none⟩ = some (.string (⟨#[]⟩ : ByteArray)) := (blk_cell BK337.out 3).trans rfl
                have hfz22_0 := blk_frozen BK337.out 0
                have hfz22_1 := blk_frozen BK337.out 1
                have hfz22_2 := blk_frozen BK337.out 2
                have hfz22_3 := blk_frozen BK337.out 3
                go_wp2
                refine bodyPost_ret (results_cell_row rfl _ _ gb337 46 #[.string a0_0, .string a0_1, .int .i64 a0_2, .string a0_3] (0, 0) _ rfl (by (with_reducible repeat (first | refine blk_drewN ?_ _ | refine blk_drew ?_ | refine blk_alloc ?_ _)); refine blk_put (cs := #[.string a0_0, .string a0_1, .int .i64 a0_2, .string (⟨#[]⟩ : ByteArray)]) ?_ 3 _ rfl; (with_reducible repeat (first | refine blk_drewN ?_ _ | refine blk_drew ?_ | refine blk_alloc ?_ _)); refine blk_put (cs := #[.string a0_0, .string a0_1, .int .i64 0, .string (⟨#[]⟩ : ByteArray)]) ?_ 2 _ rfl; (with_reducible repeat (first | refine blk_drewN ?_ _ | refine blk_drew ?_ | refine blk_alloc ?_ _)); refine blk_put (cs := #[.string a0_0, .string (⟨#[]⟩ : ByteArray), .int .i64 0, .string (⟨#[]⟩ : ByteArray)]) ?_ 1 _ rfl; (with_reducible repeat (first | refine blk_drewN ?_ _ | refine blk_drew ?_ | refine blk_alloc ?_ _)); refine blk_put (cs := #[.string (⟨#[]⟩ : ByteArray), .string (⟨#[]⟩ : ByteArray), .int .i64 0, .string (⟨#[]⟩ : ByteArray)]) ?_ 0 _ rfl; (with_reducible repeat (first | refine blk_drewN ?_ _ | refine blk_drew ?_ | refine blk_alloc ?_ _)); exact BK337.out) Tryd.underlying46 rfl (by kernel_rfl)) rfl ?_
                exact ⟨by first | rfl | (simp [errW_none, errW_some] <;> rfl) | (simp [*, errW_none, errW_some] <;> rfl), by repeat (first | (with_reducible first | exact HB.out | apply below_alloc | apply pw_below_drewN | apply below_drew1 | refine below_set ?_ GE336.out | refine below_set ?_ GE337.out) | exact HB.out)⟩
              · replace c19 := Bool.eq_false_iff.mpr c19
                subst c19
                have H1 : (if 0 ≤ x1_10 then (if x1_10 ≤ (x5_2.size : Int) then (if x1_10 < (a0_3.size : Int) then (if x1_10 ≤ (a0_3.size : Int) then (if (x5_2.extract 0 (x1_10 : Int).toNat).size + (a0_3.extract (x1_10 : Int).toNat a0_3.size).size ≤ 9223372036854775807 then (if a0_2 = 1 then (some (a0_0, (x5_2.extract 0 (x1_10 : Int).toNat) ++ (a0_3.extract (x1_10 : Int).toNat a0_3.size), a0_2, a0_3)) else (some ((x5_2.extract 0 (x1_10 : Int).toNat) ++ (a0_3.extract (x1_10 : Int).toNat a0_3.size), a0_1, a0_2, a0_3))) else (none)) else (none)) else (if a0_2 = 1 then (some (a0_0, x5_2.extract 0 (x1_10 : Int).toNat, a0_2, a0_3)) else (some (x5_2.extract 0 (x1_10 : Int).toNat, a0_1, a0_2, a0_3)))) else (none)) else (none)) = some (r1, r2, r3, r4) := by rw [if_neg (show ¬ (false = true) by decide)] at H; exact H
                clear H
                have H := H1
                clear H1
                by_cases c23 : 0 ≤ x1_10
                · rw [if_pos c23] at H
                  have c23b0 := eq_true c23
                  have c23b1 : decide (0 ≤ x1_10) = true := decide_eq_true c23
                  clear c23
                  by_cases c24 : x1_10 ≤ (x5_2.size : Int)
                  · rw [if_pos c24] at H
                    have c24b0 := eq_true c24
                    have c24b1 : decide (x1_10 ≤ (x5_2.size : Int)) = true := decide_eq_true c24
                    clear c24
                    by_cases c25 : x1_10 < (a0_3.size : Int)
                    · rw [if_pos c25] at H
                      have c25b0 : decide (x1_10 < (a0_3.size : Int)) = true := decide_eq_true c25
                      clear c25
                      have c26b0 := eq_true (of_decide_eq_true (by first | (with_reducible assumption) | assumption) : 0 ≤ x1_10)
                      by_cases c27 : x1_10 ≤ (a0_3.size : Int)
                      · rw [if_pos c27] at H
                        have c27b0 := eq_true c27
                        have c27b1 : decide (x1_10 ≤ (a0_3.size : Int)) = true := decide_eq_true c27
                        clear c27
                        by_cases c28 : (x5_2.extract 0 (x1_10 : Int).toNat).size + (a0_3.extract (x1_10 : Int).toNat a0_3.size).size ≤ 9223372036854775807
                        · rw [if_pos c28] at H
                          have c28b0 := eq_true c28
                          have c28b1 : decide ((x5_2.extract 0 (x1_10 : Int).toNat).size + (a0_3.extract (x1_10 : Int).toNat a0_3.size).size ≤ 9223372036854775807) = true := decide_eq_true c28
                          try have c28b2 : (9223372036854775807 < (x5_2.extract 0 (x1_10 : Int).toNat).size + (a0_3.extract (x1_10 : Int).toNat a0_3.size).size) = False := eq_false (Nat.not_lt.2 c28)
                          by_cases c29 : a0_2 = 1
                          · rw [if_pos c29] at H
                            have c29b0 : (a0_2 == 1) = true := beq_iff_eq.mpr c29
                            have c29b1 : (a0_2 != 1) = false := bne_eq_false_iff_eq.mpr c29
                            clear c29
                            simp only [Option.some.injEq, Prod.mk.injEq] at H
                            obtain ⟨rfl, rfl, rfl, rfl⟩ := H
                            have hnb30 := NB336_337.out
                            have hnc30 := NB337_336.out
                            have hcz31_0 : wc.cell? ⟨gb336, 0, none⟩ = some (.string a0_0) := (blk_cell BK336.out 0).trans rfl
                            have hcz31_1 : wc.cell? ⟨gb336, 1, none⟩ = some (.string a0_1) := (blk_cell BK336.out 1).trans rfl
                            have hcz31_2 : wc.cell? ⟨gb336, 2, none⟩ = some (.int .i64 a0_2) := (blk_cell BK336.out 2).trans rfl
                            have hcz31_3 : wc.cell? ⟨gb336, 3, none⟩ = some (.string a0_3) := (blk_cell BK336.out 3).trans rfl
                            have hfz31_0 := blk_frozen BK336.out 0
                            have hfz31_1 := blk_frozen BK336.out 1
                            have hfz31_2 := blk_frozen BK336.out 2
                            have hfz31_3 := blk_frozen BK336.out 3
                            have hcz32_0 : wc.cell? ⟨gb337, 0, none⟩ = some (.string (⟨#[]⟩ : ByteArray)) := (blk_cell BK337.out 0).trans rfl
                            have hcz32_1 : wc.cell? ⟨gb337, 1, none⟩ = some (.string (⟨#[]⟩ : ByteArray)) := (blk_cell BK337.out 1).trans rfl
                            have hcz32_2 : wc.cell? ⟨gb337, 2, none⟩ = some (.int .i64 0) := (blk_cell BK337.out 2).trans rfl
                            have hcz32_3 : wc.cell? ⟨gb337, 3, none⟩ = some (.string (⟨#[]⟩ : ByteArray)) := (blk_cell BK337.out 3).trans rfl
                            have hfz32_0 := blk_frozen BK337.out 0
                            have hfz32_1 := blk_frozen BK337.out 1
                            have hfz32_2 := blk_frozen BK337.out 2
                            have hfz32_3 := blk_frozen BK337.out 3
                            go_wp2
                            refine bodyPost_ret (results_cell_row rfl _ _ gb337 46 #[.string a0_0, .string ((x5_2.extract 0 (x1_10 : Int).toNat) ++ (a0_3.extract (x1_10 : Int).toNat a0_3.size)), .int .i64 a0_2, .string a0_3] (0, 0) _ rfl (by (with_reducible repeat (first | refine blk_drewN ?_ _ | refine blk_drew ?_ | refine blk_alloc ?_ _)); refine blk_put (cs := #[.string a0_0, .string ((x5_2.extract 0 (x1_10 : Int).toNat) ++ (a0_3.extract (x1_10 : Int).toNat a0_3.size)), .int .i64 a0_2, .string (⟨#[]⟩ : ByteArray)]) ?_ 3 _ rfl; (with_reducible repeat (first | refine blk_drewN ?_ _ | refine blk_drew ?_ | refine blk_alloc ?_ _)); refine blk_put (cs := #[.string a0_0, .string ((x5_2.extract 0 (x1_10 : Int).toNat) ++ (a0_3.extract (x1_10 : Int).toNat a0_3.size)), .int .i64 0, .string (⟨#[]⟩ : ByteArray)]) ?_ 2 _ rfl; (with_reducible repeat (first | refine blk_drewN ?_ _ | refine blk_drew ?_ | refine blk_alloc ?_ _)); refine blk_put (cs := #[.string a0_0, .string (⟨#[]⟩ : ByteArray), .int .i64 0, .string (⟨#[]⟩ : ByteArray)]) ?_ 1 _ rfl; (with_reducible repeat (first | refine blk_drewN ?_ _ | refine blk_drew ?_ | refine blk_alloc ?_ _)); refine blk_put (cs := #[.string (⟨#[]⟩ : ByteArray), .string (⟨#[]⟩ : ByteArray), .int .i64 0, .string (⟨#[]⟩ : ByteArray)]) ?_ 0 _ rfl; (with_reducible repeat (first | refine blk_drewN ?_ _ | refine blk_drew ?_ | refine blk_alloc ?_ _)); refine blk_far ?_ NB337_336.out _; (with_reducible repeat (first | refine blk_drewN ?_ _ | refine blk_drew ?_ | refine blk_alloc ?_ _)); exact BK337.out) Tryd.underlying46 rfl (by kernel_rfl)) rfl ?_
                            exact ⟨by first | rfl | (simp [errW_none, errW_some] <;> rfl) | (simp [*, errW_none, errW_some] <;> rfl), by repeat (first | (with_reducible first | exact HB.out | apply below_alloc | apply pw_below_drewN | apply below_drew1 | refine below_set ?_ GE336.out | refine below_set ?_ GE337.out) | exact HB.out)⟩
                          · rw [if_neg c29] at H
                            have c29b0 : (a0_2 == 1) = false := beq_eq_false_iff_ne.mpr c29
                            have c29b1 : (a0_2 != 1) = true := bne_iff_ne.mpr c29
                            simp only [Option.some.injEq, Prod.mk.injEq] at H
                            obtain ⟨rfl, rfl, rfl, rfl⟩ := H
                            have hnb33 := NB336_337.out
                            have hnc33 := NB337_336.out
                            have hcz34_0 : wc.cell? ⟨gb336, 0, none⟩ = some (.string a0_0) := (blk_cell BK336.out 0).trans rfl
                            have hcz34_1 : wc.cell? ⟨gb336, 1, none⟩ = some (.string a0_1) := (blk_cell BK336.out 1).trans rfl
                            have hcz34_2 : wc.cell? ⟨gb336, 2, none⟩ = some (.int .i64 a0_2) := (blk_cell BK336.out 2).trans rfl
                            have hcz34_3 : wc.cell? ⟨gb336, 3, none⟩ = some (.string a0_3) := (blk_cell BK336.out 3).trans rfl
                            have hfz34_0 := blk_frozen BK336.out 0
                            have hfz34_1 := blk_frozen BK336.out 1
                            have hfz34_2 := blk_frozen BK336.out 2
                            have hfz34_3 := blk_frozen BK336.out 3
                            have hcz35_0 : wc.cell? ⟨gb337, 0, none⟩ = some (.string (⟨#[]⟩ : ByteArray)) := (blk_cell BK337.out 0).trans rfl
                            have hcz35_1 : wc.cell? ⟨gb337, 1, none⟩ = some (.string (⟨#[]⟩ : ByteArray)) := (blk_cell BK337.out 1).trans rfl
                            have hcz35_2 : wc.cell? ⟨gb337, 2, none⟩ = some (.int .i64 0) := (blk_cell BK337.out 2).trans rfl
                            have hcz35_3 : wc.cell? ⟨gb337, 3, none⟩ = some (.string (⟨#[]⟩ : ByteArray)) := (blk_cell BK337.out 3).trans rfl
                            have hfz35_0 := blk_frozen BK337.out 0
                            have hfz35_1 := blk_frozen BK337.out 1
                            have hfz35_2 := blk_frozen BK337.out 2
                            have hfz35_3 := blk_frozen BK337.out 3
                            go_wp2
                            refine bodyPost_ret (results_cell_row rfl _ _ gb337 46 #[.string ((x5_2.extract 0 (x1_10 : Int).toNat) ++ (a0_3.extract (x1_10 : Int).toNat a0_3.size)), .string a0_1, .int .i64 a0_2, .string a0_3] (0, 0) _ rfl (by (with_reducible repeat (first | refine blk_drewN ?_ _ | refine blk_drew ?_ | refine blk_alloc ?_ _)); refine blk_put (cs := #[.string ((x5_2.extract 0 (x1_10 : Int).toNat) ++ (a0_3.extract (x1_10 : Int).toNat a0_3.size)), .string a0_1, .int .i64 a0_2, .string (⟨#[]⟩ : ByteArray)]) ?_ 3 _ rfl; (with_reducible repeat (first | refine blk_drewN ?_ _ | refine blk_drew ?_ | refine blk_alloc ?_ _)); refine blk_put (cs := #[.string ((x5_2.extract 0 (x1_10 : Int).toNat) ++ (a0_3.extract (x1_10 : Int).toNat a0_3.size)), .string a0_1, .int .i64 0, .string (⟨#[]⟩ : ByteArray)]) ?_ 2 _ rfl; (with_reducible repeat (first | refine blk_drewN ?_ _ | refine blk_drew ?_ | refine blk_alloc ?_ _)); refine blk_put (cs := #[.string ((x5_2.extract 0 (x1_10 : Int).toNat) ++ (a0_3.extract (x1_10 : Int).toNat a0_3.size)), .string (⟨#[]⟩ : ByteArray), .int .i64 0, .string (⟨#[]⟩ : ByteArray)]) ?_ 1 _ rfl; (with_reducible repeat (first | refine blk_drewN ?_ _ | refine blk_drew ?_ | refine blk_alloc ?_ _)); refine blk_put (cs := #[.string (⟨#[]⟩ : ByteArray), .string (⟨#[]⟩ : ByteArray), .int .i64 0, .string (⟨#[]⟩ : ByteArray)]) ?_ 0 _ rfl; (with_reducible repeat (first | refine blk_drewN ?_ _ | refine blk_drew ?_ | refine blk_alloc ?_ _)); refine blk_far ?_ NB337_336.out _; (with_reducible repeat (first | refine blk_drewN ?_ _ | refine blk_drew ?_ | refine blk_alloc ?_ _)); exact BK337.out) Tryd.underlying46 rfl (by kernel_rfl)) rfl ?_
                            exact ⟨by first | rfl | (simp [errW_none, errW_some] <;> rfl) | (simp [*, errW_none, errW_some] <;> rfl), by repeat (first | (with_reducible first | exact HB.out | apply below_alloc | apply pw_below_drewN | apply below_drew1 | refine below_set ?_ GE336.out | refine below_set ?_ GE337.out) | exact HB.out)⟩
                        · rw [if_neg c28] at H
                          exact absurd H (by simp)
                      · rw [if_neg c27] at H
                        exact absurd H (by simp)
                    · rw [if_neg c25] at H
                      have c25b0 : decide (x1_10 < (a0_3.size : Int)) = false := decide_eq_false c25
                      clear c25
                      by_cases c36 : a0_2 = 1
                      · rw [if_pos c36] at H
                        have c36b0 : (a0_2 == 1) = true := beq_iff_eq.mpr c36
                        have c36b1 : (a0_2 != 1) = false := bne_eq_false_iff_eq.mpr c36
                        clear c36
                        simp only [Option.some.injEq, Prod.mk.injEq] at H
                        obtain ⟨rfl, rfl, rfl, rfl⟩ := H
                        have hnb37 := NB336_337.out
                        have hnc37 := NB337_336.out
                        have hcz38_0 : wc.cell? ⟨gb336, 0, none⟩ = some (.string a0_0) := (blk_cell BK336.out 0).trans rfl
                        have hcz38_1 : wc.cell? ⟨gb336, 1, none⟩ = some (.string a0_1) := (blk_cell BK336.out 1).trans rfl
                        have hcz38_2 : wc.cell? ⟨gb336, 2, none⟩ = some (.int .i64 a0_2) := (blk_cell BK336.out 2).trans rfl
                        have hcz38_3 : wc.cell? ⟨gb336, 3, none⟩ = some (.string a0_3) := (blk_cell BK336.out 3).trans rfl
                        have hfz38_0 := blk_frozen BK336.out 0
                        have hfz38_1 := blk_frozen BK336.out 1
                        have hfz38_2 := blk_frozen BK336.out 2
                        have hfz38_3 := blk_frozen BK336.out 3
                        have hcz39_0 : wc.cell? ⟨gb337, 0, none⟩ = some (.string (⟨#[]⟩ : ByteArray)) := (blk_cell BK337.out 0).trans rfl
                        have hcz39_1 : wc.cell? ⟨gb337, 1, none⟩ = some (.string (⟨#[]⟩ : ByteArray)) := (blk_cell BK337.out 1).trans rfl
                        have hcz39_2 : wc.cell? ⟨gb337, 2, none⟩ = some (.int .i64 0) := (blk_cell BK337.out 2).trans rfl
                        have hcz39_3 : wc.cell? ⟨gb337, 3, none⟩ = some (.string (⟨#[]⟩ : ByteArray)) := (blk_cell BK337.out 3).trans rfl
                        have hfz39_0 := blk_frozen BK337.out 0
                        have hfz39_1 := blk_frozen BK337.out 1
                        have hfz39_2 := blk_frozen BK337.out 2
                        have hfz39_3 := blk_frozen BK337.out 3
                        go_wp2
                        refine bodyPost_ret (results_cell_row rfl _ _ gb337 46 #[.string a0_0, .string (x5_2.extract 0 (x1_10 : Int).toNat), .int .i64 a0_2, .string a0_3] (0, 0) _ rfl (by (with_reducible repeat (first | refine blk_drewN ?_ _ | refine blk_drew ?_ | refine blk_alloc ?_ _)); refine blk_put (cs := #[.string a0_0, .string (x5_2.extract 0 (x1_10 : Int).toNat), .int .i64 a0_2, .string (⟨#[]⟩ : ByteArray)]) ?_ 3 _ rfl; (with_reducible repeat (first | refine blk_drewN ?_ _ | refine blk_drew ?_ | refine blk_alloc ?_ _)); refine blk_put (cs := #[.string a0_0, .string (x5_2.extract 0 (x1_10 : Int).toNat), .int .i64 0, .string (⟨#[]⟩ : ByteArray)]) ?_ 2 _ rfl; (with_reducible repeat (first | refine blk_drewN ?_ _ | refine blk_drew ?_ | refine blk_alloc ?_ _)); refine blk_put (cs := #[.string a0_0, .string (⟨#[]⟩ : ByteArray), .int .i64 0, .string (⟨#[]⟩ : ByteArray)]) ?_ 1 _ rfl; (with_reducible repeat (first | refine blk_drewN ?_ _ | refine blk_drew ?_ | refine blk_alloc ?_ _)); refine blk_put (cs := #[.string (⟨#[]⟩ : ByteArray), .string (⟨#[]⟩ : ByteArray), .int .i64 0, .string (⟨#[]⟩ : ByteArray)]) ?_ 0 _ rfl; (with_reducible repeat (first | refine blk_drewN ?_ _ | refine blk_drew ?_ | refine blk_alloc ?_ _)); refine blk_far ?_ NB337_336.out _; (with_reducible repeat (first | refine blk_drewN ?_ _ | refine blk_drew ?_ | refine blk_alloc ?_ _)); exact BK337.out) Tryd.underlying46 rfl (by kernel_rfl)) rfl ?_
                        exact ⟨by first | rfl | (simp [errW_none, errW_some] <;> rfl) | (simp [*, errW_none, errW_some] <;> rfl), by repeat (first | (with_reducible first | exact HB.out | apply below_alloc | apply pw_below_drewN | apply below_drew1 | refine below_set ?_ GE336.out | refine below_set ?_ GE337.out) | exact HB.out)⟩
                      · rw [if_neg c36] at H
                        have c36b0 : (a0_2 == 1) = false := beq_eq_false_iff_ne.mpr c36
                        have c36b1 : (a0_2 != 1) = true := bne_iff_ne.mpr c36
                        simp only [Option.some.injEq, Prod.mk.injEq] at H
                        obtain ⟨rfl, rfl, rfl, rfl⟩ := H
                        have hnb40 := NB336_337.out
                        have hnc40 := NB337_336.out
                        have hcz41_0 : wc.cell? ⟨gb336, 0, none⟩ = some (.string a0_0) := (blk_cell BK336.out 0).trans rfl
                        have hcz41_1 : wc.cell? ⟨gb336, 1, none⟩ = some (.string a0_1) := (blk_cell BK336.out 1).trans rfl
                        have hcz41_2 : wc.cell? ⟨gb336, 2, none⟩ = some (.int .i64 a0_2) := (blk_cell BK336.out 2).trans rfl
                        have hcz41_3 : wc.cell? ⟨gb336, 3, none⟩ = some (.string a0_3) := (blk_cell BK336.out 3).trans rfl
                        have hfz41_0 := blk_frozen BK336.out 0
                        have hfz41_1 := blk_frozen BK336.out 1
                        have hfz41_2 := blk_frozen BK336.out 2
                        have hfz41_3 := blk_frozen BK336.out 3
                        have hcz42_0 : wc.cell? ⟨gb337, 0, none⟩ = some (.string (⟨#[]⟩ : ByteArray)) := (blk_cell BK337.out 0).trans rfl
                        have hcz42_1 : wc.cell? ⟨gb337, 1, none⟩ = some (.string (⟨#[]⟩ : ByteArray)) := (blk_cell BK337.out 1).trans rfl
                        have hcz42_2 : wc.cell? ⟨gb337, 2, none⟩ = some (.int .i64 0) := (blk_cell BK337.out 2).trans rfl
                        have hcz42_3 : wc.cell? ⟨gb337, 3, none⟩ = some (.string (⟨#[]⟩ : ByteArray)) := (blk_cell BK337.out 3).trans rfl
                        have hfz42_0 := blk_frozen BK337.out 0
                        have hfz42_1 := blk_frozen BK337.out 1
                        have hfz42_2 := blk_frozen BK337.out 2
                        have hfz42_3 := blk_frozen BK337.out 3
                        go_wp2
                        refine bodyPost_ret (results_cell_row rfl _ _ gb337 46 #[.string (x5_2.extract 0 (x1_10 : Int).toNat), .string a0_1, .int .i64 a0_2, .string a0_3] (0, 0) _ rfl (by (with_reducible repeat (first | refine blk_drewN ?_ _ | refine blk_drew ?_ | refine blk_alloc ?_ _)); refine blk_put (cs := #[.string (x5_2.extract 0 (x1_10 : Int).toNat), .string a0_1, .int .i64 a0_2, .string (⟨#[]⟩ : ByteArray)]) ?_ 3 _ rfl; (with_reducible repeat (first | refine blk_drewN ?_ _ | refine blk_drew ?_ | refine blk_alloc ?_ _)); refine blk_put (cs := #[.string (x5_2.extract 0 (x1_10 : Int).toNat), .string a0_1, .int .i64 0, .string (⟨#[]⟩ : ByteArray)]) ?_ 2 _ rfl; (with_reducible repeat (first | refine blk_drewN ?_ _ | refine blk_drew ?_ | refine blk_alloc ?_ _)); refine blk_put (cs := #[.string (x5_2.extract 0 (x1_10 : Int).toNat), .string (⟨#[]⟩ : ByteArray), .int .i64 0, .string (⟨#[]⟩ : ByteArray)]) ?_ 1 _ rfl; (with_reducible repeat (first | refine blk_drewN ?_ _ | refine blk_drew ?_ | refine blk_alloc ?_ _)); refine blk_put (cs := #[.string (⟨#[]⟩ : ByteArray), .string (⟨#[]⟩ : ByteArray), .int .i64 0, .string (⟨#[]⟩ : ByteArray)]) ?_ 0 _ rfl; (with_reducible repeat (first | refine blk_drewN ?_ _ | refine blk_drew ?_ | refine blk_alloc ?_ _)); refine blk_far ?_ NB337_336.out _; (with_reducible repeat (first | refine blk_drewN ?_ _ | refine blk_drew ?_ | refine blk_alloc ?_ _)); exact BK337.out) Tryd.underlying46 rfl (by kernel_rfl)) rfl ?_
                        exact ⟨by first | rfl | (simp [errW_none, errW_some] <;> rfl) | (simp [*, errW_none, errW_some] <;> rfl), by repeat (first | (with_reducible first | exact HB.out | apply below_alloc | apply pw_below_drewN | apply below_drew1 | refine below_set ?_ GE336.out | refine below_set ?_ GE337.out) | exact HB.out)⟩
                  · rw [if_neg c24] at H
                    exact absurd H (by simp)
                · rw [if_neg c23] at H
                  exact absurd H (by simp)
end Go.Proofs.YtbcijmpkmmcdeaaDoor.PAll
end
section
namespace Go.Proofs.YtbcijmpkmmcdeaaDoor.SF
open Go.RowKit Go.Sx Go.Proofs.YtbcijmpkmmcdeaaDoor.PAll Go.Proofs.YtbcijmpkmmcdeaaDoorW.PrintWords Go.Proofs.YtbcijmpkmmcdeaaDoorW.PrintLast Go.Proofs.YtbcijmpkmmcdeaaDoorW.PrintMore
open Go.Proofs.YtbcijmpkmmcdeaaDoor.Pure (str_drop str_extract str_app)
set_option linter.unusedVariables false
set_option linter.unusedSimpArgs false
set_option maxRecDepth 100000
structure S71 where
  f0 : Bool
  f1 : Int
  f2 : S32
def k71 : Kd S71 := Kd.iso (Kd.pair Kd.bool (Kd.pair (Kd.int .i64) k32)) (fun x : S71 => (x.f0, x.f1, x.f2))
theorem k71_open {w : World} {x : S71} {cs : List Value} (h : k71.K w x cs) : ∃ g : Gh, cs = [.bool x.f0, .int .i64 x.f1, .int .i64 x.f2.f0, .int .i64 x.f2.f1, .int .i64 x.f2.f2, .slice g.1 x.f2.f3.length g.2] ∧ RowP w g x.f2.f3 := by
  obtain ⟨_, _, rfl, rfl, _, c, rfl, rfl, hc⟩ := h
  obtain ⟨g, hc2, hg⟩ := k32_open hc
  subst hc2
  exact ⟨g, rfl, hg⟩
theorem k71_mk {w : World} {g : Gh} (x : S71) (h : RowP w g x.f2.f3) : k71.K w x [.bool x.f0, .int .i64 x.f1, .int .i64 x.f2.f0, .int .i64 x.f2.f1, .int .i64 x.f2.f2, .slice g.1 x.f2.f3.length g.2] :=
  ⟨[_], [_, _, _, _, _], rfl, rfl, [_], [_, _, _, _], rfl, rfl, k32_mk x.f2 h⟩
def RowA (w : World) (q : Gh) (l : List S71) : Prop := l.length ≤ q.2 ∧ Kd.C k71 w q.1 l.length l
theorem RowA.below {w w' : World} {q : Gh} {l : List S71} (h : RowA w q l) (hb : Below w.heap.size w w') : RowA w' q l := ⟨h.1, Kd.C_below h.2 hb⟩
theorem RowA.at {w : World} {q : Gh} {l : List S71} {j : Nat} {p : S71} (h : RowA w q l) (hp : l[j]? = some p) :
    ∃ ad g, q.1 = some ad ∧ CellsAt w (ad.add (j * 6)) [.bool p.f0] ∧ CellsAt w (ad.add (j * 6 + 1)) [.int .i64 p.f1] ∧ CellsAt w (ad.add (j * 6 + 2)) [.int .i64 p.f2.f0, .int .i64 p.f2.f1, .int .i64 p.f2.f2, .slice g.1 p.f2.f3.length g.2] ∧ RowP w g p.f2.f3 := by
  obtain ⟨h1, h2, h3⟩ := h.2
  have hj : j < l.length := (List.getElem?_eq_some_iff.1 hp).1
  obtain ⟨ad, e, hc⟩ := h3 (by omega)
  obtain ⟨c, hs, hr, hcell⟩ := hc j p hp
  obtain ⟨g, rfl, hg⟩ := k71_open hr
  refine ⟨ad, g, e, cell_zero (hcell 0 _ rfl), cell_zero (hcell 1 _ rfl), fun i u hu => ?_, hg⟩
  rw [Sx.add_add, show j * 6 + 2 + i = j * 6 + (2 + i) by omega]
  refine hcell (2 + i) u ?_
  match i, hu with
  | 0, hu => exact hu
  | 1, hu => exact hu
  | 2, hu => exact hu
  | 3, hu => exact hu
  | i + 4, hu => simp at hu
theorem opens71 : Op.Opens k71 Tryd.prog 71 (fun _ => True) := by
  refine ⟨by kernel_rfl, fun {H enc w base spare held fuel cs x} hx => ?_⟩
  obtain ⟨xs, n, _, _, hl, hlen, hf⟩ := DataW.trod_struct Tryd.underlying71 hx
  have hc4 : Tryd.prog.cellsOf 4 = 1 := by kernel_rfl
  have hc3 : Tryd.prog.cellsOf 3 = 1 := by kernel_rfl
  have hc32 : Tryd.prog.cellsOf 32 = 4 := by kernel_rfl
  have hc71 : Tryd.prog.cellsOf 71 = 6 := by kernel_rfl
  rw [hc71] at hl
  match cs, hl, xs, hlen with
  | [u, v, y0, y1, y2, y3], _, [x0, x1, x2], _ =>
    have f0 : DataW.trod enc Tryd.prog w base spare held n 4 (([u, v, y0, y1, y2, y3].drop 0).take (Tryd.prog.cellsOf 4)) = some x0 := hf 0 _ rfl
    have f1 : DataW.trod enc Tryd.prog w base spare held n 3 (([u, v, y0, y1, y2, y3].drop 1).take (Tryd.prog.cellsOf 3)) = some x1 := hf 1 _ rfl
    have f2 : DataW.trod enc Tryd.prog w base spare held n 32 (([u, v, y0, y1, y2, y3].drop 2).take (Tryd.prog.cellsOf 32)) = some x2 := hf 2 _ rfl
    rw [hc4] at f0
    rw [hc3] at f1
    rw [hc32] at f2
    obtain ⟨a, ea, _⟩ := DataW.trod_bool Tryd.underlying4 (show DataW.trod enc Tryd.prog w base spare held n 4 [u] = some x0 from f0)
    obtain ⟨b, eb, _, _⟩ := DataW.trod_int Tryd.underlying3 (show DataW.trod enc Tryd.prog w base spare held n 3 [v] = some x1 from f1)
    simp only [List.cons.injEq, and_true] at ea eb
    subst ea; subst eb
    obtain ⟨bu, m, cr, A, c, l, e, hlc, hC⟩ := ledger_open (show DataW.trod enc Tryd.prog w base spare held n 32 [y0, y1, y2, y3] = some x2 from f2)
    simp only [List.cons.injEq, and_true] at e
    obtain ⟨rfl, rfl, rfl, rfl⟩ := e
    exact ⟨⟨a, b, bu, m, cr, l⟩, k71_mk (g := (A, c)) ⟨a, b, bu, m, cr, l⟩ ⟨hlc, hC⟩, trivial⟩
def JA (L : List S71) (a b : List Int) : Nat → Jn
  | 0 => ⟨a, b, 0, [], false⟩
  | i + 1 => match L[i]? with
    | some p => if p.f0 then (JA L a b i).tear p.f1 else (JA L a b i).write p.f2.f0 p.f2.f1 p.f2.f3
    | none => JA L a b i
theorem JA_tear {L : List S71} {a b : List Int} {i : Nat} {p : S71} (h : L[i]? = some p) (ht : p.f0 = true) : (JA L a b i).tear p.f1 = JA L a b (i + 1) := by
  show _ = (match L[i]? with
    | some p => if p.f0 then (JA L a b i).tear p.f1 else (JA L a b i).write p.f2.f0 p.f2.f1 p.f2.f3
    | none => JA L a b i)
  rw [h]
  exact (if_pos ht).symm
theorem JA_write {L : List S71} {a b : List Int} {i : Nat} {p : S71} (h : L[i]? = some p) (ht : p.f0 = false) : (JA L a b i).write p.f2.f0 p.f2.f1 p.f2.f3 = JA L a b (i + 1) := by
  show _ = (match L[i]? with
    | some p => if p.f0 then (JA L a b i).tear p.f1 else (JA L a b i).write p.f2.f0 p.f2.f1 p.f2.f3
    | none => JA L a b i)
  rw [h]
  exact (if_neg (by rw [ht]; decide)).symm
structure PInv (J : Jn) : Prop where
  b0 : Bytes J.s0
  b1 : Bytes J.s1
  bw : Bytes J.was
  ls : J.last = 0 ∨ J.last = 1
def lastC (J : Jn) : Int := if J.wrote then J.last else -1
def rcells (J : Jn) : List Value := [.string (strOfNums J.s0), .string (strOfNums J.s1), .int .i64 (lastC J), .string (strOfNums J.was)]
theorem rcells_u8 (J : Jn) : ∀ (k : Nat) (x : Int), (rcells J)[k]? ≠ some (.int .u8 x) := by
  intro k x
  match k with
  | 0 => simp [rcells]
  | 1 => simp [rcells]
  | 2 => simp [rcells]
  | 3 => simp [rcells]
  | k + 4 => simp [rcells]
theorem Bytes.take {l : List Int} (h : Bytes l) (n : Nat) : Bytes (l.take n) := ⟨Nat.le_trans (by rw [List.length_take]; omega) h.1, fun x hx => h.2 x (List.mem_of_mem_take hx)⟩
theorem torn_bytes {a b : List Int} (ha : Bytes a) (hb : Bytes b) (n : Nat) : Bytes (a.take n ++ b.drop (min n b.length)) := by
  refine ⟨?_, fun x hx => ?_⟩
  · have h1 := ha.1
    have h2 := hb.1
    rw [List.length_append, List.length_take, List.length_drop]
    omega
  · rcases List.mem_append.1 hx with h | h
    · exact ha.2 x (List.mem_of_mem_take h)
    · exact hb.2 x (List.mem_of_mem_drop h)
theorem PInv.tear {J : Jn} (h : PInv J) (n : Int) : PInv (J.tear n) := by
  unfold Jn.tear
  split
  · exact h
  · unfold Jn.put Jn.now
    split
    · exact ⟨h.b0, torn_bytes h.b1 h.bw _, h.bw, h.ls⟩
    · exact ⟨torn_bytes h.b0 h.bw _, h.b1, h.bw, h.ls⟩
theorem PInv.write {J : Jn} (h : PInv J) (bu ma : Int) (l : List S51) (hl : l.length ≤ 900) : PInv (J.write bu ma l) := by
  unfold Jn.write
  split
  · exact ⟨jput_bytes hl, h.b1, h.b0, .inl rfl⟩
  · exact ⟨h.b0, jput_bytes hl, h.b1, .inr rfl⟩
theorem rtear_ev {J : Jn} (h : PInv J) (n : Int) : Ev (fun k => paternosterref16_Tear.f k (strOfNums J.s0) (strOfNums J.s1) (lastC J) (strOfNums J.was) n) (strOfNums (J.tear n).s0, strOfNums (J.tear n).s1, lastC (J.tear n), strOfNums (J.tear n).was) := by
  obtain ⟨s0, s1, last, was, wrote⟩ := J
  obtain ⟨⟨hl0, hb0⟩, ⟨hl1, hb1⟩, ⟨hlw, hbw⟩, hls⟩ := h
  simp only at hl0 hb0 hl1 hb1 hlw hbw hls
  have key : ∀ (x5 : List Int), x5.length ≤ 8000 → (∀ x ∈ x5, 0 ≤ x ∧ x ≤ 255) → ∀ r, (wrote = false ∨ x5.length ≤ n.toNat → r = (strOfNums s0, strOfNums s1, lastC ⟨s0, s1, last, was, wrote⟩, strOfNums was)) →
      (¬ (wrote = false ∨ x5.length ≤ n.toNat) → r = if last = 1 then (strOfNums s0, strOfNums (x5.take n.toNat ++ was.drop (min n.toNat was.length)), last, strOfNums was) else (strOfNums (x5.take n.toNat ++ was.drop (min n.toNat was.length)), strOfNums s1, last, strOfNums was)) →
      Ev (fun k => paternosterref16_Tear.j0 k n (strOfNums x5) (strOfNums s0) (strOfNums s1) (lastC ⟨s0, s1, last, was, wrote⟩) (strOfNums was)) r := by
    intro x5 h5 hb5 r hr1 hr2
    have main : Ev (fun k => paternosterref16_Tear.j1 k (n.toNat : Int) (strOfNums x5) (strOfNums s0) (strOfNums s1) (lastC ⟨s0, s1, last, was, wrote⟩) (strOfNums was)) r := by
      refine Ev.succ ?_
      simp only [paternosterref16_Tear.j1]
      cases wrote with
      | false =>
        rw [hr1 (.inl rfl)]
        refine Ev.yes (show (-1 : Int) < 0 by decide) (Ev.succ ?_)
        simp only [paternosterref16_Tear.j2, if_true]
        exact Ev.now _
      | true =>
        have hlc : lastC ⟨s0, s1, last, was, true⟩ = last := rfl
        rw [hlc]
        refine Ev.no (by omega) (Ev.succ ?_)
        rw [strOfNums_size]
        by_cases hc : x5.length ≤ n.toNat
        · rw [hr1 (.inr hc), decide_eq_true (show (n.toNat : Int) ≥ (x5.length : Int) by omega)]
          simp only [paternosterref16_Tear.j2, if_true]
          exact Ev.now _
        · rw [hr2 (fun x => x.elim (fun x => by cases x) hc), decide_eq_false (show ¬ (n.toNat : Int) ≥ (x5.length : Int) by omega)]
          simp only [paternosterref16_Tear.j2, Bool.false_eq_true, if_false]
          rw [strOfNums_size, strOfNums_size, Int.toNat_natCast]
          rw [show (strOfNums x5).extract 0 n.toNat = strOfNums (x5.take n.toNat) by rw [str_extract _ _ _ (by omega), List.drop_zero, Nat.sub_zero]]
          refine Ev.yes1 (by omega) (Ev.yes1 (by omega) ?_)
          by_cases hw : n.toNat < was.length
          · rw [Nat.min_eq_left (Nat.le_of_lt hw), show was.length = (strOfNums was).size from (strOfNums_size _).symm, str_drop _ _ (by omega), strOfNums_size, strOfNums_size, strOfNums_size, ← str_app]
            refine Ev.yes (by omega) (Ev.yes1 (by omega) (Ev.yes1 (by rw [List.length_take, List.length_drop]; omega) ?_))
            rcases hls with rfl | rfl
            · simp only [show ¬ ((0 : Int) = 1) by decide, if_false]; exact Ev.now _
            · simp only [if_true]; exact Ev.now _
          · rw [Nat.min_eq_right (by omega), List.drop_length, List.append_nil]
            refine Ev.no (by omega) ?_
            rcases hls with rfl | rfl
            · simp only [show ¬ ((0 : Int) = 1) by decide, if_false]; exact Ev.now _
            · simp only [if_true]; exact Ev.now _
    refine Ev.succ ?_
    simp only [paternosterref16_Tear.j0]
    by_cases hn : n < 0
    · rw [show n.toNat = 0 by omega] at main
      exact Ev.yes hn main
    · rw [show ((n.toNat : Nat) : Int) = n by omega] at main
      exact Ev.no hn main
  have hnl : last = 1 → wrote = true → lastC ⟨s0, s1, last, was, wrote⟩ = 1 := fun h1 h2 => by unfold lastC; rw [h2, h1]; rfl
  unfold paternosterref16_Tear.f
  by_cases h1 : lastC ⟨s0, s1, last, was, wrote⟩ = 1
  · have hw : wrote = true := by
      cases wrote with
      | true => rfl
      | false => exact absurd h1 (show ¬ (-1 : Int) = 1 by decide)
    subst hw
    have hl : last = 1 := h1
    subst hl
    refine Ev.yes h1 (key s1 hl1 hb1 _ (fun h => ?_) (fun h => ?_))
    · rw [show Jn.tear ⟨s0, s1, 1, was, true⟩ n = ⟨s0, s1, 1, was, true⟩ from if_pos h]
    · rw [show Jn.tear ⟨s0, s1, 1, was, true⟩ n = ⟨s0, s1.take n.toNat ++ was.drop (min n.toNat was.length), 1, was, true⟩ from if_neg h, if_pos rfl]
      rfl
  · refine Ev.no h1 (key s0 hl0 hb0 _ (fun h => ?_) (fun h => ?_))
    · have : Jn.tear ⟨s0, s1, last, was, wrote⟩ n = ⟨s0, s1, last, was, wrote⟩ := by
        refine if_pos ?_
        cases wrote with
        | false => exact .inl rfl
        | true =>
          refine h.imp id (fun h => ?_)
          show (if last = 1 then s1 else s0).length ≤ n.toNat
          rw [if_neg (fun hl => h1 (hnl hl rfl))]; exact h
      rw [this]
    · have hw : wrote = true := by
        cases wrote with
        | true => rfl
        | false => exact absurd (.inl rfl) h
      have hl : ¬ last = 1 := fun e => h1 (hnl e hw)
      subst hw
      have e0 : last = 0 := hls.resolve_right hl
      subst e0
      rw [show Jn.tear ⟨s0, s1, 0, was, true⟩ n = ⟨s0.take n.toNat ++ was.drop (min n.toNat was.length), s1, 0, was, true⟩ from if_neg h, if_neg hl]
      rfl
theorem rtear_calls {J : Jn} (h : PInv J) (n : Int) (w : World) : Calls Tryd.prog 32 #[.agg (rcells J).toArray, .int .i64 n] w fun e w' => e = .returned (.agg (rcells (J.tear n)).toArray) ∧ Below w.heap.size w w' := by
  obtain ⟨K, hK⟩ := rtear_ev h n
  exact paternosterref16_Tear.calls K _ _ _ _ _ _ _ _ _ w (hK K (Nat.le_refl _))
theorem rwrite_is {J : Jn} (bu ma : Int) (l : List S51) : (if Int.tmod (IntKind.u64.wrap ((jload J.s0 J.s1).seq + 1)) 2 = 0 then Value.agg #[.string (strOfNums (jput bu ma l (IntKind.u64.wrap ((jload J.s0 J.s1).seq + 1)))), .string (strOfNums J.s1), .int .i64 0, .string (strOfNums J.s0)] else .agg #[.string (strOfNums J.s0), .string (strOfNums (jput bu ma l (IntKind.u64.wrap ((jload J.s0 J.s1).seq + 1)))), .int .i64 1, .string (strOfNums J.s1)]) = .agg (rcells (J.write bu ma l)).toArray := by
  unfold Jn.write
  split <;> rfl
theorem RWriteK {J : Jn} (h : PInv J) (bu ma cr : Int) (q : Gh) (l : List S51) (w : World) (hr : RowR w q (l.map to91)) (hl : l.length ≤ 1000) : Calls Tryd.prog 34 #[.agg (rcells J).toArray, .agg #[.int .i64 bu, .int .i64 ma, .int .i64 cr, .slice q.1 l.length q.2]] w fun e w' => e = .returned (.agg (rcells (J.write bu ma l)).toArray) ∧ Below w.heap.size w w' := by
  have := rwrite_calls h.b0 h.b1 (lastC J) (strOfNums J.was) bu ma cr q l w hr hl
  rw [rwrite_is] at this
  exact this
theorem RLoadK {J : Jn} (h : PInv J) (w : World) : Calls Tryd.prog 29 #[.agg (rcells J).toArray] w fun e w' => ∃ i : Gh, RowR w' i ((jload J.s0 J.s1).ps.map to91) ∧ e = .returned (.tuple #[.agg #[.int .i64 (jload J.s0 J.s1).bud, .int .i64 (jload J.s0 J.s1).mar, .int .i64 0, .slice i.1 (jload J.s0 J.s1).ps.length i.2], .int .u64 (jload J.s0 J.s1).seq, .bool (decide (0 < (jload J.s0 J.s1).seq))]) ∧ Below w.heap.size w w' := by
  have hn := jload_len h.b0 h.b1
  exact (rload_calls h.b0 h.b1 (lastC J) (strOfNums J.was) w).mono (fun e w' ⟨i, h1, h2⟩ => ⟨i, own91 (h2.get (i := 0) rfl) (by omega), h1, h2.toBelow (by simp)⟩)
theorem _root_.Go.Sx.Blk.upd {b b2 : Nat} {T T2 : TypeId} {cs cs' cs2 : List Value} {w w' : World} (h2 : Blk w b2 cs2 T2) (h : Upd b T cs cs' w w') (hT : T2 ≠ T := by decide) : Blk w' b2 cs2 T2 := h.blk h2 hT
end Go.Proofs.YtbcijmpkmmcdeaaDoor.SF
end
