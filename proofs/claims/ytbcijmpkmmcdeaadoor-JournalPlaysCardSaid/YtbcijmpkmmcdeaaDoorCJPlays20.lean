/- Texts of mine, put together (no statement stands here). -/
import Derived.Test.YtbcijmpkmmcdeaaDoorCJPlays17
import Derived.Test.YtbcijmpkmmcdeaaDoorCJPlays18
import Derived.Test.YtbcijmpkmmcdeaaDoorCJPlays15
import Derived.Test.YtbcijmpkmmcdeaaDoorCJPlays19
section
namespace Go.Proofs.YtbcijmpkmmcdeaaDoor.SF
open Go.RowKit Go.Sx Go.Proofs.YtbcijmpkmmcdeaaDoor.PAll Go.Proofs.YtbcijmpkmmcdeaaDoorW.PrintWords Go.Proofs.YtbcijmpkmmcdeaaDoorW.PrintLast Go.Proofs.YtbcijmpkmmcdeaaDoorW.PrintMore
set_option linter.unusedVariables false
set_option linter.unusedSimpArgs false
set_option maxRecDepth 100000
theorem _root_.Go.Sx.HeapOK.apart_old {w0 w : World} {hp : List Sx.Item} {i j b : Nat} {cs : List Value} {T : TypeId} (h : HeapOK w0 hp w) (hi : hp[i]? = some (.blk b cs T)) (hj : hp[j]? = some (old w0)) (hij : i < j) : w0.heap.size ≤ b := by
  obtain ⟨hi1, hi2⟩ := List.getElem?_eq_some_iff.1 hi
  obtain ⟨hj1, hj2⟩ := List.getElem?_eq_some_iff.1 hj
  have h3 := List.pairwise_iff_getElem.1 h.apart i j hi1 hj1 hij
  rw [hi2, hj2] at h3
  rcases Nat.lt_or_ge b w0.heap.size with hb | hb
  · exact absurd (show (old w0).foot b from hb) (h3.l rfl b rfl)
  · exact hb
theorem RWriteE {J : Jn} (h : PInv J) (bu ma cr : Int) (q : Gh) (l : List S51) (w : World) (hr : RowR w q (l.map to91)) (hl : l.length ≤ 1000) {J2 : Jn} (hW : J.write bu ma l = J2) : Calls Tryd.prog 34 #[.agg (rcells J).toArray, .agg #[.int .i64 bu, .int .i64 ma, .int .i64 cr, .slice q.1 l.length q.2]] w fun e w' => e = .returned (.agg (rcells J2).toArray) ∧ Below w.heap.size w w' := by
  subst hW
  exact RWriteK h bu ma cr q l w hr hl
theorem rtearE {J : Jn} (h : PInv J) (n : Int) (w : World) {J2 : Jn} (hT : J.tear n = J2) : Calls Tryd.prog 32 #[.agg (rcells J).toArray, .int .i64 n] w fun e w' => e = .returned (.agg (rcells J2).toArray) ∧ Below w.heap.size w w' := by
  subst hT
  exact rtear_calls h n w
set_option maxHeartbeats 4000000 in
theorem plays_calls (qa qb q : Gh) (a b : List Int) (L : List S71) (w : World) (ha : RowC w qa a) (hb : RowC w qb b) (hl_0 : RowA w q L) (ha0 : ∀ x ∈ a, 0 ≤ x ∧ x ≤ 255) (hb0 : ∀ x ∈ b, 0 ≤ x ∧ x ≤ 255) (hh0 : Half w) :
    Calls Tryd.prog 7 #[.slice qa.1 a.length qa.2, .slice qb.1 b.length qb.2, .slice q.1 L.length q.2] w fun e w' => e = .returned (.bool true) ∧ Below w.heap.size w w' := by
  have hl_ := hl_0
  have hh := hh0
  refine enter (w0 := w) (hp := [old w]) (env := [(0, .slice qa.1 a.length qa.2), (1, .slice qb.1 b.length qb.2), (2, .slice q.1 L.length q.2)]) Tryd.func7 rfl 147 rfl (by simp) rfl (HeapOK.start _) ?_
  refine wc_seq ?_
  refine wc_region ?_
  refine wl_q (q_assign rfl rfl) rfl rfl (by decide) ?_
  refine wl_nil ?_
  refine fq_then ?_
  refine wc_seq ?_
  refine wc_region ?_
  refine wl_q (q_call rfl En21 rfl (fun w1 hw1 => awake16_calls w1 (hh.keep (hw1.toBelow (by simp))))) rfl rfl (by decide) ?_
  refine wl_q (q_assign rfl rfl) rfl rfl (by decide) ?_
  refine wl_nil ?_
  refine fq_then ?_
  refine wc_seq ?_
  refine wc_seq ?_
  refine wc_region ?_
  refine wl_q (q_move rfl rfl) rfl rfl (by decide) ?_
  refine wl_q (q_not rfl rfl) rfl rfl (by decide) ?_
  refine wl_nil ?_
  refine fq_then ?_
  refine wc_false rfl ?_
  refine wc_skip ?_
  refine fq_then ?_
  refine wc_seq ?_
  refine wc_seq ?_
  refine wc_region ?_
  refine wl_q (q_move rfl rfl) rfl rfl (by decide) ?_
  refine wl_q (q_len rfl rfl Tryd.underlying63) rfl rfl (by decide) ?_
  refine wl_q (q_bin rfl rfl rfl rfl) rfl rfl (by decide) ?_
  refine wl_q (q_move rfl rfl) rfl rfl (by decide) ?_
  refine wl_split (t := 25) rfl (fun h25 => ?_) (fun h25 => ?_)
  · skip
    have q25 := h25
    try simp only [decide_eq_true_eq, decide_eq_false_iff_not, beq_iff_eq, beq_eq_false_iff_ne, bne_iff_ne, ne_eq, bne_eq_false_iff_eq, Int.not_lt, Int.not_le] at q25
    refine wl_skip (b := true) rfl rfl rfl rfl (by decide) ?_
    refine wl_skip (b := true) rfl rfl rfl rfl (by decide) ?_
    refine wl_skip (b := true) rfl rfl rfl rfl (by decide) ?_
    refine wl_q (q_pick rfl rfl rfl) rfl rfl (by decide) ?_
    refine wl_q (q_move rfl rfl) rfl rfl (by decide) ?_
    refine wl_skip (b := true) rfl rfl rfl rfl (by decide) ?_
    refine wl_skip (b := true) rfl rfl rfl rfl (by decide) ?_
    refine wl_skip (b := true) rfl rfl rfl rfl (by decide) ?_
    refine wl_q (q_pick rfl rfl rfl) rfl rfl (by decide) ?_
    refine wl_nil ?_
    refine fq_then ?_
    refine wc_true rfl ?_
    refine wc_seq ?_
    refine wc_region ?_
    refine wl_q (q_assign rfl rfl) rfl rfl (by decide) ?_
    refine wl_nil ?_
    refine fq_then ?_
    refine wc_ret ?_
    refine fq_then_ret ?_
    refine fq_ret1 rfl rfl (fun w1 H => ?_)
    exact ⟨rfl, (by first | exact hB.next (H.toBelow (by simp)) | exact H.toBelow (by simp))⟩
  · skip
    have q25 := h25
    try simp only [decide_eq_true_eq, decide_eq_false_iff_not, beq_iff_eq, beq_eq_false_iff_ne, bne_iff_ne, ne_eq, bne_eq_false_iff_eq, Int.not_lt, Int.not_le] at q25
    refine wl_want (b := false) (q_move rfl rfl) rfl rfl rfl rfl (by decide) ?_
    refine wl_want (b := false) (q_len rfl rfl Tryd.underlying22) rfl rfl rfl rfl (by decide) ?_
    refine wl_want (b := false) (q_bin rfl rfl rfl rfl) rfl rfl rfl rfl (by decide) ?_
    refine wl_q (q_pick rfl rfl rfl) rfl rfl (by decide) ?_
    refine wl_q (q_move rfl rfl) rfl rfl (by decide) ?_
    refine wl_split (t := 30) rfl (fun h30 => ?_) (fun h30 => ?_)
    · skip
      have q30 := h30
      try simp only [decide_eq_true_eq, decide_eq_false_iff_not, beq_iff_eq, beq_eq_false_iff_ne, bne_iff_ne, ne_eq, bne_eq_false_iff_eq, Int.not_lt, Int.not_le] at q30
      refine wl_skip (b := true) rfl rfl rfl rfl (by decide) ?_
      refine wl_skip (b := true) rfl rfl rfl rfl (by decide) ?_
      refine wl_skip (b := true) rfl rfl rfl rfl (by decide) ?_
      refine wl_q (q_pick rfl rfl rfl) rfl rfl (by decide) ?_
      refine wl_nil ?_
      refine fq_then ?_
      refine wc_true rfl ?_
      refine wc_seq ?_
      refine wc_region ?_
      refine wl_q (q_assign rfl rfl) rfl rfl (by decide) ?_
      refine wl_nil ?_
      refine fq_then ?_
      refine wc_ret ?_
      refine fq_then_ret ?_
      refine fq_ret1 rfl rfl (fun w1 H => ?_)
      exact ⟨rfl, (by first | exact hB.next (H.toBelow (by simp)) | exact H.toBelow (by simp))⟩
    · skip
      have q30 := h30
      try simp only [decide_eq_true_eq, decide_eq_false_iff_not, beq_iff_eq, beq_eq_false_iff_ne, bne_iff_ne, ne_eq, bne_eq_false_iff_eq, Int.not_lt, Int.not_le] at q30
      refine wl_want (b := false) (q_move rfl rfl) rfl rfl rfl rfl (by decide) ?_
      refine wl_want (b := false) (q_len rfl rfl Tryd.underlying22) rfl rfl rfl rfl (by decide) ?_
      refine wl_want (b := false) (q_bin rfl rfl rfl rfl) rfl rfl rfl rfl (by decide) ?_
      refine wl_q (q_pick rfl rfl rfl) rfl rfl (by decide) ?_
      refine wl_nil ?_
      refine fq_then ?_
      refine wc_cond rfl (fun h34 => ?_) (fun h34 => ?_)
      · skip
        have q34 := h34
        try simp only [decide_eq_true_eq, decide_eq_false_iff_not, beq_iff_eq, beq_eq_false_iff_ne, bne_iff_ne, ne_eq, bne_eq_false_iff_eq, Int.not_lt, Int.not_le] at q34
        refine wc_seq ?_
        refine wc_region ?_
        refine wl_q (q_assign rfl rfl) rfl rfl (by decide) ?_
        refine wl_nil ?_
        refine fq_then ?_
        refine wc_ret ?_
        refine fq_then_ret ?_
        refine fq_ret1 rfl rfl (fun w1 H => ?_)
        exact ⟨rfl, (by first | exact hB.next (H.toBelow (by simp)) | exact H.toBelow (by simp))⟩
      · skip
        have q34 := h34
        try simp only [decide_eq_true_eq, decide_eq_false_iff_not, beq_iff_eq, beq_eq_false_iff_ne, bne_iff_ne, ne_eq, bne_eq_false_iff_eq, Int.not_lt, Int.not_le] at q34
        have hlL : L.length ≤ 30 := by simp at h25; omega
        have hal : a.length ≤ 800 := by simp at h30; omega
        have hbl : b.length ≤ 800 := by simp at h34; omega
        have hBa : Bytes a := ⟨by omega, ha0⟩
        have hBb : Bytes b := ⟨by omega, hb0⟩
        refine wc_skip ?_
        refine fq_then ?_
        refine wc_seq ?_
        refine wc_region ?_
        refine wl_q (q_move rfl rfl) rfl rfl (by decide) ?_
        refine wl_q (q_move rfl rfl) rfl rfl (by decide) ?_
        refine wl_callK (ι := (Gh × Gh)) (fun i => .agg (Jn.cells (⟨a, b, 0, [], false⟩ : Jn) i.1 i.2 (none, 0)).toArray) (fun i w w' => Jn.ok w' (⟨a, b, 0, [], false⟩ : Jn) i.1 i.2 (none, 0)) rfl rfl rfl (by decide) En16 rfl (fun w1 hw1 => FromK qa qb a b w1 (ha.below (hw1.toBelow (by simp))) (hb.below (hw1.toBelow (by simp))) (by omega) (by omega)) (fun J0 wa_ w_1 _ Hn_ _ hC_ => ?_)
        have hx_ := Hn_.toBelow (by simp)
        have hh := hh.keep hx_
        have hl_ := hl_.below hx_
        have ha := ha.below hx_
        have hb := hb.below hx_
        have hB := hx_
        have hJ_J0 := hC_
        refine wl_alloc rfl rfl rfl (by decide) Zr38 (fun b2 => ?_)
        refine wl_store (i := 0) rfl rfl rfl rfl rfl rfl Sz38 rfl rfl (by simp) (by simp [Value.oneCell', Jn.cells, rcells]) (by first | (simp only [List.take_succ_cons, List.take_zero, List.take_nil, List.drop_succ_cons, List.drop_zero, List.drop_nil, List.nil_append, List.cons_append, List.append_nil, List.length_cons, List.length_nil, Nat.reduceAdd, Nat.zero_add]; rfl) | rfl) (by first | (simp only [List.set_cons_zero, List.set_cons_succ]; rfl) | rfl) ?_
        refine wl_nil ?_
        refine fq_then ?_
        refine wc_seq ?_
        refine wc_region ?_
        refine wl_q (q_move rfl rfl) rfl rfl (by decide) ?_
        refine wl_q (q_bytesStr rfl rfl Tryd.underlying22 Tryd.underlying5 Tryd.underlying9 (fun w1 hw1 => (ha.below (hw1.toBelow (by simp))).2)) rfl rfl (by decide) ?_
        refine wl_q (q_move rfl rfl) rfl rfl (by decide) ?_
        refine wl_q (q_bytesStr rfl rfl Tryd.underlying22 Tryd.underlying5 Tryd.underlying9 (fun w1 hw1 => (hb.below (hw1.toBelow (by simp))).2)) rfl rfl (by decide) ?_
        refine wl_q (q_build rfl rfl (built_of Zr46 Pl46 (by simp only [fillL, List.map_cons, List.map_nil, Value.cells, List.getElem?_cons_zero, List.getElem?_cons_succ, List.length_cons, List.length_nil, Nat.reduceAdd, Nat.reduceLeDiff, Nat.le_refl, and_self, and_true, true_and, if_true, Nat.zero_add, spl, List.take_succ_cons, List.take_zero, List.take_nil, List.drop_succ_cons, List.drop_zero, List.drop_nil, List.nil_append, List.cons_append, List.append_nil] <;> rfl))) rfl rfl (by decide) ?_
        refine wl_alloc rfl rfl rfl (by decide) Zr46 (fun b3 => ?_)
        refine wl_store (i := 0) rfl rfl rfl rfl rfl rfl Sz46 rfl rfl (by simp) (by simp [Value.oneCell', Jn.cells, rcells]) (by first | (simp only [List.take_succ_cons, List.take_zero, List.take_nil, List.drop_succ_cons, List.drop_zero, List.drop_nil, List.nil_append, List.cons_append, List.append_nil, List.length_cons, List.length_nil, Nat.reduceAdd, Nat.zero_add]; rfl) | rfl) (by first | (simp only [List.set_cons_zero, List.set_cons_succ]; rfl) | rfl) ?_
        refine wl_nil ?_
        refine fq_then ?_
        refine wc_seq ?_
        refine wc_seq ?_
        refine wc_region ?_
        refine wl_q (q_assign rfl rfl) rfl rfl (by decide) ?_
        refine wl_nil ?_
        refine fq_then ?_
        refine wc_block ?_
        have hB_ := hB
        refine wc_ground (fun w_4 Hn_ => ?_)
        have hx_ := Hn_.toBelow (by simp)
        have fb_b3 : Blk w_4 b3 _ _ := Hn_.get (i := 0) rfl
        have fb_b2 : Blk w_4 b2 _ _ := Hn_.get (i := 1) rfl
        have hh := hh.keep hx_
        have hl_ := hl_.below hx_
        have ha := ha.below hx_
        have hb := hb.below hx_
        have hJ_J0 := hJ_J0.below hx_
        have hB := hB.next hx_
        have hnb_b2 : w.heap.size ≤ b2 := Nat.le_trans hB_.size (Hn_.apart_old (i := 1) (j := 2) rfl rfl (by decide))
        have hnb_b3 : w.heap.size ≤ b3 := Nat.le_trans hB_.size (Hn_.apart_old (i := 0) (j := 2) rfl rfl (by decide))
        refine wc_loopV (n := w.heap.size) (ι := (Nat × World × Gh × Gh × Gh)) (fun ⟨z, W, x⟩ => [(2, .slice q.1 L.length q.2), (8, .pointer (some ⟨b2, 0, none⟩)), (9, .pointer (some ⟨b3, 0, none⟩)), (10, .int .i64 (z : Nat))]) (fun ⟨z, W, x⟩ => W) (fun ⟨z, W, x⟩ => z ≤ L.length ∧ Below w.heap.size w_4 W ∧ Blk W b2 (Jn.cells (JA L a b z) x.1 x.2.1 x.2.2) 38 ∧ Blk W b3 (rcells (JA L a b z)) 46 ∧ Jn.ok W (JA L a b z) x.1 x.2.1 x.2.2 ∧ PInv (JA L a b z)) (fun ⟨z, W, x⟩ => L.length + 1 - z) (0, w_4, (J0.1, J0.2, (none, 0))) rfl ⟨Nat.zero_le _, Below.refl _ _, fb_b2, fb_b3, hJ_J0, ⟨hBa, hBb, Bytes_nil, .inl rfl⟩⟩ (by simp) (List.forall_mem_cons.2 ⟨rfl, List.forall_mem_cons.2 ⟨rfl, List.forall_mem_cons.2 ⟨rfl, List.forall_mem_cons.2 ⟨rfl, fun _ h => (by cases h)⟩⟩⟩⟩) (fun i hi => hi.2.1) ?_
        rintro ⟨z, W, x⟩ ⟨hi, hbW, fb_b2, fb_b3, hJ, hI⟩
        have hB := hB.trans hbW
        have hl_ := hl_0.below hB
        have hh := hh0.keep hB
        refine wc_seq ?_
        refine wc_seq ?_
        refine wc_region ?_
        refine wl_q (q_move rfl rfl) rfl rfl (by decide) ?_
        refine wl_q (q_move rfl rfl) rfl rfl (by decide) ?_
        refine wl_q (q_len rfl rfl Tryd.underlying63) rfl rfl (by decide) ?_
        refine wl_q (q_bin rfl rfl rfl rfl) rfl rfl (by decide) ?_
        refine wl_nil ?_
        refine fq_then ?_
        refine wc_cond rfl (fun h46 => ?_) (fun h46 => ?_)
        · skip
          have q46 := h46
          try simp only [decide_eq_true_eq, decide_eq_false_iff_not, beq_iff_eq, beq_eq_false_iff_ne, bne_iff_ne, ne_eq, bne_eq_false_iff_eq, Int.not_lt, Int.not_le] at q46
          have hpl := jload_len hI.b0 hI.b1
          refine wc_skip ?_
          refine fq_then ?_
          refine wc_seq ?_
          refine wc_block ?_
          refine wc_seq ?_
          refine wc_region ?_
          refine wl_q (q_loadA rfl rfl Mn38 Sz38 rfl (reads_blkA (by simp) fb_b2)) rfl rfl (by decide) ?_
          refine wl_callK (ι := Gh) (fun i => .tuple #[.agg #[.int .i64 (jload ((JA L a b z)).s0 ((JA L a b z)).s1).bud, .int .i64 (jload ((JA L a b z)).s0 ((JA L a b z)).s1).mar, .int .i64 0, .slice i.1 (jload ((JA L a b z)).s0 ((JA L a b z)).s1).ps.length i.2], .int .u64 (jload ((JA L a b z)).s0 ((JA L a b z)).s1).seq, .bool (decide (0 < (jload ((JA L a b z)).s0 ((JA L a b z)).s1).seq))]) (fun i w w' => RowP w' i (jload ((JA L a b z)).s0 ((JA L a b z)).s1).ps) rfl rfl rfl (by decide) En28 rfl (fun w1 hw1 => LoadK ((JA L a b z)) x.1 x.2.1 x.2.2 w1 (hJ.below (hw1.toBelow (by simp))) hI.b0 hI.b1 (hh.keep (hw1.toBelow (by simp)))) (fun m wa_ w_5 _ Hn_ _ hC_ => ?_)
          have hx_ := Hn_.toBelow (by simp)
          have hbW := hbW.nextV hB.size hx_
          have fb_b2 := fb_b2.below hx_
          have fb_b3 := fb_b3.below hx_
          have hJ := hJ.below hx_
          have hl_ := hl_.below hx_
          have hh := hh.keep hx_
          have hB := hB.next hx_
          have hP_m := hC_
          refine wl_q (q_move rfl rfl) rfl rfl (by decide) ?_
          refine wl_q (q_extract rfl rfl rfl) rfl rfl (by decide) ?_
          refine wl_q (q_extract rfl rfl rfl) rfl rfl (by decide) ?_
          refine wl_q (q_extract rfl rfl rfl) rfl rfl (by decide) ?_
          refine wl_alloc rfl rfl rfl (by decide) Zr32 (fun b6 => ?_)
          refine wl_store (i := 0) rfl rfl rfl rfl rfl rfl Sz32 rfl rfl (by simp) (by simp [Value.oneCell', Jn.cells, rcells]) (by first | (simp only [List.take_succ_cons, List.take_zero, List.take_nil, List.drop_succ_cons, List.drop_zero, List.drop_nil, List.nil_append, List.cons_append, List.append_nil, List.length_cons, List.length_nil, Nat.reduceAdd, Nat.zero_add]; rfl) | rfl) (by first | (simp only [List.set_cons_zero, List.set_cons_succ]; rfl) | rfl) ?_
          refine wl_q (q_assign rfl rfl) rfl rfl (by decide) ?_
          refine wl_q (q_assign rfl rfl) rfl rfl (by decide) ?_
          refine wl_nil ?_
          refine fq_then ?_
          refine wc_seq ?_
          refine wc_region ?_
          refine wl_q (q_loadA rfl rfl Mn46 Sz46 rfl (reads_blkA (by simp) fb_b3)) rfl rfl (by decide) ?_
          refine wl_callK (ι := Gh) (fun i => .tuple #[.agg #[.int .i64 (jload (JA L a b z).s0 (JA L a b z).s1).bud, .int .i64 (jload (JA L a b z).s0 (JA L a b z).s1).mar, .int .i64 0, .slice i.1 (jload (JA L a b z).s0 (JA L a b z).s1).ps.length i.2], .int .u64 (jload (JA L a b z).s0 (JA L a b z).s1).seq, .bool (decide (0 < (jload (JA L a b z).s0 (JA L a b z).s1).seq))]) (fun i w w' => RowR w' i ((jload (JA L a b z).s0 (JA L a b z).s1).ps.map to91)) rfl rfl rfl (by decide) En29 rfl (fun w1 hw1 => RLoadK hI w1) (fun rl wa_ w_7 _ Hn_ _ hC_ => ?_)
          have hx_ := Hn_.toBelow (by simp)
          have fb_b6 : Blk w_7 b6 _ _ := Hn_.get (i := 0) rfl
          have hbW := hbW.nextV hB.size hx_
          have fb_b2 := fb_b2.below hx_
          have fb_b3 := fb_b3.below hx_
          have hJ := hJ.below hx_
          have hl_ := hl_.below hx_
          have hh := hh.keep hx_
          have hP_m := hP_m.below hx_
          have hB := hB.next hx_
          have hQ_rl := hC_
          refine wl_q (q_move rfl rfl) rfl rfl (by decide) ?_
          refine wl_q (q_extract rfl rfl rfl) rfl rfl (by decide) ?_
          refine wl_q (q_extract rfl rfl rfl) rfl rfl (by decide) ?_
          refine wl_q (q_extract rfl rfl rfl) rfl rfl (by decide) ?_
          refine wl_alloc rfl rfl rfl (by decide) Zr42 (fun b8 => ?_)
          refine wl_store (i := 0) rfl rfl rfl rfl rfl rfl Sz42 rfl rfl (by simp) (by simp [Value.oneCell', Jn.cells, rcells]) (by first | (simp only [List.take_succ_cons, List.take_zero, List.take_nil, List.drop_succ_cons, List.drop_zero, List.drop_nil, List.nil_append, List.cons_append, List.append_nil, List.length_cons, List.length_nil, Nat.reduceAdd, Nat.zero_add]; rfl) | rfl) (by first | (simp only [List.set_cons_zero, List.set_cons_succ]; rfl) | rfl) ?_
          refine wl_q (q_assign rfl rfl) rfl rfl (by decide) ?_
          refine wl_q (q_assign rfl rfl) rfl rfl (by decide) ?_
          refine wl_nil ?_
          refine fq_then ?_
          refine wc_seq ?_
          refine wc_region ?_
          refine wl_q (q_loadA rfl rfl Mn38 Sz38 rfl (reads_blkA (by simp) fb_b2)) rfl rfl (by decide) ?_
          refine wl_callK (ι := (Nat × Gh × Gh)) (fun i => .slice (some ⟨i.1, 0, none⟩) 2 2) (fun i w w' => Blk w' i.1 [.slice i.2.1.1 ((JA L a b z)).s0.length i.2.1.2, .slice i.2.2.1 ((JA L a b z)).s1.length i.2.2.2] 22 ∧ RowC w' i.2.1 ((JA L a b z)).s0 ∧ RowC w' i.2.2 ((JA L a b z)).s1) rfl rfl rfl (by decide) En30 rfl (fun w1 hw1 => SlotsK ((JA L a b z)) x.1 x.2.1 x.2.2 w1 (hJ.below (hw1.toBelow (by simp))) (Nat.lt_of_le_of_lt hI.b0.1 (by decide)) (Nat.lt_of_le_of_lt hI.b1.1 (by decide))) (fun sl wa_ w_9 _ Hn_ _ hC_ => ?_)
          have hx_ := Hn_.toBelow (by simp)
          have fb_b8 : Blk w_9 b8 _ _ := Hn_.get (i := 0) rfl
          have hbW := hbW.nextV hB.size hx_
          have fb_b2 := fb_b2.below hx_
          have fb_b3 := fb_b3.below hx_
          have hJ := hJ.below hx_
          have hl_ := hl_.below hx_
          have hh := hh.keep hx_
          have hP_m := hP_m.below hx_
          have fb_b6 := fb_b6.below hx_
          have hQ_rl := hQ_rl.below hx_
          have hB := hB.next hx_
          obtain ⟨fb_sl, hR0_sl, hR1_sl⟩ := hC_
          refine wl_q (q_assign rfl rfl) rfl rfl (by decide) ?_
          refine wl_nil ?_
          refine fq_then ?_
          refine wc_seq ?_
          refine wc_seq ?_
          refine wc_any Fol (any_drawG (ι := Gh) 38 0 [(1, fun X => [Sx.Item.own 0 91 2 (.slice (X 1).1 (jload (JA L a b z).s0 (JA L a b z).s1).ps.length (X 1).2) (jload (JA L a b z).s0 (JA L a b z).s1).ps.length (((jload (JA L a b z).s0 (JA L a b z).s1).ps.map to91).flatMap pc91)]), (3, fun X => [Sx.Item.own 0 91 2 (.slice (X 1).1 (jload (JA L a b z).s0 (JA L a b z).s1).ps.length (X 1).2) (jload (JA L a b z).s0 (JA L a b z).s1).ps.length (((jload (JA L a b z).s0 (JA L a b z).s1).ps.map to91).flatMap pc91)])] [⟨[], [], []⟩, ⟨[], [], []⟩, ⟨[], [], []⟩, ⟨[1], [], [1]⟩, ⟨[], [], [1, 3]⟩, ⟨[], [], [1, 3]⟩, ⟨[], [], [1, 3]⟩, ⟨[], [], [1, 3]⟩, ⟨[], [], [1, 3]⟩, ⟨[], [], [1, 3]⟩, ⟨[], [], [1, 3]⟩, ⟨[], [], [1, 3]⟩, ⟨[], [], [1, 3]⟩, ⟨[], [], [1, 3]⟩, ⟨[], [], [1, 3]⟩, ⟨[], [], [1, 3]⟩, ⟨[], [], [1, 3]⟩, ⟨[], [3], [1, 3]⟩, ⟨[], [], [1, 3]⟩, ⟨[], [], [1, 3]⟩, ⟨[], [], [1, 3]⟩, ⟨[], [], [1, 3]⟩, ⟨[], [], [1, 3]⟩, ⟨[], [3], [1, 3]⟩, ⟨[], [3], [1, 3]⟩, ⟨[], [], [1, 3]⟩, ⟨[], [3], [1, 3]⟩, ⟨[], [], [1, 3]⟩, ⟨[], [], [1, 3]⟩, ⟨[], [], [1, 3]⟩, ⟨[], [], [1, 3]⟩, ⟨[], [], [1, 3]⟩, ⟨[], [3], [1, 3]⟩, ⟨[], [3], [1, 3]⟩, ⟨[], [], [1, 3]⟩, ⟨[], [3], [1, 3]⟩, ⟨[], [], [1, 3]⟩, ⟨[], [], [1, 3]⟩] (by kernel_rfl) (ChainG.yield [] [] (fun X => q_loadA rfl rfl Mn32 Sz32 rfl (reads_blkA (by simp) fb_b6)) rfl rfl (fun _ => rfl) (fun _ _ => rfl) (fun X Y h0 h => ⟨by first | rfl | simp only [h0], by first | rfl | simp only [h0]⟩) (ChainG.ope (fun (X : Nat → Gh) => .agg #[.int .i64 (jload (JA L a b z).s0 (JA L a b z).s1).bud, .int .i64 (jload (JA L a b z).s0 (JA L a b z).s1).mar, .int .i64 0, .slice (X 1).1 (jload (JA L a b z).s0 (JA L a b z).s1).ps.length (X 1).2]) [] [] (fun X => oe_call rfl En27 rfl (fun R w1 hw1 => (of16_calls (jload (JA L a b z).s0 (JA L a b z).s1).bud (jload (JA L a b z).s0 (JA L a b z).s1).mar 0 m (jload (JA L a b z).s0 (JA L a b z).s1).ps w1 (hP_m.below (hw1.toBelow (by simp))) (by omega)).mono (fun e w' ⟨i, h1, h2⟩ => ⟨i, h1, hw1.lift1 h2⟩))) rfl rfl (fun X Y h0 h => ⟨by first | rfl | (show (.agg #[.int .i64 (jload (JA L a b z).s0 (JA L a b z).s1).bud, .int .i64 (jload (JA L a b z).s0 (JA L a b z).s1).mar, .int .i64 0, .slice (X 1).1 (jload (JA L a b z).s0 (JA L a b z).s1).ps.length (X 1).2] : Value) = .agg #[.int .i64 (jload (JA L a b z).s0 (JA L a b z).s1).bud, .int .i64 (jload (JA L a b z).s0 (JA L a b z).s1).mar, .int .i64 0, .slice (Y 1).1 (jload (JA L a b z).s0 (JA L a b z).s1).ps.length (Y 1).2]; simp only [h0]), by first | rfl | (show ([Sx.Item.own 0 91 2 (.slice (X 1).1 (jload (JA L a b z).s0 (JA L a b z).s1).ps.length (X 1).2) (jload (JA L a b z).s0 (JA L a b z).s1).ps.length (((jload (JA L a b z).s0 (JA L a b z).s1).ps.map to91).flatMap pc91)] : List Sx.Item) = [Sx.Item.own 0 91 2 (.slice (Y 1).1 (jload (JA L a b z).s0 (JA L a b z).s1).ps.length (Y 1).2) (jload (JA L a b z).s0 (JA L a b z).s1).ps.length (((jload (JA L a b z).s0 (JA L a b z).s1).ps.map to91).flatMap pc91)]; simp only [h0])⟩) (ChainG.yield [] [] (fun X => q_loadA rfl rfl Mn42 Sz42 rfl (reads_blkA (by simp) fb_b8)) rfl rfl (fun _ => rfl) (fun _ _ => rfl) (fun X Y h0 h => ⟨by first | rfl | simp only [h0], by first | rfl | simp only [h0]⟩) (ChainG.ope (fun (X : Nat → Gh) => .bool true) [1] [1] (fun X => oe_call rfl En18 rfl (fun R w1 hw1 => (same_of (jload (JA L a b z).s0 (JA L a b z).s1).bud (jload (JA L a b z).s0 (JA L a b z).s1).mar 0 (X 1) rl (jload (JA L a b z).s0 (JA L a b z).s1).ps w1 (hw1.get (i := 0) rfl) (hQ_rl.below (hw1.toBelow (by simp))) (by omega)).mono (fun e w' ⟨h1, h2⟩ => ⟨(none, 0), h1, hw1.below h2⟩))) rfl rfl (fun X Y h0 h => ⟨by first | rfl | (show (.bool true : Value) = .bool true; simp only [h0, h 1 (by decide)]), by first | rfl | (show ([Sx.Item.own 0 91 2 (.slice (X 1).1 (jload (JA L a b z).s0 (JA L a b z).s1).ps.length (X 1).2) (jload (JA L a b z).s0 (JA L a b z).s1).ps.length (((jload (JA L a b z).s0 (JA L a b z).s1).ps.map to91).flatMap pc91)] : List Sx.Item) = [Sx.Item.own 0 91 2 (.slice (Y 1).1 (jload (JA L a b z).s0 (JA L a b z).s1).ps.length (Y 1).2) (jload (JA L a b z).s0 (JA L a b z).s1).ps.length (((jload (JA L a b z).s0 (JA L a b z).s1).ps.map to91).flatMap pc91)]; simp only [h0, h 1 (by decide)])⟩) (ChainG.yield [] [1, 3] (fun X => q_not rfl rfl) rfl rfl (fun _ => rfl) (fun _ _ => rfl) (fun X Y h0 h => ⟨by first | rfl | simp only [h0, h 1 (by decide), h 3 (by decide)], by first | rfl | simp only [h0, h 1 (by decide), h 3 (by decide)]⟩) (ChainG.yield [] [1, 3] (fun X => q_move rfl rfl) rfl rfl (fun _ => rfl) (fun _ _ => rfl) (fun X Y h0 h => ⟨by first | rfl | simp only [h0, h 1 (by decide), h 3 (by decide)], by first | rfl | simp only [h0, h 1 (by decide), h 3 (by decide)]⟩) (ChainG.wantq (b := false) [] [1, 3] (fun X => q_move rfl rfl) rfl rfl (fun _ => rfl) rfl (fun _ => rfl) (fun _ _ => rfl) (fun X Y h0 h => ⟨by first | rfl | simp only [h0, h 1 (by decide), h 3 (by decide)], by first | rfl | simp only [h0, h 1 (by decide), h 3 (by decide)]⟩) (ChainG.wantq (b := false) [] [1, 3] (fun X => q_move rfl rfl) rfl rfl (fun _ => rfl) rfl (fun _ => rfl) (fun _ _ => rfl) (fun X Y h0 h => ⟨by first | rfl | simp only [h0, h 1 (by decide), h 3 (by decide)], by first | rfl | simp only [h0, h 1 (by decide), h 3 (by decide)]⟩) (ChainG.wantq (b := false) [] [1, 3] (fun X => OpQ.to (q_bin rfl rfl rfl rfl) (congrArg Value.bool (show ((jload (JA L a b z).s0 (JA L a b z).s1).seq != (jload (JA L a b z).s0 (JA L a b z).s1).seq) = false by simp))) rfl rfl (fun _ => rfl) rfl (fun _ => rfl) (fun _ _ => rfl) (fun X Y h0 h => ⟨by first | rfl | simp only [h0, h 1 (by decide), h 3 (by decide)], by first | rfl | simp only [h0, h 1 (by decide), h 3 (by decide)]⟩) (ChainG.yield [] [1, 3] (fun X => q_pick rfl rfl rfl) rfl rfl (fun _ => rfl) (fun _ _ => rfl) (fun X Y h0 h => ⟨by first | rfl | simp only [h0, h 1 (by decide), h 3 (by decide)], by first | rfl | simp only [h0, h 1 (by decide), h 3 (by decide)]⟩) (ChainG.yield [] [1, 3] (fun X => q_move rfl rfl) rfl rfl (fun _ => rfl) (fun _ _ => rfl) (fun X Y h0 h => ⟨by first | rfl | simp only [h0, h 1 (by decide), h 3 (by decide)], by first | rfl | simp only [h0, h 1 (by decide), h 3 (by decide)]⟩) (ChainG.wantq (b := false) [] [1, 3] (fun X => q_move rfl rfl) rfl rfl (fun _ => rfl) rfl (fun _ => rfl) (fun _ _ => rfl) (fun X Y h0 h => ⟨by first | rfl | simp only [h0, h 1 (by decide), h 3 (by decide)], by first | rfl | simp only [h0, h 1 (by decide), h 3 (by decide)]⟩) (ChainG.wantq (b := false) [] [1, 3] (fun X => q_move rfl rfl) rfl rfl (fun _ => rfl) rfl (fun _ => rfl) (fun _ _ => rfl) (fun X Y h0 h => ⟨by first | rfl | simp only [h0, h 1 (by decide), h 3 (by decide)], by first | rfl | simp only [h0, h 1 (by decide), h 3 (by decide)]⟩) (ChainG.wantq (b := false) [] [1, 3] (fun X => OpQ.to (q_neqB rfl rfl rfl Tryd.underlying4) (congrArg Value.bool (show (decide (0 < (jload (JA L a b z).s0 (JA L a b z).s1).seq) != decide (0 < (jload (JA L a b z).s0 (JA L a b z).s1).seq)) = false by simp))) rfl rfl (fun _ => rfl) rfl (fun _ => rfl) (fun _ _ => rfl) (fun X Y h0 h => ⟨by first | rfl | simp only [h0, h 1 (by decide), h 3 (by decide)], by first | rfl | simp only [h0, h 1 (by decide), h 3 (by decide)]⟩) (ChainG.yield [] [1, 3] (fun X => q_pick rfl rfl rfl) rfl rfl (fun _ => rfl) (fun _ _ => rfl) (fun X Y h0 h => ⟨by first | rfl | simp only [h0, h 1 (by decide), h 3 (by decide)], by first | rfl | simp only [h0, h 1 (by decide), h 3 (by decide)]⟩) (ChainG.yield [] [1, 3] (fun X => q_move rfl rfl) rfl rfl (fun _ => rfl) (fun _ _ => rfl) (fun X Y h0 h => ⟨by first | rfl | simp only [h0, h 1 (by decide), h 3 (by decide)], by first | rfl | simp only [h0, h 1 (by decide), h 3 (by decide)]⟩) (ChainG.wantq (b := false) [] [1, 3] (fun X => q_move rfl rfl) rfl rfl (fun _ => rfl) rfl (fun _ => rfl) (fun _ _ => rfl) (fun X Y h0 h => ⟨by first | rfl | simp only [h0, h 1 (by decide), h 3 (by decide)], by first | rfl | simp only [h0, h 1 (by decide), h 3 (by decide)]⟩) (ChainG.wantq (b := false) [3] [1, 3] (fun X => q_len rfl rfl Tryd.underlying68) rfl rfl (fun _ => rfl) rfl (fun _ => rfl) (fun _ _ => rfl) (fun X Y h0 h => ⟨by first | rfl | simp only [h0, h 1 (by decide), h 3 (by decide)], by first | rfl | simp only [h0, h 1 (by decide), h 3 (by decide)]⟩) (ChainG.wantq (b := false) [] [1, 3] (fun X => OpQ.to (q_bin rfl rfl rfl rfl) (congrArg Value.bool (by rfl))) rfl rfl (fun _ => rfl) rfl (fun _ => rfl) (fun _ _ => rfl) (fun X Y h0 h => ⟨by first | rfl | simp only [h0, h 1 (by decide), h 3 (by decide)], by first | rfl | simp only [h0, h 1 (by decide), h 3 (by decide)]⟩) (ChainG.yield [] [1, 3] (fun X => q_pick rfl rfl rfl) rfl rfl (fun _ => rfl) (fun _ _ => rfl) (fun X Y h0 h => ⟨by first | rfl | simp only [h0, h 1 (by decide), h 3 (by decide)], by first | rfl | simp only [h0, h 1 (by decide), h 3 (by decide)]⟩) (ChainG.yield [] [1, 3] (fun X => q_move rfl rfl) rfl rfl (fun _ => rfl) (fun _ _ => rfl) (fun X Y h0 h => ⟨by first | rfl | simp only [h0, h 1 (by decide), h 3 (by decide)], by first | rfl | simp only [h0, h 1 (by decide), h 3 (by decide)]⟩) (ChainG.wantq (b := false) [] [1, 3] (fun X => q_move rfl rfl) rfl rfl (fun _ => rfl) rfl (fun _ => rfl) (fun _ _ => rfl) (fun X Y h0 h => ⟨by first | rfl | simp only [h0, h 1 (by decide), h 3 (by decide)], by first | rfl | simp only [h0, h 1 (by decide), h 3 (by decide)]⟩) (ChainG.wantq (b := false) [] [1, 3] (fun X => q_indexS (off := 0) rfl rfl rfl Tryd.underlying68 Sz22 (by decide) (by decide) rfl) rfl rfl (fun _ => rfl) rfl (fun _ => rfl) (fun _ _ => rfl) (fun X Y h0 h => ⟨by first | rfl | simp only [h0, h 1 (by decide), h 3 (by decide)], by first | rfl | simp only [h0, h 1 (by decide), h 3 (by decide)]⟩) (ChainG.wantq (b := false) [3] [1, 3] (fun X => q_load rfl rfl Mn22 (reads_blk (by simp) fb_sl rfl)) rfl rfl (fun _ => rfl) rfl (fun _ => rfl) (fun _ _ => rfl) (fun X Y h0 h => ⟨by first | rfl | simp only [h0, h 1 (by decide), h 3 (by decide)], by first | rfl | simp only [h0, h 1 (by decide), h 3 (by decide)]⟩) (ChainG.wantq (b := false) [3] [1, 3] (fun X => q_bytesStr rfl rfl Tryd.underlying22 Tryd.underlying5 Tryd.underlying9 (fun w1 hw1 => (hR0_sl.below (hw1.toBelow (by simp))).2)) rfl rfl (fun _ => rfl) rfl (fun _ => rfl) (fun _ _ => rfl) (fun X Y h0 h => ⟨by first | rfl | simp only [h0, h 1 (by decide), h 3 (by decide)], by first | rfl | simp only [h0, h 1 (by decide), h 3 (by decide)]⟩) (ChainG.wantq (b := false) [] [1, 3] (fun X => q_fa (o1 := 0) rfl rfl Fo46_0 rfl) rfl rfl (fun _ => rfl) rfl (fun _ => rfl) (fun _ _ => rfl) (fun X Y h0 h => ⟨by first | rfl | simp only [h0, h 1 (by decide), h 3 (by decide)], by first | rfl | simp only [h0, h 1 (by decide), h 3 (by decide)]⟩) (ChainG.wantq (b := false) [3] [1, 3] (fun X => q_load rfl rfl Mn9 (reads_blk (by simp) fb_b3 rfl)) rfl rfl (fun _ => rfl) rfl (fun _ => rfl) (fun _ _ => rfl) (fun X Y h0 h => ⟨by first | rfl | simp only [h0, h 1 (by decide), h 3 (by decide)], by first | rfl | simp only [h0, h 1 (by decide), h 3 (by decide)]⟩) (ChainG.wantq (b := false) [] [1, 3] (fun X => q_eqlStr (c := false) rfl (.inr ⟨rfl, show (!((strOfNums (JA L a b z).s0).toList == (strOfNums (JA L a b z).s0).toList)) = false by simp⟩) rfl rfl (fun w => rfl)) rfl rfl (fun _ => rfl) rfl (fun _ => rfl) (fun _ _ => rfl) (fun X Y h0 h => ⟨by first | rfl | simp only [h0, h 1 (by decide), h 3 (by decide)], by first | rfl | simp only [h0, h 1 (by decide), h 3 (by decide)]⟩) (ChainG.yield [] [1, 3] (fun X => q_pick rfl rfl rfl) rfl rfl (fun _ => rfl) (fun _ _ => rfl) (fun X Y h0 h => ⟨by first | rfl | simp only [h0, h 1 (by decide), h 3 (by decide)], by first | rfl | simp only [h0, h 1 (by decide), h 3 (by decide)]⟩) (ChainG.yield [] [1, 3] (fun X => q_move rfl rfl) rfl rfl (fun _ => rfl) (fun _ _ => rfl) (fun X Y h0 h => ⟨by first | rfl | simp only [h0, h 1 (by decide), h 3 (by decide)], by first | rfl | simp only [h0, h 1 (by decide), h 3 (by decide)]⟩) (ChainG.wantq (b := false) [] [1, 3] (fun X => q_move rfl rfl) rfl rfl (fun _ => rfl) rfl (fun _ => rfl) (fun _ _ => rfl) (fun X Y h0 h => ⟨by first | rfl | simp only [h0, h 1 (by decide), h 3 (by decide)], by first | rfl | simp only [h0, h 1 (by decide), h 3 (by decide)]⟩) (ChainG.wantq (b := false) [] [1, 3] (fun X => q_indexS (off := 1) rfl rfl rfl Tryd.underlying68 Sz22 (by decide) (by decide) rfl) rfl rfl (fun _ => rfl) rfl (fun _ => rfl) (fun _ _ => rfl) (fun X Y h0 h => ⟨by first | rfl | simp only [h0, h 1 (by decide), h 3 (by decide)], by first | rfl | simp only [h0, h 1 (by decide), h 3 (by decide)]⟩) (ChainG.wantq (b := false) [3] [1, 3] (fun X => q_load rfl rfl Mn22 (reads_blk (by simp) fb_sl rfl)) rfl rfl (fun _ => rfl) rfl (fun _ => rfl) (fun _ _ => rfl) (fun X Y h0 h => ⟨by first | rfl | simp only [h0, h 1 (by decide), h 3 (by decide)], by first | rfl | simp only [h0, h 1 (by decide), h 3 (by decide)]⟩) (ChainG.wantq (b := false) [3] [1, 3] (fun X => q_bytesStr rfl rfl Tryd.underlying22 Tryd.underlying5 Tryd.underlying9 (fun w1 hw1 => (hR1_sl.below (hw1.toBelow (by simp))).2)) rfl rfl (fun _ => rfl) rfl (fun _ => rfl) (fun _ _ => rfl) (fun X Y h0 h => ⟨by first | rfl | simp only [h0, h 1 (by decide), h 3 (by decide)], by first | rfl | simp only [h0, h 1 (by decide), h 3 (by decide)]⟩) (ChainG.wantq (b := false) [] [1, 3] (fun X => q_fa (o1 := 1) rfl rfl Fo46_1 rfl) rfl rfl (fun _ => rfl) rfl (fun _ => rfl) (fun _ _ => rfl) (fun X Y h0 h => ⟨by first | rfl | simp only [h0, h 1 (by decide), h 3 (by decide)], by first | rfl | simp only [h0, h 1 (by decide), h 3 (by decide)]⟩) (ChainG.wantq (b := false) [3] [1, 3] (fun X => q_load rfl rfl Mn9 (reads_blk (by simp) fb_b3 rfl)) rfl rfl (fun _ => rfl) rfl (fun _ => rfl) (fun _ _ => rfl) (fun X Y h0 h => ⟨by first | rfl | simp only [h0, h 1 (by decide), h 3 (by decide)], by first | rfl | simp only [h0, h 1 (by decide), h 3 (by decide)]⟩) (ChainG.wantq (b := false) [] [1, 3] (fun X => q_eqlStr (c := false) rfl (.inr ⟨rfl, show (!((strOfNums (JA L a b z).s1).toList == (strOfNums (JA L a b z).s1).toList)) = false by simp⟩) rfl rfl (fun w => rfl)) rfl rfl (fun _ => rfl) rfl (fun _ => rfl) (fun _ _ => rfl) (fun X Y h0 h => ⟨by first | rfl | simp only [h0, h 1 (by decide), h 3 (by decide)], by first | rfl | simp only [h0, h 1 (by decide), h 3 (by decide)]⟩) (ChainG.yield [] [1, 3] (fun X => q_pick rfl rfl rfl) rfl rfl (fun _ => rfl) (fun _ _ => rfl) (fun X Y h0 h => ⟨by first | rfl | simp only [h0, h 1 (by decide), h 3 (by decide)], by first | rfl | simp only [h0, h 1 (by decide), h 3 (by decide)]⟩) (ChainG.nil _ _))))))))))))))))))))))))))))))))))))))) rfl rfl (fun X => [_, _]) (fun _ => rfl) (fun X => ?_))
          generalize X 1 = og1
          refine wl_nil ?_
          refine fq_then ?_
          refine wc_false rfl ?_
          refine wc_skip ?_
          refine fq_then ?_
          refine wc_seq ?_
          refine wc_seq ?_
          refine wc_region ?_
          refine wl_q (q_move rfl rfl) rfl rfl (by decide) ?_
          refine wl_q (q_move rfl rfl) rfl rfl (by decide) ?_
          refine wl_q (q_len rfl rfl Tryd.underlying63) rfl rfl (by decide) ?_
          refine wl_q (q_bin rfl rfl rfl rfl) rfl rfl (by decide) ?_
          refine wl_nil ?_
          refine fq_then ?_
          refine wc_cond rfl (fun h104 => ?_) (fun h104 => ?_)
          · skip
            have q104 := h104
            try simp only [decide_eq_true_eq, decide_eq_false_iff_not, beq_iff_eq, beq_eq_false_iff_ne, bne_iff_ne, ne_eq, bne_eq_false_iff_eq, Int.not_lt, Int.not_le] at q104
            refine wc_seq ?_
            refine wc_region ?_
            refine wl_q (q_assign rfl rfl) rfl rfl (by decide) ?_
            refine wl_nil ?_
            refine fq_then ?_
            refine wc_ret ?_
            refine fq_then_ret ?_
            refine fq_block_ret ?_
            refine fq_then_ret ?_
            refine fq_then_ret ?_
            refine fq_block_ret ?_
            refine fq_then_ret ?_
            refine fq_ret1 rfl rfl (fun w1 H => ?_)
            exact ⟨rfl, (by first | exact hB.next (H.toBelow (by simp)) | exact H.toBelow (by simp))⟩
          · skip
            have q104 := h104
            try simp only [decide_eq_true_eq, decide_eq_false_iff_not, beq_iff_eq, beq_eq_false_iff_ne, bne_iff_ne, ne_eq, bne_eq_false_iff_eq, Int.not_lt, Int.not_le] at q104
            have hzl : z < L.length := by omega
            obtain ⟨p, hp⟩ : ∃ p, L[z]? = some p := ⟨_, List.getElem?_eq_getElem hzl⟩
            obtain ⟨ad, g, hA, hra0_, hra1_, hra2_, hg0⟩ := hl_0.at hp
            have hg := hg0.below hB
            have hra0 := hra0_.below hB
            have hra1 := hra1_.below hB
            have hra2 := hra2_.below hB
            have wi : IntKind.i64.wrap ((z : Int) + 1) = ((z + 1 : Nat) : Int) := wrap_nat (by omega)
            refine wc_skip ?_
            refine fq_then ?_
            refine wc_seq ?_
            refine wc_region ?_
            refine wl_q (q_move rfl rfl) rfl rfl (by decide) ?_
            refine wl_q (q_move rfl rfl) rfl rfl (by decide) ?_
            refine wl_q (q_indexO rfl rfl hA rfl Tryd.underlying63 Sz71 (by omega) (by omega)) rfl rfl (by decide) ?_
            refine wl_q (q_fax rfl rfl Fo71_2 rfl) rfl rfl (by decide) ?_
            refine wl_q (q_loadA rfl rfl Mn32 Sz32 rfl (reads_old (by simp) hra2)) rfl rfl (by decide) ?_
            refine wl_q (q_call rfl En22 rfl (fun w1 hw1 => few16_calls p.f2.f0 p.f2.f1 p.f2.f2 g p.f2.f3 w1 (hg.below (hw1.toBelow (by simp))))) rfl rfl (by decide) ?_
            refine wl_q (q_assign rfl rfl) rfl rfl (by decide) ?_
            refine wl_nil ?_
            refine fq_then ?_
            refine wc_seq ?_
            refine wc_seq ?_
            refine wc_region ?_
            refine wl_q (q_move rfl rfl) rfl rfl (by decide) ?_
            refine wl_q (q_not rfl rfl) rfl rfl (by decide) ?_
            refine wl_nil ?_
            refine fq_then ?_
            refine wc_cond rfl (fun h112 => ?_) (fun h112 => ?_)
            · skip
              have q112 := h112
              try simp only [decide_eq_true_eq, decide_eq_false_iff_not, beq_iff_eq, beq_eq_false_iff_ne, bne_iff_ne, ne_eq, bne_eq_false_iff_eq, Int.not_lt, Int.not_le] at q112
              refine wc_seq ?_
              refine wc_region ?_
              refine wl_q (q_assign rfl rfl) rfl rfl (by decide) ?_
              refine wl_nil ?_
              refine fq_then ?_
              refine wc_ret ?_
              refine fq_then_ret ?_
              refine fq_block_ret ?_
              refine fq_then_ret ?_
              refine fq_then_ret ?_
              refine fq_block_ret ?_
              refine fq_then_ret ?_
              refine fq_ret1 rfl rfl (fun w1 H => ?_)
              exact ⟨rfl, (by first | exact hB.next (H.toBelow (by simp)) | exact H.toBelow (by simp))⟩
            · skip
              have q112 := h112
              try simp only [decide_eq_true_eq, decide_eq_false_iff_not, beq_iff_eq, beq_eq_false_iff_ne, bne_iff_ne, ne_eq, bne_eq_false_iff_eq, Int.not_lt, Int.not_le] at q112
              have hlp : p.f2.f3.length ≤ 80 := by simpa using h112
              refine wc_skip ?_
              refine fq_then ?_
              refine wc_seq ?_
              refine wc_region ?_
              refine wl_q (q_move rfl rfl) rfl rfl (by decide) ?_
              refine wl_q (q_move rfl rfl) rfl rfl (by decide) ?_
              refine wl_q (q_indexO rfl rfl hA rfl Tryd.underlying63 Sz71 (by omega) (by omega)) rfl rfl (by decide) ?_
              refine wl_q (q_fax rfl rfl Fo71_0 rfl) rfl rfl (by decide) ?_
              refine wl_q (q_load rfl rfl Mn4 (reads_old (by simp) hra0)) rfl rfl (by decide) ?_
              refine wl_nil ?_
              refine fq_then ?_
              refine wc_cond rfl (fun h117 => ?_) (fun h117 => ?_)
              · skip
                have q117 := h117
                try simp only [decide_eq_true_eq, decide_eq_false_iff_not, beq_iff_eq, beq_eq_false_iff_ne, bne_iff_ne, ne_eq, bne_eq_false_iff_eq, Int.not_lt, Int.not_le] at q117
                have hI2 : PInv (JA L a b (z + 1)) := by rw [← JA_tear hp (by simpa using h117)]; exact hI.tear _
                refine wc_seq ?_
                refine wc_ground (fun w_10 Hn_ => ?_)
                have hx_ := Hn_.toBelow (by simp)
                have hbW := hbW.nextV hB.size hx_
                have fb_b2 := fb_b2.below hx_
                have fb_b3 := fb_b3.below hx_
                have hJ := hJ.below hx_
                have hl_ := hl_.below hx_
                have hh := hh.keep hx_
                have hP_m := hP_m.below hx_
                have fb_b6 := fb_b6.below hx_
                have hQ_rl := hQ_rl.below hx_
                have fb_b8 := fb_b8.below hx_
                have fb_sl := fb_sl.below hx_
                have hR0_sl := hR0_sl.below hx_
                have hR1_sl := hR1_sl.below hx_
                have hg := hg.below hx_
                have hra0 := hra0.below hx_
                have hra1 := hra1.below hx_
                have hra2 := hra2.below hx_
                have hB := hB.next hx_
                haveI : Nonempty World := ⟨w_10⟩
                refine wc_any Fol (KD.any_drawK (ι := ((Gh × Gh × Gh) × World)) 7 0 [(6, fun X => [KD.oldK w_10 (Jn.ok (X 6).2 (JA L a b (z + 1)) (X 6).1.1 (X 6).1.2.1 (X 6).1.2.2) (X 6).2])] [⟨[], [], []⟩, ⟨[], [], []⟩, ⟨[], [], []⟩, ⟨[], [], []⟩, ⟨[], [], []⟩, ⟨[], [], []⟩, ⟨[], [], []⟩] (by kernel_rfl) (KD.tk_soft (fun p_ hp_ X => by (simp only [List.mem_cons, List.not_mem_nil, or_false] at hp_; rcases hp_ with rfl <;> rfl))) rfl (KD.ChainG.yield [] [] (fun X => q_loadA rfl rfl Mn38 Sz38 rfl (reads_blkA (by simp) fb_b2)) rfl rfl (fun _ => rfl) (fun _ _ => rfl) (fun X Y h0 h => ⟨by first | rfl | simp only [h0], rfl⟩) (KD.ChainG.yield [] [] (fun X => q_move rfl rfl) rfl rfl (fun _ => rfl) (fun _ _ => rfl) (fun X Y h0 h => ⟨by first | rfl | simp only [h0], rfl⟩) (KD.ChainG.yield [] [] (fun X => q_move rfl rfl) rfl rfl (fun _ => rfl) (fun _ _ => rfl) (fun X Y h0 h => ⟨by first | rfl | simp only [h0], rfl⟩) (KD.ChainG.yield [] [] (fun X => q_indexO rfl rfl hA rfl Tryd.underlying63 Sz71 (by omega) (by omega)) rfl rfl (fun _ => rfl) (fun _ _ => rfl) (fun X Y h0 h => ⟨by first | rfl | simp only [h0], rfl⟩) (KD.ChainG.yield [] [] (fun X => q_fax rfl rfl Fo71_1 rfl) rfl rfl (fun _ => rfl) (fun _ _ => rfl) (fun X Y h0 h => ⟨by first | rfl | simp only [h0], rfl⟩) (KD.ChainG.yield [] [] (fun X => q_load rfl rfl Mn3 (reads_old (by simp) hra1)) rfl rfl (fun _ => rfl) (fun _ _ => rfl) (fun X Y h0 h => ⟨by first | rfl | simp only [h0], rfl⟩) (KD.ChainG.kcall (β := (Gh × Gh × Gh)) (fun (b_ : (Gh × Gh × Gh)) => .agg (Jn.cells (JA L a b (z + 1)) b_.1 b_.2.1 b_.2.2).toArray) (fun (b_ : (Gh × Gh × Gh)) w' => Jn.ok w' (JA L a b (z + 1)) b_.1 b_.2.1 b_.2.2) [] (fun X => KD.oe_callK (v := fun (b_ : (Gh × Gh × Gh)) => .agg (Jn.cells (JA L a b (z + 1)) b_.1 b_.2.1 b_.2.2).toArray) (C := fun (b_ : (Gh × Gh × Gh)) w' => Jn.ok w' (JA L a b (z + 1)) b_.1 b_.2.1 b_.2.2) rfl En31 rfl rfl rfl (by simp) (fun R w1 hw1 => by (exact TearE ((JA L a b z)) p.f1 x.1 x.2.1 x.2.2 w1 (hJ.below (hw1.toBelow (by simp))) hI.ls (Nat.lt_of_le_of_lt hI.b0.1 (by decide)) (Nat.lt_of_le_of_lt hI.b1.1 (by decide)) (Nat.lt_of_le_of_lt hI.bw.1 (by decide)) (JA_tear hp (by simpa using h117))))) rfl rfl (fun _ => rfl) (KD.ChainG.nil _ _)))))))) rfl rfl (fun X => [_, _]) (fun _ => rfl) (fun X => ?_))
                generalize X 6 = x_
                obtain ⟨JN, wk_6⟩ := x_
                dsimp only
                refine wl_ground (fun w_11 Hn_ => ?_)
                have hx_ := Hn_.toBelow (by simp)
                have hbW := hbW.nextV hB.size hx_
                have fb_b2 := fb_b2.below hx_
                have fb_b3 := fb_b3.below hx_
                have hJ := hJ.below hx_
                have hl_ := hl_.below hx_
                have hh := hh.keep hx_
                have hP_m := hP_m.below hx_
                have fb_b6 := fb_b6.below hx_
                have hQ_rl := hQ_rl.below hx_
                have fb_b8 := fb_b8.below hx_
                have fb_sl := fb_sl.below hx_
                have hR0_sl := hR0_sl.below hx_
                have hR1_sl := hR1_sl.below hx_
                have hg := hg.below hx_
                have hra0 := hra0.below hx_
                have hra1 := hra1.below hx_
                have hra2 := hra2.below hx_
                have hB := hB.next hx_
                obtain ⟨hC_, hb_⟩ := KD.oldK.get Hn_ (i := 0) rfl
                have hJ_JN := hC_
                have hJ_JN := hJ_JN.below hb_
                refine wl_storeK fb_b2 rfl rfl rfl rfl rfl Sz38 rfl rfl (by first | (simp; done) | (simp [Value.oneCell', Jn.cells, rcells]; done)) (by simp [Value.oneCell', Jn.cells, rcells]) (by first | rfl | (simp only [List.take_succ_cons, List.take_zero, List.take_nil, List.drop_succ_cons, List.drop_zero, List.drop_nil, List.nil_append, List.cons_append, List.append_nil, List.length_cons, List.length_nil, Nat.reduceAdd, Nat.zero_add]; rfl)) (fun wa_12 w_13 Hn_ hu_ => ?_)
                have hx_ := Hn_.toBelow (by simp)
                have hbW := hbW.nextV hB.size hx_
                have fb_b2 := fb_b2.below hx_
                have fb_b3 := fb_b3.below hx_
                have hJ := hJ.below hx_
                have hl_ := hl_.below hx_
                have hh := hh.keep hx_
                have hP_m := hP_m.below hx_
                have fb_b6 := fb_b6.below hx_
                have hQ_rl := hQ_rl.below hx_
                have fb_b8 := fb_b8.below hx_
                have fb_sl := fb_sl.below hx_
                have hR0_sl := hR0_sl.below hx_
                have hR1_sl := hR1_sl.below hx_
                have hg := hg.below hx_
                have hra0 := hra0.below hx_
                have hra1 := hra1.below hx_
                have hra2 := hra2.below hx_
                have hJ_JN := hJ_JN.below hx_
                have hB := hB.next hx_
                have hs_ := hB.size
                have hB := hB.trans (hu_.below hnb_b2 hs_)
                have hbW := hbW.trans (hu_.below (by first | exact hnb_b2 | exact hnb_b3) hs_)
                have fb_b2 := hu_.now
                have fb_b3 := fb_b3.upd hu_
                have hJ := hJ.upd hu_ (by first | exact cells_u8 _ _ _ _ | exact rcells_u8 _)
                have hl_ := hl_0.below hB
                have hh := hh0.keep hB
                have fb_b6 := fb_b6.upd hu_
                have fb_b8 := fb_b8.upd hu_
                have hg := hg0.below hB
                have hra0 := hra0_.below hB
                have hra1 := hra1_.below hB
                have hra2 := hra2_.below hB
                have hJ_JN := hJ_JN.upd hu_ (by first | exact cells_u8 _ _ _ _ | exact rcells_u8 _)
                refine wl_nil ?_
                refine fq_then ?_
                refine wc_draw 7 Fol (by kernel_rfl) (Chain.yield (q_loadA rfl rfl Mn46 Sz46 rfl (reads_blkA (by simp) fb_b3)) rfl rfl (Chain.yield (q_move rfl rfl) rfl rfl (Chain.yield (q_move rfl rfl) rfl rfl (Chain.yield (q_indexO rfl rfl hA rfl Tryd.underlying63 Sz71 (by omega) (by omega)) rfl rfl (Chain.yield (q_fax rfl rfl Fo71_1 rfl) rfl rfl (Chain.yield (q_load rfl rfl Mn3 (reads_old (by simp) hra1)) rfl rfl (Chain.yield (q_call rfl En32 rfl (fun w1 hw1 => rtearE (J2 := (JA L a b (z + 1))) hI p.f1 w1 (JA_tear hp (by simpa using h117)))) rfl rfl (Chain.nil _)))))))) ?_
                refine wl_storeK fb_b3 rfl rfl rfl rfl rfl Sz46 rfl rfl (by first | (simp; done) | (simp [Value.oneCell', Jn.cells, rcells]; done)) (by simp [Value.oneCell', Jn.cells, rcells]) (by first | rfl | (simp only [List.take_succ_cons, List.take_zero, List.take_nil, List.drop_succ_cons, List.drop_zero, List.drop_nil, List.nil_append, List.cons_append, List.append_nil, List.length_cons, List.length_nil, Nat.reduceAdd, Nat.zero_add]; rfl)) (fun wa_14 w_15 Hn_ hu_ => ?_)
                have hx_ := Hn_.toBelow (by simp)
                have hbW := hbW.nextV hB.size hx_
                have fb_b2 := fb_b2.below hx_
                have fb_b3 := fb_b3.below hx_
                have hJ := hJ.below hx_
                have hl_ := hl_.below hx_
                have hh := hh.keep hx_
                have fb_b6 := fb_b6.below hx_
                have fb_b8 := fb_b8.below hx_
                have hg := hg.below hx_
                have hra0 := hra0.below hx_
                have hra1 := hra1.below hx_
                have hra2 := hra2.below hx_
                have hJ_JN := hJ_JN.below hx_
                have hB := hB.next hx_
                have hs_ := hB.size
                have hB := hB.trans (hu_.below hnb_b3 hs_)
                have hbW := hbW.trans (hu_.below (by first | exact hnb_b2 | exact hnb_b3) hs_)
                have fb_b2 := fb_b2.upd hu_
                have fb_b3 := hu_.now
                have hJ := hJ.upd hu_ (by first | exact cells_u8 _ _ _ _ | exact rcells_u8 _)
                have hl_ := hl_0.below hB
                have hh := hh0.keep hB
                have fb_b6 := fb_b6.upd hu_
                have fb_b8 := fb_b8.upd hu_
                have hg := hg0.below hB
                have hra0 := hra0_.below hB
                have hra1 := hra1_.below hB
                have hra2 := hra2_.below hB
                have hJ_JN := hJ_JN.upd hu_ (by first | exact cells_u8 _ _ _ _ | exact rcells_u8 _)
                refine wl_nil ?_
                refine fq_block ?_
                refine fq_then ?_
                refine wc_region ?_
                refine wl_q (q_move rfl rfl) rfl rfl (by decide) ?_
                refine wl_q (q_bin rfl rfl rfl rfl) rfl rfl (by decide) ?_
                refine wl_q (q_assign rfl rfl) rfl rfl (by decide) ?_
                refine wl_nil ?_
                refine fq_ground (fun w_16 Hn_ => ?_)
                have hx_ := Hn_.toBelow (by simp)
                have hbW := hbW.nextV hB.size hx_
                have fb_b2 := fb_b2.below hx_
                have fb_b3 := fb_b3.below hx_
                have hJ := hJ.below hx_
                have hl_ := hl_.below hx_
                have hh := hh.keep hx_
                have fb_b6 := fb_b6.below hx_
                have fb_b8 := fb_b8.below hx_
                have hg := hg.below hx_
                have hra0 := hra0.below hx_
                have hra1 := hra1.below hx_
                have hra2 := hra2.below hx_
                have hJ_JN := hJ_JN.below hx_
                have hB := hB.next hx_
                exact fq_nextV (z + 1, w_16, JN) hbW rfl (by simp) ⟨by omega, hbW, fb_b2, fb_b3, hJ_JN, hI2⟩ (show L.length + 1 - (z + 1) < L.length + 1 - z by omega) (List.forall_mem_cons.2 ⟨rfl, List.forall_mem_cons.2 ⟨rfl, List.forall_mem_cons.2 ⟨rfl, List.forall_mem_cons.2 ⟨(show some (Value.int .i64 (IntKind.i64.wrap ((z : Int) + 1))) = some (Value.int .i64 ((z + 1 : Nat) : Int)) from by rw [wi]), fun _ h => (by cases h)⟩⟩⟩⟩)
              · skip
                have q117 := h117
                try simp only [decide_eq_true_eq, decide_eq_false_iff_not, beq_iff_eq, beq_eq_false_iff_ne, bne_iff_ne, ne_eq, bne_eq_false_iff_eq, Int.not_lt, Int.not_le] at q117
                have hI2 : PInv (JA L a b (z + 1)) := by rw [← JA_write hp (by simpa using h117)]; exact hI.write _ _ _ (by omega)
                refine wc_seq ?_
                refine wc_ground (fun w_17 Hn_ => ?_)
                have hx_ := Hn_.toBelow (by simp)
                have hbW := hbW.nextV hB.size hx_
                have fb_b2 := fb_b2.below hx_
                have fb_b3 := fb_b3.below hx_
                have hJ := hJ.below hx_
                have hl_ := hl_.below hx_
                have hh := hh.keep hx_
                have hP_m := hP_m.below hx_
                have fb_b6 := fb_b6.below hx_
                have hQ_rl := hQ_rl.below hx_
                have fb_b8 := fb_b8.below hx_
                have fb_sl := fb_sl.below hx_
                have hR0_sl := hR0_sl.below hx_
                have hR1_sl := hR1_sl.below hx_
                have hg := hg.below hx_
                have hra0 := hra0.below hx_
                have hra1 := hra1.below hx_
                have hra2 := hra2.below hx_
                have hB := hB.next hx_
                haveI : Nonempty World := ⟨w_17⟩
                refine wc_any Fol (KD.any_drawK (ι := ((Gh × Gh × Gh) × World)) 7 0 [(6, fun X => [KD.oldK w_17 (Jn.ok (X 6).2 (JA L a b (z + 1)) (X 6).1.1 (X 6).1.2.1 (X 6).1.2.2) (X 6).2])] [⟨[], [], []⟩, ⟨[], [], []⟩, ⟨[], [], []⟩, ⟨[], [], []⟩, ⟨[], [], []⟩, ⟨[], [], []⟩, ⟨[], [], []⟩] (by kernel_rfl) (KD.tk_soft (fun p_ hp_ X => by (simp only [List.mem_cons, List.not_mem_nil, or_false] at hp_; rcases hp_ with rfl <;> rfl))) rfl (KD.ChainG.yield [] [] (fun X => q_loadA rfl rfl Mn38 Sz38 rfl (reads_blkA (by simp) fb_b2)) rfl rfl (fun _ => rfl) (fun _ _ => rfl) (fun X Y h0 h => ⟨by first | rfl | simp only [h0], rfl⟩) (KD.ChainG.yield [] [] (fun X => q_move rfl rfl) rfl rfl (fun _ => rfl) (fun _ _ => rfl) (fun X Y h0 h => ⟨by first | rfl | simp only [h0], rfl⟩) (KD.ChainG.yield [] [] (fun X => q_move rfl rfl) rfl rfl (fun _ => rfl) (fun _ _ => rfl) (fun X Y h0 h => ⟨by first | rfl | simp only [h0], rfl⟩) (KD.ChainG.yield [] [] (fun X => q_indexO rfl rfl hA rfl Tryd.underlying63 Sz71 (by omega) (by omega)) rfl rfl (fun _ => rfl) (fun _ _ => rfl) (fun X Y h0 h => ⟨by first | rfl | simp only [h0], rfl⟩) (KD.ChainG.yield [] [] (fun X => q_fax rfl rfl Fo71_2 rfl) rfl rfl (fun _ => rfl) (fun _ _ => rfl) (fun X Y h0 h => ⟨by first | rfl | simp only [h0], rfl⟩) (KD.ChainG.yield [] [] (fun X => q_loadA rfl rfl Mn32 Sz32 rfl (reads_old (by simp) hra2)) rfl rfl (fun _ => rfl) (fun _ _ => rfl) (fun X Y h0 h => ⟨by first | rfl | simp only [h0], rfl⟩) (KD.ChainG.kcall (β := (Gh × Gh × Gh)) (fun (b_ : (Gh × Gh × Gh)) => .agg (Jn.cells (JA L a b (z + 1)) b_.1 b_.2.1 b_.2.2).toArray) (fun (b_ : (Gh × Gh × Gh)) w' => Jn.ok w' (JA L a b (z + 1)) b_.1 b_.2.1 b_.2.2) [] (fun X => KD.oe_callK (v := fun (b_ : (Gh × Gh × Gh)) => .agg (Jn.cells (JA L a b (z + 1)) b_.1 b_.2.1 b_.2.2).toArray) (C := fun (b_ : (Gh × Gh × Gh)) w' => Jn.ok w' (JA L a b (z + 1)) b_.1 b_.2.1 b_.2.2) rfl En33 rfl rfl rfl (by simp) (fun R w1 hw1 => by (exact WriteE ((JA L a b z)) x.1 x.2.1 x.2.2 p.f2.f0 p.f2.f1 p.f2.f2 g p.f2.f3 w1 (hJ.below (hw1.toBelow (by simp))) hI.b0 hI.b1 (hg.below (hw1.toBelow (by simp))) (by omega) (hh.keep (hw1.toBelow (by simp))) (JA_write hp (by simpa using h117))))) rfl rfl (fun _ => rfl) (KD.ChainG.nil _ _)))))))) rfl rfl (fun X => [_, _]) (fun _ => rfl) (fun X => ?_))
                generalize X 6 = x_
                obtain ⟨JN, wk_6⟩ := x_
                dsimp only
                refine wl_ground (fun w_18 Hn_ => ?_)
                have hx_ := Hn_.toBelow (by simp)
                have hbW := hbW.nextV hB.size hx_
                have fb_b2 := fb_b2.below hx_
                have fb_b3 := fb_b3.below hx_
                have hJ := hJ.below hx_
                have hl_ := hl_.below hx_
                have hh := hh.keep hx_
                have hP_m := hP_m.below hx_
                have fb_b6 := fb_b6.below hx_
                have hQ_rl := hQ_rl.below hx_
                have fb_b8 := fb_b8.below hx_
                have fb_sl := fb_sl.below hx_
                have hR0_sl := hR0_sl.below hx_
                have hR1_sl := hR1_sl.below hx_
                have hg := hg.below hx_
                have hra0 := hra0.below hx_
                have hra1 := hra1.below hx_
                have hra2 := hra2.below hx_
                have hB := hB.next hx_
                obtain ⟨hC_, hb_⟩ := KD.oldK.get Hn_ (i := 0) rfl
                have hJ_JN := hC_
                have hJ_JN := hJ_JN.below hb_
                refine wl_storeK fb_b2 rfl rfl rfl rfl rfl Sz38 rfl rfl (by first | (simp; done) | (simp [Value.oneCell', Jn.cells, rcells]; done)) (by simp [Value.oneCell', Jn.cells, rcells]) (by first | rfl | (simp only [List.take_succ_cons, List.take_zero, List.take_nil, List.drop_succ_cons, List.drop_zero, List.drop_nil, List.nil_append, List.cons_append, List.append_nil, List.length_cons, List.length_nil, Nat.reduceAdd, Nat.zero_add]; rfl)) (fun wa_19 w_20 Hn_ hu_ => ?_)
                have hx_ := Hn_.toBelow (by simp)
                have hbW := hbW.nextV hB.size hx_
                have fb_b2 := fb_b2.below hx_
                have fb_b3 := fb_b3.below hx_
                have hJ := hJ.below hx_
                have hl_ := hl_.below hx_
                have hh := hh.keep hx_
                have hP_m := hP_m.below hx_
                have fb_b6 := fb_b6.below hx_
                have hQ_rl := hQ_rl.below hx_
                have fb_b8 := fb_b8.below hx_
                have fb_sl := fb_sl.below hx_
                have hR0_sl := hR0_sl.below hx_
                have hR1_sl := hR1_sl.below hx_
                have hg := hg.below hx_
                have hra0 := hra0.below hx_
                have hra1 := hra1.below hx_
                have hra2 := hra2.below hx_
                have hJ_JN := hJ_JN.below hx_
                have hB := hB.next hx_
                have hs_ := hB.size
                have hB := hB.trans (hu_.below hnb_b2 hs_)
                have hbW := hbW.trans (hu_.below (by first | exact hnb_b2 | exact hnb_b3) hs_)
                have fb_b2 := hu_.now
                have fb_b3 := fb_b3.upd hu_
                have hJ := hJ.upd hu_ (by first | exact cells_u8 _ _ _ _ | exact rcells_u8 _)
                have hl_ := hl_0.below hB
                have hh := hh0.keep hB
                have fb_b6 := fb_b6.upd hu_
                have fb_b8 := fb_b8.upd hu_
                have hg := hg0.below hB
                have hra0 := hra0_.below hB
                have hra1 := hra1_.below hB
                have hra2 := hra2_.below hB
                have hJ_JN := hJ_JN.upd hu_ (by first | exact cells_u8 _ _ _ _ | exact rcells_u8 _)
                refine wl_nil ?_
                refine fq_then ?_
                refine wc_ground (fun w_21 Hn_ => ?_)
                have hx_ := Hn_.toBelow (by simp)
                have hbW := hbW.nextV hB.size hx_
                have fb_b2 := fb_b2.below hx_
                have fb_b3 := fb_b3.below hx_
                have hJ := hJ.below hx_
                have hl_ := hl_.below hx_
                have hh := hh.keep hx_
                have fb_b6 := fb_b6.below hx_
                have fb_b8 := fb_b8.below hx_
                have hg := hg.below hx_
                have hra0 := hra0.below hx_
                have hra1 := hra1.below hx_
                have hra2 := hra2.below hx_
                have hJ_JN := hJ_JN.below hx_
                have hB := hB.next hx_
                haveI : Nonempty World := ⟨w_21⟩
                refine wc_any Fol (KD.any_drawK (ι := ((Gh × Gh × Gh) × World)) 8 0 [(6, fun X => [KD.oldK w_21 (RowR (X 6).2 (X 6).1.1 (p.f2.f3.map to91)) (X 6).2]), (7, fun X => [KD.oldK w_21 (True) (X 7).2])] [⟨[], [], []⟩, ⟨[], [], []⟩, ⟨[], [], []⟩, ⟨[], [], []⟩, ⟨[], [], []⟩, ⟨[], [], []⟩, ⟨[], [], []⟩, ⟨[], [6], []⟩] (by kernel_rfl) (KD.tk_soft (fun p_ hp_ X => by (simp only [List.mem_cons, List.not_mem_nil, or_false] at hp_; rcases hp_ with rfl | rfl <;> rfl))) rfl (KD.ChainG.yield [] [] (fun X => q_loadA rfl rfl Mn46 Sz46 rfl (reads_blkA (by simp) fb_b3)) rfl rfl (fun _ => rfl) (fun _ _ => rfl) (fun X Y h0 h => ⟨by first | rfl | simp only [h0], rfl⟩) (KD.ChainG.yield [] [] (fun X => q_move rfl rfl) rfl rfl (fun _ => rfl) (fun _ _ => rfl) (fun X Y h0 h => ⟨by first | rfl | simp only [h0], rfl⟩) (KD.ChainG.yield [] [] (fun X => q_move rfl rfl) rfl rfl (fun _ => rfl) (fun _ _ => rfl) (fun X Y h0 h => ⟨by first | rfl | simp only [h0], rfl⟩) (KD.ChainG.yield [] [] (fun X => q_indexO rfl rfl hA rfl Tryd.underlying63 Sz71 (by omega) (by omega)) rfl rfl (fun _ => rfl) (fun _ _ => rfl) (fun X Y h0 h => ⟨by first | rfl | simp only [h0], rfl⟩) (KD.ChainG.yield [] [] (fun X => q_fax rfl rfl Fo71_2 rfl) rfl rfl (fun _ => rfl) (fun _ _ => rfl) (fun X Y h0 h => ⟨by first | rfl | simp only [h0], rfl⟩) (KD.ChainG.yield [] [] (fun X => q_loadA rfl rfl Mn32 Sz32 rfl (reads_old (by simp) hra2)) rfl rfl (fun _ => rfl) (fun _ _ => rfl) (fun X Y h0 h => ⟨by first | rfl | simp only [h0], rfl⟩) (KD.ChainG.kcall (β := (Gh × Gh × Gh)) (fun (b_ : (Gh × Gh × Gh)) => .agg #[.int .i64 p.f2.f0, .int .i64 p.f2.f1, .int .i64 p.f2.f2, .slice b_.1.1 p.f2.f3.length b_.1.2]) (fun (b_ : (Gh × Gh × Gh)) w' => RowR w' b_.1 (p.f2.f3.map to91)) [] (fun X => KD.oe_callK (v := fun (b_ : (Gh × Gh × Gh)) => .agg #[.int .i64 p.f2.f0, .int .i64 p.f2.f1, .int .i64 p.f2.f2, .slice b_.1.1 p.f2.f3.length b_.1.2]) (C := fun (b_ : (Gh × Gh × Gh)) w' => RowR w' b_.1 (p.f2.f3.map to91)) rfl En27 rfl rfl rfl (by simp) (fun R w1 hw1 => by (exact (ofK16 p.f2.f0 p.f2.f1 p.f2.f2 g p.f2.f3 w1 (hg.below (hw1.toBelow (by simp))) (by omega)).mono (fun e w' ⟨i, h1, h2, h3⟩ => ⟨(i, i, i), h1, h2, h3⟩)))) rfl rfl (fun _ => rfl) (KD.ChainG.kcall (β := (Gh × Gh × Gh)) (fun (b_ : (Gh × Gh × Gh)) => .agg (rcells (JA L a b (z + 1))).toArray) (fun (b_ : (Gh × Gh × Gh)) w' => True) [6] (fun X => KD.oe_callK (v := fun (b_ : (Gh × Gh × Gh)) => .agg (rcells (JA L a b (z + 1))).toArray) (C := fun (b_ : (Gh × Gh × Gh)) w' => True) rfl En34 rfl rfl rfl (by simp) (fun R w1 hw1 => by (have hC_ := (KD.oldK.get hw1 (i := 0) rfl).1; have hb_ := (KD.oldK.get hw1 (i := 0) rfl).2; have hQ_of := hC_; have hQ_of := hQ_of.below hb_; exact (RWriteE (J2 := (JA L a b (z + 1))) hI p.f2.f0 p.f2.f1 p.f2.f2 (X 6).1.1 p.f2.f3 w1 hQ_of (by omega) (JA_write hp (by simpa using h117))).mono (fun e w' ⟨h1, h2⟩ => ⟨((none, 0), (none, 0), (none, 0)), trivial, h1, h2⟩)))) rfl rfl (fun _ => rfl) (KD.ChainG.nil _ _))))))))) rfl rfl (fun X => [_, _, _]) (fun _ => rfl) (fun X => ?_))
                generalize X 6 = x_
                obtain ⟨of3, wk_6⟩ := x_
                generalize X 7 = x_
                obtain ⟨rw3, wk_7⟩ := x_
                dsimp only
                refine wl_ground (fun w_22 Hn_ => ?_)
                have hx_ := Hn_.toBelow (by simp)
                have hbW := hbW.nextV hB.size hx_
                have fb_b2 := fb_b2.below hx_
                have fb_b3 := fb_b3.below hx_
                have hJ := hJ.below hx_
                have hl_ := hl_.below hx_
                have hh := hh.keep hx_
                have fb_b6 := fb_b6.below hx_
                have fb_b8 := fb_b8.below hx_
                have hg := hg.below hx_
                have hra0 := hra0.below hx_
                have hra1 := hra1.below hx_
                have hra2 := hra2.below hx_
                have hJ_JN := hJ_JN.below hx_
                have hB := hB.next hx_
                obtain ⟨hC_, hb_⟩ := KD.oldK.get Hn_ (i := 0) rfl
                have hQ_of := hC_
                have hQ_of := hQ_of.below hb_
                obtain ⟨hC_, hb_⟩ := KD.oldK.get Hn_ (i := 1) rfl
                refine wl_storeK fb_b3 rfl rfl rfl rfl rfl Sz46 rfl rfl (by first | (simp; done) | (simp [Value.oneCell', Jn.cells, rcells]; done)) (by simp [Value.oneCell', Jn.cells, rcells]) (by first | rfl | (simp only [List.take_succ_cons, List.take_zero, List.take_nil, List.drop_succ_cons, List.drop_zero, List.drop_nil, List.nil_append, List.cons_append, List.append_nil, List.length_cons, List.length_nil, Nat.reduceAdd, Nat.zero_add]; rfl)) (fun wa_23 w_24 Hn_ hu_ => ?_)
                have hx_ := Hn_.toBelow (by simp)
                have hbW := hbW.nextV hB.size hx_
                have fb_b2 := fb_b2.below hx_
                have fb_b3 := fb_b3.below hx_
                have hJ := hJ.below hx_
                have hl_ := hl_.below hx_
                have hh := hh.keep hx_
                have fb_b6 := fb_b6.below hx_
                have fb_b8 := fb_b8.below hx_
                have hg := hg.below hx_
                have hra0 := hra0.below hx_
                have hra1 := hra1.below hx_
                have hra2 := hra2.below hx_
                have hJ_JN := hJ_JN.below hx_
                have hQ_of := hQ_of.below hx_
                have hB := hB.next hx_
                have hs_ := hB.size
                have hB := hB.trans (hu_.below hnb_b3 hs_)
                have hbW := hbW.trans (hu_.below (by first | exact hnb_b2 | exact hnb_b3) hs_)
                have fb_b2 := fb_b2.upd hu_
                have fb_b3 := hu_.now
                have hJ := hJ.upd hu_ (by first | exact cells_u8 _ _ _ _ | exact rcells_u8 _)
                have hl_ := hl_0.below hB
                have hh := hh0.keep hB
                have fb_b6 := fb_b6.upd hu_
                have fb_b8 := fb_b8.upd hu_
                have hg := hg0.below hB
                have hra0 := hra0_.below hB
                have hra1 := hra1_.below hB
                have hra2 := hra2_.below hB
                have hJ_JN := hJ_JN.upd hu_ (by first | exact cells_u8 _ _ _ _ | exact rcells_u8 _)
                refine wl_nil ?_
                refine fq_block ?_
                refine fq_then ?_
                refine wc_region ?_
                refine wl_q (q_move rfl rfl) rfl rfl (by decide) ?_
                refine wl_q (q_bin rfl rfl rfl rfl) rfl rfl (by decide) ?_
                refine wl_q (q_assign rfl rfl) rfl rfl (by decide) ?_
                refine wl_nil ?_
                refine fq_ground (fun w_25 Hn_ => ?_)
                have hx_ := Hn_.toBelow (by simp)
                have hbW := hbW.nextV hB.size hx_
                have fb_b2 := fb_b2.below hx_
                have fb_b3 := fb_b3.below hx_
                have hJ := hJ.below hx_
                have hl_ := hl_.below hx_
                have hh := hh.keep hx_
                have fb_b6 := fb_b6.below hx_
                have fb_b8 := fb_b8.below hx_
                have hg := hg.below hx_
                have hra0 := hra0.below hx_
                have hra1 := hra1.below hx_
                have hra2 := hra2.below hx_
                have hJ_JN := hJ_JN.below hx_
                have hB := hB.next hx_
                exact fq_nextV (z + 1, w_25, JN) hbW rfl (by simp) ⟨by omega, hbW, fb_b2, fb_b3, hJ_JN, hI2⟩ (show L.length + 1 - (z + 1) < L.length + 1 - z by omega) (List.forall_mem_cons.2 ⟨rfl, List.forall_mem_cons.2 ⟨rfl, List.forall_mem_cons.2 ⟨rfl, List.forall_mem_cons.2 ⟨(show some (Value.int .i64 (IntKind.i64.wrap ((z : Int) + 1))) = some (Value.int .i64 ((z + 1 : Nat) : Int)) from by rw [wi]), fun _ h => (by cases h)⟩⟩⟩⟩)
        · skip
          have q46 := h46
          try simp only [decide_eq_true_eq, decide_eq_false_iff_not, beq_iff_eq, beq_eq_false_iff_ne, bne_iff_ne, ne_eq, bne_eq_false_iff_eq, Int.not_lt, Int.not_le] at q46
          refine wc_exit ?_
          refine fq_then_exit ?_
          refine fq_then_exit ?_
          refine fq_block_hit ?_
          refine fq_then ?_
          refine wc_seq ?_
          refine wc_region ?_
          refine wl_q (q_assign rfl rfl) rfl rfl (by decide) ?_
          refine wl_nil ?_
          refine fq_then ?_
          refine wc_ret ?_
          refine fq_ret1 rfl rfl (fun w1 H => ?_)
          exact ⟨rfl, (by first | exact hB.next (H.toBelow (by simp)) | exact H.toBelow (by simp))⟩
end Go.Proofs.YtbcijmpkmmcdeaaDoor.SF
end
