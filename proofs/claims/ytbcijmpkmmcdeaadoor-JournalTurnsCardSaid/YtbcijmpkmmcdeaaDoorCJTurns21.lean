/- Texts of mine, put together (no statement stands here). -/
import Derived.Test.YtbcijmpkmmcdeaaDoorCJTurns16
import Derived.Test.YtbcijmpkmmcdeaaDoorCJTurns17
import Derived.Test.YtbcijmpkmmcdeaaDoorCJTurns18
import Derived.Test.YtbcijmpkmmcdeaaDoorCJTurns19
import Derived.Test.YtbcijmpkmmcdeaaDoorCJTurns20
section
namespace Go.Proofs.YtbcijmpkmmcdeaaDoor.SF
open Go.RowKit Go.Sx Go.Proofs.YtbcijmpkmmcdeaaDoor.PAll Go.Proofs.YtbcijmpkmmcdeaaDoorW.PrintWords Go.Proofs.YtbcijmpkmmcdeaaDoorW.PrintLast Go.Proofs.YtbcijmpkmmcdeaaDoorW.PrintMore
set_option linter.unusedVariables false
set_option linter.unusedSimpArgs false
set_option maxRecDepth 100000
set_option maxHeartbeats 2000000 in
theorem turns_calls (q : Gh) (L : List S32) (w : World) (hl_0 : RowL w q L) (hh0 : Half w) :
    Calls Tryd.prog 10 #[.slice q.1 L.length q.2] w fun e w' => e = .returned (.bool true) ∧ Below w.heap.size w w' := by
  have hl_ := hl_0
  have hh := hh0
  refine enter (w0 := w) (hp := [old w]) (env := [(0, .slice q.1 L.length q.2)]) Tryd.func10 rfl 121 rfl (by simp) rfl (HeapOK.start _) ?_
  refine wc_seq ?_
  refine wc_region ?_
  refine wl_q (q_assign rfl rfl) rfl rfl (by decide) ?_
  refine wl_nil ?_
  refine fq_then ?_
  refine wc_seq ?_
  refine wc_region ?_
  refine wl_q (q_call rfl En21 rfl (fun w1 hw1 => awake16_calls w1 (hh.keep (hw1.toBelow (by simp))))) rfl rfl (by decide) ?_
  refine wl_q (q_assign rfl rfl) rfl rfl (by decide) ?_
  refine wl_nil ?_
  refine fq_then ?_
  refine wc_seq ?_
  refine wc_seq ?_
  refine wc_region ?_
  refine wl_q (q_move rfl rfl) rfl rfl (by decide) ?_
  refine wl_q (q_not rfl rfl) rfl rfl (by decide) ?_
  refine wl_nil ?_
  refine fq_then ?_
  refine wc_false rfl ?_
  refine wc_skip ?_
  refine fq_then ?_
  refine wc_seq ?_
  refine wc_seq ?_
  refine wc_region ?_
  refine wl_q (q_move rfl rfl) rfl rfl (by decide) ?_
  refine wl_q (q_len rfl rfl Tryd.underlying79) rfl rfl (by decide) ?_
  refine wl_q (q_bin rfl rfl rfl rfl) rfl rfl (by decide) ?_
  refine wl_nil ?_
  refine fq_then ?_
  refine wc_cond rfl (fun h19 => ?_) (fun h19 => ?_)
  · skip
    have q19 := h19
    try simp only [decide_eq_true_eq, decide_eq_false_iff_not, beq_iff_eq, beq_eq_false_iff_ne, bne_iff_ne, ne_eq, bne_eq_false_iff_eq, Int.not_lt, Int.not_le] at q19
    refine wc_seq ?_
    refine wc_region ?_
    refine wl_q (q_assign rfl rfl) rfl rfl (by decide) ?_
    refine wl_nil ?_
    refine fq_then ?_
    refine wc_ret ?_
    refine fq_then_ret ?_
    refine fq_ret1 rfl rfl (fun w1 H => ?_)
    exact ⟨rfl, (by first | exact hB.next (H.toBelow (by simp)) | exact H.toBelow (by simp))⟩
  · skip
    have q19 := h19
    try simp only [decide_eq_true_eq, decide_eq_false_iff_not, beq_iff_eq, beq_eq_false_iff_ne, bne_iff_ne, ne_eq, bne_eq_false_iff_eq, Int.not_lt, Int.not_le] at q19
    refine wc_skip ?_
    refine fq_then ?_
    refine wc_seq ?_
    refine wc_region ?_
    refine wl_callK (ι := (Gh × Gh)) (fun i => .agg (Jn.cells (⟨[], [], 0, [], false⟩ : Jn) i.1 i.2 (none, 0)).toArray) (fun i w w' => Jn.ok w' (⟨[], [], 0, [], false⟩ : Jn) i.1 i.2 (none, 0)) rfl rfl rfl (by decide) En16 rfl (fun w1 hw1 => FromK (none, 0) (none, 0) [] [] w1 (RowC.none w1 _) (RowC.none w1 _) (by decide) (by decide)) (fun J0 wa_ w_1 _ Hn_ _ hC_ => ?_)
    have hx_ := Hn_.toBelow (by simp)
    have hh := hh.keep hx_
    have hl_ := hl_.below hx_
    have hB := hx_
    have hJ_J0 := hC_
    refine wl_alloc rfl rfl rfl (by decide) Zr38 (fun b2 => ?_)
    refine wl_store (i := 0) rfl rfl rfl rfl rfl rfl Sz38 rfl rfl (by simp) (by simp [Value.oneCell', Jn.cells]) (by first | (simp only [List.take_succ_cons, List.take_zero, List.take_nil, List.drop_succ_cons, List.drop_zero, List.drop_nil, List.nil_append, List.cons_append, List.append_nil, List.length_cons, List.length_nil, Nat.reduceAdd, Nat.zero_add]; rfl) | rfl) (by first | (simp only [List.set_cons_zero, List.set_cons_succ]; rfl) | rfl) ?_
    refine wl_nil ?_
    refine fq_then ?_
    refine wc_seq ?_
    refine wc_seq ?_
    refine wc_region ?_
    refine wl_q (q_assign rfl rfl) rfl rfl (by decide) ?_
    refine wl_nil ?_
    refine fq_then ?_
    refine wc_block ?_
    have hB_ := hB
    refine wc_ground (fun w_3 Hn_ => ?_)
    have hx_ := Hn_.toBelow (by simp)
    have fb_b2 : Blk w_3 b2 _ _ := Hn_.get (i := 0) rfl
    have hh := hh.keep hx_
    have hl_ := hl_.below hx_
    have hJ_J0 := hJ_J0.below hx_
    have hB := hB.next hx_
    have hnb_b2 : w.heap.size ≤ b2 := Nat.le_trans hB_.size (Hn_.fresh (by simp)).1
    refine wc_loopV (n := w.heap.size) (ι := (Nat × World × Gh × Gh × Gh)) (fun ⟨z, W, x⟩ => [(0, .slice q.1 L.length q.2), (4, .pointer (some ⟨b2, 0, none⟩)), (5, .int .i64 (z : Nat))]) (fun ⟨z, W, x⟩ => W) (fun ⟨z, W, x⟩ => z ≤ L.length ∧ Below w.heap.size w_3 W ∧ Blk W b2 (Jn.cells (JJ L z) x.1 x.2.1 x.2.2) 38 ∧ Jn.ok W (JJ L z) x.1 x.2.1 x.2.2 ∧ JInv (JJ L z) z) (fun ⟨z, W, x⟩ => L.length - z) (0, w_3, (J0.1, J0.2, (none, 0))) rfl ⟨Nat.zero_le _, Below.refl _ _, fb_b2, hJ_J0, JInv.zero L⟩ (by simp) (List.forall_mem_cons.2 ⟨rfl, List.forall_mem_cons.2 ⟨rfl, List.forall_mem_cons.2 ⟨rfl, fun _ h => (by cases h)⟩⟩⟩) (fun i hi => hi.2.1) ?_
    rintro ⟨z, W, x⟩ ⟨hi, hbW, fb_b2, hJ, hI⟩
    have hB := hB.trans hbW
    have hl_ := hl_0.below hB
    have hh := hh0.keep hB
    have wi : IntKind.i64.wrap ((z : Int) + 1) = ((z + 1 : Nat) : Int) := wrap_nat (by omega)
    obtain ⟨k, hk | hk⟩ : ∃ k : Nat, z = 2 * k ∨ z = 2 * k + 1 := ⟨z / 2, by omega⟩
    · skip
      refine wc_seq ?_
      refine wc_seq ?_
      refine wc_region ?_
      refine wl_q (q_move rfl rfl) rfl rfl (by decide) ?_
      refine wl_q (q_move rfl rfl) rfl rfl (by decide) ?_
      refine wl_q (q_len rfl rfl Tryd.underlying79) rfl rfl (by decide) ?_
      refine wl_q (q_bin rfl rfl rfl rfl) rfl rfl (by decide) ?_
      refine wl_nil ?_
      refine fq_then ?_
      refine wc_cond rfl (fun h24 => ?_) (fun h24 => ?_)
      · skip
        have q24 := h24
        try simp only [decide_eq_true_eq, decide_eq_false_iff_not, beq_iff_eq, beq_eq_false_iff_ne, bne_iff_ne, ne_eq, bne_eq_false_iff_eq, Int.not_lt, Int.not_le] at q24
        obtain ⟨p, hp⟩ : ∃ p, L[z]? = some p := ⟨_, List.getElem?_eq_getElem (by omega)⟩
        obtain ⟨ad, g, hA, hra0, hg0⟩ := hl_0.at hp
        have hg := hg0.below hB
        have hra := hra0.below hB
        refine wc_skip ?_
        refine fq_then ?_
        refine wc_seq ?_
        refine wc_block ?_
        refine wc_seq ?_
        refine wc_region ?_
        refine wl_q (q_move rfl rfl) rfl rfl (by decide) ?_
        refine wl_q (q_move rfl rfl) rfl rfl (by decide) ?_
        refine wl_q (q_indexO rfl rfl hA rfl Tryd.underlying79 Sz32 (by omega) (by omega)) rfl rfl (by decide) ?_
        refine wl_q (q_loadA rfl rfl Mn32 Sz32 rfl (reads_old (by simp) hra)) rfl rfl (by decide) ?_
        refine wl_q (q_call rfl En22 rfl (fun w1 hw1 => few16_calls p.f0 p.f1 p.f2 g p.f3 w1 (hg.below (hw1.toBelow (by simp))))) rfl rfl (by decide) ?_
        refine wl_q (q_assign rfl rfl) rfl rfl (by decide) ?_
        refine wl_nil ?_
        refine fq_then ?_
        refine wc_seq ?_
        refine wc_seq ?_
        refine wc_region ?_
        refine wl_q (q_move rfl rfl) rfl rfl (by decide) ?_
        refine wl_q (q_not rfl rfl) rfl rfl (by decide) ?_
        refine wl_q (q_move rfl rfl) rfl rfl (by decide) ?_
        refine wl_split (t := 34) rfl (fun h34 => ?_) (fun h34 => ?_)
        · skip
          have q34 := h34
          try simp only [decide_eq_true_eq, decide_eq_false_iff_not, beq_iff_eq, beq_eq_false_iff_ne, bne_iff_ne, ne_eq, bne_eq_false_iff_eq, Int.not_lt, Int.not_le] at q34
          refine wl_skip (b := true) rfl rfl rfl rfl (by decide) ?_
          refine wl_skip (b := true) rfl rfl rfl rfl (by decide) ?_
          refine wl_skip (b := true) rfl rfl rfl rfl (by decide) ?_
          refine wl_skip (b := true) rfl rfl rfl rfl (by decide) ?_
          refine wl_skip (b := true) rfl rfl rfl rfl (by decide) ?_
          refine wl_skip (b := true) rfl rfl rfl rfl (by decide) ?_
          refine wl_q (q_pick rfl rfl rfl) rfl rfl (by decide) ?_
          refine wl_nil ?_
          refine fq_then ?_
          refine wc_true rfl ?_
          refine wc_seq ?_
          refine wc_region ?_
          refine wl_q (q_assign rfl rfl) rfl rfl (by decide) ?_
          refine wl_nil ?_
          refine fq_then ?_
          refine wc_ret ?_
          refine fq_then_ret ?_
          refine fq_block_ret ?_
          refine fq_then_ret ?_
          refine fq_then_ret ?_
          refine fq_block_ret ?_
          refine fq_then_ret ?_
          refine fq_ret1 rfl rfl (fun w1 H => ?_)
          exact ⟨rfl, (by first | exact hB.next (H.toBelow (by simp)) | exact H.toBelow (by simp))⟩
        · skip
          have q34 := h34
          try simp only [decide_eq_true_eq, decide_eq_false_iff_not, beq_iff_eq, beq_eq_false_iff_ne, bne_iff_ne, ne_eq, bne_eq_false_iff_eq, Int.not_lt, Int.not_le] at q34
          refine wl_want (b := false) (q_move rfl rfl) rfl rfl rfl rfl (by decide) ?_
          refine wl_want (b := false) (q_move rfl rfl) rfl rfl rfl rfl (by decide) ?_
          refine wl_want (b := false) (q_indexO rfl rfl hA rfl Tryd.underlying79 Sz32 (by omega) (by omega)) rfl rfl rfl rfl (by decide) ?_
          refine wl_want (b := false) (q_loadA rfl rfl Mn32 Sz32 rfl (reads_old (by simp) hra)) rfl rfl rfl rfl (by decide) ?_
          refine wl_want (b := false) (q_call rfl En35 rfl (fun w1 hw1 => CheckL p.f0 p.f1 p.f2 g p.f3 w1 (hg.below (hw1.toBelow (by simp))))) rfl rfl rfl rfl (by decide) ?_
          refine wl_want (b := false) (q_not rfl rfl) rfl rfl rfl rfl (by decide) ?_
          refine wl_q (q_pick rfl rfl rfl) rfl rfl (by decide) ?_
          refine wl_nil ?_
          refine fq_then ?_
          refine wc_cond rfl (fun h41 => ?_) (fun h41 => ?_)
          · skip
            have q41 := h41
            try simp only [decide_eq_true_eq, decide_eq_false_iff_not, beq_iff_eq, beq_eq_false_iff_ne, bne_iff_ne, ne_eq, bne_eq_false_iff_eq, Int.not_lt, Int.not_le] at q41
            refine wc_seq ?_
            refine wc_region ?_
            refine wl_q (q_assign rfl rfl) rfl rfl (by decide) ?_
            refine wl_nil ?_
            refine fq_then ?_
            refine wc_ret ?_
            refine fq_then_ret ?_
            refine fq_block_ret ?_
            refine fq_then_ret ?_
            refine fq_then_ret ?_
            refine fq_block_ret ?_
            refine fq_then_ret ?_
            refine fq_ret1 rfl rfl (fun w1 H => ?_)
            exact ⟨rfl, (by first | exact hB.next (H.toBelow (by simp)) | exact H.toBelow (by simp))⟩
          · skip
            have q41 := h41
            try simp only [decide_eq_true_eq, decide_eq_false_iff_not, beq_iff_eq, beq_eq_false_iff_ne, bne_iff_ne, ne_eq, bne_eq_false_iff_eq, Int.not_lt, Int.not_le] at q41
            have hlp : p.f3.length ≤ 80 := by simpa using h34
            have hmp := mayBe_of (show PChk.chkB p.f0 p.f1 p.f2 p.f3 = true by simpa using h41)
            have hlL : L.length ≤ 20 := by simp at h19; omega
            have hI2 := turn_step hI hmp hlp (by omega)
            rw [JJ_succ hp] at hI2
            have wi2 : IntKind.u64.wrap (IntKind.u64.wrap (z : Int) + 1) = ((z + 1 : Nat) : Int) := by (simp only [IntKind.wrap, IntKind.signed, IntKind.bits]; simp; omega)
            refine wc_skip ?_
            refine fq_then ?_
            refine wc_seq ?_
            refine wc_region ?_
            refine wl_q (q_loadA rfl rfl Mn38 Sz38 rfl (reads_blkA (by simp) fb_b2)) rfl rfl (by decide) ?_
            refine wl_callK (ι := (Nat × Gh × Gh)) (fun i => .slice (some ⟨i.1, 0, none⟩) 2 2) (fun i w w' => Blk w' i.1 [.slice i.2.1.1 ((JJ L z)).s0.length i.2.1.2, .slice i.2.2.1 ((JJ L z)).s1.length i.2.2.2] 22 ∧ RowC w' i.2.1 ((JJ L z)).s0 ∧ RowC w' i.2.2 ((JJ L z)).s1) rfl rfl rfl (by decide) En30 rfl (fun w1 hw1 => SlotsK ((JJ L z)) x.1 x.2.1 x.2.2 w1 (hJ.below (hw1.toBelow (by simp))) (Nat.lt_of_le_of_lt hI.b0.1 (by decide)) (Nat.lt_of_le_of_lt hI.b1.1 (by decide))) (fun was wa_ w_4 _ Hn_ _ hC_ => ?_)
            have hx_ := Hn_.toBelow (by simp)
            have hbW := hbW.nextV hB.size hx_
            have fb_b2 := fb_b2.below hx_
            have hJ := hJ.below hx_
            have hl_ := hl_.below hx_
            have hh := hh.keep hx_
            have hg := hg.below hx_
            have hra := hra.below hx_
            have hB := hB.next hx_
            obtain ⟨fb_was, hR0_was, hR1_was⟩ := hC_
            refine wl_q (q_assign rfl rfl) rfl rfl (by decide) ?_
            refine wl_nil ?_
            refine fq_then ?_
            refine wc_seq ?_
            refine wc_ground (fun w_5 Hn_ => ?_)
            have hx_ := Hn_.toBelow (by simp)
            have hbW := hbW.nextV hB.size hx_
            have fb_b2 := fb_b2.below hx_
            have hJ := hJ.below hx_
            have hl_ := hl_.below hx_
            have hh := hh.keep hx_
            have hg := hg.below hx_
            have hra := hra.below hx_
            have fb_was := fb_was.below hx_
            have hR0_was := hR0_was.below hx_
            have hR1_was := hR1_was.below hx_
            have hB := hB.next hx_
            haveI : Nonempty World := ⟨w_5⟩
            refine wc_any Fol (KD.any_drawK (ι := ((Gh × Gh × Gh) × World)) 6 0 [(5, fun X => [KD.oldK w_5 (Jn.ok (X 5).2 (JJ L (z + 1)) (X 5).1.1 (X 5).1.2.1 (X 5).1.2.2) (X 5).2])] [⟨[], [], []⟩, ⟨[], [], []⟩, ⟨[], [], []⟩, ⟨[], [], []⟩, ⟨[], [], []⟩, ⟨[], [], []⟩] (by kernel_rfl) (KD.tk_soft (fun p_ hp_ X => by (simp only [List.mem_cons, List.not_mem_nil, or_false] at hp_; rcases hp_ with rfl <;> rfl))) rfl (KD.ChainG.yield [] [] (fun X => q_loadA rfl rfl Mn38 Sz38 rfl (reads_blkA (by simp) fb_b2)) rfl rfl (fun _ => rfl) (fun _ _ => rfl) (fun X Y h0 h => ⟨by first | rfl | simp only [h0], rfl⟩) (KD.ChainG.yield [] [] (fun X => q_move rfl rfl) rfl rfl (fun _ => rfl) (fun _ _ => rfl) (fun X Y h0 h => ⟨by first | rfl | simp only [h0], rfl⟩) (KD.ChainG.yield [] [] (fun X => q_move rfl rfl) rfl rfl (fun _ => rfl) (fun _ _ => rfl) (fun X Y h0 h => ⟨by first | rfl | simp only [h0], rfl⟩) (KD.ChainG.yield [] [] (fun X => q_indexO rfl rfl hA rfl Tryd.underlying79 Sz32 (by omega) (by omega)) rfl rfl (fun _ => rfl) (fun _ _ => rfl) (fun X Y h0 h => ⟨by first | rfl | simp only [h0], rfl⟩) (KD.ChainG.yield [] [] (fun X => q_loadA rfl rfl Mn32 Sz32 rfl (reads_old (by simp) hra)) rfl rfl (fun _ => rfl) (fun _ _ => rfl) (fun X Y h0 h => ⟨by first | rfl | simp only [h0], rfl⟩) (KD.ChainG.kcall (β := (Gh × Gh × Gh)) (fun (b_ : (Gh × Gh × Gh)) => .agg (Jn.cells (JJ L (z + 1)) b_.1 b_.2.1 b_.2.2).toArray) (fun (b_ : (Gh × Gh × Gh)) w' => Jn.ok w' (JJ L (z + 1)) b_.1 b_.2.1 b_.2.2) [] (fun X => KD.oe_callK (v := fun (b_ : (Gh × Gh × Gh)) => .agg (Jn.cells (JJ L (z + 1)) b_.1 b_.2.1 b_.2.2).toArray) (C := fun (b_ : (Gh × Gh × Gh)) w' => Jn.ok w' (JJ L (z + 1)) b_.1 b_.2.1 b_.2.2) rfl En33 rfl rfl rfl (by simp) (fun R w1 hw1 => by (exact WriteE ((JJ L z)) x.1 x.2.1 x.2.2 p.f0 p.f1 p.f2 g p.f3 w1 (hJ.below (hw1.toBelow (by simp))) hI.b0 hI.b1 (hg.below (hw1.toBelow (by simp))) (by omega) (hh.keep (hw1.toBelow (by simp))) (JJ_succ hp)))) rfl rfl (fun _ => rfl) (KD.ChainG.nil _ _))))))) rfl rfl (fun X => [_, _]) (fun _ => rfl) (fun X => ?_))
            generalize X 5 = x_
            obtain ⟨JN, wk_5⟩ := x_
            dsimp only
            refine wl_ground (fun w_6 Hn_ => ?_)
            have hx_ := Hn_.toBelow (by simp)
            have hbW := hbW.nextV hB.size hx_
            have fb_b2 := fb_b2.below hx_
            have hJ := hJ.below hx_
            have hl_ := hl_.below hx_
            have hh := hh.keep hx_
            have hg := hg.below hx_
            have hra := hra.below hx_
            have fb_was := fb_was.below hx_
            have hR0_was := hR0_was.below hx_
            have hR1_was := hR1_was.below hx_
            have hB := hB.next hx_
            obtain ⟨hC_, hb_⟩ := KD.oldK.get Hn_ (i := 0) rfl
            have hJ_JN := hC_
            have hJ_JN := hJ_JN.below hb_
            refine wl_storeK fb_b2 rfl rfl rfl rfl rfl Sz38 rfl rfl (by first | (simp; done) | (simp [Value.oneCell', Jn.cells]; done)) (by simp [Value.oneCell', Jn.cells]) (by first | rfl | (simp only [List.take_succ_cons, List.take_zero, List.take_nil, List.drop_succ_cons, List.drop_zero, List.drop_nil, List.nil_append, List.cons_append, List.append_nil, List.length_cons, List.length_nil, Nat.reduceAdd, Nat.zero_add]; rfl)) (fun wa_7 w_8 Hn_ hu_ => ?_)
            have hx_ := Hn_.toBelow (by simp)
            have hbW := hbW.nextV hB.size hx_
            have fb_b2 := fb_b2.below hx_
            have hJ := hJ.below hx_
            have hl_ := hl_.below hx_
            have hh := hh.keep hx_
            have hg := hg.below hx_
            have hra := hra.below hx_
            have fb_was := fb_was.below hx_
            have hR0_was := hR0_was.below hx_
            have hR1_was := hR1_was.below hx_
            have hJ_JN := hJ_JN.below hx_
            have hB := hB.next hx_
            have hs_ := hB.size
            have hB := hB.trans (hu_.below hnb_b2 hs_)
            have hbW := hbW.trans (hu_.below hnb_b2 hs_)
            have fb_b2 := hu_.now
            have hJ := hJ.upd hu_ (cells_u8 _ _ _ _)
            have hl_ := hl_0.below hB
            have hh := hh0.keep hB
            have hg := hg0.below hB
            have hra := hra0.below hB
            have fb_was := hu_.blk fb_was (by decide)
            have hR0_was := hR0_was.upd hu_ (cells_u8 _ _ _ _)
            have hR1_was := hR1_was.upd hu_ (cells_u8 _ _ _ _)
            have hJ_JN := hJ_JN.upd hu_ (cells_u8 _ _ _ _)
            refine wl_nil ?_
            refine fq_then ?_
            refine wc_seq ?_
            refine wc_region ?_
            refine wl_q (q_loadA rfl rfl Mn38 Sz38 rfl (reads_blkA (by simp) fb_b2)) rfl rfl (by decide) ?_
            refine wl_callK (ι := (Nat × Gh × Gh)) (fun i => .slice (some ⟨i.1, 0, none⟩) 2 2) (fun i w w' => Blk w' i.1 [.slice i.2.1.1 ((JJ L (z + 1))).s0.length i.2.1.2, .slice i.2.2.1 ((JJ L (z + 1))).s1.length i.2.2.2] 22 ∧ RowC w' i.2.1 ((JJ L (z + 1))).s0 ∧ RowC w' i.2.2 ((JJ L (z + 1))).s1) rfl rfl rfl (by decide) En30 rfl (fun w1 hw1 => SlotsK ((JJ L (z + 1))) JN.1 JN.2.1 JN.2.2 w1 (hJ_JN.below (hw1.toBelow (by simp))) (Nat.lt_of_le_of_lt hI2.1.b0.1 (by decide)) (Nat.lt_of_le_of_lt hI2.1.b1.1 (by decide))) (fun now wa_ w_9 _ Hn_ _ hC_ => ?_)
            have hx_ := Hn_.toBelow (by simp)
            have hbW := hbW.nextV hB.size hx_
            have fb_b2 := fb_b2.below hx_
            have hJ := hJ.below hx_
            have hl_ := hl_.below hx_
            have hh := hh.keep hx_
            have hg := hg.below hx_
            have hra := hra.below hx_
            have fb_was := fb_was.below hx_
            have hR0_was := hR0_was.below hx_
            have hR1_was := hR1_was.below hx_
            have hJ_JN := hJ_JN.below hx_
            have hB := hB.next hx_
            obtain ⟨fb_now, hR0_now, hR1_now⟩ := hC_
            refine wl_q (q_assign rfl rfl) rfl rfl (by decide) ?_
            refine wl_nil ?_
            refine fq_then ?_
            refine wc_seq ?_
            refine wc_region ?_
            refine wl_q (q_loadA rfl rfl Mn38 Sz38 rfl (reads_blkA (by simp) fb_b2)) rfl rfl (by decide) ?_
            refine wl_callK (ι := Gh) (fun i => .tuple #[.agg #[.int .i64 p.f0, .int .i64 p.f1, .int .i64 0, .slice i.1 p.f3.length i.2], .int .u64 ((z + 1 : Nat) : Int), .bool (decide (0 < ((z + 1 : Nat) : Int)))]) (fun i w w' => RowP w' i p.f3) rfl rfl rfl (by decide) En28 rfl (fun w1 hw1 => LoadE (L := ⟨p.f0, p.f1, p.f3, ((z + 1 : Nat) : Int)⟩) ((JJ L (z + 1))) JN.1 JN.2.1 JN.2.2 w1 (hJ_JN.below (hw1.toBelow (by simp))) hI2.1.b0 hI2.1.b1 (hh.keep (hw1.toBelow (by simp))) hI2.2.1) (fun m wa_ w_10 _ Hn_ _ hC_ => ?_)
            have hx_ := Hn_.toBelow (by simp)
            have hbW := hbW.nextV hB.size hx_
            have fb_b2 := fb_b2.below hx_
            have hJ := hJ.below hx_
            have hl_ := hl_.below hx_
            have hh := hh.keep hx_
            have hg := hg.below hx_
            have hra := hra.below hx_
            have fb_was := fb_was.below hx_
            have hR0_was := hR0_was.below hx_
            have hR1_was := hR1_was.below hx_
            have hJ_JN := hJ_JN.below hx_
            have fb_now := fb_now.below hx_
            have hR0_now := hR0_now.below hx_
            have hR1_now := hR1_now.below hx_
            have hB := hB.next hx_
            have hP_m := hC_
            refine wl_q (q_move rfl rfl) rfl rfl (by decide) ?_
            refine wl_q (q_extract rfl rfl rfl) rfl rfl (by decide) ?_
            refine wl_q (q_extract rfl rfl rfl) rfl rfl (by decide) ?_
            refine wl_q (q_extract rfl rfl rfl) rfl rfl (by decide) ?_
            refine wl_alloc rfl rfl rfl (by decide) Zr32 (fun b11 => ?_)
            refine wl_store (i := 0) rfl rfl rfl rfl rfl rfl Sz32 rfl rfl (by simp) (by simp [Value.oneCell', Jn.cells]) (by first | (simp only [List.take_succ_cons, List.take_zero, List.take_nil, List.drop_succ_cons, List.drop_zero, List.drop_nil, List.nil_append, List.cons_append, List.append_nil, List.length_cons, List.length_nil, Nat.reduceAdd, Nat.zero_add]; rfl) | rfl) (by first | (simp only [List.set_cons_zero, List.set_cons_succ]; rfl) | rfl) ?_
            refine wl_q (q_assign rfl rfl) rfl rfl (by decide) ?_
            refine wl_q (q_assign rfl rfl) rfl rfl (by decide) ?_
            refine wl_nil ?_
            refine fq_then ?_
            refine wc_seq ?_
            refine wc_region ?_
            refine wl_q (q_move rfl rfl) rfl rfl (by decide) ?_
            refine wl_q (q_move rfl rfl) rfl rfl (by decide) ?_
            refine wl_q (q_indexO rfl rfl hA rfl Tryd.underlying79 Sz32 (by omega) (by omega)) rfl rfl (by decide) ?_
            refine wl_q (q_loadA rfl rfl Mn32 Sz32 rfl (reads_old (by simp) hra)) rfl rfl (by decide) ?_
            refine wl_callK (ι := Gh) (fun i => .agg #[.int .i64 p.f0, .int .i64 p.f1, .int .i64 p.f2, .slice i.1 p.f3.length i.2]) (fun i w w' => RowR w' i (p.f3.map to91)) rfl rfl rfl (by decide) En27 rfl (fun w1 hw1 => ofK16 p.f0 p.f1 p.f2 g p.f3 w1 (hg.below (hw1.toBelow (by simp))) (by omega)) (fun wt wa_ w_12 _ Hn_ _ hC_ => ?_)
            have hx_ := Hn_.toBelow (by simp)
            have fb_b11 : Blk w_12 b11 _ _ := Hn_.get (i := 0) rfl
            have hbW := hbW.nextV hB.size hx_
            have fb_b2 := fb_b2.below hx_
            have hJ := hJ.below hx_
            have hl_ := hl_.below hx_
            have hh := hh.keep hx_
            have hg := hg.below hx_
            have hra := hra.below hx_
            have fb_was := fb_was.below hx_
            have hR0_was := hR0_was.below hx_
            have hR1_was := hR1_was.below hx_
            have hJ_JN := hJ_JN.below hx_
            have fb_now := fb_now.below hx_
            have hR0_now := hR0_now.below hx_
            have hR1_now := hR1_now.below hx_
            have hP_m := hP_m.below hx_
            have hB := hB.next hx_
            have hQ_wt := hC_
            refine wl_alloc rfl rfl rfl (by decide) Zr42 (fun b13 => ?_)
            refine wl_store (i := 0) rfl rfl rfl rfl rfl rfl Sz42 rfl rfl (by simp) (by simp [Value.oneCell', Jn.cells]) (by first | (simp only [List.take_succ_cons, List.take_zero, List.take_nil, List.drop_succ_cons, List.drop_zero, List.drop_nil, List.nil_append, List.cons_append, List.append_nil, List.length_cons, List.length_nil, Nat.reduceAdd, Nat.zero_add]; rfl) | rfl) (by first | (simp only [List.set_cons_zero, List.set_cons_succ]; rfl) | rfl) ?_
            refine wl_nil ?_
            refine fq_then ?_
            refine wc_seq ?_
            refine wc_region ?_
            refine wl_q (q_fa (o1 := 2) rfl rfl Fo42_2 rfl) rfl rfl (by decide) ?_
            refine wl_store (i := 0) rfl rfl rfl rfl rfl rfl Sz3 rfl rfl (by simp) (by simp [Value.oneCell', Jn.cells]) (by first | (simp only [List.take_succ_cons, List.take_zero, List.take_nil, List.drop_succ_cons, List.drop_zero, List.drop_nil, List.nil_append, List.cons_append, List.append_nil, List.length_cons, List.length_nil, Nat.reduceAdd, Nat.zero_add]; rfl) | rfl) (by first | (simp only [List.set_cons_zero, List.set_cons_succ]; rfl) | rfl) ?_
            refine wl_nil ?_
            refine fq_then ?_
            refine wc_seq ?_
            refine wc_seq ?_
            refine wc_any Fol (any_drawG (ι := Gh) 26 0 [(11, fun X => [Sx.Item.own 0 91 2 (.slice (X 11).1 p.f3.length (X 11).2) p.f3.length ((p.f3.map to91).flatMap pc91)]), (13, fun X => [Sx.Item.own 0 91 2 (.slice (X 11).1 p.f3.length (X 11).2) p.f3.length ((p.f3.map to91).flatMap pc91)])] [⟨[], [], []⟩, ⟨[], [], []⟩, ⟨[], [], []⟩, ⟨[], [], []⟩, ⟨[], [], []⟩, ⟨[], [], []⟩, ⟨[], [], []⟩, ⟨[], [], []⟩, ⟨[], [], []⟩, ⟨[], [], []⟩, ⟨[], [], []⟩, ⟨[], [], []⟩, ⟨[], [], []⟩, ⟨[11], [], [11]⟩, ⟨[], [], [11, 13]⟩, ⟨[], [], [11, 13]⟩, ⟨[], [], [11, 13]⟩, ⟨[], [], [11, 13]⟩, ⟨[], [13], [11, 13]⟩, ⟨[], [], [11, 13]⟩, ⟨[], [], [11, 13]⟩, ⟨[], [], [11, 13]⟩, ⟨[], [], [11, 13]⟩, ⟨[], [13], [11, 13]⟩, ⟨[], [], [11, 13]⟩, ⟨[], [], [11, 13]⟩] (by kernel_rfl) (ChainG.yield [] [] (fun X => q_move rfl rfl) rfl rfl (fun _ => rfl) (fun _ _ => rfl) (fun X Y h0 h => ⟨by first | rfl | simp only [h0], by first | rfl | simp only [h0]⟩) (ChainG.yield [] [] (fun X => OpQ.to (q_not rfl rfl) (congrArg Value.bool (by rw [decide_eq_true (show (0 : Int) < ((z + 1 : Nat) : Int) by omega)]; rfl))) rfl rfl (fun _ => rfl) (fun _ _ => rfl) (fun X Y h0 h => ⟨by first | rfl | simp only [h0], by first | rfl | simp only [h0]⟩) (ChainG.yield [] [] (fun X => q_move rfl rfl) rfl rfl (fun _ => rfl) (fun _ _ => rfl) (fun X Y h0 h => ⟨by first | rfl | simp only [h0], by first | rfl | simp only [h0]⟩) (ChainG.wantq (b := false) [] [] (fun X => q_move rfl rfl) rfl rfl (fun _ => rfl) rfl (fun _ => rfl) (fun _ _ => rfl) (fun X Y h0 h => ⟨by first | rfl | simp only [h0], by first | rfl | simp only [h0]⟩) (ChainG.wantq (b := false) [] [] (fun X => q_move rfl rfl) rfl rfl (fun _ => rfl) rfl (fun _ => rfl) (fun _ _ => rfl) (fun X Y h0 h => ⟨by first | rfl | simp only [h0], by first | rfl | simp only [h0]⟩) (ChainG.wantq (b := false) [] [] (fun X => q_conv rfl rfl Tryd.underlying3 Tryd.underlying53) rfl rfl (fun _ => rfl) rfl (fun _ => rfl) (fun _ _ => rfl) (fun X Y h0 h => ⟨by first | rfl | simp only [h0], by first | rfl | simp only [h0]⟩) (ChainG.wantq (b := false) [] [] (fun X => q_bin rfl rfl rfl rfl) rfl rfl (fun _ => rfl) rfl (fun _ => rfl) (fun _ _ => rfl) (fun X Y h0 h => ⟨by first | rfl | simp only [h0], by first | rfl | simp only [h0]⟩) (ChainG.wantq (b := false) [] [] (fun X => OpQ.to (q_bin rfl rfl rfl rfl) (congrArg Value.bool (by rw [wi2]; simp))) rfl rfl (fun _ => rfl) rfl (fun _ => rfl) (fun _ _ => rfl) (fun X Y h0 h => ⟨by first | rfl | simp only [h0], by first | rfl | simp only [h0]⟩) (ChainG.yield [] [] (fun X => q_pick rfl rfl rfl) rfl rfl (fun _ => rfl) (fun _ _ => rfl) (fun X Y h0 h => ⟨by first | rfl | simp only [h0], by first | rfl | simp only [h0]⟩) (ChainG.yield [] [] (fun X => q_move rfl rfl) rfl rfl (fun _ => rfl) (fun _ _ => rfl) (fun X Y h0 h => ⟨by first | rfl | simp only [h0], by first | rfl | simp only [h0]⟩) (ChainG.wantq (b := false) [] [] (fun X => q_loadA rfl rfl Mn32 Sz32 rfl (reads_blkA (by simp) fb_b11)) rfl rfl (fun _ => rfl) rfl (fun _ => rfl) (fun _ _ => rfl) (fun X Y h0 h => ⟨by first | rfl | simp only [h0], by first | rfl | simp only [h0]⟩) (ChainG.opew (b := false) (fun (X : Nat → Gh) => .agg #[.int .i64 p.f0, .int .i64 p.f1, .int .i64 0, .slice (X 11).1 p.f3.length (X 11).2]) [] [] (fun X => oe_call rfl En27 rfl (fun R w1 hw1 => (of16_calls p.f0 p.f1 0 m p.f3 w1 (hP_m.below (hw1.toBelow (by simp))) (by omega)).mono (fun e w' ⟨i, h1, h2⟩ => ⟨i, h1, hw1.lift1 h2⟩))) rfl rfl (fun _ => rfl) rfl (fun X Y h0 h => ⟨by first | rfl | (show (.agg #[.int .i64 p.f0, .int .i64 p.f1, .int .i64 0, .slice (X 11).1 p.f3.length (X 11).2] : Value) = .agg #[.int .i64 p.f0, .int .i64 p.f1, .int .i64 0, .slice (Y 11).1 p.f3.length (Y 11).2]; simp only [h0]), by first | rfl | (show ([Sx.Item.own 0 91 2 (.slice (X 11).1 p.f3.length (X 11).2) p.f3.length ((p.f3.map to91).flatMap pc91)] : List Sx.Item) = [Sx.Item.own 0 91 2 (.slice (Y 11).1 p.f3.length (Y 11).2) p.f3.length ((p.f3.map to91).flatMap pc91)]; simp only [h0])⟩) (ChainG.wantq (b := false) [] [] (fun X => q_loadA rfl rfl Mn42 Sz42 rfl (readsAll (i := 0) rfl)) rfl rfl (fun _ => rfl) rfl (fun _ => rfl) (fun _ _ => rfl) (fun X Y h0 h => ⟨by first | rfl | simp only [h0], by first | rfl | simp only [h0]⟩) (ChainG.opew (b := false) (fun (X : Nat → Gh) => .bool true) [11] [11] (fun X => oe_call rfl En18 rfl (fun R w1 hw1 => (same_of p.f0 p.f1 0 (X 11) wt p.f3 w1 (hw1.get (i := 0) rfl) (hQ_wt.below (hw1.toBelow (by simp))) (by omega)).mono (fun e w' ⟨h1, h2⟩ => ⟨(none, 0), h1, hw1.below h2⟩))) rfl rfl (fun _ => rfl) rfl (fun X Y h0 h => ⟨by first | rfl | (show (.bool true : Value) = .bool true; simp only [h0, h 11 (by decide)]), by first | rfl | (show ([Sx.Item.own 0 91 2 (.slice (X 11).1 p.f3.length (X 11).2) p.f3.length ((p.f3.map to91).flatMap pc91)] : List Sx.Item) = [Sx.Item.own 0 91 2 (.slice (Y 11).1 p.f3.length (Y 11).2) p.f3.length ((p.f3.map to91).flatMap pc91)]; simp only [h0, h 11 (by decide)])⟩) (ChainG.wantq (b := false) [] [11, 13] (fun X => q_not rfl rfl) rfl rfl (fun _ => rfl) rfl (fun _ => rfl) (fun _ _ => rfl) (fun X Y h0 h => ⟨by first | rfl | simp only [h0, h 11 (by decide), h 13 (by decide)], by first | rfl | simp only [h0, h 11 (by decide), h 13 (by decide)]⟩) (ChainG.yield [] [11, 13] (fun X => q_pick rfl rfl rfl) rfl rfl (fun _ => rfl) (fun _ _ => rfl) (fun X Y h0 h => ⟨by first | rfl | simp only [h0, h 11 (by decide), h 13 (by decide)], by first | rfl | simp only [h0, h 11 (by decide), h 13 (by decide)]⟩) (ChainG.yield [] [11, 13] (fun X => q_move rfl rfl) rfl rfl (fun _ => rfl) (fun _ _ => rfl) (fun X Y h0 h => ⟨by first | rfl | simp only [h0, h 11 (by decide), h 13 (by decide)], by first | rfl | simp only [h0, h 11 (by decide), h 13 (by decide)]⟩) (ChainG.wantq (b := false) [] [11, 13] (fun X => q_move rfl rfl) rfl rfl (fun _ => rfl) rfl (fun _ => rfl) (fun _ _ => rfl) (fun X Y h0 h => ⟨by first | rfl | simp only [h0, h 11 (by decide), h 13 (by decide)], by first | rfl | simp only [h0, h 11 (by decide), h 13 (by decide)]⟩) (ChainG.wantq (b := false) [13] [11, 13] (fun X => q_len rfl rfl Tryd.underlying68) rfl rfl (fun _ => rfl) rfl (fun _ => rfl) (fun _ _ => rfl) (fun X Y h0 h => ⟨by first | rfl | simp only [h0, h 11 (by decide), h 13 (by decide)], by first | rfl | simp only [h0, h 11 (by decide), h 13 (by decide)]⟩) (ChainG.wantq (b := false) [] [11, 13] (fun X => OpQ.to (q_bin rfl rfl rfl rfl) (congrArg Value.bool (by rfl))) rfl rfl (fun _ => rfl) rfl (fun _ => rfl) (fun _ _ => rfl) (fun X Y h0 h => ⟨by first | rfl | simp only [h0, h 11 (by decide), h 13 (by decide)], by first | rfl | simp only [h0, h 11 (by decide), h 13 (by decide)]⟩) (ChainG.yield [] [11, 13] (fun X => q_pick rfl rfl rfl) rfl rfl (fun _ => rfl) (fun _ _ => rfl) (fun X Y h0 h => ⟨by first | rfl | simp only [h0, h 11 (by decide), h 13 (by decide)], by first | rfl | simp only [h0, h 11 (by decide), h 13 (by decide)]⟩) (ChainG.yield [] [11, 13] (fun X => q_move rfl rfl) rfl rfl (fun _ => rfl) (fun _ _ => rfl) (fun X Y h0 h => ⟨by first | rfl | simp only [h0, h 11 (by decide), h 13 (by decide)], by first | rfl | simp only [h0, h 11 (by decide), h 13 (by decide)]⟩) (ChainG.wantq (b := false) [] [11, 13] (fun X => q_move rfl rfl) rfl rfl (fun _ => rfl) rfl (fun _ => rfl) (fun _ _ => rfl) (fun X Y h0 h => ⟨by first | rfl | simp only [h0, h 11 (by decide), h 13 (by decide)], by first | rfl | simp only [h0, h 11 (by decide), h 13 (by decide)]⟩) (ChainG.wantq (b := false) [13] [11, 13] (fun X => q_len rfl rfl Tryd.underlying68) rfl rfl (fun _ => rfl) rfl (fun _ => rfl) (fun _ _ => rfl) (fun X Y h0 h => ⟨by first | rfl | simp only [h0, h 11 (by decide), h 13 (by decide)], by first | rfl | simp only [h0, h 11 (by decide), h 13 (by decide)]⟩) (ChainG.wantq (b := false) [] [11, 13] (fun X => OpQ.to (q_bin rfl rfl rfl rfl) (congrArg Value.bool (by rfl))) rfl rfl (fun _ => rfl) rfl (fun _ => rfl) (fun _ _ => rfl) (fun X Y h0 h => ⟨by first | rfl | simp only [h0, h 11 (by decide), h 13 (by decide)], by first | rfl | simp only [h0, h 11 (by decide), h 13 (by decide)]⟩) (ChainG.yield [] [11, 13] (fun X => q_pick rfl rfl rfl) rfl rfl (fun _ => rfl) (fun _ _ => rfl) (fun X Y h0 h => ⟨by first | rfl | simp only [h0, h 11 (by decide), h 13 (by decide)], by first | rfl | simp only [h0, h 11 (by decide), h 13 (by decide)]⟩) (ChainG.nil _ _))))))))))))))))))))))))))) rfl rfl (fun X => [_, _, _]) (fun _ => rfl) (fun X => ?_))
            generalize X 11 = og11
            refine wl_nil ?_
            refine fq_then ?_
            refine wc_false rfl ?_
            refine wc_skip ?_
            refine fq_then ?_
            refine wc_seq ?_
            refine wc_region ?_
            refine wl_q (q_move rfl rfl) rfl rfl (by decide) ?_
            refine wl_q (q_bin rfl rfl rfl rfl) rfl rfl (by decide) ?_
            refine wl_q (OpQ.to (q_rem rfl rfl rfl (by decide)) (show Value.int .i64 (Int.tmod (IntKind.i64.wrap ((z : Int) + 1)) 2) = .int .i64 1 by rw [wi, tm2]; congr 1; omega)) rfl rfl (by decide) ?_
            refine wl_q (q_assign rfl rfl) rfl rfl (by decide) ?_
            refine wl_nil ?_
            refine fq_then ?_
            refine wc_seq ?_
            refine wc_any Fol (any_drawG (ι := Gh) 28 0 [(24, fun X => [Sx.Item.own 0 5 1 (.slice (X 24).1 (jput p.f0 p.f1 p.f3 ((z + 1 : Nat) : Int)).length (X 24).2) (jput p.f0 p.f1 p.f3 ((z + 1 : Nat) : Int)).length (nums .u8 (jput p.f0 p.f1 p.f3 ((z + 1 : Nat) : Int)))])] [⟨[], [], []⟩, ⟨[], [], []⟩, ⟨[], [], []⟩, ⟨[], [], []⟩, ⟨[], [], []⟩, ⟨[], [], []⟩, ⟨[], [], []⟩, ⟨[], [], []⟩, ⟨[], [], []⟩, ⟨[], [], []⟩, ⟨[], [], []⟩, ⟨[], [], []⟩, ⟨[], [], []⟩, ⟨[], [], []⟩, ⟨[], [], []⟩, ⟨[], [], []⟩, ⟨[], [], []⟩, ⟨[], [], []⟩, ⟨[], [], []⟩, ⟨[], [], []⟩, ⟨[], [], []⟩, ⟨[], [], []⟩, ⟨[], [], []⟩, ⟨[], [], []⟩, ⟨[], [], []⟩, ⟨[], [24], [24]⟩, ⟨[], [], [24]⟩, ⟨[], [], [24]⟩] (by kernel_rfl) (ChainG.yield [] [] (fun X => q_move rfl rfl) rfl rfl (fun _ => rfl) (fun _ _ => rfl) (fun X Y h0 h => ⟨by first | rfl | simp only [h0], by first | rfl | simp only [h0]⟩) (ChainG.yield [] [] (fun X => q_move rfl rfl) rfl rfl (fun _ => rfl) (fun _ _ => rfl) (fun X Y h0 h => ⟨by first | rfl | simp only [h0], by first | rfl | simp only [h0]⟩) (ChainG.yield [] [] (fun X => OpQ.to (q_bin rfl rfl rfl rfl) (show Value.int .i64 (IntKind.i64.wrap (1 - 1)) = .int .i64 0 by rfl)) rfl rfl (fun _ => rfl) (fun _ _ => rfl) (fun X Y h0 h => ⟨by first | rfl | simp only [h0], by first | rfl | simp only [h0]⟩) (ChainG.yield [] [] (fun X => q_indexS (off := 0) rfl rfl rfl Tryd.underlying68 Sz22 (by decide) (by decide) rfl) rfl rfl (fun _ => rfl) (fun _ _ => rfl) (fun X Y h0 h => ⟨by first | rfl | simp only [h0], by first | rfl | simp only [h0]⟩) (ChainG.yield [] [] (fun X => q_load rfl rfl Mn22 (reads_blk (by simp) fb_now rfl)) rfl rfl (fun _ => rfl) (fun _ _ => rfl) (fun X Y h0 h => ⟨by first | rfl | simp only [h0], by first | rfl | simp only [h0]⟩) (ChainG.yield [] [] (fun X => q_bytesStr rfl rfl Tryd.underlying22 Tryd.underlying5 Tryd.underlying9 (fun w1 hw1 => (hR0_now.below (hw1.toBelow (by simp))).2)) rfl rfl (fun _ => rfl) (fun _ _ => rfl) (fun X Y h0 h => ⟨by first | rfl | simp only [h0], by first | rfl | simp only [h0]⟩) (ChainG.yield [] [] (fun X => q_move rfl rfl) rfl rfl (fun _ => rfl) (fun _ _ => rfl) (fun X Y h0 h => ⟨by first | rfl | simp only [h0], by first | rfl | simp only [h0]⟩) (ChainG.yield [] [] (fun X => q_move rfl rfl) rfl rfl (fun _ => rfl) (fun _ _ => rfl) (fun X Y h0 h => ⟨by first | rfl | simp only [h0], by first | rfl | simp only [h0]⟩) (ChainG.yield [] [] (fun X => OpQ.to (q_bin rfl rfl rfl rfl) (show Value.int .i64 (IntKind.i64.wrap (1 - 1)) = .int .i64 0 by rfl)) rfl rfl (fun _ => rfl) (fun _ _ => rfl) (fun X Y h0 h => ⟨by first | rfl | simp only [h0], by first | rfl | simp only [h0]⟩) (ChainG.yield [] [] (fun X => q_indexS (off := 0) rfl rfl rfl Tryd.underlying68 Sz22 (by decide) (by decide) rfl) rfl rfl (fun _ => rfl) (fun _ _ => rfl) (fun X Y h0 h => ⟨by first | rfl | simp only [h0], by first | rfl | simp only [h0]⟩) (ChainG.yield [] [] (fun X => q_load rfl rfl Mn22 (reads_blk (by simp) fb_was rfl)) rfl rfl (fun _ => rfl) (fun _ _ => rfl) (fun X Y h0 h => ⟨by first | rfl | simp only [h0], by first | rfl | simp only [h0]⟩) (ChainG.yield [] [] (fun X => q_bytesStr rfl rfl Tryd.underlying22 Tryd.underlying5 Tryd.underlying9 (fun w1 hw1 => (hR0_was.below (hw1.toBelow (by simp))).2)) rfl rfl (fun _ => rfl) (fun _ _ => rfl) (fun X Y h0 h => ⟨by first | rfl | simp only [h0], by first | rfl | simp only [h0]⟩) (ChainG.yield [] [] (fun X => q_eqlStr (c := false) rfl (.inr ⟨rfl, by rw [show (JJ L (z + 1)).s0 = (JJ L z).s0 by rw [hI2.2.2.1 _ hk]]; simp⟩) rfl rfl (fun w => rfl)) rfl rfl (fun _ => rfl) (fun _ _ => rfl) (fun X Y h0 h => ⟨by first | rfl | simp only [h0], by first | rfl | simp only [h0]⟩) (ChainG.yield [] [] (fun X => q_move rfl rfl) rfl rfl (fun _ => rfl) (fun _ _ => rfl) (fun X Y h0 h => ⟨by first | rfl | simp only [h0], by first | rfl | simp only [h0]⟩) (ChainG.wantq (b := false) [] [] (fun X => q_move rfl rfl) rfl rfl (fun _ => rfl) rfl (fun _ => rfl) (fun _ _ => rfl) (fun X Y h0 h => ⟨by first | rfl | simp only [h0], by first | rfl | simp only [h0]⟩) (ChainG.wantq (b := false) [] [] (fun X => q_move rfl rfl) rfl rfl (fun _ => rfl) rfl (fun _ => rfl) (fun _ _ => rfl) (fun X Y h0 h => ⟨by first | rfl | simp only [h0], by first | rfl | simp only [h0]⟩) (ChainG.wantq (b := false) [] [] (fun X => q_indexS (off := 1) rfl rfl rfl Tryd.underlying68 Sz22 (by decide) (by decide) rfl) rfl rfl (fun _ => rfl) rfl (fun _ => rfl) (fun _ _ => rfl) (fun X Y h0 h => ⟨by first | rfl | simp only [h0], by first | rfl | simp only [h0]⟩) (ChainG.wantq (b := false) [] [] (fun X => q_load rfl rfl Mn22 (reads_blk (by simp) fb_now rfl)) rfl rfl (fun _ => rfl) rfl (fun _ => rfl) (fun _ _ => rfl) (fun X Y h0 h => ⟨by first | rfl | simp only [h0], by first | rfl | simp only [h0]⟩) (ChainG.wantq (b := false) [] [] (fun X => q_bytesStr rfl rfl Tryd.underlying22 Tryd.underlying5 Tryd.underlying9 (fun w1 hw1 => (hR1_now.below (hw1.toBelow (by simp))).2)) rfl rfl (fun _ => rfl) rfl (fun _ => rfl) (fun _ _ => rfl) (fun X Y h0 h => ⟨by first | rfl | simp only [h0], by first | rfl | simp only [h0]⟩) (ChainG.wantq (b := false) [] [] (fun X => q_move rfl rfl) rfl rfl (fun _ => rfl) rfl (fun _ => rfl) (fun _ _ => rfl) (fun X Y h0 h => ⟨by first | rfl | simp only [h0], by first | rfl | simp only [h0]⟩) (ChainG.wantq (b := false) [] [] (fun X => q_move rfl rfl) rfl rfl (fun _ => rfl) rfl (fun _ => rfl) (fun _ _ => rfl) (fun X Y h0 h => ⟨by first | rfl | simp only [h0], by first | rfl | simp only [h0]⟩) (ChainG.wantq (b := false) [] [] (fun X => q_indexO rfl rfl hA rfl Tryd.underlying79 Sz32 (by omega) (by omega)) rfl rfl (fun _ => rfl) rfl (fun _ => rfl) (fun _ _ => rfl) (fun X Y h0 h => ⟨by first | rfl | simp only [h0], by first | rfl | simp only [h0]⟩) (ChainG.wantq (b := false) [] [] (fun X => q_loadA rfl rfl Mn32 Sz32 rfl (reads_old (by simp) hra)) rfl rfl (fun _ => rfl) rfl (fun _ => rfl) (fun _ _ => rfl) (fun X Y h0 h => ⟨by first | rfl | simp only [h0], by first | rfl | simp only [h0]⟩) (ChainG.wantq (b := false) [] [] (fun X => q_move rfl rfl) rfl rfl (fun _ => rfl) rfl (fun _ => rfl) (fun _ _ => rfl) (fun X Y h0 h => ⟨by first | rfl | simp only [h0], by first | rfl | simp only [h0]⟩) (ChainG.opew (b := false) (fun (X : Nat → Gh) => .slice (X 24).1 (jput p.f0 p.f1 p.f3 ((z + 1 : Nat) : Int)).length (X 24).2) [] [] (fun X => oe_call rfl En25 rfl (fun R w1 hw1 => (Put_calls p.f0 p.f1 p.f2 ((z + 1 : Nat) : Int) g.1 g.2 p.f3 w1 (hg.below (hw1.toBelow (by simp))).2 hg.1 (by omega) (hh.keep (hw1.toBelow (by simp)))).mono (fun e w' ⟨i, h1, h2⟩ => ⟨i, h1, hw1.lift1 h2⟩))) rfl rfl (fun _ => rfl) rfl (fun X Y h0 h => ⟨by first | rfl | (show (.slice (X 24).1 (jput p.f0 p.f1 p.f3 ((z + 1 : Nat) : Int)).length (X 24).2 : Value) = .slice (Y 24).1 (jput p.f0 p.f1 p.f3 ((z + 1 : Nat) : Int)).length (Y 24).2; simp only [h0]), by first | rfl | (show ([Sx.Item.own 0 5 1 (.slice (X 24).1 (jput p.f0 p.f1 p.f3 ((z + 1 : Nat) : Int)).length (X 24).2) (jput p.f0 p.f1 p.f3 ((z + 1 : Nat) : Int)).length (nums .u8 (jput p.f0 p.f1 p.f3 ((z + 1 : Nat) : Int)))] : List Sx.Item) = [Sx.Item.own 0 5 1 (.slice (Y 24).1 (jput p.f0 p.f1 p.f3 ((z + 1 : Nat) : Int)).length (Y 24).2) (jput p.f0 p.f1 p.f3 ((z + 1 : Nat) : Int)).length (nums .u8 (jput p.f0 p.f1 p.f3 ((z + 1 : Nat) : Int)))]; simp only [h0])⟩) (ChainG.wantq (b := false) [24] [24] (fun X => q_bytesStr rfl rfl Tryd.underlying22 Tryd.underlying5 Tryd.underlying9 (fun w1 hw1 => (rowC_of_own (hw1.get (i := 0) rfl) rfl (jput_small (by omega))).2)) rfl rfl (fun _ => rfl) rfl (fun _ => rfl) (fun _ _ => rfl) (fun X Y h0 h => ⟨by first | rfl | simp only [h0, h 24 (by decide)], by first | rfl | simp only [h0, h 24 (by decide)]⟩) (ChainG.wantq (b := false) [] [24] (fun X => q_eqlStr (c := false) rfl (.inr ⟨rfl, by rw [show (JJ L (z + 1)).s1 = (jput p.f0 p.f1 p.f3 ((z + 1 : Nat) : Int)) by rw [hI2.2.2.1 _ hk]]; simp⟩) rfl rfl (fun w => rfl)) rfl rfl (fun _ => rfl) rfl (fun _ => rfl) (fun _ _ => rfl) (fun X Y h0 h => ⟨by first | rfl | simp only [h0, h 24 (by decide)], by first | rfl | simp only [h0, h 24 (by decide)]⟩) (ChainG.yield [] [24] (fun X => q_pick rfl rfl rfl) rfl rfl (fun _ => rfl) (fun _ _ => rfl) (fun X Y h0 h => ⟨by first | rfl | simp only [h0, h 24 (by decide)], by first | rfl | simp only [h0, h 24 (by decide)]⟩) (ChainG.nil _ _))))))))))))))))))))))))))))) rfl rfl (fun X => [_, _, _, _]) (fun _ => rfl) (fun X => ?_))
            generalize X 24 = pu24
            refine wl_nil ?_
            refine fq_then ?_
            refine wc_false rfl ?_
            refine wc_skip ?_
            refine fq_block ?_
            refine fq_then ?_
            refine wc_region ?_
            refine wl_q (q_move rfl rfl) rfl rfl (by decide) ?_
            refine wl_q (q_bin rfl rfl rfl rfl) rfl rfl (by decide) ?_
            refine wl_q (q_assign rfl rfl) rfl rfl (by decide) ?_
            refine wl_nil ?_
            refine fq_ground (fun w_14 Hn_ => ?_)
            have hx_ := Hn_.toBelow (by simp)
            have fb_b13 : Blk w_14 b13 _ _ := Hn_.get (i := 2) rfl
            have hbW := hbW.nextV hB.size hx_
            have fb_b2 := fb_b2.below hx_
            have hJ := hJ.below hx_
            have hl_ := hl_.below hx_
            have hh := hh.keep hx_
            have hg := hg.below hx_
            have hra := hra.below hx_
            have fb_was := fb_was.below hx_
            have hR0_was := hR0_was.below hx_
            have hR1_was := hR1_was.below hx_
            have hJ_JN := hJ_JN.below hx_
            have fb_now := fb_now.below hx_
            have hR0_now := hR0_now.below hx_
            have hR1_now := hR1_now.below hx_
            have hP_m := hP_m.below hx_
            have fb_b11 := fb_b11.below hx_
            have hQ_wt := hQ_wt.below hx_
            have hB := hB.next hx_
            exact fq_nextV (z + 1, w_14, JN) hbW rfl (by simp) ⟨by omega, hbW, fb_b2, hJ_JN, hI2.1⟩ (show L.length - (z + 1) < L.length - z by omega) (List.forall_mem_cons.2 ⟨rfl, List.forall_mem_cons.2 ⟨rfl, List.forall_mem_cons.2 ⟨(show some (Value.int .i64 (IntKind.i64.wrap ((z : Int) + 1))) = some (Value.int .i64 ((z + 1 : Nat) : Int)) from by rw [wi]), fun _ h => (by cases h)⟩⟩⟩)
      · skip
        have q24 := h24
        try simp only [decide_eq_true_eq, decide_eq_false_iff_not, beq_iff_eq, beq_eq_false_iff_ne, bne_iff_ne, ne_eq, bne_eq_false_iff_eq, Int.not_lt, Int.not_le] at q24
        refine wc_exit ?_
        refine fq_then_exit ?_
        refine fq_then_exit ?_
        refine fq_block_hit ?_
        refine fq_then ?_
        refine wc_seq ?_
        refine wc_region ?_
        refine wl_q (q_assign rfl rfl) rfl rfl (by decide) ?_
        refine wl_nil ?_
        refine fq_then ?_
        refine wc_ret ?_
        refine fq_ret1 rfl rfl (fun w1 H => ?_)
        exact ⟨rfl, (by first | exact hB.next (H.toBelow (by simp)) | exact H.toBelow (by simp))⟩
    · skip
      refine wc_seq ?_
      refine wc_seq ?_
      refine wc_region ?_
      refine wl_q (q_move rfl rfl) rfl rfl (by decide) ?_
      refine wl_q (q_move rfl rfl) rfl rfl (by decide) ?_
      refine wl_q (q_len rfl rfl Tryd.underlying79) rfl rfl (by decide) ?_
      refine wl_q (q_bin rfl rfl rfl rfl) rfl rfl (by decide) ?_
      refine wl_nil ?_
      refine fq_then ?_
      refine wc_cond rfl (fun h24 => ?_) (fun h24 => ?_)
      · skip
        have q24 := h24
        try simp only [decide_eq_true_eq, decide_eq_false_iff_not, beq_iff_eq, beq_eq_false_iff_ne, bne_iff_ne, ne_eq, bne_eq_false_iff_eq, Int.not_lt, Int.not_le] at q24
        obtain ⟨p, hp⟩ : ∃ p, L[z]? = some p := ⟨_, List.getElem?_eq_getElem (by omega)⟩
        obtain ⟨ad, g, hA, hra0, hg0⟩ := hl_0.at hp
        have hg := hg0.below hB
        have hra := hra0.below hB
        refine wc_skip ?_
        refine fq_then ?_
        refine wc_seq ?_
        refine wc_block ?_
        refine wc_seq ?_
        refine wc_region ?_
        refine wl_q (q_move rfl rfl) rfl rfl (by decide) ?_
        refine wl_q (q_move rfl rfl) rfl rfl (by decide) ?_
        refine wl_q (q_indexO rfl rfl hA rfl Tryd.underlying79 Sz32 (by omega) (by omega)) rfl rfl (by decide) ?_
        refine wl_q (q_loadA rfl rfl Mn32 Sz32 rfl (reads_old (by simp) hra)) rfl rfl (by decide) ?_
        refine wl_q (q_call rfl En22 rfl (fun w1 hw1 => few16_calls p.f0 p.f1 p.f2 g p.f3 w1 (hg.below (hw1.toBelow (by simp))))) rfl rfl (by decide) ?_
        refine wl_q (q_assign rfl rfl) rfl rfl (by decide) ?_
        refine wl_nil ?_
        refine fq_then ?_
        refine wc_seq ?_
        refine wc_seq ?_
        refine wc_region ?_
        refine wl_q (q_move rfl rfl) rfl rfl (by decide) ?_
        refine wl_q (q_not rfl rfl) rfl rfl (by decide) ?_
        refine wl_q (q_move rfl rfl) rfl rfl (by decide) ?_
        refine wl_split (t := 34) rfl (fun h34 => ?_) (fun h34 => ?_)
        · skip
          have q34 := h34
          try simp only [decide_eq_true_eq, decide_eq_false_iff_not, beq_iff_eq, beq_eq_false_iff_ne, bne_iff_ne, ne_eq, bne_eq_false_iff_eq, Int.not_lt, Int.not_le] at q34
          refine wl_skip (b := true) rfl rfl rfl rfl (by decide) ?_
          refine wl_skip (b := true) rfl rfl rfl rfl (by decide) ?_
          refine wl_skip (b := true) rfl rfl rfl rfl (by decide) ?_
          refine wl_skip (b := true) rfl rfl rfl rfl (by decide) ?_
          refine wl_skip (b := true) rfl rfl rfl rfl (by decide) ?_
          refine wl_skip (b := true) rfl rfl rfl rfl (by decide) ?_
          refine wl_q (q_pick rfl rfl rfl) rfl rfl (by decide) ?_
          refine wl_nil ?_
          refine fq_then ?_
          refine wc_true rfl ?_
          refine wc_seq ?_
          refine wc_region ?_
          refine wl_q (q_assign rfl rfl) rfl rfl (by decide) ?_
          refine wl_nil ?_
          refine fq_then ?_
          refine wc_ret ?_
          refine fq_then_ret ?_
          refine fq_block_ret ?_
          refine fq_then_ret ?_
          refine fq_then_ret ?_
          refine fq_block_ret ?_
          refine fq_then_ret ?_
          refine fq_ret1 rfl rfl (fun w1 H => ?_)
          exact ⟨rfl, (by first | exact hB.next (H.toBelow (by simp)) | exact H.toBelow (by simp))⟩
        · skip
          have q34 := h34
          try simp only [decide_eq_true_eq, decide_eq_false_iff_not, beq_iff_eq, beq_eq_false_iff_ne, bne_iff_ne, ne_eq, bne_eq_false_iff_eq, Int.not_lt, Int.not_le] at q34
          refine wl_want (b := false) (q_move rfl rfl) rfl rfl rfl rfl (by decide) ?_
          refine wl_want (b := false) (q_move rfl rfl) rfl rfl rfl rfl (by decide) ?_
          refine wl_want (b := false) (q_indexO rfl rfl hA rfl Tryd.underlying79 Sz32 (by omega) (by omega)) rfl rfl rfl rfl (by decide) ?_
          refine wl_want (b := false) (q_loadA rfl rfl Mn32 Sz32 rfl (reads_old (by simp) hra)) rfl rfl rfl rfl (by decide) ?_
          refine wl_want (b := false) (q_call rfl En35 rfl (fun w1 hw1 => CheckL p.f0 p.f1 p.f2 g p.f3 w1 (hg.below (hw1.toBelow (by simp))))) rfl rfl rfl rfl (by decide) ?_
          refine wl_want (b := false) (q_not rfl rfl) rfl rfl rfl rfl (by decide) ?_
          refine wl_q (q_pick rfl rfl rfl) rfl rfl (by decide) ?_
          refine wl_nil ?_
          refine fq_then ?_
          refine wc_cond rfl (fun h41 => ?_) (fun h41 => ?_)
          · skip
            have q41 := h41
            try simp only [decide_eq_true_eq, decide_eq_false_iff_not, beq_iff_eq, beq_eq_false_iff_ne, bne_iff_ne, ne_eq, bne_eq_false_iff_eq, Int.not_lt, Int.not_le] at q41
            refine wc_seq ?_
            refine wc_region ?_
            refine wl_q (q_assign rfl rfl) rfl rfl (by decide) ?_
            refine wl_nil ?_
            refine fq_then ?_
            refine wc_ret ?_
            refine fq_then_ret ?_
            refine fq_block_ret ?_
            refine fq_then_ret ?_
            refine fq_then_ret ?_
            refine fq_block_ret ?_
            refine fq_then_ret ?_
            refine fq_ret1 rfl rfl (fun w1 H => ?_)
            exact ⟨rfl, (by first | exact hB.next (H.toBelow (by simp)) | exact H.toBelow (by simp))⟩
          · skip
            have q41 := h41
            try simp only [decide_eq_true_eq, decide_eq_false_iff_not, beq_iff_eq, beq_eq_false_iff_ne, bne_iff_ne, ne_eq, bne_eq_false_iff_eq, Int.not_lt, Int.not_le] at q41
            have hlp : p.f3.length ≤ 80 := by simpa using h34
            have hmp := mayBe_of (show PChk.chkB p.f0 p.f1 p.f2 p.f3 = true by simpa using h41)
            have hlL : L.length ≤ 20 := by simp at h19; omega
            have hI2 := turn_step hI hmp hlp (by omega)
            rw [JJ_succ hp] at hI2
            have wi2 : IntKind.u64.wrap (IntKind.u64.wrap (z : Int) + 1) = ((z + 1 : Nat) : Int) := by (simp only [IntKind.wrap, IntKind.signed, IntKind.bits]; simp; omega)
            refine wc_skip ?_
            refine fq_then ?_
            refine wc_seq ?_
            refine wc_region ?_
            refine wl_q (q_loadA rfl rfl Mn38 Sz38 rfl (reads_blkA (by simp) fb_b2)) rfl rfl (by decide) ?_
            refine wl_callK (ι := (Nat × Gh × Gh)) (fun i => .slice (some ⟨i.1, 0, none⟩) 2 2) (fun i w w' => Blk w' i.1 [.slice i.2.1.1 ((JJ L z)).s0.length i.2.1.2, .slice i.2.2.1 ((JJ L z)).s1.length i.2.2.2] 22 ∧ RowC w' i.2.1 ((JJ L z)).s0 ∧ RowC w' i.2.2 ((JJ L z)).s1) rfl rfl rfl (by decide) En30 rfl (fun w1 hw1 => SlotsK ((JJ L z)) x.1 x.2.1 x.2.2 w1 (hJ.below (hw1.toBelow (by simp))) (Nat.lt_of_le_of_lt hI.b0.1 (by decide)) (Nat.lt_of_le_of_lt hI.b1.1 (by decide))) (fun was wa_ w_15 _ Hn_ _ hC_ => ?_)
            have hx_ := Hn_.toBelow (by simp)
            have hbW := hbW.nextV hB.size hx_
            have fb_b2 := fb_b2.below hx_
            have hJ := hJ.below hx_
            have hl_ := hl_.below hx_
            have hh := hh.keep hx_
            have hg := hg.below hx_
            have hra := hra.below hx_
            have hB := hB.next hx_
            obtain ⟨fb_was, hR0_was, hR1_was⟩ := hC_
            refine wl_q (q_assign rfl rfl) rfl rfl (by decide) ?_
            refine wl_nil ?_
            refine fq_then ?_
            refine wc_seq ?_
            refine wc_ground (fun w_16 Hn_ => ?_)
            have hx_ := Hn_.toBelow (by simp)
            have hbW := hbW.nextV hB.size hx_
            have fb_b2 := fb_b2.below hx_
            have hJ := hJ.below hx_
            have hl_ := hl_.below hx_
            have hh := hh.keep hx_
            have hg := hg.below hx_
            have hra := hra.below hx_
            have fb_was := fb_was.below hx_
            have hR0_was := hR0_was.below hx_
            have hR1_was := hR1_was.below hx_
            have hB := hB.next hx_
            haveI : Nonempty World := ⟨w_16⟩
            refine wc_any Fol (KD.any_drawK (ι := ((Gh × Gh × Gh) × World)) 6 0 [(5, fun X => [KD.oldK w_16 (Jn.ok (X 5).2 (JJ L (z + 1)) (X 5).1.1 (X 5).1.2.1 (X 5).1.2.2) (X 5).2])] [⟨[], [], []⟩, ⟨[], [], []⟩, ⟨[], [], []⟩, ⟨[], [], []⟩, ⟨[], [], []⟩, ⟨[], [], []⟩] (by kernel_rfl) (KD.tk_soft (fun p_ hp_ X => by (simp only [List.mem_cons, List.not_mem_nil, or_false] at hp_; rcases hp_ with rfl <;> rfl))) rfl (KD.ChainG.yield [] [] (fun X => q_loadA rfl rfl Mn38 Sz38 rfl (reads_blkA (by simp) fb_b2)) rfl rfl (fun _ => rfl) (fun _ _ => rfl) (fun X Y h0 h => ⟨by first | rfl | simp only [h0], rfl⟩) (KD.ChainG.yield [] [] (fun X => q_move rfl rfl) rfl rfl (fun _ => rfl) (fun _ _ => rfl) (fun X Y h0 h => ⟨by first | rfl | simp only [h0], rfl⟩) (KD.ChainG.yield [] [] (fun X => q_move rfl rfl) rfl rfl (fun _ => rfl) (fun _ _ => rfl) (fun X Y h0 h => ⟨by first | rfl | simp only [h0], rfl⟩) (KD.ChainG.yield [] [] (fun X => q_indexO rfl rfl hA rfl Tryd.underlying79 Sz32 (by omega) (by omega)) rfl rfl (fun _ => rfl) (fun _ _ => rfl) (fun X Y h0 h => ⟨by first | rfl | simp only [h0], rfl⟩) (KD.ChainG.yield [] [] (fun X => q_loadA rfl rfl Mn32 Sz32 rfl (reads_old (by simp) hra)) rfl rfl (fun _ => rfl) (fun _ _ => rfl) (fun X Y h0 h => ⟨by first | rfl | simp only [h0], rfl⟩) (KD.ChainG.kcall (β := (Gh × Gh × Gh)) (fun (b_ : (Gh × Gh × Gh)) => .agg (Jn.cells (JJ L (z + 1)) b_.1 b_.2.1 b_.2.2).toArray) (fun (b_ : (Gh × Gh × Gh)) w' => Jn.ok w' (JJ L (z + 1)) b_.1 b_.2.1 b_.2.2) [] (fun X => KD.oe_callK (v := fun (b_ : (Gh × Gh × Gh)) => .agg (Jn.cells (JJ L (z + 1)) b_.1 b_.2.1 b_.2.2).toArray) (C := fun (b_ : (Gh × Gh × Gh)) w' => Jn.ok w' (JJ L (z + 1)) b_.1 b_.2.1 b_.2.2) rfl En33 rfl rfl rfl (by simp) (fun R w1 hw1 => by (exact WriteE ((JJ L z)) x.1 x.2.1 x.2.2 p.f0 p.f1 p.f2 g p.f3 w1 (hJ.below (hw1.toBelow (by simp))) hI.b0 hI.b1 (hg.below (hw1.toBelow (by simp))) (by omega) (hh.keep (hw1.toBelow (by simp))) (JJ_succ hp)))) rfl rfl (fun _ => rfl) (KD.ChainG.nil _ _))))))) rfl rfl (fun X => [_, _]) (fun _ => rfl) (fun X => ?_))
            generalize X 5 = x_
            obtain ⟨JN, wk_5⟩ := x_
            dsimp only
            refine wl_ground (fun w_17 Hn_ => ?_)
            have hx_ := Hn_.toBelow (by simp)
            have hbW := hbW.nextV hB.size hx_
            have fb_b2 := fb_b2.below hx_
            have hJ := hJ.below hx_
            have hl_ := hl_.below hx_
            have hh := hh.keep hx_
            have hg := hg.below hx_
            have hra := hra.below hx_
            have fb_was := fb_was.below hx_
            have hR0_was := hR0_was.below hx_
            have hR1_was := hR1_was.below hx_
            have hB := hB.next hx_
            obtain ⟨hC_, hb_⟩ := KD.oldK.get Hn_ (i := 0) rfl
            have hJ_JN := hC_
            have hJ_JN := hJ_JN.below hb_
            refine wl_storeK fb_b2 rfl rfl rfl rfl rfl Sz38 rfl rfl (by first | (simp; done) | (simp [Value.oneCell', Jn.cells]; done)) (by simp [Value.oneCell', Jn.cells]) (by first | rfl | (simp only [List.take_succ_cons, List.take_zero, List.take_nil, List.drop_succ_cons, List.drop_zero, List.drop_nil, List.nil_append, List.cons_append, List.append_nil, List.length_cons, List.length_nil, Nat.reduceAdd, Nat.zero_add]; rfl)) (fun wa_18 w_19 Hn_ hu_ => ?_)
            have hx_ := Hn_.toBelow (by simp)
            have hbW := hbW.nextV hB.size hx_
            have fb_b2 := fb_b2.below hx_
            have hJ := hJ.below hx_
            have hl_ := hl_.below hx_
            have hh := hh.keep hx_
            have hg := hg.below hx_
            have hra := hra.below hx_
            have fb_was := fb_was.below hx_
            have hR0_was := hR0_was.below hx_
            have hR1_was := hR1_was.below hx_
            have hJ_JN := hJ_JN.below hx_
            have hB := hB.next hx_
            have hs_ := hB.size
            have hB := hB.trans (hu_.below hnb_b2 hs_)
            have hbW := hbW.trans (hu_.below hnb_b2 hs_)
            have fb_b2 := hu_.now
            have hJ := hJ.upd hu_ (cells_u8 _ _ _ _)
            have hl_ := hl_0.below hB
            have hh := hh0.keep hB
            have hg := hg0.below hB
            have hra := hra0.below hB
            have fb_was := hu_.blk fb_was (by decide)
            have hR0_was := hR0_was.upd hu_ (cells_u8 _ _ _ _)
            have hR1_was := hR1_was.upd hu_ (cells_u8 _ _ _ _)
            have hJ_JN := hJ_JN.upd hu_ (cells_u8 _ _ _ _)
            refine wl_nil ?_
            refine fq_then ?_
            refine wc_seq ?_
            refine wc_region ?_
            refine wl_q (q_loadA rfl rfl Mn38 Sz38 rfl (reads_blkA (by simp) fb_b2)) rfl rfl (by decide) ?_
            refine wl_callK (ι := (Nat × Gh × Gh)) (fun i => .slice (some ⟨i.1, 0, none⟩) 2 2) (fun i w w' => Blk w' i.1 [.slice i.2.1.1 ((JJ L (z + 1))).s0.length i.2.1.2, .slice i.2.2.1 ((JJ L (z + 1))).s1.length i.2.2.2] 22 ∧ RowC w' i.2.1 ((JJ L (z + 1))).s0 ∧ RowC w' i.2.2 ((JJ L (z + 1))).s1) rfl rfl rfl (by decide) En30 rfl (fun w1 hw1 => SlotsK ((JJ L (z + 1))) JN.1 JN.2.1 JN.2.2 w1 (hJ_JN.below (hw1.toBelow (by simp))) (Nat.lt_of_le_of_lt hI2.1.b0.1 (by decide)) (Nat.lt_of_le_of_lt hI2.1.b1.1 (by decide))) (fun now wa_ w_20 _ Hn_ _ hC_ => ?_)
            have hx_ := Hn_.toBelow (by simp)
            have hbW := hbW.nextV hB.size hx_
            have fb_b2 := fb_b2.below hx_
            have hJ := hJ.below hx_
            have hl_ := hl_.below hx_
            have hh := hh.keep hx_
            have hg := hg.below hx_
            have hra := hra.below hx_
            have fb_was := fb_was.below hx_
            have hR0_was := hR0_was.below hx_
            have hR1_was := hR1_was.below hx_
            have hJ_JN := hJ_JN.below hx_
            have hB := hB.next hx_
            obtain ⟨fb_now, hR0_now, hR1_now⟩ := hC_
            refine wl_q (q_assign rfl rfl) rfl rfl (by decide) ?_
            refine wl_nil ?_
            refine fq_then ?_
            refine wc_seq ?_
            refine wc_region ?_
            refine wl_q (q_loadA rfl rfl Mn38 Sz38 rfl (reads_blkA (by simp) fb_b2)) rfl rfl (by decide) ?_
            refine wl_callK (ι := Gh) (fun i => .tuple #[.agg #[.int .i64 p.f0, .int .i64 p.f1, .int .i64 0, .slice i.1 p.f3.length i.2], .int .u64 ((z + 1 : Nat) : Int), .bool (decide (0 < ((z + 1 : Nat) : Int)))]) (fun i w w' => RowP w' i p.f3) rfl rfl rfl (by decide) En28 rfl (fun w1 hw1 => LoadE (L := ⟨p.f0, p.f1, p.f3, ((z + 1 : Nat) : Int)⟩) ((JJ L (z + 1))) JN.1 JN.2.1 JN.2.2 w1 (hJ_JN.below (hw1.toBelow (by simp))) hI2.1.b0 hI2.1.b1 (hh.keep (hw1.toBelow (by simp))) hI2.2.1) (fun m wa_ w_21 _ Hn_ _ hC_ => ?_)
            have hx_ := Hn_.toBelow (by simp)
            have hbW := hbW.nextV hB.size hx_
            have fb_b2 := fb_b2.below hx_
            have hJ := hJ.below hx_
            have hl_ := hl_.below hx_
            have hh := hh.keep hx_
            have hg := hg.below hx_
            have hra := hra.below hx_
            have fb_was := fb_was.below hx_
            have hR0_was := hR0_was.below hx_
            have hR1_was := hR1_was.below hx_
            have hJ_JN := hJ_JN.below hx_
            have fb_now := fb_now.below hx_
            have hR0_now := hR0_now.below hx_
            have hR1_now := hR1_now.below hx_
            have hB := hB.next hx_
            have hP_m := hC_
            refine wl_q (q_move rfl rfl) rfl rfl (by decide) ?_
            refine wl_q (q_extract rfl rfl rfl) rfl rfl (by decide) ?_
            refine wl_q (q_extract rfl rfl rfl) rfl rfl (by decide) ?_
            refine wl_q (q_extract rfl rfl rfl) rfl rfl (by decide) ?_
            refine wl_alloc rfl rfl rfl (by decide) Zr32 (fun b22 => ?_)
            refine wl_store (i := 0) rfl rfl rfl rfl rfl rfl Sz32 rfl rfl (by simp) (by simp [Value.oneCell', Jn.cells]) (by first | (simp only [List.take_succ_cons, List.take_zero, List.take_nil, List.drop_succ_cons, List.drop_zero, List.drop_nil, List.nil_append, List.cons_append, List.append_nil, List.length_cons, List.length_nil, Nat.reduceAdd, Nat.zero_add]; rfl) | rfl) (by first | (simp only [List.set_cons_zero, List.set_cons_succ]; rfl) | rfl) ?_
            refine wl_q (q_assign rfl rfl) rfl rfl (by decide) ?_
            refine wl_q (q_assign rfl rfl) rfl rfl (by decide) ?_
            refine wl_nil ?_
            refine fq_then ?_
            refine wc_seq ?_
            refine wc_region ?_
            refine wl_q (q_move rfl rfl) rfl rfl (by decide) ?_
            refine wl_q (q_move rfl rfl) rfl rfl (by decide) ?_
            refine wl_q (q_indexO rfl rfl hA rfl Tryd.underlying79 Sz32 (by omega) (by omega)) rfl rfl (by decide) ?_
            refine wl_q (q_loadA rfl rfl Mn32 Sz32 rfl (reads_old (by simp) hra)) rfl rfl (by decide) ?_
            refine wl_callK (ι := Gh) (fun i => .agg #[.int .i64 p.f0, .int .i64 p.f1, .int .i64 p.f2, .slice i.1 p.f3.length i.2]) (fun i w w' => RowR w' i (p.f3.map to91)) rfl rfl rfl (by decide) En27 rfl (fun w1 hw1 => ofK16 p.f0 p.f1 p.f2 g p.f3 w1 (hg.below (hw1.toBelow (by simp))) (by omega)) (fun wt wa_ w_23 _ Hn_ _ hC_ => ?_)
            have hx_ := Hn_.toBelow (by simp)
            have fb_b22 : Blk w_23 b22 _ _ := Hn_.get (i := 0) rfl
            have hbW := hbW.nextV hB.size hx_
            have fb_b2 := fb_b2.below hx_
            have hJ := hJ.below hx_
            have hl_ := hl_.below hx_
            have hh := hh.keep hx_
            have hg := hg.below hx_
            have hra := hra.below hx_
            have fb_was := fb_was.below hx_
            have hR0_was := hR0_was.below hx_
            have hR1_was := hR1_was.below hx_
            have hJ_JN := hJ_JN.below hx_
            have fb_now := fb_now.below hx_
            have hR0_now := hR0_now.below hx_
            have hR1_now := hR1_now.below hx_
            have hP_m := hP_m.below hx_
            have hB := hB.next hx_
            have hQ_wt := hC_
            refine wl_alloc rfl rfl rfl (by decide) Zr42 (fun b24 => ?_)
            refine wl_store (i := 0) rfl rfl rfl rfl rfl rfl Sz42 rfl rfl (by simp) (by simp [Value.oneCell', Jn.cells]) (by first | (simp only [List.take_succ_cons, List.take_zero, List.take_nil, List.drop_succ_cons, List.drop_zero, List.drop_nil, List.nil_append, List.cons_append, List.append_nil, List.length_cons, List.length_nil, Nat.reduceAdd, Nat.zero_add]; rfl) | rfl) (by first | (simp only [List.set_cons_zero, List.set_cons_succ]; rfl) | rfl) ?_
            refine wl_nil ?_
            refine fq_then ?_
            refine wc_seq ?_
            refine wc_region ?_
            refine wl_q (q_fa (o1 := 2) rfl rfl Fo42_2 rfl) rfl rfl (by decide) ?_
            refine wl_store (i := 0) rfl rfl rfl rfl rfl rfl Sz3 rfl rfl (by simp) (by simp [Value.oneCell', Jn.cells]) (by first | (simp only [List.take_succ_cons, List.take_zero, List.take_nil, List.drop_succ_cons, List.drop_zero, List.drop_nil, List.nil_append, List.cons_append, List.append_nil, List.length_cons, List.length_nil, Nat.reduceAdd, Nat.zero_add]; rfl) | rfl) (by first | (simp only [List.set_cons_zero, List.set_cons_succ]; rfl) | rfl) ?_
            refine wl_nil ?_
            refine fq_then ?_
            refine wc_seq ?_
            refine wc_seq ?_
            refine wc_any Fol (any_drawG (ι := Gh) 26 0 [(11, fun X => [Sx.Item.own 0 91 2 (.slice (X 11).1 p.f3.length (X 11).2) p.f3.length ((p.f3.map to91).flatMap pc91)]), (13, fun X => [Sx.Item.own 0 91 2 (.slice (X 11).1 p.f3.length (X 11).2) p.f3.length ((p.f3.map to91).flatMap pc91)])] [⟨[], [], []⟩, ⟨[], [], []⟩, ⟨[], [], []⟩, ⟨[], [], []⟩, ⟨[], [], []⟩, ⟨[], [], []⟩, ⟨[], [], []⟩, ⟨[], [], []⟩, ⟨[], [], []⟩, ⟨[], [], []⟩, ⟨[], [], []⟩, ⟨[], [], []⟩, ⟨[], [], []⟩, ⟨[11], [], [11]⟩, ⟨[], [], [11, 13]⟩, ⟨[], [], [11, 13]⟩, ⟨[], [], [11, 13]⟩, ⟨[], [], [11, 13]⟩, ⟨[], [13], [11, 13]⟩, ⟨[], [], [11, 13]⟩, ⟨[], [], [11, 13]⟩, ⟨[], [], [11, 13]⟩, ⟨[], [], [11, 13]⟩, ⟨[], [13], [11, 13]⟩, ⟨[], [], [11, 13]⟩, ⟨[], [], [11, 13]⟩] (by kernel_rfl) (ChainG.yield [] [] (fun X => q_move rfl rfl) rfl rfl (fun _ => rfl) (fun _ _ => rfl) (fun X Y h0 h => ⟨by first | rfl | simp only [h0], by first | rfl | simp only [h0]⟩) (ChainG.yield [] [] (fun X => OpQ.to (q_not rfl rfl) (congrArg Value.bool (by rw [decide_eq_true (show (0 : Int) < ((z + 1 : Nat) : Int) by omega)]; rfl))) rfl rfl (fun _ => rfl) (fun _ _ => rfl) (fun X Y h0 h => ⟨by first | rfl | simp only [h0], by first | rfl | simp only [h0]⟩) (ChainG.yield [] [] (fun X => q_move rfl rfl) rfl rfl (fun _ => rfl) (fun _ _ => rfl) (fun X Y h0 h => ⟨by first | rfl | simp only [h0], by first | rfl | simp only [h0]⟩) (ChainG.wantq (b := false) [] [] (fun X => q_move rfl rfl) rfl rfl (fun _ => rfl) rfl (fun _ => rfl) (fun _ _ => rfl) (fun X Y h0 h => ⟨by first | rfl | simp only [h0], by first | rfl | simp only [h0]⟩) (ChainG.wantq (b := false) [] [] (fun X => q_move rfl rfl) rfl rfl (fun _ => rfl) rfl (fun _ => rfl) (fun _ _ => rfl) (fun X Y h0 h => ⟨by first | rfl | simp only [h0], by first | rfl | simp only [h0]⟩) (ChainG.wantq (b := false) [] [] (fun X => q_conv rfl rfl Tryd.underlying3 Tryd.underlying53) rfl rfl (fun _ => rfl) rfl (fun _ => rfl) (fun _ _ => rfl) (fun X Y h0 h => ⟨by first | rfl | simp only [h0], by first | rfl | simp only [h0]⟩) (ChainG.wantq (b := false) [] [] (fun X => q_bin rfl rfl rfl rfl) rfl rfl (fun _ => rfl) rfl (fun _ => rfl) (fun _ _ => rfl) (fun X Y h0 h => ⟨by first | rfl | simp only [h0], by first | rfl | simp only [h0]⟩) (ChainG.wantq (b := false) [] [] (fun X => OpQ.to (q_bin rfl rfl rfl rfl) (congrArg Value.bool (by rw [wi2]; simp))) rfl rfl (fun _ => rfl) rfl (fun _ => rfl) (fun _ _ => rfl) (fun X Y h0 h => ⟨by first | rfl | simp only [h0], by first | rfl | simp only [h0]⟩) (ChainG.yield [] [] (fun X => q_pick rfl rfl rfl) rfl rfl (fun _ => rfl) (fun _ _ => rfl) (fun X Y h0 h => ⟨by first | rfl | simp only [h0], by first | rfl | simp only [h0]⟩) (ChainG.yield [] [] (fun X => q_move rfl rfl) rfl rfl (fun _ => rfl) (fun _ _ => rfl) (fun X Y h0 h => ⟨by first | rfl | simp only [h0], by first | rfl | simp only [h0]⟩) (ChainG.wantq (b := false) [] [] (fun X => q_loadA rfl rfl Mn32 Sz32 rfl (reads_blkA (by simp) fb_b22)) rfl rfl (fun _ => rfl) rfl (fun _ => rfl) (fun _ _ => rfl) (fun X Y h0 h => ⟨by first | rfl | simp only [h0], by first | rfl | simp only [h0]⟩) (ChainG.opew (b := false) (fun (X : Nat → Gh) => .agg #[.int .i64 p.f0, .int .i64 p.f1, .int .i64 0, .slice (X 11).1 p.f3.length (X 11).2]) [] [] (fun X => oe_call rfl En27 rfl (fun R w1 hw1 => (of16_calls p.f0 p.f1 0 m p.f3 w1 (hP_m.below (hw1.toBelow (by simp))) (by omega)).mono (fun e w' ⟨i, h1, h2⟩ => ⟨i, h1, hw1.lift1 h2⟩))) rfl rfl (fun _ => rfl) rfl (fun X Y h0 h => ⟨by first | rfl | (show (.agg #[.int .i64 p.f0, .int .i64 p.f1, .int .i64 0, .slice (X 11).1 p.f3.length (X 11).2] : Value) = .agg #[.int .i64 p.f0, .int .i64 p.f1, .int .i64 0, .slice (Y 11).1 p.f3.length (Y 11).2]; simp only [h0]), by first | rfl | (show ([Sx.Item.own 0 91 2 (.slice (X 11).1 p.f3.length (X 11).2) p.f3.length ((p.f3.map to91).flatMap pc91)] : List Sx.Item) = [Sx.Item.own 0 91 2 (.slice (Y 11).1 p.f3.length (Y 11).2) p.f3.length ((p.f3.map to91).flatMap pc91)]; simp only [h0])⟩) (ChainG.wantq (b := false) [] [] (fun X => q_loadA rfl rfl Mn42 Sz42 rfl (readsAll (i := 0) rfl)) rfl rfl (fun _ => rfl) rfl (fun _ => rfl) (fun _ _ => rfl) (fun X Y h0 h => ⟨by first | rfl | simp only [h0], by first | rfl | simp only [h0]⟩) (ChainG.opew (b := false) (fun (X : Nat → Gh) => .bool true) [11] [11] (fun X => oe_call rfl En18 rfl (fun R w1 hw1 => (same_of p.f0 p.f1 0 (X 11) wt p.f3 w1 (hw1.get (i := 0) rfl) (hQ_wt.below (hw1.toBelow (by simp))) (by omega)).mono (fun e w' ⟨h1, h2⟩ => ⟨(none, 0), h1, hw1.below h2⟩))) rfl rfl (fun _ => rfl) rfl (fun X Y h0 h => ⟨by first | rfl | (show (.bool true : Value) = .bool true; simp only [h0, h 11 (by decide)]), by first | rfl | (show ([Sx.Item.own 0 91 2 (.slice (X 11).1 p.f3.length (X 11).2) p.f3.length ((p.f3.map to91).flatMap pc91)] : List Sx.Item) = [Sx.Item.own 0 91 2 (.slice (Y 11).1 p.f3.length (Y 11).2) p.f3.length ((p.f3.map to91).flatMap pc91)]; simp only [h0, h 11 (by decide)])⟩) (ChainG.wantq (b := false) [] [11, 13] (fun X => q_not rfl rfl) rfl rfl (fun _ => rfl) rfl (fun _ => rfl) (fun _ _ => rfl) (fun X Y h0 h => ⟨by first | rfl | simp only [h0, h 11 (by decide), h 13 (by decide)], by first | rfl | simp only [h0, h 11 (by decide), h 13 (by decide)]⟩) (ChainG.yield [] [11, 13] (fun X => q_pick rfl rfl rfl) rfl rfl (fun _ => rfl) (fun _ _ => rfl) (fun X Y h0 h => ⟨by first | rfl | simp only [h0, h 11 (by decide), h 13 (by decide)], by first | rfl | simp only [h0, h 11 (by decide), h 13 (by decide)]⟩) (ChainG.yield [] [11, 13] (fun X => q_move rfl rfl) rfl rfl (fun _ => rfl) (fun _ _ => rfl) (fun X Y h0 h => ⟨by first | rfl | simp only [h0, h 11 (by decide), h 13 (by decide)], by first | rfl | simp only [h0, h 11 (by decide), h 13 (by decide)]⟩) (ChainG.wantq (b := false) [] [11, 13] (fun X => q_move rfl rfl) rfl rfl (fun _ => rfl) rfl (fun _ => rfl) (fun _ _ => rfl) (fun X Y h0 h => ⟨by first | rfl | simp only [h0, h 11 (by decide), h 13 (by decide)], by first | rfl | simp only [h0, h 11 (by decide), h 13 (by decide)]⟩) (ChainG.wantq (b := false) [13] [11, 13] (fun X => q_len rfl rfl Tryd.underlying68) rfl rfl (fun _ => rfl) rfl (fun _ => rfl) (fun _ _ => rfl) (fun X Y h0 h => ⟨by first | rfl | simp only [h0, h 11 (by decide), h 13 (by decide)], by first | rfl | simp only [h0, h 11 (by decide), h 13 (by decide)]⟩) (ChainG.wantq (b := false) [] [11, 13] (fun X => OpQ.to (q_bin rfl rfl rfl rfl) (congrArg Value.bool (by rfl))) rfl rfl (fun _ => rfl) rfl (fun _ => rfl) (fun _ _ => rfl) (fun X Y h0 h => ⟨by first | rfl | simp only [h0, h 11 (by decide), h 13 (by decide)], by first | rfl | simp only [h0, h 11 (by decide), h 13 (by decide)]⟩) (ChainG.yield [] [11, 13] (fun X => q_pick rfl rfl rfl) rfl rfl (fun _ => rfl) (fun _ _ => rfl) (fun X Y h0 h => ⟨by first | rfl | simp only [h0, h 11 (by decide), h 13 (by decide)], by first | rfl | simp only [h0, h 11 (by decide), h 13 (by decide)]⟩) (ChainG.yield [] [11, 13] (fun X => q_move rfl rfl) rfl rfl (fun _ => rfl) (fun _ _ => rfl) (fun X Y h0 h => ⟨by first | rfl | simp only [h0, h 11 (by decide), h 13 (by decide)], by first | rfl | simp only [h0, h 11 (by decide), h 13 (by decide)]⟩) (ChainG.wantq (b := false) [] [11, 13] (fun X => q_move rfl rfl) rfl rfl (fun _ => rfl) rfl (fun _ => rfl) (fun _ _ => rfl) (fun X Y h0 h => ⟨by first | rfl | simp only [h0, h 11 (by decide), h 13 (by decide)], by first | rfl | simp only [h0, h 11 (by decide), h 13 (by decide)]⟩) (ChainG.wantq (b := false) [13] [11, 13] (fun X => q_len rfl rfl Tryd.underlying68) rfl rfl (fun _ => rfl) rfl (fun _ => rfl) (fun _ _ => rfl) (fun X Y h0 h => ⟨by first | rfl | simp only [h0, h 11 (by decide), h 13 (by decide)], by first | rfl | simp only [h0, h 11 (by decide), h 13 (by decide)]⟩) (ChainG.wantq (b := false) [] [11, 13] (fun X => OpQ.to (q_bin rfl rfl rfl rfl) (congrArg Value.bool (by rfl))) rfl rfl (fun _ => rfl) rfl (fun _ => rfl) (fun _ _ => rfl) (fun X Y h0 h => ⟨by first | rfl | simp only [h0, h 11 (by decide), h 13 (by decide)], by first | rfl | simp only [h0, h 11 (by decide), h 13 (by decide)]⟩) (ChainG.yield [] [11, 13] (fun X => q_pick rfl rfl rfl) rfl rfl (fun _ => rfl) (fun _ _ => rfl) (fun X Y h0 h => ⟨by first | rfl | simp only [h0, h 11 (by decide), h 13 (by decide)], by first | rfl | simp only [h0, h 11 (by decide), h 13 (by decide)]⟩) (ChainG.nil _ _))))))))))))))))))))))))))) rfl rfl (fun X => [_, _, _]) (fun _ => rfl) (fun X => ?_))
            generalize X 11 = og11
            refine wl_nil ?_
            refine fq_then ?_
            refine wc_false rfl ?_
            refine wc_skip ?_
            refine fq_then ?_
            refine wc_seq ?_
            refine wc_region ?_
            refine wl_q (q_move rfl rfl) rfl rfl (by decide) ?_
            refine wl_q (q_bin rfl rfl rfl rfl) rfl rfl (by decide) ?_
            refine wl_q (OpQ.to (q_rem rfl rfl rfl (by decide)) (show Value.int .i64 (Int.tmod (IntKind.i64.wrap ((z : Int) + 1)) 2) = .int .i64 0 by rw [wi, tm2]; congr 1; omega)) rfl rfl (by decide) ?_
            refine wl_q (q_assign rfl rfl) rfl rfl (by decide) ?_
            refine wl_nil ?_
            refine fq_then ?_
            refine wc_seq ?_
            refine wc_any Fol (any_drawG (ι := Gh) 28 0 [(24, fun X => [Sx.Item.own 0 5 1 (.slice (X 24).1 (jput p.f0 p.f1 p.f3 ((z + 1 : Nat) : Int)).length (X 24).2) (jput p.f0 p.f1 p.f3 ((z + 1 : Nat) : Int)).length (nums .u8 (jput p.f0 p.f1 p.f3 ((z + 1 : Nat) : Int)))])] [⟨[], [], []⟩, ⟨[], [], []⟩, ⟨[], [], []⟩, ⟨[], [], []⟩, ⟨[], [], []⟩, ⟨[], [], []⟩, ⟨[], [], []⟩, ⟨[], [], []⟩, ⟨[], [], []⟩, ⟨[], [], []⟩, ⟨[], [], []⟩, ⟨[], [], []⟩, ⟨[], [], []⟩, ⟨[], [], []⟩, ⟨[], [], []⟩, ⟨[], [], []⟩, ⟨[], [], []⟩, ⟨[], [], []⟩, ⟨[], [], []⟩, ⟨[], [], []⟩, ⟨[], [], []⟩, ⟨[], [], []⟩, ⟨[], [], []⟩, ⟨[], [], []⟩, ⟨[], [], []⟩, ⟨[], [24], [24]⟩, ⟨[], [], [24]⟩, ⟨[], [], [24]⟩] (by kernel_rfl) (ChainG.yield [] [] (fun X => q_move rfl rfl) rfl rfl (fun _ => rfl) (fun _ _ => rfl) (fun X Y h0 h => ⟨by first | rfl | simp only [h0], by first | rfl | simp only [h0]⟩) (ChainG.yield [] [] (fun X => q_move rfl rfl) rfl rfl (fun _ => rfl) (fun _ _ => rfl) (fun X Y h0 h => ⟨by first | rfl | simp only [h0], by first | rfl | simp only [h0]⟩) (ChainG.yield [] [] (fun X => OpQ.to (q_bin rfl rfl rfl rfl) (show Value.int .i64 (IntKind.i64.wrap (1 - 0)) = .int .i64 1 by rfl)) rfl rfl (fun _ => rfl) (fun _ _ => rfl) (fun X Y h0 h => ⟨by first | rfl | simp only [h0], by first | rfl | simp only [h0]⟩) (ChainG.yield [] [] (fun X => q_indexS (off := 1) rfl rfl rfl Tryd.underlying68 Sz22 (by decide) (by decide) rfl) rfl rfl (fun _ => rfl) (fun _ _ => rfl) (fun X Y h0 h => ⟨by first | rfl | simp only [h0], by first | rfl | simp only [h0]⟩) (ChainG.yield [] [] (fun X => q_load rfl rfl Mn22 (reads_blk (by simp) fb_now rfl)) rfl rfl (fun _ => rfl) (fun _ _ => rfl) (fun X Y h0 h => ⟨by first | rfl | simp only [h0], by first | rfl | simp only [h0]⟩) (ChainG.yield [] [] (fun X => q_bytesStr rfl rfl Tryd.underlying22 Tryd.underlying5 Tryd.underlying9 (fun w1 hw1 => (hR1_now.below (hw1.toBelow (by simp))).2)) rfl rfl (fun _ => rfl) (fun _ _ => rfl) (fun X Y h0 h => ⟨by first | rfl | simp only [h0], by first | rfl | simp only [h0]⟩) (ChainG.yield [] [] (fun X => q_move rfl rfl) rfl rfl (fun _ => rfl) (fun _ _ => rfl) (fun X Y h0 h => ⟨by first | rfl | simp only [h0], by first | rfl | simp only [h0]⟩) (ChainG.yield [] [] (fun X => q_move rfl rfl) rfl rfl (fun _ => rfl) (fun _ _ => rfl) (fun X Y h0 h => ⟨by first | rfl | simp only [h0], by first | rfl | simp only [h0]⟩) (ChainG.yield [] [] (fun X => OpQ.to (q_bin rfl rfl rfl rfl) (show Value.int .i64 (IntKind.i64.wrap (1 - 0)) = .int .i64 1 by rfl)) rfl rfl (fun _ => rfl) (fun _ _ => rfl) (fun X Y h0 h => ⟨by first | rfl | simp only [h0], by first | rfl | simp only [h0]⟩) (ChainG.yield [] [] (fun X => q_indexS (off := 1) rfl rfl rfl Tryd.underlying68 Sz22 (by decide) (by decide) rfl) rfl rfl (fun _ => rfl) (fun _ _ => rfl) (fun X Y h0 h => ⟨by first | rfl | simp only [h0], by first | rfl | simp only [h0]⟩) (ChainG.yield [] [] (fun X => q_load rfl rfl Mn22 (reads_blk (by simp) fb_was rfl)) rfl rfl (fun _ => rfl) (fun _ _ => rfl) (fun X Y h0 h => ⟨by first | rfl | simp only [h0], by first | rfl | simp only [h0]⟩) (ChainG.yield [] [] (fun X => q_bytesStr rfl rfl Tryd.underlying22 Tryd.underlying5 Tryd.underlying9 (fun w1 hw1 => (hR1_was.below (hw1.toBelow (by simp))).2)) rfl rfl (fun _ => rfl) (fun _ _ => rfl) (fun X Y h0 h => ⟨by first | rfl | simp only [h0], by first | rfl | simp only [h0]⟩) (ChainG.yield [] [] (fun X => q_eqlStr (c := false) rfl (.inr ⟨rfl, by rw [show (JJ L (z + 1)).s1 = (JJ L z).s1 by rw [hI2.2.2.2 _ hk]]; simp⟩) rfl rfl (fun w => rfl)) rfl rfl (fun _ => rfl) (fun _ _ => rfl) (fun X Y h0 h => ⟨by first | rfl | simp only [h0], by first | rfl | simp only [h0]⟩) (ChainG.yield [] [] (fun X => q_move rfl rfl) rfl rfl (fun _ => rfl) (fun _ _ => rfl) (fun X Y h0 h => ⟨by first | rfl | simp only [h0], by first | rfl | simp only [h0]⟩) (ChainG.wantq (b := false) [] [] (fun X => q_move rfl rfl) rfl rfl (fun _ => rfl) rfl (fun _ => rfl) (fun _ _ => rfl) (fun X Y h0 h => ⟨by first | rfl | simp only [h0], by first | rfl | simp only [h0]⟩) (ChainG.wantq (b := false) [] [] (fun X => q_move rfl rfl) rfl rfl (fun _ => rfl) rfl (fun _ => rfl) (fun _ _ => rfl) (fun X Y h0 h => ⟨by first | rfl | simp only [h0], by first | rfl | simp only [h0]⟩) (ChainG.wantq (b := false) [] [] (fun X => q_indexS (off := 0) rfl rfl rfl Tryd.underlying68 Sz22 (by decide) (by decide) rfl) rfl rfl (fun _ => rfl) rfl (fun _ => rfl) (fun _ _ => rfl) (fun X Y h0 h => ⟨by first | rfl | simp only [h0], by first | rfl | simp only [h0]⟩) (ChainG.wantq (b := false) [] [] (fun X => q_load rfl rfl Mn22 (reads_blk (by simp) fb_now rfl)) rfl rfl (fun _ => rfl) rfl (fun _ => rfl) (fun _ _ => rfl) (fun X Y h0 h => ⟨by first | rfl | simp only [h0], by first | rfl | simp only [h0]⟩) (ChainG.wantq (b := false) [] [] (fun X => q_bytesStr rfl rfl Tryd.underlying22 Tryd.underlying5 Tryd.underlying9 (fun w1 hw1 => (hR0_now.below (hw1.toBelow (by simp))).2)) rfl rfl (fun _ => rfl) rfl (fun _ => rfl) (fun _ _ => rfl) (fun X Y h0 h => ⟨by first | rfl | simp only [h0], by first | rfl | simp only [h0]⟩) (ChainG.wantq (b := false) [] [] (fun X => q_move rfl rfl) rfl rfl (fun _ => rfl) rfl (fun _ => rfl) (fun _ _ => rfl) (fun X Y h0 h => ⟨by first | rfl | simp only [h0], by first | rfl | simp only [h0]⟩) (ChainG.wantq (b := false) [] [] (fun X => q_move rfl rfl) rfl rfl (fun _ => rfl) rfl (fun _ => rfl) (fun _ _ => rfl) (fun X Y h0 h => ⟨by first | rfl | simp only [h0], by first | rfl | simp only [h0]⟩) (ChainG.wantq (b := false) [] [] (fun X => q_indexO rfl rfl hA rfl Tryd.underlying79 Sz32 (by omega) (by omega)) rfl rfl (fun _ => rfl) rfl (fun _ => rfl) (fun _ _ => rfl) (fun X Y h0 h => ⟨by first | rfl | simp only [h0], by first | rfl | simp only [h0]⟩) (ChainG.wantq (b := false) [] [] (fun X => q_loadA rfl rfl Mn32 Sz32 rfl (reads_old (by simp) hra)) rfl rfl (fun _ => rfl) rfl (fun _ => rfl) (fun _ _ => rfl) (fun X Y h0 h => ⟨by first | rfl | simp only [h0], by first | rfl | simp only [h0]⟩) (ChainG.wantq (b := false) [] [] (fun X => q_move rfl rfl) rfl rfl (fun _ => rfl) rfl (fun _ => rfl) (fun _ _ => rfl) (fun X Y h0 h => ⟨by first | rfl | simp only [h0], by first | rfl | simp only [h0]⟩) (ChainG.opew (b := false) (fun (X : Nat → Gh) => .slice (X 24).1 (jput p.f0 p.f1 p.f3 ((z + 1 : Nat) : Int)).length (X 24).2) [] [] (fun X => oe_call rfl En25 rfl (fun R w1 hw1 => (Put_calls p.f0 p.f1 p.f2 ((z + 1 : Nat) : Int) g.1 g.2 p.f3 w1 (hg.below (hw1.toBelow (by simp))).2 hg.1 (by omega) (hh.keep (hw1.toBelow (by simp)))).mono (fun e w' ⟨i, h1, h2⟩ => ⟨i, h1, hw1.lift1 h2⟩))) rfl rfl (fun _ => rfl) rfl (fun X Y h0 h => ⟨by first | rfl | (show (.slice (X 24).1 (jput p.f0 p.f1 p.f3 ((z + 1 : Nat) : Int)).length (X 24).2 : Value) = .slice (Y 24).1 (jput p.f0 p.f1 p.f3 ((z + 1 : Nat) : Int)).length (Y 24).2; simp only [h0]), by first | rfl | (show ([Sx.Item.own 0 5 1 (.slice (X 24).1 (jput p.f0 p.f1 p.f3 ((z + 1 : Nat) : Int)).length (X 24).2) (jput p.f0 p.f1 p.f3 ((z + 1 : Nat) : Int)).length (nums .u8 (jput p.f0 p.f1 p.f3 ((z + 1 : Nat) : Int)))] : List Sx.Item) = [Sx.Item.own 0 5 1 (.slice (Y 24).1 (jput p.f0 p.f1 p.f3 ((z + 1 : Nat) : Int)).length (Y 24).2) (jput p.f0 p.f1 p.f3 ((z + 1 : Nat) : Int)).length (nums .u8 (jput p.f0 p.f1 p.f3 ((z + 1 : Nat) : Int)))]; simp only [h0])⟩) (ChainG.wantq (b := false) [24] [24] (fun X => q_bytesStr rfl rfl Tryd.underlying22 Tryd.underlying5 Tryd.underlying9 (fun w1 hw1 => (rowC_of_own (hw1.get (i := 0) rfl) rfl (jput_small (by omega))).2)) rfl rfl (fun _ => rfl) rfl (fun _ => rfl) (fun _ _ => rfl) (fun X Y h0 h => ⟨by first | rfl | simp only [h0, h 24 (by decide)], by first | rfl | simp only [h0, h 24 (by decide)]⟩) (ChainG.wantq (b := false) [] [24] (fun X => q_eqlStr (c := false) rfl (.inr ⟨rfl, by rw [show (JJ L (z + 1)).s0 = (jput p.f0 p.f1 p.f3 ((z + 1 : Nat) : Int)) by rw [hI2.2.2.2 _ hk]]; simp⟩) rfl rfl (fun w => rfl)) rfl rfl (fun _ => rfl) rfl (fun _ => rfl) (fun _ _ => rfl) (fun X Y h0 h => ⟨by first | rfl | simp only [h0, h 24 (by decide)], by first | rfl | simp only [h0, h 24 (by decide)]⟩) (ChainG.yield [] [24] (fun X => q_pick rfl rfl rfl) rfl rfl (fun _ => rfl) (fun _ _ => rfl) (fun X Y h0 h => ⟨by first | rfl | simp only [h0, h 24 (by decide)], by first | rfl | simp only [h0, h 24 (by decide)]⟩) (ChainG.nil _ _))))))))))))))))))))))))))))) rfl rfl (fun X => [_, _, _, _]) (fun _ => rfl) (fun X => ?_))
            generalize X 24 = pu24
            refine wl_nil ?_
            refine fq_then ?_
            refine wc_false rfl ?_
            refine wc_skip ?_
            refine fq_block ?_
            refine fq_then ?_
            refine wc_region ?_
            refine wl_q (q_move rfl rfl) rfl rfl (by decide) ?_
            refine wl_q (q_bin rfl rfl rfl rfl) rfl rfl (by decide) ?_
            refine wl_q (q_assign rfl rfl) rfl rfl (by decide) ?_
            refine wl_nil ?_
            refine fq_ground (fun w_25 Hn_ => ?_)
            have hx_ := Hn_.toBelow (by simp)
            have fb_b24 : Blk w_25 b24 _ _ := Hn_.get (i := 2) rfl
            have hbW := hbW.nextV hB.size hx_
            have fb_b2 := fb_b2.below hx_
            have hJ := hJ.below hx_
            have hl_ := hl_.below hx_
            have hh := hh.keep hx_
            have hg := hg.below hx_
            have hra := hra.below hx_
            have fb_was := fb_was.below hx_
            have hR0_was := hR0_was.below hx_
            have hR1_was := hR1_was.below hx_
            have hJ_JN := hJ_JN.below hx_
            have fb_now := fb_now.below hx_
            have hR0_now := hR0_now.below hx_
            have hR1_now := hR1_now.below hx_
            have hP_m := hP_m.below hx_
            have fb_b22 := fb_b22.below hx_
            have hQ_wt := hQ_wt.below hx_
            have hB := hB.next hx_
            exact fq_nextV (z + 1, w_25, JN) hbW rfl (by simp) ⟨by omega, hbW, fb_b2, hJ_JN, hI2.1⟩ (show L.length - (z + 1) < L.length - z by omega) (List.forall_mem_cons.2 ⟨rfl, List.forall_mem_cons.2 ⟨rfl, List.forall_mem_cons.2 ⟨(show some (Value.int .i64 (IntKind.i64.wrap ((z : Int) + 1))) = some (Value.int .i64 ((z + 1 : Nat) : Int)) from by rw [wi]), fun _ h => (by cases h)⟩⟩⟩)
      · skip
        have q24 := h24
        try simp only [decide_eq_true_eq, decide_eq_false_iff_not, beq_iff_eq, beq_eq_false_iff_ne, bne_iff_ne, ne_eq, bne_eq_false_iff_eq, Int.not_lt, Int.not_le] at q24
        refine wc_exit ?_
        refine fq_then_exit ?_
        refine fq_then_exit ?_
        refine fq_block_hit ?_
        refine fq_then ?_
        refine wc_seq ?_
        refine wc_region ?_
        refine wl_q (q_assign rfl rfl) rfl rfl (by decide) ?_
        refine wl_nil ?_
        refine fq_then ?_
        refine wc_ret ?_
        refine fq_ret1 rfl rfl (fun w1 H => ?_)
        exact ⟨rfl, (by first | exact hB.next (H.toBelow (by simp)) | exact H.toBelow (by simp))⟩
end Go.Proofs.YtbcijmpkmmcdeaaDoor.SF
end
