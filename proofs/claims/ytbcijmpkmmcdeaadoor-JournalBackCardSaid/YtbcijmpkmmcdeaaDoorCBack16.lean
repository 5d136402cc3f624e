/- JournalBack: for every input the law returns true, the table as it is laid. No condition. -/
import Derived.Test.YtbcijmpkmmcdeaaDoorCBack15
import Derived.Test.YtbcijmpkmmcdeaaDoorCBack3
import Derived.Test.YtbcijmpkmmcdeaaDoorCBack4
import Derived.SizedLaws
import Derived.ChangeArms
import Derived.DataElems
import Derived.DataReads
import Derived.ProofKit
import Derived.OpenShut
import Derived.Test.YtbcijmpkmmcdeaaDoorCBack9
import Derived.ChangeSame
import Derived.Test.YtbcijmpkmmcdeaaDoorRows
import Derived.LaidLaws
import Derived.JoinedOf
import Derived.ChangeVars
import Derived.Handed
import Derived.Test.YtbcijmpkmmcdeaaDoorTie
import Derived.Test.YtbcijmpkmmcdeaaDoorCards
import Derived.SevenTiedAt
import Derived.WalkKit
import Derived.ShutString
import Derived.ChangeOld
import Derived.Below
section
namespace Go.Proofs.YtbcijmpkmmcdeaaDoor.SF
open Go.RowKit Go.Sx Go.Proofs.YtbcijmpkmmcdeaaDoor.PAll Go.Proofs.YtbcijmpkmmcdeaaDoorW.PrintWords Go.Proofs.YtbcijmpkmmcdeaaDoorW.PrintLast Go.Proofs.YtbcijmpkmmcdeaaDoorW.PrintMore
set_option linter.unusedVariables false
set_option linter.unusedSimpArgs false
set_option maxRecDepth 100000
theorem u64_wf {x : Int} (h : (Lit.int .u64 x).wf = true) : 0 ≤ x ∧ x < 18446744073709551616 := by
  have : 0 ≤ x ∧ x ≤ 18446744073709551615 := by simpa [Lit.wf, IntKind.min, IntKind.max, IntKind.signed, IntKind.bits] using h
  omega
theorem same_of {base : Nat} (bu ma cr : Int) (qa qb : Gh) (l : List S51) (w : World) (ha : w.ownsRow base 91 2 (.slice qa.1 l.length qa.2) l.length ((l.map to91).flatMap pc91)) (hb : RowR w qb (l.map to91)) (hl : l.length ≤ 100000) :
    Calls Tryd.prog 18 #[.agg #[.int .i64 bu, .int .i64 ma, .int .i64 cr, .slice qa.1 l.length qa.2], .agg #[.int .i64 bu, .int .i64 ma, .int .i64 cr, .slice qb.1 l.length qb.2]] w fun e w' => e = .returned (.bool true) ∧ Below w.heap.size w w' := by
  have h := same_calls bu ma cr qa qb (l.map to91) w (own91 ha hl) hb (by rw [List.length_map]; exact hl)
  rw [List.length_map] at h
  exact h
set_option maxHeartbeats 1000000 in
theorem back_calls (bu ma cr seq : Int) (q : Gh) (l : List S51) (w : World) (hr : RowP w q l) (hs : 0 ≤ seq ∧ seq < 18446744073709551616) (hh : Half w) :
    Calls Tryd.prog 8 #[.agg #[.int .i64 bu, .int .i64 ma, .int .i64 cr, .slice q.1 l.length q.2], .int .u64 seq] w fun e w' => e = .returned (.bool true) ∧ Below w.heap.size w w' := by
  refine enter (w0 := w) (hp := [old w]) (env := [(0, .agg #[.int .i64 bu, .int .i64 ma, .int .i64 cr, .slice q.1 l.length q.2]), (1, .int .u64 seq)]) Tryd.func8 rfl 47 rfl (by simp) rfl (HeapOK.start _) ?_
  refine wc_seq ?_
  refine wc_region ?_
  refine wl_box rfl rfl rfl (by decide) rfl rfl (fun b1 => ?_)
  refine wl_q (q_assign rfl rfl) rfl rfl (by decide) ?_
  refine wl_nil ?_
  refine fq_then ?_
  refine wc_seq ?_
  refine wc_region ?_
  refine wl_q (q_call rfl En21 rfl (fun w1 hw1 => awake16_calls w1 (hh.keep (hw1.toBelow (by simp))))) rfl rfl (by decide) ?_
  refine wl_q (q_assign rfl rfl) rfl rfl (by decide) ?_
  refine wl_nil ?_
  refine fq_then ?_
  refine wc_seq ?_
  refine wc_seq ?_
  refine wc_region ?_
  refine wl_q (q_move rfl rfl) rfl rfl (by decide) ?_
  refine wl_q (q_not rfl rfl) rfl rfl (by decide) ?_
  refine wl_nil ?_
  refine fq_then ?_
  refine wc_false rfl ?_
  refine wc_skip ?_
  refine fq_then ?_
  refine wc_seq ?_
  refine wc_region ?_
  refine wl_q (q_loadA rfl rfl Mn32 Sz32 rfl (readsAll (i := 0) rfl)) rfl rfl (by decide) ?_
  refine wl_q (q_call rfl En22 rfl (fun w1 hw1 => few16_calls bu ma cr q l w1 (hr.below (hw1.toBelow (by simp))))) rfl rfl (by decide) ?_
  refine wl_q (q_assign rfl rfl) rfl rfl (by decide) ?_
  refine wl_nil ?_
  refine fq_then ?_
  refine wc_seq ?_
  refine wc_seq ?_
  refine wc_region ?_
  refine wl_q (q_move rfl rfl) rfl rfl (by decide) ?_
  refine wl_q (q_not rfl rfl) rfl rfl (by decide) ?_
  refine wl_q (q_move rfl rfl) rfl rfl (by decide) ?_
  refine wl_split (t := 18) rfl (fun h18 => ?_) (fun h18 => ?_)
  · skip
    have q18 := h18
    try simp only [decide_eq_true_eq, decide_eq_false_iff_not, beq_iff_eq, beq_eq_false_iff_ne, bne_iff_ne, ne_eq, bne_eq_false_iff_eq, Int.not_lt, Int.not_le] at q18
    refine wl_skip (b := true) rfl rfl rfl rfl (by decide) ?_
    refine wl_skip (b := true) rfl rfl rfl rfl (by decide) ?_
    refine wl_skip (b := true) rfl rfl rfl rfl (by decide) ?_
    refine wl_q (q_pick rfl rfl rfl) rfl rfl (by decide) ?_
    refine wl_nil ?_
    refine fq_then ?_
    refine wc_true rfl ?_
    refine wc_seq ?_
    refine wc_region ?_
    refine wl_q (q_assign rfl rfl) rfl rfl (by decide) ?_
    refine wl_nil ?_
    refine fq_then ?_
    refine wc_ret ?_
    refine fq_then_ret ?_
    refine fq_ret1 rfl rfl (fun w1 H => ?_)
    exact ⟨rfl, (by first | exact hB.next (H.toBelow (by simp)) | exact H.toBelow (by simp))⟩
  · skip
    have q18 := h18
    try simp only [decide_eq_true_eq, decide_eq_false_iff_not, beq_iff_eq, beq_eq_false_iff_ne, bne_iff_ne, ne_eq, bne_eq_false_iff_eq, Int.not_lt, Int.not_le] at q18
    refine wl_want (b := false) (q_loadA rfl rfl Mn32 Sz32 rfl (readsAll (i := 0) rfl)) rfl rfl rfl rfl (by decide) ?_
    refine wl_want (b := false) (q_call rfl En35 rfl (fun w1 hw1 => check_calls bu ma cr q l w1 (hr.below (hw1.toBelow (by simp))) (by have : l.length ≤ 80 := (by simpa using h18); omega))) rfl rfl rfl rfl (by decide) ?_
    refine wl_want (b := false) (q_not rfl rfl) rfl rfl rfl rfl (by decide) ?_
    refine wl_q (q_pick rfl rfl rfl) rfl rfl (by decide) ?_
    refine wl_nil ?_
    refine fq_then ?_
    refine wc_cond rfl (fun h22 => ?_) (fun h22 => ?_)
    · skip
      have q22 := h22
      try simp only [decide_eq_true_eq, decide_eq_false_iff_not, beq_iff_eq, beq_eq_false_iff_ne, bne_iff_ne, ne_eq, bne_eq_false_iff_eq, Int.not_lt, Int.not_le] at q22
      refine wc_seq ?_
      refine wc_region ?_
      refine wl_q (q_assign rfl rfl) rfl rfl (by decide) ?_
      refine wl_nil ?_
      refine fq_then ?_
      refine wc_ret ?_
      refine fq_then_ret ?_
      refine fq_ret1 rfl rfl (fun w1 H => ?_)
      exact ⟨rfl, (by first | exact hB.next (H.toBelow (by simp)) | exact H.toBelow (by simp))⟩
    · skip
      have q22 := h22
      try simp only [decide_eq_true_eq, decide_eq_false_iff_not, beq_iff_eq, beq_eq_false_iff_ne, bne_iff_ne, ne_eq, bne_eq_false_iff_eq, Int.not_lt, Int.not_le] at q22
      have hl80 : l.length ≤ 80 := by simpa using h18
      have hck : PChk.chkB bu ma cr l = true := by simpa using h22
      have hm := mayBe_of hck
      refine wc_skip ?_
      refine fq_then ?_
      refine wc_seq ?_
      refine wc_region ?_
      refine wl_q (q_loadA rfl rfl Mn32 Sz32 rfl (readsAll (i := 0) rfl)) rfl rfl (by decide) ?_
      refine wl_q (q_move rfl rfl) rfl rfl (by decide) ?_
      refine wl_callK (ι := Gh) (fun i => .slice i.1 (jput bu ma l seq).length i.2) (fun i w w' => RowC w' i (jput bu ma l seq)) rfl rfl rfl (by decide) En25 rfl (fun w1 hw1 => PutK bu ma cr seq q l w1 (hr.below (hw1.toBelow (by simp))) (by omega) (hh.keep (hw1.toBelow (by simp)))) (fun pt wa_ w_2 _ Hn_ _ hC_ => ?_)
      have hx_ := Hn_.toBelow (by simp)
      have fb_b1 : Blk w_2 b1 _ _ := Hn_.get (i := 0) rfl
      have hh := hh.keep hx_
      have hr := hr.below hx_
      have hB := hx_
      have hR_pt := hC_
      refine wl_callK (ι := Gh) (fun i => .tuple #[.agg #[.int .i64 bu, .int .i64 ma, .int .i64 0, .slice i.1 l.length i.2], .int .u64 seq, .int .i64 0]) (fun i w w' => RowP w' i l) rfl rfl rfl (by decide) En23 rfl (fun w1 hw1 => GetPutK hm (by omega) hs (hh.keep (hw1.toBelow (by simp))) (hR_pt.below (hw1.toBelow (by simp)))) (fun gt wa_ w_3 _ Hn_ _ hC_ => ?_)
      have hx_ := Hn_.toBelow (by simp)
      have hh := hh.keep hx_
      have hr := hr.below hx_
      have fb_b1 := fb_b1.below hx_
      have hR_pt := hR_pt.below hx_
      have hB := hB.next hx_
      have hP_gt := hC_
      refine wl_q (q_move rfl rfl) rfl rfl (by decide) ?_
      refine wl_q (q_extract rfl rfl rfl) rfl rfl (by decide) ?_
      refine wl_q (q_extract rfl rfl rfl) rfl rfl (by decide) ?_
      refine wl_q (q_extract rfl rfl rfl) rfl rfl (by decide) ?_
      refine wl_alloc rfl rfl rfl (by decide) Zr32 (fun b4 => ?_)
      refine wl_store (i := 0) rfl rfl rfl rfl rfl rfl Sz32 rfl rfl (by simp) (by simp [Value.oneCell']) (by first | (simp only [List.take_succ_cons, List.take_zero, List.take_nil, List.drop_succ_cons, List.drop_zero, List.drop_nil, List.nil_append, List.cons_append, List.append_nil, List.length_cons, List.length_nil, Nat.reduceAdd, Nat.zero_add]; rfl) | rfl) (by first | (simp only [List.set_cons_zero, List.set_cons_succ]; rfl) | rfl) ?_
      refine wl_q (q_assign rfl rfl) rfl rfl (by decide) ?_
      refine wl_q (q_assign rfl rfl) rfl rfl (by decide) ?_
      refine wl_nil ?_
      refine fq_then ?_
      refine wc_seq ?_
      refine wc_region ?_
      refine wl_q (q_loadA rfl rfl Mn32 Sz32 rfl (reads_blkA (by simp) fb_b1)) rfl rfl (by decide) ?_
      refine wl_callK (ι := Gh) (fun i => .agg #[.int .i64 bu, .int .i64 ma, .int .i64 cr, .slice i.1 l.length i.2]) (fun i w w' => RowR w' i (l.map to91)) rfl rfl rfl (by decide) En27 rfl (fun w1 hw1 => ofK16 bu ma cr q l w1 (hr.below (hw1.toBelow (by simp))) (by omega)) (fun wt wa_ w_5 _ Hn_ _ hC_ => ?_)
      have hx_ := Hn_.toBelow (by simp)
      have fb_b4 : Blk w_5 b4 _ _ := Hn_.get (i := 0) rfl
      have hh := hh.keep hx_
      have hr := hr.below hx_
      have fb_b1 := fb_b1.below hx_
      have hR_pt := hR_pt.below hx_
      have hP_gt := hP_gt.below hx_
      have hB := hB.next hx_
      have hQ_wt := hC_
      refine wl_alloc rfl rfl rfl (by decide) Zr42 (fun b6 => ?_)
      refine wl_store (i := 0) rfl rfl rfl rfl rfl rfl Sz42 rfl rfl (by simp) (by simp [Value.oneCell']) (by first | (simp only [List.take_succ_cons, List.take_zero, List.take_nil, List.drop_succ_cons, List.drop_zero, List.drop_nil, List.nil_append, List.cons_append, List.append_nil, List.length_cons, List.length_nil, Nat.reduceAdd, Nat.zero_add]; rfl) | rfl) (by first | (simp only [List.set_cons_zero, List.set_cons_succ]; rfl) | rfl) ?_
      refine wl_nil ?_
      refine fq_then ?_
      refine wc_seq ?_
      refine wc_region ?_
      refine wl_q (q_fa (o1 := 2) rfl rfl Fo42_2 rfl) rfl rfl (by decide) ?_
      refine wl_store (i := 0) rfl rfl rfl rfl rfl rfl Sz3 rfl rfl (by simp) (by simp [Value.oneCell']) (by first | (simp only [List.take_succ_cons, List.take_zero, List.take_nil, List.drop_succ_cons, List.drop_zero, List.drop_nil, List.nil_append, List.cons_append, List.append_nil, List.length_cons, List.length_nil, Nat.reduceAdd, Nat.zero_add]; rfl) | rfl) (by first | (simp only [List.set_cons_zero, List.set_cons_succ]; rfl) | rfl) ?_
      refine wl_nil ?_
      refine fq_then ?_
      refine wc_seq ?_
      refine wc_any Fol (any_drawG (ι := Gh) 14 0 [(9, fun X => [Sx.Item.own 0 91 2 (.slice (X 9).1 l.length (X 9).2) l.length ((l.map to91).flatMap pc91)]), (11, fun X => [Sx.Item.own 0 91 2 (.slice (X 9).1 l.length (X 9).2) l.length ((l.map to91).flatMap pc91)])] [⟨[], [], []⟩, ⟨[], [], []⟩, ⟨[], [], []⟩, ⟨[], [], []⟩, ⟨[], [], []⟩, ⟨[], [], []⟩, ⟨[], [], []⟩, ⟨[], [], []⟩, ⟨[], [], []⟩, ⟨[], [], []⟩, ⟨[], [], []⟩, ⟨[9], [], [9]⟩, ⟨[], [], [9, 11]⟩, ⟨[], [], [9, 11]⟩] (by kernel_rfl) (ChainG.yield [] [] (fun X => q_move rfl rfl) rfl rfl (fun _ => rfl) (fun _ _ => rfl) (fun X Y h0 h => ⟨by first | rfl | simp only [h0], by first | rfl | simp only [h0]⟩) (ChainG.yield [] [] (fun X => OpQ.to (q_bin rfl rfl rfl rfl) (congrArg Value.bool (by rfl))) rfl rfl (fun _ => rfl) (fun _ _ => rfl) (fun X Y h0 h => ⟨by first | rfl | simp only [h0], by first | rfl | simp only [h0]⟩) (ChainG.yield [] [] (fun X => q_move rfl rfl) rfl rfl (fun _ => rfl) (fun _ _ => rfl) (fun X Y h0 h => ⟨by first | rfl | simp only [h0], by first | rfl | simp only [h0]⟩) (ChainG.wantq (b := true) [] [] (fun X => q_move rfl rfl) rfl rfl (fun _ => rfl) rfl (fun _ => rfl) (fun _ _ => rfl) (fun X Y h0 h => ⟨by first | rfl | simp only [h0], by first | rfl | simp only [h0]⟩) (ChainG.wantq (b := true) [] [] (fun X => q_move rfl rfl) rfl rfl (fun _ => rfl) rfl (fun _ => rfl) (fun _ _ => rfl) (fun X Y h0 h => ⟨by first | rfl | simp only [h0], by first | rfl | simp only [h0]⟩) (ChainG.wantq (b := true) [] [] (fun X => OpQ.to (q_bin rfl rfl rfl rfl) (congrArg Value.bool (show (seq == seq) = true by simp))) rfl rfl (fun _ => rfl) rfl (fun _ => rfl) (fun _ _ => rfl) (fun X Y h0 h => ⟨by first | rfl | simp only [h0], by first | rfl | simp only [h0]⟩) (ChainG.yield [] [] (fun X => q_pick rfl rfl rfl) rfl rfl (fun _ => rfl) (fun _ _ => rfl) (fun X Y h0 h => ⟨by first | rfl | simp only [h0], by first | rfl | simp only [h0]⟩) (ChainG.yield [] [] (fun X => q_move rfl rfl) rfl rfl (fun _ => rfl) (fun _ _ => rfl) (fun X Y h0 h => ⟨by first | rfl | simp only [h0], by first | rfl | simp only [h0]⟩) (ChainG.wantq (b := true) [] [] (fun X => q_loadA rfl rfl Mn32 Sz32 rfl (reads_blkA (by simp) fb_b4)) rfl rfl (fun _ => rfl) rfl (fun _ => rfl) (fun _ _ => rfl) (fun X Y h0 h => ⟨by first | rfl | simp only [h0], by first | rfl | simp only [h0]⟩) (ChainG.opew (b := true) (fun (X : Nat → Gh) => .agg #[.int .i64 bu, .int .i64 ma, .int .i64 0, .slice (X 9).1 l.length (X 9).2]) [] [] (fun X => oe_call rfl En27 rfl (fun R w1 hw1 => (of16_calls bu ma 0 gt l w1 (hP_gt.below (hw1.toBelow (by simp))) (by omega)).mono (fun e w' ⟨i, h1, h2⟩ => ⟨i, h1, hw1.lift1 h2⟩))) rfl rfl (fun _ => rfl) rfl (fun X Y h0 h => ⟨by first | rfl | (show (.agg #[.int .i64 bu, .int .i64 ma, .int .i64 0, .slice (X 9).1 l.length (X 9).2] : Value) = .agg #[.int .i64 bu, .int .i64 ma, .int .i64 0, .slice (Y 9).1 l.length (Y 9).2]; simp only [h0]), by first | rfl | (show ([Sx.Item.own 0 91 2 (.slice (X 9).1 l.length (X 9).2) l.length ((l.map to91).flatMap pc91)] : List Sx.Item) = [Sx.Item.own 0 91 2 (.slice (Y 9).1 l.length (Y 9).2) l.length ((l.map to91).flatMap pc91)]; simp only [h0])⟩) (ChainG.wantq (b := true) [] [] (fun X => q_loadA rfl rfl Mn42 Sz42 rfl (readsAll (i := 0) rfl)) rfl rfl (fun _ => rfl) rfl (fun _ => rfl) (fun _ _ => rfl) (fun X Y h0 h => ⟨by first | rfl | simp only [h0], by first | rfl | simp only [h0]⟩) (ChainG.opew (b := true) (fun (X : Nat → Gh) => .bool true) [9] [9] (fun X => oe_call rfl En18 rfl (fun R w1 hw1 => (same_of bu ma 0 (X 9) wt l w1 (hw1.get (i := 0) rfl) (hQ_wt.below (hw1.toBelow (by simp))) (by omega)).mono (fun e w' ⟨h1, h2⟩ => ⟨(none, 0), h1, hw1.below h2⟩))) rfl rfl (fun _ => rfl) rfl (fun X Y h0 h => ⟨by first | rfl | (show (.bool true : Value) = .bool true; simp only [h0, h 9 (by decide)]), by first | rfl | (show ([Sx.Item.own 0 91 2 (.slice (X 9).1 l.length (X 9).2) l.length ((l.map to91).flatMap pc91)] : List Sx.Item) = [Sx.Item.own 0 91 2 (.slice (Y 9).1 l.length (Y 9).2) l.length ((l.map to91).flatMap pc91)]; simp only [h0, h 9 (by decide)])⟩) (ChainG.yield [] [9, 11] (fun X => q_pick rfl rfl rfl) rfl rfl (fun _ => rfl) (fun _ _ => rfl) (fun X Y h0 h => ⟨by first | rfl | simp only [h0, h 9 (by decide), h 11 (by decide)], by first | rfl | simp only [h0, h 9 (by decide), h 11 (by decide)]⟩) (ChainG.yield [] [9, 11] (fun X => q_assign rfl rfl) rfl rfl (fun _ => rfl) (fun _ _ => rfl) (fun X Y h0 h => ⟨by first | rfl | simp only [h0, h 9 (by decide), h 11 (by decide)], by first | rfl | simp only [h0, h 9 (by decide), h 11 (by decide)]⟩) (ChainG.nil _ _))))))))))))))) rfl rfl (fun X => [_, _, _]) (fun _ => rfl) (fun X => ?_))
      generalize X 9 = og9
      refine wl_nil ?_
      refine fq_then ?_
      refine wc_ret ?_
      refine fq_ret1 rfl rfl (fun w1 H => ?_)
      exact ⟨rfl, (by first | exact hB.next (H.toBelow (by simp)) | exact H.toBelow (by simp))⟩
end Go.Proofs.YtbcijmpkmmcdeaaDoor.SF
end
section
namespace Go.Proofs.YtbcijmpkmmcdeaaDoor.Op
open Go.RowKit Go.Proofs.YtbcijmpkmmcdeaaDoorW.PrintWords
open Go.ChangeShapes Go.WideShapes
structure Opens {α : Type} (K : Kd α) (P : Program) (t : TypeId) (ok : α → Prop) : Prop where
  sz : P.cellsOf t = K.sz
  op : ∀ {H : Type} {enc : TypeId × Value → H} {w : World} {base : Nat} {spare : Nat → Bool} {held : Bool} {fuel : Nat} {cs : List Value} {x : DataW H × List MemPlace},
    DataW.trod enc P w base spare held fuel t cs = some x → ∃ a, K.K w a cs ∧ ok a
theorem Opens.int {P : Program} {t : TypeId} (k : IntKind) (ht : P.underlying t = some (.int k)) (hc : P.cellsOf t = 1) : Opens (Kd.int k) P t (fun n => (Lit.int k n).wf = true) :=
  ⟨hc, fun h => by obtain ⟨n, rfl, _, hw⟩ := DataW.trod_int ht h; exact ⟨n, rfl, hw⟩⟩
theorem Opens.bool {P : Program} {t : TypeId} (ht : P.underlying t = some .bool) (hc : P.cellsOf t = 1) : Opens Kd.bool P t (fun _ => True) :=
  ⟨hc, fun h => by obtain ⟨b, rfl, _⟩ := DataW.trod_bool ht h; exact ⟨b, rfl, trivial⟩⟩
theorem Opens.string {P : Program} {t : TypeId} (ht : P.underlying t = some .string) (hc : P.cellsOf t = 1) : Opens Kd.string P t (fun s => s.size ≤ maxLen) :=
  ⟨hc, fun h => by obtain ⟨s, rfl, _, hw⟩ := DataW.trod_string ht h; exact ⟨s, rfl, hw⟩⟩
theorem cells_at {w : World} {base : Nat} {a : Addr} {n : Nat} {cs : List Value} (h : w.cells? base a n = some cs) : cs.length = n ∧ ∀ i u, cs[i]? = some u → w.cell? (a.add i) = some u := by
  obtain ⟨_, hl, hc⟩ := World.cells?_some h
  refine ⟨hl, fun i u hu => ?_⟩
  have hi : i < n := by have := (List.getElem?_eq_some_iff.1 hu).1; omega
  rw [hc i hi, hu]
theorem Opens.slice {α : Type} {K : Kd α} {P : Program} {t e : TypeId} {ok : α → Prop} (ht : P.underlying t = some (.slice e)) (hc : P.cellsOf t = 1) (h : Opens K P e ok) :
    Opens (Kd.slice e K) P t (fun xs => xs.length ≤ maxLen ∧ ∀ x ∈ xs, ok x) := by
  refine ⟨hc, fun {H enc w base spare held fuel cs x} hx => ?_⟩
  rcases DataW.trod_slice ht hx with ⟨rfl, _⟩ | ⟨a, len, cap, elems, rest, n, _, rfl, _, _, hl, hm, hlen, hel, _, _⟩
  · exact ⟨[], ⟨none, 0, rfl, Nat.le_refl _, rfl, by simp, fun h0 => absurd h0 (by simp)⟩, by simp, by simp⟩
  · have each : ∀ i, i < len → ∃ a', ok a' ∧ ∃ cs, cs.length = K.sz ∧ K.K w a' cs ∧ ∀ j u, cs[j]? = some u → w.cell? (a.add (i * K.sz + j)) = some u := by
      intro i hi
      have h1 := hel i hi
      rw [List.getElem?_eq_getElem (by omega), Option.bind_eq_some_iff] at h1
      obtain ⟨cs', hcs, hy⟩ := h1
      obtain ⟨a', hk, ho⟩ := h.op hy
      obtain ⟨hlc, hcell⟩ := cells_at hcs
      refine ⟨a', ho, cs', by rw [hlc, h.sz], hk, fun j u hu => ?_⟩
      have := hcell j u hu
      rwa [h.sz, Addr.add_add] at this
    have pick : ∀ m, m ≤ len → ∃ xs : List α, xs.length = m ∧ (∀ x ∈ xs, ok x) ∧ ∀ i p, xs[i]? = some p → ∃ cs, cs.length = K.sz ∧ K.K w p cs ∧ ∀ j u, cs[j]? = some u → w.cell? (a.add (i * K.sz + j)) = some u := by
      intro m
      induction m with
      | zero => intro _; exact ⟨[], rfl, by simp, by simp⟩
      | succ m ih =>
        intro hm'
        obtain ⟨xs, hxl, hxo, hxc⟩ := ih (by omega)
        obtain ⟨a', ho, hcs⟩ := each m (by omega)
        refine ⟨xs ++ [a'], by simp [hxl], fun y hy => ?_, fun i p hp => ?_⟩
        · rcases List.mem_append.1 hy with hy | hy
          · exact hxo y hy
          · rw [List.mem_singleton.1 hy]; exact ho
        · by_cases hi : i < m
          · rw [List.getElem?_append_left (by omega)] at hp
            exact hxc i p hp
          · have : i = m := by
              have := (List.getElem?_eq_some_iff.1 hp).1
              simp [hxl] at this; omega
            subst this
            rw [List.getElem?_append_right (by omega), hxl] at hp
            simp at hp
            subst hp
            exact hcs
    obtain ⟨xs, hxl, hxo, hxc⟩ := pick len (Nat.le_refl _)
    refine ⟨xs, ⟨some a, cap, by rw [hxl], by omega, rfl, by unfold maxLen at hm; omega, fun _ => ⟨a, rfl, hxc⟩⟩, by omega, hxo⟩
end Go.Proofs.YtbcijmpkmmcdeaaDoor.Op
end
section
namespace Go.Proofs.YtbcijmpkmmcdeaaDoor.PAll
open Go.RowKit Go.Proofs.YtbcijmpkmmcdeaaDoorW.PrintWords Go.Proofs.YtbcijmpkmmcdeaaDoorW.PrintLast Go.Proofs.YtbcijmpkmmcdeaaDoorW.PrintMore
open Go.ChangeShapes Go.WideShapes
set_option linter.unusedVariables false
set_option linter.unusedSimpArgs false
set_option maxRecDepth 100000
theorem opens51 : Op.Opens k51 Tryd.prog 51 (fun _ => True) := by
  refine ⟨by kernel_rfl, fun {H enc w base spare held fuel cs x} hx => ?_⟩
  obtain ⟨y0, y1, n, _, hl, h0, h1⟩ := trod_struct2 Tryd.underlying51 hx
  have hc3 : Tryd.prog.cellsOf 3 = 1 := by kernel_rfl
  have hc51 : Tryd.prog.cellsOf 51 = 2 := by kernel_rfl
  rw [hc51] at hl
  match cs, hl with
  | [u, v], _ =>
    simp only [hc3, List.drop_zero, List.take_succ_cons, List.take_zero, List.drop_succ_cons] at h0 h1
    obtain ⟨a, ea, _, _⟩ := DataW.trod_int Tryd.underlying3 h0
    obtain ⟨b, eb, _, _⟩ := DataW.trod_int Tryd.underlying3 h1
    simp only [List.cons.injEq, and_true] at ea eb
    subst ea; subst eb
    exact ⟨⟨a, b⟩, ⟨_, _, rfl, rfl, rfl⟩, trivial⟩
theorem ledger_open {H : Type} {enc : TypeId × Value → H} {w : World} {base : Nat} {spare : Nat → Bool} {held : Bool} {fuel : Nat} {cs : List Value} {x : DataW H × List MemPlace} (h : DataW.trod enc Tryd.prog w base spare held fuel 32 cs = some x) :
    ∃ (b m cr : Int) (A : Option Addr) (c : Nat) (l : List S51), cs = [.int .i64 b, .int .i64 m, .int .i64 cr, .slice A l.length c] ∧ l.length ≤ c ∧ Kd.C k51 w A l.length l := by
  obtain ⟨xs, n, _, _, hl, hlen, hf⟩ := DataW.trod_struct Tryd.underlying32 h
  have hc3 : Tryd.prog.cellsOf 3 = 1 := by kernel_rfl
  have hc30 : Tryd.prog.cellsOf 30 = 1 := by kernel_rfl
  have hc32 : Tryd.prog.cellsOf 32 = 4 := by kernel_rfl
  rw [hc32] at hl
  match cs, hl, xs, hlen with
  | [u, v, y, z], _, [x0, x1, x2, x3], _ =>
    have f0 : DataW.trod enc Tryd.prog w base spare held n 3 (([u, v, y, z].drop 0).take (Tryd.prog.cellsOf 3)) = some x0 := hf 0 _ rfl
    have f1 : DataW.trod enc Tryd.prog w base spare held n 3 (([u, v, y, z].drop 1).take (Tryd.prog.cellsOf 3)) = some x1 := hf 1 _ rfl
    have f2 : DataW.trod enc Tryd.prog w base spare held n 3 (([u, v, y, z].drop 2).take (Tryd.prog.cellsOf 3)) = some x2 := hf 2 _ rfl
    have f3 : DataW.trod enc Tryd.prog w base spare held n 30 (([u, v, y, z].drop 3).take (Tryd.prog.cellsOf 30)) = some x3 := hf 3 _ rfl
    rw [hc3] at f0 f1 f2
    rw [hc30] at f3
    obtain ⟨a, ea, _, _⟩ := DataW.trod_int Tryd.underlying3 (show DataW.trod enc Tryd.prog w base spare held n 3 [u] = some x0 from f0)
    obtain ⟨b, eb, _, _⟩ := DataW.trod_int Tryd.underlying3 (show DataW.trod enc Tryd.prog w base spare held n 3 [v] = some x1 from f1)
    obtain ⟨c, ec, _, _⟩ := DataW.trod_int Tryd.underlying3 (show DataW.trod enc Tryd.prog w base spare held n 3 [y] = some x2 from f2)
    simp only [List.cons.injEq, and_true] at ea eb ec
    subst ea; subst eb; subst ec
    obtain ⟨l, ⟨A, cc, ez, hlc, hC⟩, _⟩ := (Op.Opens.slice (K := k51) Tryd.underlying30 hc30 opens51).op (show DataW.trod enc Tryd.prog w base spare held n 30 [z] = some x3 from f3)
    simp only [List.cons.injEq, and_true] at ez
    subst ez
    exact ⟨a, b, c, A, cc, l, rfl, hlc, hC⟩
end Go.Proofs.YtbcijmpkmmcdeaaDoor.PAll
end
section
namespace Go.Proofs.YtbcijmpkmmcdeaaDoor.Laid
open Go.ChangeShapes Go.WideShapes Go.ChangeAt Go.RowKit
open Go.Proofs.YtbcijmpkmmcdeaaDoor.PAll (Half halfL)
theorem half_no : Tryd.prog.globalNamed "paternoster/crc.half" = some 0 := by kernel_rfl
theorem half_type : (Tryd.prog.globals[0]?).map (·.type) = some 139 := by kernel_rfl
theorem cellsA : Tryd.prog.cellsOf 139 = 16 := by kernel_rfl
theorem cellsE : Tryd.prog.cellsOf 132 = 1 := by kernel_rfl
theorem int_of_trod {H : Type} {enc : TypeId × Value → H} {P : Program} {w : World} {base : Nat} {sp : Nat → Bool} {held : Bool} {fuel : Nat} {t : TypeId} {k : IntKind} {c : Value} {y : DataW H × List MemPlace}
    (ht : P.underlying t = some (.int k)) (h : DataW.trod enc P w base sp held fuel t [c] = some y) : ∃ n, c = .int k n ∧ y = (.lit (.int k n), []) := by
  cases fuel with
  | zero => simp [DataW.trod] at h
  | succ fuel =>
    cases c <;> simp [DataW.trod, ht] at h
    rename_i k' n
    obtain ⟨⟨rfl, _⟩, rfl⟩ := h
    exact ⟨n, rfl, rfl⟩
def cells : Array Value := (halfL.map (Value.int .u32)).toArray
theorem cells_of_laid {W : World} (h : laidMet Tryd.prog [("paternoster/crc.half", Rows.laid_paternoster_crc_half)] W) : W.var? Tryd.prog "paternoster/crc.half" = some cells := by
  obtain ⟨ps, ⟨g, t, cs, fuel, p, q, hg, ht, hvar, hd, _, _⟩, _⟩ := h
  obtain rfl := Option.some.inj (half_no.symm.trans hg)
  obtain rfl := Option.some.inj (half_type.symm.trans ht)
  rw [hvar]
  congr 1
  obtain ⟨l⟩ := cs
  cases fuel with
  | zero => simp [DataW.trod] at hd
  | succ fuel =>
    simp only [DataW.trod, Tryd.underlying139, cellsA, cellsE] at hd
    split at hd
    · rename_i hl
      obtain ⟨c0, c1, c2, c3, c4, c5, c6, c7, c8, c9, c10, c11, c12, c13, c14, c15, rfl⟩ : ∃ c0 c1 c2 c3 c4 c5 c6 c7 c8 c9 c10 c11 c12 c13 c14 c15, l = [c0, c1, c2, c3, c4, c5, c6, c7, c8, c9, c10, c11, c12, c13, c14, c15] := by
        match l, hl with
        | [a, b, c, d, e, f, g, h, i, j, k, l, m, n, o, p], _ => exact ⟨a, b, c, d, e, f, g, h, i, j, k, l, m, n, o, p, rfl⟩
      have e : List.range 16 = [0, 1, 2, 3, 4, 5, 6, 7, 8, 9, 10, 11, 12, 13, 14, 15] := rfl
      rw [e] at hd
      simp only [Option.map_eq_some_iff, List.mapM_cons, List.mapM_nil, Option.bind_eq_bind, Option.bind_eq_some_iff, Option.pure_def, Option.some.injEq] at hd
      obtain ⟨xs, ⟨y0, h0, _, ⟨y1, h1, _, ⟨y2, h2, _, ⟨y3, h3, _, ⟨y4, h4, _, ⟨y5, h5, _, ⟨y6, h6, _, ⟨y7, h7, _, ⟨y8, h8, _, ⟨y9, h9, _, ⟨y10, h10, _, ⟨y11, h11, _, ⟨y12, h12, _, ⟨y13, h13, _, ⟨y14, h14, _, ⟨y15, h15, _, rfl, rfl⟩, rfl⟩, rfl⟩, rfl⟩, rfl⟩, rfl⟩, rfl⟩, rfl⟩, rfl⟩, rfl⟩, rfl⟩, rfl⟩, rfl⟩, rfl⟩, rfl⟩, rfl⟩, hx⟩ := hd
      obtain ⟨n0, rfl, rfl⟩ := int_of_trod Tryd.underlying132 h0
      obtain ⟨n1, rfl, rfl⟩ := int_of_trod Tryd.underlying132 h1
      obtain ⟨n2, rfl, rfl⟩ := int_of_trod Tryd.underlying132 h2
      obtain ⟨n3, rfl, rfl⟩ := int_of_trod Tryd.underlying132 h3
      obtain ⟨n4, rfl, rfl⟩ := int_of_trod Tryd.underlying132 h4
      obtain ⟨n5, rfl, rfl⟩ := int_of_trod Tryd.underlying132 h5
      obtain ⟨n6, rfl, rfl⟩ := int_of_trod Tryd.underlying132 h6
      obtain ⟨n7, rfl, rfl⟩ := int_of_trod Tryd.underlying132 h7
      obtain ⟨n8, rfl, rfl⟩ := int_of_trod Tryd.underlying132 h8
      obtain ⟨n9, rfl, rfl⟩ := int_of_trod Tryd.underlying132 h9
      obtain ⟨n10, rfl, rfl⟩ := int_of_trod Tryd.underlying132 h10
      obtain ⟨n11, rfl, rfl⟩ := int_of_trod Tryd.underlying132 h11
      obtain ⟨n12, rfl, rfl⟩ := int_of_trod Tryd.underlying132 h12
      obtain ⟨n13, rfl, rfl⟩ := int_of_trod Tryd.underlying132 h13
      obtain ⟨n14, rfl, rfl⟩ := int_of_trod Tryd.underlying132 h14
      obtain ⟨n15, rfl, rfl⟩ := int_of_trod Tryd.underlying132 h15
      simp [Rows.laid_paternoster_crc_half] at hx
      obtain ⟨⟨rfl, rfl, rfl, rfl, rfl, rfl, rfl, rfl, rfl, rfl, rfl, rfl, rfl, rfl, rfl, rfl⟩, _⟩ := hx
      rfl
    · cases hd
theorem half_of_laid {W : World} (h : laidMet Tryd.prog [("paternoster/crc.half", Rows.laid_paternoster_crc_half)] W) : Half W := by
  intro i hi
  have hc := World.var?_cell half_no (cells_of_laid h) i
  rw [hc]
  rcases (show i = 0 ∨ i = 1 ∨ i = 2 ∨ i = 3 ∨ i = 4 ∨ i = 5 ∨ i = 6 ∨ i = 7 ∨ i = 8 ∨ i = 9 ∨ i = 10 ∨ i = 11 ∨ i = 12 ∨ i = 13 ∨ i = 14 ∨ i = 15 by omega) with rfl | rfl | rfl | rfl | rfl | rfl | rfl | rfl | rfl | rfl | rfl | rfl | rfl | rfl | rfl | rfl <;> rfl
noncomputable def laidWorld (os : Os) : World :=
  { World.holding Tryd.prog os ⟨#[], #[], []⟩ with heap := (World.holding Tryd.prog os ⟨#[], #[], []⟩).heap.modify 0 fun
      | .cells _ t frozen => .cells cells t frozen
      | o => o }
theorem laid_met (os : Os) (args : Array Value) : laidMet Tryd.prog [("paternoster/crc.half", Rows.laid_paternoster_crc_half)] ((laidWorld os).forCall (fun _ _ => 0) ⟨#[], args, []⟩).memory :=
  laidMet_of_run' 8 (by kernel_rfl) (by kernel_rfl)
end Go.Proofs.YtbcijmpkmmcdeaaDoor.Laid
end
section
namespace Go.Proofs.YtbcijmpkmmcdeaaDoor.journalBack
open Go.ChangeShapes Go.WideShapes Go.ChangeAt Go.RowKit Go.Proofs.YtbcijmpkmmcdeaaDoorW.PrintWords
open Go.ChangeMaps (open_string shut_string)
set_option linter.unusedVariables false
theorem own : ownKnob Tryd.prog.godebug = none := by kernel_rfl
theorem laidOut : laidOutB Tryd.prog = true := by kernel_rfl
set_option maxRecDepth 100000 in
theorem lifted (os : Os) (started : os.Started) (H : Type) (enc : TypeId × Value → H) :
    ReturnsInHanded {} Tryd.checked os 8 .any (fun w args => (Rows.journalBackSpec.pre enc Tryd.prog Tryd.f8 [] false w args ∧ laidMet Tryd.prog [("paternoster/crc.half", Rows.laid_paternoster_crc_half)] w) ∧ sizedMet enc Tryd.prog Tryd.f8 (OpenSpec.ofChange Rows.journalBackSpec) false w args) (Rows.journalBackSpec.post enc Tryd.prog Tryd.f8 false true false false) := by
  refine returnsInHanded_of_change_and (C := Tryd.checked) (X := fun w _ => laidMet Tryd.prog [("paternoster/crc.half", Rows.laid_paternoster_crc_half)] w) (fun _ _ _ hh h => h.of_heap hh) own started (by kernel_rfl) Tryd.func8
    (ChangeSpec.witness_at (enc := enc) (C := Tryd.checked) (os := os) (X := fun w _ => laidMet Tryd.prog [("paternoster/crc.half", Rows.laid_paternoster_crc_half)] w) false (Laid.laidWorld os) #[.agg #[.int .i64 0, .int .i64 0, .int .i64 0, .slice none 0 0], .int .u64 0] 8 rfl (by kernel_rfl) (by kernel_rfl) (by kernel_rfl) (by kernel_rfl) (by kernel_rfl) (Laid.laid_met os _)) ?_
  intro W base args ds gs before hval0 hW _ hsz0 hL _
  have hhalf := Laid.half_of_laid hL
  have hsz : (DataW.weightsEach Tryd.prog (Tryd.f8.params.toList ++ Rows.journalBackSpec.plain.varTypes Tryd.prog) (ds ++ gs)).all (· ≤ reachBytes) = true := hsz0
  have hval : ∀ (j : Nat) t v, Tryd.f8.params[j]? = some t → args[j]? = some v → Value.okWide Tryd.prog W .any base t v := hval0
  have hW' := hW
  obtain ⟨p, q, hA0, hV, rfl, hfz, hnd⟩ := hW
  have hA : DataW.TrodAll enc Tryd.prog W 0 (fun _ => true) true Tryd.f8.params.toList args.toList ds p := hA0
  rw [Tryd.params8] at hA hval hsz
  obtain ⟨v0, vs0, d0, ds0, p0, q0, hargs, rfl, rfl, h0, r0⟩ := trodAll_cons hA
  obtain ⟨v1, vs1, d1, ds1, p1, q1, rfl, rfl, rfl, h1, r1⟩ := trodAll_cons r0
  obtain ⟨rfl, rfl, rfl⟩ := trodAll_nil r1
  obtain rfl : args = #[v0, v1] := by cases args; simp_all
  obtain ⟨rfl, rfl⟩ := trodVars_none hV
  obtain ⟨cs0, rfl, hz0⟩ := okWide_struct Tryd.underlying32 (hval 0 32 v0 rfl rfl)
  have k0 := h0
  have lt0 : ∀ x ∈ p0, x.block < W.heap.size := by obtain ⟨m, hm⟩ := k0; exact DataW.trod_lt m _ _ _ hm
  obtain ⟨fu0, hf0⟩ := h0
  obtain ⟨bu0, ma0, cr0, A0, c0, l0, e0, hc0, hr0⟩ := PAll.ledger_open hf0
  obtain rfl : cs0 = #[.int .i64 bu0, .int .i64 ma0, .int .i64 cr0, .slice A0 l0.length c0] := by simpa [Value.cells, ← Array.toList_inj] using e0
  obtain ⟨a1, rfl, rfl, rfl, w1⟩ := open_int Tryd.underlying53 (hval 1 53 v1 rfl rfl) h1
  clear hA0 hval0 hsz0
  obtain ⟨k, hk⟩ := (⟨0, trivial⟩ : ∃ k : Nat, True)
  refine (SF.back_calls bu0 ma0 cr0 a1 (A0, c0) l0 W ⟨hc0, hr0⟩ (SF.u64_wf w1) hhalf).mono fun e W' ⟨he, bel⟩ => ?_
  subst he
  exact ⟨_, rfl, _, _, _, [], _, [], hW', trodAll_mk1 (shut_bool Tryd.underlying4 _), (trodAll_cons_mk (Below.trod laidOut (by kernel_rfl) (of_decide_eq_true (by kernel_rfl)) k0 bel lt0) (trodAll_cons_mk (shut_int Tryd.underlying53 w1) trodAll_mk0)), rfl, bel.frame _, fun h => by cases h⟩
theorem over : Rows.journalBackRow.holds Tryd.pinned (OpenSpec.ofChange Rows.journalBackSpec) :=
  OpenClaim.holds_of_wide 8 Tryd.f8 rfl rfl rfl rfl rfl rfl rfl ⟨rfl, rfl, rfl, rfl, rfl⟩ rfl rfl rfl rfl rfl (by kernel_rfl) Tryd.func8 (by kernel_rfl)
    (of_decide_eq_true (by kernel_rfl)) (by unfold Func.isWrapper; first | (rw [if_pos (by decide +kernel)]; kernel_rfl) | (rw [if_neg (by decide +kernel)]; exact ⟨rfl, rfl⟩))
    (fun os started H enc _ => lifted os started H enc)
theorem proved : Rows.JournalBackSaid := over
theorem row_tie : Rows.journalBackRow.laidByTextAt .later Tryd.pinned [.data] true := journalBack_row_tie
theorem card : Rows.JournalBackCardSaid :=
  Claim7.holds_tied_plain_at .later [] [.data] true (true, "fded5a95f2cb90ddeb8c0e98f18869e819c31d73c8176f1dff450dd77119bd84") false
    proved (fun _ h => by cases h) (by kernel_rfl) (fun _ h => by cases h) row_tie rfl ⟨rfl, rfl⟩ (by kernel_rfl) rfl
    (fun f fn hf hfn => by
      obtain rfl : f = 8 := Option.some.inj ((show Tryd.prog.funcNamed "paternoster/paternosterlaw16.JournalBack" = some 8 by kernel_rfl).symm.trans hf) |>.symm
      obtain rfl : fn = Tryd.f8 := (Option.some.inj (Tryd.func8.symm.trans hfn)).symm
      exact ⟨by kernel_rfl, fun j t ht => by
        rw [Tryd.params8] at ht
        have ht' : t ∈ #[32, 53] := Array.mem_of_getElem? ht
        simp only [List.mem_toArray, List.mem_cons, List.not_mem_nil, or_false] at ht'
        rcases ht' with rfl | rfl
        · exact (show Tryd.prog.wantsStandIn 32 = false by kernel_rfl)
        · exact (show Tryd.prog.wantsStandIn 53 = false by kernel_rfl)⟩)
    (by kernel_rfl)
#print axioms card
end Go.Proofs.YtbcijmpkmmcdeaaDoor.journalBack
namespace Go.Proofs.YtbcijmpkmmcdeaaDoor
theorem journalBack_holds : Rows.JournalBackCardSaid := journalBack.card
end Go.Proofs.YtbcijmpkmmcdeaaDoor
end
