/- Walks (no statement stands here). -/
import Derived.Test.YthpfhglncbkinaaDoorSw6
import Derived.Test.YthpfhglncbkinaaDoorPAllx0
import Derived.Test.YthpfhglncbkinaaDoorSz
import Derived.Test.YthpfhglncbkinaaDoorWMore
import Derived.Test.YthpfhglncbkinaaDoorWLast
namespace Go.Proofs.YthpfhglncbkinaaDoor.SF
open Go.RowKit Go.Sx Go.Proofs.YthpfhglncbkinaaDoorW.PrintWords Go.Proofs.YthpfhglncbkinaaDoorW.PrintLast Go.Proofs.YthpfhglncbkinaaDoorW.PrintMore
set_option linter.unusedVariables false
set_option linter.unusedSimpArgs false
set_option maxRecDepth 100000

theorem over1b_calls (w0 : World) (I1 I2 : Sx.Item) (R : List Sx.Item) (b : Nat) (K : Kn) (hK : K.ok) (x : PAll.S40) (A : Option Addr) (c : Nat) (w : World) (hw : HeapOK w0 (I1 :: I2 :: .blk b [.int .i64 K.lag, .int .i64 K.t0, .int .i64 K.t1, .int .i64 K.t2, .int .i64 K.t3, .int .i64 K.t4, .int .i64 K.t5, .int .i64 K.t6, .int .i64 K.t7] 66 :: R) w) : Calls Tryd.prog 35 #[.agg #[.int .i64 x.f0, .int .i64 x.f1, .int .i64 x.f2, .slice A x.f3.length c, .int .u64 x.f4], .pointer (some ⟨b, 0, none⟩)] w fun e w' => e = .returned (.bool (overB x K)) ∧ HeapOK w0 (I1 :: I2 :: .blk b [.int .i64 K.lag, .int .i64 (capI (x.f2)), .int .i64 K.t0, .int .i64 K.t1, .int .i64 K.t2, .int .i64 K.t3, .int .i64 K.t4, .int .i64 K.t5, .int .i64 K.t6] 66 :: R) w' := by
  refine enter (w0 := w0) (hp := (I1 :: I2 :: .blk b [.int .i64 K.lag, .int .i64 K.t0, .int .i64 K.t1, .int .i64 K.t2, .int .i64 K.t3, .int .i64 K.t4, .int .i64 K.t5, .int .i64 K.t6, .int .i64 K.t7] 66 :: R)) (env := [(0, .agg #[.int .i64 x.f0, .int .i64 x.f1, .int .i64 x.f2, .slice A x.f3.length c, .int .u64 x.f4]), (1, .pointer (some ⟨b, 0, none⟩))]) Tryd.func35 rfl 23 rfl (by simp) rfl hw ?_
  refine wc_seq ?_
  refine wc_region ?_
  refine wl_box rfl rfl rfl (by decide) rfl rfl (fun b1 => ?_)
  refine wl_q (q_assign rfl rfl) rfl rfl (by decide) ?_
  refine wl_nil ?_
  refine fq_then ?_
  refine wc_seq ?_
  refine wc_region ?_
  refine wl_q (q_loadA rfl rfl Mn66 Sz66 rfl (readsAll (i := 3) rfl)) rfl rfl (by decide) ?_
  refine wl_q (q_fa (o1 := 2) rfl rfl Fo40_2 rfl) rfl rfl (by decide) ?_
  refine wl_q (q_load rfl rfl Mn3 (reads1 (i := 0) rfl rfl)) rfl rfl (by decide) ?_
  refine wl_q (q_call rfl En36 rfl (fun w1 _ => tell_calls K x.f2 hK w1)) rfl rfl (by decide) ?_
  refine wl_q (q_move rfl rfl) rfl rfl (by decide) ?_
  refine wl_q (q_extract rfl rfl rfl) rfl rfl (by decide) ?_
  refine wl_q (q_extract rfl rfl rfl) rfl rfl (by decide) ?_
  refine wl_alloc rfl rfl rfl (by decide) Zr66 (fun b2 => ?_)
  refine wl_store (i := 0) rfl rfl rfl rfl rfl rfl Sz66 rfl rfl (by simp) (by simp [Value.oneCell']) (by simp only [List.take_succ_cons, List.take_zero, List.take_nil, List.drop_succ_cons, List.drop_zero, List.drop_nil, List.nil_append, List.cons_append, List.append_nil, List.length_cons, List.length_nil, Nat.reduceAdd, Nat.zero_add]; rfl) (by simp only [List.set_cons_zero, List.set_cons_succ]; rfl) ?_
  refine wl_q (q_assign rfl rfl) rfl rfl (by decide) ?_
  refine wl_nil ?_
  refine fq_then ?_
  refine wc_seq ?_
  refine wc_region ?_
  refine wl_q (q_loadA rfl rfl Mn66 Sz66 rfl (readsAll (i := 0) rfl)) rfl rfl (by decide) ?_
  refine wl_store (i := 4) rfl rfl rfl rfl rfl rfl Sz66 rfl rfl (by simp) (by simp [Value.oneCell']) (by simp only [List.take_succ_cons, List.take_zero, List.take_nil, List.drop_succ_cons, List.drop_zero, List.drop_nil, List.nil_append, List.cons_append, List.append_nil, List.length_cons, List.length_nil, Nat.reduceAdd, Nat.zero_add]; rfl) (by simp only [List.set_cons_zero, List.set_cons_succ]; rfl) ?_
  refine wl_nil ?_
  refine fq_then ?_
  refine wc_seq ?_
  refine wc_region ?_
  refine wl_q (q_fa (o1 := 0) rfl rfl Fo40_0 rfl) rfl rfl (by decide) ?_
  refine wl_q (q_load rfl rfl Mn3 (reads1 (i := 1) rfl rfl)) rfl rfl (by decide) ?_
  refine wl_q (q_bin rfl rfl rfl rfl) rfl rfl (by decide) ?_
  refine wl_q (q_move rfl rfl) rfl rfl (by decide) ?_
  refine wl_split (t := 17) rfl (fun h17 => ?_) (fun h17 => ?_)
  · skip
    refine wl_want (b := true) (q_fa (o1 := 1) rfl rfl Fo40_1 rfl) rfl rfl rfl rfl (by decide) ?_
    refine wl_want (b := true) (q_load rfl rfl Mn3 (reads1 (i := 1) rfl rfl)) rfl rfl rfl rfl (by decide) ?_
    refine wl_want (b := true) (q_move rfl rfl) rfl rfl rfl rfl (by decide) ?_
    refine wl_want (b := true) (q_bin rfl rfl rfl rfl) rfl rfl rfl rfl (by decide) ?_
    refine wl_q (q_pick rfl rfl rfl) rfl rfl (by decide) ?_
    refine wl_q (q_assign rfl rfl) rfl rfl (by decide) ?_
    refine wl_nil ?_
    refine fq_then ?_
    refine wc_ret ?_
    refine fq_ret1 rfl rfl (fun w1 H => ?_)
    refine ⟨by simp only [overB]; first | (rw [h17]; rfl) | skip, ?_⟩
    exact HeapOK.atT (A := [_, _, _, _, _]) (A' := [_, _, _]) (R := R) H [2, 3, 4] (by decide) rfl
  · skip
    refine wl_skip (b := false) rfl rfl rfl rfl (by decide) ?_
    refine wl_skip (b := false) rfl rfl rfl rfl (by decide) ?_
    refine wl_skip (b := false) rfl rfl rfl rfl (by decide) ?_
    refine wl_skip (b := false) rfl rfl rfl rfl (by decide) ?_
    refine wl_q (q_pick rfl rfl rfl) rfl rfl (by decide) ?_
    refine wl_q (q_assign rfl rfl) rfl rfl (by decide) ?_
    refine wl_nil ?_
    refine fq_then ?_
    refine wc_ret ?_
    refine fq_ret1 rfl rfl (fun w1 H => ?_)
    refine ⟨by simp only [overB]; first | (rw [h17]; rfl) | skip, ?_⟩
    exact HeapOK.atT (A := [_, _, _, _, _]) (A' := [_, _, _]) (R := R) H [2, 3, 4] (by decide) rfl

theorem tell2_calls (w0 : World) (R : List Sx.Item) (bw bk : Nat) (K : Kn) (hK : K.ok) (last : List Int) (LA : Option Addr) (LC : Nat) (any : Bool) (bad : Int) (x : PAll.S40) (A : Option Addr) (c : Nat) (hl : NextL w0) (hx : Kd.C (Kd.int .i64) w0 A x.f3.length x.f3) (hxc : x.f3.length ≤ c) (hxl : x.f3.length < 17592186044416) (hLn : last.length ≤ 9223372036854775807) (w : World) (hw : HeapOK w0 (.blk bw [.func (.func 35) #[] #[.pointer (some ⟨bk, 0, none⟩)], .slice LA last.length LC, .bool any, .int .i64 bad] 59 :: .blk bk [.int .i64 K.lag, .int .i64 K.t0, .int .i64 K.t1, .int .i64 K.t2, .int .i64 K.t3, .int .i64 K.t4, .int .i64 K.t5, .int .i64 K.t6, .int .i64 K.t7] 66 :: .own 0 3 1 (.slice LA last.length LC) last.length (nums .i64 last) :: old w0 :: R) w) : Calls Tryd.prog 16 #[.pointer (some ⟨bw, 0, none⟩), .agg #[.int .i64 x.f0, .int .i64 x.f1, .int .i64 x.f2, .slice A x.f3.length c, .int .u64 x.f4]] w fun e w' => ∃ i : Option Addr × Nat, True ∧ e = .returned (.bool (badN K any last x bad == 0)) ∧ HeapOK w0 (.blk bw [.func (.func 35) #[] #[.pointer (some ⟨bk, 0, none⟩)], .slice i.1 x.f3.length i.2, .bool true, .int .i64 (badN K any last x bad)] 59 :: .blk bk [.int .i64 K.lag, .int .i64 (capI (x.f2)), .int .i64 K.t0, .int .i64 K.t1, .int .i64 K.t2, .int .i64 K.t3, .int .i64 K.t4, .int .i64 K.t5, .int .i64 K.t6] 66 :: .own 0 3 1 (.slice i.1 x.f3.length i.2) x.f3.length (nums .i64 x.f3) :: old w0 :: R) w' := by
  refine enter (w0 := w0) (hp := (.blk bw [.func (.func 35) #[] #[.pointer (some ⟨bk, 0, none⟩)], .slice LA last.length LC, .bool any, .int .i64 bad] 59 :: .blk bk [.int .i64 K.lag, .int .i64 K.t0, .int .i64 K.t1, .int .i64 K.t2, .int .i64 K.t3, .int .i64 K.t4, .int .i64 K.t5, .int .i64 K.t6, .int .i64 K.t7] 66 :: .own 0 3 1 (.slice LA last.length LC) last.length (nums .i64 last) :: old w0 :: R)) (env := [(0, .pointer (some ⟨bw, 0, none⟩)), (1, .agg #[.int .i64 x.f0, .int .i64 x.f1, .int .i64 x.f2, .slice A x.f3.length c, .int .u64 x.f4])]) Tryd.func16 rfl 50 rfl (by simp) rfl hw ?_
  refine wc_seq ?_
  refine wc_region ?_
  refine wl_box rfl rfl rfl (by decide) rfl rfl (fun b1 => ?_)
  refine wl_q (q_assign rfl rfl) rfl rfl (by decide) ?_
  refine wl_nil ?_
  refine fq_then ?_
  refine wc_seq ?_
  refine wc_seq ?_
  refine wc_region ?_
  refine wl_q (q_move rfl rfl) rfl rfl (by decide) ?_
  refine wl_q (q_eqlP rfl rfl rfl Tryd.underlying34) rfl rfl (by decide) ?_
  refine wl_nil ?_
  refine fq_then ?_
  refine wc_false rfl ?_
  refine wc_skip ?_
  refine fq_then ?_
  refine wc_seq ?_
  refine wc_region ?_
  refine wl_q (q_fa (o1 := 3) rfl rfl Fo40_3 rfl) rfl rfl (by decide) ?_
  refine wl_q (q_load rfl rfl Mn37 (reads1 (i := 0) rfl rfl)) rfl rfl (by decide) ?_
  refine wl_q (q_call rfl En27 rfl (fun w1 hw1 => fits_calls _ _ _ w1 (Kd.C_below hx (hw1.toBelow (by simp))))) rfl rfl (by decide) ?_
  refine wl_q (q_assign rfl rfl) rfl rfl (by decide) ?_
  refine wl_nil ?_
  refine fq_then ?_
  refine wc_seq ?_
  refine wc_seq ?_
  refine wc_region ?_
  refine wl_q (q_move rfl rfl) rfl rfl (by decide) ?_
  refine wl_q (q_nilCheck rfl rfl) rfl rfl (by decide) ?_
  refine wl_q (q_fa (o1 := 2) rfl rfl Fo59_2 rfl) rfl rfl (by decide) ?_
  refine wl_q (q_load rfl rfl Mn4 (reads1 (i := 1) rfl rfl)) rfl rfl (by decide) ?_
  refine wl_nil ?_
  refine fq_then ?_
  refine wc_cond rfl (fun h14 => ?_) (fun h14 => ?_)
  · skip
    refine wc_draw 6 Fol (by kernel_rfl) (Chain.yield (q_move rfl rfl) rfl rfl (Chain.yield (q_nilCheck rfl rfl) rfl rfl (Chain.yield (q_fa (o1 := 1) rfl rfl Fo59_1 rfl) rfl rfl (Chain.yield (q_load rfl rfl Mn37 (reads1 (i := 1) rfl rfl)) rfl rfl (Chain.yield (q_fa (o1 := 3) rfl rfl Fo40_3 rfl) rfl rfl (Chain.yield (q_load rfl rfl Mn37 (reads1 (i := 0) rfl rfl)) rfl rfl (Chain.nil _))))))) ?_
    refine wl_q (q_call rfl En28 rfl (fun w1 hw1 => follows_calls _ _ _ _ _ _ w1 (hl.below (hw1.toBelow (by simp))) (C_of_own (hw1.get (i := 3) rfl) hLn) (Kd.C_below hx (hw1.toBelow (by simp))))) rfl rfl (by decide) ?_
    refine wl_q (q_assign rfl rfl) rfl rfl (by decide) ?_
    refine wl_nil ?_
    refine fq_then ?_
    refine wc_seq ?_
    refine wc_seq ?_
    refine wc_draw 5 Fol (by kernel_rfl) (Chain.yield (q_move rfl rfl) rfl rfl (Chain.yield (q_nilCheck rfl rfl) rfl rfl (Chain.yield (q_fa (o1 := 0) rfl rfl Fo59_0 rfl) rfl rfl (Chain.yield (q_load rfl rfl Mn36 (reads1 (i := 1) rfl rfl)) rfl rfl (Chain.yield (q_loadA rfl rfl Mn40 Sz40 rfl (readsAll (i := 0) rfl)) rfl rfl (Chain.nil _)))))) ?_
    refine wl_clo (ι := Unit) (fun _ => .bool (overB x K)) (fun _ => .blk b1 (cells5 x A c) 40 :: .blk bw [.func (.func 35) #[] #[.pointer (some ⟨bk, 0, none⟩)], .slice LA last.length LC, .bool any, .int .i64 bad] 59 :: .blk bk [.int .i64 K.lag, .int .i64 (capI (x.f2)), .int .i64 K.t0, .int .i64 K.t1, .int .i64 K.t2, .int .i64 K.t3, .int .i64 K.t4, .int .i64 K.t5, .int .i64 K.t6] 66 :: .own 0 3 1 (.slice LA last.length LC) last.length (nums .i64 last) :: old w0 :: R) (fun _ => True) rfl rfl rfl (by decide) rfl En35 rfl (fun w1 hw1 => (over1b_calls w0 _ _ _ bk K hK x A c w1 hw1).mono (fun e w' h => ⟨(), trivial, h.1, h.2⟩)) (fun _ _ => ?_)
    refine wl_q (q_move rfl rfl) rfl rfl (by decide) ?_
    refine wl_split (t := 28) rfl (fun h28 => ?_) (fun h28 => ?_)
    · skip
      refine wl_skip (b := true) rfl rfl rfl rfl (by decide) ?_
      refine wl_skip (b := true) rfl rfl rfl rfl (by decide) ?_
      refine wl_q (q_pick rfl rfl rfl) rfl rfl (by decide) ?_
      refine wl_nil ?_
      refine fq_then ?_
      refine wc_true rfl ?_
      refine wc_region ?_
      refine wl_q (q_move rfl rfl) rfl rfl (by decide) ?_
      refine wl_q (q_nilCheck rfl rfl) rfl rfl (by decide) ?_
      refine wl_q (q_fa (o1 := 3) rfl rfl Fo59_3 rfl) rfl rfl (by decide) ?_
      refine wl_call (ι := Unit) (fun _ => .int .i64 (IntKind.i64.wrap (bad + 1))) (fun _ => .blk b1 (cells5 x A c) 40 :: .blk bw [.func (.func 35) #[] #[.pointer (some ⟨bk, 0, none⟩)], .slice LA last.length LC, .bool any, .int .i64 (IntKind.i64.wrap (bad + 1))] 59 :: .blk bk [.int .i64 K.lag, .int .i64 (capI (x.f2)), .int .i64 K.t0, .int .i64 K.t1, .int .i64 K.t2, .int .i64 K.t3, .int .i64 K.t4, .int .i64 K.t5, .int .i64 K.t6] 66 :: .own 0 3 1 (.slice LA last.length LC) last.length (nums .i64 last) :: old w0 :: R) (fun _ => True) rfl rfl rfl (by decide) En29 rfl (fun w1 hw1 => (aadd_calls w0 _ 1 bw 3 [.func (.func 35) #[] #[.pointer (some ⟨bk, 0, none⟩)], .slice LA last.length LC, .bool any, .int .i64 bad] 59 bad 1 rfl rfl w1 hw1).mono (fun e w' h => ⟨(), trivial, h.1, h.2⟩)) (fun _ _ => ?_)
      refine wl_nil ?_
      refine fq_then ?_
      refine wc_seq ?_
      refine wc_region ?_
      refine wl_q (q_move rfl rfl) rfl rfl (by decide) ?_
      refine wl_q (q_fa (o1 := 3) rfl rfl Fo40_3 rfl) rfl rfl (by decide) ?_
      refine wl_q (q_load rfl rfl Mn37 (reads1 (i := 0) rfl rfl)) rfl rfl (by decide) ?_
      refine wl_call (ι := Option Addr × Nat) (fun i => .slice i.1 x.f3.length i.2) (fun i => .own 0 3 1 (.slice i.1 x.f3.length i.2) x.f3.length (nums .i64 x.f3) :: _) (fun i => x.f3.length ≤ i.2) rfl rfl rfl (by decide) En30 rfl (fun w1 hw1 => clone_calls hw1 (Kd.C_below hx (hw1.toBelow (by simp))) hxc hxl) (fun i hi => ?_)
      refine wl_q (q_nilCheck rfl rfl) rfl rfl (by decide) ?_
      refine wl_q (q_fa (o1 := 1) rfl rfl Fo59_1 rfl) rfl rfl (by decide) ?_
      refine wl_store (i := 2) rfl rfl rfl rfl rfl rfl Sz37 rfl rfl (by simp) (by simp [Value.oneCell', cells5]) (by simp only [List.take_succ_cons, List.take_zero, List.take_nil, List.drop_succ_cons, List.drop_zero, List.drop_nil, List.nil_append, List.cons_append, List.append_nil, List.length_cons, List.length_nil, Nat.reduceAdd, Nat.zero_add]; rfl) (by simp only [List.set_cons_zero, List.set_cons_succ]; rfl) ?_
      refine wl_nil ?_
      refine fq_then ?_
      refine wc_seq ?_
      refine wc_region ?_
      refine wl_q (q_move rfl rfl) rfl rfl (by decide) ?_
      refine wl_q (q_nilCheck rfl rfl) rfl rfl (by decide) ?_
      refine wl_q (q_fa (o1 := 2) rfl rfl Fo59_2 rfl) rfl rfl (by decide) ?_
      refine wl_store (i := 2) rfl rfl rfl rfl rfl rfl Sz4 rfl rfl (by simp) (by simp [Value.oneCell', cells5]) (by simp only [List.take_succ_cons, List.take_zero, List.take_nil, List.drop_succ_cons, List.drop_zero, List.drop_nil, List.nil_append, List.cons_append, List.append_nil, List.length_cons, List.length_nil, Nat.reduceAdd, Nat.zero_add]; rfl) (by simp only [List.set_cons_zero, List.set_cons_succ]; rfl) ?_
      refine wl_nil ?_
      refine fq_then ?_
      refine wc_seq ?_
      refine wc_region ?_
      refine wl_q (q_move rfl rfl) rfl rfl (by decide) ?_
      refine wl_q (q_nilCheck rfl rfl) rfl rfl (by decide) ?_
      refine wl_q (q_fa (o1 := 3) rfl rfl Fo59_3 rfl) rfl rfl (by decide) ?_
      refine wl_call (ι := Unit) (fun _ => .int .i64 _) (fun _ => _) (fun _ => True) rfl rfl rfl (by decide) En31 rfl (fun w1 hw1 => (aload_calls w0 _ 2 bw 3 _ 59 _ rfl rfl w1 hw1).mono (fun e w' h => ⟨(), trivial, h.1, h.2⟩)) (fun _ _ => ?_)
      refine wl_q (q_bin rfl rfl rfl rfl) rfl rfl (by decide) ?_
      refine wl_q (q_assign rfl rfl) rfl rfl (by decide) ?_
      refine wl_nil ?_
      refine fq_then ?_
      refine wc_ret ?_
      refine fq_ret1 rfl rfl (fun w1 H => ?_)
      first
        | (have hb : isBad K any last x = true := by (unfold isBad folB; rw [h14]; first | (rw [h28]; rfl) | (rw [h28]; simpa using h31))
           have hv : badN K any last x bad = IntKind.i64.wrap (bad + 1) := by (unfold badN; rw [hb]; rfl)
           rw [hv]
           exact ⟨i, trivial, rfl, HeapOK.atT (A := [_, _, _, _, _, _]) (A' := [_, _, _, _]) (R := R) H [2, 3, 0, 5] (by decide) rfl⟩)
        | (have hb : isBad K any last x = false := by (unfold isBad folB; rw [h14, h28]; simpa using h31)
           have hv : badN K any last x bad = bad := by (unfold badN; rw [hb]; rfl)
           rw [hv]
           exact ⟨i, trivial, rfl, HeapOK.atT (A := [_, _, _, _, _, _]) (A' := [_, _, _, _]) (R := R) H [2, 3, 0, 5] (by decide) rfl⟩)
    · skip
      refine wl_want (b := false) (q_move rfl rfl) rfl rfl rfl rfl (by decide) ?_
      refine wl_want (b := false) (q_not rfl rfl) rfl rfl rfl rfl (by decide) ?_
      refine wl_q (q_pick rfl rfl rfl) rfl rfl (by decide) ?_
      refine wl_nil ?_
      refine fq_then ?_
      refine wc_cond rfl (fun h31 => ?_) (fun h31 => ?_)
      · skip
        refine wc_region ?_
        refine wl_q (q_move rfl rfl) rfl rfl (by decide) ?_
        refine wl_q (q_nilCheck rfl rfl) rfl rfl (by decide) ?_
        refine wl_q (q_fa (o1 := 3) rfl rfl Fo59_3 rfl) rfl rfl (by decide) ?_
        refine wl_call (ι := Unit) (fun _ => .int .i64 (IntKind.i64.wrap (bad + 1))) (fun _ => .blk b1 (cells5 x A c) 40 :: .blk bw [.func (.func 35) #[] #[.pointer (some ⟨bk, 0, none⟩)], .slice LA last.length LC, .bool any, .int .i64 (IntKind.i64.wrap (bad + 1))] 59 :: .blk bk [.int .i64 K.lag, .int .i64 (capI (x.f2)), .int .i64 K.t0, .int .i64 K.t1, .int .i64 K.t2, .int .i64 K.t3, .int .i64 K.t4, .int .i64 K.t5, .int .i64 K.t6] 66 :: .own 0 3 1 (.slice LA last.length LC) last.length (nums .i64 last) :: old w0 :: R) (fun _ => True) rfl rfl rfl (by decide) En29 rfl (fun w1 hw1 => (aadd_calls w0 _ 1 bw 3 [.func (.func 35) #[] #[.pointer (some ⟨bk, 0, none⟩)], .slice LA last.length LC, .bool any, .int .i64 bad] 59 bad 1 rfl rfl w1 hw1).mono (fun e w' h => ⟨(), trivial, h.1, h.2⟩)) (fun _ _ => ?_)
        refine wl_nil ?_
        refine fq_then ?_
        refine wc_seq ?_
        refine wc_region ?_
        refine wl_q (q_move rfl rfl) rfl rfl (by decide) ?_
        refine wl_q (q_fa (o1 := 3) rfl rfl Fo40_3 rfl) rfl rfl (by decide) ?_
        refine wl_q (q_load rfl rfl Mn37 (reads1 (i := 0) rfl rfl)) rfl rfl (by decide) ?_
        refine wl_call (ι := Option Addr × Nat) (fun i => .slice i.1 x.f3.length i.2) (fun i => .own 0 3 1 (.slice i.1 x.f3.length i.2) x.f3.length (nums .i64 x.f3) :: _) (fun i => x.f3.length ≤ i.2) rfl rfl rfl (by decide) En30 rfl (fun w1 hw1 => clone_calls hw1 (Kd.C_below hx (hw1.toBelow (by simp))) hxc hxl) (fun i hi => ?_)
        refine wl_q (q_nilCheck rfl rfl) rfl rfl (by decide) ?_
        refine wl_q (q_fa (o1 := 1) rfl rfl Fo59_1 rfl) rfl rfl (by decide) ?_
        refine wl_store (i := 2) rfl rfl rfl rfl rfl rfl Sz37 rfl rfl (by simp) (by simp [Value.oneCell', cells5]) (by simp only [List.take_succ_cons, List.take_zero, List.take_nil, List.drop_succ_cons, List.drop_zero, List.drop_nil, List.nil_append, List.cons_append, List.append_nil, List.length_cons, List.length_nil, Nat.reduceAdd, Nat.zero_add]; rfl) (by simp only [List.set_cons_zero, List.set_cons_succ]; rfl) ?_
        refine wl_nil ?_
        refine fq_then ?_
        refine wc_seq ?_
        refine wc_region ?_
        refine wl_q (q_move rfl rfl) rfl rfl (by decide) ?_
        refine wl_q (q_nilCheck rfl rfl) rfl rfl (by decide) ?_
        refine wl_q (q_fa (o1 := 2) rfl rfl Fo59_2 rfl) rfl rfl (by decide) ?_
        refine wl_store (i := 2) rfl rfl rfl rfl rfl rfl Sz4 rfl rfl (by simp) (by simp [Value.oneCell', cells5]) (by simp only [List.take_succ_cons, List.take_zero, List.take_nil, List.drop_succ_cons, List.drop_zero, List.drop_nil, List.nil_append, List.cons_append, List.append_nil, List.length_cons, List.length_nil, Nat.reduceAdd, Nat.zero_add]; rfl) (by simp only [List.set_cons_zero, List.set_cons_succ]; rfl) ?_
        refine wl_nil ?_
        refine fq_then ?_
        refine wc_seq ?_
        refine wc_region ?_
        refine wl_q (q_move rfl rfl) rfl rfl (by decide) ?_
        refine wl_q (q_nilCheck rfl rfl) rfl rfl (by decide) ?_
        refine wl_q (q_fa (o1 := 3) rfl rfl Fo59_3 rfl) rfl rfl (by decide) ?_
        refine wl_call (ι := Unit) (fun _ => .int .i64 _) (fun _ => _) (fun _ => True) rfl rfl rfl (by decide) En31 rfl (fun w1 hw1 => (aload_calls w0 _ 2 bw 3 _ 59 _ rfl rfl w1 hw1).mono (fun e w' h => ⟨(), trivial, h.1, h.2⟩)) (fun _ _ => ?_)
        refine wl_q (q_bin rfl rfl rfl rfl) rfl rfl (by decide) ?_
        refine wl_q (q_assign rfl rfl) rfl rfl (by decide) ?_
        refine wl_nil ?_
        refine fq_then ?_
        refine wc_ret ?_
        refine fq_ret1 rfl rfl (fun w1 H => ?_)
        first
          | (have hb : isBad K any last x = true := by (unfold isBad folB; rw [h14]; first | (rw [h28]; rfl) | (rw [h28]; simpa using h31))
             have hv : badN K any last x bad = IntKind.i64.wrap (bad + 1) := by (unfold badN; rw [hb]; rfl)
             rw [hv]
             exact ⟨i, trivial, rfl, HeapOK.atT (A := [_, _, _, _, _, _]) (A' := [_, _, _, _]) (R := R) H [2, 3, 0, 5] (by decide) rfl⟩)
          | (have hb : isBad K any last x = false := by (unfold isBad folB; rw [h14, h28]; simpa using h31)
             have hv : badN K any last x bad = bad := by (unfold badN; rw [hb]; rfl)
             rw [hv]
             exact ⟨i, trivial, rfl, HeapOK.atT (A := [_, _, _, _, _, _]) (A' := [_, _, _, _]) (R := R) H [2, 3, 0, 5] (by decide) rfl⟩)
      · skip
        refine wc_skip ?_
        refine fq_then ?_
        refine wc_seq ?_
        refine wc_region ?_
        refine wl_q (q_move rfl rfl) rfl rfl (by decide) ?_
        refine wl_q (q_fa (o1 := 3) rfl rfl Fo40_3 rfl) rfl rfl (by decide) ?_
        refine wl_q (q_load rfl rfl Mn37 (reads1 (i := 0) rfl rfl)) rfl rfl (by decide) ?_
        refine wl_call (ι := Option Addr × Nat) (fun i => .slice i.1 x.f3.length i.2) (fun i => .own 0 3 1 (.slice i.1 x.f3.length i.2) x.f3.length (nums .i64 x.f3) :: _) (fun i => x.f3.length ≤ i.2) rfl rfl rfl (by decide) En30 rfl (fun w1 hw1 => clone_calls hw1 (Kd.C_below hx (hw1.toBelow (by simp))) hxc hxl) (fun i hi => ?_)
        refine wl_q (q_nilCheck rfl rfl) rfl rfl (by decide) ?_
        refine wl_q (q_fa (o1 := 1) rfl rfl Fo59_1 rfl) rfl rfl (by decide) ?_
        refine wl_store (i := 2) rfl rfl rfl rfl rfl rfl Sz37 rfl rfl (by simp) (by simp [Value.oneCell', cells5]) (by simp only [List.take_succ_cons, List.take_zero, List.take_nil, List.drop_succ_cons, List.drop_zero, List.drop_nil, List.nil_append, List.cons_append, List.append_nil, List.length_cons, List.length_nil, Nat.reduceAdd, Nat.zero_add]; rfl) (by simp only [List.set_cons_zero, List.set_cons_succ]; rfl) ?_
        refine wl_nil ?_
        refine fq_then ?_
        refine wc_seq ?_
        refine wc_region ?_
        refine wl_q (q_move rfl rfl) rfl rfl (by decide) ?_
        refine wl_q (q_nilCheck rfl rfl) rfl rfl (by decide) ?_
        refine wl_q (q_fa (o1 := 2) rfl rfl Fo59_2 rfl) rfl rfl (by decide) ?_
        refine wl_store (i := 2) rfl rfl rfl rfl rfl rfl Sz4 rfl rfl (by simp) (by simp [Value.oneCell', cells5]) (by simp only [List.take_succ_cons, List.take_zero, List.take_nil, List.drop_succ_cons, List.drop_zero, List.drop_nil, List.nil_append, List.cons_append, List.append_nil, List.length_cons, List.length_nil, Nat.reduceAdd, Nat.zero_add]; rfl) (by simp only [List.set_cons_zero, List.set_cons_succ]; rfl) ?_
        refine wl_nil ?_
        refine fq_then ?_
        refine wc_seq ?_
        refine wc_region ?_
        refine wl_q (q_move rfl rfl) rfl rfl (by decide) ?_
        refine wl_q (q_nilCheck rfl rfl) rfl rfl (by decide) ?_
        refine wl_q (q_fa (o1 := 3) rfl rfl Fo59_3 rfl) rfl rfl (by decide) ?_
        refine wl_call (ι := Unit) (fun _ => .int .i64 _) (fun _ => _) (fun _ => True) rfl rfl rfl (by decide) En31 rfl (fun w1 hw1 => (aload_calls w0 _ 2 bw 3 _ 59 _ rfl rfl w1 hw1).mono (fun e w' h => ⟨(), trivial, h.1, h.2⟩)) (fun _ _ => ?_)
        refine wl_q (q_bin rfl rfl rfl rfl) rfl rfl (by decide) ?_
        refine wl_q (q_assign rfl rfl) rfl rfl (by decide) ?_
        refine wl_nil ?_
        refine fq_then ?_
        refine wc_ret ?_
        refine fq_ret1 rfl rfl (fun w1 H => ?_)
        first
          | (have hb : isBad K any last x = true := by (unfold isBad folB; rw [h14]; first | (rw [h28]; rfl) | (rw [h28]; simpa using h31))
             have hv : badN K any last x bad = IntKind.i64.wrap (bad + 1) := by (unfold badN; rw [hb]; rfl)
             rw [hv]
             exact ⟨i, trivial, rfl, HeapOK.atT (A := [_, _, _, _, _, _]) (A' := [_, _, _, _]) (R := R) H [2, 3, 0, 5] (by decide) rfl⟩)
          | (have hb : isBad K any last x = false := by (unfold isBad folB; rw [h14, h28]; simpa using h31)
             have hv : badN K any last x bad = bad := by (unfold badN; rw [hb]; rfl)
             rw [hv]
             exact ⟨i, trivial, rfl, HeapOK.atT (A := [_, _, _, _, _, _]) (A' := [_, _, _, _]) (R := R) H [2, 3, 0, 5] (by decide) rfl⟩)
  · skip
    refine wc_skip ?_
    refine fq_then ?_
    refine wc_seq ?_
    refine wc_seq ?_
    refine wc_draw 5 Fol (by kernel_rfl) (Chain.yield (q_move rfl rfl) rfl rfl (Chain.yield (q_nilCheck rfl rfl) rfl rfl (Chain.yield (q_fa (o1 := 0) rfl rfl Fo59_0 rfl) rfl rfl (Chain.yield (q_load rfl rfl Mn36 (reads1 (i := 1) rfl rfl)) rfl rfl (Chain.yield (q_loadA rfl rfl Mn40 Sz40 rfl (readsAll (i := 0) rfl)) rfl rfl (Chain.nil _)))))) ?_
    refine wl_clo (ι := Unit) (fun _ => .bool (overB x K)) (fun _ => .blk b1 (cells5 x A c) 40 :: .blk bw [.func (.func 35) #[] #[.pointer (some ⟨bk, 0, none⟩)], .slice LA last.length LC, .bool any, .int .i64 bad] 59 :: .blk bk [.int .i64 K.lag, .int .i64 (capI (x.f2)), .int .i64 K.t0, .int .i64 K.t1, .int .i64 K.t2, .int .i64 K.t3, .int .i64 K.t4, .int .i64 K.t5, .int .i64 K.t6] 66 :: .own 0 3 1 (.slice LA last.length LC) last.length (nums .i64 last) :: old w0 :: R) (fun _ => True) rfl rfl rfl (by decide) rfl En35 rfl (fun w1 hw1 => (over1b_calls w0 _ _ _ bk K hK x A c w1 hw1).mono (fun e w' h => ⟨(), trivial, h.1, h.2⟩)) (fun _ _ => ?_)
    refine wl_q (q_move rfl rfl) rfl rfl (by decide) ?_
    refine wl_split (t := 28) rfl (fun h28 => ?_) (fun h28 => ?_)
    · skip
      refine wl_skip (b := true) rfl rfl rfl rfl (by decide) ?_
      refine wl_skip (b := true) rfl rfl rfl rfl (by decide) ?_
      refine wl_q (q_pick rfl rfl rfl) rfl rfl (by decide) ?_
      refine wl_nil ?_
      refine fq_then ?_
      refine wc_true rfl ?_
      refine wc_region ?_
      refine wl_q (q_move rfl rfl) rfl rfl (by decide) ?_
      refine wl_q (q_nilCheck rfl rfl) rfl rfl (by decide) ?_
      refine wl_q (q_fa (o1 := 3) rfl rfl Fo59_3 rfl) rfl rfl (by decide) ?_
      refine wl_call (ι := Unit) (fun _ => .int .i64 (IntKind.i64.wrap (bad + 1))) (fun _ => .blk b1 (cells5 x A c) 40 :: .blk bw [.func (.func 35) #[] #[.pointer (some ⟨bk, 0, none⟩)], .slice LA last.length LC, .bool any, .int .i64 (IntKind.i64.wrap (bad + 1))] 59 :: .blk bk [.int .i64 K.lag, .int .i64 (capI (x.f2)), .int .i64 K.t0, .int .i64 K.t1, .int .i64 K.t2, .int .i64 K.t3, .int .i64 K.t4, .int .i64 K.t5, .int .i64 K.t6] 66 :: .own 0 3 1 (.slice LA last.length LC) last.length (nums .i64 last) :: old w0 :: R) (fun _ => True) rfl rfl rfl (by decide) En29 rfl (fun w1 hw1 => (aadd_calls w0 _ 1 bw 3 [.func (.func 35) #[] #[.pointer (some ⟨bk, 0, none⟩)], .slice LA last.length LC, .bool any, .int .i64 bad] 59 bad 1 rfl rfl w1 hw1).mono (fun e w' h => ⟨(), trivial, h.1, h.2⟩)) (fun _ _ => ?_)
      refine wl_nil ?_
      refine fq_then ?_
      refine wc_seq ?_
      refine wc_region ?_
      refine wl_q (q_move rfl rfl) rfl rfl (by decide) ?_
      refine wl_q (q_fa (o1 := 3) rfl rfl Fo40_3 rfl) rfl rfl (by decide) ?_
      refine wl_q (q_load rfl rfl Mn37 (reads1 (i := 0) rfl rfl)) rfl rfl (by decide) ?_
      refine wl_call (ι := Option Addr × Nat) (fun i => .slice i.1 x.f3.length i.2) (fun i => .own 0 3 1 (.slice i.1 x.f3.length i.2) x.f3.length (nums .i64 x.f3) :: _) (fun i => x.f3.length ≤ i.2) rfl rfl rfl (by decide) En30 rfl (fun w1 hw1 => clone_calls hw1 (Kd.C_below hx (hw1.toBelow (by simp))) hxc hxl) (fun i hi => ?_)
      refine wl_q (q_nilCheck rfl rfl) rfl rfl (by decide) ?_
      refine wl_q (q_fa (o1 := 1) rfl rfl Fo59_1 rfl) rfl rfl (by decide) ?_
      refine wl_store (i := 2) rfl rfl rfl rfl rfl rfl Sz37 rfl rfl (by simp) (by simp [Value.oneCell', cells5]) (by simp only [List.take_succ_cons, List.take_zero, List.take_nil, List.drop_succ_cons, List.drop_zero, List.drop_nil, List.nil_append, List.cons_append, List.append_nil, List.length_cons, List.length_nil, Nat.reduceAdd, Nat.zero_add]; rfl) (by simp only [List.set_cons_zero, List.set_cons_succ]; rfl) ?_
      refine wl_nil ?_
      refine fq_then ?_
      refine wc_seq ?_
      refine wc_region ?_
      refine wl_q (q_move rfl rfl) rfl rfl (by decide) ?_
      refine wl_q (q_nilCheck rfl rfl) rfl rfl (by decide) ?_
      refine wl_q (q_fa (o1 := 2) rfl rfl Fo59_2 rfl) rfl rfl (by decide) ?_
      refine wl_store (i := 2) rfl rfl rfl rfl rfl rfl Sz4 rfl rfl (by simp) (by simp [Value.oneCell', cells5]) (by simp only [List.take_succ_cons, List.take_zero, List.take_nil, List.drop_succ_cons, List.drop_zero, List.drop_nil, List.nil_append, List.cons_append, List.append_nil, List.length_cons, List.length_nil, Nat.reduceAdd, Nat.zero_add]; rfl) (by simp only [List.set_cons_zero, List.set_cons_succ]; rfl) ?_
      refine wl_nil ?_
      refine fq_then ?_
      refine wc_seq ?_
      refine wc_region ?_
      refine wl_q (q_move rfl rfl) rfl rfl (by decide) ?_
      refine wl_q (q_nilCheck rfl rfl) rfl rfl (by decide) ?_
      refine wl_q (q_fa (o1 := 3) rfl rfl Fo59_3 rfl) rfl rfl (by decide) ?_
      refine wl_call (ι := Unit) (fun _ => .int .i64 _) (fun _ => _) (fun _ => True) rfl rfl rfl (by decide) En31 rfl (fun w1 hw1 => (aload_calls w0 _ 2 bw 3 _ 59 _ rfl rfl w1 hw1).mono (fun e w' h => ⟨(), trivial, h.1, h.2⟩)) (fun _ _ => ?_)
      refine wl_q (q_bin rfl rfl rfl rfl) rfl rfl (by decide) ?_
      refine wl_q (q_assign rfl rfl) rfl rfl (by decide) ?_
      refine wl_nil ?_
      refine fq_then ?_
      refine wc_ret ?_
      refine fq_ret1 rfl rfl (fun w1 H => ?_)
      first
        | (have hb : isBad K any last x = true := by (unfold isBad folB; rw [h14]; first | (rw [h28]; rfl) | (rw [h28]; simpa using h31))
           have hv : badN K any last x bad = IntKind.i64.wrap (bad + 1) := by (unfold badN; rw [hb]; rfl)
           rw [hv]
           exact ⟨i, trivial, rfl, HeapOK.atT (A := [_, _, _, _, _, _]) (A' := [_, _, _, _]) (R := R) H [2, 3, 0, 5] (by decide) rfl⟩)
        | (have hb : isBad K any last x = false := by (unfold isBad folB; rw [h14, h28]; simpa using h31)
           have hv : badN K any last x bad = bad := by (unfold badN; rw [hb]; rfl)
           rw [hv]
           exact ⟨i, trivial, rfl, HeapOK.atT (A := [_, _, _, _, _, _]) (A' := [_, _, _, _]) (R := R) H [2, 3, 0, 5] (by decide) rfl⟩)
    · skip
      refine wl_want (b := false) (q_move rfl rfl) rfl rfl rfl rfl (by decide) ?_
      refine wl_want (b := false) (q_not rfl rfl) rfl rfl rfl rfl (by decide) ?_
      refine wl_q (q_pick rfl rfl rfl) rfl rfl (by decide) ?_
      refine wl_nil ?_
      refine fq_then ?_
      refine wc_cond rfl (fun h31 => ?_) (fun h31 => ?_)
      · skip
        refine wc_region ?_
        refine wl_q (q_move rfl rfl) rfl rfl (by decide) ?_
        refine wl_q (q_nilCheck rfl rfl) rfl rfl (by decide) ?_
        refine wl_q (q_fa (o1 := 3) rfl rfl Fo59_3 rfl) rfl rfl (by decide) ?_
        refine wl_call (ι := Unit) (fun _ => .int .i64 (IntKind.i64.wrap (bad + 1))) (fun _ => .blk b1 (cells5 x A c) 40 :: .blk bw [.func (.func 35) #[] #[.pointer (some ⟨bk, 0, none⟩)], .slice LA last.length LC, .bool any, .int .i64 (IntKind.i64.wrap (bad + 1))] 59 :: .blk bk [.int .i64 K.lag, .int .i64 (capI (x.f2)), .int .i64 K.t0, .int .i64 K.t1, .int .i64 K.t2, .int .i64 K.t3, .int .i64 K.t4, .int .i64 K.t5, .int .i64 K.t6] 66 :: .own 0 3 1 (.slice LA last.length LC) last.length (nums .i64 last) :: old w0 :: R) (fun _ => True) rfl rfl rfl (by decide) En29 rfl (fun w1 hw1 => (aadd_calls w0 _ 1 bw 3 [.func (.func 35) #[] #[.pointer (some ⟨bk, 0, none⟩)], .slice LA last.length LC, .bool any, .int .i64 bad] 59 bad 1 rfl rfl w1 hw1).mono (fun e w' h => ⟨(), trivial, h.1, h.2⟩)) (fun _ _ => ?_)
        refine wl_nil ?_
        refine fq_then ?_
        refine wc_seq ?_
        refine wc_region ?_
        refine wl_q (q_move rfl rfl) rfl rfl (by decide) ?_
        refine wl_q (q_fa (o1 := 3) rfl rfl Fo40_3 rfl) rfl rfl (by decide) ?_
        refine wl_q (q_load rfl rfl Mn37 (reads1 (i := 0) rfl rfl)) rfl rfl (by decide) ?_
        refine wl_call (ι := Option Addr × Nat) (fun i => .slice i.1 x.f3.length i.2) (fun i => .own 0 3 1 (.slice i.1 x.f3.length i.2) x.f3.length (nums .i64 x.f3) :: _) (fun i => x.f3.length ≤ i.2) rfl rfl rfl (by decide) En30 rfl (fun w1 hw1 => clone_calls hw1 (Kd.C_below hx (hw1.toBelow (by simp))) hxc hxl) (fun i hi => ?_)
        refine wl_q (q_nilCheck rfl rfl) rfl rfl (by decide) ?_
        refine wl_q (q_fa (o1 := 1) rfl rfl Fo59_1 rfl) rfl rfl (by decide) ?_
        refine wl_store (i := 2) rfl rfl rfl rfl rfl rfl Sz37 rfl rfl (by simp) (by simp [Value.oneCell', cells5]) (by simp only [List.take_succ_cons, List.take_zero, List.take_nil, List.drop_succ_cons, List.drop_zero, List.drop_nil, List.nil_append, List.cons_append, List.append_nil, List.length_cons, List.length_nil, Nat.reduceAdd, Nat.zero_add]; rfl) (by simp only [List.set_cons_zero, List.set_cons_succ]; rfl) ?_
        refine wl_nil ?_
        refine fq_then ?_
        refine wc_seq ?_
        refine wc_region ?_
        refine wl_q (q_move rfl rfl) rfl rfl (by decide) ?_
        refine wl_q (q_nilCheck rfl rfl) rfl rfl (by decide) ?_
        refine wl_q (q_fa (o1 := 2) rfl rfl Fo59_2 rfl) rfl rfl (by decide) ?_
        refine wl_store (i := 2) rfl rfl rfl rfl rfl rfl Sz4 rfl rfl (by simp) (by simp [Value.oneCell', cells5]) (by simp only [List.take_succ_cons, List.take_zero, List.take_nil, List.drop_succ_cons, List.drop_zero, List.drop_nil, List.nil_append, List.cons_append, List.append_nil, List.length_cons, List.length_nil, Nat.reduceAdd, Nat.zero_add]; rfl) (by simp only [List.set_cons_zero, List.set_cons_succ]; rfl) ?_
        refine wl_nil ?_
        refine fq_then ?_
        refine wc_seq ?_
        refine wc_region ?_
        refine wl_q (q_move rfl rfl) rfl rfl (by decide) ?_
        refine wl_q (q_nilCheck rfl rfl) rfl rfl (by decide) ?_
        refine wl_q (q_fa (o1 := 3) rfl rfl Fo59_3 rfl) rfl rfl (by decide) ?_
        refine wl_call (ι := Unit) (fun _ => .int .i64 _) (fun _ => _) (fun _ => True) rfl rfl rfl (by decide) En31 rfl (fun w1 hw1 => (aload_calls w0 _ 2 bw 3 _ 59 _ rfl rfl w1 hw1).mono (fun e w' h => ⟨(), trivial, h.1, h.2⟩)) (fun _ _ => ?_)
        refine wl_q (q_bin rfl rfl rfl rfl) rfl rfl (by decide) ?_
        refine wl_q (q_assign rfl rfl) rfl rfl (by decide) ?_
        refine wl_nil ?_
        refine fq_then ?_
        refine wc_ret ?_
        refine fq_ret1 rfl rfl (fun w1 H => ?_)
        first
          | (have hb : isBad K any last x = true := by (unfold isBad folB; rw [h14]; first | (rw [h28]; rfl) | (rw [h28]; simpa using h31))
             have hv : badN K any last x bad = IntKind.i64.wrap (bad + 1) := by (unfold badN; rw [hb]; rfl)
             rw [hv]
             exact ⟨i, trivial, rfl, HeapOK.atT (A := [_, _, _, _, _, _]) (A' := [_, _, _, _]) (R := R) H [2, 3, 0, 5] (by decide) rfl⟩)
          | (have hb : isBad K any last x = false := by (unfold isBad folB; rw [h14, h28]; simpa using h31)
             have hv : badN K any last x bad = bad := by (unfold badN; rw [hb]; rfl)
             rw [hv]
             exact ⟨i, trivial, rfl, HeapOK.atT (A := [_, _, _, _, _, _]) (A' := [_, _, _, _]) (R := R) H [2, 3, 0, 5] (by decide) rfl⟩)
      · skip
        refine wc_skip ?_
        refine fq_then ?_
        refine wc_seq ?_
        refine wc_region ?_
        refine wl_q (q_move rfl rfl) rfl rfl (by decide) ?_
        refine wl_q (q_fa (o1 := 3) rfl rfl Fo40_3 rfl) rfl rfl (by decide) ?_
        refine wl_q (q_load rfl rfl Mn37 (reads1 (i := 0) rfl rfl)) rfl rfl (by decide) ?_
        refine wl_call (ι := Option Addr × Nat) (fun i => .slice i.1 x.f3.length i.2) (fun i => .own 0 3 1 (.slice i.1 x.f3.length i.2) x.f3.length (nums .i64 x.f3) :: _) (fun i => x.f3.length ≤ i.2) rfl rfl rfl (by decide) En30 rfl (fun w1 hw1 => clone_calls hw1 (Kd.C_below hx (hw1.toBelow (by simp))) hxc hxl) (fun i hi => ?_)
        refine wl_q (q_nilCheck rfl rfl) rfl rfl (by decide) ?_
        refine wl_q (q_fa (o1 := 1) rfl rfl Fo59_1 rfl) rfl rfl (by decide) ?_
        refine wl_store (i := 2) rfl rfl rfl rfl rfl rfl Sz37 rfl rfl (by simp) (by simp [Value.oneCell', cells5]) (by simp only [List.take_succ_cons, List.take_zero, List.take_nil, List.drop_succ_cons, List.drop_zero, List.drop_nil, List.nil_append, List.cons_append, List.append_nil, List.length_cons, List.length_nil, Nat.reduceAdd, Nat.zero_add]; rfl) (by simp only [List.set_cons_zero, List.set_cons_succ]; rfl) ?_
        refine wl_nil ?_
        refine fq_then ?_
        refine wc_seq ?_
        refine wc_region ?_
        refine wl_q (q_move rfl rfl) rfl rfl (by decide) ?_
        refine wl_q (q_nilCheck rfl rfl) rfl rfl (by decide) ?_
        refine wl_q (q_fa (o1 := 2) rfl rfl Fo59_2 rfl) rfl rfl (by decide) ?_
        refine wl_store (i := 2) rfl rfl rfl rfl rfl rfl Sz4 rfl rfl (by simp) (by simp [Value.oneCell', cells5]) (by simp only [List.take_succ_cons, List.take_zero, List.take_nil, List.drop_succ_cons, List.drop_zero, List.drop_nil, List.nil_append, List.cons_append, List.append_nil, List.length_cons, List.length_nil, Nat.reduceAdd, Nat.zero_add]; rfl) (by simp only [List.set_cons_zero, List.set_cons_succ]; rfl) ?_
        refine wl_nil ?_
        refine fq_then ?_
        refine wc_seq ?_
        refine wc_region ?_
        refine wl_q (q_move rfl rfl) rfl rfl (by decide) ?_
        refine wl_q (q_nilCheck rfl rfl) rfl rfl (by decide) ?_
        refine wl_q (q_fa (o1 := 3) rfl rfl Fo59_3 rfl) rfl rfl (by decide) ?_
        refine wl_call (ι := Unit) (fun _ => .int .i64 _) (fun _ => _) (fun _ => True) rfl rfl rfl (by decide) En31 rfl (fun w1 hw1 => (aload_calls w0 _ 2 bw 3 _ 59 _ rfl rfl w1 hw1).mono (fun e w' h => ⟨(), trivial, h.1, h.2⟩)) (fun _ _ => ?_)
        refine wl_q (q_bin rfl rfl rfl rfl) rfl rfl (by decide) ?_
        refine wl_q (q_assign rfl rfl) rfl rfl (by decide) ?_
        refine wl_nil ?_
        refine fq_then ?_
        refine wc_ret ?_
        refine fq_ret1 rfl rfl (fun w1 H => ?_)
        first
          | (have hb : isBad K any last x = true := by (unfold isBad folB; rw [h14]; first | (rw [h28]; rfl) | (rw [h28]; simpa using h31))
             have hv : badN K any last x bad = IntKind.i64.wrap (bad + 1) := by (unfold badN; rw [hb]; rfl)
             rw [hv]
             exact ⟨i, trivial, rfl, HeapOK.atT (A := [_, _, _, _, _, _]) (A' := [_, _, _, _]) (R := R) H [2, 3, 0, 5] (by decide) rfl⟩)
          | (have hb : isBad K any last x = false := by (unfold isBad folB; rw [h14, h28]; simpa using h31)
             have hv : badN K any last x bad = bad := by (unfold badN; rw [hb]; rfl)
             rw [hv]
             exact ⟨i, trivial, rfl, HeapOK.atT (A := [_, _, _, _, _, _]) (A' := [_, _, _, _]) (R := R) H [2, 3, 0, 5] (by decide) rfl⟩)

end Go.Proofs.YthpfhglncbkinaaDoor.SF
