/- Walks (no statement stands here). -/
import Derived.Test.YthpfhglncbkinaaDoorSw2
import Derived.Test.YthpfhglncbkinaaDoorPAllx0
import Derived.Test.YthpfhglncbkinaaDoorWMore
import Derived.Test.YthpfhglncbkinaaDoorWLast
namespace Go.Proofs.YthpfhglncbkinaaDoor.SF
open Go.RowKit Go.Sx Go.Proofs.YthpfhglncbkinaaDoorW.PrintWords Go.Proofs.YthpfhglncbkinaaDoorW.PrintLast Go.Proofs.YthpfhglncbkinaaDoorW.PrintMore
set_option linter.unusedVariables false
set_option linter.unusedSimpArgs false
set_option maxRecDepth 100000
structure Kn where
  lag : Int
  t0 : Int
  t1 : Int
  t2 : Int
  t3 : Int
  t4 : Int
  t5 : Int
  t6 : Int
  t7 : Int
def Kn.cells (K : Kn) : List Value := [.int .i64 K.lag, .int .i64 K.t0, .int .i64 K.t1, .int .i64 K.t2, .int .i64 K.t3, .int .i64 K.t4, .int .i64 K.t5, .int .i64 K.t6, .int .i64 K.t7]
def capI (c : Int) : Int := mnI (mxI c 0) 1048576
def Kn.told (K : Kn) (i : Nat) : Int := [K.t0, K.t1, K.t2, K.t3, K.t4, K.t5, K.t6, K.t7].getD i 0
def Kn.most (K : Kn) (c : Int) : Int := if 0 < K.lag then K.told (K.lag - 1).toNat else capI c
def Kn.next (K : Kn) (c : Int) : Kn := ⟨K.lag, capI c, K.t0, K.t1, K.t2, K.t3, K.t4, K.t5, K.t6⟩
def Kn.ok (K : Kn) : Prop := 0 ≤ K.lag ∧ K.lag ≤ 8
def kn0 (lag : Int) : Kn := ⟨mnI (mxI lag 0) 8, 0, 0, 0, 0, 0, 0, 0, 0⟩
theorem kn0_ok (lag : Int) : (kn0 lag).ok := by unfold Kn.ok kn0 mnI mxI; simp only; constructor <;> split <;> split <;> omega
theorem Kn.next_ok {K : Kn} (h : K.ok) (c : Int) : (K.next c).ok := h
theorem Kn.read {K : Kn} (h : K.ok) (h0 : 0 < K.lag) : ([.int .i64 K.lag, .int .i64 K.t0, .int .i64 K.t1, .int .i64 K.t2, .int .i64 K.t3, .int .i64 K.t4, .int .i64 K.t5, .int .i64 K.t6, .int .i64 K.t7] : List Value)[1 + (K.lag - 1).toNat * 1]? = some (.int .i64 (K.told (K.lag - 1).toNat)) := by
  obtain ⟨h1, h2⟩ := h
  have : (K.lag - 1).toNat = 0 ∨ (K.lag - 1).toNat = 1 ∨ (K.lag - 1).toNat = 2 ∨ (K.lag - 1).toNat = 3 ∨ (K.lag - 1).toNat = 4 ∨ (K.lag - 1).toNat = 5 ∨ (K.lag - 1).toNat = 6 ∨ (K.lag - 1).toNat = 7 := by omega
  unfold Kn.told
  rcases this with e | e | e | e | e | e | e | e <;> rw [e] <;> rfl
theorem wsub1 {x : Int} (h0 : 0 < x) (h1 : x ≤ 8) : IntKind.i64.wrap (x - 1) = x - 1 := by rw [i64_w]; unfold wrap64; omega
def overB (x : PAll.S40) (K : Kn) : Bool := (x.f0 == 2) && decide (K.most x.f2 < x.f1)
/-- What is known behind so many facts. -/
def knA (lag : Int) (F : Nat → PAll.S40) : Nat → Kn
  | 0 => kn0 lag
  | k + 1 => (knA lag F k).next (F k).f2
theorem knA_ok (lag : Int) (F : Nat → PAll.S40) : ∀ k, (knA lag F k).ok
  | 0 => kn0_ok lag
  | k + 1 => Kn.next_ok (knA_ok lag F k) _

theorem tell_calls (K : Kn) (cap : Int) (hK : K.ok) (w : World) : Calls Tryd.prog 36 #[.agg #[.int .i64 K.lag, .int .i64 K.t0, .int .i64 K.t1, .int .i64 K.t2, .int .i64 K.t3, .int .i64 K.t4, .int .i64 K.t5, .int .i64 K.t6, .int .i64 K.t7], .int .i64 cap] w fun e w' => e = .returned (.tuple #[.agg #[.int .i64 K.lag, .int .i64 (capI (cap)), .int .i64 K.t0, .int .i64 K.t1, .int .i64 K.t2, .int .i64 K.t3, .int .i64 K.t4, .int .i64 K.t5, .int .i64 K.t6], .int .i64 (K.most cap)]) ∧ Below w.heap.size w w' := by
  refine enter (w0 := w) (hp := [old w]) (env := [(0, .agg #[.int .i64 K.lag, .int .i64 K.t0, .int .i64 K.t1, .int .i64 K.t2, .int .i64 K.t3, .int .i64 K.t4, .int .i64 K.t5, .int .i64 K.t6, .int .i64 K.t7]), (1, .int .i64 cap)]) Tryd.func36 rfl 30 rfl (by simp) rfl (HeapOK.start _) ?_
  refine wc_seq ?_
  refine wc_region ?_
  refine wl_box rfl rfl rfl (by decide) rfl rfl (fun b1 => ?_)
  refine wl_alloc rfl rfl rfl (by decide) Zr66 (fun b2 => ?_)
  refine wl_q (q_assign rfl rfl) rfl rfl (by decide) ?_
  refine wl_nil ?_
  refine fq_then ?_
  refine wc_seq ?_
  refine wc_region ?_
  refine wl_q (q_move rfl rfl) rfl rfl (by decide) ?_
  refine wl_q (q_max rfl rfl rfl) rfl rfl (by decide) ?_
  refine wl_q (q_min rfl rfl rfl) rfl rfl (by decide) ?_
  refine wl_q (q_assign rfl rfl) rfl rfl (by decide) ?_
  refine wl_nil ?_
  refine fq_then ?_
  refine wc_seq ?_
  refine wc_region ?_
  refine wl_q (q_move rfl rfl) rfl rfl (by decide) ?_
  refine wl_q (q_assign rfl rfl) rfl rfl (by decide) ?_
  refine wl_nil ?_
  refine fq_then ?_
  refine wc_seq ?_
  refine wc_seq ?_
  refine wc_region ?_
  refine wl_q (q_fa (o1 := 0) rfl rfl Fo66_0 rfl) rfl rfl (by decide) ?_
  refine wl_q (q_load rfl rfl Mn3 (reads1 (i := 1) rfl rfl)) rfl rfl (by decide) ?_
  refine wl_q (q_bin rfl rfl rfl rfl) rfl rfl (by decide) ?_
  refine wl_nil ?_
  refine fq_then ?_
  refine wc_cond rfl (fun h13 => ?_) (fun h13 => ?_)
  · skip
    have h0 : 0 < K.lag := of_decide_eq_true h13
    refine wc_region ?_
    refine wl_q (q_fa (o1 := 0) rfl rfl Fo66_0 rfl) rfl rfl (by decide) ?_
    refine wl_q (q_load rfl rfl Mn3 (reads1 (i := 1) rfl rfl)) rfl rfl (by decide) ?_
    refine wl_q (q_bin rfl rfl rfl rfl) rfl rfl (by decide) ?_
    refine wl_eq (t := 16) rfl (congrArg (Value.int .i64) (wsub1 h0 hK.2)) ?_
    refine wl_q (q_fa (o1 := 1) rfl rfl Fo66_1 rfl) rfl rfl (by decide) ?_
    refine wl_q (q_ia rfl rfl rfl Tryd.underlying64 Sz3 (by omega) (by have := hK.2; omega) rfl) rfl rfl (by decide) ?_
    refine wl_q (q_load rfl rfl Mn3 (reads1 (i := 1) rfl (Kn.read hK h0))) rfl rfl (by decide) ?_
    refine wl_q (q_assign rfl rfl) rfl rfl (by decide) ?_
    refine wl_nil ?_
    refine fq_then ?_
    refine wc_seq ?_
    refine wc_draw 4 Fol (by kernel_rfl) (Chain.yield (q_fa (o1 := 1) rfl rfl Fo66_1 rfl) rfl rfl (Chain.yield (q_sliceA_lo rfl rfl rfl Tryd.underlying64 Sz3 (by decide) (by decide)) rfl rfl (Chain.yield (q_fa (o1 := 1) rfl rfl Fo66_1 rfl) rfl rfl (Chain.yield (q_sliceA_hi rfl rfl rfl Tryd.underlying64 Sz3 (by decide) (by decide)) rfl rfl (Chain.nil _))))) ?_
    refine wl_copy (i := 1) (vs := [.int .i64 K.t0, .int .i64 K.t1, .int .i64 K.t2, .int .i64 K.t3, .int .i64 K.t4, .int .i64 K.t5, .int .i64 K.t6]) rfl rfl rfl (by decide) rfl rfl Tryd.underlying37 Sz3 rfl (readsS (i := 1) (off := 1) 7 rfl rfl) rfl (by simp) (by simp [Value.oneCell']) (by simp only [List.take_succ_cons, List.take_zero, List.take_nil, List.drop_succ_cons, List.drop_zero, List.drop_nil, List.nil_append, List.cons_append, List.append_nil, List.length_cons, List.length_nil, Nat.reduceAdd, Nat.zero_add]; rfl) (by simp only [List.set_cons_zero, List.set_cons_succ]; rfl) ?_
    refine wl_nil ?_
    refine fq_then ?_
    refine wc_seq ?_
    refine wc_region ?_
    refine wl_q (q_move rfl rfl) rfl rfl (by decide) ?_
    refine wl_q (q_fa (o1 := 1) rfl rfl Fo66_1 rfl) rfl rfl (by decide) ?_
    refine wl_q (q_ia (o1 := 1) rfl rfl rfl Tryd.underlying64 Sz3 (by decide) (by decide) rfl) rfl rfl (by decide) ?_
    refine wl_store (i := 1) rfl rfl rfl rfl rfl rfl Sz3 rfl rfl (by simp) (by simp [Value.oneCell']) (by simp only [List.take_succ_cons, List.take_zero, List.take_nil, List.drop_succ_cons, List.drop_zero, List.drop_nil, List.nil_append, List.cons_append, List.append_nil, List.length_cons, List.length_nil, Nat.reduceAdd, Nat.zero_add]; rfl) (by simp only [List.set_cons_zero, List.set_cons_succ]; rfl) ?_
    refine wl_nil ?_
    refine fq_then ?_
    refine wc_seq ?_
    refine wc_region ?_
    refine wl_q (q_loadA rfl rfl Mn66 Sz66 rfl (readsAll (i := 1) rfl)) rfl rfl (by decide) ?_
    refine wl_q (q_move rfl rfl) rfl rfl (by decide) ?_
    refine wl_store (i := 0) rfl rfl rfl rfl rfl rfl Sz66 rfl rfl (by simp) (by simp [Value.oneCell']) (by simp only [List.take_succ_cons, List.take_zero, List.take_nil, List.drop_succ_cons, List.drop_zero, List.drop_nil, List.nil_append, List.cons_append, List.append_nil, List.length_cons, List.length_nil, Nat.reduceAdd, Nat.zero_add]; rfl) (by simp only [List.set_cons_zero, List.set_cons_succ]; rfl) ?_
    refine wl_q (q_assign rfl rfl) rfl rfl (by decide) ?_
    refine wl_nil ?_
    refine fq_then ?_
    refine wc_ret ?_
    refine fq_cell_tmp (i := 0) (.inl rfl) rfl rfl rfl rfl Mn66 Sz66 rfl (fun w1 H => ?_)
    refine ⟨?_, H.toBelow (by simp)⟩
    unfold Kn.most
    first | (rw [if_pos h0]; rfl) | (rw [if_neg h0]; rfl)
  · skip
    have h0 : ¬ 0 < K.lag := of_decide_eq_false h13
    refine wc_skip ?_
    refine fq_then ?_
    refine wc_seq ?_
    refine wc_draw 4 Fol (by kernel_rfl) (Chain.yield (q_fa (o1 := 1) rfl rfl Fo66_1 rfl) rfl rfl (Chain.yield (q_sliceA_lo rfl rfl rfl Tryd.underlying64 Sz3 (by decide) (by decide)) rfl rfl (Chain.yield (q_fa (o1 := 1) rfl rfl Fo66_1 rfl) rfl rfl (Chain.yield (q_sliceA_hi rfl rfl rfl Tryd.underlying64 Sz3 (by decide) (by decide)) rfl rfl (Chain.nil _))))) ?_
    refine wl_copy (i := 1) (vs := [.int .i64 K.t0, .int .i64 K.t1, .int .i64 K.t2, .int .i64 K.t3, .int .i64 K.t4, .int .i64 K.t5, .int .i64 K.t6]) rfl rfl rfl (by decide) rfl rfl Tryd.underlying37 Sz3 rfl (readsS (i := 1) (off := 1) 7 rfl rfl) rfl (by simp) (by simp [Value.oneCell']) (by simp only [List.take_succ_cons, List.take_zero, List.take_nil, List.drop_succ_cons, List.drop_zero, List.drop_nil, List.nil_append, List.cons_append, List.append_nil, List.length_cons, List.length_nil, Nat.reduceAdd, Nat.zero_add]; rfl) (by simp only [List.set_cons_zero, List.set_cons_succ]; rfl) ?_
    refine wl_nil ?_
    refine fq_then ?_
    refine wc_seq ?_
    refine wc_region ?_
    refine wl_q (q_move rfl rfl) rfl rfl (by decide) ?_
    refine wl_q (q_fa (o1 := 1) rfl rfl Fo66_1 rfl) rfl rfl (by decide) ?_
    refine wl_q (q_ia (o1 := 1) rfl rfl rfl Tryd.underlying64 Sz3 (by decide) (by decide) rfl) rfl rfl (by decide) ?_
    refine wl_store (i := 1) rfl rfl rfl rfl rfl rfl Sz3 rfl rfl (by simp) (by simp [Value.oneCell']) (by simp only [List.take_succ_cons, List.take_zero, List.take_nil, List.drop_succ_cons, List.drop_zero, List.drop_nil, List.nil_append, List.cons_append, List.append_nil, List.length_cons, List.length_nil, Nat.reduceAdd, Nat.zero_add]; rfl) (by simp only [List.set_cons_zero, List.set_cons_succ]; rfl) ?_
    refine wl_nil ?_
    refine fq_then ?_
    refine wc_seq ?_
    refine wc_region ?_
    refine wl_q (q_loadA rfl rfl Mn66 Sz66 rfl (readsAll (i := 1) rfl)) rfl rfl (by decide) ?_
    refine wl_q (q_move rfl rfl) rfl rfl (by decide) ?_
    refine wl_store (i := 0) rfl rfl rfl rfl rfl rfl Sz66 rfl rfl (by simp) (by simp [Value.oneCell']) (by simp only [List.take_succ_cons, List.take_zero, List.take_nil, List.drop_succ_cons, List.drop_zero, List.drop_nil, List.nil_append, List.cons_append, List.append_nil, List.length_cons, List.length_nil, Nat.reduceAdd, Nat.zero_add]; rfl) (by simp only [List.set_cons_zero, List.set_cons_succ]; rfl) ?_
    refine wl_q (q_assign rfl rfl) rfl rfl (by decide) ?_
    refine wl_nil ?_
    refine fq_then ?_
    refine wc_ret ?_
    refine fq_cell_tmp (i := 0) (.inl rfl) rfl rfl rfl rfl Mn66 Sz66 rfl (fun w1 H => ?_)
    refine ⟨?_, H.toBelow (by simp)⟩
    unfold Kn.most
    first | (rw [if_pos h0]; rfl) | (rw [if_neg h0]; rfl)

theorem over1_calls (w0 : World) (b : Nat) (K : Kn) (hK : K.ok) (x : PAll.S40) (A : Option Addr) (c : Nat) (w : World) (hw : HeapOK w0 [.blk b [.int .i64 K.lag, .int .i64 K.t0, .int .i64 K.t1, .int .i64 K.t2, .int .i64 K.t3, .int .i64 K.t4, .int .i64 K.t5, .int .i64 K.t6, .int .i64 K.t7] 66, old w0] w) : Calls Tryd.prog 35 #[.agg #[.int .i64 x.f0, .int .i64 x.f1, .int .i64 x.f2, .slice A x.f3.length c, .int .u64 x.f4], .pointer (some ⟨b, 0, none⟩)] w fun e w' => e = .returned (.bool (overB x K)) ∧ HeapOK w0 [.blk b [.int .i64 K.lag, .int .i64 (capI (x.f2)), .int .i64 K.t0, .int .i64 K.t1, .int .i64 K.t2, .int .i64 K.t3, .int .i64 K.t4, .int .i64 K.t5, .int .i64 K.t6] 66, old w0] w' := by
  refine enter (w0 := w0) (hp := [.blk b [.int .i64 K.lag, .int .i64 K.t0, .int .i64 K.t1, .int .i64 K.t2, .int .i64 K.t3, .int .i64 K.t4, .int .i64 K.t5, .int .i64 K.t6, .int .i64 K.t7] 66, old w0]) (env := [(0, .agg #[.int .i64 x.f0, .int .i64 x.f1, .int .i64 x.f2, .slice A x.f3.length c, .int .u64 x.f4]), (1, .pointer (some ⟨b, 0, none⟩))]) Tryd.func35 rfl 23 rfl (by simp) rfl hw ?_
  refine wc_seq ?_
  refine wc_region ?_
  refine wl_box rfl rfl rfl (by decide) rfl rfl (fun b1 => ?_)
  refine wl_q (q_assign rfl rfl) rfl rfl (by decide) ?_
  refine wl_nil ?_
  refine fq_then ?_
  refine wc_seq ?_
  refine wc_region ?_
  refine wl_q (q_loadA rfl rfl Mn66 Sz66 rfl (readsAll (i := 1) rfl)) rfl rfl (by decide) ?_
  refine wl_q (q_fa (o1 := 2) rfl rfl Fo40_2 rfl) rfl rfl (by decide) ?_
  refine wl_q (q_load rfl rfl Mn3 (reads1 (i := 0) rfl rfl)) rfl rfl (by decide) ?_
  refine wl_q (q_call rfl En36 rfl (fun w1 _ => tell_calls K x.f2 hK w1)) rfl rfl (by decide) ?_
  refine wl_q (q_move rfl rfl) rfl rfl (by decide) ?_
  refine wl_q (q_extract rfl rfl rfl) rfl rfl (by decide) ?_
  refine wl_q (q_extract rfl rfl rfl) rfl rfl (by decide) ?_
  refine wl_alloc rfl rfl rfl (by decide) Zr66 (fun b2 => ?_)
  refine wl_store (i := 0) rfl rfl rfl rfl rfl rfl Sz66 rfl rfl (by simp) (by simp [Value.oneCell']) (by simp only [List.take_succ_cons, List.take_zero, List.take_nil, List.drop_succ_cons, List.drop_zero, List.drop_nil, List.nil_append, List.cons_append, List.append_nil, List.length_cons, List.length_nil, Nat.reduceAdd, Nat.zero_add]; rfl) (by simp only [List.set_cons_zero, List.set_cons_succ]; rfl) ?_
  refine wl_q (q_assign rfl rfl) rfl rfl (by decide) ?_
  refine wl_nil ?_
  refine fq_then ?_
  refine wc_seq ?_
  refine wc_region ?_
  refine wl_q (q_loadA rfl rfl Mn66 Sz66 rfl (readsAll (i := 0) rfl)) rfl rfl (by decide) ?_
  refine wl_store (i := 2) rfl rfl rfl rfl rfl rfl Sz66 rfl rfl (by simp) (by simp [Value.oneCell']) (by simp only [List.take_succ_cons, List.take_zero, List.take_nil, List.drop_succ_cons, List.drop_zero, List.drop_nil, List.nil_append, List.cons_append, List.append_nil, List.length_cons, List.length_nil, Nat.reduceAdd, Nat.zero_add]; rfl) (by simp only [List.set_cons_zero, List.set_cons_succ]; rfl) ?_
  refine wl_nil ?_
  refine fq_then ?_
  refine wc_seq ?_
  refine wc_region ?_
  refine wl_q (q_fa (o1 := 0) rfl rfl Fo40_0 rfl) rfl rfl (by decide) ?_
  refine wl_q (q_load rfl rfl Mn3 (reads1 (i := 1) rfl rfl)) rfl rfl (by decide) ?_
  refine wl_q (q_bin rfl rfl rfl rfl) rfl rfl (by decide) ?_
  refine wl_q (q_move rfl rfl) rfl rfl (by decide) ?_
  refine wl_split (t := 17) rfl (fun h17 => ?_) (fun h17 => ?_)
  · skip
    refine wl_want (b := true) (q_fa (o1 := 1) rfl rfl Fo40_1 rfl) rfl rfl rfl rfl (by decide) ?_
    refine wl_want (b := true) (q_load rfl rfl Mn3 (reads1 (i := 1) rfl rfl)) rfl rfl rfl rfl (by decide) ?_
    refine wl_want (b := true) (q_move rfl rfl) rfl rfl rfl rfl (by decide) ?_
    refine wl_want (b := true) (q_bin rfl rfl rfl rfl) rfl rfl rfl rfl (by decide) ?_
    refine wl_q (q_pick rfl rfl rfl) rfl rfl (by decide) ?_
    refine wl_q (q_assign rfl rfl) rfl rfl (by decide) ?_
    refine wl_nil ?_
    refine fq_then ?_
    refine wc_ret ?_
    refine fq_ret1 rfl rfl (fun w1 H => ?_)
    refine ⟨by simp only [overB]; first | (rw [h17]; rfl) | skip, ?_⟩
    exact H.sub (List.Sublist.cons _ (List.Sublist.cons _ (List.Sublist.refl _)))
  · skip
    refine wl_skip (b := false) rfl rfl rfl rfl (by decide) ?_
    refine wl_skip (b := false) rfl rfl rfl rfl (by decide) ?_
    refine wl_skip (b := false) rfl rfl rfl rfl (by decide) ?_
    refine wl_skip (b := false) rfl rfl rfl rfl (by decide) ?_
    refine wl_q (q_pick rfl rfl rfl) rfl rfl (by decide) ?_
    refine wl_q (q_assign rfl rfl) rfl rfl (by decide) ?_
    refine wl_nil ?_
    refine fq_then ?_
    refine wc_ret ?_
    refine fq_ret1 rfl rfl (fun w1 H => ?_)
    refine ⟨by simp only [overB]; first | (rw [h17]; rfl) | skip, ?_⟩
    exact H.sub (List.Sublist.cons _ (List.Sublist.cons _ (List.Sublist.refl _)))

theorem over_calls (w0 : World) (hp : List Sx.Item) (lag : Int) (w : World) (hw : HeapOK w0 hp w) : Calls Tryd.prog 22 #[.int .i64 lag] w fun e w' => ∃ b, True ∧ e = .returned (.func (.func 35) #[] #[.pointer (some ⟨b, 0, none⟩)]) ∧ HeapOK w0 (.blk b (kn0 lag).cells 66 :: hp) w' := by
  refine enter (w0 := w0) (hp := hp) (env := [(0, .int .i64 lag)]) Tryd.func22 rfl 7 rfl (by simp) rfl hw ?_
  refine wc_seq ?_
  refine wc_region ?_
  refine wl_q (q_assign rfl rfl) rfl rfl (by decide) ?_
  refine wl_nil ?_
  refine fq_then ?_
  refine wc_seq ?_
  refine wc_region ?_
  refine wl_q (q_move rfl rfl) rfl rfl (by decide) ?_
  refine wl_q (q_call rfl En34 rfl (fun w1 _ => feedNew_calls lag w1)) rfl rfl (by decide) ?_
  refine wl_alloc rfl rfl rfl (by decide) Zr66 (fun b1 => ?_)
  refine wl_store (i := 0) rfl rfl rfl rfl rfl rfl Sz66 rfl rfl (by simp) (by simp [Value.oneCell']) (by simp only [List.take_succ_cons, List.take_zero, List.take_nil, List.drop_succ_cons, List.drop_zero, List.drop_nil, List.nil_append, List.cons_append, List.append_nil, List.length_cons, List.length_nil, Nat.reduceAdd, Nat.zero_add]; rfl) (by simp only [List.set_cons_zero, List.set_cons_succ]; rfl) ?_
  refine wl_nil ?_
  refine fq_then ?_
  refine wc_seq ?_
  refine wc_region ?_
  refine wl_q (q_makeFuncL rfl rfl rfl) rfl rfl (by decide) ?_
  refine wl_q (q_assign rfl rfl) rfl rfl (by decide) ?_
  refine wl_nil ?_
  refine fq_then ?_
  refine wc_ret ?_
  refine fq_ret1 rfl rfl (fun w1 H => ?_)
  exact ⟨b1, trivial, rfl, H⟩

theorem Over_calls (lag : Int) (A : Option Addr) (c : Nat) (l : List PAll.S40) (w : World) (ad : Addr) (PA : Nat → Option Addr) (PC : Nat → Nat) (F : Facts w A l ad PA PC) : Calls Tryd.prog 11 #[.int .i64 lag, .slice A l.length c] w fun e w' => e = .returned (.int .i64 (resI (fun i => overB (l.getD i PAll.z40) (knA lag (fun i => l.getD i PAll.z40) i)) l.length)) ∧ Below w.heap.size w w' := by
  have hF := F.hn
  refine enter (w0 := w) (hp := [old w]) (env := [(0, .int .i64 lag), (1, .slice A l.length c)]) Tryd.func11 rfl 9 rfl (by simp) rfl (HeapOK.start _) ?_
  refine wc_seq ?_
  refine wc_region ?_
  refine wl_q (q_assign rfl rfl) rfl rfl (by decide) ?_
  refine wl_nil ?_
  refine fq_then ?_
  refine wc_seq ?_
  refine wc_region ?_
  refine wl_q (q_move rfl rfl) rfl rfl (by decide) ?_
  refine wl_q (q_move rfl rfl) rfl rfl (by decide) ?_
  refine wl_call (ι := Nat) (fun b => .func (.func 35) #[] #[.pointer (some ⟨b, 0, none⟩)]) (fun b => [.blk b (kn0 lag).cells 66, old w]) (fun _ => True) rfl rfl rfl (by decide) En22 rfl (fun w1 hw1 => over_calls w _ lag w1 hw1) (fun b _ => ?_)
  refine wl_call (ι := Nat) (fun _ => .int .i64 (resI (fun i => overB (l.getD i PAll.z40) (knA lag (fun i => l.getD i PAll.z40) i)) l.length)) (fun k => [.blk b (knA lag (fun i => l.getD i PAll.z40) k).cells 66, old w]) (fun _ => True) rfl rfl rfl (by decide) En21 rfl (fun w1 hw1 => (first_calls w (fun k => [.blk b (knA lag (fun i => l.getD i PAll.z40) k).cells 66, old w]) (fun i => cells5 (l.getD i PAll.z40) (PA i) (PC i)) _ l.length _ _ ad 35 #[.pointer (some ⟨b, 0, none⟩)] F.hA hF (fun _ => rfl) (fun k i hi => ?sR) En35 (fun i hi w2 hw2 => by rw [app3]; exact over1_calls w b _ (knA_ok lag _ i) _ _ _ w2 hw2) w1 hw1).mono (fun e w' h => ⟨_, trivial, h.1, h.2⟩)) (fun k _ => ?_)
  case sR => exact reads_old (by simp) (F.cell i hi)
  refine wl_q (q_assign rfl rfl) rfl rfl (by decide) ?_
  refine wl_nil ?_
  refine fq_then ?_
  refine wc_ret ?_
  refine fq_ret1 rfl rfl (fun w1 H => ?_)
  exact ⟨rfl, H.toBelow (by simp)⟩

end Go.Proofs.YthpfhglncbkinaaDoor.SF
