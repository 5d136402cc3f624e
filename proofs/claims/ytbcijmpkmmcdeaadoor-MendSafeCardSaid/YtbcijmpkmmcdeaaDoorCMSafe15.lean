/- Texts of mine, put together (no statement stands here). -/
import Derived.Test.YtbcijmpkmmcdeaaDoorCMSafe14
import Derived.Test.YtbcijmpkmmcdeaaDoorCMSafe9
section
namespace Go.Proofs.YtbcijmpkmmcdeaaDoor.SF
open Go.RowKit Go.Sx Go.Proofs.YtbcijmpkmmcdeaaDoor.PAll Go.Proofs.YtbcijmpkmmcdeaaDoorW.PrintWords Go.Proofs.YtbcijmpkmmcdeaaDoorW.PrintLast Go.Proofs.YtbcijmpkmmcdeaaDoorW.PrintMore
open Go.Proofs.YtbcijmpkmmcdeaaDoor.PChk (sumP sum_ev sumP_bound)
set_option linter.unusedVariables false
set_option linter.unusedSimpArgs false
set_option maxRecDepth 100000
def hasP (l : List S51) (car : Int) : Int × Int × Bool := match l.find? (fun p => p.f0 == car) with | some p => (p.f0, p.f1, true) | none => (0, 0, false)
theorem has_ev (b m cr : Int) (l : List S51) (car : Int) (hl : l.length ≤ 1099511627776) : ledger_Ledger_Has.f b m cr l car = some (hasP l car) := by
  unfold ledger_Ledger_Has.f ledger_Ledger_at.f
  rw [if_pos hl, Option.bind_some]
  unfold hasP Go.Proofs.YtbcijmpkmmcdeaaDoor.PAll.ixf
  cases hf : l.find? (fun p => p.f0 == car) with
  | none =>
    have : ¬ l.findIdx (fun p => p.f0 == car) < l.length := by
      rw [List.findIdx_lt_length]
      rintro ⟨p, hp, hc⟩
      exact absurd hc (by simpa using List.find?_eq_none.1 hf p hp)
    rw [if_neg this, if_pos (by decide)]
  | some p =>
    have hm := List.mem_of_find?_eq_some hf
    have hp := List.find?_some hf
    have hlt : l.findIdx (fun p => p.f0 == car) < l.length := List.findIdx_lt_length.2 ⟨p, hm, hp⟩
    have he : l[l.findIdx (fun p => p.f0 == car)] = p := by
      have := List.find?_eq_getElem?_findIdx (xs := l) (p := fun p => p.f0 == car)
      rw [hf, List.getElem?_eq_getElem hlt] at this
      exact (Option.some.inj this).symm
    rw [if_pos hlt, if_neg (by omega), if_pos (by omega), if_pos (by omega), Go.Proofs.YtbcijmpkmmcdeaaDoor.PAll.rd_T51_nat _ _ hlt, he]
def pkF (ps : List S51) (m : S28) : Int := mn (mx (mx m.f1 (hasP ps m.f0).2.1) 0) 1048576
theorem pkF_range (ps : List S51) (m : S28) : 0 ≤ pkF ps m ∧ pkF ps m ≤ 1048576 := by
  unfold pkF mn mx
  constructor <;> (repeat' split) <;> omega
structure AG where
  out : List S51
  stops : List Int
def agOne (ps : List S51) (bud : Int) (seen : List Int) (s : AG) (m : S28) : AG :=
  if m.f0 ∈ seen ∨ m.f0 < 0 ∨ 64 ≤ m.f0 then s else if bud < sumP s.out + pkF ps m then ⟨s.out, s.stops ++ [m.f0]⟩ else ⟨s.out ++ [⟨m.f0, pkF ps m⟩], s.stops⟩
def agN (ps : List S51) (bud : Int) (l : List S28) : Nat → AG
  | 0 => ⟨[], []⟩
  | j + 1 => match l[j]? with | some m => agOne ps bud ((l.take j).map S28.f0) (agN ps bud l j) m | none => agN ps bud l j
theorem agN_range (ps : List S51) (bud : Int) (l : List S28) (j : Nat) : (∀ p ∈ (agN ps bud l j).out, 0 ≤ p.f1 ∧ p.f1 ≤ 1048576) ∧ (agN ps bud l j).out.length ≤ j ∧ (agN ps bud l j).stops.length ≤ j := by
  induction j with
  | zero => exact ⟨(fun p hp => by cases hp), Nat.le_refl _, Nat.le_refl _⟩
  | succ j ih =>
    unfold agN
    cases l[j]? with
    | none => exact ⟨ih.1, by have := ih.2.1; simp only; omega, by have := ih.2.2; simp only; omega⟩
    | some m =>
      simp only
      unfold agOne
      split
      · exact ⟨ih.1, by omega, by omega⟩
      · split
        · exact ⟨ih.1, by simp only; omega, by simp only [List.length_append, List.length_cons, List.length_nil]; omega⟩
        · refine ⟨fun p hp => ?_, by simp only [List.length_append, List.length_cons, List.length_nil]; omega, by simp only; omega⟩
          rcases List.mem_append.1 hp with hp | hp
          · exact ih.1 p hp
          · obtain rfl := List.mem_singleton.1 hp
            exact pkF_range ps m
def cntV (l : List Int) (x : Int) : Option Value := if l.count x = 0 then none else some (.int .i64 (l.count x : Nat))
theorem cnt_get (l : List Int) (x : Int) : (cntV l x).getD (.int .i64 0) = .int .i64 (l.count x : Nat) := by
  unfold cntV
  split
  · rename_i h; rw [h]; rfl
  · rfl
theorem cnt_put {ms : List (Int × Value)} {l : List Int} (h : ∀ x, mfind ms x = cntV l x) (c : Int) : ∀ x, mfind (mput ms c (.int .i64 ((l.count c + 1 : Nat) : Int))) x = cntV (l ++ [c]) x := by
  intro x
  rw [mfind_mput]
  unfold cntV
  rw [List.count_append]
  by_cases e : x = c
  · subst e
    rw [if_pos rfl, if_neg (by simp)]
    simp
  · rw [if_neg e, h x]
    unfold cntV
    have : List.count x [c] = 0 := by simp [Ne.symm e]
    rw [this, Nat.add_zero]
theorem C28_at {W : World} {A : Option Addr} {j : Nat} {xs : List S28} {p : S28} (h : Kd.C k28 W A xs.length xs) (hp : xs[j]? = some p) : ∃ ad, A = some ad ∧ ∀ i u, [Value.int .i64 p.f0, Value.int .i64 p.f1][i]? = some u → W.cell? ((ad.add (j * 2)).add i) = some u := by
  obtain ⟨ad, cs, e, hK, hc⟩ := C_at h hp rfl
  obtain rfl := k28_open hK
  exact ⟨ad, e, hc⟩
theorem take_snoc {l : List S28} {j : Nat} {p : S28} (h : l[j]? = some p) : (l.take (j + 1)).map S28.f0 = (l.take j).map S28.f0 ++ [p.f0] := by
  rw [List.take_add_one, h]; simp
theorem wrap_id {x : Int} (h : -9223372036854775808 ≤ x ∧ x ≤ 9223372036854775807) : IntKind.i64.wrap x = x := by
  simp only [IntKind.wrap, IntKind.signed, IntKind.bits]; simp; omega
theorem count_mem {l : List Int} {x : Int} : (0 < l.count x) ↔ x ∈ l := List.count_pos_iff
theorem pk_calls (p : S28) (B : Nat) (bu ma cr : Int) (A : Option Addr) (c : Nat) (ps : List S51) (w : World) (hB : w.heap[B]? = some (.cells [.int .i64 bu, .int .i64 ma, .int .i64 cr, .slice A ps.length c].toArray 32 (0, 0))) (hr : Kd.C k51 w A ps.length ps) (hc : ps.length ≤ c) (hl : ps.length ≤ 1099511627776) :
    Calls Tryd.prog 38 #[.agg #[.int .i64 p.f0, .int .i64 p.f1], .pointer (some ⟨B, 0, none⟩)] w fun e w' => e = .returned (.int .i64 (pkF ps p)) ∧ Below w.heap.size w w' := by
  refine enter (w0 := w) (hp := [old w]) (env := [(0, .agg #[.int .i64 p.f0, .int .i64 p.f1]), (1, .pointer (some ⟨B, 0, none⟩))]) Tryd.func38 rfl 19 rfl (by simp) rfl (HeapOK.start _) ?_
  refine wc_seq ?_
  refine wc_region ?_
  refine wl_box rfl rfl rfl (by decide) rfl rfl (fun b1 => ?_)
  refine wl_q (q_assign rfl rfl) rfl rfl (by decide) ?_
  refine wl_nil ?_
  refine fq_then ?_
  refine wc_seq ?_
  refine wc_region ?_
  refine wl_q (q_loadA rfl rfl Mn32 Sz32 rfl (reads_old (cs := [.int .i64 bu, .int .i64 ma, .int .i64 cr, .slice A ps.length c]) (by simp) (fun j v hj => by (rw [addr_add, cell_of_row w B _ _ 32 (0, 0) hB]; simpa using hj)))) rfl rfl (by decide) ?_
  refine wl_q (q_fa (o1 := 0) rfl rfl Fo28_0 rfl) rfl rfl (by decide) ?_
  refine wl_q (q_load rfl rfl Mn3 (reads1 (i := 0) rfl rfl)) rfl rfl (by decide) ?_
  refine wl_q (q_call rfl En36 rfl (fun w1 hw1 => ledger_Ledger_Has.calls bu ma cr A c ps p.f0 (hasP ps p.f0).1 (hasP ps p.f0).2.1 (hasP ps p.f0).2.2 w1 (Kd.C_below hr (hw1.toBelow (by simp))) hc (has_ev bu ma cr ps p.f0 hl))) rfl rfl (by decide) ?_
  refine wl_q (q_move rfl rfl) rfl rfl (by decide) ?_
  refine wl_q (q_extract rfl rfl rfl) rfl rfl (by decide) ?_
  refine wl_q (q_extract rfl rfl rfl) rfl rfl (by decide) ?_
  refine wl_alloc rfl rfl rfl (by decide) Zr51 (fun b2 => ?_)
  refine wl_store (i := 0) rfl rfl rfl rfl rfl rfl Sz51 rfl rfl (by simp) (by simp [Value.oneCell']) (by first | (simp only [List.take_succ_cons, List.take_zero, List.take_nil, List.drop_succ_cons, List.drop_zero, List.drop_nil, List.nil_append, List.cons_append, List.append_nil, List.length_cons, List.length_nil, Nat.reduceAdd, Nat.zero_add]; rfl) | rfl) (by first | (simp only [List.set_cons_zero, List.set_cons_succ]; rfl) | rfl) ?_
  refine wl_q (q_assign rfl rfl) rfl rfl (by decide) ?_
  refine wl_nil ?_
  refine fq_then ?_
  refine wc_seq ?_
  refine wc_region ?_
  refine wl_q (q_fa (o1 := 1) rfl rfl Fo28_1 rfl) rfl rfl (by decide) ?_
  refine wl_q (q_load rfl rfl Mn3 (reads1 (i := 1) rfl rfl)) rfl rfl (by decide) ?_
  refine wl_q (q_fa (o1 := 1) rfl rfl Fo51_1 rfl) rfl rfl (by decide) ?_
  refine wl_q (q_load rfl rfl Mn3 (reads1 (i := 0) rfl rfl)) rfl rfl (by decide) ?_
  refine wl_q (q_max rfl rfl rfl) rfl rfl (by decide) ?_
  refine wl_q (q_call rfl En37 rfl (fun w1 hw1 => mend_within.calls _ 0 1048576 _ w1 rfl)) rfl rfl (by decide) ?_
  refine wl_q (q_assign rfl rfl) rfl rfl (by decide) ?_
  refine wl_nil ?_
  refine fq_then ?_
  refine wc_ret ?_
  refine fq_ret1 rfl rfl (fun w1 H => ?_)
  exact ⟨rfl, H.toBelow (by simp)⟩
set_option maxHeartbeats 4000000 in
theorem Again_calls (J : Jn) (p0 p1 p2 : Gh) (A : Option Addr) (c : Nat) (l : List S28) (budget : Int) (w : World) (hJ : Jn.ok w J p0 p1 p2) (hB0 : Bytes J.s0) (hB1 : Bytes J.s1) (hh : Half w) (hr : Kd.C k28 w A l.length l) (hc : l.length ≤ c) (hl : l.length ≤ 10000) (hps : (jload J.s0 J.s1).ps.length ≤ 10000) :
    Calls Tryd.prog 15 #[.agg (J.cells p0 p1 p2).toArray, .slice A l.length c, .int .i64 budget] w fun e w' => ∃ qo qs : Gh, e = .returned (.tuple #[.agg #[.int .i64 (mn (mx budget 0) 1048576), .int .i64 (jload J.s0 J.s1).mar, .int .i64 0, .slice qo.1 (agN (jload J.s0 J.s1).ps (mn (mx budget 0) 1048576) l l.length).out.length qo.2], .slice qs.1 (agN (jload J.s0 J.s1).ps (mn (mx budget 0) 1048576) l l.length).stops.length qs.2]) ∧ HeapOK w [.own 0 3 1 (.slice qs.1 (agN (jload J.s0 J.s1).ps (mn (mx budget 0) 1048576) l l.length).stops.length qs.2) (agN (jload J.s0 J.s1).ps (mn (mx budget 0) 1048576) l l.length).stops.length (nums .i64 (agN (jload J.s0 J.s1).ps (mn (mx budget 0) 1048576) l l.length).stops), .own 0 51 2 (.slice qo.1 (agN (jload J.s0 J.s1).ps (mn (mx budget 0) 1048576) l l.length).out.length qo.2) (agN (jload J.s0 J.s1).ps (mn (mx budget 0) 1048576) l l.length).out.length ((agN (jload J.s0 J.s1).ps (mn (mx budget 0) 1048576) l l.length).out.flatMap pc51), old w] w' := by
  refine enter (w0 := w) (hp := [old w]) (env := [(0, .agg #[.slice p0.1 J.s0.length p0.2, .slice p1.1 J.s1.length p1.2, .int .i64 J.last, .slice p2.1 J.was.length p2.2, .bool J.wrote]), (1, .slice A l.length c), (2, .int .i64 budget)]) Tryd.func15 rfl 84 rfl (by simp) rfl (HeapOK.start _) ?_
  refine wc_seq ?_
  refine wc_region ?_
  refine wl_box rfl rfl rfl (by decide) rfl rfl (fun b1 => ?_)
  refine wl_alloc rfl rfl rfl (by decide) Zr32 (fun b2 => ?_)
  refine wl_q (q_assign rfl rfl) rfl rfl (by decide) ?_
  refine wl_nil ?_
  refine fq_then ?_
  refine wc_seq ?_
  refine wc_region ?_
  refine wl_q (q_loadA rfl rfl Mn38 Sz38 rfl (readsAll (i := 1) rfl)) rfl rfl (by decide) ?_
  refine wl_call (ι := Gh) (fun i => .tuple #[.agg #[.int .i64 (jload J.s0 J.s1).bud, .int .i64 (jload J.s0 J.s1).mar, .int .i64 0, .slice i.1 (jload J.s0 J.s1).ps.length i.2], .int .u64 (jload J.s0 J.s1).seq, .bool (decide (0 < (jload J.s0 J.s1).seq))]) (fun i => .own 0 51 2 (.slice i.1 (jload J.s0 J.s1).ps.length i.2) (jload J.s0 J.s1).ps.length ((jload J.s0 J.s1).ps.flatMap pc51) :: _) (fun _ => True) rfl rfl rfl (by decide) En28 rfl (fun w1 hw1 => (Load_calls J p0 p1 p2 w1 (hJ.below (hw1.toBelow (by simp))) hB0 hB1 (hh.keep (hw1.toBelow (by simp)))).mono (fun e w' ⟨i, h1, h2⟩ => ⟨i, trivial, h1, hw1.lift1 h2⟩)) (fun pl _ => ?_)
  refine wl_q (q_move rfl rfl) rfl rfl (by decide) ?_
  refine wl_q (q_extract rfl rfl rfl) rfl rfl (by decide) ?_
  refine wl_q (q_extract rfl rfl rfl) rfl rfl (by decide) ?_
  refine wl_q (q_extract rfl rfl rfl) rfl rfl (by decide) ?_
  refine wl_alloc rfl rfl rfl (by decide) Zr32 (fun b3 => ?_)
  refine wl_store (i := 0) rfl rfl rfl rfl rfl rfl Sz32 rfl rfl (by simp) (by simp [Value.oneCell']) (by first | (simp only [List.take_succ_cons, List.take_zero, List.take_nil, List.drop_succ_cons, List.drop_zero, List.drop_nil, List.nil_append, List.cons_append, List.append_nil, List.length_cons, List.length_nil, Nat.reduceAdd, Nat.zero_add]; rfl) | rfl) (by first | (simp only [List.set_cons_zero, List.set_cons_succ]; rfl) | rfl) ?_
  refine wl_q (q_assign rfl rfl) rfl rfl (by decide) ?_
  refine wl_q (q_assign rfl rfl) rfl rfl (by decide) ?_
  refine wl_nil ?_
  refine fq_then ?_
  refine wc_seq ?_
  refine wc_any Fol (any_drawG (ι := Gh) 7 0 [(5, fun X => [Sx.Item.blk (X 5).2 _ 32]), (6, fun X => [Sx.Item.blk (X 5).2 _ 32])] [⟨[], [], []⟩, ⟨[], [], []⟩, ⟨[], [], []⟩, ⟨[], [], []⟩, ⟨[], [], []⟩, ⟨[], [], []⟩, ⟨[5], [], [5]⟩] (by kernel_rfl) (ChainG.yield [] [] (fun X => q_move rfl rfl) rfl rfl (fun _ => rfl) (fun _ _ => rfl) (fun X Y h0 h => ⟨by first | rfl | simp only [h0], by first | rfl | simp only [h0]⟩) (ChainG.yield [] [] (fun X => q_call rfl En37 rfl (fun w1 hw1 => mend_within.calls budget 0 1048576 _ w1 rfl)) rfl rfl (fun _ => rfl) (fun _ _ => rfl) (fun X Y h0 h => ⟨by first | rfl | simp only [h0], by first | rfl | simp only [h0]⟩) (ChainG.yield [] [] (fun X => q_fa (o1 := 1) rfl rfl Fo32_1 rfl) rfl rfl (fun _ => rfl) (fun _ _ => rfl) (fun X Y h0 h => ⟨by first | rfl | simp only [h0], by first | rfl | simp only [h0]⟩) (ChainG.yield [] [] (fun X => q_load rfl rfl Mn3 (reads1 (i := 0) rfl rfl)) rfl rfl (fun _ => rfl) (fun _ _ => rfl) (fun X Y h0 h => ⟨by first | rfl | simp only [h0], by first | rfl | simp only [h0]⟩) (ChainG.yield [] [] (fun X => q_build rfl rfl (built_of Zr32 Pl32 (by simp only [fillL, List.map_cons, List.map_nil, Value.cells, List.getElem?_cons_zero, List.getElem?_cons_succ, List.length_cons, List.length_nil, Nat.reduceAdd, Nat.reduceLeDiff, Nat.le_refl, and_self, and_true, true_and, if_true, Nat.zero_add, spl, List.take_succ_cons, List.take_zero, List.take_nil, List.drop_succ_cons, List.drop_zero, List.drop_nil, List.nil_append, List.cons_append, List.append_nil]; rfl))) rfl rfl (fun _ => rfl) (fun _ _ => rfl) (fun X Y h0 h => ⟨by first | rfl | simp only [h0], by first | rfl | simp only [h0]⟩) (ChainG.mk (fun b => .pointer (some ⟨b, 0, none⟩)) [] (fun X => om_alloc rfl Zr32) rfl rfl (fun _ => rfl) (fun _ _ => rfl) (fun X Y h0 h => ⟨by first | rfl | simp only [h0], by first | rfl | (show ([Sx.Item.blk (X 5).2 _ 32] : List Sx.Item) = [Sx.Item.blk (Y 5).2 _ 32]; simp only [h0])⟩) (ChainG.store [5] [5] (fun X => oe_storeAt (i := 0) rfl rfl rfl rfl Sz32 rfl rfl (by simp) (by simp [Value.oneCell']) rfl rfl) rfl rfl (fun _ => rfl) (fun _ _ => rfl) (fun X Y h0 h => ⟨by first | rfl | simp only [h0, h 5 (by decide)], by first | rfl | (show ([Sx.Item.blk (X 5).2 _ 32] : List Sx.Item) = [Sx.Item.blk (Y 5).2 _ 32]; simp only [h0, h 5 (by decide)])⟩) (ChainG.nil _ _)))))))) rfl rfl (fun X => [_, _, _, _, _, _]) (fun _ => rfl) (fun X => ?_))
  generalize (X 5).2 = bo
  dsimp only [List.take_succ_cons, List.take_zero, List.take_nil, List.drop_succ_cons, List.drop_zero, List.drop_nil, List.nil_append, List.cons_append, List.append_nil, List.length_cons, List.length_nil, Nat.reduceAdd, Nat.zero_add]
  refine wl_nil ?_
  refine fq_then ?_
  refine wc_seq ?_
  refine wc_region ?_
  refine wl_makeMap .i64 rfl rfl rfl (by decide) (fun bm => ?_)
  refine wl_q (q_assign rfl rfl) rfl rfl (by decide) ?_
  refine wl_nil ?_
  refine fq_then ?_
  refine wc_seq ?_
  refine wc_region ?_
  refine wl_q (q_makeFuncL rfl rfl rfl) rfl rfl (by decide) ?_
  refine wl_q (q_assign rfl rfl) rfl rfl (by decide) ?_
  refine wl_nil ?_
  refine fq_then ?_
  refine wc_seq ?_
  refine wc_region ?_
  refine wl_q (q_assign rfl rfl) rfl rfl (by decide) ?_
  refine wl_nil ?_
  refine fq_then ?_
  refine wc_seq ?_
  refine wc_seq ?_
  refine wc_region ?_
  refine wl_q (q_move rfl rfl) rfl rfl (by decide) ?_
  refine wl_q (q_len rfl rfl Tryd.underlying23) rfl rfl (by decide) ?_
  refine wl_q (q_move rfl rfl) rfl rfl (by decide) ?_
  refine wl_nil ?_
  refine fq_then ?_
  refine wc_block ?_
  refine wc_own (E := 51) (sz := 2) ?_
  refine wc_own (E := 3) (sz := 1) ?_
  refine wc_loop (ι := (Nat × List (Int × Value) × Gh × Gh)) (fun i => [(6, .pointer (some ⟨b2, 0, none⟩)), (11, .pointer (some ⟨bo, 0, none⟩)), (12, .map (some bm)), (13, .func (.func 38) #[] #[.pointer (some ⟨b3, 0, none⟩)]), (14, .slice i.2.2.2.1 (agN (jload J.s0 J.s1).ps (mn (mx budget 0) 1048576) l i.1).stops.length i.2.2.2.2), (31, .slice A l.length c), (32, .int .i64 (l.length : Nat)), (33, .int .i64 (i.1 : Nat))]) (fun i => [.own 0 3 1 (.slice i.2.2.2.1 (agN (jload J.s0 J.s1).ps (mn (mx budget 0) 1048576) l i.1).stops.length i.2.2.2.2) (agN (jload J.s0 J.s1).ps (mn (mx budget 0) 1048576) l i.1).stops.length (nums .i64 (agN (jload J.s0 J.s1).ps (mn (mx budget 0) 1048576) l i.1).stops), .own 0 51 2 (.slice i.2.2.1.1 (agN (jload J.s0 J.s1).ps (mn (mx budget 0) 1048576) l i.1).out.length i.2.2.1.2) (agN (jload J.s0 J.s1).ps (mn (mx budget 0) 1048576) l i.1).out.length ((agN (jload J.s0 J.s1).ps (mn (mx budget 0) 1048576) l i.1).out.flatMap pc51), .obj bm (mobj .i64 i.2.1), .blk bo [.int .i64 (mn (mx budget 0) 1048576), .int .i64 (jload J.s0 J.s1).mar, .int .i64 0, .slice i.2.2.1.1 (agN (jload J.s0 J.s1).ps (mn (mx budget 0) 1048576) l i.1).out.length i.2.2.1.2] 32, .blk b3 [.int .i64 (jload J.s0 J.s1).bud, .int .i64 (jload J.s0 J.s1).mar, .int .i64 0, .slice pl.1 (jload J.s0 J.s1).ps.length pl.2] 32, .own 0 51 2 (.slice pl.1 (jload J.s0 J.s1).ps.length pl.2) (jload J.s0 J.s1).ps.length ((jload J.s0 J.s1).ps.flatMap pc51), .blk b2 [.int .i64 0, .int .i64 0, .int .i64 0, .slice none 0 0] 32, old w]) (fun i => i.1 ≤ l.length ∧ ∀ x, mfind i.2.1 x = cntV ((l.take i.1).map S28.f0) x) (fun i => l.length - i.1) (0, [], (none, 0), (none, 0)) ⟨Nat.zero_le _, fun x => rfl⟩ ⟨List.forall_mem_cons.2 ⟨rfl, List.forall_mem_cons.2 ⟨rfl, List.forall_mem_cons.2 ⟨rfl, List.forall_mem_cons.2 ⟨rfl, List.forall_mem_cons.2 ⟨rfl, List.forall_mem_cons.2 ⟨rfl, List.forall_mem_cons.2 ⟨rfl, List.forall_mem_cons.2 ⟨rfl, fun _ h => (by cases h)⟩⟩⟩⟩⟩⟩⟩⟩, List.Sublist.cons_cons _ (List.Sublist.cons_cons _ (List.Sublist.cons_cons _ (List.Sublist.cons_cons _ (List.Sublist.cons_cons _ (List.Sublist.cons_cons _ (List.Sublist.cons_cons _ (List.Sublist.cons _ (List.Sublist.cons_cons _ (List.Sublist.refl [])))))))))⟩ ?_
  rintro ⟨j, ms, qo, qs⟩ ⟨hj, hms⟩
  simp only at hj hms
  dsimp only
  refine wc_seq ?_
  refine wc_region ?_
  refine wl_q (q_bin rfl rfl rfl rfl) rfl rfl (by decide) ?_
  refine wl_nil ?_
  refine fq_then ?_
  refine wc_seq ?_
  refine wc_cond rfl (fun h34 => ?_) (fun h34 => ?_)
  · skip
    have q34 := h34
    try simp only [decide_eq_true_eq, decide_eq_false_iff_not, beq_iff_eq, beq_eq_false_iff_ne, bne_iff_ne, ne_eq, bne_eq_false_iff_eq, Int.not_lt, Int.not_le] at q34
    obtain ⟨p, hp⟩ : ∃ p, l[j]? = some p := ⟨_, List.getElem?_eq_getElem (by omega)⟩
    obtain ⟨ad, rfl, hrd⟩ := C28_at hr hp
    have wj : IntKind.i64.wrap ((j : Int) + 1) = ((j + 1 : Nat) : Int) := wrap_nat (by omega)
    have hcn : ((l.take j).map S28.f0).count p.f0 ≤ j := Nat.le_trans List.count_le_length (by rw [List.length_map, List.length_take]; omega)
    have wc : IntKind.i64.wrap ((((l.take j).map S28.f0).count p.f0 : Nat) + 1) = ((((l.take j).map S28.f0).count p.f0 + 1 : Nat) : Int) := wrap_nat (by omega)
    have hsm : IntKind.i64.wrap (sumP (agN (jload J.s0 J.s1).ps (mn (mx budget 0) 1048576) l j).out + pkF (jload J.s0 J.s1).ps p) = sumP (agN (jload J.s0 J.s1).ps (mn (mx budget 0) 1048576) l j).out + pkF (jload J.s0 J.s1).ps p := by (have h1 := sumP_bound (agN (jload J.s0 J.s1).ps (mn (mx budget 0) 1048576) l j).out (agN_range _ _ _ j).1; have h2 := pkF_range (jload J.s0 J.s1).ps p; have h3 := (agN_range (jload J.s0 J.s1).ps (mn (mx budget 0) 1048576) l j).2.1; exact wrap_id (by omega))
    refine wc_skip ?_
    refine fq_then ?_
    refine wc_seq ?_
    refine wc_block ?_
    refine wc_seq ?_
    refine wc_region ?_
    refine wl_q (q_index rfl rfl rfl Tryd.underlying23 Sz28 (by omega) (by omega)) rfl rfl (by decide) ?_
    refine wl_q (q_loadA (cs := [.int .i64 p.f0, .int .i64 p.f1]) rfl rfl Mn28 Sz28 rfl (reads_old (by simp) (fun i u hu => hrd i u hu))) rfl rfl (by decide) ?_
    refine wl_alloc rfl rfl rfl (by decide) Zr28 (fun b4 => ?_)
    refine wl_store (i := 0) rfl rfl rfl rfl rfl rfl Sz28 rfl rfl (by simp) (by simp [Value.oneCell']) (by first | (simp only [List.take_succ_cons, List.take_zero, List.take_nil, List.drop_succ_cons, List.drop_zero, List.drop_nil, List.nil_append, List.cons_append, List.append_nil, List.length_cons, List.length_nil, Nat.reduceAdd, Nat.zero_add]; rfl) | rfl) (by first | (simp only [List.set_cons_zero, List.set_cons_succ]; rfl) | rfl) ?_
    refine wl_nil ?_
    refine fq_then ?_
    refine wc_seq ?_
    refine wc_seq ?_
    refine wc_region ?_
    refine wl_q (q_move rfl rfl) rfl rfl (by decide) ?_
    refine wl_q (q_fa (o1 := 0) rfl rfl Fo28_0 rfl) rfl rfl (by decide) ?_
    refine wl_q (q_load rfl rfl Mn3 (reads1 (i := 0) rfl rfl)) rfl rfl (by decide) ?_
    refine wl_q (q_lookup (v := .int .i64 (((l.take j).map S28.f0).count p.f0 : Nat)) (z := .int .i64 0) rfl rfl rfl Tryd.underlying87 Tryd.underlying3 (show (Tryd.prog.info? 3).bind (·.zero) = some (.int .i64 0) from by kernel_rfl) (i := 3) rfl (by rw [hms]; exact cnt_get _ _)) rfl rfl (by decide) ?_
    refine wl_q (OpQ.to (q_bin rfl rfl rfl rfl) (congrArg (Value.int .i64) wc)) rfl rfl (by decide) ?_
    refine wl_mapUpdate (i := 3) rfl rfl rfl rfl rfl rfl Tryd.underlying87 Tryd.underlying3 rfl rfl ?_
    refine wl_nil ?_
    refine fq_then ?_
    refine wc_seq ?_
    refine wc_region ?_
    refine wl_q (q_move rfl rfl) rfl rfl (by decide) ?_
    refine wl_q (q_fa (o1 := 0) rfl rfl Fo28_0 rfl) rfl rfl (by decide) ?_
    refine wl_q (q_load rfl rfl Mn3 (reads1 (i := 0) rfl rfl)) rfl rfl (by decide) ?_
    refine wl_q (q_lookup (v := .int .i64 ((((l.take j).map S28.f0).count p.f0 + 1) : Nat)) (z := .int .i64 0) rfl rfl rfl Tryd.underlying87 Tryd.underlying3 (show (Tryd.prog.info? 3).bind (·.zero) = some (.int .i64 0) from by kernel_rfl) (i := 3) rfl (by rw [mfind_mput, if_pos rfl]; rfl)) rfl rfl (by decide) ?_
    refine wl_q (q_bin rfl rfl rfl rfl) rfl rfl (by decide) ?_
    refine wl_q (q_move rfl rfl) rfl rfl (by decide) ?_
    refine wl_split (t := 47) rfl (fun h47 => ?_) (fun h47 => ?_)
    · skip
      have q47 := h47
      try simp only [decide_eq_true_eq, decide_eq_false_iff_not, beq_iff_eq, beq_eq_false_iff_ne, bne_iff_ne, ne_eq, bne_eq_false_iff_eq, Int.not_lt, Int.not_le] at q47
      refine wl_skip (b := true) rfl rfl rfl rfl (by decide) ?_
      refine wl_skip (b := true) rfl rfl rfl rfl (by decide) ?_
      refine wl_skip (b := true) rfl rfl rfl rfl (by decide) ?_
      refine wl_q (q_pick rfl rfl rfl) rfl rfl (by decide) ?_
      refine wl_q (q_move rfl rfl) rfl rfl (by decide) ?_
      refine wl_skip (b := true) rfl rfl rfl rfl (by decide) ?_
      refine wl_skip (b := true) rfl rfl rfl rfl (by decide) ?_
      refine wl_skip (b := true) rfl rfl rfl rfl (by decide) ?_
      refine wl_q (q_pick rfl rfl rfl) rfl rfl (by decide) ?_
      refine wl_nil ?_
      refine fq_then ?_
      refine wc_true rfl ?_
      refine wc_exit ?_
      refine fq_then_exit ?_
      refine fq_block_hit ?_
      refine fq_then ?_
      refine wc_region ?_
      refine wl_q (q_bin rfl rfl rfl rfl) rfl rfl (by decide) ?_
      refine wl_q (q_move rfl rfl) rfl rfl (by decide) ?_
      refine wl_nil ?_
      have hag : (agN (jload J.s0 J.s1).ps (mn (mx budget 0) 1048576) l (j + 1)) = agOne (jload J.s0 J.s1).ps (mn (mx budget 0) 1048576) ((l.take j).map S28.f0) (agN (jload J.s0 J.s1).ps (mn (mx budget 0) 1048576) l j) p := by (show (match l[j]? with | some m => _ | none => _) = _; rw [hp])
      have hag2 : (agN (jload J.s0 J.s1).ps (mn (mx budget 0) 1048576) l (j + 1)) = (agN (jload J.s0 J.s1).ps (mn (mx budget 0) 1048576) l j) := by (rw [hag]; unfold agOne; exact if_pos (by rw [← count_mem]; simp only [decide_eq_true_eq, decide_eq_false_iff_not] at *; omega))
      rw [← hag2]
      refine fq_next (j + 1, mput ms p.f0 (.int .i64 ((((l.take j).map S28.f0).count p.f0 + 1 : Nat) : Int)), qo, qs) ⟨show j + 1 ≤ l.length by omega, fun x => by (show mfind (mput ms p.f0 _) x = _; rw [take_snoc hp]; exact cnt_put hms p.f0 x)⟩ (show l.length - (j + 1) < l.length - j by omega) ⟨List.forall_mem_cons.2 ⟨rfl, List.forall_mem_cons.2 ⟨rfl, List.forall_mem_cons.2 ⟨rfl, List.forall_mem_cons.2 ⟨rfl, List.forall_mem_cons.2 ⟨rfl, List.forall_mem_cons.2 ⟨rfl, List.forall_mem_cons.2 ⟨rfl, List.forall_mem_cons.2 ⟨(show some (Value.int .i64 (IntKind.i64.wrap ((j : Int) + 1))) = some (Value.int .i64 ((j + 1 : Nat) : Int)) from by rw [wj]), fun _ h => (by cases h)⟩⟩⟩⟩⟩⟩⟩⟩, List.Sublist.cons _ (List.Sublist.cons_cons _ (List.Sublist.cons_cons _ (List.Sublist.cons_cons _ (List.Sublist.cons_cons _ (List.Sublist.cons_cons _ (List.Sublist.cons_cons _ (List.Sublist.cons_cons _ (List.Sublist.cons_cons _ (List.Sublist.refl [])))))))))⟩
    · skip
      have q47 := h47
      try simp only [decide_eq_true_eq, decide_eq_false_iff_not, beq_iff_eq, beq_eq_false_iff_ne, bne_iff_ne, ne_eq, bne_eq_false_iff_eq, Int.not_lt, Int.not_le] at q47
      refine wl_want (b := false) (q_fa (o1 := 0) rfl rfl Fo28_0 rfl) rfl rfl rfl rfl (by decide) ?_
      refine wl_want (b := false) (q_load rfl rfl Mn3 (reads1 (i := 0) rfl rfl)) rfl rfl rfl rfl (by decide) ?_
      refine wl_want (b := false) (q_bin rfl rfl rfl rfl) rfl rfl rfl rfl (by decide) ?_
      refine wl_q (q_pick rfl rfl rfl) rfl rfl (by decide) ?_
      refine wl_q (q_move rfl rfl) rfl rfl (by decide) ?_
      refine wl_split (t := 52) rfl (fun h52 => ?_) (fun h52 => ?_)
      · skip
        have q52 := h52
        try simp only [decide_eq_true_eq, decide_eq_false_iff_not, beq_iff_eq, beq_eq_false_iff_ne, bne_iff_ne, ne_eq, bne_eq_false_iff_eq, Int.not_lt, Int.not_le] at q52
        refine wl_skip (b := true) rfl rfl rfl rfl (by decide) ?_
        refine wl_skip (b := true) rfl rfl rfl rfl (by decide) ?_
        refine wl_skip (b := true) rfl rfl rfl rfl (by decide) ?_
        refine wl_q (q_pick rfl rfl rfl) rfl rfl (by decide) ?_
        refine wl_nil ?_
        refine fq_then ?_
        refine wc_true rfl ?_
        refine wc_exit ?_
        refine fq_then_exit ?_
        refine fq_block_hit ?_
        refine fq_then ?_
        refine wc_region ?_
        refine wl_q (q_bin rfl rfl rfl rfl) rfl rfl (by decide) ?_
        refine wl_q (q_move rfl rfl) rfl rfl (by decide) ?_
        refine wl_nil ?_
        have hag : (agN (jload J.s0 J.s1).ps (mn (mx budget 0) 1048576) l (j + 1)) = agOne (jload J.s0 J.s1).ps (mn (mx budget 0) 1048576) ((l.take j).map S28.f0) (agN (jload J.s0 J.s1).ps (mn (mx budget 0) 1048576) l j) p := by (show (match l[j]? with | some m => _ | none => _) = _; rw [hp])
        have hag2 : (agN (jload J.s0 J.s1).ps (mn (mx budget 0) 1048576) l (j + 1)) = (agN (jload J.s0 J.s1).ps (mn (mx budget 0) 1048576) l j) := by (rw [hag]; unfold agOne; exact if_pos (by rw [← count_mem]; simp only [decide_eq_true_eq, decide_eq_false_iff_not] at *; omega))
        rw [← hag2]
        refine fq_next (j + 1, mput ms p.f0 (.int .i64 ((((l.take j).map S28.f0).count p.f0 + 1 : Nat) : Int)), qo, qs) ⟨show j + 1 ≤ l.length by omega, fun x => by (show mfind (mput ms p.f0 _) x = _; rw [take_snoc hp]; exact cnt_put hms p.f0 x)⟩ (show l.length - (j + 1) < l.length - j by omega) ⟨List.forall_mem_cons.2 ⟨rfl, List.forall_mem_cons.2 ⟨rfl, List.forall_mem_cons.2 ⟨rfl, List.forall_mem_cons.2 ⟨rfl, List.forall_mem_cons.2 ⟨rfl, List.forall_mem_cons.2 ⟨rfl, List.forall_mem_cons.2 ⟨rfl, List.forall_mem_cons.2 ⟨(show some (Value.int .i64 (IntKind.i64.wrap ((j : Int) + 1))) = some (Value.int .i64 ((j + 1 : Nat) : Int)) from by rw [wj]), fun _ h => (by cases h)⟩⟩⟩⟩⟩⟩⟩⟩, List.Sublist.cons _ (List.Sublist.cons_cons _ (List.Sublist.cons_cons _ (List.Sublist.cons_cons _ (List.Sublist.cons_cons _ (List.Sublist.cons_cons _ (List.Sublist.cons_cons _ (List.Sublist.cons_cons _ (List.Sublist.cons_cons _ (List.Sublist.refl [])))))))))⟩
      · skip
        have q52 := h52
        try simp only [decide_eq_true_eq, decide_eq_false_iff_not, beq_iff_eq, beq_eq_false_iff_ne, bne_iff_ne, ne_eq, bne_eq_false_iff_eq, Int.not_lt, Int.not_le] at q52
        refine wl_want (b := false) (q_fa (o1 := 0) rfl rfl Fo28_0 rfl) rfl rfl rfl rfl (by decide) ?_
        refine wl_want (b := false) (q_load rfl rfl Mn3 (reads1 (i := 0) rfl rfl)) rfl rfl rfl rfl (by decide) ?_
        refine wl_want (b := false) (q_bin rfl rfl rfl rfl) rfl rfl rfl rfl (by decide) ?_
        refine wl_q (q_pick rfl rfl rfl) rfl rfl (by decide) ?_
        refine wl_nil ?_
        refine fq_then ?_
        refine wc_cond rfl (fun h56 => ?_) (fun h56 => ?_)
        · skip
          have q56 := h56
          try simp only [decide_eq_true_eq, decide_eq_false_iff_not, beq_iff_eq, beq_eq_false_iff_ne, bne_iff_ne, ne_eq, bne_eq_false_iff_eq, Int.not_lt, Int.not_le] at q56
          refine wc_exit ?_
          refine fq_then_exit ?_
          refine fq_block_hit ?_
          refine fq_then ?_
          refine wc_region ?_
          refine wl_q (q_bin rfl rfl rfl rfl) rfl rfl (by decide) ?_
          refine wl_q (q_move rfl rfl) rfl rfl (by decide) ?_
          refine wl_nil ?_
          have hag : (agN (jload J.s0 J.s1).ps (mn (mx budget 0) 1048576) l (j + 1)) = agOne (jload J.s0 J.s1).ps (mn (mx budget 0) 1048576) ((l.take j).map S28.f0) (agN (jload J.s0 J.s1).ps (mn (mx budget 0) 1048576) l j) p := by (show (match l[j]? with | some m => _ | none => _) = _; rw [hp])
          have hag2 : (agN (jload J.s0 J.s1).ps (mn (mx budget 0) 1048576) l (j + 1)) = (agN (jload J.s0 J.s1).ps (mn (mx budget 0) 1048576) l j) := by (rw [hag]; unfold agOne; exact if_pos (by rw [← count_mem]; simp only [decide_eq_true_eq, decide_eq_false_iff_not] at *; omega))
          rw [← hag2]
          refine fq_next (j + 1, mput ms p.f0 (.int .i64 ((((l.take j).map S28.f0).count p.f0 + 1 : Nat) : Int)), qo, qs) ⟨show j + 1 ≤ l.length by omega, fun x => by (show mfind (mput ms p.f0 _) x = _; rw [take_snoc hp]; exact cnt_put hms p.f0 x)⟩ (show l.length - (j + 1) < l.length - j by omega) ⟨List.forall_mem_cons.2 ⟨rfl, List.forall_mem_cons.2 ⟨rfl, List.forall_mem_cons.2 ⟨rfl, List.forall_mem_cons.2 ⟨rfl, List.forall_mem_cons.2 ⟨rfl, List.forall_mem_cons.2 ⟨rfl, List.forall_mem_cons.2 ⟨rfl, List.forall_mem_cons.2 ⟨(show some (Value.int .i64 (IntKind.i64.wrap ((j : Int) + 1))) = some (Value.int .i64 ((j + 1 : Nat) : Int)) from by rw [wj]), fun _ h => (by cases h)⟩⟩⟩⟩⟩⟩⟩⟩, List.Sublist.cons _ (List.Sublist.cons_cons _ (List.Sublist.cons_cons _ (List.Sublist.cons_cons _ (List.Sublist.cons_cons _ (List.Sublist.cons_cons _ (List.Sublist.cons_cons _ (List.Sublist.cons_cons _ (List.Sublist.cons_cons _ (List.Sublist.refl [])))))))))⟩
        · skip
          have q56 := h56
          try simp only [decide_eq_true_eq, decide_eq_false_iff_not, beq_iff_eq, beq_eq_false_iff_ne, bne_iff_ne, ne_eq, bne_eq_false_iff_eq, Int.not_lt, Int.not_le] at q56
          refine wc_skip ?_
          refine fq_then ?_
          refine wc_seq ?_
          refine wc_region ?_
          refine wl_q (q_move rfl rfl) rfl rfl (by decide) ?_
          refine wl_q (q_loadA rfl rfl Mn28 Sz28 rfl (readsAll (i := 0) rfl)) rfl rfl (by decide) ?_
          refine wl_q (q_clo rfl rfl En38 rfl (fun w1 hw1 => pk_calls p b3 (jload J.s0 J.s1).bud (jload J.s0 J.s1).mar 0 pl.1 pl.2 (jload J.s0 J.s1).ps w1 (hw1.get (i := 5) rfl) (C51_of_own (hw1.get (i := 6) rfl) (by omega)) (own_cap (hw1.get (i := 6) rfl)) (by omega))) rfl rfl (by decide) ?_
          refine wl_q (q_assign rfl rfl) rfl rfl (by decide) ?_
          refine wl_nil ?_
          refine fq_then ?_
          refine wc_seq ?_
          refine wc_seq ?_
          refine wc_draw 7 Fol (by kernel_rfl) (Chain.yield (q_loadA rfl rfl Mn32 Sz32 rfl (readsAll (i := 4) rfl)) rfl rfl (Chain.yield (q_call rfl En20 rfl (fun w1 hw1 => ledger_Ledger_Sum.calls (2 * (agN (jload J.s0 J.s1).ps (mn (mx budget 0) 1048576) l j).out.length + 2) (mn (mx budget 0) 1048576) (jload J.s0 J.s1).mar 0 qo.1 qo.2 (agN (jload J.s0 J.s1).ps (mn (mx budget 0) 1048576) l j).out (sumP (agN (jload J.s0 J.s1).ps (mn (mx budget 0) 1048576) l j).out) w1 (C51_of_own (hw1.get (i := 2) rfl) (by have := (agN_range (jload J.s0 J.s1).ps (mn (mx budget 0) 1048576) l j).2.1; omega)) (own_cap (hw1.get (i := 2) rfl)) (sum_ev _ _ _ _ (agN_range _ _ _ j).1 (by have := (agN_range (jload J.s0 J.s1).ps (mn (mx budget 0) 1048576) l j).2.1; omega) _ (Nat.le_refl _)))) rfl rfl (Chain.yield (q_move rfl rfl) rfl rfl (Chain.yield (OpQ.to (q_bin rfl rfl rfl rfl) (congrArg (Value.int .i64) hsm)) rfl rfl (Chain.yield (q_fa (o1 := 0) rfl rfl Fo32_0 rfl) rfl rfl (Chain.yield (q_load rfl rfl Mn3 (reads1 (i := 4) rfl rfl)) rfl rfl (Chain.yield (q_bin rfl rfl rfl rfl) rfl rfl (Chain.nil _)))))))) ?_
          refine wl_nil ?_
          refine fq_then ?_
          refine wc_cond rfl (fun h66 => ?_) (fun h66 => ?_)
          · skip
            have q66 := h66
            try simp only [decide_eq_true_eq, decide_eq_false_iff_not, beq_iff_eq, beq_eq_false_iff_ne, bne_iff_ne, ne_eq, bne_eq_false_iff_eq, Int.not_lt, Int.not_le] at q66
            refine wc_seq ?_
            refine wc_region ?_
            refine wl_q (q_move rfl rfl) rfl rfl (by decide) ?_
            refine wl_q (q_fa (o1 := 0) rfl rfl Fo28_0 rfl) rfl rfl (by decide) ?_
            refine wl_q (q_load rfl rfl Mn3 (reads1 (i := 0) rfl rfl)) rfl rfl (by decide) ?_
            refine wl_buildSlice rfl rfl rfl (by decide) rfl Tryd.underlying33 (built_one Sz3 (by decide) Zs3 (by decide) rfl rfl) (fun b5 => ?_)
            refine wl_append (i := 2) (m := 1) (news := [.int .i64 p.f0]) rfl rfl rfl (by decide) Tryd.underlying33 Ap3 (by decide) rfl rfl rfl (readsAll (i := 0) rfl) rfl (by simp [Value.oneCell']) (by unfold maxLen; have := (agN_range (jload J.s0 J.s1).ps (mn (mx budget 0) 1048576) l j).2.2; omega) (by have := (agN_range (jload J.s0 J.s1).ps (mn (mx budget 0) 1048576) l j).2.2; omega) (fun v71 _ => ?_)
            refine wl_ownForm (i := 2) rfl (fun A71 c71 e71 f71 => ?_)
            subst e71
            refine wl_q (q_assign rfl rfl) rfl rfl (by decide) ?_
            refine wl_nil ?_
            refine fq_then ?_
            refine wc_exit ?_
            refine fq_then_exit ?_
            refine fq_block_hit ?_
            refine fq_then ?_
            refine wc_region ?_
            refine wl_q (q_bin rfl rfl rfl rfl) rfl rfl (by decide) ?_
            refine wl_q (q_move rfl rfl) rfl rfl (by decide) ?_
            refine wl_nil ?_
            have hag : (agN (jload J.s0 J.s1).ps (mn (mx budget 0) 1048576) l (j + 1)) = agOne (jload J.s0 J.s1).ps (mn (mx budget 0) 1048576) ((l.take j).map S28.f0) (agN (jload J.s0 J.s1).ps (mn (mx budget 0) 1048576) l j) p := by (show (match l[j]? with | some m => _ | none => _) = _; rw [hp])
            have hsk : ¬ (p.f0 ∈ (l.take j).map S28.f0 ∨ p.f0 < 0 ∨ 64 ≤ p.f0) := fun hx => by (rw [← count_mem] at hx; simp only [decide_eq_true_eq, decide_eq_false_iff_not] at h47 h52 h56; omega)
            have hag2 : (agN (jload J.s0 J.s1).ps (mn (mx budget 0) 1048576) l (j + 1)) = ⟨(agN (jload J.s0 J.s1).ps (mn (mx budget 0) 1048576) l j).out, (agN (jload J.s0 J.s1).ps (mn (mx budget 0) 1048576) l j).stops ++ [p.f0]⟩ := by (rw [hag]; unfold agOne; rw [if_neg hsk]; exact if_pos (by simpa using h66))
            have e0 : (agN (jload J.s0 J.s1).ps (mn (mx budget 0) 1048576) l j).out = (agN (jload J.s0 J.s1).ps (mn (mx budget 0) 1048576) l (j + 1)).out := by rw [hag2]
            have e1 : (agN (jload J.s0 J.s1).ps (mn (mx budget 0) 1048576) l j).stops.length + 1 = (agN (jload J.s0 J.s1).ps (mn (mx budget 0) 1048576) l (j + 1)).stops.length := by (rw [hag2]; simp)
            have e2 : nums .i64 (agN (jload J.s0 J.s1).ps (mn (mx budget 0) 1048576) l j).stops ++ [Value.int .i64 p.f0] = nums .i64 (agN (jload J.s0 J.s1).ps (mn (mx budget 0) 1048576) l (j + 1)).stops := by (rw [hag2]; unfold nums; rw [List.map_append]; rfl)
            rw [e1, e2, e0]
            refine fq_next (j + 1, mput ms p.f0 (.int .i64 ((((l.take j).map S28.f0).count p.f0 + 1 : Nat) : Int)), qo, (A71, c71)) ⟨show j + 1 ≤ l.length by omega, fun x => by (show mfind (mput ms p.f0 _) x = _; rw [take_snoc hp]; exact cnt_put hms p.f0 x)⟩ (show l.length - (j + 1) < l.length - j by omega) ⟨List.forall_mem_cons.2 ⟨rfl, List.forall_mem_cons.2 ⟨rfl, List.forall_mem_cons.2 ⟨rfl, List.forall_mem_cons.2 ⟨rfl, List.forall_mem_cons.2 ⟨rfl, List.forall_mem_cons.2 ⟨rfl, List.forall_mem_cons.2 ⟨rfl, List.forall_mem_cons.2 ⟨(show some (Value.int .i64 (IntKind.i64.wrap ((j : Int) + 1))) = some (Value.int .i64 ((j + 1 : Nat) : Int)) from by rw [wj]), fun _ h => (by cases h)⟩⟩⟩⟩⟩⟩⟩⟩, List.Sublist.cons _ (List.Sublist.cons _ (List.Sublist.cons_cons _ (List.Sublist.cons_cons _ (List.Sublist.cons_cons _ (List.Sublist.cons_cons _ (List.Sublist.cons_cons _ (List.Sublist.cons_cons _ (List.Sublist.cons_cons _ (List.Sublist.cons_cons _ (List.Sublist.refl []))))))))))⟩
          · skip
            have q66 := h66
            try simp only [decide_eq_true_eq, decide_eq_false_iff_not, beq_iff_eq, beq_eq_false_iff_ne, bne_iff_ne, ne_eq, bne_eq_false_iff_eq, Int.not_lt, Int.not_le] at q66
            refine wc_skip ?_
            refine fq_then ?_
            refine wc_region ?_
            refine wl_q (q_fa (o1 := 3) rfl rfl Fo32_3 rfl) rfl rfl (by decide) ?_
            refine wl_q (q_load rfl rfl Mn30 (reads1 (i := 4) rfl rfl)) rfl rfl (by decide) ?_
            refine wl_q (q_fa (o1 := 0) rfl rfl Fo28_0 rfl) rfl rfl (by decide) ?_
            refine wl_q (q_load rfl rfl Mn3 (reads1 (i := 0) rfl rfl)) rfl rfl (by decide) ?_
            refine wl_q (q_move rfl rfl) rfl rfl (by decide) ?_
            refine wl_q (q_build rfl rfl (built_of Zr51 Pl51 (by simp only [fillL, List.map_cons, List.map_nil, Value.cells, List.getElem?_cons_zero, List.getElem?_cons_succ, List.length_cons, List.length_nil, Nat.reduceAdd, Nat.reduceLeDiff, Nat.le_refl, and_self, and_true, true_and, if_true, Nat.zero_add, spl, List.take_succ_cons, List.take_zero, List.take_nil, List.drop_succ_cons, List.drop_zero, List.drop_nil, List.nil_append, List.cons_append, List.append_nil]; rfl))) rfl rfl (by decide) ?_
            refine wl_buildSlice rfl rfl rfl (by decide) rfl Tryd.underlying30 (built_one Sz51 (by decide) Zs51 (by decide) rfl rfl) (fun b6 => ?_)
            refine wl_append (i := 3) (m := 1) (news := [.int .i64 p.f0, .int .i64 (pkF (jload J.s0 J.s1).ps p)]) rfl rfl rfl (by decide) Tryd.underlying30 Ap51 (by decide) rfl rfl rfl (readsAll (i := 0) rfl) rfl (by simp [Value.oneCell']) (by unfold maxLen; have := (agN_range (jload J.s0 J.s1).ps (mn (mx budget 0) 1048576) l j).2.1; omega) (by have := (agN_range (jload J.s0 J.s1).ps (mn (mx budget 0) 1048576) l j).2.1; omega) (fun v79 _ => ?_)
            refine wl_ownForm (i := 3) rfl (fun A79 c79 e79 f79 => ?_)
            subst e79
            refine wl_q (q_fa (o1 := 3) rfl rfl Fo32_3 rfl) rfl rfl (by decide) ?_
            refine wl_store (i := 5) rfl rfl rfl rfl rfl rfl Sz30 rfl rfl (by simp) (by simp [Value.oneCell']) (by first | (simp only [List.take_succ_cons, List.take_zero, List.take_nil, List.drop_succ_cons, List.drop_zero, List.drop_nil, List.nil_append, List.cons_append, List.append_nil, List.length_cons, List.length_nil, Nat.reduceAdd, Nat.zero_add]; rfl) | rfl) (by first | (simp only [List.set_cons_zero, List.set_cons_succ]; rfl) | rfl) ?_
            refine wl_nil ?_
            refine fq_block ?_
            refine fq_then ?_
            refine wc_region ?_
            refine wl_q (q_bin rfl rfl rfl rfl) rfl rfl (by decide) ?_
            refine wl_q (q_move rfl rfl) rfl rfl (by decide) ?_
            refine wl_nil ?_
            have hag : (agN (jload J.s0 J.s1).ps (mn (mx budget 0) 1048576) l (j + 1)) = agOne (jload J.s0 J.s1).ps (mn (mx budget 0) 1048576) ((l.take j).map S28.f0) (agN (jload J.s0 J.s1).ps (mn (mx budget 0) 1048576) l j) p := by (show (match l[j]? with | some m => _ | none => _) = _; rw [hp])
            have hsk : ¬ (p.f0 ∈ (l.take j).map S28.f0 ∨ p.f0 < 0 ∨ 64 ≤ p.f0) := fun hx => by (rw [← count_mem] at hx; simp only [decide_eq_true_eq, decide_eq_false_iff_not] at h47 h52 h56; omega)
            have hag2 : (agN (jload J.s0 J.s1).ps (mn (mx budget 0) 1048576) l (j + 1)) = ⟨(agN (jload J.s0 J.s1).ps (mn (mx budget 0) 1048576) l j).out ++ [⟨p.f0, pkF (jload J.s0 J.s1).ps p⟩], (agN (jload J.s0 J.s1).ps (mn (mx budget 0) 1048576) l j).stops⟩ := by (rw [hag]; unfold agOne; rw [if_neg hsk]; exact if_neg (by simpa using h66))
            have e0 : (agN (jload J.s0 J.s1).ps (mn (mx budget 0) 1048576) l j).stops = (agN (jload J.s0 J.s1).ps (mn (mx budget 0) 1048576) l (j + 1)).stops := by rw [hag2]
            have e1 : (agN (jload J.s0 J.s1).ps (mn (mx budget 0) 1048576) l j).out.length + 1 = (agN (jload J.s0 J.s1).ps (mn (mx budget 0) 1048576) l (j + 1)).out.length := by (rw [hag2]; simp)
            have e2 : (agN (jload J.s0 J.s1).ps (mn (mx budget 0) 1048576) l j).out.flatMap pc51 ++ [Value.int .i64 p.f0, Value.int .i64 (pkF (jload J.s0 J.s1).ps p)] = (agN (jload J.s0 J.s1).ps (mn (mx budget 0) 1048576) l (j + 1)).out.flatMap pc51 := by (rw [hag2, List.flatMap_append]; rfl)
            rw [e1, e2, e0]
            refine fq_next (j + 1, mput ms p.f0 (.int .i64 ((((l.take j).map S28.f0).count p.f0 + 1 : Nat) : Int)), (A79, c79), qs) ⟨show j + 1 ≤ l.length by omega, fun x => by (show mfind (mput ms p.f0 _) x = _; rw [take_snoc hp]; exact cnt_put hms p.f0 x)⟩ (show l.length - (j + 1) < l.length - j by omega) ⟨List.forall_mem_cons.2 ⟨rfl, List.forall_mem_cons.2 ⟨rfl, List.forall_mem_cons.2 ⟨rfl, List.forall_mem_cons.2 ⟨rfl, List.forall_mem_cons.2 ⟨rfl, List.forall_mem_cons.2 ⟨rfl, List.forall_mem_cons.2 ⟨rfl, List.forall_mem_cons.2 ⟨(show some (Value.int .i64 (IntKind.i64.wrap ((j : Int) + 1))) = some (Value.int .i64 ((j + 1 : Nat) : Int)) from by rw [wj]), fun _ h => (by cases h)⟩⟩⟩⟩⟩⟩⟩⟩, List.Sublist.cons _ (List.Sublist.cons _ (List.Sublist.cons_cons _ (List.Sublist.cons_cons _ (List.Sublist.cons_cons _ (List.Sublist.cons_cons _ (List.Sublist.cons_cons _ (List.Sublist.cons_cons _ (List.Sublist.cons_cons _ (List.Sublist.cons_cons _ (List.Sublist.refl []))))))))))⟩
  · skip
    have q34 := h34
    try simp only [decide_eq_true_eq, decide_eq_false_iff_not, beq_iff_eq, beq_eq_false_iff_ne, bne_iff_ne, ne_eq, bne_eq_false_iff_eq, Int.not_lt, Int.not_le] at q34
    obtain rfl : j = l.length := by omega
    refine wc_exit ?_
    refine fq_then_exit ?_
    refine fq_then_exit ?_
    refine fq_block_hit ?_
    refine fq_then ?_
    refine wc_seq ?_
    refine wc_region ?_
    refine wl_q (q_loadA rfl rfl Mn32 Sz32 rfl (readsAll (i := 3) rfl)) rfl rfl (by decide) ?_
    refine wl_q (q_move rfl rfl) rfl rfl (by decide) ?_
    refine wl_store (i := 6) rfl rfl rfl rfl rfl rfl Sz32 rfl rfl (by simp) (by simp [Value.oneCell']) (by first | (simp only [List.take_succ_cons, List.take_zero, List.take_nil, List.drop_succ_cons, List.drop_zero, List.drop_nil, List.nil_append, List.cons_append, List.append_nil, List.length_cons, List.length_nil, Nat.reduceAdd, Nat.zero_add]; rfl) | rfl) (by first | (simp only [List.set_cons_zero, List.set_cons_succ]; rfl) | rfl) ?_
    refine wl_q (q_assign rfl rfl) rfl rfl (by decide) ?_
    refine wl_nil ?_
    refine fq_then ?_
    refine wc_ret ?_
    refine fq_cell_tmp (i := 6) (.inl rfl) rfl rfl rfl rfl Mn32 Sz32 rfl (fun w1 H => ?_)
    exact ⟨qo, qs, rfl, H.pick [0, 1, 7] (by decide) rfl⟩
end Go.Proofs.YtbcijmpkmmcdeaaDoor.SF
end
section
namespace Go.Proofs.YtbcijmpkmmcdeaaDoor.SF
open Go.RowKit Go.Sx Go.Proofs.YtbcijmpkmmcdeaaDoor.PAll Go.Proofs.YtbcijmpkmmcdeaaDoorW.PrintWords Go.Proofs.YtbcijmpkmmcdeaaDoorW.PrintLast Go.Proofs.YtbcijmpkmmcdeaaDoorW.PrintMore
open Go.Proofs.YtbcijmpkmmcdeaaDoor.Pure (le puts le_length puts_length puts_range joinF joinF_cons joinF_nil rowB_length rowB sealed sealed_length parts_join gets_puts puts_append puts_cons w64 wu64)
open Go.Proofs.YtbcijmpkmmcdeaaDoor.PChk (chkB pwB knB sumP rowsB)
set_option linter.unusedVariables false
set_option linter.unusedSimpArgs false
theorem parts_len : ∀ (fu : Nat) (l : List Int) (rows : List (List Int)), PAll.partsF fu l = some rows → (∀ x ∈ l, 0 ≤ x) → (rows.map (fun r => r.length + 2)).sum = l.length
  | _, [], rows, h, _ => by
    simp only [PAll.partsF, Option.some.injEq] at h
    subst h; rfl
  | 0, _ :: _, rows, h, _ => by simp [PAll.partsF] at h
  | _ + 1, [_], rows, h, _ => by simp [PAll.partsF] at h
  | fu + 1, a :: b :: l, rows, h, hp => by
    simp only [PAll.partsF] at h
    split at h
    · rename_i hle
      cases hq : PAll.partsF fu (l.drop (a + 256 * b).toNat) with
      | none => rw [hq] at h; cases h
      | some ps =>
        rw [hq] at h
        simp only [Option.map_some, Option.some.injEq] at h
        subst h
        have := parts_len fu _ ps hq (fun x hx => hp x (by simp [List.mem_of_mem_drop hx]))
        simp only [List.map_cons, List.sum_cons, this, List.length_take, List.length_drop, List.length_cons]
        omega
    · cases h
theorem jget_short {l : List Int} (h : l.length ≤ 15) (hb : ∀ x ∈ l, 0 ≤ x) : (jget l).err ≠ 0 := by
  have hf : ∀ rows, PAll.partsF (openF l).1.length (openF l).1 = some rows → gOK rows = false := by
    intro rows hq
    have hl := parts_len _ _ _ hq (fun x hx => hb x ((openF_sub l).2 x hx))
    have hs := (openF_sub l).1
    unfold gOK
    have : formB rows = false := by
      unfold formB
      match rows, hl with
      | [], _ => rfl
      | [_], _ => rfl
      | [_, _], _ => rfl
      | r0 :: r1 :: r2 :: r, hl =>
        simp only [List.map_cons, List.sum_cons] at hl
        have : ¬ (r0.length = 8 ∧ r1.length = 8) := by omega
        by_cases h0 : r0.length = 8
        · have h1 : ¬ r1.length = 8 := fun h => this ⟨h0, h⟩
          simp [h1]
        · simp [h0]
    rw [this]; rfl
  unfold jget jgot
  cases hq : PAll.partsF (openF l).1.length (openF l).1 with
  | none => cases (openF l).2 <;> simp
  | some rows => simp [hf rows hq]; cases (openF l).2 <;> simp
theorem jone_not {i : Int} {l : List Int} {o : JL} (h : (jget l).err ≠ 0) : jone i l o = o := by unfold jone; exact if_neg (fun x => h x.1)
theorem jload_short {a b : List Int} (ha : a.length ≤ 15) (hb : b.length ≤ 15) (ha0 : ∀ x ∈ a, 0 ≤ x) (hb0 : ∀ x ∈ b, 0 ≤ x) : jload a b = ⟨0, 0, [], 0⟩ := by
  unfold jload
  rw [jone_not (jget_short ha ha0), jone_not (jget_short hb hb0)]
structure MayBe (bu ma : Int) (l : List S51) : Prop where
  hbu : 0 ≤ bu ∧ bu ≤ 1048576
  hma : 0 ≤ ma ∧ ma ≤ 1048576
  hl : ∀ p ∈ l, (0 ≤ p.f0 ∧ p.f0 < 64) ∧ 0 ≤ p.f1 ∧ p.f1 ≤ 1048576
  c0 : chkB bu ma 0 l = true
theorem pwB_is {x : Int} (h : pwB x = true) : 0 ≤ x ∧ x ≤ 1048576 := by simpa [pwB] using h
theorem mayBe_of {bu ma cr : Int} {l : List S51} (h : chkB bu ma cr l = true) : MayBe bu ma l := by
  unfold chkB at h
  simp only [Bool.and_eq_true] at h
  obtain ⟨h1, h2, h3, h4, h5⟩ := h
  refine ⟨pwB_is h2, pwB_is h3, fun p hp => ?_, ?_⟩
  · obtain ⟨i, hi, rfl⟩ := List.mem_iff_getElem.1 hp
    have := List.all_eq_true.1 h1 i (List.mem_range.2 hi)
    unfold PChk.rowB at this
    rw [PAll.rd_T51_nat l i hi] at this
    simp only [Bool.and_eq_true] at this
    exact ⟨by simpa [knB] using this.2.1, pwB_is this.2.2⟩
  · unfold chkB
    rw [h1, h2, h3, h5]
    rfl
theorem open_sealed' (l : List Int) : openF (sealed l) = (l, true) := by
  unfold openF
  have h1 : (sealed l).length = l.length + 4 := sealed_length l
  have h2 : (sealed l).take ((sealed l).length - 4) = l := by
    rw [h1, Nat.add_sub_cancel]
    unfold sealed
    rw [List.take_left]
  rw [h2, if_pos ⟨by omega, rfl⟩]
theorem wrapu_small {x : Int} (h : 0 ≤ x ∧ x < 4294967296) : IntKind.u64.wrap x % 2 ^ (8 * 4) = x := by
  rw [wu64 x (by omega)]
  omega
theorem wrapi_small {x : Int} (h : 0 ≤ x ∧ x < 4294967296) : IntKind.i64.wrap x = x := wrap_id (by omega)
theorem flat_puts (l : List S51) : pBs l = puts 4 (l.flatMap fun p => [IntKind.u64.wrap p.f0, IntKind.u64.wrap p.f1]) := by
  induction l with
  | nil => rfl
  | cons p l ih =>
    unfold pBs at ih ⊢
    rw [List.flatMap_cons, List.flatMap_cons, puts_append, ih]
    rfl
theorem flat_len2 (l : List S51) : (l.flatMap fun p => [IntKind.u64.wrap p.f0, IntKind.u64.wrap p.f1]).length = l.length * 2 := by
  induction l with
  | nil => rfl
  | cons p l ih => rw [List.flatMap_cons, List.length_append, ih, List.length_cons]; simp; omega
theorem flat_get2 : ∀ (l : List S51) (j : Nat) (p : S51), l[j]? = some p → (l.flatMap fun p => [IntKind.u64.wrap p.f0, IntKind.u64.wrap p.f1])[j * 2]? = some (IntKind.u64.wrap p.f0) ∧ (l.flatMap fun p => [IntKind.u64.wrap p.f0, IntKind.u64.wrap p.f1])[j * 2 + 1]? = some (IntKind.u64.wrap p.f1)
  | [], j, p, h => by simp at h
  | q :: l, 0, p, h => by cases h; exact ⟨rfl, rfl⟩
  | q :: l, j + 1, p, h => by
    have := flat_get2 l j p (by simpa using h)
    rw [List.flatMap_cons, show (j + 1) * 2 = j * 2 + 1 + 1 by omega]
    exact this
theorem u64_nn (l : List S51) : ∀ x ∈ (l.flatMap fun p => [IntKind.u64.wrap p.f0, IntKind.u64.wrap p.f1]), 0 ≤ x := by
  intro x hx
  obtain ⟨p, _, hp⟩ := List.mem_flatMap.1 hx
  simp only [List.mem_cons, List.not_mem_nil, or_false] at hp
  rcases hp with rfl | rfl <;> exact (u64_range _).1
theorem jrows_form (bu ma : Int) (l : List S51) (seq : Int) : formB (jrows bu ma l seq) = true := by
  unfold formB jrows
  simp only [List.length_cons, List.length_nil, List.getD_cons_zero, List.getD_cons_succ, puts_length, pBs_length]
  simp
theorem gseq_is {bu ma : Int} {l : List S51} {seq : Int} (h : 0 ≤ seq ∧ seq < 18446744073709551616) : gSeq (jrows bu ma l seq) = seq := by
  have e : gN 0 (jrows bu ma l seq) = gets 8 ([seq] : List Int).length (puts 8 [seq]) := rfl
  unfold gSeq
  rw [e, gets_puts 8 [seq] (fun x hx => by obtain rfl := List.mem_singleton.1 hx; exact h.1)]
  show seq % 2 ^ (8 * 8) = seq
  omega
theorem gnum_is {bu ma : Int} {l : List S51} {seq : Int} : gN 1 (jrows bu ma l seq) = [IntKind.u64.wrap bu % 2 ^ (8 * 4), IntKind.u64.wrap ma % 2 ^ (8 * 4)] := by
  have e : gN 1 (jrows bu ma l seq) = gets 4 ([IntKind.u64.wrap bu, IntKind.u64.wrap ma] : List Int).length (puts 4 [IntKind.u64.wrap bu, IntKind.u64.wrap ma]) := rfl
  rw [e, gets_puts 4 _ (fun x hx => by
    simp only [List.mem_cons, List.not_mem_nil, or_false] at hx
    rcases hx with rfl | rfl <;> exact (u64_range _).1)]
  rfl
theorem gps_is {bu ma : Int} {l : List S51} {seq : Int} (h : ∀ p ∈ l, (0 ≤ p.f0 ∧ p.f0 < 64) ∧ 0 ≤ p.f1 ∧ p.f1 ≤ 1048576) : gPs (jrows bu ma l seq) = l := by
  have e : gN 2 (jrows bu ma l seq) = (l.flatMap fun p => [IntKind.u64.wrap p.f0, IntKind.u64.wrap p.f1]).map (fun x => x % 2 ^ (8 * 4)) := by
    have e1 : gN 2 (jrows bu ma l seq) = gets 4 ((pBs l).length / 8 * 2) (pBs l) := rfl
    rw [e1, pBs_length, show 8 * l.length / 8 * 2 = (l.flatMap fun p => [IntKind.u64.wrap p.f0, IntKind.u64.wrap p.f1]).length by rw [flat_len2]; omega, flat_puts, gets_puts 4 _ (u64_nn l)]
  have e2 : (jrows bu ma l seq).getD 2 [] = pBs l := rfl
  apply List.ext_getElem?
  intro j
  unfold gPs
  rw [List.getElem?_map, e2, pBs_length, show 8 * l.length / 8 = l.length by omega]
  by_cases hj : j < l.length
  · rw [List.getElem?_range hj, List.getElem?_eq_getElem hj]
    have hp := h _ (List.getElem_mem hj)
    have hg := flat_get2 l j _ (List.getElem?_eq_getElem hj)
    have k0 : (gN 2 (jrows bu ma l seq)).getD (j * 2) 0 = IntKind.u64.wrap (l[j]).f0 % 2 ^ (8 * 4) := by
      rw [e, List.getD_eq_getElem?_getD, List.getElem?_map, hg.1]; rfl
    have k1 : (gN 2 (jrows bu ma l seq)).getD (j * 2 + 1) 0 = IntKind.u64.wrap (l[j]).f1 % 2 ^ (8 * 4) := by
      rw [e, List.getD_eq_getElem?_getD, List.getElem?_map, hg.2]; rfl
    show some (gP (jrows bu ma l seq) j) = some l[j]
    unfold gP
    rw [k0, k1, wrapu_small (by omega), wrapu_small (by omega), wrapi_small (by omega), wrapi_small (by omega)]
  · rw [List.getElem?_eq_none (by simp; omega), List.getElem?_eq_none (by omega)]
    rfl
theorem jget_jput {bu ma : Int} {l : List S51} {seq : Int} (hm : MayBe bu ma l) (hl : l.length ≤ 1000) (hs : 0 ≤ seq ∧ seq < 18446744073709551616) : jget (jput bu ma l seq) = ⟨bu, ma, l, seq, 0⟩ := by
  have h1 : PAll.partsF (joinF (jrows bu ma l seq)).length (joinF (jrows bu ma l seq)) = some (jrows bu ma l seq) := parts_join _ (fun r hr => Nat.le_trans (jrows_length _ _ _ _ hl r hr) (by decide)) _ (Nat.le_refl _)
  unfold jget jput
  rw [open_sealed', h1]
  unfold jgot
  have hb : gBud (jrows bu ma l seq) = bu := by
    unfold gBud
    rw [gnum_is]
    show IntKind.i64.wrap (IntKind.u64.wrap bu % 2 ^ (8 * 4)) = bu
    have := hm.hbu
    rw [wrapu_small (by omega), wrapi_small (by omega)]
  have hma : gMar (jrows bu ma l seq) = ma := by
    unfold gMar
    rw [gnum_is]
    show IntKind.i64.wrap (IntKind.u64.wrap ma % 2 ^ (8 * 4)) = ma
    have := hm.hma
    rw [wrapu_small (by omega), wrapi_small (by omega)]
  have hok : gOK (jrows bu ma l seq) = true := by
    unfold gOK
    rw [jrows_form, hb, hma, gps_is hm.hl, hm.c0]; rfl
  simp [hok, hb, hma, gps_is hm.hl, gseq_is hs]
end Go.Proofs.YtbcijmpkmmcdeaaDoor.SF
end
section
namespace Go.Sx
open Go.RowKit
set_option linter.unusedVariables false
set_option linter.unusedSimpArgs false
def Blk (w : World) (b : Nat) (cs : List Value) (T : TypeId) : Prop := w.heap[b]? = some (.cells cs.toArray T (0, 0))
theorem Blk.below {w w' : World} {b : Nat} {cs : List Value} {T : TypeId} (h : Blk w b cs T) (hb : Below w.heap.size w w') : Blk w' b cs T := (hb.block b (Array.getElem?_eq_some_iff.1 h).1).trans h
theorem _root_.Go.RowKit.Below.next {w w1 w2 : World} (h : Below w.heap.size w w1) (h2 : Below w1.heap.size w1 w2) : Below w.heap.size w w2 := h.trans (h2.mono h.size)
def CellsAt (w : World) (ad : Addr) (cs : List Value) : Prop := ∀ (j : Nat) (u : Value), cs[j]? = some u → w.cell? (ad.add j) = some u
theorem CellsAt.below {w w' : World} {ad : Addr} {cs : List Value} (h : CellsAt w ad cs) (hb : Below w.heap.size w w') : CellsAt w' ad cs := fun j u hu => by
  have hc := h j u hu
  rw [hb.cell (p := ad.add j) (block_lt_of_cell hc)]
  exact hc
theorem CellsAt.one {w : World} {ad : Addr} {k j : Nat} {cs : List Value} {u : Value} (h : CellsAt w (ad.add k) cs) (hu : cs[j]? = some u) : w.cell? (ad.add (k + j)) = some u := by
  have := h j u hu
  rwa [add_add] at this
section
variable {P : Program} {ops : Array Oper} {Q : Exit → Act → World → Prop} {w0 : World} {N : Fr} {l : List Oper} {env : Env} {hp : List Item} {o : Oper}
theorem reads_blkA {b : Nat} {cs : List Value} {T : TypeId} (hm : old w0 ∈ hp) (h : Blk w0 b cs T) : Reads w0 hp ⟨b, 0, none⟩ cs := reads_old hm (fun j u hu => by
  rw [addr_add, cell_of_row w0 b (0 + j) cs.toArray T (0, 0) h, Nat.zero_add]
  simpa using hu)
theorem wc_ground {c : Code} (k : ∀ wn, HeapOK w0 hp wn → WC P c Q wn N env [old wn]) : WC P c Q w0 N env hp := fun a w h => k w h.heap a w ⟨h.size, h.defers, h.env, HeapOK.start w⟩
end
end Go.Sx
end
section
namespace Go.Proofs.YtbcijmpkmmcdeaaDoor.PAll
open Go.RowKit Go.Proofs.YtbcijmpkmmcdeaaDoorW.PrintWords Go.Proofs.YtbcijmpkmmcdeaaDoorW.PrintLast Go.Proofs.YtbcijmpkmmcdeaaDoorW.PrintMore
attribute [local go_sem] max2_int min2_int max_two min_two max_three min_three max_four min_four
set_option linter.unusedVariables false
set_option linter.unusedSimpArgs false
def paternosterlaw16_few.f (a0_0 : Int) (a0_1 : Int) (a0_2 : Int) (l0_3 : List (S51)) : Option (Bool) := some (decide ((l0_3.length : Int) ≤ 80))
set_option maxHeartbeats 8000000 in
set_option maxRecDepth 100000 in
theorem paternosterlaw16_few.calls (a0_0 : Int) (a0_1 : Int) (a0_2 : Int) (A0_3 : Option Addr) (c0_3 : Nat) (l0_3 : List (S51)) (r : Bool) (w : World) (hr0_3 : Kd.C k51 w A0_3 l0_3.length l0_3) (hc0_3 : l0_3.length ≤ c0_3) (h : paternosterlaw16_few.f a0_0 a0_1 a0_2 l0_3 = some r) :
    Calls Tryd.prog 22 #[.agg #[.int .i64 a0_0, .int .i64 a0_1, .int .i64 a0_2, .slice A0_3 l0_3.length c0_3]] w fun e w' => e = .returned (.bool r) ∧ Below w.heap.size w w' := by
  have hu32 := Tryd.underlying32
  have HR0_3 := Aside0.mk hr0_3
  have HC0_3 := Aside0.mk hc0_3
  clear hr0_3 hc0_3
  have HB := Aside0.mk (Below.refl w.heap.size w)
  have H : (some (decide ((l0_3.length : Int) ≤ 80))) = some r := h
  clear h
  obtain rfl := Option.some.inj H
  go_enter Tryd.func22, Tryd.ntmps22
  go_wp2_with (first | ((with_reducible refine gate_dst (N := 1) rfl ?_); refine box_event ?hg (N := 1) ?hd (cs := #[.int .i64 a0_0, .int .i64 a0_1, .int .i64 a0_2, .slice A0_3 l0_3.length c0_3]) (t := 32) ?hr ?_; (case hd => rfl); (case hg => rfl); (case hr => first | (go_simp; done) | (go_simp; rfl)); intro gb224 hg w2 hbox hb; have n0_ := Aside0.mk (below_step (by repeat (first | (with_reducible first | exact HB.out | apply below_alloc | apply pw_below_drewN | apply below_drew1) | exact HB.out)) hb); have n1_ := Aside0.mk (hbox); have n2_ := Aside0.mk ((by rw [hg]; exact (below_size (by repeat (first | (with_reducible first | exact HB.out | apply below_alloc | apply pw_below_drewN | apply below_drew1) | exact HB.out))) : w.heap.size ≤ gb224)); have n3_ := Aside0.mk ((by rw [hg]; exact (below_size (by repeat (first | (with_reducible first | exact HB.out | apply below_alloc | apply pw_below_drewN | apply below_drew1) | exact HB.out))) : w.heap.size ≤ gb224)); clear HB; have HB := n0_; have BK224 := n1_; have GW224 := n2_; have GE224 := n3_; clear n0_ n1_ n2_ n3_; clear hb hbox hg; have hcz3_0 : w2.cell? ⟨gb224, 0, none⟩ = some (.int .i64 a0_0) := (blk_cell BK224.out 0).trans rfl; have hcz3_1 : w2.cell? ⟨gb224, 1, none⟩ = some (.int .i64 a0_1) := (blk_cell BK224.out 1).trans rfl; have hcz3_2 : w2.cell? ⟨gb224, 2, none⟩ = some (.int .i64 a0_2) := (blk_cell BK224.out 2).trans rfl; have hcz3_3 : w2.cell? ⟨gb224, 3, none⟩ = some (.slice A0_3 l0_3.length c0_3) := (blk_cell BK224.out 3).trans rfl; have hfz3_0 := blk_frozen BK224.out 0; have hfz3_1 := blk_frozen BK224.out 1; have hfz3_2 := blk_frozen BK224.out 2; have hfz3_3 := blk_frozen BK224.out 3))
  go_ret
  exact ⟨by first | rfl | (simp [errW_none, errW_some] <;> rfl) | (simp [*, errW_none, errW_some] <;> rfl), by repeat (first | (with_reducible first | exact HB.out | apply below_alloc | apply pw_below_drewN | apply below_drew1 | refine below_set ?_ GE224.out) | exact HB.out)⟩
end Go.Proofs.YtbcijmpkmmcdeaaDoor.PAll
end
section
namespace Go.Proofs.YtbcijmpkmmcdeaaDoor.SF
open Go.RowKit Go.Sx Go.Proofs.YtbcijmpkmmcdeaaDoor.PAll Go.Proofs.YtbcijmpkmmcdeaaDoorW.PrintWords Go.Proofs.YtbcijmpkmmcdeaaDoorW.PrintLast Go.Proofs.YtbcijmpkmmcdeaaDoorW.PrintMore
set_option linter.unusedVariables false
set_option linter.unusedSimpArgs false
def RowP (w : World) (q : Gh) (l : List S51) : Prop := l.length ≤ q.2 ∧ Kd.C k51 w q.1 l.length l
theorem RowP.below {w w' : World} {q : Gh} {l : List S51} (h : RowP w q l) (hb : Below w.heap.size w w') : RowP w' q l := ⟨h.1, Kd.C_below h.2 hb⟩
def RowI (w : World) (q : Gh) (l : List Int) : Prop := l.length ≤ q.2 ∧ Kd.C (Kd.int .i64) w q.1 l.length l
theorem RowI.below {w w' : World} {q : Gh} {l : List Int} (h : RowI w q l) (hb : Below w.heap.size w w') : RowI w' q l := ⟨h.1, Kd.C_below h.2 hb⟩
theorem jps_len {l : List Int} (h : l.length ≤ 8000) (hb : ∀ x ∈ l, 0 ≤ x) : (jget l).ps.length ≤ 1000 := by
  have hf : ∀ rows, PAll.partsF (openF l).1.length (openF l).1 = some rows → (gPs rows).length ≤ 1000 := by
    intro rows hq
    have hs := (openF_sub l).1
    unfold gPs
    rw [List.length_map, List.length_range]
    cases h2 : rows[2]? with
    | none => rw [List.getD_eq_getElem?_getD, h2]; decide
    | some r =>
      have := (parts_sub _ _ _ hq r (List.mem_of_getElem? h2)).1
      rw [List.getD_eq_getElem?_getD, h2]
      show r.length / 8 ≤ 1000
      omega
  unfold jget jgot
  cases hq : PAll.partsF (openF l).1.length (openF l).1 with
  | none => cases (openF l).2 <;> simp
  | some rows =>
    have := hf rows hq
    cases (openF l).2 <;> simp
    split <;> simp [this]
theorem jone_len {i : Int} {l : List Int} {o : JL} (h : Bytes l) (ho : o.ps.length ≤ 1000) : (jone i l o).ps.length ≤ 1000 := by
  unfold jone
  split
  · exact jps_len h.1 (fun x hx => (h.2 x hx).1)
  · exact ho
theorem jload_len {a b : List Int} (ha : Bytes a) (hb : Bytes b) : (jload a b).ps.length ≤ 1000 := jone_len hb (jone_len ha (Nat.zero_le _))
theorem FromK (pa pb : Gh) (a b : List Int) (w : World) (ha : RowC w pa a) (hb : RowC w pb b) (hal : a.length < 17592186044416) (hbl : b.length < 17592186044416) :
    Calls Tryd.prog 16 #[.slice pa.1 a.length pa.2, .slice pb.1 b.length pb.2] w fun e w' => ∃ i : Gh × Gh, Jn.ok w' ⟨a, b, 0, [], false⟩ i.1 i.2 (none, 0) ∧ e = .returned (.agg (Jn.cells ⟨a, b, 0, [], false⟩ i.1 i.2 (none, 0)).toArray) ∧ Below w.heap.size w w' :=
  (From_calls pa pb a b w ha hb hal hbl).mono (fun e w' ⟨p0, p1, h1, h2, h3⟩ => ⟨(p0, p1), h2, h1, h3⟩)
theorem AgainK (J : Jn) (p0 p1 p2 q : Gh) (l : List S28) (budget : Int) (w : World) (hJ : Jn.ok w J p0 p1 p2) (hB0 : Bytes J.s0) (hB1 : Bytes J.s1) (hh : Half w) (hr : Kd.C k28 w q.1 l.length l) (hc : l.length ≤ q.2) (hl : l.length ≤ 10000) :
    Calls Tryd.prog 15 #[.agg (J.cells p0 p1 p2).toArray, .slice q.1 l.length q.2, .int .i64 budget] w fun e w' => ∃ i : Gh × Gh, (RowP w' i.1 (agN (jload J.s0 J.s1).ps (mn (mx budget 0) 1048576) l l.length).out ∧ RowI w' i.2 (agN (jload J.s0 J.s1).ps (mn (mx budget 0) 1048576) l l.length).stops) ∧
      e = .returned (.tuple #[.agg #[.int .i64 (mn (mx budget 0) 1048576), .int .i64 (jload J.s0 J.s1).mar, .int .i64 0, .slice i.1.1 (agN (jload J.s0 J.s1).ps (mn (mx budget 0) 1048576) l l.length).out.length i.1.2], .slice i.2.1 (agN (jload J.s0 J.s1).ps (mn (mx budget 0) 1048576) l l.length).stops.length i.2.2]) ∧ Below w.heap.size w w' := by
  have hn := jload_len hB0 hB1
  have hg := agN_range (jload J.s0 J.s1).ps (mn (mx budget 0) 1048576) l l.length
  exact (Again_calls J p0 p1 p2 q.1 q.2 l budget w hJ hB0 hB1 hh hr hc hl (by omega)).mono (fun e w' ⟨qo, qs, h1, h2⟩ => ⟨(qo, qs), ⟨⟨own_cap (h2.get (i := 1) rfl), C51_of_own (h2.get (i := 1) rfl) (by omega)⟩, ⟨own_cap (h2.get (i := 0) rfl), C_of_own (h2.get (i := 0) rfl) (by omega)⟩⟩, h1, h2.toBelow (by simp)⟩)
theorem check_calls (a b c : Int) (q : Gh) (l : List S51) (w : World) (hr : RowP w q l) (hl : l.length ≤ 1000) : Calls Tryd.prog 35 #[.agg #[.int .i64 a, .int .i64 b, .int .i64 c, .slice q.1 l.length q.2]] w fun e w' => e = .returned (.bool (PChk.chkB a b c l)) ∧ Below w.heap.size w w' := PChk.Check_calls a b c q.1 q.2 l w hr.2 hr.1 hl
theorem RowC.none (w : World) (q : Gh) : RowC w q [] := ⟨Nat.zero_le _, rfl, by decide, fun h => absurd h (by decide)⟩
theorem RowP.at {w : World} {q : Gh} {l : List S51} {j : Nat} {p : S51} (h : RowP w q l) (hp : l[j]? = some p) : ∃ ad, q.1 = some ad ∧ CellsAt w (ad.add (j * 2)) [.int .i64 p.f0, .int .i64 p.f1] := C51_at h.2 hp
theorem RowI.at {w : World} {q : Gh} {l : List Int} {j : Nat} {x : Int} (h : RowI w q l) (hp : l[j]? = some x) : ∃ ad, q.1 = some ad ∧ w.cell? (ad.add (j * 1)) = some (.int .i64 x) := by
  obtain ⟨ad, cs, e, hK, hc⟩ := C_at h.2 hp rfl
  obtain rfl : cs = [.int .i64 x] := hK
  have := hc 0 _ rfl
  rw [add_zero] at this
  exact ⟨ad, e, this⟩
theorem FromG {w : World} : Calls Tryd.prog 16 #[.slice none 0 0, .slice none 0 0] w fun e w' => ∃ i : Gh × Gh, e = .returned (.agg (Jn.cells ⟨[], [], 0, [], false⟩ i.1 i.2 (none, 0)).toArray) ∧ Below w.heap.size w w' :=
  (FromK (none, 0) (none, 0) [] [] w (RowC.none w _) (RowC.none w _) (by decide) (by decide)).mono (fun e w' ⟨i, _, h1, h2⟩ => ⟨i, h1, h2⟩)
def J0 : Jn := ⟨[], [], 0, [], false⟩
theorem J0_ok (w : World) (p0 p1 p2 : Gh) : Jn.ok w J0 p0 p1 p2 := ⟨RowC.none w _, RowC.none w _, RowC.none w _⟩
theorem Bytes_nil : Bytes [] := ⟨Nat.zero_le _, fun x hx => by cases hx⟩
theorem jput_bytes {bu ma seq : Int} {l : List S51} (h : l.length ≤ 900) : Bytes (jput bu ma l seq) := by
  refine ⟨by rw [jput_length]; omega, Go.Proofs.YtbcijmpkmmcdeaaDoor.Pure.sealed_range _ (Go.Proofs.YtbcijmpkmmcdeaaDoor.Pure.joinF_range _ (jrows_range _ _ _ _))⟩
theorem seq1 : IntKind.u64.wrap (0 + 1) = 1 := by decide
theorem write_first {a b : List Int} (ha : a.length ≤ 15) (hb : b.length ≤ 15) (ha0 : ∀ x ∈ a, 0 ≤ x) (hb0 : ∀ x ∈ b, 0 ≤ x) (last : Int) (was : List Int) (wr : Bool) (bu ma : Int) (l : List S51) : Jn.write ⟨a, b, last, was, wr⟩ bu ma l = ⟨a, jput bu ma l 1, 1, b, true⟩ := by
  unfold Jn.write
  rw [jload_short ha hb ha0 hb0]
  simp only [seq1]
  rfl
theorem load_put1 {a : List Int} {bu ma : Int} {l : List S51} (ha : a.length ≤ 15) (ha0 : ∀ x ∈ a, 0 ≤ x) (hm : MayBe bu ma l) (hl : l.length ≤ 900) : jload a (jput bu ma l 1) = ⟨bu, ma, l, 1⟩ := by
  unfold jload
  rw [jone_not (jget_short ha ha0)]
  unfold jone
  rw [jget_jput hm (by omega) (by decide)]
  rfl
end Go.Proofs.YtbcijmpkmmcdeaaDoor.SF
end
section
namespace Go.Sx
open Go.RowKit Go.Proofs.YtbcijmpkmmcdeaaDoorW.PrintWords
set_option linter.unusedVariables false
set_option linter.unusedSimpArgs false
section
variable {P : Program} {ops : Array Oper} {Q : Exit → Act → World → Prop} {w0 : World} {N : Fr} {l : List Oper} {env : Env} {hp : List Item} {o : Oper}
theorem q_eqAgg {op : BinOp} {t u : TypeId} {x y : Operand} {p q : Array Value} {c : Bool} (ho : o.op = .binOp op t x y u) (hop : op = .eql ∨ op = .neq) (hx : evE x env = some (.agg p)) (hy : evE y env = some (.agg q)) (hm : P.eqGuardType P.depth t = false)
    (hr : ∀ w : World, (Op.equal t (.agg p) (.agg q)).run P w = .ok c w) : OpQ P o env w0 hp (.bool (bif op matches .eql then c else !c)) :=
  q_eq ho hop hx hy fun w => ⟨run_eqGuard_agg w op t x y p q hm, by
    rcases hop with rfl | rfl
    · show (do pure (Value.bool (← Op.equal t (.agg p) (.agg q))) : Sem Value).run P w = _
      rw [Sem.run_bind, hr w]; rfl
    · show (do pure (Value.bool (!(← Op.equal t (.agg p) (.agg q)))) : Sem Value).run P w = _
      rw [Sem.run_bind, hr w]; rfl⟩
end
end Go.Sx
end
section
namespace Go.Proofs.YtbcijmpkmmcdeaaDoor.SF
open Go.RowKit Go.Sx Go.Proofs.YtbcijmpkmmcdeaaDoor.PAll Go.Proofs.YtbcijmpkmmcdeaaDoorW.PrintWords Go.Proofs.YtbcijmpkmmcdeaaDoorW.PrintLast Go.Proofs.YtbcijmpkmmcdeaaDoorW.PrintMore
set_option linter.unusedVariables false
set_option linter.unusedSimpArgs false
set_option maxRecDepth 100000
def RowR (w : World) (q : Gh) (l : List S91) : Prop := l.length ≤ q.2 ∧ Kd.C k91 w q.1 l.length l
theorem RowR.below {w w' : World} {q : Gh} {l : List S91} (h : RowR w q l) (hb : Below w.heap.size w w') : RowR w' q l := ⟨h.1, Kd.C_below h.2 hb⟩
theorem RowR.at {w : World} {q : Gh} {l : List S91} {j : Nat} {p : S91} (h : RowR w q l) (hp : l[j]? = some p) : ∃ ad, q.1 = some ad ∧ CellsAt w (ad.add (j * 2)) [.int .i64 p.f0, .int .i64 p.f1] := by
  obtain ⟨ad, cs, e, hK, hc⟩ := C_at h.2 hp rfl
  obtain rfl := k91_open hK
  exact ⟨ad, e, hc⟩
end Go.Proofs.YtbcijmpkmmcdeaaDoor.SF
end
section
namespace Go.Proofs.YtbcijmpkmmcdeaaDoor.SF
open Go.RowKit Go.Sx Go.Proofs.YtbcijmpkmmcdeaaDoor.PAll Go.Proofs.YtbcijmpkmmcdeaaDoorW.PrintWords Go.Proofs.YtbcijmpkmmcdeaaDoorW.PrintLast Go.Proofs.YtbcijmpkmmcdeaaDoorW.PrintMore
set_option linter.unusedVariables false
set_option linter.unusedSimpArgs false
set_option maxRecDepth 100000
def l28 : List S28 := [⟨1, 6⟩, ⟨2, 5⟩]
theorem k28_blk2 {w : World} {b : Nat} {T : TypeId} {p q : S28} (h : w.heap[b]? = some (.cells #[.int .i64 p.f0, .int .i64 p.f1, .int .i64 q.f0, .int .i64 q.f1] T (0, 0))) : Kd.C k28 w (some ⟨b, 0, none⟩) 2 [p, q] := by
  refine ⟨rfl, by decide, fun _ => ⟨_, rfl, fun j r hr => ?_⟩⟩
  have hj : (j = 0 ∧ r = p) ∨ (j = 1 ∧ r = q) := by
    match j, hr with
    | 0, hr => cases hr; exact .inl ⟨rfl, rfl⟩
    | 1, hr => cases hr; exact .inr ⟨rfl, rfl⟩
    | j + 2, hr => simp at hr
  refine ⟨_, rfl, k28_mk w r, fun i u hu => ?_⟩
  rw [addr_add, cell_of_row w b _ _ T (0, 0) h]
  rcases hj with ⟨rfl, rfl⟩ | ⟨rfl, rfl⟩
  · match i, hu with
    | 0, hu => exact hu
    | 1, hu => exact hu
    | i + 2, hu => cases hu
  · match i, hu with
    | 0, hu => exact hu
    | 1, hu => exact hu
    | i + 2, hu => cases hu
theorem awake17_again : agN (jload [] []).ps (mn (mx 10 0) 1048576) l28 l28.length = ⟨[⟨1, 6⟩], [2]⟩ := by
  have h : jload [] [] = ⟨0, 0, [], 0⟩ := jload_short (by decide) (by decide) (fun x hx => by cases hx) (fun x hx => by cases hx)
  rw [h]
  rfl
theorem eqA51 (d : Nat) (w : World) (x0 y0 x1 y1 : Int) : (Op.equalIn (d + 2) 51 (.agg #[.int .i64 x0, .int .i64 x1]) (.agg #[.int .i64 y0, .int .i64 y1])).run Tryd.prog w = .ok (x0 == y0 && (x1 == y1)) w := by
  refine eqA_of Tryd.underlying51 (by kernel_rfl) ?_
  refine eqf_cons (by rfl) (by go_simp; rfl) (by go_simp; rfl) (by go_simp) ?_
  exact eqf_last (by rfl) (by go_simp; rfl) (by go_simp; rfl) (by go_simp)
theorem eq51 (w : World) (x0 y0 x1 y1 : Int) : (Op.equal 51 (.agg #[.int .i64 x0, .int .i64 x1]) (.agg #[.int .i64 y0, .int .i64 y1])).run Tryd.prog w = .ok (x0 == y0 && (x1 == y1)) w := by
  have h := eqA51 (Op.maxDepth - 2) w x0 y0 x1 y1
  rw [show Op.maxDepth - 2 + 2 = Op.maxDepth from rfl] at h
  simpa [Op.equal] using h
set_option maxHeartbeats 1000000 in
theorem awake17_calls (w : World) (hh : Half w) : Calls Tryd.prog 13 #[] w fun e w' => e = .returned (.bool true) ∧ Below w.heap.size w w' := by
  refine enter (w0 := w) (hp := [old w]) (env := []) Tryd.func13 rfl 39 rfl (by simp) rfl (HeapOK.start _) ?_
  refine wc_seq ?_
  refine wc_region ?_
  refine wl_q (q_assign rfl rfl) rfl rfl (by decide) ?_
  refine wl_nil ?_
  refine fq_then ?_
  refine wc_seq ?_
  refine wc_region ?_
  refine wl_callK (ι := (Gh × Gh)) (fun i => .agg (Jn.cells (⟨[], [], 0, [], false⟩ : Jn) i.1 i.2 (none, 0)).toArray) (fun i w w' => Jn.ok w' (⟨[], [], 0, [], false⟩ : Jn) i.1 i.2 (none, 0)) rfl rfl rfl (by decide) En16 rfl (fun w1 hw1 => FromK (none, 0) (none, 0) [] [] w1 (RowC.none w1 _) (RowC.none w1 _) (by decide) (by decide)) (fun J0 wa_ w_1 _ Hn_ _ hC_ => ?_)
  have hx_ := Hn_.toBelow (by simp)
  have hh := hh.keep hx_
  have hB := hx_
  have hJ_J0 := hC_
  refine wl_q (q_build rfl rfl (built_of Zr28 Pl28 (by simp only [fillL, List.map_cons, List.map_nil, Value.cells, List.getElem?_cons_zero, List.getElem?_cons_succ, List.length_cons, List.length_nil, Nat.reduceAdd, Nat.reduceLeDiff, Nat.le_refl, and_self, and_true, true_and, if_true, Nat.zero_add, spl, List.take_succ_cons, List.take_zero, List.take_nil, List.drop_succ_cons, List.drop_zero, List.drop_nil, List.nil_append, List.cons_append, List.append_nil] <;> rfl))) rfl rfl (by decide) ?_
  refine wl_q (q_build rfl rfl (built_of Zr28 Pl28 (by simp only [fillL, List.map_cons, List.map_nil, Value.cells, List.getElem?_cons_zero, List.getElem?_cons_succ, List.length_cons, List.length_nil, Nat.reduceAdd, Nat.reduceLeDiff, Nat.le_refl, and_self, and_true, true_and, if_true, Nat.zero_add, spl, List.take_succ_cons, List.take_zero, List.take_nil, List.drop_succ_cons, List.drop_zero, List.drop_nil, List.nil_append, List.cons_append, List.append_nil] <;> rfl))) rfl rfl (by decide) ?_
  refine wl_buildSlice rfl rfl rfl (by decide) rfl Tryd.underlying23 (built_parts Sz28 (by decide) Zs28 (by simp [Value.cells]) rfl (by decide) (by decide) rfl) (fun b2 => ?_)
  refine wl_callK (ι := (Gh × Gh)) (fun i => .tuple #[.agg #[.int .i64 (mn (mx 10 0) 1048576), .int .i64 (jload ((⟨[], [], 0, [], false⟩ : Jn)).s0 ((⟨[], [], 0, [], false⟩ : Jn)).s1).mar, .int .i64 0, .slice i.1.1 (agN (jload ((⟨[], [], 0, [], false⟩ : Jn)).s0 ((⟨[], [], 0, [], false⟩ : Jn)).s1).ps (mn (mx 10 0) 1048576) l28 l28.length).out.length i.1.2], .slice i.2.1 (agN (jload ((⟨[], [], 0, [], false⟩ : Jn)).s0 ((⟨[], [], 0, [], false⟩ : Jn)).s1).ps (mn (mx 10 0) 1048576) l28 l28.length).stops.length i.2.2]) (fun i w w' => RowP w' i.1 (agN (jload ((⟨[], [], 0, [], false⟩ : Jn)).s0 ((⟨[], [], 0, [], false⟩ : Jn)).s1).ps (mn (mx 10 0) 1048576) l28 l28.length).out ∧ RowI w' i.2 (agN (jload ((⟨[], [], 0, [], false⟩ : Jn)).s0 ((⟨[], [], 0, [], false⟩ : Jn)).s1).ps (mn (mx 10 0) 1048576) l28 l28.length).stops) rfl rfl rfl (by decide) En15 rfl (fun w1 hw1 => AgainK ((⟨[], [], 0, [], false⟩ : Jn)) J0.1 J0.2 (none, 0) (some ⟨b2, 0, none⟩, 2) l28 10 w1 (hJ_J0.below (hw1.toBelow (by simp))) Bytes_nil Bytes_nil (hh.keep (hw1.toBelow (by simp))) (k28_blk2 (p := ⟨1, 6⟩) (q := ⟨2, 5⟩) (hw1.get (i := 0) rfl)) (Nat.le_refl 2) (by decide)) (fun m wa_ w_3 _ Hn_ _ hC_ => ?_)
  have hx_ := Hn_.toBelow (by simp)
  have fb_b2 : Blk w_3 b2 _ _ := Hn_.get (i := 0) rfl
  have hh := hh.keep hx_
  have hJ_J0 := hJ_J0.below hx_
  have hB := hB.next hx_
  obtain ⟨hP_m, hS_m⟩ := hC_
  refine wl_q (q_move rfl rfl) rfl rfl (by decide) ?_
  refine wl_q (q_extract rfl rfl rfl) rfl rfl (by decide) ?_
  refine wl_q (q_extract rfl rfl rfl) rfl rfl (by decide) ?_
  refine wl_alloc rfl rfl rfl (by decide) Zr32 (fun b4 => ?_)
  refine wl_store (i := 0) rfl rfl rfl rfl rfl rfl Sz32 rfl rfl (by simp) (by simp [Value.oneCell']) (by first | (simp only [List.take_succ_cons, List.take_zero, List.take_nil, List.drop_succ_cons, List.drop_zero, List.drop_nil, List.nil_append, List.cons_append, List.append_nil, List.length_cons, List.length_nil, Nat.reduceAdd, Nat.zero_add]; rfl) | rfl) (by first | (simp only [List.set_cons_zero, List.set_cons_succ]; rfl) | rfl) ?_
  refine wl_q (q_assign rfl rfl) rfl rfl (by decide) ?_
  refine wl_nil ?_
  refine fq_then ?_
  refine wc_seq ?_
  obtain ⟨ad1, hA1, hr1⟩ := hP_m.at (j := 0) (p := ⟨1, 6⟩) (by show (agN (jload [] []).ps (mn (mx 10 0) 1048576) l28 l28.length).out[0]? = _; rw [awake17_again] <;> rfl)
  obtain ⟨ad2, hA2, hr2⟩ := hS_m.at (j := 0) (x := 2) (by show (agN (jload [] []).ps (mn (mx 10 0) 1048576) l28 l28.length).stops[0]? = _; rw [awake17_again] <;> rfl)
  skip
  refine wc_region ?_
  refine wl_q (q_fa (o1 := 3) rfl rfl Fo32_3 rfl) rfl rfl (by decide) ?_
  refine wl_q (q_load rfl rfl Mn30 (reads1 (i := 0) rfl rfl)) rfl rfl (by decide) ?_
  refine wl_q (q_len rfl rfl Tryd.underlying30) rfl rfl (by decide) ?_
  refine wl_q (OpQ.to (q_bin rfl rfl rfl rfl) (congrArg Value.bool (by rw [awake17_again] <;> rfl))) rfl rfl (by decide) ?_
  refine wl_q (q_move rfl rfl) rfl rfl (by decide) ?_
  refine wl_want (b := true) (q_fa (o1 := 3) rfl rfl Fo32_3 rfl) rfl rfl rfl rfl (by decide) ?_
  refine wl_want (b := true) (q_load rfl rfl Mn30 (reads1 (i := 0) rfl rfl)) rfl rfl rfl rfl (by decide) ?_
  refine wl_want (b := true) (q_indexO rfl rfl hA1 rfl Tryd.underlying30 Sz51 (by decide) (by rw [awake17_again]; decide)) rfl rfl rfl rfl (by decide) ?_
  refine wl_want (b := true) (q_loadA rfl rfl Mn51 Sz51 rfl (reads_old (cs := [.int .i64 1, .int .i64 6]) (by simp) hr1)) rfl rfl rfl rfl (by decide) ?_
  refine wl_want (b := true) (q_build rfl rfl (built_of Zr51 Pl51 (by simp only [fillL, List.map_cons, List.map_nil, Value.cells, List.getElem?_cons_zero, List.getElem?_cons_succ, List.length_cons, List.length_nil, Nat.reduceAdd, Nat.reduceLeDiff, Nat.le_refl, and_self, and_true, true_and, if_true, Nat.zero_add, spl, List.take_succ_cons, List.take_zero, List.take_nil, List.drop_succ_cons, List.drop_zero, List.drop_nil, List.nil_append, List.cons_append, List.append_nil] <;> rfl))) rfl rfl rfl rfl (by decide) ?_
  refine wl_want (b := true) (OpQ.to (q_eqAgg (c := true) rfl (.inl rfl) rfl rfl (by kernel_rfl) (fun w1 => eq51 w1 _ _ _ _)) rfl) rfl rfl rfl rfl (by decide) ?_
  refine wl_q (q_pick rfl rfl rfl) rfl rfl (by decide) ?_
  refine wl_q (q_move rfl rfl) rfl rfl (by decide) ?_
  refine wl_want (b := true) (q_move rfl rfl) rfl rfl rfl rfl (by decide) ?_
  refine wl_want (b := true) (q_len rfl rfl Tryd.underlying33) rfl rfl rfl rfl (by decide) ?_
  refine wl_want (b := true) (OpQ.to (q_bin rfl rfl rfl rfl) (congrArg Value.bool (by rw [awake17_again] <;> rfl))) rfl rfl rfl rfl (by decide) ?_
  refine wl_q (q_pick rfl rfl rfl) rfl rfl (by decide) ?_
  refine wl_q (q_move rfl rfl) rfl rfl (by decide) ?_
  refine wl_want (b := true) (q_move rfl rfl) rfl rfl rfl rfl (by decide) ?_
  refine wl_want (b := true) (q_indexO rfl rfl hA2 rfl Tryd.underlying33 Sz3 (by decide) (by rw [awake17_again]; decide)) rfl rfl rfl rfl (by decide) ?_
  refine wl_want (b := true) (q_load rfl rfl Mn3 (reads_old (by simp) (cell_zero hr2))) rfl rfl rfl rfl (by decide) ?_
  refine wl_want (b := true) (OpQ.to (q_bin rfl rfl rfl rfl) (congrArg Value.bool (by rfl))) rfl rfl rfl rfl (by decide) ?_
  refine wl_q (q_pick rfl rfl rfl) rfl rfl (by decide) ?_
  refine wl_q (q_move rfl rfl) rfl rfl (by decide) ?_
  refine wl_want (b := true) (q_fa (o1 := 0) rfl rfl Fo32_0 rfl) rfl rfl rfl rfl (by decide) ?_
  refine wl_want (b := true) (q_load rfl rfl Mn3 (reads1 (i := 0) rfl rfl)) rfl rfl rfl rfl (by decide) ?_
  refine wl_want (b := true) (OpQ.to (q_bin rfl rfl rfl rfl) (congrArg Value.bool (by rfl))) rfl rfl rfl rfl (by decide) ?_
  refine wl_q (q_pick rfl rfl rfl) rfl rfl (by decide) ?_
  refine wl_q (q_assign rfl rfl) rfl rfl (by decide) ?_
  refine wl_nil ?_
  refine fq_then ?_
  refine wc_ret ?_
  refine fq_ret1 rfl rfl (fun w1 H => ?_)
  exact ⟨rfl, hB.next (H.toBelow (by simp))⟩
end Go.Proofs.YtbcijmpkmmcdeaaDoor.SF
end
section
namespace Go.Proofs.YtbcijmpkmmcdeaaDoor.PAll
open Go.RowKit Go.Proofs.YtbcijmpkmmcdeaaDoorW.PrintWords Go.Proofs.YtbcijmpkmmcdeaaDoorW.PrintLast Go.Proofs.YtbcijmpkmmcdeaaDoorW.PrintMore
attribute [local go_sem] max2_int min2_int max_two min_two max_three min_three max_four min_four
set_option linter.unusedVariables false
set_option linter.unusedSimpArgs false
def paternosterlaw17_few.f (l0 : List (S28)) : Option (Bool) := some (decide ((l0.length : Int) ≤ 100))
set_option maxHeartbeats 8000000 in
set_option maxRecDepth 100000 in
theorem paternosterlaw17_few.calls (A0 : Option Addr) (c0 : Nat) (l0 : List (S28)) (r : Bool) (w : World) (hr0 : Kd.C k28 w A0 l0.length l0) (hc0 : l0.length ≤ c0) (h : paternosterlaw17_few.f l0 = some r) :
    Calls Tryd.prog 14 #[.slice A0 l0.length c0] w fun e w' => e = .returned (.bool r) ∧ Drawn0 w w' := by
  have HR0 := Aside0.mk hr0
  have HC0 := Aside0.mk hc0
  clear hr0 hc0
  have H : (some (decide ((l0.length : Int) ≤ 100))) = some r := h
  clear h
  obtain rfl := Option.some.inj H
  go_enter Tryd.func14, Tryd.ntmps14
  go_wp2
  go_ret
  exact ⟨by first | rfl | (simp; done) | (simp [*]; done), by repeat (first | exact Drawn0.refl _ | apply Drawn0.step)⟩
end Go.Proofs.YtbcijmpkmmcdeaaDoor.PAll
end
section
namespace Go.Proofs.YtbcijmpkmmcdeaaDoor.SF
open Go.RowKit Go.Sx Go.Proofs.YtbcijmpkmmcdeaaDoor.PAll Go.Proofs.YtbcijmpkmmcdeaaDoorW.PrintWords Go.Proofs.YtbcijmpkmmcdeaaDoorW.PrintLast Go.Proofs.YtbcijmpkmmcdeaaDoorW.PrintMore
open Go.Proofs.YtbcijmpkmmcdeaaDoor.PChk (sumP sum_ev sumP_bound)
set_option linter.unusedVariables false
set_option linter.unusedSimpArgs false
set_option maxRecDepth 100000
def RowM (w : World) (q : Gh) (l : List S28) : Prop := l.length ≤ q.2 ∧ Kd.C k28 w q.1 l.length l
theorem RowM.below {w w' : World} {q : Gh} {l : List S28} (h : RowM w q l) (hb : Below w.heap.size w w') : RowM w' q l := ⟨h.1, Kd.C_below h.2 hb⟩
theorem RowM.none (w : World) (q : Gh) : RowM w q [] := ⟨Nat.zero_le _, rfl, by decide, fun h => absurd h (by decide)⟩
theorem RowM.at {w : World} {q : Gh} {l : List S28} {j : Nat} {p : S28} (h : RowM w q l) (hp : l[j]? = some p) : ∃ ad, q.1 = some ad ∧ CellsAt w (ad.add (j * 2)) [.int .i64 p.f0, .int .i64 p.f1] := C28_at h.2 hp
theorem few17_calls (q : Gh) (l : List S28) (w : World) (hr : RowM w q l) : Calls Tryd.prog 14 #[.slice q.1 l.length q.2] w fun e w' => e = .returned (.bool (decide (l.length ≤ 100))) ∧ Below w.heap.size w w' := by
  refine (paternosterlaw17_few.calls q.1 q.2 l (decide (l.length ≤ 100)) w hr.2 hr.1 ?_).mono (fun e w' ⟨h1, h2⟩ => ⟨h1, h2.below⟩)
  unfold paternosterlaw17_few.f
  congr 1
  simp
  omega
theorem SumK (bu ma cr : Int) (q : Gh) (l : List S51) (w : World) (hr : RowP w q l) (hb : ∀ p ∈ l, 0 ≤ p.f1 ∧ p.f1 ≤ 1048576) (hl : l.length ≤ 10000) :
    Calls Tryd.prog 20 #[.agg #[.int .i64 bu, .int .i64 ma, .int .i64 cr, .slice q.1 l.length q.2]] w fun e w' => e = .returned (.int .i64 (sumP l)) ∧ Below w.heap.size w w' :=
  ledger_Ledger_Sum.calls (2 * l.length + 2) bu ma cr q.1 q.2 l _ w hr.2 hr.1 (sum_ev _ _ _ _ hb hl _ (Nat.le_refl _))
theorem agN_succ (ps : List S51) (bud : Int) (l : List S28) (j : Nat) : agN ps bud l (j + 1) = match l[j]? with | some m => agOne ps bud ((l.take j).map S28.f0) (agN ps bud l j) m | none => agN ps bud l j := rfl
theorem sumP_append (a b : List S51) : sumP (a ++ b) = sumP a + sumP b := by
  induction a with
  | nil => simp [sumP]
  | cons m a ih => simp only [List.cons_append, sumP, ih]; omega
end Go.Proofs.YtbcijmpkmmcdeaaDoor.SF
end
section
namespace Go.Proofs.YtbcijmpkmmcdeaaDoor.SF
open Go.RowKit Go.Sx Go.Proofs.YtbcijmpkmmcdeaaDoor.PAll Go.Proofs.YtbcijmpkmmcdeaaDoorW.PrintWords Go.Proofs.YtbcijmpkmmcdeaaDoorW.PrintLast Go.Proofs.YtbcijmpkmmcdeaaDoorW.PrintMore
open Go.Proofs.YtbcijmpkmmcdeaaDoor.PChk (sumP sum_ev sumP_bound chkB rowsB rowB knB pwB)
set_option linter.unusedVariables false
set_option linter.unusedSimpArgs false
theorem chk_of {b m cr : Int} {l : List S51} (hd : (l.map S51.f0).Nodup) (hr : ∀ p ∈ l, (0 ≤ p.f0 ∧ p.f0 < 64) ∧ 0 ≤ p.f1 ∧ p.f1 ≤ 1048576) (hb : 0 ≤ b ∧ b ≤ 1048576) (hm : 0 ≤ m ∧ m ≤ 1048576) (hc : 0 ≤ cr ∧ cr ≤ 1048576) (hs : sumP l ≤ b) : chkB b m cr l = true := by
  unfold chkB
  have h1 : rowsB l l.length = true := by
    unfold rowsB
    rw [List.all_eq_true]
    intro i hi
    have hi := List.mem_range.1 hi
    unfold rowB
    rw [PAll.rd_T51_nat l i hi]
    have hp := hr _ (List.getElem_mem hi)
    have hn : ¬ 0 ≤ PChk.ixf (l.take i) (fun q => q.f0 == l[i].f0) := by
      unfold PChk.ixf
      rw [if_neg]
      · decide
      · rw [List.findIdx_lt_length]
        rintro ⟨p, hp, hc⟩
        obtain ⟨k, hk, rfl⟩ := List.mem_iff_getElem.1 hp
        rw [List.getElem_take] at hc
        have hk' : k < i := by rw [List.length_take] at hk; omega
        have := (List.nodup_iff_pairwise_ne.1 hd)
        rw [List.pairwise_iff_getElem] at this
        exact this k i (by rw [List.length_map]; omega) (by rw [List.length_map]; omega) hk' (by simpa using hc)
    rw [decide_eq_false hn]
    simp [knB, pwB, hp]
  rw [h1]
  simp [pwB, hb, hm, hc, hs]
structure AgInv (ps : List S51) (B : Int) (l : List S28) (j : Nat) (s : AG) : Prop where
  nd : (s.out.map S51.f0).Nodup
  rg : ∀ p ∈ s.out, (0 ≤ p.f0 ∧ p.f0 < 64) ∧ 0 ≤ p.f1 ∧ p.f1 ≤ 1048576
  sm : sumP s.out ≤ B
  ln : s.out.length + s.stops.length ≤ j
  both : ∀ c, (c ∈ s.out.map S51.f0 ∨ c ∈ s.stops) ↔ ((0 ≤ c ∧ c < 64) ∧ c ∈ (l.take j).map S28.f0)
  not2 : ∀ c, ¬ (c ∈ s.out.map S51.f0 ∧ c ∈ s.stops)
  pk : ∀ p ∈ s.out, ∃ i m, l[i]? = some m ∧ m.f0 = p.f0 ∧ m.f0 ∉ (l.take i).map S28.f0 ∧ p.f1 = pkF ps m
theorem ag_inv (ps : List S51) {B : Int} (hB : 0 ≤ B) (l : List S28) : ∀ j, j ≤ l.length → AgInv ps B l j (agN ps B l j)
  | 0, _ => ⟨List.nodup_nil, (fun p hp => by cases hp), hB, Nat.le_refl _, (fun c => by simp [agN]), (fun c h => by cases h.2), (fun p hp => by cases hp)⟩
  | j + 1, hj => by
    have ih := ag_inv ps hB l j (by omega)
    have hp : l[j]? = some l[j] := List.getElem?_eq_getElem (by omega)
    rw [agN_succ, hp]
    show AgInv ps B l (j + 1) (agOne ps B ((l.take j).map S28.f0) (agN ps B l j) l[j])
    have ht := take_snoc hp
    generalize agN ps B l j = s at ih
    generalize l[j] = m at hp ht
    have hmem : ∀ c, c ∈ (l.take (j + 1)).map S28.f0 ↔ c ∈ (l.take j).map S28.f0 ∨ c = m.f0 := fun c => by rw [ht, List.mem_append, List.mem_singleton]
    unfold agOne
    split
    · rename_i h
      refine ⟨ih.nd, ih.rg, ih.sm, by have := ih.ln; omega, fun c => ?_, ih.not2, ih.pk⟩
      rw [ih.both c, hmem c]
      constructor
      · exact fun hx => ⟨hx.1, .inl hx.2⟩
      · rintro ⟨h1, h2 | rfl⟩
        · exact ⟨h1, h2⟩
        · rcases h with h | h | h
          · exact ⟨h1, h⟩
          · omega
          · omega
    · rename_i h
      have hns : m.f0 ∉ (l.take j).map S28.f0 := fun hx => h (.inl hx)
      have hr0 : 0 ≤ m.f0 ∧ m.f0 < 64 := ⟨by have h2 : ¬ m.f0 < 0 := fun h2 => h (.inr (.inl h2)); omega, by have h2 : ¬ 64 ≤ m.f0 := fun h2 => h (.inr (.inr h2)); omega⟩
      have hno : ¬ (m.f0 ∈ s.out.map S51.f0 ∨ m.f0 ∈ s.stops) := fun hx => hns ((ih.both _).1 hx).2
      have hpk := pkF_range ps m
      split
      · rename_i hbud
        refine ⟨ih.nd, ih.rg, ih.sm, by simp only [List.length_append, List.length_cons, List.length_nil]; have := ih.ln; omega, fun c => ?_, fun c hx => ?_, ih.pk⟩
        · simp only [List.mem_append, List.mem_singleton]
          rw [hmem c]
          constructor
          · rintro (hx | hx | rfl)
            · have := (ih.both c).1 (.inl hx); exact ⟨this.1, .inl this.2⟩
            · have := (ih.both c).1 (.inr hx); exact ⟨this.1, .inl this.2⟩
            · exact ⟨hr0, .inr rfl⟩
          · rintro ⟨h1, h2 | rfl⟩
            · rcases (ih.both c).2 ⟨h1, h2⟩ with hx | hx
              · exact .inl hx
              · exact .inr (.inl hx)
            · exact .inr (.inr rfl)
        · simp only [List.mem_append, List.mem_singleton] at hx
          rcases hx.2 with hy | rfl
          · exact ih.not2 c ⟨hx.1, hy⟩
          · exact hno (.inl hx.1)
      · rename_i hbud
        refine ⟨?_, fun p hq => ?_, ?_, ?_, fun c => ?_, fun c hx => ?_, fun p hq => ?_⟩
        · show ((s.out ++ [(⟨m.f0, pkF ps m⟩ : S51)]).map S51.f0).Nodup
          rw [List.map_append, List.nodup_append]
          refine ⟨ih.nd, by simp, fun a ha b hb => ?_⟩
          have hb : b = m.f0 := by simpa using hb
          subst hb
          exact fun e => hno (.inl (e ▸ ha))
        · rcases List.mem_append.1 hq with hq | hq
          · exact ih.rg p hq
          · obtain rfl := List.mem_singleton.1 hq
            exact ⟨hr0, hpk⟩
        · show sumP (s.out ++ [(⟨m.f0, pkF ps m⟩ : S51)]) ≤ B
          rw [sumP_append]
          simp only [sumP]
          omega
        · show (s.out ++ [(⟨m.f0, pkF ps m⟩ : S51)]).length + s.stops.length ≤ j + 1
          simp only [List.length_append, List.length_cons, List.length_nil]
          have := ih.ln
          omega
        · show (c ∈ (s.out ++ [(⟨m.f0, pkF ps m⟩ : S51)]).map S51.f0 ∨ c ∈ s.stops) ↔ _
          rw [List.map_append, List.mem_append, hmem c]
          simp only [List.map_cons, List.map_nil, List.mem_singleton]
          constructor
          · rintro ((hx | rfl) | hx)
            · have := (ih.both c).1 (.inl hx); exact ⟨this.1, .inl this.2⟩
            · exact ⟨hr0, .inr rfl⟩
            · have := (ih.both c).1 (.inr hx); exact ⟨this.1, .inl this.2⟩
          · rintro ⟨h1, h2 | rfl⟩
            · rcases (ih.both c).2 ⟨h1, h2⟩ with hx | hx
              · exact .inl (.inl hx)
              · exact .inr hx
            · exact .inl (.inr rfl)
        · have hx : c ∈ (s.out ++ [(⟨m.f0, pkF ps m⟩ : S51)]).map S51.f0 ∧ c ∈ s.stops := hx
          rw [List.map_append, List.mem_append] at hx
          simp only [List.map_cons, List.map_nil, List.mem_singleton] at hx
          rcases hx.1 with hy | rfl
          · exact ih.not2 c ⟨hy, hx.2⟩
          · exact hno (.inr hx.2)
        · rcases List.mem_append.1 hq with hq | hq
          · exact ih.pk p hq
          · obtain rfl := List.mem_singleton.1 hq
            exact ⟨j, m, hp, rfl, hns, rfl⟩
theorem hasP_is (l : List S51) (c : Int) : (hasP l c).2.2 = decide (c ∈ l.map S51.f0) := by
  unfold hasP
  cases h : l.find? (fun p => p.f0 == c) with
  | none =>
    have : ¬ c ∈ l.map S51.f0 := fun hx => by
      obtain ⟨p, hp, rfl⟩ := List.mem_map.1 hx
      exact absurd (beq_self_eq_true p.f0) (List.find?_eq_none.1 h p hp)
    simp [this]
  | some p =>
    have h1 := List.mem_of_find?_eq_some h
    have h2 : p.f0 = c := by simpa using List.find?_some h
    have : c ∈ l.map S51.f0 := List.mem_map.2 ⟨p, h1, h2⟩
    simp only [this, decide_true]
theorem hasP_of {l : List S51} {c : Int} (hc : c ∈ l.map S51.f0) : ∃ p ∈ l, p.f0 = c ∧ (hasP l c).2.1 = p.f1 := by
  unfold hasP
  cases h : l.find? (fun p => p.f0 == c) with
  | none =>
    obtain ⟨p, hp, rfl⟩ := List.mem_map.1 hc
    exact absurd (beq_self_eq_true p.f0) (List.find?_eq_none.1 h p hp)
  | some p => exact ⟨p, List.mem_of_find?_eq_some h, by simpa using List.find?_some h, rfl⟩
theorem pkF_least (ps : List S51) (m : S28) : (if 1048576 < m.f1 then 1048576 else m.f1) ≤ pkF ps m := by
  unfold pkF mn mx
  (repeat' split) <;> omega
theorem ag_safe (ps : List S51) {B : Int} (hB : 0 ≤ B) (l : List S28) {i : Nat} {m : S28} (hi : l[i]? = some m) (hr : 0 ≤ m.f0 ∧ m.f0 ≤ 63) (hf : m.f0 ∉ (l.take i).map S28.f0) :
    (hasP (agN ps B l l.length).out m.f0).2.2 = !decide (m.f0 ∈ (agN ps B l l.length).stops) ∧ ((hasP (agN ps B l l.length).out m.f0).2.2 = true → (if 1048576 < m.f1 then 1048576 else m.f1) ≤ (hasP (agN ps B l l.length).out m.f0).2.1) := by
  have h := ag_inv ps hB l l.length (Nat.le_refl _)
  generalize agN ps B l l.length = s at h
  have hin := (h.both m.f0).2 ⟨by omega, by rw [List.take_length]; exact List.mem_map.2 ⟨m, List.mem_of_getElem? hi, rfl⟩⟩
  rw [hasP_is]
  refine ⟨?_, fun hx => ?_⟩
  · by_cases h1 : m.f0 ∈ s.out.map S51.f0
    · have : ¬ m.f0 ∈ s.stops := fun h2 => h.not2 _ ⟨h1, h2⟩
      simp only [h1, this, decide_true, decide_false, Bool.not_false]
    · have : m.f0 ∈ s.stops := hin.resolve_left h1
      simp only [h1, this, decide_true, decide_false, Bool.not_true]
  · obtain ⟨p, hp, h1, h2⟩ := hasP_of (of_decide_eq_true hx)
    obtain ⟨i', m', h3, h4, h5, h6⟩ := h.pk p hp
    have hm : m' = m := by
      rcases Nat.lt_trichotomy i' i with hlt | rfl | hlt
      · exfalso
        refine hf (List.mem_map.2 ⟨m', ?_, h4.trans h1⟩)
        rw [List.mem_take_iff_getElem]
        obtain ⟨hl, he⟩ := List.getElem?_eq_some_iff.1 h3
        exact ⟨i', by omega, he⟩
      · rw [hi] at h3; exact (Option.some.inj h3).symm
      · exfalso
        refine h5 (List.mem_map.2 ⟨m, ?_, (h4.trans h1).symm⟩)
        rw [List.mem_take_iff_getElem]
        obtain ⟨hl, he⟩ := List.getElem?_eq_some_iff.1 hi
        exact ⟨i, by obtain ⟨hl', _⟩ := List.getElem?_eq_some_iff.1 h3; omega, he⟩
    subst hm
    rw [h2, h6]
    exact pkF_least ps _
theorem jgot_mar (is : Bool) (rows : List (List Int)) (e : Int) : 0 ≤ (jgot is rows e).mar ∧ (jgot is rows e).mar ≤ 1048576 := by
  unfold jgot
  split
  · exact ⟨of_decide_eq_true rfl, of_decide_eq_true rfl⟩
  · split
    · exact ⟨of_decide_eq_true rfl, of_decide_eq_true rfl⟩
    · split
      · rename_i h
        unfold gOK at h
        simp only [Bool.and_eq_true, chkB] at h
        exact pwB_is h.2.2.2.1
      · exact ⟨of_decide_eq_true rfl, of_decide_eq_true rfl⟩
theorem jget_mar (l : List Int) : 0 ≤ (jget l).mar ∧ (jget l).mar ≤ 1048576 := jgot_mar _ _ _
theorem jone_mar {i : Int} {l : List Int} {o : JL} (ho : 0 ≤ o.mar ∧ o.mar ≤ 1048576) : 0 ≤ (jone i l o).mar ∧ (jone i l o).mar ≤ 1048576 := by
  unfold jone
  split
  · exact jget_mar l
  · exact ho
theorem jload_mar (a b : List Int) : 0 ≤ (jload a b).mar ∧ (jload a b).mar ≤ 1048576 := jone_mar (jone_mar ⟨of_decide_eq_true rfl, of_decide_eq_true rfl⟩)
end Go.Proofs.YtbcijmpkmmcdeaaDoor.SF
end
