/- Texts of mine, put together (no statement stands here). -/
import Derived.Test.YtbcijmpkmmcdeaaDoorCMTells14
import Derived.Test.YtbcijmpkmmcdeaaDoorCMTells9
import Derived.Test.YtbcijmpkmmcdeaaDoorCMTells13
import Derived.Test.YtbcijmpkmmcdeaaDoorCMTells12
section
namespace Go.Proofs.YtbcijmpkmmcdeaaDoor.SF
open Go.RowKit Go.Sx Go.Proofs.YtbcijmpkmmcdeaaDoor.PAll Go.Proofs.YtbcijmpkmmcdeaaDoorW.PrintWords Go.Proofs.YtbcijmpkmmcdeaaDoorW.PrintLast Go.Proofs.YtbcijmpkmmcdeaaDoorW.PrintMore
set_option linter.unusedVariables false
set_option linter.unusedSimpArgs false
set_option maxRecDepth 100000
def to91 (p : S51) : S91 := ⟨p.f0, p.f1⟩
def pc91 (p : S91) : List Value := [.int .i64 p.f0, .int .i64 p.f1]
def RowR (w : World) (q : Gh) (l : List S91) : Prop := l.length ≤ q.2 ∧ Kd.C k91 w q.1 l.length l
theorem RowR.below {w w' : World} {q : Gh} {l : List S91} (h : RowR w q l) (hb : Below w.heap.size w w') : RowR w' q l := ⟨h.1, Kd.C_below h.2 hb⟩
theorem flat_at91 : ∀ {l : List S91} {j i : Nat} {p : S91} {u : Value}, l[j]? = some p → (pc91 p)[i]? = some u → (l.flatMap pc91)[j * 2 + i]? = some u
  | [], j, i, p, u, h, _ => by simp at h
  | q :: l, 0, i, p, u, h, hu => by
    cases h
    have hi : i < 2 := (List.getElem?_eq_some_iff.1 hu).1
    rw [List.flatMap_cons, List.getElem?_append_left (by show 0 * 2 + i < 2; omega), Nat.zero_mul, Nat.zero_add]
    exact hu
  | q :: l, j + 1, i, p, u, h, hu => by
    rw [List.flatMap_cons, show (j + 1) * 2 + i = 2 + (j * 2 + i) by omega, List.getElem?_append_right (by show 2 ≤ 2 + (j * 2 + i); omega)]
    show (l.flatMap pc91)[2 + (j * 2 + i) - 2]? = some u
    rw [Nat.add_sub_cancel_left]
    exact flat_at91 (by simpa using h) hu
theorem C91_of_own {w : World} {base c : Nat} {A : Option Addr} {l : List S91} (h : w.ownsRow base 91 2 (.slice A l.length c) l.length (l.flatMap pc91)) (hn : l.length ≤ 9223372036854775807) : Kd.C k91 w A l.length l := by
  obtain ⟨ad, hA, hc⟩ := own_cell h (by decide)
  exact ⟨rfl, hn, fun h0 => ⟨ad, hA h0, fun j p hp => ⟨pc91 p, rfl, k91_mk w p, fun i u hu => hc _ u (flat_at91 hp hu)⟩⟩⟩
theorem take91 {l : List S51} {j : Nat} {p : S51} (h : l[j]? = some p) : ((l.take (j + 1)).map to91).flatMap pc91 = ((l.take j).map to91).flatMap pc91 ++ [.int .i64 p.f0, .int .i64 p.f1] := by
  rw [List.take_add_one, h]
  simp [pc91, to91]
theorem RowR.at {w : World} {q : Gh} {l : List S91} {j : Nat} {p : S91} (h : RowR w q l) (hp : l[j]? = some p) : ∃ ad, q.1 = some ad ∧ CellsAt w (ad.add (j * 2)) [.int .i64 p.f0, .int .i64 p.f1] := by
  obtain ⟨ad, cs, e, hK, hc⟩ := C_at h.2 hp rfl
  obtain rfl := k91_open hK
  exact ⟨ad, e, hc⟩
theorem eqA91 (d : Nat) (w : World) (x0 y0 x1 y1 : Int) : (Op.equalIn (d + 2) 91 (.agg #[.int .i64 x0, .int .i64 x1]) (.agg #[.int .i64 y0, .int .i64 y1])).run Tryd.prog w = .ok (x0 == y0 && (x1 == y1)) w := by
  refine eqA_of Tryd.underlying91 (by kernel_rfl) ?_
  refine eqf_cons (by rfl) (by go_simp; rfl) (by go_simp; rfl) (by go_simp) ?_
  exact eqf_last (by rfl) (by go_simp; rfl) (by go_simp; rfl) (by go_simp)
theorem eq91 (w : World) (x0 y0 x1 y1 : Int) : (Op.equal 91 (.agg #[.int .i64 x0, .int .i64 x1]) (.agg #[.int .i64 y0, .int .i64 y1])).run Tryd.prog w = .ok (x0 == y0 && (x1 == y1)) w := by
  have h := eqA91 (Op.maxDepth - 2) w x0 y0 x1 y1
  rw [show Op.maxDepth - 2 + 2 = Op.maxDepth from rfl] at h
  simpa [Op.equal] using h
theorem own91 {w : World} {base : Nat} {i : Gh} {l : List S51} (h : w.ownsRow base 91 2 (.slice i.1 l.length i.2) l.length ((l.map to91).flatMap pc91)) (hl : l.length ≤ 100000) : RowR w i (l.map to91) := by
  have e : (l.map to91).length = l.length := List.length_map ..
  rw [← e] at h
  exact ⟨own_cap h, C91_of_own h (by omega)⟩
theorem of17_calls (bu ma cr : Int) (q : Gh) (l : List S51) (w : World) (hr : RowP w q l) (hl : l.length ≤ 100000) : Calls Tryd.prog 19 #[.agg #[.int .i64 bu, .int .i64 ma, .int .i64 cr, .slice q.1 l.length q.2]] w fun e w' => ∃ i : Gh, e = .returned (.agg #[.int .i64 bu, .int .i64 ma, .int .i64 cr, .slice i.1 l.length i.2]) ∧ HeapOK w [.own 0 91 2 (.slice i.1 l.length i.2) l.length ((l.map to91).flatMap pc91), old w] w' := by
  refine enter (w0 := w) (hp := [old w]) (env := [(0, .agg #[.int .i64 bu, .int .i64 ma, .int .i64 cr, .slice q.1 l.length q.2])]) Tryd.func19 rfl 38 rfl (by simp) rfl (HeapOK.start _) ?_
  refine wc_seq ?_
  refine wc_region ?_
  refine wl_box rfl rfl rfl (by decide) rfl rfl (fun b1 => ?_)
  refine wl_alloc rfl rfl rfl (by decide) Zr42 (fun b2 => ?_)
  refine wl_nil ?_
  refine fq_then ?_
  refine wc_seq ?_
  refine wc_region ?_
  refine wl_q (q_fa (o1 := 0) rfl rfl Fo32_0 rfl) rfl rfl (by decide) ?_
  refine wl_q (q_load rfl rfl Mn3 (reads1 (i := 1) rfl rfl)) rfl rfl (by decide) ?_
  refine wl_q (q_fa (o1 := 1) rfl rfl Fo32_1 rfl) rfl rfl (by decide) ?_
  refine wl_q (q_load rfl rfl Mn3 (reads1 (i := 1) rfl rfl)) rfl rfl (by decide) ?_
  refine wl_q (q_fa (o1 := 2) rfl rfl Fo32_2 rfl) rfl rfl (by decide) ?_
  refine wl_q (q_load rfl rfl Mn3 (reads1 (i := 1) rfl rfl)) rfl rfl (by decide) ?_
  refine wl_q (q_build rfl rfl (built_of Zr42 Pl42 (by simp only [fillL, List.map_cons, List.map_nil, Value.cells, List.getElem?_cons_zero, List.getElem?_cons_succ, List.length_cons, List.length_nil, Nat.reduceAdd, Nat.reduceLeDiff, Nat.le_refl, and_self, and_true, true_and, if_true, Nat.zero_add, spl, List.take_succ_cons, List.take_zero, List.take_nil, List.drop_succ_cons, List.drop_zero, List.drop_nil, List.nil_append, List.cons_append, List.append_nil] <;> rfl))) rfl rfl (by decide) ?_
  refine wl_alloc rfl rfl rfl (by decide) Zr42 (fun b3 => ?_)
  refine wl_store (i := 0) rfl rfl rfl rfl rfl rfl Sz42 rfl rfl (by simp) (by simp [Value.oneCell']) (by first | (simp only [List.take_succ_cons, List.take_zero, List.take_nil, List.drop_succ_cons, List.drop_zero, List.drop_nil, List.nil_append, List.cons_append, List.append_nil, List.length_cons, List.length_nil, Nat.reduceAdd, Nat.zero_add]; rfl) | rfl) (by first | (simp only [List.set_cons_zero, List.set_cons_succ]; rfl) | rfl) ?_
  refine wl_nil ?_
  refine fq_then ?_
  refine wc_seq ?_
  refine wc_seq ?_
  refine wc_region ?_
  refine wl_q (q_assign rfl rfl) rfl rfl (by decide) ?_
  refine wl_nil ?_
  refine fq_then ?_
  refine wc_block ?_
  refine wc_own (E := 91) (sz := 2) ?_
  refine wc_loop (ι := (Nat × Gh)) (fun i => [(1, .pointer (some ⟨b1, 0, none⟩)), (2, .pointer (some ⟨b2, 0, none⟩)), (3, .pointer (some ⟨b3, 0, none⟩)), (4, .int .i64 (i.1 : Nat))]) (fun i => [.own 0 91 2 (.slice i.2.1 i.1 i.2.2) i.1 (((l.take i.1).map to91).flatMap pc91), .blk b3 [.int .i64 bu, .int .i64 ma, .int .i64 cr, .slice i.2.1 i.1 i.2.2] 42, .blk b2 [.int .i64 0, .int .i64 0, .int .i64 0, .slice none 0 0] 42, .blk b1 [.int .i64 bu, .int .i64 ma, .int .i64 cr, .slice q.1 l.length q.2] 32, old w]) (fun i => i.1 ≤ l.length) (fun i => l.length - i.1) (0, (none, 0)) (Nat.zero_le _) ⟨List.forall_mem_cons.2 ⟨rfl, List.forall_mem_cons.2 ⟨rfl, List.forall_mem_cons.2 ⟨rfl, List.forall_mem_cons.2 ⟨rfl, fun _ h => (by cases h)⟩⟩⟩⟩, List.Sublist.refl _⟩ ?_
  rintro ⟨j, qw⟩ hj
  simp only at hj
  dsimp only
  refine wc_seq ?_
  refine wc_seq ?_
  refine wc_region ?_
  refine wl_q (q_move rfl rfl) rfl rfl (by decide) ?_
  refine wl_q (q_fa (o1 := 3) rfl rfl Fo32_3 rfl) rfl rfl (by decide) ?_
  refine wl_q (q_load rfl rfl Mn30 (reads1 (i := 3) rfl rfl)) rfl rfl (by decide) ?_
  refine wl_q (q_len rfl rfl Tryd.underlying30) rfl rfl (by decide) ?_
  refine wl_q (q_bin rfl rfl rfl rfl) rfl rfl (by decide) ?_
  refine wl_nil ?_
  refine fq_then ?_
  refine wc_cond rfl (fun h16 => ?_) (fun h16 => ?_)
  · skip
    have q16 := h16
    try simp only [decide_eq_true_eq, decide_eq_false_iff_not, beq_iff_eq, beq_eq_false_iff_ne, bne_iff_ne, ne_eq, bne_eq_false_iff_eq, Int.not_lt, Int.not_le] at q16
    obtain ⟨p, hp⟩ : ∃ p, l[j]? = some p := ⟨_, List.getElem?_eq_getElem (by omega)⟩
    obtain ⟨ad, hA, hrd⟩ := hr.at hp
    have wj : IntKind.i64.wrap ((j : Int) + 1) = ((j + 1 : Nat) : Int) := wrap_nat (by omega)
    refine wc_skip ?_
    refine fq_then ?_
    refine wc_seq ?_
    refine wc_block ?_
    refine wc_any Fol (any_drawG (ι := Gh) 19 2 [(15, fun X => [Sx.Item.blk (X 15).2 [Value.int .i64 p.f0, .int .i64 p.f1] 91]), (16, fun X => [Sx.Item.own 0 91 2 (.slice (X 16).1 (j + 1) (X 16).2) (j + 1) (((l.take j).map to91).flatMap pc91 ++ [Value.int .i64 p.f0, .int .i64 p.f1])]), (18, fun X => [Sx.Item.blk b3 [.int .i64 bu, .int .i64 ma, .int .i64 cr, .slice (X 16).1 (j + 1) (X 16).2] 42])] [⟨[], [], []⟩, ⟨[], [19, 20], []⟩, ⟨[], [], []⟩, ⟨[], [19, 20], []⟩, ⟨[], [], []⟩, ⟨[], [], []⟩, ⟨[], [], []⟩, ⟨[], [19, 20], []⟩, ⟨[], [], []⟩, ⟨[], [19, 20], []⟩, ⟨[], [], []⟩, ⟨[], [], []⟩, ⟨[], [], []⟩, ⟨[], [19, 20], []⟩, ⟨[], [], []⟩, ⟨[], [], []⟩, ⟨[15, 19], [], [15]⟩, ⟨[], [], [15, 16]⟩, ⟨[20], [], [15, 16]⟩] (by kernel_rfl) (ChainG.yield [] [] (fun X => q_fa (o1 := 3) rfl rfl Fo42_3 rfl) rfl rfl (fun _ => rfl) (fun _ _ => rfl) (fun X Y h0 h => ⟨by first | rfl | simp only [h0], by first | rfl | simp only [h0]⟩) (ChainG.yield [19, 20] [] (fun X => q_load rfl rfl Mn40 (reads1 (i := 1) rfl rfl)) rfl rfl (fun _ => rfl) (fun _ _ => rfl) (fun X Y h0 h => ⟨by first | rfl | simp only [h0], by first | rfl | simp only [h0]⟩) (ChainG.yield [] [] (fun X => q_fa (o1 := 3) rfl rfl Fo32_3 rfl) rfl rfl (fun _ => rfl) (fun _ _ => rfl) (fun X Y h0 h => ⟨by first | rfl | simp only [h0], by first | rfl | simp only [h0]⟩) (ChainG.yield [19, 20] [] (fun X => q_load rfl rfl Mn30 (reads1 (i := 3) rfl rfl)) rfl rfl (fun _ => rfl) (fun _ _ => rfl) (fun X Y h0 h => ⟨by first | rfl | simp only [h0], by first | rfl | simp only [h0]⟩) (ChainG.yield [] [] (fun X => q_move rfl rfl) rfl rfl (fun _ => rfl) (fun _ _ => rfl) (fun X Y h0 h => ⟨by first | rfl | simp only [h0], by first | rfl | simp only [h0]⟩) (ChainG.yield [] [] (fun X => q_indexO rfl rfl hA rfl Tryd.underlying30 Sz51 (by omega) (by omega)) rfl rfl (fun _ => rfl) (fun _ _ => rfl) (fun X Y h0 h => ⟨by first | rfl | simp only [h0], by first | rfl | simp only [h0]⟩) (ChainG.yield [] [] (fun X => q_fax rfl rfl Fo51_0 rfl) rfl rfl (fun _ => rfl) (fun _ _ => rfl) (fun X Y h0 h => ⟨by first | rfl | simp only [h0], by first | rfl | simp only [h0]⟩) (ChainG.yield [19, 20] [] (fun X => q_load rfl rfl Mn3 (reads_old (by simp) (cell_zero (hrd.one (j := 0) rfl)))) rfl rfl (fun _ => rfl) (fun _ _ => rfl) (fun X Y h0 h => ⟨by first | rfl | simp only [h0], by first | rfl | simp only [h0]⟩) (ChainG.yield [] [] (fun X => q_fa (o1 := 3) rfl rfl Fo32_3 rfl) rfl rfl (fun _ => rfl) (fun _ _ => rfl) (fun X Y h0 h => ⟨by first | rfl | simp only [h0], by first | rfl | simp only [h0]⟩) (ChainG.yield [19, 20] [] (fun X => q_load rfl rfl Mn30 (reads1 (i := 3) rfl rfl)) rfl rfl (fun _ => rfl) (fun _ _ => rfl) (fun X Y h0 h => ⟨by first | rfl | simp only [h0], by first | rfl | simp only [h0]⟩) (ChainG.yield [] [] (fun X => q_move rfl rfl) rfl rfl (fun _ => rfl) (fun _ _ => rfl) (fun X Y h0 h => ⟨by first | rfl | simp only [h0], by first | rfl | simp only [h0]⟩) (ChainG.yield [] [] (fun X => q_indexO rfl rfl hA rfl Tryd.underlying30 Sz51 (by omega) (by omega)) rfl rfl (fun _ => rfl) (fun _ _ => rfl) (fun X Y h0 h => ⟨by first | rfl | simp only [h0], by first | rfl | simp only [h0]⟩) (ChainG.yield [] [] (fun X => q_fax rfl rfl Fo51_1 rfl) rfl rfl (fun _ => rfl) (fun _ _ => rfl) (fun X Y h0 h => ⟨by first | rfl | simp only [h0], by first | rfl | simp only [h0]⟩) (ChainG.yield [19, 20] [] (fun X => q_load rfl rfl Mn3 (reads_old (by simp) (cell_zero (hrd.one (j := 1) rfl)))) rfl rfl (fun _ => rfl) (fun _ _ => rfl) (fun X Y h0 h => ⟨by first | rfl | simp only [h0], by first | rfl | simp only [h0]⟩) (ChainG.yield [] [] (fun X => q_build rfl rfl (built_of Zr91 Pl91 (by simp only [fillL, List.map_cons, List.map_nil, Value.cells, List.getElem?_cons_zero, List.getElem?_cons_succ, List.length_cons, List.length_nil, Nat.reduceAdd, Nat.reduceLeDiff, Nat.le_refl, and_self, and_true, true_and, if_true, Nat.zero_add, spl, List.take_succ_cons, List.take_zero, List.take_nil, List.drop_succ_cons, List.drop_zero, List.drop_nil, List.nil_append, List.cons_append, List.append_nil] <;> rfl))) rfl rfl (fun _ => rfl) (fun _ _ => rfl) (fun X Y h0 h => ⟨by first | rfl | simp only [h0], by first | rfl | simp only [h0]⟩) (ChainG.mk (fun b => .slice (some ⟨b, 0, none⟩) 1 1) [] (fun X => om_buildSlice rfl rfl Tryd.underlying40 (built_one Sz91 (by decide) Zs91 (by decide) rfl rfl)) rfl rfl (fun _ => rfl) (fun _ _ => rfl) (fun X Y h0 h => ⟨by first | rfl | simp only [h0], by first | rfl | (show ([Sx.Item.blk (X 15).2 [Value.int .i64 p.f0, .int .i64 p.f1] 91] : List Sx.Item) = [Sx.Item.blk (Y 15).2 [Value.int .i64 p.f0, .int .i64 p.f1] 91]; simp only [h0])⟩) (ChainG.ope (fun (X : Nat → Gh) => .slice (X 16).1 (j + 1) (X 16).2) [15, 19] [15] (fun X => (oe_appendR (i := 1) (m := 1) (news := [Value.int .i64 p.f0, .int .i64 p.f1]) rfl Tryd.underlying40 Ap91 (by decide) rfl rfl rfl (fun R w1 hw1 _ => ⟨_, rfl, fun k u hu => by (have hg := readsAll (w0 := w) (hp := _) (i := 0) (cs := [Value.int .i64 p.f0, .int .i64 p.f1]) (T := 91) rfl w1 hw1 k u hu; exact hg)⟩) rfl (by simp [Value.oneCell']) (by unfold maxLen; omega) (by omega)).less (fun _ => List.sublist_cons_self _ _)) rfl rfl (fun X Y h0 h => ⟨by first | rfl | (show (.slice (X 16).1 (j + 1) (X 16).2 : Value) = .slice (Y 16).1 (j + 1) (Y 16).2; simp only [h0, h 15 (by decide)]), by first | rfl | (show ([Sx.Item.own 0 91 2 (.slice (X 16).1 (j + 1) (X 16).2) (j + 1) (((l.take j).map to91).flatMap pc91 ++ [Value.int .i64 p.f0, .int .i64 p.f1])] : List Sx.Item) = [Sx.Item.own 0 91 2 (.slice (Y 16).1 (j + 1) (Y 16).2) (j + 1) (((l.take j).map to91).flatMap pc91 ++ [Value.int .i64 p.f0, .int .i64 p.f1])]; simp only [h0, h 15 (by decide)])⟩) (ChainG.yield [] [15, 16] (fun X => q_fa (o1 := 3) rfl rfl Fo42_3 rfl) rfl rfl (fun _ => rfl) (fun _ _ => rfl) (fun X Y h0 h => ⟨by first | rfl | simp only [h0, h 15 (by decide), h 16 (by decide)], by first | rfl | simp only [h0, h 15 (by decide), h 16 (by decide)]⟩) (ChainG.store [20] [15, 16] (fun X => oe_storeAt (i := 0) rfl rfl rfl rfl Sz40 rfl rfl (by simp) (by simp [Value.oneCell']) rfl rfl) rfl rfl (fun _ => rfl) (fun _ _ => rfl) (fun X Y h0 h => ⟨by first | rfl | simp only [h0, h 15 (by decide), h 16 (by decide)], by first | rfl | (show ([Sx.Item.blk b3 [.int .i64 bu, .int .i64 ma, .int .i64 cr, .slice (X 16).1 (j + 1) (X 16).2] 42] : List Sx.Item) = [Sx.Item.blk b3 [.int .i64 bu, .int .i64 ma, .int .i64 cr, .slice (Y 16).1 (j + 1) (Y 16).2] 42]; simp only [h0, h 15 (by decide), h 16 (by decide)])⟩) (ChainG.nil _ _)))))))))))))))))))) rfl rfl (fun X => [_, _, _, _, _]) (fun _ => rfl) (fun X => ?_))
    generalize X 16 = qa
    try dsimp only [List.take_succ_cons, List.take_zero, List.take_nil, List.drop_succ_cons, List.drop_zero, List.drop_nil, List.nil_append, List.cons_append, List.append_nil, List.length_cons, List.length_nil, Nat.reduceAdd, Nat.zero_add]
    refine wl_nil ?_
    refine fq_block ?_
    refine fq_then ?_
    refine wc_region ?_
    refine wl_q (q_move rfl rfl) rfl rfl (by decide) ?_
    refine wl_q (q_bin rfl rfl rfl rfl) rfl rfl (by decide) ?_
    refine wl_q (q_assign rfl rfl) rfl rfl (by decide) ?_
    refine wl_nil ?_
    rw [← take91 hp]
    refine fq_next (j + 1, qa) (show j + 1 ≤ l.length by omega) (show l.length - (j + 1) < l.length - j by omega) ⟨List.forall_mem_cons.2 ⟨rfl, List.forall_mem_cons.2 ⟨rfl, List.forall_mem_cons.2 ⟨rfl, List.forall_mem_cons.2 ⟨(show some (Value.int .i64 (IntKind.i64.wrap ((j : Int) + 1))) = some (Value.int .i64 ((j + 1 : Nat) : Int)) from by rw [wj]), fun _ h => (by cases h)⟩⟩⟩⟩, List.Sublist.refl _⟩
  · skip
    have q16 := h16
    try simp only [decide_eq_true_eq, decide_eq_false_iff_not, beq_iff_eq, beq_eq_false_iff_ne, bne_iff_ne, ne_eq, bne_eq_false_iff_eq, Int.not_lt, Int.not_le] at q16
    obtain rfl : j = l.length := by omega
    rw [List.take_of_length_le (Nat.le_refl _)]
    refine wc_exit ?_
    refine fq_then_exit ?_
    refine fq_then_exit ?_
    refine fq_block_hit ?_
    refine fq_then ?_
    refine wc_seq ?_
    refine wc_region ?_
    refine wl_q (q_loadA rfl rfl Mn42 Sz42 rfl (readsAll (i := 1) rfl)) rfl rfl (by decide) ?_
    refine wl_store (i := 2) rfl rfl rfl rfl rfl rfl Sz42 rfl rfl (by simp) (by simp [Value.oneCell']) (by first | (simp only [List.take_succ_cons, List.take_zero, List.take_nil, List.drop_succ_cons, List.drop_zero, List.drop_nil, List.nil_append, List.cons_append, List.append_nil, List.length_cons, List.length_nil, Nat.reduceAdd, Nat.zero_add]; rfl) | rfl) (by first | (simp only [List.set_cons_zero, List.set_cons_succ]; rfl) | rfl) ?_
    refine wl_nil ?_
    refine fq_then ?_
    refine wc_ret ?_
    refine fq_cell (i := 2) (.inl rfl) rfl rfl rfl Mn42 Sz42 rfl (fun w1 H => ?_)
    exact ⟨qw, rfl, H.pick [0, 4] (by decide) rfl⟩
theorem same_calls (bu ma cr : Int) (qa qb : Gh) (l : List S91) (w : World) (ha : RowR w qa l) (hb : RowR w qb l) (hl : l.length ≤ 100000) : Calls Tryd.prog 18 #[.agg #[.int .i64 bu, .int .i64 ma, .int .i64 cr, .slice qa.1 l.length qa.2], .agg #[.int .i64 bu, .int .i64 ma, .int .i64 cr, .slice qb.1 l.length qb.2]] w fun e w' => e = .returned (.bool true) ∧ Below w.heap.size w w' := by
  refine enter (w0 := w) (hp := [old w]) (env := [(0, .agg #[.int .i64 bu, .int .i64 ma, .int .i64 cr, .slice qa.1 l.length qa.2]), (1, .agg #[.int .i64 bu, .int .i64 ma, .int .i64 cr, .slice qb.1 l.length qb.2])]) Tryd.func18 rfl 52 rfl (by simp) rfl (HeapOK.start _) ?_
  refine wc_seq ?_
  refine wc_region ?_
  refine wl_box rfl rfl rfl (by decide) rfl rfl (fun b1 => ?_)
  refine wl_box rfl rfl rfl (by decide) rfl rfl (fun b2 => ?_)
  refine wl_q (q_assign rfl rfl) rfl rfl (by decide) ?_
  refine wl_nil ?_
  refine fq_then ?_
  refine wc_seq ?_
  refine wc_seq ?_
  refine wc_region ?_
  refine wl_q (q_fa (o1 := 0) rfl rfl Fo42_0 rfl) rfl rfl (by decide) ?_
  refine wl_q (q_load rfl rfl Mn3 (reads1 (i := 1) rfl rfl)) rfl rfl (by decide) ?_
  refine wl_q (q_fa (o1 := 0) rfl rfl Fo42_0 rfl) rfl rfl (by decide) ?_
  refine wl_q (q_load rfl rfl Mn3 (reads1 (i := 0) rfl rfl)) rfl rfl (by decide) ?_
  refine wl_q (OpQ.to (q_bin rfl rfl rfl rfl) (congrArg Value.bool (show (bu != bu) = false by simp))) rfl rfl (by decide) ?_
  refine wl_q (q_move rfl rfl) rfl rfl (by decide) ?_
  refine wl_want (b := false) (q_fa (o1 := 1) rfl rfl Fo42_1 rfl) rfl rfl rfl rfl (by decide) ?_
  refine wl_want (b := false) (q_load rfl rfl Mn3 (reads1 (i := 1) rfl rfl)) rfl rfl rfl rfl (by decide) ?_
  refine wl_want (b := false) (q_fa (o1 := 1) rfl rfl Fo42_1 rfl) rfl rfl rfl rfl (by decide) ?_
  refine wl_want (b := false) (q_load rfl rfl Mn3 (reads1 (i := 0) rfl rfl)) rfl rfl rfl rfl (by decide) ?_
  refine wl_want (b := false) (OpQ.to (q_bin rfl rfl rfl rfl) (congrArg Value.bool (show (ma != ma) = false by simp))) rfl rfl rfl rfl (by decide) ?_
  refine wl_q (q_pick rfl rfl rfl) rfl rfl (by decide) ?_
  refine wl_q (q_move rfl rfl) rfl rfl (by decide) ?_
  refine wl_want (b := false) (q_fa (o1 := 2) rfl rfl Fo42_2 rfl) rfl rfl rfl rfl (by decide) ?_
  refine wl_want (b := false) (q_load rfl rfl Mn3 (reads1 (i := 1) rfl rfl)) rfl rfl rfl rfl (by decide) ?_
  refine wl_want (b := false) (q_fa (o1 := 2) rfl rfl Fo42_2 rfl) rfl rfl rfl rfl (by decide) ?_
  refine wl_want (b := false) (q_load rfl rfl Mn3 (reads1 (i := 0) rfl rfl)) rfl rfl rfl rfl (by decide) ?_
  refine wl_want (b := false) (OpQ.to (q_bin rfl rfl rfl rfl) (congrArg Value.bool (show (cr != cr) = false by simp))) rfl rfl rfl rfl (by decide) ?_
  refine wl_q (q_pick rfl rfl rfl) rfl rfl (by decide) ?_
  refine wl_q (q_move rfl rfl) rfl rfl (by decide) ?_
  refine wl_want (b := false) (q_fa (o1 := 3) rfl rfl Fo42_3 rfl) rfl rfl rfl rfl (by decide) ?_
  refine wl_want (b := false) (q_load rfl rfl Mn40 (reads1 (i := 1) rfl rfl)) rfl rfl rfl rfl (by decide) ?_
  refine wl_want (b := false) (q_len rfl rfl Tryd.underlying40) rfl rfl rfl rfl (by decide) ?_
  refine wl_want (b := false) (q_fa (o1 := 3) rfl rfl Fo42_3 rfl) rfl rfl rfl rfl (by decide) ?_
  refine wl_want (b := false) (q_load rfl rfl Mn40 (reads1 (i := 0) rfl rfl)) rfl rfl rfl rfl (by decide) ?_
  refine wl_want (b := false) (q_len rfl rfl Tryd.underlying40) rfl rfl rfl rfl (by decide) ?_
  refine wl_want (b := false) (OpQ.to (q_bin rfl rfl rfl rfl) (congrArg Value.bool (show (((l.length : Nat) : Int) != ((l.length : Nat) : Int)) = false by simp))) rfl rfl rfl rfl (by decide) ?_
  refine wl_q (q_pick rfl rfl rfl) rfl rfl (by decide) ?_
  refine wl_nil ?_
  refine fq_then ?_
  refine wc_false rfl ?_
  refine wc_skip ?_
  refine fq_then ?_
  refine wc_seq ?_
  refine wc_seq ?_
  refine wc_region ?_
  refine wl_q (q_assign rfl rfl) rfl rfl (by decide) ?_
  refine wl_nil ?_
  refine fq_then ?_
  refine wc_block ?_
  refine wc_loop (ι := Nat) (fun j => [(2, .pointer (some ⟨b1, 0, none⟩)), (3, .pointer (some ⟨b2, 0, none⟩)), (5, .int .i64 (j : Nat))]) (fun j => [.blk b2 [.int .i64 bu, .int .i64 ma, .int .i64 cr, .slice qb.1 l.length qb.2] 42, .blk b1 [.int .i64 bu, .int .i64 ma, .int .i64 cr, .slice qa.1 l.length qa.2] 42, old w]) (fun j => j ≤ l.length) (fun j => l.length - j) 0 (Nat.zero_le _) ⟨List.forall_mem_cons.2 ⟨rfl, List.forall_mem_cons.2 ⟨rfl, List.forall_mem_cons.2 ⟨rfl, fun _ h => (by cases h)⟩⟩⟩, List.Sublist.refl _⟩ ?_
  intro j hj
  refine wc_seq ?_
  refine wc_seq ?_
  refine wc_region ?_
  refine wl_q (q_move rfl rfl) rfl rfl (by decide) ?_
  refine wl_q (q_fa (o1 := 3) rfl rfl Fo42_3 rfl) rfl rfl (by decide) ?_
  refine wl_q (q_load rfl rfl Mn40 (reads1 (i := 1) rfl rfl)) rfl rfl (by decide) ?_
  refine wl_q (q_len rfl rfl Tryd.underlying40) rfl rfl (by decide) ?_
  refine wl_q (q_bin rfl rfl rfl rfl) rfl rfl (by decide) ?_
  refine wl_nil ?_
  refine fq_then ?_
  refine wc_cond rfl (fun h38 => ?_) (fun h38 => ?_)
  · skip
    have q38 := h38
    try simp only [decide_eq_true_eq, decide_eq_false_iff_not, beq_iff_eq, beq_eq_false_iff_ne, bne_iff_ne, ne_eq, bne_eq_false_iff_eq, Int.not_lt, Int.not_le] at q38
    obtain ⟨p, hp⟩ : ∃ p, l[j]? = some p := ⟨_, List.getElem?_eq_getElem (by omega)⟩
    obtain ⟨ada, hA, hra⟩ := ha.at hp
    obtain ⟨adb, hB, hrb⟩ := hb.at hp
    have wj : IntKind.i64.wrap ((j : Int) + 1) = ((j + 1 : Nat) : Int) := wrap_nat (by omega)
    refine wc_skip ?_
    refine fq_then ?_
    refine wc_seq ?_
    refine wc_block ?_
    refine wc_seq ?_
    refine wc_draw 11 Fol (by kernel_rfl) (Chain.yield (q_fa (o1 := 3) rfl rfl Fo42_3 rfl) rfl rfl (Chain.yield (q_load rfl rfl Mn40 (reads1 (i := 1) rfl rfl)) rfl rfl (Chain.yield (q_move rfl rfl) rfl rfl (Chain.yield (q_indexO rfl rfl hA rfl Tryd.underlying40 Sz91 (by omega) (by omega)) rfl rfl (Chain.yield (q_loadA rfl rfl Mn91 Sz91 rfl (reads_old (cs := [.int .i64 p.f0, .int .i64 p.f1]) (by simp) hra)) rfl rfl (Chain.yield (q_fa (o1 := 3) rfl rfl Fo42_3 rfl) rfl rfl (Chain.yield (q_load rfl rfl Mn40 (reads1 (i := 0) rfl rfl)) rfl rfl (Chain.yield (q_move rfl rfl) rfl rfl (Chain.yield (q_indexO rfl rfl hB rfl Tryd.underlying40 Sz91 (by omega) (by omega)) rfl rfl (Chain.yield (q_loadA rfl rfl Mn91 Sz91 rfl (reads_old (cs := [.int .i64 p.f0, .int .i64 p.f1]) (by simp) hrb)) rfl rfl (Chain.yield (OpQ.to (q_eqAgg (c := (p.f0 == p.f0 && (p.f1 == p.f1))) rfl (.inr rfl) rfl rfl (by kernel_rfl) (fun w1 => eq91 w1 _ _ _ _)) (congrArg Value.bool (show (!(p.f0 == p.f0 && (p.f1 == p.f1))) = false by simp))) rfl rfl (Chain.nil _)))))))))))) ?_
    refine wl_nil ?_
    refine fq_then ?_
    refine wc_false rfl ?_
    refine wc_skip ?_
    refine fq_block ?_
    refine fq_then ?_
    refine wc_region ?_
    refine wl_q (q_move rfl rfl) rfl rfl (by decide) ?_
    refine wl_q (q_bin rfl rfl rfl rfl) rfl rfl (by decide) ?_
    refine wl_q (q_assign rfl rfl) rfl rfl (by decide) ?_
    refine wl_nil ?_
    refine fq_next (j + 1) (show j + 1 ≤ l.length by omega) (show l.length - (j + 1) < l.length - j by omega) ⟨List.forall_mem_cons.2 ⟨rfl, List.forall_mem_cons.2 ⟨rfl, List.forall_mem_cons.2 ⟨(show some (Value.int .i64 (IntKind.i64.wrap ((j : Int) + 1))) = some (Value.int .i64 ((j + 1 : Nat) : Int)) from by rw [wj]), fun _ h => (by cases h)⟩⟩⟩, List.Sublist.refl _⟩
  · skip
    have q38 := h38
    try simp only [decide_eq_true_eq, decide_eq_false_iff_not, beq_iff_eq, beq_eq_false_iff_ne, bne_iff_ne, ne_eq, bne_eq_false_iff_eq, Int.not_lt, Int.not_le] at q38
    refine wc_exit ?_
    refine fq_then_exit ?_
    refine fq_then_exit ?_
    refine fq_block_hit ?_
    refine fq_then ?_
    refine wc_seq ?_
    refine wc_region ?_
    refine wl_q (q_assign rfl rfl) rfl rfl (by decide) ?_
    refine wl_nil ?_
    refine fq_then ?_
    refine wc_ret ?_
    refine fq_ret1 rfl rfl (fun w1 H => ?_)
    exact ⟨rfl, H.toBelow (by simp)⟩
end Go.Proofs.YtbcijmpkmmcdeaaDoor.SF
end
section
namespace Go.Proofs.YtbcijmpkmmcdeaaDoor.PAll
open Go.RowKit Go.Proofs.YtbcijmpkmmcdeaaDoorW.PrintWords Go.Proofs.YtbcijmpkmmcdeaaDoorW.PrintLast Go.Proofs.YtbcijmpkmmcdeaaDoorW.PrintMore
attribute [local go_sem] max2_int min2_int max_two min_two max_three min_three max_four min_four
set_option linter.unusedVariables false
set_option linter.unusedSimpArgs false
def paternosterref16_num.f (k : Nat) (a0 : ByteArray) (a1 : Int) : Option (Int) := if 0 ≤ a1 then (if a1 ≤ (a0.size : Int) then ((paternosterref01_Get.f k a1 (a0.extract 0 (a1 : Int).toNat)).bind fun bt237 => (if 0 < (bt237.1.length : Int) then (some (rd bt237.1 0)) else (none))) else (none)) else (none)
set_option maxHeartbeats 8000000 in
set_option maxRecDepth 100000 in
theorem paternosterref16_num.calls (k : Nat) (a0 : ByteArray) (a1 : Int) (r : Int) (w : World) (h : paternosterref16_num.f k a0 a1 = some r) :
    Calls Tryd.prog 49 #[.string a0, .int .i64 a1] w fun e w' => e = .returned (.int .u64 r) ∧ Below w.heap.size w w' := by
  have HB := Aside0.mk (Below.refl w.heap.size w)
  have H : (if 0 ≤ a1 then (if a1 ≤ (a0.size : Int) then ((paternosterref01_Get.f k a1 (a0.extract 0 (a1 : Int).toNat)).bind fun bt237 => (if 0 < (bt237.1.length : Int) then (some (rd bt237.1 0)) else (none))) else (none)) else (none)) = some r := h
  clear h
  by_cases c3 : 0 ≤ a1
  · rw [if_pos c3] at H
    have c3b0 := eq_true c3
    have c3b1 : decide (0 ≤ a1) = true := decide_eq_true c3
    clear c3
    by_cases c4 : a1 ≤ (a0.size : Int)
    · rw [if_pos c4] at H
      have c4b0 := eq_true c4
      have c4b1 : decide (a1 ≤ (a0.size : Int)) = true := decide_eq_true c4
      clear c4
      replace H := Option.bind_eq_some_iff.mp H
      obtain ⟨⟨t237, t238⟩, A50, H⟩ := H
      replace H : (if 0 < (t237.length : Int) then (some (rd t237 0)) else (none)) = some r := H
      have A5 := Aside0.mk A50
      clear A50
      by_cases c6 : 0 < (t237.length : Int)
      · rw [if_pos c6] at H
        have c6b0 : decide (0 < (t237.length : Int)) = true := decide_eq_true c6
        have c6b1 : decide (0 < t237.length) = true := decide_eq_true (by omega)
        clear c6
        obtain rfl := Option.some.inj H
        go_enter Tryd.func49, Tryd.ntmps49
        go_wp2_with (first | ((with_reducible refine gate_callee (f := 68) rfl ?_); refine goesL_ (some 12) rfl rfl Tryd.func68 (by kernel_rfl) rfl #[.int .i64 a1, .string (a0.extract 0 (a1 : Int).toNat)] rfl (by (try simp only [List.map_toArray, List.map_cons, List.map_nil]); first | done | rfl | (simp only [List.length_drop, List.length_take]; rfl)) ?_; (with_reducible refine (paternosterref01_Get.calls k a1 (a0.extract 0 (a1 : Int).toNat) t237 t238 _ A5.out).mono ?_); rintro e w7 ⟨v239, rfl, ho0, hb⟩; refine ⟨_, rfl, ?_⟩; have n0_ := Aside0.mk (Kd.R_lower ho0 (below_size (by repeat (first | (with_reducible first | exact HB.out | apply below_alloc | apply pw_below_drewN | apply below_drew1) | exact HB.out)))); have n1_ := Aside0.mk (below_step (by repeat (first | (with_reducible first | exact HB.out | apply below_alloc | apply pw_below_drewN | apply below_drew1) | exact HB.out)) hb); clear HB; have HO240 := n0_; have HB := n1_; clear n0_ n1_; (try clear hb); (try clear hb2); (try clear hk); (try clear hi); (try clear ho0); obtain ⟨Ao8, co8, eo8⟩ := Kd.R_slice HO240.out; subst eo8; have p241 : 0 ≤ (0 : Int) := (by omega); have q241 : 0 < (t237.length : Int) := of_decide_eq_true (by first | (with_reducible assumption) | assumption); obtain ⟨ad241, e241, hx241_0⟩ := Kd.at_int (Kd.R_reads' HO240.out).2.2 0 p241 q241; cases e241; have qi241 : (0 < t237.length) = True := eq_true (by omega); (try rw [show ((0 : Int)).toNat = 0 from rfl] at hx241_0); (try rw [Addr.add_zero'] at hx241_0); replace p241 := eq_true p241; replace q241 := eq_true q241))
        go_ret
        exact ⟨by first | rfl | (simp [errW_none, errW_some] <;> rfl) | (simp [*, errW_none, errW_some] <;> rfl), by repeat (first | (with_reducible first | exact HB.out | apply below_alloc | apply pw_below_drewN | apply below_drew1) | exact HB.out)⟩
      · rw [if_neg c6] at H
        exact absurd H (by simp)
    · rw [if_neg c4] at H
      exact absurd H (by simp)
  · rw [if_neg c3] at H
    exact absurd H (by simp)
end Go.Proofs.YtbcijmpkmmcdeaaDoor.PAll
end
section
namespace Go.Proofs.YtbcijmpkmmcdeaaDoor.PAll
open Go.RowKit Go.Proofs.YtbcijmpkmmcdeaaDoorW.PrintWords Go.Proofs.YtbcijmpkmmcdeaaDoorW.PrintLast Go.Proofs.YtbcijmpkmmcdeaaDoorW.PrintMore
attribute [local go_sem] max2_int min2_int max_two min_two max_three min_three max_four min_four
set_option linter.unusedVariables false
set_option linter.unusedSimpArgs false
def paternosterref15_Find.l0 : Nat → Int → Int → Int → Int → Int → List (S91) → Option (Int)
  | 0, _, _, _, _, _, _ => none
  | k + 1, x1, x5, x243000, x243001, x243002, x243003 => if x5 < (x243003.length : Int) then (if 0 ≤ x5 then (if ((rd_T91 x243003 x5).f0) = x1 then (some x5) else (paternosterref15_Find.l0 k x1 (wrap64 (x5 + 1)) x243000 x243001 x243002 x243003)) else (none)) else (some (-1))
def paternosterref15_Find.f (k : Nat) (a0_0 : Int) (a0_1 : Int) (a0_2 : Int) (l0_3 : List (S91)) (a1 : Int) : Option (Int) := paternosterref15_Find.l0 k a1 0 a0_0 a0_1 a0_2 l0_3
set_option maxHeartbeats 8000000 in
set_option maxRecDepth 100000 in
theorem paternosterref15_Find.calls (k : Nat) (a0_0 : Int) (a0_1 : Int) (a0_2 : Int) (A0_3 : Option Addr) (c0_3 : Nat) (l0_3 : List (S91)) (a1 : Int) (r : Int) (w : World) (hr0_3 : Kd.C k91 w A0_3 l0_3.length l0_3) (hc0_3 : l0_3.length ≤ c0_3) (h : paternosterref15_Find.f k a0_0 a0_1 a0_2 l0_3 a1 = some r) :
    Calls Tryd.prog 40 #[.agg #[.int .i64 a0_0, .int .i64 a0_1, .int .i64 a0_2, .slice A0_3 l0_3.length c0_3], .int .i64 a1] w fun e w' => e = .returned (.int .i64 r) ∧ Below w.heap.size w w' := by
  have hu42 := Tryd.underlying42
  have HR0_3 := Aside0.mk hr0_3
  have HC0_3 := Aside0.mk hc0_3
  clear hr0_3 hc0_3
  have HB := Aside0.mk (Below.refl w.heap.size w)
  have H : (paternosterref15_Find.l0 k a1 0 a0_0 a0_1 a0_2 l0_3) = some r := h
  clear h
  have H' := Aside0.mk H
  clear H
  go_enter Tryd.func40, Tryd.ntmps40
  go_wp2_with (first | ((with_reducible refine gate_dst (N := 2) rfl ?_); refine box_event ?hg (N := 2) ?hd (cs := #[.int .i64 a0_0, .int .i64 a0_1, .int .i64 a0_2, .slice A0_3 l0_3.length c0_3]) (t := 42) ?hr ?_; (case hd => rfl); (case hg => rfl); (case hr => first | (go_simp; done) | (go_simp; rfl)); intro gb242 hg w3 hbox hb; have n0_ := Aside0.mk (below_step (by repeat (first | (with_reducible first | exact HB.out | apply below_alloc | apply pw_below_drewN | apply below_drew1) | exact HB.out)) hb); have n1_ := Aside0.mk (hbox); have n2_ := Aside0.mk ((by rw [hg]; exact (below_size (by repeat (first | (with_reducible first | exact HB.out | apply below_alloc | apply pw_below_drewN | apply below_drew1) | exact HB.out))) : w.heap.size ≤ gb242)); have n3_ := Aside0.mk ((by rw [hg]; exact (below_size (by repeat (first | (with_reducible first | exact HB.out | apply below_alloc | apply pw_below_drewN | apply below_drew1) | exact HB.out))) : w.heap.size ≤ gb242)); clear HB; have HB := n0_; have BK242 := n1_; have GW242 := n2_; have GE242 := n3_; clear n0_ n1_ n2_ n3_; clear hb hbox hg))
  go_loopg [5] k (fun kq v5 w' => ∃ (x5_1 : Int), v5 = .int .i64 x5_1 ∧ Aside0 (paternosterref15_Find.l0 kq a1 x5_1 a0_0 a0_1 a0_2 l0_3 = some r) ∧ Aside0 (kq ≤ k) ∧ Aside0 (w'.heap[gb242]? = some (.cells #[.int .i64 a0_0, .int .i64 a0_1, .int .i64 a0_2, (.slice A0_3 l0_3.length c0_3)] 42 (0, 0))) ∧ Aside0 (Below w.heap.size w w'))
  case atStart => exact ⟨(0), (by first | rfl | (simp; done) | (simp [*]; done)), H', ⟨Nat.le_refl _⟩, ⟨by (with_reducible repeat (first | refine blk_drewN ?_ _ | refine blk_drew ?_ | refine blk_alloc ?_ _)); exact BK242.out⟩, ⟨by repeat (first | (with_reducible first | exact HB.out | apply below_alloc | apply pw_below_drewN | apply below_drew1 | refine below_set ?_ GE242.out) | exact HB.out)⟩⟩
  case round =>
    clear H'
    try clear p2
    obtain ⟨x5_1, rfl, HA, HK1, BK242, HB⟩ := hrel
    cases gk with
    | zero => exact absurd HA.out (by simp [paternosterref15_Find.l0])
    | succ k1 =>
      have H := HA.out
      clear HA
      simp only [paternosterref15_Find.l0] at H
      by_cases c4 : x5_1 < (l0_3.length : Int)
      · rw [if_pos c4] at H
        have c4b0 : decide (x5_1 < (l0_3.length : Int)) = true := decide_eq_true c4
        clear c4
        by_cases c5 : 0 ≤ x5_1
        · rw [if_pos c5] at H
          have c5b0 : decide (0 ≤ x5_1) = true := decide_eq_true c5
          clear c5
          by_cases c6 : ((rd_T91 l0_3 x5_1).f0) = a1
          · rw [if_pos c6] at H
            have c6b0 : (((rd_T91 l0_3 x5_1).f0) == a1) = true := beq_iff_eq.mpr c6
            have c6b1 : (((rd_T91 l0_3 x5_1).f0) != a1) = false := bne_eq_false_iff_eq.mpr c6
            clear c6
            obtain rfl := Option.some.inj H
            have hcz7_0 : wr.cell? ⟨gb242, 0, none⟩ = some (.int .i64 a0_0) := (blk_cell BK242.out 0).trans rfl
            have hcz7_1 : wr.cell? ⟨gb242, 1, none⟩ = some (.int .i64 a0_1) := (blk_cell BK242.out 1).trans rfl
            have hcz7_2 : wr.cell? ⟨gb242, 2, none⟩ = some (.int .i64 a0_2) := (blk_cell BK242.out 2).trans rfl
            have hcz7_3 : wr.cell? ⟨gb242, 3, none⟩ = some (.slice A0_3 l0_3.length c0_3) := (blk_cell BK242.out 3).trans rfl
            have hfz7_0 := blk_frozen BK242.out 0
            have hfz7_1 := blk_frozen BK242.out 1
            have hfz7_2 := blk_frozen BK242.out 2
            have hfz7_3 := blk_frozen BK242.out 3
            have p243 : 0 ≤ (x5_1 : Int) := of_decide_eq_true (by first | (with_reducible assumption) | assumption)
            have q243 : x5_1 < (l0_3.length : Int) := of_decide_eq_true (by first | (with_reducible assumption) | assumption)
            obtain ⟨ad243, e243, hx243_0, hx243_1⟩ := at_T91 HR0_3.out x5_1 p243 q243
            cases e243
            replace hx243_0 := (HB.out.cell (World.block_lt_of_cell? w _ hx243_0)).trans hx243_0
            replace hx243_1 := (HB.out.cell (World.block_lt_of_cell? w _ hx243_1)).trans hx243_1
            replace p243 := eq_true p243
            replace q243 := eq_true q243
            go_wp2
            go_ret
            exact ⟨by first | rfl | (simp [errW_none, errW_some] <;> rfl) | (simp [*, errW_none, errW_some] <;> rfl), by repeat (first | (with_reducible first | exact HB.out | apply below_alloc | apply pw_below_drewN | apply below_drew1 | refine below_set ?_ GE242.out) | exact HB.out)⟩
          · rw [if_neg c6] at H
            have c6b0 : (((rd_T91 l0_3 x5_1).f0) == a1) = false := beq_eq_false_iff_ne.mpr c6
            have c6b1 : (((rd_T91 l0_3 x5_1).f0) != a1) = true := bne_iff_ne.mpr c6
            have H' := Aside0.mk H
            clear H
            have hcz8_0 : wr.cell? ⟨gb242, 0, none⟩ = some (.int .i64 a0_0) := (blk_cell BK242.out 0).trans rfl
            have hcz8_1 : wr.cell? ⟨gb242, 1, none⟩ = some (.int .i64 a0_1) := (blk_cell BK242.out 1).trans rfl
            have hcz8_2 : wr.cell? ⟨gb242, 2, none⟩ = some (.int .i64 a0_2) := (blk_cell BK242.out 2).trans rfl
            have hcz8_3 : wr.cell? ⟨gb242, 3, none⟩ = some (.slice A0_3 l0_3.length c0_3) := (blk_cell BK242.out 3).trans rfl
            have hfz8_0 := blk_frozen BK242.out 0
            have hfz8_1 := blk_frozen BK242.out 1
            have hfz8_2 := blk_frozen BK242.out 2
            have hfz8_3 := blk_frozen BK242.out 3
            have p243 : 0 ≤ (x5_1 : Int) := of_decide_eq_true (by first | (with_reducible assumption) | assumption)
            have q243 : x5_1 < (l0_3.length : Int) := of_decide_eq_true (by first | (with_reducible assumption) | assumption)
            obtain ⟨ad243, e243, hx243_0, hx243_1⟩ := at_T91 HR0_3.out x5_1 p243 q243
            cases e243
            replace hx243_0 := (HB.out.cell (World.block_lt_of_cell? w _ hx243_0)).trans hx243_0
            replace hx243_1 := (HB.out.cell (World.block_lt_of_cell? w _ hx243_1)).trans hx243_1
            replace p243 := eq_true p243
            replace q243 := eq_true q243
            go_wp2
            go_roundg k1
            case measure => have := HK1.out; omega
            case rel => exact ⟨(wrap64 (x5_1 + 1)), (by first | rfl | (simp; done) | (simp [*]; done)), H', ⟨by have := HK1.out; omega⟩, ⟨by (with_reducible repeat (first | refine blk_drewN ?_ _ | refine blk_drew ?_ | refine blk_alloc ?_ _)); exact BK242.out⟩, ⟨by repeat (first | (with_reducible first | exact HB.out | apply below_alloc | apply pw_below_drewN | apply below_drew1 | refine below_set ?_ GE242.out) | exact HB.out)⟩⟩
        · rw [if_neg c5] at H
          exact absurd H (by simp)
      · rw [if_neg c4] at H
        have c4b0 : decide (x5_1 < (l0_3.length : Int)) = false := decide_eq_false c4
        clear c4
        obtain rfl := Option.some.inj H
        have hcz9_0 : wr.cell? ⟨gb242, 0, none⟩ = some (.int .i64 a0_0) := (blk_cell BK242.out 0).trans rfl
        have hcz9_1 : wr.cell? ⟨gb242, 1, none⟩ = some (.int .i64 a0_1) := (blk_cell BK242.out 1).trans rfl
        have hcz9_2 : wr.cell? ⟨gb242, 2, none⟩ = some (.int .i64 a0_2) := (blk_cell BK242.out 2).trans rfl
        have hcz9_3 : wr.cell? ⟨gb242, 3, none⟩ = some (.slice A0_3 l0_3.length c0_3) := (blk_cell BK242.out 3).trans rfl
        have hfz9_0 := blk_frozen BK242.out 0
        have hfz9_1 := blk_frozen BK242.out 1
        have hfz9_2 := blk_frozen BK242.out 2
        have hfz9_3 := blk_frozen BK242.out 3
        go_wp2
        go_ret
        exact ⟨by first | rfl | (simp [errW_none, errW_some] <;> rfl) | (simp [*, errW_none, errW_some] <;> rfl), by repeat (first | (with_reducible first | exact HB.out | apply below_alloc | apply pw_below_drewN | apply below_drew1 | refine below_set ?_ GE242.out) | exact HB.out)⟩
end Go.Proofs.YtbcijmpkmmcdeaaDoor.PAll
end
section
namespace Go.Proofs.YtbcijmpkmmcdeaaDoor.PAll
open Go.RowKit Go.Proofs.YtbcijmpkmmcdeaaDoorW.PrintWords Go.Proofs.YtbcijmpkmmcdeaaDoorW.PrintLast Go.Proofs.YtbcijmpkmmcdeaaDoorW.PrintMore
attribute [local go_sem] max2_int min2_int max_two min_two max_three min_three max_four min_four
set_option linter.unusedVariables false
set_option linter.unusedSimpArgs false
def paternosterref15_Sum.l0 : Nat → Int → Int → Int → Int → Int → List (S91) → Option (Int)
  | 0, _, _, _, _, _, _ => none
  | k + 1, x3, x4, x245000, x245001, x245002, x245003 => if x4 < (x245003.length : Int) then (if 0 ≤ x4 then (paternosterref15_Sum.l0 k (wrap64 (x3 + ((rd_T91 x245003 x4).f1))) (wrap64 (x4 + 1)) x245000 x245001 x245002 x245003) else (none)) else (some x3)
def paternosterref15_Sum.f (k : Nat) (a0_0 : Int) (a0_1 : Int) (a0_2 : Int) (l0_3 : List (S91)) : Option (Int) := paternosterref15_Sum.l0 k 0 0 a0_0 a0_1 a0_2 l0_3
set_option maxHeartbeats 8000000 in
set_option maxRecDepth 100000 in
theorem paternosterref15_Sum.calls (k : Nat) (a0_0 : Int) (a0_1 : Int) (a0_2 : Int) (A0_3 : Option Addr) (c0_3 : Nat) (l0_3 : List (S91)) (r : Int) (w : World) (hr0_3 : Kd.C k91 w A0_3 l0_3.length l0_3) (hc0_3 : l0_3.length ≤ c0_3) (h : paternosterref15_Sum.f k a0_0 a0_1 a0_2 l0_3 = some r) :
    Calls Tryd.prog 41 #[.agg #[.int .i64 a0_0, .int .i64 a0_1, .int .i64 a0_2, .slice A0_3 l0_3.length c0_3]] w fun e w' => e = .returned (.int .i64 r) ∧ Below w.heap.size w w' := by
  have hu42 := Tryd.underlying42
  have HR0_3 := Aside0.mk hr0_3
  have HC0_3 := Aside0.mk hc0_3
  clear hr0_3 hc0_3
  have HB := Aside0.mk (Below.refl w.heap.size w)
  have H : (paternosterref15_Sum.l0 k 0 0 a0_0 a0_1 a0_2 l0_3) = some r := h
  clear h
  have H' := Aside0.mk H
  clear H
  go_enter Tryd.func41, Tryd.ntmps41
  go_wp2_with (first | ((with_reducible refine gate_dst (N := 1) rfl ?_); refine box_event ?hg (N := 1) ?hd (cs := #[.int .i64 a0_0, .int .i64 a0_1, .int .i64 a0_2, .slice A0_3 l0_3.length c0_3]) (t := 42) ?hr ?_; (case hd => rfl); (case hg => rfl); (case hr => first | (go_simp; done) | (go_simp; rfl)); intro gb244 hg w2 hbox hb; have n0_ := Aside0.mk (below_step (by repeat (first | (with_reducible first | exact HB.out | apply below_alloc | apply pw_below_drewN | apply below_drew1) | exact HB.out)) hb); have n1_ := Aside0.mk (hbox); have n2_ := Aside0.mk ((by rw [hg]; exact (below_size (by repeat (first | (with_reducible first | exact HB.out | apply below_alloc | apply pw_below_drewN | apply below_drew1) | exact HB.out))) : w.heap.size ≤ gb244)); have n3_ := Aside0.mk ((by rw [hg]; exact (below_size (by repeat (first | (with_reducible first | exact HB.out | apply below_alloc | apply pw_below_drewN | apply below_drew1) | exact HB.out))) : w.heap.size ≤ gb244)); clear HB; have HB := n0_; have BK244 := n1_; have GW244 := n2_; have GE244 := n3_; clear n0_ n1_ n2_ n3_; clear hb hbox hg))
  go_loopg [3, 4] k (fun kq v3 v4 w' => ∃ (x3_1 : Int) (x4_1 : Int), v3 = .int .i64 x3_1 ∧ v4 = .int .i64 x4_1 ∧ Aside0 (paternosterref15_Sum.l0 kq x3_1 x4_1 a0_0 a0_1 a0_2 l0_3 = some r) ∧ Aside0 (kq ≤ k) ∧ Aside0 (w'.heap[gb244]? = some (.cells #[.int .i64 a0_0, .int .i64 a0_1, .int .i64 a0_2, (.slice A0_3 l0_3.length c0_3)] 42 (0, 0))) ∧ Aside0 (Below w.heap.size w w'))
  case atStart => exact ⟨(0), (0), (by first | rfl | (simp; done) | (simp [*]; done)), (by first | rfl | (simp; done) | (simp [*]; done)), H', ⟨Nat.le_refl _⟩, ⟨by (with_reducible repeat (first | refine blk_drewN ?_ _ | refine blk_drew ?_ | refine blk_alloc ?_ _)); exact BK244.out⟩, ⟨by repeat (first | (with_reducible first | exact HB.out | apply below_alloc | apply pw_below_drewN | apply below_drew1 | refine below_set ?_ GE244.out) | exact HB.out)⟩⟩
  case round =>
    clear H'
    try clear p2
    obtain ⟨x3_1, x4_1, rfl, rfl, HA, HK1, BK244, HB⟩ := hrel
    cases gk with
    | zero => exact absurd HA.out (by simp [paternosterref15_Sum.l0])
    | succ k1 =>
      have H := HA.out
      clear HA
      simp only [paternosterref15_Sum.l0] at H
      by_cases c3 : x4_1 < (l0_3.length : Int)
      · rw [if_pos c3] at H
        have c3b0 : decide (x4_1 < (l0_3.length : Int)) = true := decide_eq_true c3
        clear c3
        by_cases c4 : 0 ≤ x4_1
        · rw [if_pos c4] at H
          have c4b0 : decide (0 ≤ x4_1) = true := decide_eq_true c4
          clear c4
          have H' := Aside0.mk H
          clear H
          have hcz5_0 : wr.cell? ⟨gb244, 0, none⟩ = some (.int .i64 a0_0) := (blk_cell BK244.out 0).trans rfl
          have hcz5_1 : wr.cell? ⟨gb244, 1, none⟩ = some (.int .i64 a0_1) := (blk_cell BK244.out 1).trans rfl
          have hcz5_2 : wr.cell? ⟨gb244, 2, none⟩ = some (.int .i64 a0_2) := (blk_cell BK244.out 2).trans rfl
          have hcz5_3 : wr.cell? ⟨gb244, 3, none⟩ = some (.slice A0_3 l0_3.length c0_3) := (blk_cell BK244.out 3).trans rfl
          have hfz5_0 := blk_frozen BK244.out 0
          have hfz5_1 := blk_frozen BK244.out 1
          have hfz5_2 := blk_frozen BK244.out 2
          have hfz5_3 := blk_frozen BK244.out 3
          have p245 : 0 ≤ (x4_1 : Int) := of_decide_eq_true (by first | (with_reducible assumption) | assumption)
          have q245 : x4_1 < (l0_3.length : Int) := of_decide_eq_true (by first | (with_reducible assumption) | assumption)
          obtain ⟨ad245, e245, hx245_0, hx245_1⟩ := at_T91 HR0_3.out x4_1 p245 q245
          cases e245
          replace hx245_0 := (HB.out.cell (World.block_lt_of_cell? w _ hx245_0)).trans hx245_0
          replace hx245_1 := (HB.out.cell (World.block_lt_of_cell? w _ hx245_1)).trans hx245_1
          replace p245 := eq_true p245
          replace q245 := eq_true q245
          go_wp2
          go_roundg k1
          case measure => have := HK1.out; omega
          case rel => exact ⟨(wrap64 (x3_1 + ((rd_T91 l0_3 x4_1).f1))), (wrap64 (x4_1 + 1)), (by first | rfl | (simp; done) | (simp [*]; done)), (by first | rfl | (simp; done) | (simp [*]; done)), H', ⟨by have := HK1.out; omega⟩, ⟨by (with_reducible repeat (first | refine blk_drewN ?_ _ | refine blk_drew ?_ | refine blk_alloc ?_ _)); exact BK244.out⟩, ⟨by repeat (first | (with_reducible first | exact HB.out | apply below_alloc | apply pw_below_drewN | apply below_drew1 | refine below_set ?_ GE244.out) | exact HB.out)⟩⟩
        · rw [if_neg c4] at H
          exact absurd H (by simp)
      · rw [if_neg c3] at H
        have c3b0 : decide (x4_1 < (l0_3.length : Int)) = false := decide_eq_false c3
        clear c3
        obtain rfl := Option.some.inj H
        have hcz6_0 : wr.cell? ⟨gb244, 0, none⟩ = some (.int .i64 a0_0) := (blk_cell BK244.out 0).trans rfl
        have hcz6_1 : wr.cell? ⟨gb244, 1, none⟩ = some (.int .i64 a0_1) := (blk_cell BK244.out 1).trans rfl
        have hcz6_2 : wr.cell? ⟨gb244, 2, none⟩ = some (.int .i64 a0_2) := (blk_cell BK244.out 2).trans rfl
        have hcz6_3 : wr.cell? ⟨gb244, 3, none⟩ = some (.slice A0_3 l0_3.length c0_3) := (blk_cell BK244.out 3).trans rfl
        have hfz6_0 := blk_frozen BK244.out 0
        have hfz6_1 := blk_frozen BK244.out 1
        have hfz6_2 := blk_frozen BK244.out 2
        have hfz6_3 := blk_frozen BK244.out 3
        go_wp2
        go_ret
        exact ⟨by first | rfl | (simp [errW_none, errW_some] <;> rfl) | (simp [*, errW_none, errW_some] <;> rfl), by repeat (first | (with_reducible first | exact HB.out | apply below_alloc | apply pw_below_drewN | apply below_drew1 | refine below_set ?_ GE244.out) | exact HB.out)⟩
end Go.Proofs.YtbcijmpkmmcdeaaDoor.PAll
end
section
namespace Go.Proofs.YtbcijmpkmmcdeaaDoor.PAll
open Go.RowKit Go.Proofs.YtbcijmpkmmcdeaaDoorW.PrintWords Go.Proofs.YtbcijmpkmmcdeaaDoorW.PrintLast Go.Proofs.YtbcijmpkmmcdeaaDoorW.PrintMore
attribute [local go_sem] max2_int min2_int max_two min_two max_three min_three max_four min_four
set_option linter.unusedVariables false
set_option linter.unusedSimpArgs false
def paternosterref15_power.f (a0 : Int) : Option (Bool) := if a0 ≥ 0 then (some (decide (a0 ≤ 1048576))) else (some false)
set_option maxHeartbeats 8000000 in
set_option maxRecDepth 100000 in
theorem paternosterref15_power.calls (a0 : Int) (r : Bool) (w : World) (h : paternosterref15_power.f a0 = some r) :
    Calls Tryd.prog 69 #[.int .i64 a0] w fun e w' => e = .returned (.bool r) ∧ Drawn0 w w' := by
  have H : (if a0 ≥ 0 then (some (decide (a0 ≤ 1048576))) else (some false)) = some r := h
  clear h
  by_cases c2 : a0 ≥ 0
  · rw [if_pos c2] at H
    have c2b0 : decide (0 ≤ a0) = true := decide_eq_true c2
    clear c2
    obtain rfl := Option.some.inj H
    go_enter Tryd.func69, Tryd.ntmps69
    go_wp2
    go_ret
    exact ⟨by first | rfl | (simp; done) | (simp [*]; done), by repeat (first | exact Drawn0.refl _ | apply Drawn0.step)⟩
  · rw [if_neg c2] at H
    have c2b0 : decide (0 ≤ a0) = false := decide_eq_false c2
    clear c2
    obtain rfl := Option.some.inj H
    go_enter Tryd.func69, Tryd.ntmps69
    go_wp2
    go_ret
    exact ⟨by first | rfl | (simp; done) | (simp [*]; done), by repeat (first | exact Drawn0.refl _ | apply Drawn0.step)⟩
end Go.Proofs.YtbcijmpkmmcdeaaDoor.PAll
end
section
namespace Go.Proofs.YtbcijmpkmmcdeaaDoor.SF
open Go.RowKit Go.Sx Go.Proofs.YtbcijmpkmmcdeaaDoor.PAll Go.Proofs.YtbcijmpkmmcdeaaDoorW.PrintWords Go.Proofs.YtbcijmpkmmcdeaaDoorW.PrintLast Go.Proofs.YtbcijmpkmmcdeaaDoorW.PrintMore
open Go.Proofs.YtbcijmpkmmcdeaaDoor.Pure (le puts sealed w64 wu64 bt_str str_drop str_extract ref_get_ev ref_part_l0 refRes ref_open_ev ref_open_short rd_nat str_app)
open Go.Proofs.YtbcijmpkmmcdeaaDoor.PChk (sumP sumP_bound chkB rowsB rowB knB pwB rowsB_succ rowsB_no chkB_no)
set_option linter.unusedVariables false
set_option linter.unusedSimpArgs false
set_option maxRecDepth 100000
def Ev {α : Type} (F : Nat → Option α) (r : α) : Prop := ∃ K, ∀ k, K ≤ k → F k = some r
theorem Ev.succ {α : Type} {F : Nat → Option α} {r : α} (h : Ev (fun k => F (k + 1)) r) : Ev F r := by
  obtain ⟨K, hK⟩ := h
  refine ⟨K + 1, fun k hk => ?_⟩
  obtain ⟨k, rfl⟩ : ∃ m, k = m + 1 := ⟨k - 1, by omega⟩
  exact hK k (by omega)
theorem Ev.now {α : Type} (r : α) : Ev (fun _ => some r) r := ⟨0, fun _ _ => rfl⟩
theorem Ev.eq {α : Type} {F G : Nat → Option α} {r : α} (h : Ev G r) (e : ∀ k, F k = G k) : Ev F r := by
  obtain ⟨K, hK⟩ := h
  exact ⟨K, fun k hk => (e k).trans (hK k hk)⟩
theorem Ev.bind {α β : Type} {F : Nat → Option α} {G : Nat → α → Option β} {x : α} {r : β} (h : Ev F x) (h2 : Ev (fun k => G k x) r) : Ev (fun k => (F k).bind (G k)) r := by
  obtain ⟨K, hK⟩ := h
  obtain ⟨K2, hK2⟩ := h2
  refine ⟨K + K2, fun k hk => ?_⟩
  show (F k).bind (G k) = some r
  rw [hK k (by omega), Option.bind_some]
  exact hK2 k (by omega)
theorem Ev.yes {α : Type} {c : Prop} [Decidable c] {F G : Nat → Option α} {r : α} (hc : c) (h : Ev F r) : Ev (fun k => if c then F k else G k) r := h.eq (fun k => if_pos hc)
theorem Ev.no {α : Type} {c : Prop} [Decidable c] {F G : Nat → Option α} {r : α} (hc : ¬ c) (h : Ev G r) : Ev (fun k => if c then F k else G k) r := h.eq (fun k => if_neg hc)
theorem Ev.yes1 {α : Type} {c : Prop} [Decidable c] {F : Nat → Option α} {r : α} (hc : c) (h : Ev F r) : Ev (fun k => if c then F k else none) r := h.eq (fun k => if_pos hc)
theorem Ev.of {α : Type} {F : Nat → Option α} {r : α} (h : ∃ K, ∀ k, K ≤ k → F k = some r) : Ev F r := h
theorem rd91 {l : List S51} {i : Nat} {p : S51} (h : l[i]? = some p) : rd_T91 (l.map to91) (i : Int) = ⟨p.f0, p.f1⟩ := by
  unfold rd_T91
  rw [Int.toNat_natCast, List.getD_eq_getElem?_getD, List.getElem?_map, h]
  rfl
theorem rdT51 {l : List S51} {i : Nat} {p : S51} (h : l[i]? = some p) : rd_T51 l (i : Int) = p := by
  unfold rd_T51
  rw [Int.toNat_natCast, List.getD_eq_getElem?_getD, h]
  rfl
theorem wadd1 {i : Nat} (h : i < 4611686018427387904) : wrap64 ((i : Int) + 1) = ((i + 1 : Nat) : Int) := by rw [w64 _ (by omega)]; rfl
theorem find_l0 (b m c car : Int) (l : List S51) (hl : l.length ≤ 1000000) : ∀ (d i : Nat), l.length - i = d → i ≤ l.length → Ev (fun k => paternosterref15_Find.l0 k car (i : Int) b m c (l.map to91)) (PChk.ixs l (fun p => p.f0 == car) i)
  | 0, i, hd, hi => by
    obtain rfl : i = l.length := by omega
    rw [PChk.ixs_end]
    refine Ev.succ ((Ev.now (-1)).eq (fun k => ?_))
    simp only [paternosterref15_Find.l0]
    rw [if_neg (by rw [List.length_map]; omega)]
  | d + 1, i, hd, hi => by
    obtain ⟨p, hp⟩ : ∃ p, l[i]? = some p := ⟨_, List.getElem?_eq_getElem (by omega)⟩
    rw [PChk.ixs_step l _ i (by omega), rdT51 hp]
    refine Ev.succ ?_
    simp only [paternosterref15_Find.l0]
    refine Ev.yes (by rw [List.length_map]; omega) (Ev.yes1 (by omega) ?_)
    rw [rd91 hp]
    by_cases h : p.f0 = car
    · rw [if_pos (by simpa using h)]
      exact Ev.yes h (Ev.now _)
    · rw [if_neg (by simpa using h), wadd1 (by omega)]
      exact Ev.no h (find_l0 b m c car l hl d (i + 1) (by omega) (by omega))
theorem find_ev (b m c car : Int) (l : List S51) (hl : l.length ≤ 1000000) : Ev (fun k => paternosterref15_Find.f k b m c (l.map to91) car) (PChk.ixf l (fun p => p.f0 == car)) := by
  rw [PChk.ixs_zero]
  exact find_l0 b m c car l hl l.length 0 rfl (by omega)
theorem rsum_l0 (b m c : Int) (l : List S51) (hl : l.length ≤ 10000) (hb : ∀ p ∈ l, 0 ≤ p.f1 ∧ p.f1 ≤ 1048576) : ∀ (d i : Nat) (acc : Int), l.length - i = d → i ≤ l.length → 0 ≤ acc → acc ≤ 1048576 * i →
    Ev (fun k => paternosterref15_Sum.l0 k acc (i : Int) b m c (l.map to91)) (acc + sumP (l.drop i))
  | 0, i, acc, hd, hi, h0, h1 => by
    obtain rfl : i = l.length := by omega
    rw [List.drop_length, show sumP [] = 0 from rfl, Int.add_zero]
    refine Ev.succ ((Ev.now acc).eq (fun k => ?_))
    simp only [paternosterref15_Sum.l0]
    rw [if_neg (by rw [List.length_map]; omega)]
  | d + 1, i, acc, hd, hi, h0, h1 => by
    obtain ⟨p, hp⟩ : ∃ p, l[i]? = some p := ⟨_, List.getElem?_eq_getElem (by omega)⟩
    have hpb := hb p (List.mem_of_getElem? hp)
    have hdr : l.drop i = p :: l.drop (i + 1) := by
      obtain ⟨h2, h3⟩ := List.getElem?_eq_some_iff.1 hp
      rw [List.drop_eq_getElem_cons h2, h3]
    rw [hdr, show sumP (p :: l.drop (i + 1)) = p.f1 + sumP (l.drop (i + 1)) from rfl, ← Int.add_assoc]
    refine Ev.succ ?_
    simp only [paternosterref15_Sum.l0]
    refine Ev.yes (by rw [List.length_map]; omega) (Ev.yes1 (by omega) ?_)
    rw [rd91 hp, wadd1 (by omega)]
    dsimp only
    rw [w64 _ (by omega)]
    exact rsum_l0 b m c l hl hb d (i + 1) (acc + p.f1) (by omega) (by omega) (by omega) (by omega)
theorem rsum_ev (b m c : Int) (l : List S51) (hl : l.length ≤ 10000) (hb : ∀ p ∈ l, 0 ≤ p.f1 ∧ p.f1 ≤ 1048576) : Ev (fun k => paternosterref15_Sum.f k b m c (l.map to91)) (sumP l) := by
  have h := rsum_l0 b m c l hl hb l.length 0 0 rfl (by omega) (by omega) (by omega)
  rw [List.drop_zero, Int.zero_add] at h
  exact h
theorem rpow_ev (x : Int) : paternosterref15_power.f x = some (pwB x) := by
  unfold paternosterref15_power.f pwB
  by_cases h : x ≥ 0
  · rw [if_pos h]; congr 1; simp [h]
  · rw [if_neg h]; congr 1; simp; omega
theorem rowB_at {l : List S51} {i : Nat} {p : S51} (h : l[i]? = some p) : rowB l i = (decide (PChk.ixf l (fun q => q.f0 == p.f0) = (i : Int)) && (knB p.f0 && pwB p.f1)) := by
  obtain ⟨hi, he⟩ := List.getElem?_eq_some_iff.1 h
  unfold rowB
  rw [rdT51 h]
  congr 1
  unfold PChk.ixf
  have hlt : l.findIdx (fun q => q.f0 == p.f0) < l.length := List.findIdx_lt_length_of_exists ⟨p, List.mem_of_getElem? h, by simp⟩
  rw [if_pos hlt]
  have hiff : (l.findIdx (fun q => q.f0 == p.f0) = i) ↔ ¬ ((l.take i).findIdx (fun q => q.f0 == p.f0) < (l.take i).length) := by
    rw [List.findIdx_eq hi]
    constructor
    · rintro ⟨_, h2⟩ h3
      rw [List.findIdx_lt_length] at h3
      obtain ⟨x, hx, hpx⟩ := h3
      obtain ⟨j, hj, rfl⟩ := List.mem_iff_getElem.1 hx
      rw [List.length_take] at hj
      rw [List.getElem_take] at hpx
      have := h2 j (by omega)
      rw [hpx] at this
      cases this
    · intro h3
      refine ⟨by rw [he]; simp, fun j hj => ?_⟩
      rw [List.findIdx_lt_length] at h3
      cases hc : (l[j].f0 == p.f0) with
      | false => rfl
      | true =>
        refine absurd ⟨l[j], List.mem_iff_getElem.2 ⟨j, by rw [List.length_take]; omega, by rw [List.getElem_take]⟩, hc⟩ h3
  by_cases hc : (l.take i).findIdx (fun q => q.f0 == p.f0) < (l.take i).length
  · rw [if_pos hc, decide_eq_true (show (0 : Int) ≤ _ by omega), decide_eq_false (fun e => (hiff.1 (by exact_mod_cast e)) hc)]
    rfl
  · rw [if_neg hc, decide_eq_false (show ¬ (0 : Int) ≤ -1 by omega), decide_eq_true (show ((l.findIdx (fun q => q.f0 == p.f0) : Nat) : Int) = (i : Int) by rw [hiff.2 hc])]
    rfl
theorem rowsB_mem {l : List S51} (h : rowsB l l.length = true) : ∀ p ∈ l, 0 ≤ p.f1 ∧ p.f1 ≤ 1048576 := by
  intro p hp
  obtain ⟨i, hi, rfl⟩ := List.mem_iff_getElem.1 hp
  have := (List.all_eq_true.1 h) i (List.mem_range.2 hi)
  rw [rowB_at (List.getElem?_eq_getElem hi)] at this
  simp only [Bool.and_eq_true, pwB, decide_eq_true_eq] at this
  exact this.2.2
theorem rnum_ev (n : Nat) (h1 : 1 ≤ n) (h8 : n ≤ 8) (r : List Int) (hr : n ≤ r.length) (hb : ∀ x ∈ r, 0 ≤ x ∧ x ≤ 255) : Ev (fun k => paternosterref16_num.f k (strOfNums r) (n : Int)) (leNum (r.take n)) := by
  have hlen : (r.take n).length = n := by rw [List.length_take]; omega
  have h := ref_get_ev n h1 h8 (r.take n) (by rw [hlen]; simp) (fun x hx => hb x (List.mem_of_mem_take hx)) (by omega)
  unfold paternosterref16_num.f
  rw [strOfNums_size]
  refine Ev.yes1 (by omega) (Ev.yes1 (by omega) ?_)
  rw [str_extract _ _ _ (by omega), List.drop_zero, Nat.sub_zero, Int.toNat_natCast]
  refine Ev.bind (x := (gets n ((r.take n).length / n) (r.take n), 0)) (Ev.of h) ?_
  rw [hlen, Nat.div_self (by omega)]
  refine Ev.yes1 (by simp [gets]) ?_
  rw [show rd (gets n 1 (r.take n)) 0 = leNum (r.take n) by
    rw [show (0 : Int) = ((0 : Nat) : Int) from rfl, rd_nat _ 0 (by simp [gets])]
    simp [gets, List.take_take]]
  exact Ev.now _
end Go.Proofs.YtbcijmpkmmcdeaaDoor.SF
end
section
namespace Go.Proofs.YtbcijmpkmmcdeaaDoor.SF
open Go.RowKit Go.Sx Go.Proofs.YtbcijmpkmmcdeaaDoor.PAll Go.Proofs.YtbcijmpkmmcdeaaDoorW.PrintWords Go.Proofs.YtbcijmpkmmcdeaaDoorW.PrintLast Go.Proofs.YtbcijmpkmmcdeaaDoorW.PrintMore
set_option linter.unusedVariables false
set_option linter.unusedSimpArgs false
set_option maxRecDepth 100000
theorem rpow_calls (x : Int) (w : World) : Calls Tryd.prog 69 #[.int .i64 x] w fun e w' => e = .returned (.bool (PChk.pwB x)) ∧ Below w.heap.size w w' :=
  (paternosterref15_power.calls x _ w (rpow_ev x)).mono (fun e w' ⟨h1, h2⟩ => ⟨h1, h2.below⟩)
theorem rfind_calls (b m c : Int) (q : Gh) (l : List S51) (car : Int) (w : World) (hr : RowR w q (l.map to91)) (hl : l.length ≤ 10000) : Calls Tryd.prog 40 #[.agg #[.int .i64 b, .int .i64 m, .int .i64 c, .slice q.1 l.length q.2], .int .i64 car] w fun e w' => e = .returned (.int .i64 (PChk.ixf l (fun p => p.f0 == car))) ∧ Below w.heap.size w w' := by
  obtain ⟨K, hK⟩ := find_ev b m c car l (by omega)
  have := paternosterref15_Find.calls K b m c q.1 q.2 (l.map to91) car _ w hr.2 hr.1 (hK K (Nat.le_refl _))
  rw [List.length_map] at this
  exact this
theorem rsum_calls (b m c : Int) (q : Gh) (l : List S51) (w : World) (hr : RowR w q (l.map to91)) (hl : l.length ≤ 10000) (hb : ∀ p ∈ l, 0 ≤ p.f1 ∧ p.f1 ≤ 1048576) : Calls Tryd.prog 41 #[.agg #[.int .i64 b, .int .i64 m, .int .i64 c, .slice q.1 l.length q.2]] w fun e w' => e = .returned (.int .i64 (PChk.sumP l)) ∧ Below w.heap.size w w' := by
  obtain ⟨K, hK⟩ := rsum_ev b m c l hl hb
  have := paternosterref15_Sum.calls K b m c q.1 q.2 (l.map to91) _ w hr.2 hr.1 (hK K (Nat.le_refl _))
  rw [List.length_map] at this
  exact this
set_option maxHeartbeats 1000000 in
theorem rcheck_calls (b m c : Int) (q : Gh) (l : List S51) (w : World) (hr : RowR w q (l.map to91)) (hl : l.length ≤ 10000) : Calls Tryd.prog 50 #[.agg #[.int .i64 b, .int .i64 m, .int .i64 c, .slice q.1 l.length q.2]] w fun e w' => e = .returned (.bool (PChk.chkB b m c l)) ∧ Below w.heap.size w w' := by
  refine enter (w0 := w) (hp := [old w]) (env := [(0, .agg #[.int .i64 b, .int .i64 m, .int .i64 c, .slice q.1 l.length q.2])]) Tryd.func50 rfl 63 rfl (by simp) rfl (HeapOK.start _) ?_
  refine wc_seq ?_
  refine wc_region ?_
  refine wl_box rfl rfl rfl (by decide) rfl rfl (fun b1 => ?_)
  refine wl_q (q_assign rfl rfl) rfl rfl (by decide) ?_
  refine wl_nil ?_
  refine fq_then ?_
  refine wc_seq ?_
  refine wc_seq ?_
  refine wc_region ?_
  refine wl_q (q_assign rfl rfl) rfl rfl (by decide) ?_
  refine wl_nil ?_
  refine fq_then ?_
  refine wc_block ?_
  refine wc_loop (ι := Nat) (fun i => [(1, .pointer (some ⟨b1, 0, none⟩)), (3, .int .i64 (i : Nat))]) (fun i => [.blk b1 [.int .i64 b, .int .i64 m, .int .i64 c, .slice q.1 l.length q.2] 42, old w]) (fun i => i ≤ l.length ∧ PChk.rowsB l i = true) (fun i => l.length - i) 0 ⟨Nat.zero_le _, rfl⟩ ⟨List.forall_mem_cons.2 ⟨rfl, List.forall_mem_cons.2 ⟨rfl, fun _ h => (by cases h)⟩⟩, List.Sublist.refl _⟩ ?_
  rintro i ⟨hi, hrows⟩
  refine wc_seq ?_
  refine wc_seq ?_
  refine wc_region ?_
  refine wl_q (q_move rfl rfl) rfl rfl (by decide) ?_
  refine wl_q (q_fa (o1 := 3) rfl rfl Fo42_3 rfl) rfl rfl (by decide) ?_
  refine wl_q (q_load rfl rfl Mn40 (reads1 (i := 0) rfl rfl)) rfl rfl (by decide) ?_
  refine wl_q (q_len rfl rfl Tryd.underlying40) rfl rfl (by decide) ?_
  refine wl_q (q_bin rfl rfl rfl rfl) rfl rfl (by decide) ?_
  refine wl_nil ?_
  refine fq_then ?_
  refine wc_cond rfl (fun h9 => ?_) (fun h9 => ?_)
  · skip
    have q9 := h9
    try simp only [decide_eq_true_eq, decide_eq_false_iff_not, beq_iff_eq, beq_eq_false_iff_ne, bne_iff_ne, ne_eq, bne_eq_false_iff_eq, Int.not_lt, Int.not_le] at q9
    obtain ⟨p, hp⟩ : ∃ p, l[i]? = some p := ⟨_, List.getElem?_eq_getElem (by omega)⟩
    obtain ⟨ad, hA, hra⟩ := hr.at (show (l.map to91)[i]? = some (to91 p) by rw [List.getElem?_map, hp]; rfl)
    have hra : CellsAt w (ad.add (i * 2)) [.int .i64 p.f0, .int .i64 p.f1] := hra
    have hat := rowB_at hp
    have wi : IntKind.i64.wrap ((i : Int) + 1) = ((i + 1 : Nat) : Int) := wrap_nat (by omega)
    refine wc_skip ?_
    refine fq_then ?_
    refine wc_seq ?_
    refine wc_block ?_
    refine wc_seq ?_
    refine wc_region ?_
    refine wl_q (q_fa (o1 := 3) rfl rfl Fo42_3 rfl) rfl rfl (by decide) ?_
    refine wl_q (q_load rfl rfl Mn40 (reads1 (i := 0) rfl rfl)) rfl rfl (by decide) ?_
    refine wl_q (q_move rfl rfl) rfl rfl (by decide) ?_
    refine wl_q (q_indexO rfl rfl hA rfl Tryd.underlying40 Sz91 (by omega) (by omega)) rfl rfl (by decide) ?_
    refine wl_q (q_loadA rfl rfl Mn91 Sz91 rfl (reads_old (by simp) hra)) rfl rfl (by decide) ?_
    refine wl_alloc rfl rfl rfl (by decide) Zr91 (fun b2 => ?_)
    refine wl_store (i := 0) rfl rfl rfl rfl rfl rfl Sz91 rfl rfl (by simp) (by simp [Value.oneCell']) (by first | (simp only [List.take_succ_cons, List.take_zero, List.take_nil, List.drop_succ_cons, List.drop_zero, List.drop_nil, List.nil_append, List.cons_append, List.append_nil, List.length_cons, List.length_nil, Nat.reduceAdd, Nat.zero_add]; rfl) | rfl) (by first | (simp only [List.set_cons_zero, List.set_cons_succ]; rfl) | rfl) ?_
    refine wl_nil ?_
    refine fq_then ?_
    refine wc_seq ?_
    refine wc_region ?_
    refine wl_q (q_fa (o1 := 0) rfl rfl Fo91_0 rfl) rfl rfl (by decide) ?_
    refine wl_q (q_load rfl rfl Mn3 (reads1 (i := 0) rfl rfl)) rfl rfl (by decide) ?_
    refine wl_q (q_bin rfl rfl rfl rfl) rfl rfl (by decide) ?_
    refine wl_q (q_move rfl rfl) rfl rfl (by decide) ?_
    refine wl_split (t := 20) rfl (fun h20 => ?_) (fun h20 => ?_)
    · skip
      have q20 := h20
      try simp only [decide_eq_true_eq, decide_eq_false_iff_not, beq_iff_eq, beq_eq_false_iff_ne, bne_iff_ne, ne_eq, bne_eq_false_iff_eq, Int.not_lt, Int.not_le] at q20
      refine wl_skip (b := true) rfl rfl rfl rfl (by decide) ?_
      refine wl_skip (b := true) rfl rfl rfl rfl (by decide) ?_
      refine wl_skip (b := true) rfl rfl rfl rfl (by decide) ?_
      refine wl_q (q_pick rfl rfl rfl) rfl rfl (by decide) ?_
      refine wl_q (q_move rfl rfl) rfl rfl (by decide) ?_
      refine wl_skip (b := true) rfl rfl rfl rfl (by decide) ?_
      refine wl_skip (b := true) rfl rfl rfl rfl (by decide) ?_
      refine wl_skip (b := true) rfl rfl rfl rfl (by decide) ?_
      refine wl_q (q_pick rfl rfl rfl) rfl rfl (by decide) ?_
      refine wl_q (q_move rfl rfl) rfl rfl (by decide) ?_
      refine wl_skip (b := true) rfl rfl rfl rfl (by decide) ?_
      refine wl_skip (b := true) rfl rfl rfl rfl (by decide) ?_
      refine wl_skip (b := true) rfl rfl rfl rfl (by decide) ?_
      refine wl_q (q_pick rfl rfl rfl) rfl rfl (by decide) ?_
      refine wl_q (q_move rfl rfl) rfl rfl (by decide) ?_
      refine wl_skip (b := true) rfl rfl rfl rfl (by decide) ?_
      refine wl_skip (b := true) rfl rfl rfl rfl (by decide) ?_
      refine wl_skip (b := true) rfl rfl rfl rfl (by decide) ?_
      refine wl_skip (b := true) rfl rfl rfl rfl (by decide) ?_
      refine wl_skip (b := true) rfl rfl rfl rfl (by decide) ?_
      refine wl_skip (b := true) rfl rfl rfl rfl (by decide) ?_
      refine wl_q (q_pick rfl rfl rfl) rfl rfl (by decide) ?_
      refine wl_nil ?_
      refine fq_then ?_
      refine wc_true rfl ?_
      refine wc_seq ?_
      refine wc_region ?_
      refine wl_q (q_assign rfl rfl) rfl rfl (by decide) ?_
      refine wl_nil ?_
      refine fq_then ?_
      refine wc_ret ?_
      refine fq_block_ret ?_
      refine fq_then_ret ?_
      refine fq_then_ret ?_
      refine fq_block_ret ?_
      refine fq_then_ret ?_
      refine fq_ret1 rfl rfl (fun w1 H => ?_)
      have hbad : PChk.rowB l i = false := by (rw [hat]; first | (rw [show PChk.knB p.f0 = false by unfold PChk.knB; simp; omega]; simp; done) | (rw [show PChk.pwB p.f1 = false by unfold PChk.pwB; simp; omega]; simp; done) | (rw [decide_eq_false (show ¬ PChk.ixf l (fun q => q.f0 == p.f0) = (i : Int) by simpa using q42)]; rfl))
      exact ⟨by rw [PChk.chkB_no b m c l i (by omega) hbad], H.toBelow (by simp)⟩
    · skip
      have q20 := h20
      try simp only [decide_eq_true_eq, decide_eq_false_iff_not, beq_iff_eq, beq_eq_false_iff_ne, bne_iff_ne, ne_eq, bne_eq_false_iff_eq, Int.not_lt, Int.not_le] at q20
      refine wl_want (b := false) (q_fa (o1 := 0) rfl rfl Fo91_0 rfl) rfl rfl rfl rfl (by decide) ?_
      refine wl_want (b := false) (q_load rfl rfl Mn3 (reads1 (i := 0) rfl rfl)) rfl rfl rfl rfl (by decide) ?_
      refine wl_want (b := false) (q_bin rfl rfl rfl rfl) rfl rfl rfl rfl (by decide) ?_
      refine wl_q (q_pick rfl rfl rfl) rfl rfl (by decide) ?_
      refine wl_q (q_move rfl rfl) rfl rfl (by decide) ?_
      refine wl_split (t := 25) rfl (fun h25 => ?_) (fun h25 => ?_)
      · skip
        have q25 := h25
        try simp only [decide_eq_true_eq, decide_eq_false_iff_not, beq_iff_eq, beq_eq_false_iff_ne, bne_iff_ne, ne_eq, bne_eq_false_iff_eq, Int.not_lt, Int.not_le] at q25
        refine wl_skip (b := true) rfl rfl rfl rfl (by decide) ?_
        refine wl_skip (b := true) rfl rfl rfl rfl (by decide) ?_
        refine wl_skip (b := true) rfl rfl rfl rfl (by decide) ?_
        refine wl_q (q_pick rfl rfl rfl) rfl rfl (by decide) ?_
        refine wl_q (q_move rfl rfl) rfl rfl (by decide) ?_
        refine wl_skip (b := true) rfl rfl rfl rfl (by decide) ?_
        refine wl_skip (b := true) rfl rfl rfl rfl (by decide) ?_
        refine wl_skip (b := true) rfl rfl rfl rfl (by decide) ?_
        refine wl_q (q_pick rfl rfl rfl) rfl rfl (by decide) ?_
        refine wl_q (q_move rfl rfl) rfl rfl (by decide) ?_
        refine wl_skip (b := true) rfl rfl rfl rfl (by decide) ?_
        refine wl_skip (b := true) rfl rfl rfl rfl (by decide) ?_
        refine wl_skip (b := true) rfl rfl rfl rfl (by decide) ?_
        refine wl_skip (b := true) rfl rfl rfl rfl (by decide) ?_
        refine wl_skip (b := true) rfl rfl rfl rfl (by decide) ?_
        refine wl_skip (b := true) rfl rfl rfl rfl (by decide) ?_
        refine wl_q (q_pick rfl rfl rfl) rfl rfl (by decide) ?_
        refine wl_nil ?_
        refine fq_then ?_
        refine wc_true rfl ?_
        refine wc_seq ?_
        refine wc_region ?_
        refine wl_q (q_assign rfl rfl) rfl rfl (by decide) ?_
        refine wl_nil ?_
        refine fq_then ?_
        refine wc_ret ?_
        refine fq_block_ret ?_
        refine fq_then_ret ?_
        refine fq_then_ret ?_
        refine fq_block_ret ?_
        refine fq_then_ret ?_
        refine fq_ret1 rfl rfl (fun w1 H => ?_)
        have hbad : PChk.rowB l i = false := by (rw [hat]; first | (rw [show PChk.knB p.f0 = false by unfold PChk.knB; simp; omega]; simp; done) | (rw [show PChk.pwB p.f1 = false by unfold PChk.pwB; simp; omega]; simp; done) | (rw [decide_eq_false (show ¬ PChk.ixf l (fun q => q.f0 == p.f0) = (i : Int) by simpa using q42)]; rfl))
        exact ⟨by rw [PChk.chkB_no b m c l i (by omega) hbad], H.toBelow (by simp)⟩
      · skip
        have q25 := h25
        try simp only [decide_eq_true_eq, decide_eq_false_iff_not, beq_iff_eq, beq_eq_false_iff_ne, bne_iff_ne, ne_eq, bne_eq_false_iff_eq, Int.not_lt, Int.not_le] at q25
        refine wl_want (b := false) (q_fa (o1 := 1) rfl rfl Fo91_1 rfl) rfl rfl rfl rfl (by decide) ?_
        refine wl_want (b := false) (q_load rfl rfl Mn3 (reads1 (i := 0) rfl rfl)) rfl rfl rfl rfl (by decide) ?_
        refine wl_want (b := false) (q_bin rfl rfl rfl rfl) rfl rfl rfl rfl (by decide) ?_
        refine wl_q (q_pick rfl rfl rfl) rfl rfl (by decide) ?_
        refine wl_q (q_move rfl rfl) rfl rfl (by decide) ?_
        refine wl_split (t := 30) rfl (fun h30 => ?_) (fun h30 => ?_)
        · skip
          have q30 := h30
          try simp only [decide_eq_true_eq, decide_eq_false_iff_not, beq_iff_eq, beq_eq_false_iff_ne, bne_iff_ne, ne_eq, bne_eq_false_iff_eq, Int.not_lt, Int.not_le] at q30
          refine wl_skip (b := true) rfl rfl rfl rfl (by decide) ?_
          refine wl_skip (b := true) rfl rfl rfl rfl (by decide) ?_
          refine wl_skip (b := true) rfl rfl rfl rfl (by decide) ?_
          refine wl_q (q_pick rfl rfl rfl) rfl rfl (by decide) ?_
          refine wl_q (q_move rfl rfl) rfl rfl (by decide) ?_
          refine wl_skip (b := true) rfl rfl rfl rfl (by decide) ?_
          refine wl_skip (b := true) rfl rfl rfl rfl (by decide) ?_
          refine wl_skip (b := true) rfl rfl rfl rfl (by decide) ?_
          refine wl_skip (b := true) rfl rfl rfl rfl (by decide) ?_
          refine wl_skip (b := true) rfl rfl rfl rfl (by decide) ?_
          refine wl_skip (b := true) rfl rfl rfl rfl (by decide) ?_
          refine wl_q (q_pick rfl rfl rfl) rfl rfl (by decide) ?_
          refine wl_nil ?_
          refine fq_then ?_
          refine wc_true rfl ?_
          refine wc_seq ?_
          refine wc_region ?_
          refine wl_q (q_assign rfl rfl) rfl rfl (by decide) ?_
          refine wl_nil ?_
          refine fq_then ?_
          refine wc_ret ?_
          refine fq_block_ret ?_
          refine fq_then_ret ?_
          refine fq_then_ret ?_
          refine fq_block_ret ?_
          refine fq_then_ret ?_
          refine fq_ret1 rfl rfl (fun w1 H => ?_)
          have hbad : PChk.rowB l i = false := by (rw [hat]; first | (rw [show PChk.knB p.f0 = false by unfold PChk.knB; simp; omega]; simp; done) | (rw [show PChk.pwB p.f1 = false by unfold PChk.pwB; simp; omega]; simp; done) | (rw [decide_eq_false (show ¬ PChk.ixf l (fun q => q.f0 == p.f0) = (i : Int) by simpa using q42)]; rfl))
          exact ⟨by rw [PChk.chkB_no b m c l i (by omega) hbad], H.toBelow (by simp)⟩
        · skip
          have q30 := h30
          try simp only [decide_eq_true_eq, decide_eq_false_iff_not, beq_iff_eq, beq_eq_false_iff_ne, bne_iff_ne, ne_eq, bne_eq_false_iff_eq, Int.not_lt, Int.not_le] at q30
          refine wl_want (b := false) (q_fa (o1 := 1) rfl rfl Fo91_1 rfl) rfl rfl rfl rfl (by decide) ?_
          refine wl_want (b := false) (q_load rfl rfl Mn3 (reads1 (i := 0) rfl rfl)) rfl rfl rfl rfl (by decide) ?_
          refine wl_want (b := false) (q_bin rfl rfl rfl rfl) rfl rfl rfl rfl (by decide) ?_
          refine wl_q (q_pick rfl rfl rfl) rfl rfl (by decide) ?_
          refine wl_q (q_move rfl rfl) rfl rfl (by decide) ?_
          refine wl_split (t := 35) rfl (fun h35 => ?_) (fun h35 => ?_)
          · skip
            have q35 := h35
            try simp only [decide_eq_true_eq, decide_eq_false_iff_not, beq_iff_eq, beq_eq_false_iff_ne, bne_iff_ne, ne_eq, bne_eq_false_iff_eq, Int.not_lt, Int.not_le] at q35
            refine wl_skip (b := true) rfl rfl rfl rfl (by decide) ?_
            refine wl_skip (b := true) rfl rfl rfl rfl (by decide) ?_
            refine wl_skip (b := true) rfl rfl rfl rfl (by decide) ?_
            refine wl_skip (b := true) rfl rfl rfl rfl (by decide) ?_
            refine wl_skip (b := true) rfl rfl rfl rfl (by decide) ?_
            refine wl_skip (b := true) rfl rfl rfl rfl (by decide) ?_
            refine wl_q (q_pick rfl rfl rfl) rfl rfl (by decide) ?_
            refine wl_nil ?_
            refine fq_then ?_
            refine wc_true rfl ?_
            refine wc_seq ?_
            refine wc_region ?_
            refine wl_q (q_assign rfl rfl) rfl rfl (by decide) ?_
            refine wl_nil ?_
            refine fq_then ?_
            refine wc_ret ?_
            refine fq_block_ret ?_
            refine fq_then_ret ?_
            refine fq_then_ret ?_
            refine fq_block_ret ?_
            refine fq_then_ret ?_
            refine fq_ret1 rfl rfl (fun w1 H => ?_)
            have hbad : PChk.rowB l i = false := by (rw [hat]; first | (rw [show PChk.knB p.f0 = false by unfold PChk.knB; simp; omega]; simp; done) | (rw [show PChk.pwB p.f1 = false by unfold PChk.pwB; simp; omega]; simp; done) | (rw [decide_eq_false (show ¬ PChk.ixf l (fun q => q.f0 == p.f0) = (i : Int) by simpa using q42)]; rfl))
            exact ⟨by rw [PChk.chkB_no b m c l i (by omega) hbad], H.toBelow (by simp)⟩
          · skip
            have q35 := h35
            try simp only [decide_eq_true_eq, decide_eq_false_iff_not, beq_iff_eq, beq_eq_false_iff_ne, bne_iff_ne, ne_eq, bne_eq_false_iff_eq, Int.not_lt, Int.not_le] at q35
            refine wl_want (b := false) (q_loadA rfl rfl Mn42 Sz42 rfl (readsAll (i := 1) rfl)) rfl rfl rfl rfl (by decide) ?_
            refine wl_want (b := false) (q_fa (o1 := 0) rfl rfl Fo91_0 rfl) rfl rfl rfl rfl (by decide) ?_
            refine wl_want (b := false) (q_load rfl rfl Mn3 (reads1 (i := 0) rfl rfl)) rfl rfl rfl rfl (by decide) ?_
            refine wl_want (b := false) (q_call rfl En40 rfl (fun w1 hw1 => rfind_calls b m c q l p.f0 w1 (hr.below (hw1.toBelow (by simp))) hl)) rfl rfl rfl rfl (by decide) ?_
            refine wl_want (b := false) (q_move rfl rfl) rfl rfl rfl rfl (by decide) ?_
            refine wl_want (b := false) (q_bin rfl rfl rfl rfl) rfl rfl rfl rfl (by decide) ?_
            refine wl_q (q_pick rfl rfl rfl) rfl rfl (by decide) ?_
            refine wl_nil ?_
            refine fq_then ?_
            refine wc_cond rfl (fun h42 => ?_) (fun h42 => ?_)
            · skip
              have q42 := h42
              try simp only [decide_eq_true_eq, decide_eq_false_iff_not, beq_iff_eq, beq_eq_false_iff_ne, bne_iff_ne, ne_eq, bne_eq_false_iff_eq, Int.not_lt, Int.not_le] at q42
              refine wc_seq ?_
              refine wc_region ?_
              refine wl_q (q_assign rfl rfl) rfl rfl (by decide) ?_
              refine wl_nil ?_
              refine fq_then ?_
              refine wc_ret ?_
              refine fq_block_ret ?_
              refine fq_then_ret ?_
              refine fq_then_ret ?_
              refine fq_block_ret ?_
              refine fq_then_ret ?_
              refine fq_ret1 rfl rfl (fun w1 H => ?_)
              have hbad : PChk.rowB l i = false := by (rw [hat]; first | (rw [show PChk.knB p.f0 = false by unfold PChk.knB; simp; omega]; simp; done) | (rw [show PChk.pwB p.f1 = false by unfold PChk.pwB; simp; omega]; simp; done) | (rw [decide_eq_false (show ¬ PChk.ixf l (fun q => q.f0 == p.f0) = (i : Int) by simpa using q42)]; rfl))
              exact ⟨by rw [PChk.chkB_no b m c l i (by omega) hbad], H.toBelow (by simp)⟩
            · skip
              have q42 := h42
              try simp only [decide_eq_true_eq, decide_eq_false_iff_not, beq_iff_eq, beq_eq_false_iff_ne, bne_iff_ne, ne_eq, bne_eq_false_iff_eq, Int.not_lt, Int.not_le] at q42
              refine wc_skip ?_
              refine fq_block ?_
              refine fq_then ?_
              refine wc_region ?_
              refine wl_q (q_move rfl rfl) rfl rfl (by decide) ?_
              refine wl_q (q_bin rfl rfl rfl rfl) rfl rfl (by decide) ?_
              refine wl_q (q_assign rfl rfl) rfl rfl (by decide) ?_
              refine wl_nil ?_
              refine fq_next (i + 1) ⟨by omega, by rw [PChk.rowsB_succ, hrows, hat, decide_eq_true (show PChk.ixf l (fun q => q.f0 == p.f0) = (i : Int) by simpa using q42), show PChk.knB p.f0 = true by unfold PChk.knB; simp; omega, show PChk.pwB p.f1 = true by unfold PChk.pwB; simp; omega]; rfl⟩ (show l.length - (i + 1) < l.length - i by omega) ⟨List.forall_mem_cons.2 ⟨rfl, List.forall_mem_cons.2 ⟨(show some (Value.int .i64 (IntKind.i64.wrap ((i : Int) + 1))) = some (Value.int .i64 ((i + 1 : Nat) : Int)) from by rw [wi]), fun _ h => (by cases h)⟩⟩, List.Sublist.cons _ (List.Sublist.cons_cons _ (List.Sublist.cons_cons _ (List.Sublist.refl [])))⟩
  · skip
    have q9 := h9
    try simp only [decide_eq_true_eq, decide_eq_false_iff_not, beq_iff_eq, beq_eq_false_iff_ne, bne_iff_ne, ne_eq, bne_eq_false_iff_eq, Int.not_lt, Int.not_le] at q9
    refine wc_exit ?_
    refine fq_then_exit ?_
    refine fq_then_exit ?_
    refine fq_block_hit ?_
    refine fq_then ?_
    refine wc_seq ?_
    obtain rfl : i = l.length := by omega
    have hmem := rowsB_mem hrows
    cases hd46 : (PChk.pwB b)
    · skip
      cases hd51 : (PChk.pwB m)
      · skip
        cases hd56 : (PChk.pwB c)
        · skip
          refine wc_draw 21 Fol (by kernel_rfl) (Chain.yield (q_fa (o1 := 0) rfl rfl Fo42_0 rfl) rfl rfl (Chain.yield (q_load rfl rfl Mn3 (reads1 (i := 0) rfl rfl)) rfl rfl (Chain.yield (q_call rfl En69 rfl (fun w1 hw1 => rpow_calls b w1)) rfl rfl (Chain.yield ((OpQ.to (q_move rfl rfl) (congrArg Value.bool hd46))) rfl rfl (Chain.skip (b := false) rfl rfl rfl rfl (Chain.skip (b := false) rfl rfl rfl rfl (Chain.skip (b := false) rfl rfl rfl rfl (Chain.yield (q_pick rfl rfl rfl) rfl rfl (Chain.yield (q_move rfl rfl) rfl rfl (Chain.skip (b := false) rfl rfl rfl rfl (Chain.skip (b := false) rfl rfl rfl rfl (Chain.skip (b := false) rfl rfl rfl rfl (Chain.yield (q_pick rfl rfl rfl) rfl rfl (Chain.yield (q_move rfl rfl) rfl rfl (Chain.skip (b := false) rfl rfl rfl rfl (Chain.skip (b := false) rfl rfl rfl rfl (Chain.skip (b := false) rfl rfl rfl rfl (Chain.skip (b := false) rfl rfl rfl rfl (Chain.skip (b := false) rfl rfl rfl rfl (Chain.yield (q_pick rfl rfl rfl) rfl rfl (Chain.yield (q_assign rfl rfl) rfl rfl (Chain.nil _)))))))))))))))))))))) ?_
          refine wl_nil ?_
          refine fq_then ?_
          refine wc_ret ?_
          refine fq_ret1 rfl rfl (fun w1 H => ?_)
          refine ⟨?_, H.toBelow (by simp)⟩
          congr 2
          unfold PChk.chkB
          rw [hrows]
          first | (rw [hd46]; rfl) | (rw [hd46, hd51]; rfl) | (rw [hd46, hd51, hd56]; rfl)
        · skip
          refine wc_draw 21 Fol (by kernel_rfl) (Chain.yield (q_fa (o1 := 0) rfl rfl Fo42_0 rfl) rfl rfl (Chain.yield (q_load rfl rfl Mn3 (reads1 (i := 0) rfl rfl)) rfl rfl (Chain.yield (q_call rfl En69 rfl (fun w1 hw1 => rpow_calls b w1)) rfl rfl (Chain.yield ((OpQ.to (q_move rfl rfl) (congrArg Value.bool hd46))) rfl rfl (Chain.skip (b := false) rfl rfl rfl rfl (Chain.skip (b := false) rfl rfl rfl rfl (Chain.skip (b := false) rfl rfl rfl rfl (Chain.yield (q_pick rfl rfl rfl) rfl rfl (Chain.yield (q_move rfl rfl) rfl rfl (Chain.skip (b := false) rfl rfl rfl rfl (Chain.skip (b := false) rfl rfl rfl rfl (Chain.skip (b := false) rfl rfl rfl rfl (Chain.yield (q_pick rfl rfl rfl) rfl rfl (Chain.yield (q_move rfl rfl) rfl rfl (Chain.skip (b := false) rfl rfl rfl rfl (Chain.skip (b := false) rfl rfl rfl rfl (Chain.skip (b := false) rfl rfl rfl rfl (Chain.skip (b := false) rfl rfl rfl rfl (Chain.skip (b := false) rfl rfl rfl rfl (Chain.yield (q_pick rfl rfl rfl) rfl rfl (Chain.yield (q_assign rfl rfl) rfl rfl (Chain.nil _)))))))))))))))))))))) ?_
          refine wl_nil ?_
          refine fq_then ?_
          refine wc_ret ?_
          refine fq_ret1 rfl rfl (fun w1 H => ?_)
          refine ⟨?_, H.toBelow (by simp)⟩
          congr 2
          unfold PChk.chkB
          rw [hrows]
          first | (rw [hd46]; rfl) | (rw [hd46, hd51]; rfl) | (rw [hd46, hd51, hd56]; rfl)
      · skip
        cases hd56 : (PChk.pwB c)
        · skip
          refine wc_draw 21 Fol (by kernel_rfl) (Chain.yield (q_fa (o1 := 0) rfl rfl Fo42_0 rfl) rfl rfl (Chain.yield (q_load rfl rfl Mn3 (reads1 (i := 0) rfl rfl)) rfl rfl (Chain.yield (q_call rfl En69 rfl (fun w1 hw1 => rpow_calls b w1)) rfl rfl (Chain.yield ((OpQ.to (q_move rfl rfl) (congrArg Value.bool hd46))) rfl rfl (Chain.skip (b := false) rfl rfl rfl rfl (Chain.skip (b := false) rfl rfl rfl rfl (Chain.skip (b := false) rfl rfl rfl rfl (Chain.yield (q_pick rfl rfl rfl) rfl rfl (Chain.yield (q_move rfl rfl) rfl rfl (Chain.skip (b := false) rfl rfl rfl rfl (Chain.skip (b := false) rfl rfl rfl rfl (Chain.skip (b := false) rfl rfl rfl rfl (Chain.yield (q_pick rfl rfl rfl) rfl rfl (Chain.yield (q_move rfl rfl) rfl rfl (Chain.skip (b := false) rfl rfl rfl rfl (Chain.skip (b := false) rfl rfl rfl rfl (Chain.skip (b := false) rfl rfl rfl rfl (Chain.skip (b := false) rfl rfl rfl rfl (Chain.skip (b := false) rfl rfl rfl rfl (Chain.yield (q_pick rfl rfl rfl) rfl rfl (Chain.yield (q_assign rfl rfl) rfl rfl (Chain.nil _)))))))))))))))))))))) ?_
          refine wl_nil ?_
          refine fq_then ?_
          refine wc_ret ?_
          refine fq_ret1 rfl rfl (fun w1 H => ?_)
          refine ⟨?_, H.toBelow (by simp)⟩
          congr 2
          unfold PChk.chkB
          rw [hrows]
          first | (rw [hd46]; rfl) | (rw [hd46, hd51]; rfl) | (rw [hd46, hd51, hd56]; rfl)
        · skip
          refine wc_draw 21 Fol (by kernel_rfl) (Chain.yield (q_fa (o1 := 0) rfl rfl Fo42_0 rfl) rfl rfl (Chain.yield (q_load rfl rfl Mn3 (reads1 (i := 0) rfl rfl)) rfl rfl (Chain.yield (q_call rfl En69 rfl (fun w1 hw1 => rpow_calls b w1)) rfl rfl (Chain.yield ((OpQ.to (q_move rfl rfl) (congrArg Value.bool hd46))) rfl rfl (Chain.skip (b := false) rfl rfl rfl rfl (Chain.skip (b := false) rfl rfl rfl rfl (Chain.skip (b := false) rfl rfl rfl rfl (Chain.yield (q_pick rfl rfl rfl) rfl rfl (Chain.yield (q_move rfl rfl) rfl rfl (Chain.skip (b := false) rfl rfl rfl rfl (Chain.skip (b := false) rfl rfl rfl rfl (Chain.skip (b := false) rfl rfl rfl rfl (Chain.yield (q_pick rfl rfl rfl) rfl rfl (Chain.yield (q_move rfl rfl) rfl rfl (Chain.skip (b := false) rfl rfl rfl rfl (Chain.skip (b := false) rfl rfl rfl rfl (Chain.skip (b := false) rfl rfl rfl rfl (Chain.skip (b := false) rfl rfl rfl rfl (Chain.skip (b := false) rfl rfl rfl rfl (Chain.yield (q_pick rfl rfl rfl) rfl rfl (Chain.yield (q_assign rfl rfl) rfl rfl (Chain.nil _)))))))))))))))))))))) ?_
          refine wl_nil ?_
          refine fq_then ?_
          refine wc_ret ?_
          refine fq_ret1 rfl rfl (fun w1 H => ?_)
          refine ⟨?_, H.toBelow (by simp)⟩
          congr 2
          unfold PChk.chkB
          rw [hrows]
          first | (rw [hd46]; rfl) | (rw [hd46, hd51]; rfl) | (rw [hd46, hd51, hd56]; rfl)
    · skip
      cases hd51 : (PChk.pwB m)
      · skip
        cases hd56 : (PChk.pwB c)
        · skip
          refine wc_draw 21 Fol (by kernel_rfl) (Chain.yield (q_fa (o1 := 0) rfl rfl Fo42_0 rfl) rfl rfl (Chain.yield (q_load rfl rfl Mn3 (reads1 (i := 0) rfl rfl)) rfl rfl (Chain.yield (q_call rfl En69 rfl (fun w1 hw1 => rpow_calls b w1)) rfl rfl (Chain.yield ((OpQ.to (q_move rfl rfl) (congrArg Value.bool hd46))) rfl rfl (Chain.want (q_fa (o1 := 1) rfl rfl Fo42_1 rfl) rfl rfl rfl rfl (Chain.want (q_load rfl rfl Mn3 (reads1 (i := 0) rfl rfl)) rfl rfl rfl rfl (Chain.want (q_call rfl En69 rfl (fun w1 hw1 => rpow_calls m w1)) rfl rfl rfl rfl (Chain.yield (q_pick rfl rfl rfl) rfl rfl (Chain.yield ((OpQ.to (q_move rfl rfl) (congrArg Value.bool hd51))) rfl rfl (Chain.skip (b := false) rfl rfl rfl rfl (Chain.skip (b := false) rfl rfl rfl rfl (Chain.skip (b := false) rfl rfl rfl rfl (Chain.yield (q_pick rfl rfl rfl) rfl rfl (Chain.yield (q_move rfl rfl) rfl rfl (Chain.skip (b := false) rfl rfl rfl rfl (Chain.skip (b := false) rfl rfl rfl rfl (Chain.skip (b := false) rfl rfl rfl rfl (Chain.skip (b := false) rfl rfl rfl rfl (Chain.skip (b := false) rfl rfl rfl rfl (Chain.yield (q_pick rfl rfl rfl) rfl rfl (Chain.yield (q_assign rfl rfl) rfl rfl (Chain.nil _)))))))))))))))))))))) ?_
          refine wl_nil ?_
          refine fq_then ?_
          refine wc_ret ?_
          refine fq_ret1 rfl rfl (fun w1 H => ?_)
          refine ⟨?_, H.toBelow (by simp)⟩
          congr 2
          unfold PChk.chkB
          rw [hrows]
          first | (rw [hd46]; rfl) | (rw [hd46, hd51]; rfl) | (rw [hd46, hd51, hd56]; rfl)
        · skip
          refine wc_draw 21 Fol (by kernel_rfl) (Chain.yield (q_fa (o1 := 0) rfl rfl Fo42_0 rfl) rfl rfl (Chain.yield (q_load rfl rfl Mn3 (reads1 (i := 0) rfl rfl)) rfl rfl (Chain.yield (q_call rfl En69 rfl (fun w1 hw1 => rpow_calls b w1)) rfl rfl (Chain.yield ((OpQ.to (q_move rfl rfl) (congrArg Value.bool hd46))) rfl rfl (Chain.want (q_fa (o1 := 1) rfl rfl Fo42_1 rfl) rfl rfl rfl rfl (Chain.want (q_load rfl rfl Mn3 (reads1 (i := 0) rfl rfl)) rfl rfl rfl rfl (Chain.want (q_call rfl En69 rfl (fun w1 hw1 => rpow_calls m w1)) rfl rfl rfl rfl (Chain.yield (q_pick rfl rfl rfl) rfl rfl (Chain.yield ((OpQ.to (q_move rfl rfl) (congrArg Value.bool hd51))) rfl rfl (Chain.skip (b := false) rfl rfl rfl rfl (Chain.skip (b := false) rfl rfl rfl rfl (Chain.skip (b := false) rfl rfl rfl rfl (Chain.yield (q_pick rfl rfl rfl) rfl rfl (Chain.yield (q_move rfl rfl) rfl rfl (Chain.skip (b := false) rfl rfl rfl rfl (Chain.skip (b := false) rfl rfl rfl rfl (Chain.skip (b := false) rfl rfl rfl rfl (Chain.skip (b := false) rfl rfl rfl rfl (Chain.skip (b := false) rfl rfl rfl rfl (Chain.yield (q_pick rfl rfl rfl) rfl rfl (Chain.yield (q_assign rfl rfl) rfl rfl (Chain.nil _)))))))))))))))))))))) ?_
          refine wl_nil ?_
          refine fq_then ?_
          refine wc_ret ?_
          refine fq_ret1 rfl rfl (fun w1 H => ?_)
          refine ⟨?_, H.toBelow (by simp)⟩
          congr 2
          unfold PChk.chkB
          rw [hrows]
          first | (rw [hd46]; rfl) | (rw [hd46, hd51]; rfl) | (rw [hd46, hd51, hd56]; rfl)
      · skip
        cases hd56 : (PChk.pwB c)
        · skip
          refine wc_draw 21 Fol (by kernel_rfl) (Chain.yield (q_fa (o1 := 0) rfl rfl Fo42_0 rfl) rfl rfl (Chain.yield (q_load rfl rfl Mn3 (reads1 (i := 0) rfl rfl)) rfl rfl (Chain.yield (q_call rfl En69 rfl (fun w1 hw1 => rpow_calls b w1)) rfl rfl (Chain.yield ((OpQ.to (q_move rfl rfl) (congrArg Value.bool hd46))) rfl rfl (Chain.want (q_fa (o1 := 1) rfl rfl Fo42_1 rfl) rfl rfl rfl rfl (Chain.want (q_load rfl rfl Mn3 (reads1 (i := 0) rfl rfl)) rfl rfl rfl rfl (Chain.want (q_call rfl En69 rfl (fun w1 hw1 => rpow_calls m w1)) rfl rfl rfl rfl (Chain.yield (q_pick rfl rfl rfl) rfl rfl (Chain.yield ((OpQ.to (q_move rfl rfl) (congrArg Value.bool hd51))) rfl rfl (Chain.want (q_fa (o1 := 2) rfl rfl Fo42_2 rfl) rfl rfl rfl rfl (Chain.want (q_load rfl rfl Mn3 (reads1 (i := 0) rfl rfl)) rfl rfl rfl rfl (Chain.want (q_call rfl En69 rfl (fun w1 hw1 => rpow_calls c w1)) rfl rfl rfl rfl (Chain.yield (q_pick rfl rfl rfl) rfl rfl (Chain.yield ((OpQ.to (q_move rfl rfl) (congrArg Value.bool hd56))) rfl rfl (Chain.skip (b := false) rfl rfl rfl rfl (Chain.skip (b := false) rfl rfl rfl rfl (Chain.skip (b := false) rfl rfl rfl rfl (Chain.skip (b := false) rfl rfl rfl rfl (Chain.skip (b := false) rfl rfl rfl rfl (Chain.yield (q_pick rfl rfl rfl) rfl rfl (Chain.yield (q_assign rfl rfl) rfl rfl (Chain.nil _)))))))))))))))))))))) ?_
          refine wl_nil ?_
          refine fq_then ?_
          refine wc_ret ?_
          refine fq_ret1 rfl rfl (fun w1 H => ?_)
          refine ⟨?_, H.toBelow (by simp)⟩
          congr 2
          unfold PChk.chkB
          rw [hrows]
          first | (rw [hd46]; rfl) | (rw [hd46, hd51]; rfl) | (rw [hd46, hd51, hd56]; rfl)
        · skip
          refine wc_draw 21 Fol (by kernel_rfl) (Chain.yield (q_fa (o1 := 0) rfl rfl Fo42_0 rfl) rfl rfl (Chain.yield (q_load rfl rfl Mn3 (reads1 (i := 0) rfl rfl)) rfl rfl (Chain.yield (q_call rfl En69 rfl (fun w1 hw1 => rpow_calls b w1)) rfl rfl (Chain.yield ((OpQ.to (q_move rfl rfl) (congrArg Value.bool hd46))) rfl rfl (Chain.want (q_fa (o1 := 1) rfl rfl Fo42_1 rfl) rfl rfl rfl rfl (Chain.want (q_load rfl rfl Mn3 (reads1 (i := 0) rfl rfl)) rfl rfl rfl rfl (Chain.want (q_call rfl En69 rfl (fun w1 hw1 => rpow_calls m w1)) rfl rfl rfl rfl (Chain.yield (q_pick rfl rfl rfl) rfl rfl (Chain.yield ((OpQ.to (q_move rfl rfl) (congrArg Value.bool hd51))) rfl rfl (Chain.want (q_fa (o1 := 2) rfl rfl Fo42_2 rfl) rfl rfl rfl rfl (Chain.want (q_load rfl rfl Mn3 (reads1 (i := 0) rfl rfl)) rfl rfl rfl rfl (Chain.want (q_call rfl En69 rfl (fun w1 hw1 => rpow_calls c w1)) rfl rfl rfl rfl (Chain.yield (q_pick rfl rfl rfl) rfl rfl (Chain.yield ((OpQ.to (q_move rfl rfl) (congrArg Value.bool hd56))) rfl rfl (Chain.want (q_loadA rfl rfl Mn42 Sz42 rfl (readsAll (i := 0) rfl)) rfl rfl rfl rfl (Chain.want (q_call rfl En41 rfl (fun w1 hw1 => rsum_calls b m c q l w1 (hr.below (hw1.toBelow (by simp))) hl hmem)) rfl rfl rfl rfl (Chain.want (q_fa (o1 := 0) rfl rfl Fo42_0 rfl) rfl rfl rfl rfl (Chain.want (q_load rfl rfl Mn3 (reads1 (i := 0) rfl rfl)) rfl rfl rfl rfl (Chain.want (q_bin rfl rfl rfl rfl) rfl rfl rfl rfl (Chain.yield (q_pick rfl rfl rfl) rfl rfl (Chain.yield (q_assign rfl rfl) rfl rfl (Chain.nil _)))))))))))))))))))))) ?_
          refine wl_nil ?_
          refine fq_then ?_
          refine wc_ret ?_
          refine fq_ret1 rfl rfl (fun w1 H => ?_)
          refine ⟨?_, H.toBelow (by simp)⟩
          congr 2
          unfold PChk.chkB
          rw [hrows]
          first | (rw [hd46]; rfl) | (rw [hd46, hd51]; rfl) | (rw [hd46, hd51, hd56]; rfl)
end Go.Proofs.YtbcijmpkmmcdeaaDoor.SF
end
section
namespace Go.Proofs.YtbcijmpkmmcdeaaDoor.SF
open Go.RowKit Go.Sx Go.Proofs.YtbcijmpkmmcdeaaDoor.PAll Go.Proofs.YtbcijmpkmmcdeaaDoorW.PrintWords Go.Proofs.YtbcijmpkmmcdeaaDoorW.PrintLast Go.Proofs.YtbcijmpkmmcdeaaDoorW.PrintMore
open Go.Proofs.YtbcijmpkmmcdeaaDoor.Pure (le puts sealed w64 wu64 bt_str str_drop str_extract ref_get_ev ref_part_l0 refRes ref_open_ev ref_open_short rd_nat str_app)
set_option linter.unusedVariables false
set_option linter.unusedSimpArgs false
set_option maxRecDepth 100000
theorem ropen_ev {l : List Int} (hb : ∀ x ∈ l, 0 ≤ x ∧ x ≤ 255) (hl : l.length ≤ 10000) : Ev (fun k => paternosterref02_Open.f k (strOfNums l)) (strOfNums (openF l).1, (openF l).2) := by
  rcases Nat.lt_or_ge l.length 4 with h | h
  · refine (Ev.now _).eq (fun k => (ref_open_short l h k).trans ?_)
    unfold openF
    rw [if_neg (by omega)]
    rfl
  · obtain ⟨K, hK⟩ := ref_open_ev l h hb hl
    refine ⟨K, fun k hk => (hK k hk).trans ?_⟩
    unfold openF
    by_cases he : sealed (l.take (l.length - 4)) = l
    · rw [if_pos he, if_pos ⟨h, he⟩]
    · rw [if_neg he, if_neg (fun h => he h.2)]
      rfl
theorem rpart_ev {l : List Int} (hb : ∀ x ∈ l, 0 ≤ x ∧ x ≤ 255) (hl : l.length ≤ 10000) : Ev (fun k => paternosterref01_Part.f k (strOfNums l)) (refRes [] (PAll.partsF l.length l)) :=
  ref_part_l0 l.length l [] (Nat.le_refl _) hb (by omega) (by rw [List.length_nil]; omega)
theorem gets_at (sz m j : Nat) (l : List Int) (h : j < m) : (gets sz m l).getD j 0 = leNum ((l.drop (j * sz)).take sz) := by
  unfold gets
  rw [List.getD_eq_getElem?_getD, List.getElem?_map, List.getElem?_range h]
  rfl
theorem le4_small {l : List Int} (hb : ∀ x ∈ l, 0 ≤ x ∧ x ≤ 255) : 0 ≤ leNum (l.take 4) ∧ leNum (l.take 4) < 4294967296 := by
  obtain ⟨h1, h2⟩ := leNum_lt (l.take 4) (fun x hx => hb x (List.mem_of_mem_take hx))
  have h3 : (l.take 4).length ≤ 4 := by rw [List.length_take]; omega
  have h4 : (256 : Int) ^ (l.take 4).length ≤ 256 ^ 4 := by
    have : (256 : Nat) ^ (l.take 4).length ≤ 256 ^ 4 := Nat.pow_le_pow_right (by decide) h3
    exact_mod_cast this
  exact ⟨h1, Int.lt_of_lt_of_le h2 h4⟩
theorem i64_small {x : Int} (h : 0 ≤ x ∧ x < 4294967296) : IntKind.i64.wrap x = wrap64 x := by rw [wrap_id (by omega), w64 _ (by omega)]
theorem gP_is {rows : List (List Int)} {j : Nat} (h : j < (rows.getD 2 []).length / 8) (hb : ∀ x ∈ rows.getD 2 [], 0 ≤ x ∧ x ≤ 255) :
    gP rows j = ⟨wrap64 (leNum (((rows.getD 2 []).drop (8 * j)).take 4)), wrap64 (leNum (((rows.getD 2 []).drop (8 * j + 4)).take 4))⟩ := by
  unfold gP
  show (⟨IntKind.i64.wrap ((gets 4 ((rows.getD 2 []).length / 8 * 2) (rows.getD 2 [])).getD (j * 2) 0), IntKind.i64.wrap ((gets 4 ((rows.getD 2 []).length / 8 * 2) (rows.getD 2 [])).getD (j * 2 + 1) 0)⟩ : S51) = _
  rw [gets_at _ _ _ _ (by omega), gets_at _ _ _ _ (by omega), show j * 2 * 4 = 8 * j by omega, show (j * 2 + 1) * 4 = 8 * j + 4 by omega]
  rw [i64_small (le4_small (fun x hx => hb x (List.mem_of_mem_drop hx))), i64_small (le4_small (fun x hx => hb x (List.mem_of_mem_drop hx)))]
theorem jget_seq {b : List Int} (hB : Bytes b) : 0 ≤ (jget b).seq := by
  have hb := hB.2
  obtain ⟨ho1, ho2⟩ := openF_sub b
  unfold jget jgot
  cases (openF b).2 with
  | false => exact Int.le_refl 0
  | true =>
    cases hq : PAll.partsF (openF b).1.length (openF b).1 with
    | none => exact Int.le_refl 0
    | some rows =>
      show 0 ≤ (if gOK rows = true then (⟨gBud rows, gMar rows, gPs rows, gSeq rows, 0⟩ : JG) else ⟨0, 0, [], 0, 11⟩).seq
      split
      · show 0 ≤ (gets 8 1 (rows.getD 0 [])).getD 0 0
        rw [gets_at _ _ _ _ (by decide)]
        refine (leNum_lt _ (fun x hx => ?_)).1
        have hx2 := List.mem_of_mem_drop (List.mem_of_mem_take hx)
        rw [List.getD_eq_getElem?_getD] at hx2
        cases hr : rows[0]? with
        | none => rw [hr] at hx2; cases hx2
        | some r => rw [hr] at hx2; exact hb x (ho2 x ((parts_sub _ _ _ hq r (List.mem_of_getElem? hr)).2 x hx2))
      · exact Int.le_refl 0
end Go.Proofs.YtbcijmpkmmcdeaaDoor.SF
end
section
namespace Go.Sx
open Go.RowKit
set_option linter.unusedVariables false
set_option linter.unusedSimpArgs false
structure Upd (b : Nat) (T : TypeId) (cs cs' : List Value) (w w' : World) : Prop where
  os : w'.os = w.os
  tape : w'.tape = w.tape
  output : w'.output = w.output
  size : w.heap.size ≤ w'.heap.size
  was : Blk w b cs T
  now : Blk w' b cs' T
  other : ∀ k, k < w.heap.size → k ≠ b → w'.heap[k]? = w.heap[k]?
theorem Upd.below {b : Nat} {T : TypeId} {cs cs' : List Value} {w w' : World} {n : Nat} (h : Upd b T cs cs' w w') (hn : n ≤ b) (hn2 : n ≤ w.heap.size) : Below n w w' :=
  ⟨h.os, h.tape, h.output, h.size, fun k hk => h.other k (by omega) (by omega)⟩
theorem Upd.cell {b : Nat} {T : TypeId} {cs cs' : List Value} {w w' : World} {ad : Addr} {v : Value} (h : Upd b T cs cs' w w') (hc : w.cell? ad = some v) (hn : ad.block ≠ b) : w'.cell? ad = some v := by
  rw [cell_move (w := w) (h.other ad.block (block_lt_of_cell hc) hn)]
  exact hc
theorem Upd.blk {b b2 : Nat} {T T2 : TypeId} {cs cs' cs2 : List Value} {w w' : World} (h : Upd b T cs cs' w w') (h2 : Blk w b2 cs2 T2) (hT : T2 ≠ T) : Blk w' b2 cs2 T2 := by
  have hb : b2 ≠ b := by
    rintro rfl
    have h3 := (Option.some.inj (h2.symm.trans h.was))
    cases h3
    exact hT rfl
  exact (h.other b2 (Array.getElem?_eq_some_iff.1 h2).1 hb).trans h2
end Go.Sx
end
section
namespace Go.Sx
open Go.RowKit Go.Proofs.YtbcijmpkmmcdeaaDoorW.PrintWords
set_option linter.unusedVariables false
set_option linter.unusedSimpArgs false
section
variable {P : Program} {ops : Array Oper} {Q : Exit → Act → World → Prop} {w0 : World} {N : Fr} {l : List Oper} {env : Env} {hp : List Item} {o : Oper}
theorem q_strLo {T : TypeId} {x lo : Operand} {s : ByteArray} {k : IntKind} {i : Int} (ho : o.op = .slice T x (some lo) none none) (hx : evE x env = some (.string s)) (hl : evE lo env = some (.int k i)) (hT : P.underlying T = some .string) (h0 : 0 ≤ i) (h1 : i ≤ s.size) : OpQ P o env w0 hp (.string (s.extract i.toNat s.size)) := q_run fun a w he hh => by
  have := run_bound (P := P) (k := k) (code := .sliceB) h0 h1 w
  unfold execOp
  simp only [ho, ev_of he hx, ev_of he hl, Instr.sliceAt, Sem.run_bind, run_underlying hT, Result.andThen_ok, Instr.slice, Sem.run_pure, Instr.sliceBounds, Option.map_some, Option.map_none, Option.isSome_none, Bool.false_eq_true, if_false, this]
end
theorem own_of_RS {e base : Nat} {ok : Nat → Prop} {w : World} {v : Value} {xs : List ByteArray} (h : Kd.string.R e w base ok v xs) : w.ownsRow base e 1 v xs.length (xs.map Value.string) := by
  obtain ⟨_, inner, ho, hr⟩ := h
  have : inner = xs.map Value.string := by
    obtain ⟨h1, h2⟩ := hr
    apply List.ext_getElem?
    intro j
    rw [List.getElem?_map]
    cases hx : xs[j]? with
    | none =>
      have : xs.length ≤ j := by simpa using hx
      rw [List.getElem?_eq_none (by rw [h1]; simpa [Kd.string, Kd.scalar] using this)]
      rfl
    | some x =>
      have hM : (inner.drop (j * 1)).take 1 = [.string x] := h2 j x hx
      have := congrArg (fun l => l[0]?) hM
      simpa using this
  rw [← this]
  exact ho
end Go.Sx
end
