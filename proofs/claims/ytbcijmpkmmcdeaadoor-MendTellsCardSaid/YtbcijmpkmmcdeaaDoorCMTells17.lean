/- Texts of mine, put together (no statement stands here). -/
import Derived.Test.YtbcijmpkmmcdeaaDoorCMTells16
import Derived.Test.YtbcijmpkmmcdeaaDoorCMTells14
section
namespace Go.Proofs.YtbcijmpkmmcdeaaDoor.SF
open Go.RowKit Go.Sx Go.Proofs.YtbcijmpkmmcdeaaDoor.PAll Go.Proofs.YtbcijmpkmmcdeaaDoorW.PrintWords Go.Proofs.YtbcijmpkmmcdeaaDoorW.PrintLast Go.Proofs.YtbcijmpkmmcdeaaDoorW.PrintMore
set_option linter.unusedVariables false
set_option linter.unusedSimpArgs false
set_option maxRecDepth 100000
def to29 (p : S28) : S29 := ⟨p.f0, p.f1⟩
def pc29 (p : S28) : List Value := [.int .i64 p.f0, .int .i64 p.f1]
def RowW (w : World) (q : Gh) (l : List S28) : Prop := l.length ≤ q.2 ∧ Kd.C k29 w q.1 l.length (l.map to29)
theorem RowW.below {w w' : World} {q : Gh} {l : List S28} (h : RowW w q l) (hb : Below w.heap.size w w') : RowW w' q l := ⟨h.1, Kd.C_below h.2 hb⟩
theorem RowW.at {w : World} {q : Gh} {l : List S28} {j : Nat} {p : S28} (h : RowW w q l) (hp : l[j]? = some p) : ∃ ad, q.1 = some ad ∧ CellsAt w (ad.add (j * 2)) [.int .i64 p.f0, .int .i64 p.f1] := by
  have h2 := h.2
  rw [← List.length_map (f := to29)] at h2
  obtain ⟨ad, cs, e, hK, hc⟩ := C_at h2 (show (l.map to29)[j]? = some (to29 p) by rw [List.getElem?_map, hp]; rfl) rfl
  obtain rfl := k29_open hK
  exact ⟨ad, e, hc⟩
def nmd (l : List S28) (p : S28) (k : Nat) : Bool := decide (p.f0 < 0) || decide (p.f0 > 63) || decide (p.f0 ∈ (l.take k).map S28.f0)
theorem nmd_step {l : List S28} {k : Nat} {p m : S28} (h : l[k]? = some m) : nmd l p (k + 1) = (nmd l p k || (m.f0 == p.f0)) := by
  unfold nmd
  rw [take_snoc h, Bool.or_assoc (decide (p.f0 < 0) || _)]
  congr 1
  rw [← Bool.decide_coe (_ || _)]
  simp only [List.mem_append, List.mem_singleton, Bool.or_eq_true, decide_eq_true_eq, beq_iff_eq]
  congr 1
  exact propext ⟨fun h => h.imp id Eq.symm, fun h => h.imp id Eq.symm⟩
theorem hasP_ix (ps : List S51) (car : Int) : (0 ≤ PChk.ixf ps (fun p => p.f0 == car) ∧ ∃ pm, ps[(PChk.ixf ps (fun p => p.f0 == car)).toNat]? = some pm ∧ (hasP ps car).2.1 = pm.f1) ∨ (PChk.ixf ps (fun p => p.f0 == car) < 0 ∧ (hasP ps car).2.1 = 0) := by
  unfold PChk.ixf hasP
  by_cases h : ps.findIdx (fun p => p.f0 == car) < ps.length
  · left
    rw [if_pos h]
    refine ⟨by omega, ps[ps.findIdx (fun p => p.f0 == car)], ?_, ?_⟩
    · rw [Int.toNat_natCast, List.getElem?_eq_getElem h]
    · have := List.find?_eq_getElem?_findIdx (xs := ps) (p := fun p => p.f0 == car)
      rw [List.getElem?_eq_getElem h] at this
      rw [this]
  · right
    rw [if_neg h]
    refine ⟨by decide, ?_⟩
    have : ps.find? (fun p => p.f0 == car) = none := by
      rw [List.find?_eq_none]
      intro x hx hc
      exact h (List.findIdx_lt_length.2 ⟨x, hx, hc⟩)
    rw [this]
set_option maxHeartbeats 4000000 in
theorem ragain_calls {a b : List Int} (hA : Bytes a) (hB : Bytes b) (la : Int) (wa : ByteArray) (q : Gh) (l : List S28) (budget : Int) (w : World) (hr : RowW w q l) (hl : l.length ≤ 1000) :
    Calls Tryd.prog 17 #[.agg #[.string (strOfNums a), .string (strOfNums b), .int .i64 la, .string wa], .slice q.1 l.length q.2, .int .i64 budget] w fun e w' => ∃ qo qs : Gh, e = .returned (.tuple #[.agg #[.int .i64 (mn (mx budget 0) 1048576), .int .i64 (jload a b).mar, .int .i64 0, .slice qo.1 (agN (jload a b).ps (mn (mx budget 0) 1048576) l l.length).out.length qo.2], .slice qs.1 (agN (jload a b).ps (mn (mx budget 0) 1048576) l l.length).stops.length qs.2]) ∧ HeapOK w [.own 0 3 1 (.slice qs.1 (agN (jload a b).ps (mn (mx budget 0) 1048576) l l.length).stops.length qs.2) (agN (jload a b).ps (mn (mx budget 0) 1048576) l l.length).stops.length (nums .i64 (agN (jload a b).ps (mn (mx budget 0) 1048576) l l.length).stops), .own 0 91 2 (.slice qo.1 (agN (jload a b).ps (mn (mx budget 0) 1048576) l l.length).out.length qo.2) (agN (jload a b).ps (mn (mx budget 0) 1048576) l l.length).out.length (((agN (jload a b).ps (mn (mx budget 0) 1048576) l l.length).out.map to91).flatMap pc91), old w] w' := by
  have hps := jload_len hA hB
  refine enter (w0 := w) (hp := [old w]) (env := [(0, .agg #[.string (strOfNums a), .string (strOfNums b), .int .i64 la, .string wa]), (1, .slice q.1 l.length q.2), (2, .int .i64 budget)]) Tryd.func17 rfl 134 rfl (by simp) rfl (HeapOK.start _) ?_
  refine wc_seq ?_
  refine wc_region ?_
  refine wl_box rfl rfl rfl (by decide) rfl rfl (fun b1 => ?_)
  refine wl_alloc rfl rfl rfl (by decide) Zr42 (fun b2 => ?_)
  refine wl_q (q_assign rfl rfl) rfl rfl (by decide) ?_
  refine wl_nil ?_
  refine fq_then ?_
  refine wc_seq ?_
  refine wc_region ?_
  refine wl_q (q_loadA rfl rfl Mn46 Sz46 rfl (readsAll (i := 1) rfl)) rfl rfl (by decide) ?_
  refine wl_call (ι := Gh) (fun i => .tuple #[.agg #[.int .i64 (jload a b).bud, .int .i64 (jload a b).mar, .int .i64 0, .slice i.1 (jload a b).ps.length i.2], .int .u64 (jload a b).seq, .bool (decide (0 < (jload a b).seq))]) (fun i => .own 0 91 2 (.slice i.1 (jload a b).ps.length i.2) (jload a b).ps.length (((jload a b).ps.map to91).flatMap pc91) :: _) (fun _ => True) rfl rfl rfl (by decide) En29 rfl (fun w1 hw1 => (rload_calls hA hB la wa w1).mono (fun e w' ⟨i, h1, h2⟩ => ⟨i, trivial, h1, hw1.lift1 h2⟩)) (fun pl _ => ?_)
  refine wl_q (q_move rfl rfl) rfl rfl (by decide) ?_
  refine wl_q (q_extract rfl rfl rfl) rfl rfl (by decide) ?_
  refine wl_q (q_extract rfl rfl rfl) rfl rfl (by decide) ?_
  refine wl_q (q_extract rfl rfl rfl) rfl rfl (by decide) ?_
  refine wl_alloc rfl rfl rfl (by decide) Zr42 (fun b3 => ?_)
  refine wl_store (i := 0) rfl rfl rfl rfl rfl rfl Sz42 rfl rfl (by simp) (by simp [Value.oneCell']) (by first | (simp only [List.take_succ_cons, List.take_zero, List.take_nil, List.drop_succ_cons, List.drop_zero, List.drop_nil, List.nil_append, List.cons_append, List.append_nil, List.length_cons, List.length_nil, Nat.reduceAdd, Nat.zero_add]; rfl) | rfl) (by first | (simp only [List.set_cons_zero, List.set_cons_succ]; rfl) | rfl) ?_
  refine wl_q (q_assign rfl rfl) rfl rfl (by decide) ?_
  refine wl_q (q_assign rfl rfl) rfl rfl (by decide) ?_
  refine wl_nil ?_
  refine fq_then ?_
  refine wc_join 2 [(1, .slice q.1 l.length q.2), (2, .int .i64 (mn (mx budget 0) 1048576)), (6, .pointer (some ⟨b2, 0, none⟩)), (8, .pointer (some ⟨b3, 0, none⟩))] [.blk b3 [.int .i64 (jload a b).bud, .int .i64 (jload a b).mar, .int .i64 0, .slice pl.1 (jload a b).ps.length pl.2] 42, .own 0 91 2 (.slice pl.1 (jload a b).ps.length pl.2) (jload a b).ps.length (((jload a b).ps.map to91).flatMap pc91), .blk b2 [.int .i64 0, .int .i64 0, .int .i64 0, .slice none 0 0] 42, old w] ?_ ?_
  · skip
    refine wc_seq ?_
    refine wc_region ?_
    refine wl_q (q_move rfl rfl) rfl rfl (by decide) ?_
    refine wl_q (q_fa (o1 := 1) rfl rfl Fo42_1 rfl) rfl rfl (by decide) ?_
    refine wl_q (q_load rfl rfl Mn3 (reads1 (i := 0) rfl rfl)) rfl rfl (by decide) ?_
    refine wl_q (q_build rfl rfl (built_of Zr42 Pl42 (by simp only [fillL, List.map_cons, List.map_nil, Value.cells, List.getElem?_cons_zero, List.getElem?_cons_succ, List.length_cons, List.length_nil, Nat.reduceAdd, Nat.reduceLeDiff, Nat.le_refl, and_self, and_true, true_and, if_true, Nat.zero_add, spl, List.take_succ_cons, List.take_zero, List.take_nil, List.drop_succ_cons, List.drop_zero, List.drop_nil, List.nil_append, List.cons_append, List.append_nil] <;> rfl))) rfl rfl (by decide) ?_
    refine wl_alloc rfl rfl rfl (by decide) Zr42 (fun b4 => ?_)
    refine wl_store (i := 0) rfl rfl rfl rfl rfl rfl Sz42 rfl rfl (by simp) (by simp [Value.oneCell']) (by first | (simp only [List.take_succ_cons, List.take_zero, List.take_nil, List.drop_succ_cons, List.drop_zero, List.drop_nil, List.nil_append, List.cons_append, List.append_nil, List.length_cons, List.length_nil, Nat.reduceAdd, Nat.zero_add]; rfl) | rfl) (by first | (simp only [List.set_cons_zero, List.set_cons_succ]; rfl) | rfl) ?_
    refine wl_nil ?_
    refine fq_then ?_
    refine wc_seq ?_
    refine wc_region ?_
    refine wl_q (q_assign rfl rfl) rfl rfl (by decide) ?_
    refine wl_nil ?_
    refine fq_then ?_
    refine wc_seq ?_
    refine wc_seq ?_
    refine wc_region ?_
    refine wl_q (q_assign rfl rfl) rfl rfl (by decide) ?_
    refine wl_nil ?_
    refine fq_then ?_
    refine wc_block ?_
    refine wc_own (E := 3) (sz := 1) ?_
    refine wc_own (E := 91) (sz := 2) ?_
    refine wc_pick [0, 2, 1, 3, 4, 5, 6] (by decide) rfl ?_
    refine wc_loop (ι := (Nat × Gh × Gh)) (fun i => [(1, .slice q.1 l.length q.2), (2, .int .i64 (mn (mx budget 0) 1048576)), (6, .pointer (some ⟨b2, 0, none⟩)), (8, .pointer (some ⟨b3, 0, none⟩)), (11, .pointer (some ⟨b4, 0, none⟩)), (12, .slice i.2.2.1 (agN (jload a b).ps (mn (mx budget 0) 1048576) l i.1).stops.length i.2.2.2), (13, .int .i64 (i.1 : Nat))]) (fun i => [.own 0 91 2 (.slice i.2.1.1 (agN (jload a b).ps (mn (mx budget 0) 1048576) l i.1).out.length i.2.1.2) (agN (jload a b).ps (mn (mx budget 0) 1048576) l i.1).out.length (((agN (jload a b).ps (mn (mx budget 0) 1048576) l i.1).out.map to91).flatMap pc91), .blk b4 [.int .i64 (mn (mx budget 0) 1048576), .int .i64 (jload a b).mar, .int .i64 0, .slice i.2.1.1 (agN (jload a b).ps (mn (mx budget 0) 1048576) l i.1).out.length i.2.1.2] 42, .own 0 3 1 (.slice i.2.2.1 (agN (jload a b).ps (mn (mx budget 0) 1048576) l i.1).stops.length i.2.2.2) (agN (jload a b).ps (mn (mx budget 0) 1048576) l i.1).stops.length (nums .i64 (agN (jload a b).ps (mn (mx budget 0) 1048576) l i.1).stops), .blk b3 [.int .i64 (jload a b).bud, .int .i64 (jload a b).mar, .int .i64 0, .slice pl.1 (jload a b).ps.length pl.2] 42, .own 0 91 2 (.slice pl.1 (jload a b).ps.length pl.2) (jload a b).ps.length (((jload a b).ps.map to91).flatMap pc91), .blk b2 [.int .i64 0, .int .i64 0, .int .i64 0, .slice none 0 0] 42, old w]) (fun i => i.1 ≤ l.length) (fun i => l.length - i.1) (0, (none, 0), (none, 0)) (Nat.zero_le _) ⟨List.forall_mem_cons.2 ⟨rfl, List.forall_mem_cons.2 ⟨rfl, List.forall_mem_cons.2 ⟨rfl, List.forall_mem_cons.2 ⟨rfl, List.forall_mem_cons.2 ⟨rfl, List.forall_mem_cons.2 ⟨rfl, List.forall_mem_cons.2 ⟨rfl, fun _ h => (by cases h)⟩⟩⟩⟩⟩⟩⟩, List.Sublist.refl _⟩ ?_
    rintro ⟨j, qo, qs⟩ hj
    simp only at hj
    dsimp only
    refine wc_seq ?_
    refine wc_seq ?_
    refine wc_region ?_
    refine wl_q (q_move rfl rfl) rfl rfl (by decide) ?_
    refine wl_q (q_move rfl rfl) rfl rfl (by decide) ?_
    refine wl_q (q_len rfl rfl Tryd.underlying26) rfl rfl (by decide) ?_
    refine wl_q (q_bin rfl rfl rfl rfl) rfl rfl (by decide) ?_
    refine wl_nil ?_
    refine fq_then ?_
    refine wc_cond rfl (fun h35 => ?_) (fun h35 => ?_)
    · skip
      have q35 := h35
      try simp only [decide_eq_true_eq, decide_eq_false_iff_not, beq_iff_eq, beq_eq_false_iff_ne, bne_iff_ne, ne_eq, bne_eq_false_iff_eq, Int.not_lt, Int.not_le] at q35
      obtain ⟨p, hp⟩ : ∃ p, l[j]? = some p := ⟨_, List.getElem?_eq_getElem (by omega)⟩
      obtain ⟨ad, hA, hra⟩ := hr.at hp
      have wj : IntKind.i64.wrap ((j : Int) + 1) = ((j + 1 : Nat) : Int) := wrap_nat (by omega)
      refine wc_skip ?_
      refine fq_then ?_
      refine wc_seq ?_
      refine wc_block ?_
      refine wc_join 1 [(1, .slice q.1 l.length q.2), (2, .int .i64 (mn (mx budget 0) 1048576)), (6, .pointer (some ⟨b2, 0, none⟩)), (8, .pointer (some ⟨b3, 0, none⟩)), (11, .pointer (some ⟨b4, 0, none⟩)), (12, .slice qs.1 (agN (jload a b).ps (mn (mx budget 0) 1048576) l j).stops.length qs.2), (13, .int .i64 (j : Nat)), (14, .bool (nmd l p 0))] [.own 0 91 2 (.slice qo.1 (agN (jload a b).ps (mn (mx budget 0) 1048576) l j).out.length qo.2) (agN (jload a b).ps (mn (mx budget 0) 1048576) l j).out.length (((agN (jload a b).ps (mn (mx budget 0) 1048576) l j).out.map to91).flatMap pc91), .blk b4 [.int .i64 (mn (mx budget 0) 1048576), .int .i64 (jload a b).mar, .int .i64 0, .slice qo.1 (agN (jload a b).ps (mn (mx budget 0) 1048576) l j).out.length qo.2] 42, .own 0 3 1 (.slice qs.1 (agN (jload a b).ps (mn (mx budget 0) 1048576) l j).stops.length qs.2) (agN (jload a b).ps (mn (mx budget 0) 1048576) l j).stops.length (nums .i64 (agN (jload a b).ps (mn (mx budget 0) 1048576) l j).stops), .blk b3 [.int .i64 (jload a b).bud, .int .i64 (jload a b).mar, .int .i64 0, .slice pl.1 (jload a b).ps.length pl.2] 42, .own 0 91 2 (.slice pl.1 (jload a b).ps.length pl.2) (jload a b).ps.length (((jload a b).ps.map to91).flatMap pc91), .blk b2 [.int .i64 0, .int .i64 0, .int .i64 0, .slice none 0 0] 42, old w] ?_ ?_
      · skip
        refine wc_seq ?_
        refine wc_seq ?_
        refine wc_region ?_
        refine wl_q (q_assign rfl rfl) rfl rfl (by decide) ?_
        refine wl_nil ?_
        refine fq_then ?_
        refine wc_block ?_
        refine wc_loop (ι := Nat) (fun k => [(1, .slice q.1 l.length q.2), (2, .int .i64 (mn (mx budget 0) 1048576)), (6, .pointer (some ⟨b2, 0, none⟩)), (8, .pointer (some ⟨b3, 0, none⟩)), (11, .pointer (some ⟨b4, 0, none⟩)), (12, .slice qs.1 (agN (jload a b).ps (mn (mx budget 0) 1048576) l j).stops.length qs.2), (13, .int .i64 (j : Nat)), (14, .bool (nmd l p k)), (15, .int .i64 (k : Nat))]) (fun k => [.own 0 91 2 (.slice qo.1 (agN (jload a b).ps (mn (mx budget 0) 1048576) l j).out.length qo.2) (agN (jload a b).ps (mn (mx budget 0) 1048576) l j).out.length (((agN (jload a b).ps (mn (mx budget 0) 1048576) l j).out.map to91).flatMap pc91), .blk b4 [.int .i64 (mn (mx budget 0) 1048576), .int .i64 (jload a b).mar, .int .i64 0, .slice qo.1 (agN (jload a b).ps (mn (mx budget 0) 1048576) l j).out.length qo.2] 42, .own 0 3 1 (.slice qs.1 (agN (jload a b).ps (mn (mx budget 0) 1048576) l j).stops.length qs.2) (agN (jload a b).ps (mn (mx budget 0) 1048576) l j).stops.length (nums .i64 (agN (jload a b).ps (mn (mx budget 0) 1048576) l j).stops), .blk b3 [.int .i64 (jload a b).bud, .int .i64 (jload a b).mar, .int .i64 0, .slice pl.1 (jload a b).ps.length pl.2] 42, .own 0 91 2 (.slice pl.1 (jload a b).ps.length pl.2) (jload a b).ps.length (((jload a b).ps.map to91).flatMap pc91), .blk b2 [.int .i64 0, .int .i64 0, .int .i64 0, .slice none 0 0] 42, old w]) (fun k => k ≤ j) (fun k => j - k) 0 (Nat.zero_le _) ⟨List.forall_mem_cons.2 ⟨rfl, List.forall_mem_cons.2 ⟨rfl, List.forall_mem_cons.2 ⟨rfl, List.forall_mem_cons.2 ⟨rfl, List.forall_mem_cons.2 ⟨rfl, List.forall_mem_cons.2 ⟨rfl, List.forall_mem_cons.2 ⟨rfl, List.forall_mem_cons.2 ⟨rfl, List.forall_mem_cons.2 ⟨rfl, fun _ h => (by cases h)⟩⟩⟩⟩⟩⟩⟩⟩⟩, List.Sublist.refl _⟩ ?_
        intro k hk
        refine wc_seq ?_
        refine wc_seq ?_
        refine wc_region ?_
        refine wl_q (q_move rfl rfl) rfl rfl (by decide) ?_
        refine wl_q (q_move rfl rfl) rfl rfl (by decide) ?_
        refine wl_q (q_bin rfl rfl rfl rfl) rfl rfl (by decide) ?_
        refine wl_nil ?_
        refine fq_then ?_
        refine wc_cond rfl (fun h54 => ?_) (fun h54 => ?_)
        · skip
          have q54 := h54
          try simp only [decide_eq_true_eq, decide_eq_false_iff_not, beq_iff_eq, beq_eq_false_iff_ne, bne_iff_ne, ne_eq, bne_eq_false_iff_eq, Int.not_lt, Int.not_le] at q54
          obtain ⟨pk, hk2⟩ : ∃ p, l[k]? = some p := ⟨_, List.getElem?_eq_getElem (by omega)⟩
          obtain ⟨adk, hK, hrk⟩ := hr.at hk2
          have wk : IntKind.i64.wrap ((k : Int) + 1) = ((k + 1 : Nat) : Int) := wrap_nat (by omega)
          refine wc_skip ?_
          refine fq_then ?_
          refine wc_seq ?_
          refine wc_block ?_
          cases hd58 : (nmd l p k)
          · skip
            refine wc_draw 15 Fol (by kernel_rfl) (Chain.yield (q_move rfl rfl) rfl rfl (Chain.yield (q_move rfl rfl) rfl rfl (Chain.want (q_move rfl rfl) rfl rfl rfl rfl (Chain.want (q_move rfl rfl) rfl rfl rfl rfl (Chain.want (q_indexO rfl rfl hK rfl Tryd.underlying26 Sz29 (by omega) (by omega)) rfl rfl rfl rfl (Chain.want (q_fax rfl rfl Fo29_0 rfl) rfl rfl rfl rfl (Chain.want (q_load rfl rfl Mn3 (reads_old (by simp) (cell_zero (hrk.one (j := 0) rfl)))) rfl rfl rfl rfl (Chain.want (q_move rfl rfl) rfl rfl rfl rfl (Chain.want (q_move rfl rfl) rfl rfl rfl rfl (Chain.want (q_indexO rfl rfl hA rfl Tryd.underlying26 Sz29 (by omega) (by omega)) rfl rfl rfl rfl (Chain.want (q_fax rfl rfl Fo29_0 rfl) rfl rfl rfl rfl (Chain.want (q_load rfl rfl Mn3 (reads_old (by simp) (cell_zero (hra.one (j := 0) rfl)))) rfl rfl rfl rfl (Chain.want (q_bin rfl rfl rfl rfl) rfl rfl rfl rfl (Chain.yield (q_pick rfl rfl rfl) rfl rfl (Chain.yield (q_assign rfl rfl) rfl rfl (Chain.nil _)))))))))))))))) ?_
            refine wl_nil ?_
            refine fq_block ?_
            refine fq_then ?_
            refine wc_region ?_
            refine wl_q (q_move rfl rfl) rfl rfl (by decide) ?_
            refine wl_q (q_bin rfl rfl rfl rfl) rfl rfl (by decide) ?_
            refine wl_q (q_assign rfl rfl) rfl rfl (by decide) ?_
            refine wl_nil ?_
            refine fq_next (k + 1) (show k + 1 ≤ j by omega) (show j - (k + 1) < j - k by omega) ⟨List.forall_mem_cons.2 ⟨rfl, List.forall_mem_cons.2 ⟨rfl, List.forall_mem_cons.2 ⟨rfl, List.forall_mem_cons.2 ⟨rfl, List.forall_mem_cons.2 ⟨rfl, List.forall_mem_cons.2 ⟨rfl, List.forall_mem_cons.2 ⟨rfl, List.forall_mem_cons.2 ⟨(congrArg (fun b => some (Value.bool b)) (by rw [nmd_step hk2]; first | (rw [hd58, Bool.true_or]) | (rw [hd58, Bool.false_or]))), List.forall_mem_cons.2 ⟨(show some (Value.int .i64 (IntKind.i64.wrap ((k : Int) + 1))) = some (Value.int .i64 ((k + 1 : Nat) : Int)) from by rw [wk]), fun _ h => (by cases h)⟩⟩⟩⟩⟩⟩⟩⟩⟩, List.Sublist.refl _⟩
          · skip
            refine wc_draw 15 Fol (by kernel_rfl) (Chain.yield (q_move rfl rfl) rfl rfl (Chain.yield (q_move rfl rfl) rfl rfl (Chain.skip (b := true) rfl rfl rfl rfl (Chain.skip (b := true) rfl rfl rfl rfl (Chain.skip (b := true) rfl rfl rfl rfl (Chain.skip (b := true) rfl rfl rfl rfl (Chain.skip (b := true) rfl rfl rfl rfl (Chain.skip (b := true) rfl rfl rfl rfl (Chain.skip (b := true) rfl rfl rfl rfl (Chain.skip (b := true) rfl rfl rfl rfl (Chain.skip (b := true) rfl rfl rfl rfl (Chain.skip (b := true) rfl rfl rfl rfl (Chain.skip (b := true) rfl rfl rfl rfl (Chain.yield (q_pick rfl rfl rfl) rfl rfl (Chain.yield (q_assign rfl rfl) rfl rfl (Chain.nil _)))))))))))))))) ?_
            refine wl_nil ?_
            refine fq_block ?_
            refine fq_then ?_
            refine wc_region ?_
            refine wl_q (q_move rfl rfl) rfl rfl (by decide) ?_
            refine wl_q (q_bin rfl rfl rfl rfl) rfl rfl (by decide) ?_
            refine wl_q (q_assign rfl rfl) rfl rfl (by decide) ?_
            refine wl_nil ?_
            refine fq_next (k + 1) (show k + 1 ≤ j by omega) (show j - (k + 1) < j - k by omega) ⟨List.forall_mem_cons.2 ⟨rfl, List.forall_mem_cons.2 ⟨rfl, List.forall_mem_cons.2 ⟨rfl, List.forall_mem_cons.2 ⟨rfl, List.forall_mem_cons.2 ⟨rfl, List.forall_mem_cons.2 ⟨rfl, List.forall_mem_cons.2 ⟨rfl, List.forall_mem_cons.2 ⟨(congrArg (fun b => some (Value.bool b)) (by rw [nmd_step hk2]; first | (rw [hd58, Bool.true_or]) | (rw [hd58, Bool.false_or]))), List.forall_mem_cons.2 ⟨(show some (Value.int .i64 (IntKind.i64.wrap ((k : Int) + 1))) = some (Value.int .i64 ((k + 1 : Nat) : Int)) from by rw [wk]), fun _ h => (by cases h)⟩⟩⟩⟩⟩⟩⟩⟩⟩, List.Sublist.refl _⟩
        · skip
          have q54 := h54
          try simp only [decide_eq_true_eq, decide_eq_false_iff_not, beq_iff_eq, beq_eq_false_iff_ne, bne_iff_ne, ne_eq, bne_eq_false_iff_eq, Int.not_lt, Int.not_le] at q54
          obtain rfl : j = k := by omega
          refine wc_exit ?_
          refine fq_then_exit ?_
          refine fq_then_exit ?_
          refine fq_block_hit ?_
          refine fq_then ?_
          refine wc_seq ?_
          refine wc_seq ?_
          refine wc_region ?_
          refine wl_q (q_move rfl rfl) rfl rfl (by decide) ?_
          refine wl_nil ?_
          refine fq_then ?_
          refine wc_cond rfl (fun h71 => ?_) (fun h71 => ?_)
          · skip
            have q71 := h71
            try simp only [decide_eq_true_eq, decide_eq_false_iff_not, beq_iff_eq, beq_eq_false_iff_ne, bne_iff_ne, ne_eq, bne_eq_false_iff_eq, Int.not_lt, Int.not_le] at q71
            skip
            refine wc_exit ?_
            refine fq_then_exit ?_
            refine fq_block_hit ?_
            refine fq_then ?_
            refine wc_region ?_
            refine wl_q (q_move rfl rfl) rfl rfl (by decide) ?_
            refine wl_q (q_bin rfl rfl rfl rfl) rfl rfl (by decide) ?_
            refine wl_q (q_assign rfl rfl) rfl rfl (by decide) ?_
            refine wl_nil ?_
            have hag : (agN (jload a b).ps (mn (mx budget 0) 1048576) l (j + 1)) = agOne (jload a b).ps (mn (mx budget 0) 1048576) ((l.take j).map S28.f0) (agN (jload a b).ps (mn (mx budget 0) 1048576) l j) p := by (show (match l[j]? with | some m => _ | none => _) = _; rw [hp])
            have hag2 : (agN (jload a b).ps (mn (mx budget 0) 1048576) l (j + 1)) = (agN (jload a b).ps (mn (mx budget 0) 1048576) l j) := by (rw [hag]; unfold agOne; refine if_pos ?_; have h_ := h71; unfold nmd at h_; simp only [Bool.or_eq_true, decide_eq_true_eq] at h_; rcases h_ with (h_ | h_) | h_ <;> first | exact .inl h_ | (right; omega))
            rw [← hag2]
            refine fq_next (j + 1, qo, qs) (show j + 1 ≤ l.length by omega) (show l.length - (j + 1) < l.length - j by omega) ⟨List.forall_mem_cons.2 ⟨rfl, List.forall_mem_cons.2 ⟨rfl, List.forall_mem_cons.2 ⟨rfl, List.forall_mem_cons.2 ⟨rfl, List.forall_mem_cons.2 ⟨rfl, List.forall_mem_cons.2 ⟨rfl, List.forall_mem_cons.2 ⟨(show some (Value.int .i64 (IntKind.i64.wrap ((j : Int) + 1))) = some (Value.int .i64 ((j + 1 : Nat) : Int)) from by rw [wj]), fun _ h => (by cases h)⟩⟩⟩⟩⟩⟩⟩, List.Sublist.refl _⟩
          · skip
            have q71 := h71
            try simp only [decide_eq_true_eq, decide_eq_false_iff_not, beq_iff_eq, beq_eq_false_iff_ne, bne_iff_ne, ne_eq, bne_eq_false_iff_eq, Int.not_lt, Int.not_le] at q71
            have hsk : ¬ (p.f0 ∈ (l.take j).map S28.f0 ∨ p.f0 < 0 ∨ 64 ≤ p.f0) := fun hx => by (have h_ := h71; unfold nmd at h_; simp only [Bool.or_eq_false_iff, decide_eq_false_iff_not] at h_; rcases hx with hx | hx | hx <;> first | exact h_.2 hx | omega)
            have hag0 := agN_range (jload a b).ps (mn (mx budget 0) 1048576) l j
            have hpk := pkF_range (jload a b).ps p
            have hsb := PChk.sumP_bound (agN (jload a b).ps (mn (mx budget 0) 1048576) l j).out hag0.1
            have hsm : IntKind.i64.wrap (PChk.sumP (agN (jload a b).ps (mn (mx budget 0) 1048576) l j).out + pkF (jload a b).ps p) = PChk.sumP (agN (jload a b).ps (mn (mx budget 0) 1048576) l j).out + pkF (jload a b).ps p := wrap_id (by omega)
            refine wc_ownAt 4 (A := pl.1) (c' := pl.2) (n := (jload a b).ps.length) (xs := ((jload a b).ps.map to91).flatMap pc91) rfl (fun g eg fg => ?_)
            refine wc_skip ?_
            refine fq_then ?_
            refine wc_seq ?_
            refine wc_region ?_
            refine wl_q (q_move rfl rfl) rfl rfl (by decide) ?_
            refine wl_q (q_move rfl rfl) rfl rfl (by decide) ?_
            refine wl_q (q_indexO rfl rfl hA rfl Tryd.underlying26 Sz29 (by omega) (by omega)) rfl rfl (by decide) ?_
            refine wl_q (q_fax rfl rfl Fo29_1 rfl) rfl rfl (by decide) ?_
            refine wl_q (q_load rfl rfl Mn3 (reads_old (by simp) (cell_zero (hra.one (j := 1) rfl)))) rfl rfl (by decide) ?_
            refine wl_q (q_assign rfl rfl) rfl rfl (by decide) ?_
            refine wl_nil ?_
            refine fq_then ?_
            refine wc_seq ?_
            refine wc_draw 8 Fol (by kernel_rfl) (Chain.yield (q_loadA rfl rfl Mn42 Sz42 rfl (readsAll (i := 3) rfl)) rfl rfl (Chain.yield (q_move rfl rfl) rfl rfl (Chain.yield (q_move rfl rfl) rfl rfl (Chain.yield (q_indexO rfl rfl hA rfl Tryd.underlying26 Sz29 (by omega) (by omega)) rfl rfl (Chain.yield (q_fax rfl rfl Fo29_0 rfl) rfl rfl (Chain.yield (q_load rfl rfl Mn3 (reads_old (by simp) (cell_zero (hra.one (j := 0) rfl)))) rfl rfl (Chain.yield (q_call rfl En40 rfl (fun w1 hw1 => rfind_calls (jload a b).bud (jload a b).mar 0 pl (jload a b).ps p.f0 w1 (own91 (hw1.get (i := 4) rfl) (by omega)) (by omega))) rfl rfl (Chain.yield (q_assign rfl rfl) rfl rfl (Chain.nil _))))))))) ?_
            refine wl_nil ?_
            refine fq_then ?_
            refine wc_join 3 [(1, .slice q.1 l.length q.2), (2, .int .i64 (mn (mx budget 0) 1048576)), (6, .pointer (some ⟨b2, 0, none⟩)), (8, .pointer (some ⟨b3, 0, none⟩)), (11, .pointer (some ⟨b4, 0, none⟩)), (12, .slice qs.1 (agN (jload a b).ps (mn (mx budget 0) 1048576) l j).stops.length qs.2), (13, .int .i64 (j : Nat)), (16, .int .i64 (pkF (jload a b).ps p))] [.own 0 91 2 (.slice qo.1 (agN (jload a b).ps (mn (mx budget 0) 1048576) l j).out.length qo.2) (agN (jload a b).ps (mn (mx budget 0) 1048576) l j).out.length (((agN (jload a b).ps (mn (mx budget 0) 1048576) l j).out.map to91).flatMap pc91), .blk b4 [.int .i64 (mn (mx budget 0) 1048576), .int .i64 (jload a b).mar, .int .i64 0, .slice qo.1 (agN (jload a b).ps (mn (mx budget 0) 1048576) l j).out.length qo.2] 42, .own 0 3 1 (.slice qs.1 (agN (jload a b).ps (mn (mx budget 0) 1048576) l j).stops.length qs.2) (agN (jload a b).ps (mn (mx budget 0) 1048576) l j).stops.length (nums .i64 (agN (jload a b).ps (mn (mx budget 0) 1048576) l j).stops), .blk b3 [.int .i64 (jload a b).bud, .int .i64 (jload a b).mar, .int .i64 0, .slice pl.1 (jload a b).ps.length pl.2] 42, .own 0 91 2 (.slice pl.1 (jload a b).ps.length pl.2) (jload a b).ps.length (((jload a b).ps.map to91).flatMap pc91), .blk b2 [.int .i64 0, .int .i64 0, .int .i64 0, .slice none 0 0] 42, old w] ?_ ?_
            · skip
              refine wc_seq ?_
              refine wc_region ?_
              refine wl_q (q_loadA rfl rfl Mn42 Sz42 rfl (readsAll (i := 1) rfl)) rfl rfl (by decide) ?_
              refine wl_q (q_call rfl En41 rfl (fun w1 hw1 => rsum_calls (mn (mx budget 0) 1048576) (jload a b).mar 0 qo (agN (jload a b).ps (mn (mx budget 0) 1048576) l j).out w1 (own91 (hw1.get (i := 0) rfl) (by omega)) (by omega) hag0.1)) rfl rfl (by decide) ?_
              refine wl_q (q_move rfl rfl) rfl rfl (by decide) ?_
              refine wl_q (OpQ.to (q_bin rfl rfl rfl rfl) (congrArg (Value.int .i64) hsm)) rfl rfl (by decide) ?_
              refine wl_q (q_move rfl rfl) rfl rfl (by decide) ?_
              refine wl_q (q_bin rfl rfl rfl rfl) rfl rfl (by decide) ?_
              refine wl_nil ?_
              refine fq_then ?_
              refine wc_cond rfl (fun h111 => ?_) (fun h111 => ?_)
              · skip
                have q111 := h111
                try simp only [decide_eq_true_eq, decide_eq_false_iff_not, beq_iff_eq, beq_eq_false_iff_ne, bne_iff_ne, ne_eq, bne_eq_false_iff_eq, Int.not_lt, Int.not_le] at q111
                skip
                refine wc_region ?_
                refine wl_q (q_move rfl rfl) rfl rfl (by decide) ?_
                refine wl_q (q_move rfl rfl) rfl rfl (by decide) ?_
                refine wl_q (q_move rfl rfl) rfl rfl (by decide) ?_
                refine wl_q (q_indexO rfl rfl hA rfl Tryd.underlying26 Sz29 (by omega) (by omega)) rfl rfl (by decide) ?_
                refine wl_q (q_fax rfl rfl Fo29_0 rfl) rfl rfl (by decide) ?_
                refine wl_q (q_load rfl rfl Mn3 (reads_old (by simp) (cell_zero (hra.one (j := 0) rfl)))) rfl rfl (by decide) ?_
                refine wl_buildSlice rfl rfl rfl (by decide) rfl Tryd.underlying33 (built_one Sz3 (by decide) Zs3 (by decide) rfl rfl) (fun b5 => ?_)
                refine wl_append (i := 3) (m := 1) (news := [.int .i64 p.f0]) rfl rfl rfl (by decide) Tryd.underlying33 Ap3 (by decide) rfl rfl rfl (readsAll (i := 0) rfl) rfl (by simp [Value.oneCell']) (by unfold maxLen; omega) (by omega) (fun vst _ => ?_)
                refine wl_ownForm (i := 3) rfl (fun Ast cst est fst => ?_)
                subst est
                refine wl_q (q_assign rfl rfl) rfl rfl (by decide) ?_
                refine wl_nil ?_
                refine fq_block ?_
                refine fq_then ?_
                refine wc_region ?_
                refine wl_q (q_move rfl rfl) rfl rfl (by decide) ?_
                refine wl_q (q_bin rfl rfl rfl rfl) rfl rfl (by decide) ?_
                refine wl_q (q_assign rfl rfl) rfl rfl (by decide) ?_
                refine wl_nil ?_
                have hag : (agN (jload a b).ps (mn (mx budget 0) 1048576) l (j + 1)) = agOne (jload a b).ps (mn (mx budget 0) 1048576) ((l.take j).map S28.f0) (agN (jload a b).ps (mn (mx budget 0) 1048576) l j) p := by (show (match l[j]? with | some m => _ | none => _) = _; rw [hp])
                have hag2 : (agN (jload a b).ps (mn (mx budget 0) 1048576) l (j + 1)) = ⟨(agN (jload a b).ps (mn (mx budget 0) 1048576) l j).out, (agN (jload a b).ps (mn (mx budget 0) 1048576) l j).stops ++ [p.f0]⟩ := by (rw [hag]; unfold agOne; rw [if_neg hsk]; exact if_pos (by omega))
                have e0 : (agN (jload a b).ps (mn (mx budget 0) 1048576) l (j + 1)).out = (agN (jload a b).ps (mn (mx budget 0) 1048576) l j).out := by rw [hag2]
                have e1 : (agN (jload a b).ps (mn (mx budget 0) 1048576) l j).stops.length + 1 = (agN (jload a b).ps (mn (mx budget 0) 1048576) l (j + 1)).stops.length := by (rw [hag2]; simp)
                have e2 : nums .i64 (agN (jload a b).ps (mn (mx budget 0) 1048576) l j).stops ++ [Value.int .i64 p.f0] = nums .i64 (agN (jload a b).ps (mn (mx budget 0) 1048576) l (j + 1)).stops := by (rw [hag2]; unfold nums; rw [List.map_append]; rfl)
                rw [e1, e2, ← e0]
                refine fq_next (j + 1, qo, (Ast, cst)) (show j + 1 ≤ l.length by omega) (show l.length - (j + 1) < l.length - j by omega) ⟨List.forall_mem_cons.2 ⟨rfl, List.forall_mem_cons.2 ⟨rfl, List.forall_mem_cons.2 ⟨rfl, List.forall_mem_cons.2 ⟨rfl, List.forall_mem_cons.2 ⟨rfl, List.forall_mem_cons.2 ⟨rfl, List.forall_mem_cons.2 ⟨(show some (Value.int .i64 (IntKind.i64.wrap ((j : Int) + 1))) = some (Value.int .i64 ((j + 1 : Nat) : Int)) from by rw [wj]), fun _ h => (by cases h)⟩⟩⟩⟩⟩⟩⟩, List.Sublist.cons _ (List.Sublist.cons_cons _ (List.Sublist.cons_cons _ (List.Sublist.cons_cons _ (List.Sublist.cons_cons _ (List.Sublist.cons_cons _ (List.Sublist.cons_cons _ (List.Sublist.cons_cons _ (List.Sublist.refl []))))))))⟩
              · skip
                have q111 := h111
                try simp only [decide_eq_true_eq, decide_eq_false_iff_not, beq_iff_eq, beq_eq_false_iff_ne, bne_iff_ne, ne_eq, bne_eq_false_iff_eq, Int.not_lt, Int.not_le] at q111
                skip
                refine wc_any Fol (any_drawG (ι := Gh) 13 2 [(9, fun X => [Sx.Item.blk (X 9).2 [Value.int .i64 p.f0, .int .i64 (pkF (jload a b).ps p)] 91]), (10, fun X => [Sx.Item.own 0 91 2 (.slice (X 10).1 ((agN (jload a b).ps (mn (mx budget 0) 1048576) l j).out.length + 1) (X 10).2) ((agN (jload a b).ps (mn (mx budget 0) 1048576) l j).out.length + 1) ((((agN (jload a b).ps (mn (mx budget 0) 1048576) l j).out.map to91).flatMap pc91) ++ [Value.int .i64 p.f0, .int .i64 (pkF (jload a b).ps p)])]), (12, fun X => [Sx.Item.blk b4 [.int .i64 (mn (mx budget 0) 1048576), .int .i64 (jload a b).mar, .int .i64 0, .slice (X 10).1 ((agN (jload a b).ps (mn (mx budget 0) 1048576) l j).out.length + 1) (X 10).2] 42])] [⟨[], [], []⟩, ⟨[], [13, 14], []⟩, ⟨[], [], []⟩, ⟨[], [], []⟩, ⟨[], [], []⟩, ⟨[], [], []⟩, ⟨[], [13, 14], []⟩, ⟨[], [], []⟩, ⟨[], [], []⟩, ⟨[], [], []⟩, ⟨[9, 13], [], [9]⟩, ⟨[], [], [9, 10]⟩, ⟨[14], [], [9, 10]⟩] (by kernel_rfl) (ChainG.yield [] [] (fun X => q_fa (o1 := 3) rfl rfl Fo42_3 rfl) rfl rfl (fun _ => rfl) (fun _ _ => rfl) (fun X Y h0 h => ⟨by first | rfl | simp only [h0], by first | rfl | simp only [h0]⟩) (ChainG.yield [13, 14] [] (fun X => q_load rfl rfl Mn40 (reads1 (i := 1) rfl rfl)) rfl rfl (fun _ => rfl) (fun _ _ => rfl) (fun X Y h0 h => ⟨by first | rfl | simp only [h0], by first | rfl | simp only [h0]⟩) (ChainG.yield [] [] (fun X => q_move rfl rfl) rfl rfl (fun _ => rfl) (fun _ _ => rfl) (fun X Y h0 h => ⟨by first | rfl | simp only [h0], by first | rfl | simp only [h0]⟩) (ChainG.yield [] [] (fun X => q_move rfl rfl) rfl rfl (fun _ => rfl) (fun _ _ => rfl) (fun X Y h0 h => ⟨by first | rfl | simp only [h0], by first | rfl | simp only [h0]⟩) (ChainG.yield [] [] (fun X => q_indexO rfl rfl hA rfl Tryd.underlying26 Sz29 (by omega) (by omega)) rfl rfl (fun _ => rfl) (fun _ _ => rfl) (fun X Y h0 h => ⟨by first | rfl | simp only [h0], by first | rfl | simp only [h0]⟩) (ChainG.yield [] [] (fun X => q_fax rfl rfl Fo29_0 rfl) rfl rfl (fun _ => rfl) (fun _ _ => rfl) (fun X Y h0 h => ⟨by first | rfl | simp only [h0], by first | rfl | simp only [h0]⟩) (ChainG.yield [13, 14] [] (fun X => q_load rfl rfl Mn3 (reads_old (by simp) (cell_zero (hra.one (j := 0) rfl)))) rfl rfl (fun _ => rfl) (fun _ _ => rfl) (fun X Y h0 h => ⟨by first | rfl | simp only [h0], by first | rfl | simp only [h0]⟩) (ChainG.yield [] [] (fun X => q_move rfl rfl) rfl rfl (fun _ => rfl) (fun _ _ => rfl) (fun X Y h0 h => ⟨by first | rfl | simp only [h0], by first | rfl | simp only [h0]⟩) (ChainG.yield [] [] (fun X => q_build rfl rfl (built_of Zr91 Pl91 (by simp only [fillL, List.map_cons, List.map_nil, Value.cells, List.getElem?_cons_zero, List.getElem?_cons_succ, List.length_cons, List.length_nil, Nat.reduceAdd, Nat.reduceLeDiff, Nat.le_refl, and_self, and_true, true_and, if_true, Nat.zero_add, spl, List.take_succ_cons, List.take_zero, List.take_nil, List.drop_succ_cons, List.drop_zero, List.drop_nil, List.nil_append, List.cons_append, List.append_nil] <;> rfl))) rfl rfl (fun _ => rfl) (fun _ _ => rfl) (fun X Y h0 h => ⟨by first | rfl | simp only [h0], by first | rfl | simp only [h0]⟩) (ChainG.mk (fun b => .slice (some ⟨b, 0, none⟩) 1 1) [] (fun X => om_buildSlice rfl rfl Tryd.underlying40 (built_one Sz91 (by decide) Zs91 (by decide) rfl rfl)) rfl rfl (fun _ => rfl) (fun _ _ => rfl) (fun X Y h0 h => ⟨by first | rfl | simp only [h0], by first | rfl | (show ([Sx.Item.blk (X 9).2 [Value.int .i64 p.f0, .int .i64 (pkF (jload a b).ps p)] 91] : List Sx.Item) = [Sx.Item.blk (Y 9).2 [Value.int .i64 p.f0, .int .i64 (pkF (jload a b).ps p)] 91]; simp only [h0])⟩) (ChainG.ope (fun (X : Nat → Gh) => .slice (X 10).1 ((agN (jload a b).ps (mn (mx budget 0) 1048576) l j).out.length + 1) (X 10).2) [9, 13] [9] (fun X => (oe_appendR (i := 1) (m := 1) (news := [Value.int .i64 p.f0, .int .i64 (pkF (jload a b).ps p)]) rfl Tryd.underlying40 Ap91 (by decide) rfl rfl rfl (fun R w1 hw1 _ => ⟨_, rfl, fun k u hu => by (have hg := readsAll (w0 := w) (hp := _) (i := 0) (cs := [Value.int .i64 p.f0, .int .i64 (pkF (jload a b).ps p)]) (T := 91) rfl w1 hw1 k u hu; exact hg)⟩) rfl (by simp [Value.oneCell']) (by unfold maxLen; omega) (by omega)).less (fun _ => List.sublist_cons_self _ _)) rfl rfl (fun X Y h0 h => ⟨by first | rfl | (show (.slice (X 10).1 ((agN (jload a b).ps (mn (mx budget 0) 1048576) l j).out.length + 1) (X 10).2 : Value) = .slice (Y 10).1 ((agN (jload a b).ps (mn (mx budget 0) 1048576) l j).out.length + 1) (Y 10).2; simp only [h0, h 9 (by decide)]), by first | rfl | (show ([Sx.Item.own 0 91 2 (.slice (X 10).1 ((agN (jload a b).ps (mn (mx budget 0) 1048576) l j).out.length + 1) (X 10).2) ((agN (jload a b).ps (mn (mx budget 0) 1048576) l j).out.length + 1) ((((agN (jload a b).ps (mn (mx budget 0) 1048576) l j).out.map to91).flatMap pc91) ++ [Value.int .i64 p.f0, .int .i64 (pkF (jload a b).ps p)])] : List Sx.Item) = [Sx.Item.own 0 91 2 (.slice (Y 10).1 ((agN (jload a b).ps (mn (mx budget 0) 1048576) l j).out.length + 1) (Y 10).2) ((agN (jload a b).ps (mn (mx budget 0) 1048576) l j).out.length + 1) ((((agN (jload a b).ps (mn (mx budget 0) 1048576) l j).out.map to91).flatMap pc91) ++ [Value.int .i64 p.f0, .int .i64 (pkF (jload a b).ps p)])]; simp only [h0, h 9 (by decide)])⟩) (ChainG.yield [] [9, 10] (fun X => q_fa (o1 := 3) rfl rfl Fo42_3 rfl) rfl rfl (fun _ => rfl) (fun _ _ => rfl) (fun X Y h0 h => ⟨by first | rfl | simp only [h0, h 9 (by decide), h 10 (by decide)], by first | rfl | simp only [h0, h 9 (by decide), h 10 (by decide)]⟩) (ChainG.store [14] [9, 10] (fun X => oe_storeAt (i := 0) rfl rfl rfl rfl Sz40 rfl rfl (by simp) (by simp [Value.oneCell']) rfl rfl) rfl rfl (fun _ => rfl) (fun _ _ => rfl) (fun X Y h0 h => ⟨by first | rfl | simp only [h0, h 9 (by decide), h 10 (by decide)], by first | rfl | (show ([Sx.Item.blk b4 [.int .i64 (mn (mx budget 0) 1048576), .int .i64 (jload a b).mar, .int .i64 0, .slice (X 10).1 ((agN (jload a b).ps (mn (mx budget 0) 1048576) l j).out.length + 1) (X 10).2] 42] : List Sx.Item) = [Sx.Item.blk b4 [.int .i64 (mn (mx budget 0) 1048576), .int .i64 (jload a b).mar, .int .i64 0, .slice (Y 10).1 ((agN (jload a b).ps (mn (mx budget 0) 1048576) l j).out.length + 1) (Y 10).2] 42]; simp only [h0, h 9 (by decide), h 10 (by decide)])⟩) (ChainG.nil _ _)))))))))))))) rfl rfl (fun X => [_, _, _, _, _, _, _]) (fun _ => rfl) (fun X => ?_))
                generalize X 10 = qa
                try dsimp only [List.take_succ_cons, List.take_zero, List.take_nil, List.drop_succ_cons, List.drop_zero, List.drop_nil, List.nil_append, List.cons_append, List.append_nil, List.length_cons, List.length_nil, Nat.reduceAdd, Nat.zero_add]
                refine wl_nil ?_
                refine fq_block ?_
                refine fq_then ?_
                refine wc_region ?_
                refine wl_q (q_move rfl rfl) rfl rfl (by decide) ?_
                refine wl_q (q_bin rfl rfl rfl rfl) rfl rfl (by decide) ?_
                refine wl_q (q_assign rfl rfl) rfl rfl (by decide) ?_
                refine wl_nil ?_
                have hag : (agN (jload a b).ps (mn (mx budget 0) 1048576) l (j + 1)) = agOne (jload a b).ps (mn (mx budget 0) 1048576) ((l.take j).map S28.f0) (agN (jload a b).ps (mn (mx budget 0) 1048576) l j) p := by (show (match l[j]? with | some m => _ | none => _) = _; rw [hp])
                have hag2 : (agN (jload a b).ps (mn (mx budget 0) 1048576) l (j + 1)) = ⟨(agN (jload a b).ps (mn (mx budget 0) 1048576) l j).out ++ [⟨p.f0, pkF (jload a b).ps p⟩], (agN (jload a b).ps (mn (mx budget 0) 1048576) l j).stops⟩ := by (rw [hag]; unfold agOne; rw [if_neg hsk]; exact if_neg (by omega))
                have e0 : (agN (jload a b).ps (mn (mx budget 0) 1048576) l (j + 1)).stops = (agN (jload a b).ps (mn (mx budget 0) 1048576) l j).stops := by rw [hag2]
                have e1 : (agN (jload a b).ps (mn (mx budget 0) 1048576) l j).out.length + 1 = (agN (jload a b).ps (mn (mx budget 0) 1048576) l (j + 1)).out.length := by (rw [hag2]; simp)
                have e2 : ((agN (jload a b).ps (mn (mx budget 0) 1048576) l j).out.map to91).flatMap pc91 ++ [Value.int .i64 p.f0, Value.int .i64 (pkF (jload a b).ps p)] = ((agN (jload a b).ps (mn (mx budget 0) 1048576) l (j + 1)).out.map to91).flatMap pc91 := by (rw [hag2, List.map_append, List.flatMap_append]; rfl)
                rw [e1, e2, ← e0]
                refine fq_next (j + 1, qa, qs) (show j + 1 ≤ l.length by omega) (show l.length - (j + 1) < l.length - j by omega) ⟨List.forall_mem_cons.2 ⟨rfl, List.forall_mem_cons.2 ⟨rfl, List.forall_mem_cons.2 ⟨rfl, List.forall_mem_cons.2 ⟨rfl, List.forall_mem_cons.2 ⟨rfl, List.forall_mem_cons.2 ⟨rfl, List.forall_mem_cons.2 ⟨(show some (Value.int .i64 (IntKind.i64.wrap ((j : Int) + 1))) = some (Value.int .i64 ((j + 1 : Nat) : Int)) from by rw [wj]), fun _ h => (by cases h)⟩⟩⟩⟩⟩⟩⟩, List.Sublist.refl _⟩
            · skip
              intro hjoin19
              refine wc_seq ?_
              refine wc_seq ?_
              refine wc_region ?_
              refine wl_q (q_move rfl rfl) rfl rfl (by decide) ?_
              refine wl_q (q_bin rfl rfl rfl rfl) rfl rfl (by decide) ?_
              refine wl_q (q_move rfl rfl) rfl rfl (by decide) ?_
              refine wl_split (t := 86) rfl (fun h86 => ?_) (fun h86 => ?_)
              · skip
                have q86 := h86
                try simp only [decide_eq_true_eq, decide_eq_false_iff_not, beq_iff_eq, beq_eq_false_iff_ne, bne_iff_ne, ne_eq, bne_eq_false_iff_eq, Int.not_lt, Int.not_le] at q86
                obtain ⟨hix0, pm, hpm, hhs⟩ := (hasP_ix (jload a b).ps p.f0).resolve_right (fun h => absurd q86 (by omega))
                have hixl := (List.getElem?_eq_some_iff.1 hpm).1
                have hpa : pl.1 = some ⟨g, 0, none⟩ := eg (by omega)
                refine wl_want (b := true) (q_fa (o1 := 3) rfl rfl Fo42_3 rfl) rfl rfl rfl rfl (by decide) ?_
                refine wl_want (b := true) (q_load rfl rfl Mn40 (reads1 (i := 3) rfl rfl)) rfl rfl rfl rfl (by decide) ?_
                refine wl_want (b := true) (q_move rfl rfl) rfl rfl rfl rfl (by decide) ?_
                refine wl_want (b := true) (q_indexO rfl rfl hpa rfl Tryd.underlying40 Sz91 hix0 (by omega)) rfl rfl rfl rfl (by decide) ?_
                refine wl_want (b := true) (q_fax (k1 := (PChk.ixf (jload a b).ps (fun q => q.f0 == p.f0)).toNat * 2 + 1) rfl rfl Fo91_1 rfl) rfl rfl rfl rfl (by decide) ?_
                refine wl_want (b := true) (q_load (v := .int .i64 pm.f1) rfl rfl Mn3 ((readsOwn (i := 4) (ad := ⟨g, 0, none⟩) (n := (jload a b).ps.length) (c := pl.2) (by rw [← hpa]; rfl)).at (j := (PChk.ixf (jload a b).ps (fun q => q.f0 == p.f0)).toNat * 2 + 1) (flat_at91 (show ((jload a b).ps.map to91)[_]? = some (to91 pm) by rw [List.getElem?_map, hpm]; rfl) rfl))) rfl rfl rfl rfl (by decide) ?_
                refine wl_want (b := true) (q_move rfl rfl) rfl rfl rfl rfl (by decide) ?_
                refine wl_want (b := true) (q_bin rfl rfl rfl rfl) rfl rfl rfl rfl (by decide) ?_
                refine wl_q (q_pick rfl rfl rfl) rfl rfl (by decide) ?_
                refine wl_nil ?_
                refine fq_then ?_
                refine wc_cond rfl (fun h95 => ?_) (fun h95 => ?_)
                · skip
                  have q95 := h95
                  try simp only [decide_eq_true_eq, decide_eq_false_iff_not, beq_iff_eq, beq_eq_false_iff_ne, bne_iff_ne, ne_eq, bne_eq_false_iff_eq, Int.not_lt, Int.not_le] at q95
                  refine wc_region ?_
                  refine wl_q (q_fa (o1 := 3) rfl rfl Fo42_3 rfl) rfl rfl (by decide) ?_
                  refine wl_q (q_load rfl rfl Mn40 (reads1 (i := 3) rfl rfl)) rfl rfl (by decide) ?_
                  refine wl_q (q_move rfl rfl) rfl rfl (by decide) ?_
                  refine wl_q (q_indexO rfl rfl hpa rfl Tryd.underlying40 Sz91 hix0 (by omega)) rfl rfl (by decide) ?_
                  refine wl_q (q_fax (k1 := (PChk.ixf (jload a b).ps (fun q => q.f0 == p.f0)).toNat * 2 + 1) rfl rfl Fo91_1 rfl) rfl rfl (by decide) ?_
                  refine wl_q (q_load (v := .int .i64 pm.f1) rfl rfl Mn3 ((readsOwn (i := 4) (ad := ⟨g, 0, none⟩) (n := (jload a b).ps.length) (c := pl.2) (by rw [← hpa]; rfl)).at (j := (PChk.ixf (jload a b).ps (fun q => q.f0 == p.f0)).toNat * 2 + 1) (flat_at91 (show ((jload a b).ps.map to91)[_]? = some (to91 pm) by rw [List.getElem?_map, hpm]; rfl) rfl))) rfl rfl (by decide) ?_
                  refine wl_q (q_assign rfl rfl) rfl rfl (by decide) ?_
                  refine wl_nil ?_
                  refine fq_then ?_
                  refine wc_seq ?_
                  refine wc_seq ?_
                  refine wc_region ?_
                  refine wl_q (q_move rfl rfl) rfl rfl (by decide) ?_
                  refine wl_q (q_bin rfl rfl rfl rfl) rfl rfl (by decide) ?_
                  refine wl_nil ?_
                  refine fq_then ?_
                  refine wc_cond rfl (fun h103 => ?_) (fun h103 => ?_)
                  · skip
                    have q103 := h103
                    try simp only [decide_eq_true_eq, decide_eq_false_iff_not, beq_iff_eq, beq_eq_false_iff_ne, bne_iff_ne, ne_eq, bne_eq_false_iff_eq, Int.not_lt, Int.not_le] at q103
                    refine wc_region ?_
                    refine wl_q (q_assign rfl rfl) rfl rfl (by decide) ?_
                    refine wl_nil ?_
                    refine fq_then ?_
                    refine wc_seq ?_
                    refine wc_seq ?_
                    refine wc_region ?_
                    refine wl_q (q_move rfl rfl) rfl rfl (by decide) ?_
                    refine wl_q (q_bin rfl rfl rfl rfl) rfl rfl (by decide) ?_
                    refine wl_nil ?_
                    refine fq_then ?_
                    refine wc_cond rfl (fun h105 => ?_) (fun h105 => ?_)
                    · skip
                      have q105 := h105
                      try simp only [decide_eq_true_eq, decide_eq_false_iff_not, beq_iff_eq, beq_eq_false_iff_ne, bne_iff_ne, ne_eq, bne_eq_false_iff_eq, Int.not_lt, Int.not_le] at q105
                      refine wc_region ?_
                      refine wl_q (q_assign rfl rfl) rfl rfl (by decide) ?_
                      refine wl_nil ?_
                      refine fq_then ?_
                      exact WC.less hjoin19 ⟨List.forall_mem_cons.2 ⟨rfl, List.forall_mem_cons.2 ⟨rfl, List.forall_mem_cons.2 ⟨rfl, List.forall_mem_cons.2 ⟨rfl, List.forall_mem_cons.2 ⟨rfl, List.forall_mem_cons.2 ⟨rfl, List.forall_mem_cons.2 ⟨rfl, List.forall_mem_cons.2 ⟨(congrArg (fun n => some (Value.int .i64 n)) (by unfold pkF; rw [hhs]; unfold mn mx; (repeat' split) <;> omega)), fun _ h => (by cases h)⟩⟩⟩⟩⟩⟩⟩⟩, List.Sublist.refl _⟩
                    · skip
                      have q105 := h105
                      try simp only [decide_eq_true_eq, decide_eq_false_iff_not, beq_iff_eq, beq_eq_false_iff_ne, bne_iff_ne, ne_eq, bne_eq_false_iff_eq, Int.not_lt, Int.not_le] at q105
                      refine wc_skip ?_
                      refine fq_then ?_
                      exact WC.less hjoin19 ⟨List.forall_mem_cons.2 ⟨rfl, List.forall_mem_cons.2 ⟨rfl, List.forall_mem_cons.2 ⟨rfl, List.forall_mem_cons.2 ⟨rfl, List.forall_mem_cons.2 ⟨rfl, List.forall_mem_cons.2 ⟨rfl, List.forall_mem_cons.2 ⟨rfl, List.forall_mem_cons.2 ⟨(congrArg (fun n => some (Value.int .i64 n)) (by unfold pkF; rw [hhs]; unfold mn mx; (repeat' split) <;> omega)), fun _ h => (by cases h)⟩⟩⟩⟩⟩⟩⟩⟩, List.Sublist.refl _⟩
                  · skip
                    have q103 := h103
                    try simp only [decide_eq_true_eq, decide_eq_false_iff_not, beq_iff_eq, beq_eq_false_iff_ne, bne_iff_ne, ne_eq, bne_eq_false_iff_eq, Int.not_lt, Int.not_le] at q103
                    refine wc_skip ?_
                    refine fq_then ?_
                    refine wc_seq ?_
                    refine wc_seq ?_
                    refine wc_region ?_
                    refine wl_q (q_move rfl rfl) rfl rfl (by decide) ?_
                    refine wl_q (q_bin rfl rfl rfl rfl) rfl rfl (by decide) ?_
                    refine wl_nil ?_
                    refine fq_then ?_
                    refine wc_cond rfl (fun h105 => ?_) (fun h105 => ?_)
                    · skip
                      have q105 := h105
                      try simp only [decide_eq_true_eq, decide_eq_false_iff_not, beq_iff_eq, beq_eq_false_iff_ne, bne_iff_ne, ne_eq, bne_eq_false_iff_eq, Int.not_lt, Int.not_le] at q105
                      refine wc_region ?_
                      refine wl_q (q_assign rfl rfl) rfl rfl (by decide) ?_
                      refine wl_nil ?_
                      refine fq_then ?_
                      exact WC.less hjoin19 ⟨List.forall_mem_cons.2 ⟨rfl, List.forall_mem_cons.2 ⟨rfl, List.forall_mem_cons.2 ⟨rfl, List.forall_mem_cons.2 ⟨rfl, List.forall_mem_cons.2 ⟨rfl, List.forall_mem_cons.2 ⟨rfl, List.forall_mem_cons.2 ⟨rfl, List.forall_mem_cons.2 ⟨(congrArg (fun n => some (Value.int .i64 n)) (by unfold pkF; rw [hhs]; unfold mn mx; (repeat' split) <;> omega)), fun _ h => (by cases h)⟩⟩⟩⟩⟩⟩⟩⟩, List.Sublist.refl _⟩
                    · skip
                      have q105 := h105
                      try simp only [decide_eq_true_eq, decide_eq_false_iff_not, beq_iff_eq, beq_eq_false_iff_ne, bne_iff_ne, ne_eq, bne_eq_false_iff_eq, Int.not_lt, Int.not_le] at q105
                      refine wc_skip ?_
                      refine fq_then ?_
                      exact WC.less hjoin19 ⟨List.forall_mem_cons.2 ⟨rfl, List.forall_mem_cons.2 ⟨rfl, List.forall_mem_cons.2 ⟨rfl, List.forall_mem_cons.2 ⟨rfl, List.forall_mem_cons.2 ⟨rfl, List.forall_mem_cons.2 ⟨rfl, List.forall_mem_cons.2 ⟨rfl, List.forall_mem_cons.2 ⟨(congrArg (fun n => some (Value.int .i64 n)) (by unfold pkF; rw [hhs]; unfold mn mx; (repeat' split) <;> omega)), fun _ h => (by cases h)⟩⟩⟩⟩⟩⟩⟩⟩, List.Sublist.refl _⟩
                · skip
                  have q95 := h95
                  try simp only [decide_eq_true_eq, decide_eq_false_iff_not, beq_iff_eq, beq_eq_false_iff_ne, bne_iff_ne, ne_eq, bne_eq_false_iff_eq, Int.not_lt, Int.not_le] at q95
                  refine wc_skip ?_
                  refine fq_then ?_
                  refine wc_seq ?_
                  refine wc_seq ?_
                  refine wc_region ?_
                  refine wl_q (q_move rfl rfl) rfl rfl (by decide) ?_
                  refine wl_q (q_bin rfl rfl rfl rfl) rfl rfl (by decide) ?_
                  refine wl_nil ?_
                  refine fq_then ?_
                  refine wc_cond rfl (fun h103 => ?_) (fun h103 => ?_)
                  · skip
                    have q103 := h103
                    try simp only [decide_eq_true_eq, decide_eq_false_iff_not, beq_iff_eq, beq_eq_false_iff_ne, bne_iff_ne, ne_eq, bne_eq_false_iff_eq, Int.not_lt, Int.not_le] at q103
                    refine wc_region ?_
                    refine wl_q (q_assign rfl rfl) rfl rfl (by decide) ?_
                    refine wl_nil ?_
                    refine fq_then ?_
                    refine wc_seq ?_
                    refine wc_seq ?_
                    refine wc_region ?_
                    refine wl_q (q_move rfl rfl) rfl rfl (by decide) ?_
                    refine wl_q (q_bin rfl rfl rfl rfl) rfl rfl (by decide) ?_
                    refine wl_nil ?_
                    refine fq_then ?_
                    refine wc_cond rfl (fun h105 => ?_) (fun h105 => ?_)
                    · skip
                      have q105 := h105
                      try simp only [decide_eq_true_eq, decide_eq_false_iff_not, beq_iff_eq, beq_eq_false_iff_ne, bne_iff_ne, ne_eq, bne_eq_false_iff_eq, Int.not_lt, Int.not_le] at q105
                      refine wc_region ?_
                      refine wl_q (q_assign rfl rfl) rfl rfl (by decide) ?_
                      refine wl_nil ?_
                      refine fq_then ?_
                      exact WC.less hjoin19 ⟨List.forall_mem_cons.2 ⟨rfl, List.forall_mem_cons.2 ⟨rfl, List.forall_mem_cons.2 ⟨rfl, List.forall_mem_cons.2 ⟨rfl, List.forall_mem_cons.2 ⟨rfl, List.forall_mem_cons.2 ⟨rfl, List.forall_mem_cons.2 ⟨rfl, List.forall_mem_cons.2 ⟨(congrArg (fun n => some (Value.int .i64 n)) (by unfold pkF; rw [hhs]; unfold mn mx; (repeat' split) <;> omega)), fun _ h => (by cases h)⟩⟩⟩⟩⟩⟩⟩⟩, List.Sublist.refl _⟩
                    · skip
                      have q105 := h105
                      try simp only [decide_eq_true_eq, decide_eq_false_iff_not, beq_iff_eq, beq_eq_false_iff_ne, bne_iff_ne, ne_eq, bne_eq_false_iff_eq, Int.not_lt, Int.not_le] at q105
                      refine wc_skip ?_
                      refine fq_then ?_
                      exact WC.less hjoin19 ⟨List.forall_mem_cons.2 ⟨rfl, List.forall_mem_cons.2 ⟨rfl, List.forall_mem_cons.2 ⟨rfl, List.forall_mem_cons.2 ⟨rfl, List.forall_mem_cons.2 ⟨rfl, List.forall_mem_cons.2 ⟨rfl, List.forall_mem_cons.2 ⟨rfl, List.forall_mem_cons.2 ⟨(congrArg (fun n => some (Value.int .i64 n)) (by unfold pkF; rw [hhs]; unfold mn mx; (repeat' split) <;> omega)), fun _ h => (by cases h)⟩⟩⟩⟩⟩⟩⟩⟩, List.Sublist.refl _⟩
                  · skip
                    have q103 := h103
                    try simp only [decide_eq_true_eq, decide_eq_false_iff_not, beq_iff_eq, beq_eq_false_iff_ne, bne_iff_ne, ne_eq, bne_eq_false_iff_eq, Int.not_lt, Int.not_le] at q103
                    refine wc_skip ?_
                    refine fq_then ?_
                    refine wc_seq ?_
                    refine wc_seq ?_
                    refine wc_region ?_
                    refine wl_q (q_move rfl rfl) rfl rfl (by decide) ?_
                    refine wl_q (q_bin rfl rfl rfl rfl) rfl rfl (by decide) ?_
                    refine wl_nil ?_
                    refine fq_then ?_
                    refine wc_cond rfl (fun h105 => ?_) (fun h105 => ?_)
                    · skip
                      have q105 := h105
                      try simp only [decide_eq_true_eq, decide_eq_false_iff_not, beq_iff_eq, beq_eq_false_iff_ne, bne_iff_ne, ne_eq, bne_eq_false_iff_eq, Int.not_lt, Int.not_le] at q105
                      refine wc_region ?_
                      refine wl_q (q_assign rfl rfl) rfl rfl (by decide) ?_
                      refine wl_nil ?_
                      refine fq_then ?_
                      exact WC.less hjoin19 ⟨List.forall_mem_cons.2 ⟨rfl, List.forall_mem_cons.2 ⟨rfl, List.forall_mem_cons.2 ⟨rfl, List.forall_mem_cons.2 ⟨rfl, List.forall_mem_cons.2 ⟨rfl, List.forall_mem_cons.2 ⟨rfl, List.forall_mem_cons.2 ⟨rfl, List.forall_mem_cons.2 ⟨(congrArg (fun n => some (Value.int .i64 n)) (by unfold pkF; rw [hhs]; unfold mn mx; (repeat' split) <;> omega)), fun _ h => (by cases h)⟩⟩⟩⟩⟩⟩⟩⟩, List.Sublist.refl _⟩
                    · skip
                      have q105 := h105
                      try simp only [decide_eq_true_eq, decide_eq_false_iff_not, beq_iff_eq, beq_eq_false_iff_ne, bne_iff_ne, ne_eq, bne_eq_false_iff_eq, Int.not_lt, Int.not_le] at q105
                      refine wc_skip ?_
                      refine fq_then ?_
                      exact WC.less hjoin19 ⟨List.forall_mem_cons.2 ⟨rfl, List.forall_mem_cons.2 ⟨rfl, List.forall_mem_cons.2 ⟨rfl, List.forall_mem_cons.2 ⟨rfl, List.forall_mem_cons.2 ⟨rfl, List.forall_mem_cons.2 ⟨rfl, List.forall_mem_cons.2 ⟨rfl, List.forall_mem_cons.2 ⟨(congrArg (fun n => some (Value.int .i64 n)) (by unfold pkF; rw [hhs]; unfold mn mx; (repeat' split) <;> omega)), fun _ h => (by cases h)⟩⟩⟩⟩⟩⟩⟩⟩, List.Sublist.refl _⟩
              · skip
                have q86 := h86
                try simp only [decide_eq_true_eq, decide_eq_false_iff_not, beq_iff_eq, beq_eq_false_iff_ne, bne_iff_ne, ne_eq, bne_eq_false_iff_eq, Int.not_lt, Int.not_le] at q86
                obtain ⟨hixn, hhs⟩ := (hasP_ix (jload a b).ps p.f0).resolve_left (fun h => absurd h.1 (by omega))
                refine wl_skip (b := false) rfl rfl rfl rfl (by decide) ?_
                refine wl_skip (b := false) rfl rfl rfl rfl (by decide) ?_
                refine wl_skip (b := false) rfl rfl rfl rfl (by decide) ?_
                refine wl_skip (b := false) rfl rfl rfl rfl (by decide) ?_
                refine wl_skip (b := false) rfl rfl rfl rfl (by decide) ?_
                refine wl_skip (b := false) rfl rfl rfl rfl (by decide) ?_
                refine wl_skip (b := false) rfl rfl rfl rfl (by decide) ?_
                refine wl_skip (b := false) rfl rfl rfl rfl (by decide) ?_
                refine wl_q (q_pick rfl rfl rfl) rfl rfl (by decide) ?_
                refine wl_nil ?_
                refine fq_then ?_
                refine wc_false rfl ?_
                refine wc_skip ?_
                refine fq_then ?_
                refine wc_seq ?_
                refine wc_seq ?_
                refine wc_region ?_
                refine wl_q (q_move rfl rfl) rfl rfl (by decide) ?_
                refine wl_q (q_bin rfl rfl rfl rfl) rfl rfl (by decide) ?_
                refine wl_nil ?_
                refine fq_then ?_
                refine wc_cond rfl (fun h103 => ?_) (fun h103 => ?_)
                · skip
                  have q103 := h103
                  try simp only [decide_eq_true_eq, decide_eq_false_iff_not, beq_iff_eq, beq_eq_false_iff_ne, bne_iff_ne, ne_eq, bne_eq_false_iff_eq, Int.not_lt, Int.not_le] at q103
                  refine wc_region ?_
                  refine wl_q (q_assign rfl rfl) rfl rfl (by decide) ?_
                  refine wl_nil ?_
                  refine fq_then ?_
                  refine wc_seq ?_
                  refine wc_seq ?_
                  refine wc_region ?_
                  refine wl_q (q_move rfl rfl) rfl rfl (by decide) ?_
                  refine wl_q (q_bin rfl rfl rfl rfl) rfl rfl (by decide) ?_
                  refine wl_nil ?_
                  refine fq_then ?_
                  refine wc_cond rfl (fun h105 => ?_) (fun h105 => ?_)
                  · skip
                    have q105 := h105
                    try simp only [decide_eq_true_eq, decide_eq_false_iff_not, beq_iff_eq, beq_eq_false_iff_ne, bne_iff_ne, ne_eq, bne_eq_false_iff_eq, Int.not_lt, Int.not_le] at q105
                    refine wc_region ?_
                    refine wl_q (q_assign rfl rfl) rfl rfl (by decide) ?_
                    refine wl_nil ?_
                    refine fq_then ?_
                    exact WC.less hjoin19 ⟨List.forall_mem_cons.2 ⟨rfl, List.forall_mem_cons.2 ⟨rfl, List.forall_mem_cons.2 ⟨rfl, List.forall_mem_cons.2 ⟨rfl, List.forall_mem_cons.2 ⟨rfl, List.forall_mem_cons.2 ⟨rfl, List.forall_mem_cons.2 ⟨rfl, List.forall_mem_cons.2 ⟨(congrArg (fun n => some (Value.int .i64 n)) (by unfold pkF; rw [hhs]; unfold mn mx; (repeat' split) <;> omega)), fun _ h => (by cases h)⟩⟩⟩⟩⟩⟩⟩⟩, List.Sublist.refl _⟩
                  · skip
                    have q105 := h105
                    try simp only [decide_eq_true_eq, decide_eq_false_iff_not, beq_iff_eq, beq_eq_false_iff_ne, bne_iff_ne, ne_eq, bne_eq_false_iff_eq, Int.not_lt, Int.not_le] at q105
                    refine wc_skip ?_
                    refine fq_then ?_
                    exact WC.less hjoin19 ⟨List.forall_mem_cons.2 ⟨rfl, List.forall_mem_cons.2 ⟨rfl, List.forall_mem_cons.2 ⟨rfl, List.forall_mem_cons.2 ⟨rfl, List.forall_mem_cons.2 ⟨rfl, List.forall_mem_cons.2 ⟨rfl, List.forall_mem_cons.2 ⟨rfl, List.forall_mem_cons.2 ⟨(congrArg (fun n => some (Value.int .i64 n)) (by unfold pkF; rw [hhs]; unfold mn mx; (repeat' split) <;> omega)), fun _ h => (by cases h)⟩⟩⟩⟩⟩⟩⟩⟩, List.Sublist.refl _⟩
                · skip
                  have q103 := h103
                  try simp only [decide_eq_true_eq, decide_eq_false_iff_not, beq_iff_eq, beq_eq_false_iff_ne, bne_iff_ne, ne_eq, bne_eq_false_iff_eq, Int.not_lt, Int.not_le] at q103
                  refine wc_skip ?_
                  refine fq_then ?_
                  refine wc_seq ?_
                  refine wc_seq ?_
                  refine wc_region ?_
                  refine wl_q (q_move rfl rfl) rfl rfl (by decide) ?_
                  refine wl_q (q_bin rfl rfl rfl rfl) rfl rfl (by decide) ?_
                  refine wl_nil ?_
                  refine fq_then ?_
                  refine wc_cond rfl (fun h105 => ?_) (fun h105 => ?_)
                  · skip
                    have q105 := h105
                    try simp only [decide_eq_true_eq, decide_eq_false_iff_not, beq_iff_eq, beq_eq_false_iff_ne, bne_iff_ne, ne_eq, bne_eq_false_iff_eq, Int.not_lt, Int.not_le] at q105
                    refine wc_region ?_
                    refine wl_q (q_assign rfl rfl) rfl rfl (by decide) ?_
                    refine wl_nil ?_
                    refine fq_then ?_
                    exact WC.less hjoin19 ⟨List.forall_mem_cons.2 ⟨rfl, List.forall_mem_cons.2 ⟨rfl, List.forall_mem_cons.2 ⟨rfl, List.forall_mem_cons.2 ⟨rfl, List.forall_mem_cons.2 ⟨rfl, List.forall_mem_cons.2 ⟨rfl, List.forall_mem_cons.2 ⟨rfl, List.forall_mem_cons.2 ⟨(congrArg (fun n => some (Value.int .i64 n)) (by unfold pkF; rw [hhs]; unfold mn mx; (repeat' split) <;> omega)), fun _ h => (by cases h)⟩⟩⟩⟩⟩⟩⟩⟩, List.Sublist.refl _⟩
                  · skip
                    have q105 := h105
                    try simp only [decide_eq_true_eq, decide_eq_false_iff_not, beq_iff_eq, beq_eq_false_iff_ne, bne_iff_ne, ne_eq, bne_eq_false_iff_eq, Int.not_lt, Int.not_le] at q105
                    refine wc_skip ?_
                    refine fq_then ?_
                    exact WC.less hjoin19 ⟨List.forall_mem_cons.2 ⟨rfl, List.forall_mem_cons.2 ⟨rfl, List.forall_mem_cons.2 ⟨rfl, List.forall_mem_cons.2 ⟨rfl, List.forall_mem_cons.2 ⟨rfl, List.forall_mem_cons.2 ⟨rfl, List.forall_mem_cons.2 ⟨rfl, List.forall_mem_cons.2 ⟨(congrArg (fun n => some (Value.int .i64 n)) (by unfold pkF; rw [hhs]; unfold mn mx; (repeat' split) <;> omega)), fun _ h => (by cases h)⟩⟩⟩⟩⟩⟩⟩⟩, List.Sublist.refl _⟩
      · skip
        intro hjoin11
        refine wc_seq ?_
        refine wc_region ?_
        refine wl_q (q_move rfl rfl) rfl rfl (by decide) ?_
        refine wl_q (q_move rfl rfl) rfl rfl (by decide) ?_
        refine wl_q (q_indexO rfl rfl hA rfl Tryd.underlying26 Sz29 (by omega) (by omega)) rfl rfl (by decide) ?_
        refine wl_q (q_fax rfl rfl Fo29_0 rfl) rfl rfl (by decide) ?_
        refine wl_q (q_load rfl rfl Mn3 (reads_old (by simp) (cell_zero (hra.one (j := 0) rfl)))) rfl rfl (by decide) ?_
        refine wl_q (q_bin rfl rfl rfl rfl) rfl rfl (by decide) ?_
        refine wl_q (q_move rfl rfl) rfl rfl (by decide) ?_
        refine wl_split (t := 44) rfl (fun h44 => ?_) (fun h44 => ?_)
        · skip
          have q44 := h44
          try simp only [decide_eq_true_eq, decide_eq_false_iff_not, beq_iff_eq, beq_eq_false_iff_ne, bne_iff_ne, ne_eq, bne_eq_false_iff_eq, Int.not_lt, Int.not_le] at q44
          refine wl_skip (b := true) rfl rfl rfl rfl (by decide) ?_
          refine wl_skip (b := true) rfl rfl rfl rfl (by decide) ?_
          refine wl_skip (b := true) rfl rfl rfl rfl (by decide) ?_
          refine wl_skip (b := true) rfl rfl rfl rfl (by decide) ?_
          refine wl_skip (b := true) rfl rfl rfl rfl (by decide) ?_
          refine wl_skip (b := true) rfl rfl rfl rfl (by decide) ?_
          refine wl_q (q_pick rfl rfl rfl) rfl rfl (by decide) ?_
          refine wl_q (q_assign rfl rfl) rfl rfl (by decide) ?_
          refine wl_nil ?_
          refine fq_then ?_
          exact WC.less hjoin11 ⟨List.forall_mem_cons.2 ⟨rfl, List.forall_mem_cons.2 ⟨rfl, List.forall_mem_cons.2 ⟨rfl, List.forall_mem_cons.2 ⟨rfl, List.forall_mem_cons.2 ⟨rfl, List.forall_mem_cons.2 ⟨rfl, List.forall_mem_cons.2 ⟨rfl, List.forall_mem_cons.2 ⟨(congrArg (fun b => some (Value.bool b)) (by unfold nmd; first | (rw [decide_eq_true (show p.f0 < 0 by omega)]; rfl) | (rw [decide_eq_false (show ¬ p.f0 < 0 by omega)]; simp))), fun _ h => (by cases h)⟩⟩⟩⟩⟩⟩⟩⟩, List.Sublist.refl _⟩
        · skip
          have q44 := h44
          try simp only [decide_eq_true_eq, decide_eq_false_iff_not, beq_iff_eq, beq_eq_false_iff_ne, bne_iff_ne, ne_eq, bne_eq_false_iff_eq, Int.not_lt, Int.not_le] at q44
          refine wl_want (b := false) (q_move rfl rfl) rfl rfl rfl rfl (by decide) ?_
          refine wl_want (b := false) (q_move rfl rfl) rfl rfl rfl rfl (by decide) ?_
          refine wl_want (b := false) (q_indexO rfl rfl hA rfl Tryd.underlying26 Sz29 (by omega) (by omega)) rfl rfl rfl rfl (by decide) ?_
          refine wl_want (b := false) (q_fax rfl rfl Fo29_0 rfl) rfl rfl rfl rfl (by decide) ?_
          refine wl_want (b := false) (q_load rfl rfl Mn3 (reads_old (by simp) (cell_zero (hra.one (j := 0) rfl)))) rfl rfl rfl rfl (by decide) ?_
          refine wl_want (b := false) (q_bin rfl rfl rfl rfl) rfl rfl rfl rfl (by decide) ?_
          refine wl_q (q_pick rfl rfl rfl) rfl rfl (by decide) ?_
          refine wl_q (q_assign rfl rfl) rfl rfl (by decide) ?_
          refine wl_nil ?_
          refine fq_then ?_
          exact WC.less hjoin11 ⟨List.forall_mem_cons.2 ⟨rfl, List.forall_mem_cons.2 ⟨rfl, List.forall_mem_cons.2 ⟨rfl, List.forall_mem_cons.2 ⟨rfl, List.forall_mem_cons.2 ⟨rfl, List.forall_mem_cons.2 ⟨rfl, List.forall_mem_cons.2 ⟨rfl, List.forall_mem_cons.2 ⟨(congrArg (fun b => some (Value.bool b)) (by unfold nmd; first | (rw [decide_eq_true (show p.f0 < 0 by omega)]; rfl) | (rw [decide_eq_false (show ¬ p.f0 < 0 by omega)]; simp))), fun _ h => (by cases h)⟩⟩⟩⟩⟩⟩⟩⟩, List.Sublist.refl _⟩
    · skip
      have q35 := h35
      try simp only [decide_eq_true_eq, decide_eq_false_iff_not, beq_iff_eq, beq_eq_false_iff_ne, bne_iff_ne, ne_eq, bne_eq_false_iff_eq, Int.not_lt, Int.not_le] at q35
      obtain rfl : j = l.length := by omega
      refine wc_exit ?_
      refine fq_then_exit ?_
      refine fq_then_exit ?_
      refine fq_block_hit ?_
      refine fq_then ?_
      refine wc_seq ?_
      refine wc_region ?_
      refine wl_q (q_loadA rfl rfl Mn42 Sz42 rfl (readsAll (i := 1) rfl)) rfl rfl (by decide) ?_
      refine wl_q (q_move rfl rfl) rfl rfl (by decide) ?_
      refine wl_store (i := 5) rfl rfl rfl rfl rfl rfl Sz42 rfl rfl (by simp) (by simp [Value.oneCell']) (by first | (simp only [List.take_succ_cons, List.take_zero, List.take_nil, List.drop_succ_cons, List.drop_zero, List.drop_nil, List.nil_append, List.cons_append, List.append_nil, List.length_cons, List.length_nil, Nat.reduceAdd, Nat.zero_add]; rfl) | rfl) (by first | (simp only [List.set_cons_zero, List.set_cons_succ]; rfl) | rfl) ?_
      refine wl_q (q_assign rfl rfl) rfl rfl (by decide) ?_
      refine wl_nil ?_
      refine fq_then ?_
      refine wc_ret ?_
      refine fq_cell_tmp (i := 5) (.inl rfl) rfl rfl rfl rfl Mn42 Sz42 rfl (fun w1 H => ?_)
      exact ⟨qo, qs, rfl, H.pick [2, 0, 6] (by decide) rfl⟩
  · skip
    intro hjoin2
    refine wc_seq ?_
    refine wc_seq ?_
    refine wc_region ?_
    refine wl_q (q_move rfl rfl) rfl rfl (by decide) ?_
    refine wl_q (q_bin rfl rfl rfl rfl) rfl rfl (by decide) ?_
    refine wl_nil ?_
    refine fq_then ?_
    refine wc_cond rfl (fun h25 => ?_) (fun h25 => ?_)
    · skip
      have q25 := h25
      try simp only [decide_eq_true_eq, decide_eq_false_iff_not, beq_iff_eq, beq_eq_false_iff_ne, bne_iff_ne, ne_eq, bne_eq_false_iff_eq, Int.not_lt, Int.not_le] at q25
      refine wc_region ?_
      refine wl_q (q_assign rfl rfl) rfl rfl (by decide) ?_
      refine wl_nil ?_
      refine fq_then ?_
      refine wc_seq ?_
      refine wc_seq ?_
      refine wc_region ?_
      refine wl_q (q_move rfl rfl) rfl rfl (by decide) ?_
      refine wl_q (q_bin rfl rfl rfl rfl) rfl rfl (by decide) ?_
      refine wl_nil ?_
      refine fq_then ?_
      refine wc_cond rfl (fun h27 => ?_) (fun h27 => ?_)
      · skip
        have q27 := h27
        try simp only [decide_eq_true_eq, decide_eq_false_iff_not, beq_iff_eq, beq_eq_false_iff_ne, bne_iff_ne, ne_eq, bne_eq_false_iff_eq, Int.not_lt, Int.not_le] at q27
        refine wc_region ?_
        refine wl_q (q_assign rfl rfl) rfl rfl (by decide) ?_
        refine wl_nil ?_
        refine fq_then ?_
        exact WC.less hjoin2 ⟨List.forall_mem_cons.2 ⟨rfl, List.forall_mem_cons.2 ⟨(congrArg (fun n => some (Value.int .i64 n)) (by unfold mn mx; (repeat' split) <;> omega)), List.forall_mem_cons.2 ⟨rfl, List.forall_mem_cons.2 ⟨rfl, fun _ h => (by cases h)⟩⟩⟩⟩, List.Sublist.cons_cons _ (List.Sublist.cons_cons _ (List.Sublist.cons_cons _ (List.Sublist.cons _ (List.Sublist.cons_cons _ (List.Sublist.refl [])))))⟩
      · skip
        have q27 := h27
        try simp only [decide_eq_true_eq, decide_eq_false_iff_not, beq_iff_eq, beq_eq_false_iff_ne, bne_iff_ne, ne_eq, bne_eq_false_iff_eq, Int.not_lt, Int.not_le] at q27
        refine wc_skip ?_
        refine fq_then ?_
        exact WC.less hjoin2 ⟨List.forall_mem_cons.2 ⟨rfl, List.forall_mem_cons.2 ⟨(congrArg (fun n => some (Value.int .i64 n)) (by unfold mn mx; (repeat' split) <;> omega)), List.forall_mem_cons.2 ⟨rfl, List.forall_mem_cons.2 ⟨rfl, fun _ h => (by cases h)⟩⟩⟩⟩, List.Sublist.cons_cons _ (List.Sublist.cons_cons _ (List.Sublist.cons_cons _ (List.Sublist.cons _ (List.Sublist.cons_cons _ (List.Sublist.refl [])))))⟩
    · skip
      have q25 := h25
      try simp only [decide_eq_true_eq, decide_eq_false_iff_not, beq_iff_eq, beq_eq_false_iff_ne, bne_iff_ne, ne_eq, bne_eq_false_iff_eq, Int.not_lt, Int.not_le] at q25
      refine wc_skip ?_
      refine fq_then ?_
      refine wc_seq ?_
      refine wc_seq ?_
      refine wc_region ?_
      refine wl_q (q_move rfl rfl) rfl rfl (by decide) ?_
      refine wl_q (q_bin rfl rfl rfl rfl) rfl rfl (by decide) ?_
      refine wl_nil ?_
      refine fq_then ?_
      refine wc_cond rfl (fun h27 => ?_) (fun h27 => ?_)
      · skip
        have q27 := h27
        try simp only [decide_eq_true_eq, decide_eq_false_iff_not, beq_iff_eq, beq_eq_false_iff_ne, bne_iff_ne, ne_eq, bne_eq_false_iff_eq, Int.not_lt, Int.not_le] at q27
        refine wc_region ?_
        refine wl_q (q_assign rfl rfl) rfl rfl (by decide) ?_
        refine wl_nil ?_
        refine fq_then ?_
        exact WC.less hjoin2 ⟨List.forall_mem_cons.2 ⟨rfl, List.forall_mem_cons.2 ⟨(congrArg (fun n => some (Value.int .i64 n)) (by unfold mn mx; (repeat' split) <;> omega)), List.forall_mem_cons.2 ⟨rfl, List.forall_mem_cons.2 ⟨rfl, fun _ h => (by cases h)⟩⟩⟩⟩, List.Sublist.cons_cons _ (List.Sublist.cons_cons _ (List.Sublist.cons_cons _ (List.Sublist.cons _ (List.Sublist.cons_cons _ (List.Sublist.refl [])))))⟩
      · skip
        have q27 := h27
        try simp only [decide_eq_true_eq, decide_eq_false_iff_not, beq_iff_eq, beq_eq_false_iff_ne, bne_iff_ne, ne_eq, bne_eq_false_iff_eq, Int.not_lt, Int.not_le] at q27
        refine wc_skip ?_
        refine fq_then ?_
        exact WC.less hjoin2 ⟨List.forall_mem_cons.2 ⟨rfl, List.forall_mem_cons.2 ⟨(congrArg (fun n => some (Value.int .i64 n)) (by unfold mn mx; (repeat' split) <;> omega)), List.forall_mem_cons.2 ⟨rfl, List.forall_mem_cons.2 ⟨rfl, fun _ h => (by cases h)⟩⟩⟩⟩, List.Sublist.cons_cons _ (List.Sublist.cons_cons _ (List.Sublist.cons_cons _ (List.Sublist.cons _ (List.Sublist.cons_cons _ (List.Sublist.refl [])))))⟩
end Go.Proofs.YtbcijmpkmmcdeaaDoor.SF
end
