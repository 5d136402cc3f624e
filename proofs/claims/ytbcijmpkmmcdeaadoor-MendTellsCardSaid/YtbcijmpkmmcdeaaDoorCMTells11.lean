/- Texts of mine, put together (no statement stands here). -/
import Derived.Test.YtbcijmpkmmcdeaaDoorCMTells10
section
namespace Go.Proofs.YtbcijmpkmmcdeaaDoor.SF
open Go.RowKit Go.Sx Go.Proofs.YtbcijmpkmmcdeaaDoor.PAll Go.Proofs.YtbcijmpkmmcdeaaDoorW.PrintWords Go.Proofs.YtbcijmpkmmcdeaaDoorW.PrintLast Go.Proofs.YtbcijmpkmmcdeaaDoorW.PrintMore
set_option linter.unusedVariables false
set_option linter.unusedSimpArgs false
set_option maxRecDepth 100000
def gV (j k : Nat) (p : Option Addr × Nat) (n : Nat) : Value := if j < k then .slice p.1 n p.2 else .slice none 0 0
def gL (j k : Nat) (ns : List Int) : List Int := if j < k then ns else []
theorem got_nil {w w1 wE : World} {b : Nat} {cs : List Value} {T : TypeId} {err : Int} (hb : Below w.heap.size w w1) (hle : w.heap.size ≤ b) (H : HeapOK w1 [.blk b cs T, .ro (fun k => k < w1.heap.size ∧ k ≠ b) w1] wE) :
    ∃ v, (Ending.returned (.tuple #[.agg #[.int .i64 0, .int .i64 0, .int .i64 0, .slice none 0 0], .int .u64 0, .int .i64 err])) = .returned (.tuple #[.agg #[.int .i64 0, .int .i64 0, .int .i64 0, v], .int .u64 0, .int .i64 err]) ∧ Kd.R k51 51 wE w.heap.size (fun _ => True) v [] ∧ Below w.heap.size w wE :=
  ⟨_, rfl, Kd.R_nil _ _ _ _ _, hb.trans (below_but H (by simp) hle hb.size)⟩
theorem get_ok {sz m : Nat} {l : List Int} (h1 : 1 ≤ sz) (h8 : sz ≤ 8) (hl : l.length = m * sz) (hM : l.length ≤ 1099511627776) (hb : ∀ x ∈ l, 0 ≤ x ∧ x ≤ 255) : octet_Get.f (sz : Int) l = some (gets sz m l, 0) := by
  unfold octet_Get.f
  rw [if_neg (by omega), if_neg (by rw [hl]; simp), if_pos ⟨hM, hb⟩, Int.toNat_natCast, hl, Nat.mul_div_cancel _ (by omega)]
theorem gets_length (sz m : Nat) (l : List Int) : (gets sz m l).length = m := by simp [gets]
structure Fm (rows : List (List Int)) : Prop where
  form : formB rows = true
  g0 : octet_Get.f 8 (rows.getD 0 []) = some (gN 0 rows, 0)
  g1 : octet_Get.f 4 (rows.getD 1 []) = some (gN 1 rows, 0)
  g2 : octet_Get.f 4 (rows.getD 2 []) = some (gN 2 rows, 0)
  n0 : (gN 0 rows).length = 1
  n1 : (gN 1 rows).length = 2
  n2 : (gN 2 rows).length = (rows.getD 2 []).length / 8 * 2
theorem fm_of {rows : List (List Int)} (hby : ∀ r ∈ rows, r.length ≤ 8000 ∧ ∀ x ∈ r, 0 ≤ x ∧ x ≤ 255) (q3 : rows.length = 3) (q0 : (rows.getD 0 []).length = 8) (q1 : (rows.getD 1 []).length = 8) (q2 : (rows.getD 2 []).length % 8 = 0) : Fm rows := by
  have hg : ∀ j, j < 3 → (rows.getD j []).length ≤ 8000 ∧ ∀ x ∈ rows.getD j [], 0 ≤ x ∧ x ≤ 255 := fun j hj => by
    have h : rows.getD j [] = rows[j] := by rw [List.getD_eq_getElem?_getD, List.getElem?_eq_getElem (by omega)]; rfl
    rw [h]; exact hby _ (List.getElem_mem _)
  refine ⟨by simp only [formB, q3, q0, q1, q2]; rfl, get_ok (sz := 8) (m := 1) (by decide) (by decide) (by omega) (by have := (hg 0 (by decide)).1; omega) (hg 0 (by decide)).2, get_ok (sz := 4) (m := 2) (by decide) (by decide) (by omega) (by have := (hg 1 (by decide)).1; omega) (hg 1 (by decide)).2,
    get_ok (sz := 4) (m := (rows.getD 2 []).length / 8 * 2) (by decide) (by decide) (by omega) (by have := (hg 2 (by decide)).1; omega) (hg 2 (by decide)).2, gets_length _ _ _, gets_length _ _ _, gets_length _ _ _⟩
theorem nums_get {k : IntKind} {l : List Int} {j : Nat} (h : j < l.length) : (nums k l)[j]? = some (.int k (l.getD j 0)) := by
  unfold nums
  rw [List.getElem?_map, List.getD_eq_getElem?_getD, List.getElem?_eq_getElem h]; rfl
theorem chunk_calls {A : Option Addr} {len cap : Nat} {w0 w : World} {hp : List Sx.Item} (hw : HeapOK w0 hp w) : Calls Tryd.prog 46 #[.slice A len cap, .int .i64 2] w fun e w' => ∃ i : Nat × Nat, True ∧ e = .returned (.func (.func 67) #[] #[.pointer (some ⟨i.1, 0, none⟩), .pointer (some ⟨i.2, 0, none⟩)]) ∧ HeapOK w0 (.blk i.2 [.int .i64 2] 3 :: .blk i.1 [.slice A len cap] 100 :: hp) w' := by
  refine (callsIn_wide.1 (c64_chunk_in 9 A len cap 2 (by decide) (by decide) w)).mono ?_
  rintro e w' ⟨rfl, rfl⟩
  have h := (hw.allocRow [.slice A len cap] 100).allocRow [.int .i64 2] 3
  rw [show (w.alloc (.cells [Value.slice A len cap].toArray 100 (0, 0))).heap.size = w.heap.size + 1 from World.size_alloc _ _] at h
  exact ⟨(w.heap.size, w.heap.size + 1), trivial, rfl, h⟩
set_option maxHeartbeats 1000000 in
theorem get_calls (k : Nat) (A : Option Addr) (c : Nat) (l l1 : List Int) (is : Bool) (rows : List (List Int)) (er : Int) (w : World) (hl : Half w) (hr : Kd.C (Kd.int .u8) w A l.length l) (hc : l.length ≤ c) (h1 : crc_Open.f k l = some (l1, is)) (h2 : is = true → octet_Part.f l1 = some (rows, er)) (hby : ∀ r ∈ rows, r.length ≤ 8000 ∧ ∀ x ∈ r, 0 ≤ x ∧ x ≤ 255) :
    Calls Tryd.prog 23 #[.slice A l.length c] w fun e w' => ∃ v, e = .returned (.tuple #[.agg #[.int .i64 (jgot is rows er).bud, .int .i64 (jgot is rows er).mar, .int .i64 0, v], .int .u64 (jgot is rows er).seq, .int .i64 (jgot is rows er).err]) ∧ Kd.R k51 51 w' w.heap.size (fun _ => True) v (jgot is rows er).ps ∧ Below w.heap.size w w' := by
  refine enterM (w0 := w) (hp := [old w]) (env := [(0, .slice A l.length c)]) Tryd.func23 rfl 113 rfl (by simp) rfl (HeapOK.start _) ?_
  refine wc_seq ?_
  refine wc_region ?_
  refine wl_alloc rfl rfl rfl (by decide) Zr32 (fun b1 => ?_)
  refine wl_q (q_assign rfl rfl) rfl rfl (by decide) ?_
  refine wl_q (q_assign rfl rfl) rfl rfl (by decide) ?_
  refine wl_nil ?_
  refine fq_then ?_
  refine wc_seq ?_
  refine wc_region ?_
  refine wl_q (q_move rfl rfl) rfl rfl (by decide) ?_
  refine wl_callK (ι := Option Addr × Nat) (fun i => .tuple #[.slice i.1 l1.length i.2, .bool is]) (fun i _ w' => l1.length ≤ i.2 ∧ Kd.C (Kd.int .u8) w' i.1 l1.length l1) rfl rfl rfl (by decide) En43 rfl (fun w1 hw1 => open_calls (hl.keep (hw1.toBelow (by simp))) (Kd.C_below hr (hw1.toBelow (by simp))) hc h1) (fun i wa w1 Ha H1 hb1 hC1 => ?_)
  have hz1 : w1.heap[b1]? = some (.cells ([.int .i64 0, .int .i64 0, .int .i64 0, .slice none 0 0] : List Value).toArray 32 (0, 0)) := H1.get (i := 0) rfl
  have hbw1 : Below w.heap.size w w1 := H1.toBelow (by simp)
  have hle : w.heap.size ≤ b1 := (H1.fresh (by simp)).1
  have hlt1 : b1 < w1.heap.size := (H1.fresh (by simp)).2
  refine wl_q (q_move rfl rfl) rfl rfl (by decide) ?_
  refine wl_q (q_extract rfl rfl rfl) rfl rfl (by decide) ?_
  refine wl_q (q_extract rfl rfl rfl) rfl rfl (by decide) ?_
  refine wl_q (q_assign rfl rfl) rfl rfl (by decide) ?_
  refine wl_q (q_assign rfl rfl) rfl rfl (by decide) ?_
  refine wl_nil ?_
  refine fq_then ?_
  refine wc_seq ?_
  refine wc_seq ?_
  refine wc_region ?_
  refine wl_q (q_move rfl rfl) rfl rfl (by decide) ?_
  refine wl_q (q_not rfl rfl) rfl rfl (by decide) ?_
  refine wl_nil ?_
  refine fq_then ?_
  refine wc_cond rfl (fun h19 => ?_) (fun h19 => ?_)
  · skip
    have q19 := h19
    try simp only [decide_eq_true_eq, decide_eq_false_iff_not, beq_iff_eq, beq_eq_false_iff_ne, bne_iff_ne, ne_eq, bne_eq_false_iff_eq, Int.not_lt, Int.not_le] at q19
    have his : is = false := by simpa using h19
    refine wc_seq ?_
    refine wc_region ?_
    refine wl_q (q_build rfl rfl (built_of Zr32 Pl32 (by simp only [fillL, List.map_cons, List.map_nil, Value.cells, List.getElem?_cons_zero, List.getElem?_cons_succ, List.length_cons, List.length_nil, Nat.reduceAdd, Nat.reduceLeDiff, Nat.le_refl, and_self, and_true, true_and, if_true, Nat.zero_add, spl, List.take_succ_cons, List.take_zero, List.take_nil, List.drop_succ_cons, List.drop_zero, List.drop_nil, List.nil_append, List.cons_append, List.append_nil]; rfl))) rfl rfl (by decide) ?_
    refine wl_thaw (b := b1) (cs := [.int .i64 0, .int .i64 0, .int .i64 0, .slice none 0 0]) (T := 32) 0 rfl (by first | exact hlt2 | exact hlt1) (by first | exact hz2 | exact hz1) ?_
    refine wl_store (i := 0) rfl rfl rfl rfl rfl rfl Sz32 rfl rfl (by simp) (by simp [Value.oneCell']) (by first | (simp only [List.take_succ_cons, List.take_zero, List.take_nil, List.drop_succ_cons, List.drop_zero, List.drop_nil, List.nil_append, List.cons_append, List.append_nil, List.length_cons, List.length_nil, Nat.reduceAdd, Nat.zero_add]; rfl) | rfl) (by first | (simp only [List.set_cons_zero, List.set_cons_succ]; rfl) | rfl) ?_
    skip
    refine wl_q (q_assign rfl rfl) rfl rfl (by decide) ?_
    refine wl_q (q_assign rfl rfl) rfl rfl (by decide) ?_
    refine wl_nil ?_
    refine fq_then ?_
    refine wc_ret ?_
    refine fq_then_ret ?_
    refine fqM (.inl rfl) rfl (res_ctt (i := 0) rfl rfl rfl rfl rfl Mn32 Sz32 rfl) (fun w1 H => ?_)
    first
      | (rw [show jgot is rows er = ⟨0, 0, [], 0, 12⟩ from (by unfold jgot gOK formB; simp [*])]; first | exact got_nil hbw2 hle H | exact got_nil hbw1 hle H)
      | (rw [show jgot is rows er = ⟨0, 0, [], 0, er⟩ from (by unfold jgot gOK formB; simp [*])]; first | exact got_nil hbw2 hle H | exact got_nil hbw1 hle H)
      | (have hf : formB rows = false := (by unfold formB; simp only [Bool.and_eq_false_iff, decide_eq_false_iff_not]; omega); rw [show jgot is rows er = ⟨0, 0, [], 0, 11⟩ from (by unfold jgot gOK; rw [hf]; simp [*])]; exact got_nil hbw2 hle H)
  · skip
    have q19 := h19
    try simp only [decide_eq_true_eq, decide_eq_false_iff_not, beq_iff_eq, beq_eq_false_iff_ne, bne_iff_ne, ne_eq, bne_eq_false_iff_eq, Int.not_lt, Int.not_le] at q19
    have his : is = true := by simpa using h19
    refine wc_skip ?_
    refine fq_then ?_
    refine wc_seq ?_
    refine wc_region ?_
    refine wl_q (q_move rfl rfl) rfl rfl (by decide) ?_
    refine wl_callK (ι := Option Addr × Nat) (fun i => .tuple #[.slice i.1 rows.length i.2, .int .i64 er]) (fun i _ w' => rows.length ≤ i.2 ∧ Kd.C (Kd.slice 5 (Kd.int .u8)) w' i.1 rows.length rows) rfl rfl rfl (by decide) En44 rfl (fun w2 hw2 => part_calls (Kd.C_below hC1.2 (hw2.toBelow (by simp))) hC1.1 (h2 his)) (fun i2 _ w2 _ H2 _ hC2 => ?_)
    have hb12 : Below w1.heap.size w1 w2 := H2.toBelow (by simp)
    have hz2 := (hb12.block b1 hlt1).trans hz1
    have hlt2 : b1 < w2.heap.size := Nat.lt_of_lt_of_le hlt1 hb12.size
    have hbw2 : Below w.heap.size w w2 := hbw1.trans (hb12.mono hbw1.size)
    obtain ⟨ad, PA, PC, hA, hF⟩ := rowsF hC2.2
    refine wl_q (q_move rfl rfl) rfl rfl (by decide) ?_
    refine wl_q (q_extract rfl rfl rfl) rfl rfl (by decide) ?_
    refine wl_q (q_extract rfl rfl rfl) rfl rfl (by decide) ?_
    refine wl_q (q_assign rfl rfl) rfl rfl (by decide) ?_
    refine wl_q (q_assign rfl rfl) rfl rfl (by decide) ?_
    refine wl_nil ?_
    refine fq_then ?_
    refine wc_seq ?_
    refine wc_seq ?_
    refine wc_region ?_
    refine wl_q (q_move rfl rfl) rfl rfl (by decide) ?_
    refine wl_q (q_bin rfl rfl rfl rfl) rfl rfl (by decide) ?_
    refine wl_nil ?_
    refine fq_then ?_
    refine wc_cond rfl (fun h27 => ?_) (fun h27 => ?_)
    · skip
      have q27 := h27
      try simp only [decide_eq_true_eq, decide_eq_false_iff_not, beq_iff_eq, beq_eq_false_iff_ne, bne_iff_ne, ne_eq, bne_eq_false_iff_eq, Int.not_lt, Int.not_le] at q27
      refine wc_seq ?_
      refine wc_region ?_
      refine wl_q (q_build rfl rfl (built_of Zr32 Pl32 (by simp only [fillL, List.map_cons, List.map_nil, Value.cells, List.getElem?_cons_zero, List.getElem?_cons_succ, List.length_cons, List.length_nil, Nat.reduceAdd, Nat.reduceLeDiff, Nat.le_refl, and_self, and_true, true_and, if_true, Nat.zero_add, spl, List.take_succ_cons, List.take_zero, List.take_nil, List.drop_succ_cons, List.drop_zero, List.drop_nil, List.nil_append, List.cons_append, List.append_nil]; rfl))) rfl rfl (by decide) ?_
      refine wl_q (q_move rfl rfl) rfl rfl (by decide) ?_
      refine wl_thaw (b := b1) (cs := [.int .i64 0, .int .i64 0, .int .i64 0, .slice none 0 0]) (T := 32) 0 rfl (by first | exact hlt2 | exact hlt1) (by first | exact hz2 | exact hz1) ?_
      refine wl_store (i := 0) rfl rfl rfl rfl rfl rfl Sz32 rfl rfl (by simp) (by simp [Value.oneCell']) (by first | (simp only [List.take_succ_cons, List.take_zero, List.take_nil, List.drop_succ_cons, List.drop_zero, List.drop_nil, List.nil_append, List.cons_append, List.append_nil, List.length_cons, List.length_nil, Nat.reduceAdd, Nat.zero_add]; rfl) | rfl) (by first | (simp only [List.set_cons_zero, List.set_cons_succ]; rfl) | rfl) ?_
      skip
      refine wl_q (q_assign rfl rfl) rfl rfl (by decide) ?_
      refine wl_q (q_assign rfl rfl) rfl rfl (by decide) ?_
      refine wl_nil ?_
      refine fq_then ?_
      refine wc_ret ?_
      refine fq_then_ret ?_
      refine fqM (.inl rfl) rfl (res_ctt (i := 0) rfl rfl rfl rfl rfl Mn32 Sz32 rfl) (fun w1 H => ?_)
      first
        | (rw [show jgot is rows er = ⟨0, 0, [], 0, 12⟩ from (by unfold jgot gOK formB; simp [*])]; first | exact got_nil hbw2 hle H | exact got_nil hbw1 hle H)
        | (rw [show jgot is rows er = ⟨0, 0, [], 0, er⟩ from (by unfold jgot gOK formB; simp [*])]; first | exact got_nil hbw2 hle H | exact got_nil hbw1 hle H)
        | (have hf : formB rows = false := (by unfold formB; simp only [Bool.and_eq_false_iff, decide_eq_false_iff_not]; omega); rw [show jgot is rows er = ⟨0, 0, [], 0, 11⟩ from (by unfold jgot gOK; rw [hf]; simp [*])]; exact got_nil hbw2 hle H)
    · skip
      have q27 := h27
      try simp only [decide_eq_true_eq, decide_eq_false_iff_not, beq_iff_eq, beq_eq_false_iff_ne, bne_iff_ne, ne_eq, bne_eq_false_iff_eq, Int.not_lt, Int.not_le] at q27
      refine wc_skip ?_
      refine fq_then ?_
      refine wc_seq ?_
      refine wc_seq ?_
      refine wc_region ?_
      refine wl_q (q_move rfl rfl) rfl rfl (by decide) ?_
      refine wl_q (q_len rfl rfl Tryd.underlying68) rfl rfl (by decide) ?_
      refine wl_q (q_bin rfl rfl rfl rfl) rfl rfl (by decide) ?_
      refine wl_q (q_move rfl rfl) rfl rfl (by decide) ?_
      refine wl_split (t := 33) rfl (fun h33 => ?_) (fun h33 => ?_)
      · skip
        have q33 := h33
        try simp only [decide_eq_true_eq, decide_eq_false_iff_not, beq_iff_eq, beq_eq_false_iff_ne, bne_iff_ne, ne_eq, bne_eq_false_iff_eq, Int.not_lt, Int.not_le] at q33
        refine wl_skip (b := true) rfl rfl rfl rfl (by decide) ?_
        refine wl_skip (b := true) rfl rfl rfl rfl (by decide) ?_
        refine wl_skip (b := true) rfl rfl rfl rfl (by decide) ?_
        refine wl_skip (b := true) rfl rfl rfl rfl (by decide) ?_
        refine wl_skip (b := true) rfl rfl rfl rfl (by decide) ?_
        refine wl_q (q_pick rfl rfl rfl) rfl rfl (by decide) ?_
        refine wl_q (q_move rfl rfl) rfl rfl (by decide) ?_
        refine wl_skip (b := true) rfl rfl rfl rfl (by decide) ?_
        refine wl_skip (b := true) rfl rfl rfl rfl (by decide) ?_
        refine wl_skip (b := true) rfl rfl rfl rfl (by decide) ?_
        refine wl_skip (b := true) rfl rfl rfl rfl (by decide) ?_
        refine wl_skip (b := true) rfl rfl rfl rfl (by decide) ?_
        refine wl_q (q_pick rfl rfl rfl) rfl rfl (by decide) ?_
        refine wl_q (q_move rfl rfl) rfl rfl (by decide) ?_
        refine wl_skip (b := true) rfl rfl rfl rfl (by decide) ?_
        refine wl_skip (b := true) rfl rfl rfl rfl (by decide) ?_
        refine wl_skip (b := true) rfl rfl rfl rfl (by decide) ?_
        refine wl_skip (b := true) rfl rfl rfl rfl (by decide) ?_
        refine wl_skip (b := true) rfl rfl rfl rfl (by decide) ?_
        refine wl_skip (b := true) rfl rfl rfl rfl (by decide) ?_
        refine wl_q (q_pick rfl rfl rfl) rfl rfl (by decide) ?_
        refine wl_nil ?_
        refine fq_then ?_
        refine wc_true rfl ?_
        refine wc_seq ?_
        refine wc_region ?_
        refine wl_q (q_build rfl rfl (built_of Zr32 Pl32 (by simp only [fillL, List.map_cons, List.map_nil, Value.cells, List.getElem?_cons_zero, List.getElem?_cons_succ, List.length_cons, List.length_nil, Nat.reduceAdd, Nat.reduceLeDiff, Nat.le_refl, and_self, and_true, true_and, if_true, Nat.zero_add, spl, List.take_succ_cons, List.take_zero, List.take_nil, List.drop_succ_cons, List.drop_zero, List.drop_nil, List.nil_append, List.cons_append, List.append_nil]; rfl))) rfl rfl (by decide) ?_
        refine wl_thaw (b := b1) (cs := [.int .i64 0, .int .i64 0, .int .i64 0, .slice none 0 0]) (T := 32) 0 rfl (by first | exact hlt2 | exact hlt1) (by first | exact hz2 | exact hz1) ?_
        refine wl_store (i := 0) rfl rfl rfl rfl rfl rfl Sz32 rfl rfl (by simp) (by simp [Value.oneCell']) (by first | (simp only [List.take_succ_cons, List.take_zero, List.take_nil, List.drop_succ_cons, List.drop_zero, List.drop_nil, List.nil_append, List.cons_append, List.append_nil, List.length_cons, List.length_nil, Nat.reduceAdd, Nat.zero_add]; rfl) | rfl) (by first | (simp only [List.set_cons_zero, List.set_cons_succ]; rfl) | rfl) ?_
        skip
        refine wl_q (q_assign rfl rfl) rfl rfl (by decide) ?_
        refine wl_q (q_assign rfl rfl) rfl rfl (by decide) ?_
        refine wl_nil ?_
        refine fq_then ?_
        refine wc_ret ?_
        refine fq_then_ret ?_
        refine fqM (.inl rfl) rfl (res_ctt (i := 0) rfl rfl rfl rfl rfl Mn32 Sz32 rfl) (fun w1 H => ?_)
        first
          | (rw [show jgot is rows er = ⟨0, 0, [], 0, 12⟩ from (by unfold jgot gOK formB; simp [*])]; first | exact got_nil hbw2 hle H | exact got_nil hbw1 hle H)
          | (rw [show jgot is rows er = ⟨0, 0, [], 0, er⟩ from (by unfold jgot gOK formB; simp [*])]; first | exact got_nil hbw2 hle H | exact got_nil hbw1 hle H)
          | (have hf : formB rows = false := (by unfold formB; simp only [Bool.and_eq_false_iff, decide_eq_false_iff_not]; omega); rw [show jgot is rows er = ⟨0, 0, [], 0, 11⟩ from (by unfold jgot gOK; rw [hf]; simp [*])]; exact got_nil hbw2 hle H)
      · skip
        have q33 := h33
        try simp only [decide_eq_true_eq, decide_eq_false_iff_not, beq_iff_eq, beq_eq_false_iff_ne, bne_iff_ne, ne_eq, bne_eq_false_iff_eq, Int.not_lt, Int.not_le] at q33
        refine wl_want (b := false) (q_move rfl rfl) rfl rfl rfl rfl (by decide) ?_
        refine wl_want (b := false) (q_indexO rfl rfl (hA (by omega)) rfl Tryd.underlying68 Sz22 (by omega) (by omega)) rfl rfl rfl rfl (by decide) ?_
        refine wl_want (b := false) (q_load (v := .slice (PA 0) (rows.getD 0 []).length (PC 0)) rfl rfl Mn22 (reads_old (by simp) (cell_zero (hF 0 (by omega)).1))) rfl rfl rfl rfl (by decide) ?_
        refine wl_want (b := false) (q_len rfl rfl Tryd.underlying22) rfl rfl rfl rfl (by decide) ?_
        refine wl_want (b := false) (q_bin rfl rfl rfl rfl) rfl rfl rfl rfl (by decide) ?_
        refine wl_q (q_pick rfl rfl rfl) rfl rfl (by decide) ?_
        refine wl_q (q_move rfl rfl) rfl rfl (by decide) ?_
        refine wl_split (t := 40) rfl (fun h40 => ?_) (fun h40 => ?_)
        · skip
          have q40 := h40
          try simp only [decide_eq_true_eq, decide_eq_false_iff_not, beq_iff_eq, beq_eq_false_iff_ne, bne_iff_ne, ne_eq, bne_eq_false_iff_eq, Int.not_lt, Int.not_le] at q40
          refine wl_skip (b := true) rfl rfl rfl rfl (by decide) ?_
          refine wl_skip (b := true) rfl rfl rfl rfl (by decide) ?_
          refine wl_skip (b := true) rfl rfl rfl rfl (by decide) ?_
          refine wl_skip (b := true) rfl rfl rfl rfl (by decide) ?_
          refine wl_skip (b := true) rfl rfl rfl rfl (by decide) ?_
          refine wl_q (q_pick rfl rfl rfl) rfl rfl (by decide) ?_
          refine wl_q (q_move rfl rfl) rfl rfl (by decide) ?_
          refine wl_skip (b := true) rfl rfl rfl rfl (by decide) ?_
          refine wl_skip (b := true) rfl rfl rfl rfl (by decide) ?_
          refine wl_skip (b := true) rfl rfl rfl rfl (by decide) ?_
          refine wl_skip (b := true) rfl rfl rfl rfl (by decide) ?_
          refine wl_skip (b := true) rfl rfl rfl rfl (by decide) ?_
          refine wl_skip (b := true) rfl rfl rfl rfl (by decide) ?_
          refine wl_q (q_pick rfl rfl rfl) rfl rfl (by decide) ?_
          refine wl_nil ?_
          refine fq_then ?_
          refine wc_true rfl ?_
          refine wc_seq ?_
          refine wc_region ?_
          refine wl_q (q_build rfl rfl (built_of Zr32 Pl32 (by simp only [fillL, List.map_cons, List.map_nil, Value.cells, List.getElem?_cons_zero, List.getElem?_cons_succ, List.length_cons, List.length_nil, Nat.reduceAdd, Nat.reduceLeDiff, Nat.le_refl, and_self, and_true, true_and, if_true, Nat.zero_add, spl, List.take_succ_cons, List.take_zero, List.take_nil, List.drop_succ_cons, List.drop_zero, List.drop_nil, List.nil_append, List.cons_append, List.append_nil]; rfl))) rfl rfl (by decide) ?_
          refine wl_thaw (b := b1) (cs := [.int .i64 0, .int .i64 0, .int .i64 0, .slice none 0 0]) (T := 32) 0 rfl (by first | exact hlt2 | exact hlt1) (by first | exact hz2 | exact hz1) ?_
          refine wl_store (i := 0) rfl rfl rfl rfl rfl rfl Sz32 rfl rfl (by simp) (by simp [Value.oneCell']) (by first | (simp only [List.take_succ_cons, List.take_zero, List.take_nil, List.drop_succ_cons, List.drop_zero, List.drop_nil, List.nil_append, List.cons_append, List.append_nil, List.length_cons, List.length_nil, Nat.reduceAdd, Nat.zero_add]; rfl) | rfl) (by first | (simp only [List.set_cons_zero, List.set_cons_succ]; rfl) | rfl) ?_
          skip
          refine wl_q (q_assign rfl rfl) rfl rfl (by decide) ?_
          refine wl_q (q_assign rfl rfl) rfl rfl (by decide) ?_
          refine wl_nil ?_
          refine fq_then ?_
          refine wc_ret ?_
          refine fq_then_ret ?_
          refine fqM (.inl rfl) rfl (res_ctt (i := 0) rfl rfl rfl rfl rfl Mn32 Sz32 rfl) (fun w1 H => ?_)
          first
            | (rw [show jgot is rows er = ⟨0, 0, [], 0, 12⟩ from (by unfold jgot gOK formB; simp [*])]; first | exact got_nil hbw2 hle H | exact got_nil hbw1 hle H)
            | (rw [show jgot is rows er = ⟨0, 0, [], 0, er⟩ from (by unfold jgot gOK formB; simp [*])]; first | exact got_nil hbw2 hle H | exact got_nil hbw1 hle H)
            | (have hf : formB rows = false := (by unfold formB; simp only [Bool.and_eq_false_iff, decide_eq_false_iff_not]; omega); rw [show jgot is rows er = ⟨0, 0, [], 0, 11⟩ from (by unfold jgot gOK; rw [hf]; simp [*])]; exact got_nil hbw2 hle H)
        · skip
          have q40 := h40
          try simp only [decide_eq_true_eq, decide_eq_false_iff_not, beq_iff_eq, beq_eq_false_iff_ne, bne_iff_ne, ne_eq, bne_eq_false_iff_eq, Int.not_lt, Int.not_le] at q40
          refine wl_want (b := false) (q_move rfl rfl) rfl rfl rfl rfl (by decide) ?_
          refine wl_want (b := false) (q_indexO rfl rfl (hA (by omega)) rfl Tryd.underlying68 Sz22 (by omega) (by omega)) rfl rfl rfl rfl (by decide) ?_
          refine wl_want (b := false) (q_load (v := .slice (PA 1) (rows.getD 1 []).length (PC 1)) rfl rfl Mn22 (reads_old (by simp) (cell_zero (hF 1 (by omega)).1))) rfl rfl rfl rfl (by decide) ?_
          refine wl_want (b := false) (q_len rfl rfl Tryd.underlying22) rfl rfl rfl rfl (by decide) ?_
          refine wl_want (b := false) (q_bin rfl rfl rfl rfl) rfl rfl rfl rfl (by decide) ?_
          refine wl_q (q_pick rfl rfl rfl) rfl rfl (by decide) ?_
          refine wl_q (q_move rfl rfl) rfl rfl (by decide) ?_
          refine wl_split (t := 47) rfl (fun h47 => ?_) (fun h47 => ?_)
          · skip
            have q47 := h47
            try simp only [decide_eq_true_eq, decide_eq_false_iff_not, beq_iff_eq, beq_eq_false_iff_ne, bne_iff_ne, ne_eq, bne_eq_false_iff_eq, Int.not_lt, Int.not_le] at q47
            refine wl_skip (b := true) rfl rfl rfl rfl (by decide) ?_
            refine wl_skip (b := true) rfl rfl rfl rfl (by decide) ?_
            refine wl_skip (b := true) rfl rfl rfl rfl (by decide) ?_
            refine wl_skip (b := true) rfl rfl rfl rfl (by decide) ?_
            refine wl_skip (b := true) rfl rfl rfl rfl (by decide) ?_
            refine wl_skip (b := true) rfl rfl rfl rfl (by decide) ?_
            refine wl_q (q_pick rfl rfl rfl) rfl rfl (by decide) ?_
            refine wl_nil ?_
            refine fq_then ?_
            refine wc_true rfl ?_
            refine wc_seq ?_
            refine wc_region ?_
            refine wl_q (q_build rfl rfl (built_of Zr32 Pl32 (by simp only [fillL, List.map_cons, List.map_nil, Value.cells, List.getElem?_cons_zero, List.getElem?_cons_succ, List.length_cons, List.length_nil, Nat.reduceAdd, Nat.reduceLeDiff, Nat.le_refl, and_self, and_true, true_and, if_true, Nat.zero_add, spl, List.take_succ_cons, List.take_zero, List.take_nil, List.drop_succ_cons, List.drop_zero, List.drop_nil, List.nil_append, List.cons_append, List.append_nil]; rfl))) rfl rfl (by decide) ?_
            refine wl_thaw (b := b1) (cs := [.int .i64 0, .int .i64 0, .int .i64 0, .slice none 0 0]) (T := 32) 0 rfl (by first | exact hlt2 | exact hlt1) (by first | exact hz2 | exact hz1) ?_
            refine wl_store (i := 0) rfl rfl rfl rfl rfl rfl Sz32 rfl rfl (by simp) (by simp [Value.oneCell']) (by first | (simp only [List.take_succ_cons, List.take_zero, List.take_nil, List.drop_succ_cons, List.drop_zero, List.drop_nil, List.nil_append, List.cons_append, List.append_nil, List.length_cons, List.length_nil, Nat.reduceAdd, Nat.zero_add]; rfl) | rfl) (by first | (simp only [List.set_cons_zero, List.set_cons_succ]; rfl) | rfl) ?_
            skip
            refine wl_q (q_assign rfl rfl) rfl rfl (by decide) ?_
            refine wl_q (q_assign rfl rfl) rfl rfl (by decide) ?_
            refine wl_nil ?_
            refine fq_then ?_
            refine wc_ret ?_
            refine fq_then_ret ?_
            refine fqM (.inl rfl) rfl (res_ctt (i := 0) rfl rfl rfl rfl rfl Mn32 Sz32 rfl) (fun w1 H => ?_)
            first
              | (rw [show jgot is rows er = ⟨0, 0, [], 0, 12⟩ from (by unfold jgot gOK formB; simp [*])]; first | exact got_nil hbw2 hle H | exact got_nil hbw1 hle H)
              | (rw [show jgot is rows er = ⟨0, 0, [], 0, er⟩ from (by unfold jgot gOK formB; simp [*])]; first | exact got_nil hbw2 hle H | exact got_nil hbw1 hle H)
              | (have hf : formB rows = false := (by unfold formB; simp only [Bool.and_eq_false_iff, decide_eq_false_iff_not]; omega); rw [show jgot is rows er = ⟨0, 0, [], 0, 11⟩ from (by unfold jgot gOK; rw [hf]; simp [*])]; exact got_nil hbw2 hle H)
          · skip
            have q47 := h47
            try simp only [decide_eq_true_eq, decide_eq_false_iff_not, beq_iff_eq, beq_eq_false_iff_ne, bne_iff_ne, ne_eq, bne_eq_false_iff_eq, Int.not_lt, Int.not_le] at q47
            refine wl_want (b := false) (q_move rfl rfl) rfl rfl rfl rfl (by decide) ?_
            refine wl_want (b := false) (q_indexO rfl rfl (hA (by omega)) rfl Tryd.underlying68 Sz22 (by omega) (by omega)) rfl rfl rfl rfl (by decide) ?_
            refine wl_want (b := false) (q_load (v := .slice (PA 2) (rows.getD 2 []).length (PC 2)) rfl rfl Mn22 (reads_old (by simp) (cell_zero (hF 2 (by omega)).1))) rfl rfl rfl rfl (by decide) ?_
            refine wl_want (b := false) (q_len rfl rfl Tryd.underlying22) rfl rfl rfl rfl (by decide) ?_
            refine wl_want (b := false) (q_rem rfl rfl rfl (by decide)) rfl rfl rfl rfl (by decide) ?_
            refine wl_want (b := false) (q_bin rfl rfl rfl rfl) rfl rfl rfl rfl (by decide) ?_
            refine wl_q (q_pick rfl rfl rfl) rfl rfl (by decide) ?_
            refine wl_nil ?_
            refine fq_then ?_
            refine wc_cond rfl (fun h54 => ?_) (fun h54 => ?_)
            · skip
              have q54 := h54
              try simp only [decide_eq_true_eq, decide_eq_false_iff_not, beq_iff_eq, beq_eq_false_iff_ne, bne_iff_ne, ne_eq, bne_eq_false_iff_eq, Int.not_lt, Int.not_le] at q54
              rw [show ((rows.getD 2 []).length : Int).tmod 8 = (((rows.getD 2 []).length % 8 : Nat) : Int) from rfl] at q54
              refine wc_seq ?_
              refine wc_region ?_
              refine wl_q (q_build rfl rfl (built_of Zr32 Pl32 (by simp only [fillL, List.map_cons, List.map_nil, Value.cells, List.getElem?_cons_zero, List.getElem?_cons_succ, List.length_cons, List.length_nil, Nat.reduceAdd, Nat.reduceLeDiff, Nat.le_refl, and_self, and_true, true_and, if_true, Nat.zero_add, spl, List.take_succ_cons, List.take_zero, List.take_nil, List.drop_succ_cons, List.drop_zero, List.drop_nil, List.nil_append, List.cons_append, List.append_nil]; rfl))) rfl rfl (by decide) ?_
              refine wl_thaw (b := b1) (cs := [.int .i64 0, .int .i64 0, .int .i64 0, .slice none 0 0]) (T := 32) 0 rfl (by first | exact hlt2 | exact hlt1) (by first | exact hz2 | exact hz1) ?_
              refine wl_store (i := 0) rfl rfl rfl rfl rfl rfl Sz32 rfl rfl (by simp) (by simp [Value.oneCell']) (by first | (simp only [List.take_succ_cons, List.take_zero, List.take_nil, List.drop_succ_cons, List.drop_zero, List.drop_nil, List.nil_append, List.cons_append, List.append_nil, List.length_cons, List.length_nil, Nat.reduceAdd, Nat.zero_add]; rfl) | rfl) (by first | (simp only [List.set_cons_zero, List.set_cons_succ]; rfl) | rfl) ?_
              skip
              refine wl_q (q_assign rfl rfl) rfl rfl (by decide) ?_
              refine wl_q (q_assign rfl rfl) rfl rfl (by decide) ?_
              refine wl_nil ?_
              refine fq_then ?_
              refine wc_ret ?_
              refine fq_then_ret ?_
              refine fqM (.inl rfl) rfl (res_ctt (i := 0) rfl rfl rfl rfl rfl Mn32 Sz32 rfl) (fun w1 H => ?_)
              first
                | (rw [show jgot is rows er = ⟨0, 0, [], 0, 12⟩ from (by unfold jgot gOK formB; simp [*])]; first | exact got_nil hbw2 hle H | exact got_nil hbw1 hle H)
                | (rw [show jgot is rows er = ⟨0, 0, [], 0, er⟩ from (by unfold jgot gOK formB; simp [*])]; first | exact got_nil hbw2 hle H | exact got_nil hbw1 hle H)
                | (have hf : formB rows = false := (by unfold formB; simp only [Bool.and_eq_false_iff, decide_eq_false_iff_not]; omega); rw [show jgot is rows er = ⟨0, 0, [], 0, 11⟩ from (by unfold jgot gOK; rw [hf]; simp [*])]; exact got_nil hbw2 hle H)
            · skip
              have q54 := h54
              try simp only [decide_eq_true_eq, decide_eq_false_iff_not, beq_iff_eq, beq_eq_false_iff_ne, bne_iff_ne, ne_eq, bne_eq_false_iff_eq, Int.not_lt, Int.not_le] at q54
              rw [show ((rows.getD 2 []).length : Int).tmod 8 = (((rows.getD 2 []).length % 8 : Nat) : Int) from rfl] at q54
              have FM := fm_of hby (by omega) (by omega) (by omega) (by omega)
              have hl2 : (rows.getD 2 []).length ≤ 8000 := by (have h_ : rows.getD 2 [] ∈ rows := (by rw [List.getD_eq_getElem?_getD, List.getElem?_eq_getElem (show 2 < rows.length by omega)]; exact List.getElem_mem _); exact (hby _ h_).1)
              have hps : (gPs rows).length ≤ 1000 := by (unfold gPs; rw [List.length_map, List.length_range]; omega)
              refine wc_skip ?_
              refine fq_then ?_
              refine wc_seq ?_
              refine wc_region ?_
              refine wl_alloc rfl rfl rfl (by decide) Zr101 (fun b2 => ?_)
              refine wl_nil ?_
              refine fq_then ?_
              refine wc_seq ?_
              refine wc_seq ?_
              refine wc_region ?_
              refine wl_buildSlice rfl rfl rfl (by decide) rfl Tryd.underlying33 (built_parts Sz3 (by decide) Zs3 (by simp [Value.cells]) rfl (by decide) (by decide) rfl) (fun b3 => ?_)
              refine wl_q (q_len rfl rfl Tryd.underlying33) rfl rfl (by decide) ?_
              refine wl_q (q_move rfl rfl) rfl rfl (by decide) ?_
              refine wl_nil ?_
              refine fq_then ?_
              refine wc_block ?_
              refine wc_own (E := 53) (sz := 1) ?_
              refine wc_own (E := 53) (sz := 1) ?_
              refine wc_own (E := 53) (sz := 1) ?_
              refine wc_loop (ι := (Nat × (Option Addr × Nat) × (Option Addr × Nat) × (Option Addr × Nat))) (fun q => [(2, .pointer (some ⟨b1, 0, none⟩)), (6, .slice i2.1 rows.length i2.2), (8, .pointer (some ⟨b2, 0, none⟩)), (56, .slice (some ⟨b3, 0, none⟩) 3 3), (57, .int .i64 3), (58, .int .i64 (q.1 : Nat))]) (fun q => [.own 0 53 1 (gV 2 q.1 q.2.2.2 (gN 2 rows).length) (gL 2 q.1 (gN 2 rows)).length (nums .u64 (gL 2 q.1 (gN 2 rows))), .own 0 53 1 (gV 1 q.1 q.2.2.1 (gN 1 rows).length) (gL 1 q.1 (gN 1 rows)).length (nums .u64 (gL 1 q.1 (gN 1 rows))), .own 0 53 1 (gV 0 q.1 q.2.1 (gN 0 rows).length) (gL 0 q.1 (gN 0 rows)).length (nums .u64 (gL 0 q.1 (gN 0 rows))), .blk b3 [.int .i64 8, .int .i64 4, .int .i64 4] 3, .blk b2 [gV 0 q.1 q.2.1 (gN 0 rows).length, gV 1 q.1 q.2.2.1 (gN 1 rows).length, gV 2 q.1 q.2.2.2 (gN 2 rows).length] 101, old w2]) (fun q => q.1 ≤ 3) (fun q => 3 - q.1) (0, (none, 0), (none, 0), (none, 0)) (Nat.zero_le 3) ⟨List.forall_mem_cons.2 ⟨rfl, List.forall_mem_cons.2 ⟨rfl, List.forall_mem_cons.2 ⟨rfl, List.forall_mem_cons.2 ⟨rfl, List.forall_mem_cons.2 ⟨rfl, List.forall_mem_cons.2 ⟨rfl, fun _ h => (by cases h)⟩⟩⟩⟩⟩⟩, List.Sublist.refl _⟩ ?_
              rintro ⟨k, p0, p1, p2⟩ hk
              simp only at hk
              rcases (show k = 0 ∨ k = 1 ∨ k = 2 ∨ k = 3 by omega) with rfl | rfl | rfl | rfl
              · skip
                dsimp only
                refine wc_seq ?_
                refine wc_region ?_
                refine wl_q (q_bin rfl rfl rfl rfl) rfl rfl (by decide) ?_
                refine wl_nil ?_
                refine fq_then ?_
                refine wc_seq ?_
                refine wc_cond rfl (fun h59 => ?_) (fun h59 => ?_)
                · skip
                  have q59 := h59
                  try simp only [decide_eq_true_eq, decide_eq_false_iff_not, beq_iff_eq, beq_eq_false_iff_ne, bne_iff_ne, ne_eq, bne_eq_false_iff_eq, Int.not_lt, Int.not_le] at q59
                  refine wc_skip ?_
                  refine fq_then ?_
                  refine wc_seq ?_
                  refine wc_block ?_
                  refine wc_seq ?_
                  refine wc_region ?_
                  refine wl_q (q_move rfl rfl) rfl rfl (by decide) ?_
                  refine wl_q (q_indexS (off := 0) rfl rfl rfl Tryd.underlying33 Sz3 (by decide) (by decide) rfl) rfl rfl (by decide) ?_
                  refine wl_q (q_load rfl rfl Mn3 (reads1 (i := 3) rfl rfl)) rfl rfl (by decide) ?_
                  refine wl_q (q_assign rfl rfl) rfl rfl (by decide) ?_
                  refine wl_q (q_assign rfl rfl) rfl rfl (by decide) ?_
                  refine wl_nil ?_
                  refine fq_then ?_
                  refine wc_region ?_
                  refine wl_q (q_move rfl rfl) rfl rfl (by decide) ?_
                  refine wl_q (q_move rfl rfl) rfl rfl (by decide) ?_
                  refine wl_q (q_move rfl rfl) rfl rfl (by decide) ?_
                  refine wl_q (q_move rfl rfl) rfl rfl (by decide) ?_
                  refine wl_q (q_indexO rfl rfl (hA (by omega)) rfl Tryd.underlying68 Sz22 (by omega) (by omega)) rfl rfl (by decide) ?_
                  refine wl_q (q_load (v := .slice (PA 0) (rows.getD 0 []).length (PC 0)) rfl rfl Mn22 (reads_old (by simp) (cell_zero (hF 0 (by omega)).1))) rfl rfl (by decide) ?_
                  refine wl_call (ι := Option Addr × Nat) (fun i => .tuple #[.slice i.1 (gN 0 rows).length i.2, .int .i64 0]) (fun i => .own 0 53 1 (.slice i.1 (gN 0 rows).length i.2) (gN 0 rows).length (nums .u64 (gN 0 rows)) :: _) (fun i => (gN 0 rows).length ≤ i.2) rfl rfl rfl (by decide) En45 rfl (fun w1 hw1 => octget_calls hw1 (Kd.C_below (hF 0 (by omega)).2.2 (hw1.toBelow (by simp))) (hF 0 (by omega)).2.1 FM.g0) (fun p hp => ?_)
                  refine wl_pick [1, 2, 0, 4, 5, 6] (by decide) rfl ?_
                  refine wl_q (q_move rfl rfl) rfl rfl (by decide) ?_
                  refine wl_q (q_extract rfl rfl rfl) rfl rfl (by decide) ?_
                  refine wl_q (q_extract rfl rfl rfl) rfl rfl (by decide) ?_
                  refine wl_q (q_indexB (off := 0) rfl rfl rfl Tryd.underlying101 Sz100 (by decide) (by decide) rfl) rfl rfl (by decide) ?_
                  refine wl_store (i := 4) rfl rfl rfl rfl rfl rfl Sz100 rfl rfl (by simp) (by simp [Value.oneCell']) (by first | (simp only [List.take_succ_cons, List.take_zero, List.take_nil, List.drop_succ_cons, List.drop_zero, List.drop_nil, List.nil_append, List.cons_append, List.append_nil, List.length_cons, List.length_nil, Nat.reduceAdd, Nat.zero_add]; rfl) | rfl) (by first | (simp only [List.set_cons_zero, List.set_cons_succ]; rfl) | rfl) ?_
                  refine wl_nil ?_
                  refine fq_block ?_
                  refine fq_then ?_
                  refine wc_region ?_
                  refine wl_q (q_bin rfl rfl rfl rfl) rfl rfl (by decide) ?_
                  refine wl_q (q_move rfl rfl) rfl rfl (by decide) ?_
                  refine wl_nil ?_
                  refine fq_next (1, p, p1, p2) (show 1 ≤ 3 by decide) (show 3 - 1 < 3 - 0 by decide) ⟨List.forall_mem_cons.2 ⟨rfl, List.forall_mem_cons.2 ⟨rfl, List.forall_mem_cons.2 ⟨rfl, List.forall_mem_cons.2 ⟨rfl, List.forall_mem_cons.2 ⟨rfl, List.forall_mem_cons.2 ⟨rfl, fun _ h => (by cases h)⟩⟩⟩⟩⟩⟩, List.Sublist.refl _⟩
                · skip
                  exact absurd h59 (by decide)
              · skip
                dsimp only
                refine wc_seq ?_
                refine wc_region ?_
                refine wl_q (q_bin rfl rfl rfl rfl) rfl rfl (by decide) ?_
                refine wl_nil ?_
                refine fq_then ?_
                refine wc_seq ?_
                refine wc_cond rfl (fun h59 => ?_) (fun h59 => ?_)
                · skip
                  have q59 := h59
                  try simp only [decide_eq_true_eq, decide_eq_false_iff_not, beq_iff_eq, beq_eq_false_iff_ne, bne_iff_ne, ne_eq, bne_eq_false_iff_eq, Int.not_lt, Int.not_le] at q59
                  refine wc_skip ?_
                  refine fq_then ?_
                  refine wc_seq ?_
                  refine wc_block ?_
                  refine wc_seq ?_
                  refine wc_region ?_
                  refine wl_q (q_move rfl rfl) rfl rfl (by decide) ?_
                  refine wl_q (q_indexS (off := 1) rfl rfl rfl Tryd.underlying33 Sz3 (by decide) (by decide) rfl) rfl rfl (by decide) ?_
                  refine wl_q (q_load rfl rfl Mn3 (reads1 (i := 3) rfl rfl)) rfl rfl (by decide) ?_
                  refine wl_q (q_assign rfl rfl) rfl rfl (by decide) ?_
                  refine wl_q (q_assign rfl rfl) rfl rfl (by decide) ?_
                  refine wl_nil ?_
                  refine fq_then ?_
                  refine wc_region ?_
                  refine wl_q (q_move rfl rfl) rfl rfl (by decide) ?_
                  refine wl_q (q_move rfl rfl) rfl rfl (by decide) ?_
                  refine wl_q (q_move rfl rfl) rfl rfl (by decide) ?_
                  refine wl_q (q_move rfl rfl) rfl rfl (by decide) ?_
                  refine wl_q (q_indexO rfl rfl (hA (by omega)) rfl Tryd.underlying68 Sz22 (by omega) (by omega)) rfl rfl (by decide) ?_
                  refine wl_q (q_load (v := .slice (PA 1) (rows.getD 1 []).length (PC 1)) rfl rfl Mn22 (reads_old (by simp) (cell_zero (hF 1 (by omega)).1))) rfl rfl (by decide) ?_
                  refine wl_call (ι := Option Addr × Nat) (fun i => .tuple #[.slice i.1 (gN 1 rows).length i.2, .int .i64 0]) (fun i => .own 0 53 1 (.slice i.1 (gN 1 rows).length i.2) (gN 1 rows).length (nums .u64 (gN 1 rows)) :: _) (fun i => (gN 1 rows).length ≤ i.2) rfl rfl rfl (by decide) En45 rfl (fun w1 hw1 => octget_calls hw1 (Kd.C_below (hF 1 (by omega)).2.2 (hw1.toBelow (by simp))) (hF 1 (by omega)).2.1 FM.g1) (fun p hp => ?_)
                  refine wl_pick [1, 0, 3, 4, 5, 6] (by decide) rfl ?_
                  refine wl_q (q_move rfl rfl) rfl rfl (by decide) ?_
                  refine wl_q (q_extract rfl rfl rfl) rfl rfl (by decide) ?_
                  refine wl_q (q_extract rfl rfl rfl) rfl rfl (by decide) ?_
                  refine wl_q (q_indexB (off := 1) rfl rfl rfl Tryd.underlying101 Sz100 (by decide) (by decide) rfl) rfl rfl (by decide) ?_
                  refine wl_store (i := 4) rfl rfl rfl rfl rfl rfl Sz100 rfl rfl (by simp) (by simp [Value.oneCell']) (by first | (simp only [List.take_succ_cons, List.take_zero, List.take_nil, List.drop_succ_cons, List.drop_zero, List.drop_nil, List.nil_append, List.cons_append, List.append_nil, List.length_cons, List.length_nil, Nat.reduceAdd, Nat.zero_add]; rfl) | rfl) (by first | (simp only [List.set_cons_zero, List.set_cons_succ]; rfl) | rfl) ?_
                  refine wl_nil ?_
                  refine fq_block ?_
                  refine fq_then ?_
                  refine wc_region ?_
                  refine wl_q (q_bin rfl rfl rfl rfl) rfl rfl (by decide) ?_
                  refine wl_q (q_move rfl rfl) rfl rfl (by decide) ?_
                  refine wl_nil ?_
                  refine fq_next (2, p0, p, p2) (show 2 ≤ 3 by decide) (show 3 - 2 < 3 - 1 by decide) ⟨List.forall_mem_cons.2 ⟨rfl, List.forall_mem_cons.2 ⟨rfl, List.forall_mem_cons.2 ⟨rfl, List.forall_mem_cons.2 ⟨rfl, List.forall_mem_cons.2 ⟨rfl, List.forall_mem_cons.2 ⟨rfl, fun _ h => (by cases h)⟩⟩⟩⟩⟩⟩, List.Sublist.refl _⟩
                · skip
                  exact absurd h59 (by decide)
              · skip
                dsimp only
                refine wc_seq ?_
                refine wc_region ?_
                refine wl_q (q_bin rfl rfl rfl rfl) rfl rfl (by decide) ?_
                refine wl_nil ?_
                refine fq_then ?_
                refine wc_seq ?_
                refine wc_cond rfl (fun h59 => ?_) (fun h59 => ?_)
                · skip
                  have q59 := h59
                  try simp only [decide_eq_true_eq, decide_eq_false_iff_not, beq_iff_eq, beq_eq_false_iff_ne, bne_iff_ne, ne_eq, bne_eq_false_iff_eq, Int.not_lt, Int.not_le] at q59
                  refine wc_skip ?_
                  refine fq_then ?_
                  refine wc_seq ?_
                  refine wc_block ?_
                  refine wc_seq ?_
                  refine wc_region ?_
                  refine wl_q (q_move rfl rfl) rfl rfl (by decide) ?_
                  refine wl_q (q_indexS (off := 2) rfl rfl rfl Tryd.underlying33 Sz3 (by decide) (by decide) rfl) rfl rfl (by decide) ?_
                  refine wl_q (q_load rfl rfl Mn3 (reads1 (i := 3) rfl rfl)) rfl rfl (by decide) ?_
                  refine wl_q (q_assign rfl rfl) rfl rfl (by decide) ?_
                  refine wl_q (q_assign rfl rfl) rfl rfl (by decide) ?_
                  refine wl_nil ?_
                  refine fq_then ?_
                  refine wc_region ?_
                  refine wl_q (q_move rfl rfl) rfl rfl (by decide) ?_
                  refine wl_q (q_move rfl rfl) rfl rfl (by decide) ?_
                  refine wl_q (q_move rfl rfl) rfl rfl (by decide) ?_
                  refine wl_q (q_move rfl rfl) rfl rfl (by decide) ?_
                  refine wl_q (q_indexO rfl rfl (hA (by omega)) rfl Tryd.underlying68 Sz22 (by omega) (by omega)) rfl rfl (by decide) ?_
                  refine wl_q (q_load (v := .slice (PA 2) (rows.getD 2 []).length (PC 2)) rfl rfl Mn22 (reads_old (by simp) (cell_zero (hF 2 (by omega)).1))) rfl rfl (by decide) ?_
                  refine wl_call (ι := Option Addr × Nat) (fun i => .tuple #[.slice i.1 (gN 2 rows).length i.2, .int .i64 0]) (fun i => .own 0 53 1 (.slice i.1 (gN 2 rows).length i.2) (gN 2 rows).length (nums .u64 (gN 2 rows)) :: _) (fun i => (gN 2 rows).length ≤ i.2) rfl rfl rfl (by decide) En45 rfl (fun w1 hw1 => octget_calls hw1 (Kd.C_below (hF 2 (by omega)).2.2 (hw1.toBelow (by simp))) (hF 2 (by omega)).2.1 FM.g2) (fun p hp => ?_)
                  refine wl_pick [0, 2, 3, 4, 5, 6] (by decide) rfl ?_
                  refine wl_q (q_move rfl rfl) rfl rfl (by decide) ?_
                  refine wl_q (q_extract rfl rfl rfl) rfl rfl (by decide) ?_
                  refine wl_q (q_extract rfl rfl rfl) rfl rfl (by decide) ?_
                  refine wl_q (q_indexB (off := 2) rfl rfl rfl Tryd.underlying101 Sz100 (by decide) (by decide) rfl) rfl rfl (by decide) ?_
                  refine wl_store (i := 4) rfl rfl rfl rfl rfl rfl Sz100 rfl rfl (by simp) (by simp [Value.oneCell']) (by first | (simp only [List.take_succ_cons, List.take_zero, List.take_nil, List.drop_succ_cons, List.drop_zero, List.drop_nil, List.nil_append, List.cons_append, List.append_nil, List.length_cons, List.length_nil, Nat.reduceAdd, Nat.zero_add]; rfl) | rfl) (by first | (simp only [List.set_cons_zero, List.set_cons_succ]; rfl) | rfl) ?_
                  refine wl_nil ?_
                  refine fq_block ?_
                  refine fq_then ?_
                  refine wc_region ?_
                  refine wl_q (q_bin rfl rfl rfl rfl) rfl rfl (by decide) ?_
                  refine wl_q (q_move rfl rfl) rfl rfl (by decide) ?_
                  refine wl_nil ?_
                  refine fq_next (3, p0, p1, p) (show 3 ≤ 3 by decide) (show 3 - 3 < 3 - 2 by decide) ⟨List.forall_mem_cons.2 ⟨rfl, List.forall_mem_cons.2 ⟨rfl, List.forall_mem_cons.2 ⟨rfl, List.forall_mem_cons.2 ⟨rfl, List.forall_mem_cons.2 ⟨rfl, List.forall_mem_cons.2 ⟨rfl, fun _ h => (by cases h)⟩⟩⟩⟩⟩⟩, List.Sublist.refl _⟩
                · skip
                  exact absurd h59 (by decide)
              · skip
                dsimp only
                refine wc_ownAt 1 (A := p1.1) (c' := p1.2) (n := (gN 1 rows).length) (xs := nums .u64 (gN 1 rows)) rfl (fun g1 e1 f1 => ?_)
                obtain ⟨pa1, pc1⟩ := p1
                obtain rfl : pa1 = some ⟨g1, 0, none⟩ := e1 (by rw [FM.n1]; decide)
                refine wc_ownAt 2 (A := p0.1) (c' := p0.2) (n := (gN 0 rows).length) (xs := nums .u64 (gN 0 rows)) rfl (fun g0 e0 f0 => ?_)
                obtain ⟨pa0, pc0⟩ := p0
                obtain rfl : pa0 = some ⟨g0, 0, none⟩ := e0 (by rw [FM.n0]; decide)
                refine wc_ownAt 0 (A := p2.1) (c' := p2.2) (n := (gN 2 rows).length) (xs := nums .u64 (gN 2 rows)) rfl (fun g2 e2 f2 => ?_)
                obtain ⟨pa2, pc2⟩ := p2
                refine wc_seq ?_
                refine wc_region ?_
                refine wl_q (q_bin rfl rfl rfl rfl) rfl rfl (by decide) ?_
                refine wl_nil ?_
                refine fq_then ?_
                refine wc_seq ?_
                refine wc_cond rfl (fun h59 => ?_) (fun h59 => ?_)
                · skip
                  exact absurd h59 (by decide)
                · skip
                  have q59 := h59
                  try simp only [decide_eq_true_eq, decide_eq_false_iff_not, beq_iff_eq, beq_eq_false_iff_ne, bne_iff_ne, ne_eq, bne_eq_false_iff_eq, Int.not_lt, Int.not_le] at q59
                  refine wc_exit ?_
                  refine fq_then_exit ?_
                  refine fq_then_exit ?_
                  refine fq_block_hit ?_
                  refine fq_then ?_
                  refine wc_seq ?_
                  refine wc_any Fol (any_draw1 (ι := Nat) 12 11 11 _ _ (by kernel_rfl) (ChainM.yield (q_indexB (off := 1) rfl rfl rfl Tryd.underlying101 Sz100 (by decide) (by decide) rfl) rfl rfl rfl (ChainM.yield (q_load rfl rfl Mn100 (reads1 (i := 4) rfl rfl)) rfl rfl rfl (ChainM.yield (q_indexS (off := 0) rfl rfl rfl Tryd.underlying100 Sz53 (by decide) (by rw [FM.n1]; decide) rfl) rfl rfl rfl (ChainM.yield (q_load (v := .int .u64 ((gN 1 rows).getD 0 0)) rfl rfl Mn53 (readsOwnN (i := 1) (j := 0) rfl (nums_get (show 0 < (gN 1 rows).length by rw [FM.n1]; decide)))) rfl rfl rfl (ChainM.yield (q_conv rfl rfl Tryd.underlying53 Tryd.underlying3) rfl rfl rfl (ChainM.yield (q_indexB (off := 1) rfl rfl rfl Tryd.underlying101 Sz100 (by decide) (by decide) rfl) rfl rfl rfl (ChainM.yield (q_load rfl rfl Mn100 (reads1 (i := 4) rfl rfl)) rfl rfl rfl (ChainM.yield (q_indexS (off := 1) rfl rfl rfl Tryd.underlying100 Sz53 (by decide) (by rw [FM.n1]; decide) rfl) rfl rfl rfl (ChainM.yield (q_load (v := .int .u64 ((gN 1 rows).getD 1 0)) rfl rfl Mn53 (readsOwnN (i := 1) (j := 1) rfl (nums_get (show 1 < (gN 1 rows).length by rw [FM.n1]; decide)))) rfl rfl rfl (ChainM.yield (q_conv rfl rfl Tryd.underlying53 Tryd.underlying3) rfl rfl rfl (ChainM.yield (q_build rfl rfl (built_of Zr32 Pl32 (by simp only [fillL, List.map_cons, List.map_nil, Value.cells, List.getElem?_cons_zero, List.getElem?_cons_succ, List.length_cons, List.length_nil, Nat.reduceAdd, Nat.reduceLeDiff, Nat.le_refl, and_self, and_true, true_and, if_true, Nat.zero_add, spl, List.take_succ_cons, List.take_zero, List.take_nil, List.drop_succ_cons, List.drop_zero, List.drop_nil, List.nil_append, List.cons_append, List.append_nil]; rfl))) rfl rfl rfl (ChainM.gap rfl (ChainM.nil _ _))))))))))))) rfl rfl (om_alloc rfl Zr32) (fun b4 => ?_))
                  refine wl_store (i := 0) rfl rfl rfl rfl rfl rfl Sz32 rfl rfl (by simp) (by simp [Value.oneCell']) (by first | (simp only [List.take_succ_cons, List.take_zero, List.take_nil, List.drop_succ_cons, List.drop_zero, List.drop_nil, List.nil_append, List.cons_append, List.append_nil, List.length_cons, List.length_nil, Nat.reduceAdd, Nat.zero_add]; rfl) | rfl) (by first | (simp only [List.set_cons_zero, List.set_cons_succ]; rfl) | rfl) ?_
                  refine wl_nil ?_
                  refine fq_then ?_
                  refine wc_seq ?_
                  refine wc_seq ?_
                  refine wc_region ?_
                  refine wl_q (q_indexB (off := 2) rfl rfl rfl Tryd.underlying101 Sz100 (by decide) (by decide) rfl) rfl rfl (by decide) ?_
                  refine wl_q (q_load rfl rfl Mn100 (reads1 (i := 5) rfl rfl)) rfl rfl (by decide) ?_
                  refine wl_call (ι := Nat × Nat) (fun i => .func (.func 67) #[] #[.pointer (some ⟨i.1, 0, none⟩), .pointer (some ⟨i.2, 0, none⟩)]) (fun i => .blk i.2 [.int .i64 2] 3 :: .blk i.1 [.slice pa2 (gN 2 rows).length pc2] 100 :: _) (fun _ => True) rfl rfl rfl (by decide) En46 rfl (fun w1 hw1 => chunk_calls hw1) (fun bb _ => ?_)
                  refine wl_nil ?_
                  refine fq_then ?_
                  refine wc_block ?_
                  refine wc_own (E := 51) (sz := 2) ?_
                  refine wc_rangeFunc (α := Fin ((rows.getD 2 []).length / 8)) (β := Value) (encs := fun x => #[Value.slice (some ⟨g2, 0 + x.val * 2, none⟩) 2 2]) (Kp := ChK w2.heap.size bb.1 bb.2) (S := fun ys => ys = List.finRange ((rows.getD 2 []).length / 8)) (Sp := fun _ => True) (M := ((rows.getD 2 []).length / 8)) (fun (pre : List (Fin ((rows.getD 2 []).length / 8))) (y : Value) => [.own 0 51 2 y pre.length (pre.flatMap fun j => [.int .i64 (gP rows j.val).f0, .int .i64 (gP rows j.val).f1]), .blk bb.2 [.int .i64 2] 3, .blk bb.1 [.slice pa2 (gN 2 rows).length pc2] 100, .blk b4 [.int .i64 (gBud rows), .int .i64 (gMar rows), .int .i64 0, y] 32, .own 0 53 1 (.slice pa2 (gN 2 rows).length pc2) (gN 2 rows).length (nums .u64 (gN 2 rows)), .own 0 53 1 (.slice (some ⟨g1, 0, none⟩) (gN 1 rows).length pc1) (gN 1 rows).length (nums .u64 (gN 1 rows)), .own 0 53 1 (.slice (some ⟨g0, 0, none⟩) (gN 0 rows).length pc0) (gN 0 rows).length (nums .u64 (gN 0 rows)), .blk b3 [.int .i64 8, .int .i64 4, .int .i64 4] 3, .blk b2 [.slice (some ⟨g0, 0, none⟩) (gN 0 rows).length pc0, .slice (some ⟨g1, 0, none⟩) (gN 1 rows).length pc1, .slice pa2 (gN 2 rows).length pc2] 101, old w2]) (.slice none 0 0) (fun _ _ _ => none) (fun x => [(12, .slice (some ⟨g2, 0 + x.val * 2, none⟩) 2 2), (11, .pointer (some ⟨b4, 0, none⟩))]) (fun x => [(89, .slice (some ⟨g2, 0 + x.val * 2, none⟩) 2 2)]) (fun x => by rw [Array.toList_zip]; rfl) rfl En67 rfl ?solid (fun c pre y x h => by cases h) (fun x => rfl) ?seq (fun h k => ChK.t h k) ?kb ?ko ?kp ?assign (by decide) ?body ?done (fun D c xs y x _ h => by cases h)
                  case solid =>
                    intro pre y it hit
                    simp only [List.mem_cons, List.not_mem_nil, or_false] at hit
                    rcases hit with rfl | rfl | rfl | rfl | rfl | rfl | rfl | rfl | rfl | rfl <;> first | trivial | exact (fun k h => h)
                  case seq =>
                    intro W HW
                    have hB : W.heap[bb.1]? = some (.cells #[.slice pa2 (gN 2 rows).length pc2] 100 (0, 0)) := HW.get (i := 2) rfl
                    rw [FM.n2] at hB
                    have f2' := f2
                    rw [FM.n2] at f2'
                    have q2 := (hF 2 (by omega)).2.2.2.1
                    have q3 : (rows.getD 2 []).length ≤ 8000 := hl2
                    exact c64_chunk_stops 9 (by decide) bb.1 bb.2 w2.heap.size g2 0 2 ((rows.getD 2 []).length / 8) pc2 (by decide) (by decide) (by omega) f2' pa2 (fun h => e2 (by rw [FM.n2]; omega)) W hB (HW.get (i := 1) rfl)
                  case kb =>
                    intro W0 W l o o' HW hl2_ ho hc_ hw_
                    exact ChK.b HW.size (HW.bound _ (List.mem_of_getElem? (i := 2) rfl) _ rfl) (HW.bound _ (List.mem_of_getElem? (i := 1) rfl) _ rfl) W l o o' hl2_ ho hc_ hw_
                  case ko =>
                    rintro W W' hb hsz ⟨pre, y, HW⟩
                    exact ⟨hb.mono hsz, hb.block _ (HW.bound _ (List.mem_of_getElem? (i := 2) rfl) _ rfl), hb.block _ (HW.bound _ (List.mem_of_getElem? (i := 1) rfl) _ rfl)⟩
                  case kp =>
                    intro pre y y' x W W' HW H2
                    have a1 : W'.heap[bb.1]? = _ := H2.get (i := 2) rfl
                    have a2 : W.heap[bb.1]? = _ := HW.get (i := 2) rfl
                    have a3 : W'.heap[bb.2]? = _ := H2.get (i := 1) rfl
                    have a4 : W.heap[bb.2]? = _ := HW.get (i := 1) rfl
                    exact ⟨⟨H2.os, H2.tape, H2.output, H2.size, fun k hk => (H2.ok (old w2) (List.mem_of_getElem? (i := 9) rfl) k hk).trans (HW.ok (old w2) (List.mem_of_getElem? (i := 9) rfl) k hk).symm⟩, a1.trans a2.symm, a3.trans a4.symm⟩
                  case assign =>
                    intro l x W
                    refine wci_region rfl ?_
                    refine wl_q (q_assign rfl rfl) rfl rfl (by decide) ?_
                    refine wl_nil ?_
                    exact fq_asg (hl := List.forall_mem_cons.2 ⟨rfl, List.forall_mem_cons.2 ⟨rfl, fun _ h => (by cases h)⟩⟩)
                  case body =>
                    intro l pre y x W hW hlen
                    have hx := x.isLt
                    obtain rfl : pa2 = some ⟨g2, 0, none⟩ := e2 (by rw [FM.n2]; omega)
                    dsimp only
                    refine wci_block ?_
                    refine wci_any Fol rfl (any_draw1 (ι := Nat) 12 11 101 _ _ (by kernel_rfl) (ChainM.yield (q_fa (o1 := 3) rfl rfl Fo32_3 rfl) rfl rfl rfl (ChainM.yield (q_load rfl rfl Mn30 (reads1 (i := 3) rfl rfl)) rfl rfl rfl (ChainM.yield (q_move rfl rfl) rfl rfl rfl (ChainM.yield (q_indexS (off := x.val * 2) rfl rfl rfl Tryd.underlying100 Sz53 (by decide) (by decide) (by simp)) rfl rfl rfl (ChainM.yield (q_load (v := .int .u64 ((gN 2 rows).getD (x.val * 2) 0)) rfl rfl Mn53 (readsOwnN (i := 4) (j := x.val * 2) rfl (nums_get (show x.val * 2 < (gN 2 rows).length by rw [FM.n2]; omega)))) rfl rfl rfl (ChainM.yield (q_conv rfl rfl Tryd.underlying53 Tryd.underlying3) rfl rfl rfl (ChainM.yield (q_move rfl rfl) rfl rfl rfl (ChainM.yield (q_indexS (off := x.val * 2 + 1) rfl rfl rfl Tryd.underlying100 Sz53 (by decide) (by decide) (by simp)) rfl rfl rfl (ChainM.yield (q_load (v := .int .u64 ((gN 2 rows).getD (x.val * 2 + 1) 0)) rfl rfl Mn53 (readsOwnN (i := 4) (j := x.val * 2 + 1) rfl (nums_get (show x.val * 2 + 1 < (gN 2 rows).length by rw [FM.n2]; omega)))) rfl rfl rfl (ChainM.yield (q_conv rfl rfl Tryd.underlying53 Tryd.underlying3) rfl rfl rfl (ChainM.yield (q_build rfl rfl (built_of Zr51 Pl51 (by simp only [fillL, List.map_cons, List.map_nil, Value.cells, List.getElem?_cons_zero, List.getElem?_cons_succ, List.length_cons, List.length_nil, Nat.reduceAdd, Nat.reduceLeDiff, Nat.le_refl, and_self, and_true, true_and, if_true, Nat.zero_add, spl, List.take_succ_cons, List.take_zero, List.take_nil, List.drop_succ_cons, List.drop_zero, List.drop_nil, List.nil_append, List.cons_append, List.append_nil]; rfl))) rfl rfl rfl (ChainM.gap rfl (ChainM.nil _ _))))))))))))) rfl rfl (om_buildSlice rfl rfl Tryd.underlying30 (built_one Sz51 (by decide) Zs51 (by decide) rfl rfl)) (fun b5 => ?_))
                    refine wl_append (i := 1) (m := 1) (news := [.int .i64 (gP rows x.val).f0, .int .i64 (gP rows x.val).f1]) rfl rfl rfl (by decide) Tryd.underlying30 Ap51 (by decide) rfl rfl rfl (readsAll (i := 0) rfl) rfl (by simp [Value.oneCell']) (by unfold maxLen; omega) (by omega) (fun v102 _ => ?_)
                    refine wl_ownForm (i := 1) rfl (fun A102 c102 e102 f102 => ?_)
                    subst e102
                    refine wl_q (q_fa (o1 := 3) rfl rfl Fo32_3 rfl) rfl rfl (by decide) ?_
                    refine wl_store (i := 4) rfl rfl rfl rfl rfl rfl Sz30 rfl rfl (by simp) (by simp [Value.oneCell']) (by first | (simp only [List.take_succ_cons, List.take_zero, List.take_nil, List.drop_succ_cons, List.drop_zero, List.drop_nil, List.nil_append, List.cons_append, List.append_nil, List.length_cons, List.length_nil, Nat.reduceAdd, Nat.zero_add]; rfl) | rfl) (by first | (simp only [List.set_cons_zero, List.set_cons_succ]; rfl) | rfl) ?_
                    refine wl_nil ?_
                    refine fq_block ?_
                    intro a w h
                    have hk := h.heap.pick [1, 2, 3, 4, 5, 6, 7, 8, 9, 10, 11] (by decide) rfl
                    refine ⟨.slice A102 (pre.length + 1) c102, ?_⟩
                    have e1 : (pre ++ [x]).length = pre.length + 1 := by simp
                    have e2 : ((pre ++ [x]).flatMap fun j => ([.int .i64 (gP rows j.val).f0, .int .i64 (gP rows j.val).f1] : List Value)) = (pre.flatMap fun j => ([.int .i64 (gP rows j.val).f0, .int .i64 (gP rows j.val).f1] : List Value)) ++ [.int .i64 (gP rows x.val).f0, .int .i64 (gP rows x.val).f1] := by rw [List.flatMap_append]; rfl
                    simp only [e1, e2]
                    exact hk
                  case done =>
                    rintro D xs y rfl
                    dsimp only
                    rw [gps_flat, gps_len]
                    refine fq_block ?_
                    refine fq_then ?_
                    refine wc_seq ?_
                    refine wc_seq ?_
                    refine wc_ownForm (i := 1) rfl (fun Ay cy ey fy => ?_)
                    subst ey
                    refine wc_region ?_
                    refine wl_q (q_loadA rfl rfl Mn32 Sz32 rfl (readsAll (i := 4) rfl)) rfl rfl (of_decide_eq_true rfl) ?_
                    refine wl_q (q_call rfl En35 rfl (fun w1 hw1 => PChk.Check_calls (gBud rows) (gMar rows) 0 Ay cy (gPs rows) w1 (C51_of_own (hw1.get (i := 1) rfl) (by omega)) fy hps)) rfl rfl (of_decide_eq_true rfl) ?_
                    refine wl_q (q_not rfl rfl) rfl rfl (of_decide_eq_true rfl) ?_
                    refine wl_nil ?_
                    refine fq_then ?_
                    refine wc_cond rfl (fun h106 => ?_) (fun h106 => ?_)
                    · skip
                      have q106 := h106
                      try simp only [decide_eq_true_eq, decide_eq_false_iff_not, beq_iff_eq, beq_eq_false_iff_ne, bne_iff_ne, ne_eq, bne_eq_false_iff_eq, Int.not_lt, Int.not_le] at q106
                      refine wc_seq ?_
                      refine wc_region ?_
                      refine wl_q (q_build rfl rfl (built_of Zr32 Pl32 (by simp only [fillL, List.map_cons, List.map_nil, Value.cells, List.getElem?_cons_zero, List.getElem?_cons_succ, List.length_cons, List.length_nil, Nat.reduceAdd, Nat.reduceLeDiff, Nat.le_refl, and_self, and_true, true_and, if_true, Nat.zero_add, spl, List.take_succ_cons, List.take_zero, List.take_nil, List.drop_succ_cons, List.drop_zero, List.drop_nil, List.nil_append, List.cons_append, List.append_nil]; rfl))) rfl rfl (of_decide_eq_true rfl) ?_
                      refine wl_thaw (b := b1) (cs := [.int .i64 0, .int .i64 0, .int .i64 0, .slice none 0 0]) (T := 32) 10 rfl (by first | exact hlt2 | exact hlt1) (by first | exact hz2 | exact hz1) ?_
                      refine wl_store (i := 0) rfl rfl rfl rfl rfl rfl Sz32 rfl rfl (by simp) (by simp [Value.oneCell']) (by first | (simp only [List.take_succ_cons, List.take_zero, List.take_nil, List.drop_succ_cons, List.drop_zero, List.drop_nil, List.nil_append, List.cons_append, List.append_nil, List.length_cons, List.length_nil, Nat.reduceAdd, Nat.zero_add]; rfl) | rfl) (by first | (simp only [List.set_cons_zero, List.set_cons_succ]; rfl) | rfl) ?_
                      skip
                      refine wl_q (q_assign rfl rfl) rfl rfl (of_decide_eq_true rfl) ?_
                      refine wl_q (q_assign rfl rfl) rfl rfl (of_decide_eq_true rfl) ?_
                      refine wl_nil ?_
                      refine fq_then ?_
                      refine wc_ret ?_
                      refine fq_then_ret ?_
                      refine fqM_mark 1 (.inl rfl) rfl rfl (res_ctt (i := 0) rfl rfl rfl rfl rfl Mn32 Sz32 rfl) (fun w1 H => ?_)
                      have hck : PChk.chkB (gBud rows) (gMar rows) 0 (gPs rows) = false := by simpa using h106
                      rw [show jgot is rows er = ⟨0, 0, [], 0, 11⟩ from (by unfold jgot gOK; rw [hck]; simp [*])]
                      exact got_nil hbw2 hle (H.pick [0, 10] (by decide) rfl)
                    · skip
                      have q106 := h106
                      try simp only [decide_eq_true_eq, decide_eq_false_iff_not, beq_iff_eq, beq_eq_false_iff_ne, bne_iff_ne, ne_eq, bne_eq_false_iff_eq, Int.not_lt, Int.not_le] at q106
                      refine wc_skip ?_
                      refine fq_then ?_
                      refine wc_seq ?_
                      have hck : PChk.chkB (gBud rows) (gMar rows) 0 (gPs rows) = true := by simpa using h106
                      refine wc_thaw (b := b1) (cs := [.int .i64 0, .int .i64 0, .int .i64 0, .slice none 0 0]) (T := 32) 10 rfl hlt2 hz2 ?_
                      refine wc_any Fol (any_drawE1 (ι := Unit) 6 5 none _ _ _ (by kernel_rfl) (ChainM.yield (q_loadA rfl rfl Mn32 Sz32 rfl (readsAll (i := 4) rfl)) rfl rfl rfl (ChainM.yield (q_indexB (off := 0) rfl rfl rfl Tryd.underlying101 Sz100 (by decide) (by decide) rfl) rfl rfl rfl (ChainM.yield (q_load rfl rfl Mn100 (reads1 (i := 9) rfl rfl)) rfl rfl rfl (ChainM.yield (q_indexS (off := 0) rfl rfl rfl Tryd.underlying100 Sz53 (by decide) (by rw [FM.n0]; decide) rfl) rfl rfl rfl (ChainM.yield (q_load (v := .int .u64 ((gN 0 rows).getD 0 0)) rfl rfl Mn53 (readsOwnN (i := 7) (j := 0) rfl (nums_get (show 0 < (gN 0 rows).length by rw [FM.n0]; decide)))) rfl rfl rfl (ChainM.gap rfl (ChainM.nil _ _))))))) rfl rfl (oe_store rfl rfl rfl Sz32 rfl rfl (by simp) (by simp [Value.oneCell']) (by simp only [List.take_succ_cons, List.take_zero, List.take_nil, List.drop_succ_cons, List.drop_zero, List.drop_nil, List.nil_append, List.cons_append, List.append_nil, List.length_cons, List.length_nil, Nat.reduceAdd, Nat.zero_add]; rfl)) rfl (fun _ => ?_))
                      refine wl_q (q_assign rfl rfl) rfl rfl (of_decide_eq_true rfl) ?_
                      refine wl_q (q_assign rfl rfl) rfl rfl (of_decide_eq_true rfl) ?_
                      refine wl_nil ?_
                      refine fq_then ?_
                      refine wc_ret ?_
                      refine fqM_mark 1 (.inl rfl) rfl rfl (res_ctt (i := 0) rfl rfl rfl rfl rfl Mn32 Sz32 rfl) (fun w1 H => ?_)
                      rw [show jgot is rows er = ⟨gBud rows, gMar rows, gPs rows, gSeq rows, 0⟩ from (by unfold jgot gOK; rw [hck, FM.form]; simp [*])]
                      exact ⟨_, rfl, R51_of_own (H.get (i := 1) rfl) (fun k hk => Nat.le_trans hbw2.size (own_farB H (i := 1) (j := 10) rfl rfl ⟨0, _, _, rfl, by decide⟩ (by decide) k hk)), hbw2.trans (below_but H (List.mem_of_getElem? (i := 10) rfl) hle hbw2.size)⟩
end Go.Proofs.YtbcijmpkmmcdeaaDoor.SF
end
