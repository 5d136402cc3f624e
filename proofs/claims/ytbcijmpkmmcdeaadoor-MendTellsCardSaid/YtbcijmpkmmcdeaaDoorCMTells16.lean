/- Texts of mine, put together (no statement stands here). -/
import Derived.Test.YtbcijmpkmmcdeaaDoorCMTells15
import Derived.Test.YtbcijmpkmmcdeaaDoorCMTells14
import Derived.Test.YtbcijmpkmmcdeaaDoorCMTells13
section
namespace Go.Proofs.YtbcijmpkmmcdeaaDoor.SF
open Go.RowKit Go.Sx Go.Proofs.YtbcijmpkmmcdeaaDoor.PAll Go.Proofs.YtbcijmpkmmcdeaaDoorW.PrintWords Go.Proofs.YtbcijmpkmmcdeaaDoorW.PrintLast Go.Proofs.YtbcijmpkmmcdeaaDoorW.PrintMore
set_option linter.unusedVariables false
set_option linter.unusedSimpArgs false
set_option maxRecDepth 100000
open Go.Proofs.YtbcijmpkmmcdeaaDoor.Pure (str_drop refRes)
theorem RowR.nil (w : World) : RowR w (none, 0) [] := ⟨Nat.le_refl _, rfl, by decide, fun h => absurd h (by decide)⟩
theorem ropen_calls {l : List Int} (hb : ∀ x ∈ l, 0 ≤ x ∧ x ≤ 255) (hl : l.length ≤ 10000) (w : World) : Calls Tryd.prog 47 #[.string (strOfNums l)] w fun e w' => e = .returned (.tuple #[.string (strOfNums (openF l).1), .bool (openF l).2]) ∧ Below w.heap.size w w' := by
  obtain ⟨K, hK⟩ := ropen_ev hb hl
  exact paternosterref02_Open.calls K _ _ _ w (hK K (Nat.le_refl _))
def rRows (l : List Int) : List ByteArray := ((PAll.partsF l.length l).getD []).map strOfNums
def rEr (l : List Int) : Int := if (PAll.partsF l.length l).isSome then 0 else 10
theorem rpart_calls {l : List Int} (hb : ∀ x ∈ l, 0 ≤ x ∧ x ≤ 255) (hl : l.length ≤ 10000) {w0 w : World} {hp : List Sx.Item} (hw : HeapOK w0 hp w) : Calls Tryd.prog 48 #[.string (strOfNums l)] w fun e w' => ∃ i : Gh, True ∧ e = .returned (.tuple #[.slice i.1 (rRows l).length i.2, .int .i64 (rEr l)]) ∧ HeapOK w0 (.own 0 9 1 (.slice i.1 (rRows l).length i.2) (rRows l).length ((rRows l).map Value.string) :: hp) w' := by
  obtain ⟨K, hK⟩ := rpart_ev hb hl
  have hp : refRes [] (PAll.partsF l.length l) = (rRows l, rEr l) := by
    unfold rRows rEr
    cases PAll.partsF l.length l with
    | none => rfl
    | some rows => simp [refRes]
  have h := hK K (Nat.le_refl _)
  rw [hp] at h
  refine (paternosterref01_Part.calls K _ _ _ w h).mono ?_
  rintro e w' ⟨v, rfl, hR, hb⟩
  obtain ⟨A, c, rfl, _, _⟩ := Kd.R_reads hR
  exact ⟨(A, c), trivial, rfl, hw.newOwn hb (own_of_RS hR)⟩
theorem rn16_calls (n : Nat) (h1 : 1 ≤ n) (h8 : n ≤ 8) (r : List Int) (hr : n ≤ r.length) (hb : ∀ x ∈ r, 0 ≤ x ∧ x ≤ 255) (w : World) : Calls Tryd.prog 49 #[.string (strOfNums r), .int .i64 (n : Int)] w fun e w' => e = .returned (.int .u64 (leNum (r.take n))) ∧ Below w.heap.size w w' := by
  obtain ⟨K, hK⟩ := rnum_ev n h1 h8 r hr hb
  exact paternosterref16_num.calls K _ _ _ w (hK K (Nat.le_refl _))
theorem gP_isw {rows : List (List Int)} {j : Nat} (h : j < (rows.getD 2 []).length / 8) (hb : ∀ x ∈ rows.getD 2 [], 0 ≤ x ∧ x ≤ 255) :
    gP rows j = ⟨IntKind.i64.wrap (leNum (((rows.getD 2 []).drop (8 * j)).take 4)), IntKind.i64.wrap (leNum (((rows.getD 2 []).drop (8 * j + 4)).take 4))⟩ := by
  rw [gP_is h hb, i64_small (le4_small (fun x hx => hb x (List.mem_of_mem_drop hx))), i64_small (le4_small (fun x hx => hb x (List.mem_of_mem_drop hx)))]
set_option maxHeartbeats 2000000 in
theorem rget_calls {b : List Int} (hB : Bytes b) (w : World) : Calls Tryd.prog 24 #[.string (strOfNums b)] w fun e w' => ∃ i : Gh, e = .returned (.tuple #[.agg #[.int .i64 (jget b).bud, .int .i64 (jget b).mar, .int .i64 0, .slice i.1 (jget b).ps.length i.2], .int .u64 (jget b).seq, .int .i64 (jget b).err]) ∧ HeapOK w [.own 0 91 2 (.slice i.1 (jget b).ps.length i.2) (jget b).ps.length (((jget b).ps.map to91).flatMap pc91), old w] w' := by
  have hob : ∀ x ∈ (openF b).1, 0 ≤ x ∧ x ≤ 255 := fun x hx => hB.2 x ((openF_sub b).2 x hx)
  have hol : (openF b).1.length ≤ 8000 := Nat.le_trans (openF_sub b).1 hB.1
  refine enter (w0 := w) (hp := [old w]) (env := [(0, .string (strOfNums b))]) Tryd.func24 rfl 108 rfl (by simp) rfl (HeapOK.start _) ?_
  refine wc_seq ?_
  refine wc_region ?_
  refine wl_alloc rfl rfl rfl (by decide) Zr42 (fun b1 => ?_)
  refine wl_q (q_assign rfl rfl) rfl rfl (by decide) ?_
  refine wl_q (q_assign rfl rfl) rfl rfl (by decide) ?_
  refine wl_nil ?_
  refine fq_then ?_
  refine wc_seq ?_
  refine wc_region ?_
  refine wl_q (q_build rfl rfl (built_of Zr42 Pl42 (by simp only [fillL, List.map_cons, List.map_nil, Value.cells, List.getElem?_cons_zero, List.getElem?_cons_succ, List.length_cons, List.length_nil, Nat.reduceAdd, Nat.reduceLeDiff, Nat.le_refl, and_self, and_true, true_and, if_true, Nat.zero_add, spl, List.take_succ_cons, List.take_zero, List.take_nil, List.drop_succ_cons, List.drop_zero, List.drop_nil, List.nil_append, List.cons_append, List.append_nil] <;> rfl))) rfl rfl (by decide) ?_
  refine wl_alloc rfl rfl rfl (by decide) Zr42 (fun b2 => ?_)
  refine wl_store (i := 0) rfl rfl rfl rfl rfl rfl Sz42 rfl rfl (by simp) (by simp [Value.oneCell']) (by first | (simp only [List.take_succ_cons, List.take_zero, List.take_nil, List.drop_succ_cons, List.drop_zero, List.drop_nil, List.nil_append, List.cons_append, List.append_nil, List.length_cons, List.length_nil, Nat.reduceAdd, Nat.zero_add]; rfl) | rfl) (by first | (simp only [List.set_cons_zero, List.set_cons_succ]; rfl) | rfl) ?_
  refine wl_nil ?_
  refine fq_then ?_
  refine wc_seq ?_
  refine wc_region ?_
  refine wl_q (q_move rfl rfl) rfl rfl (by decide) ?_
  refine wl_q (q_call rfl En47 rfl (fun w1 hw1 => ropen_calls hB.2 (Nat.le_trans hB.1 (by decide)) w1)) rfl rfl (by decide) ?_
  refine wl_q (q_move rfl rfl) rfl rfl (by decide) ?_
  refine wl_q (q_extract rfl rfl rfl) rfl rfl (by decide) ?_
  refine wl_q (q_extract rfl rfl rfl) rfl rfl (by decide) ?_
  refine wl_q (q_assign rfl rfl) rfl rfl (by decide) ?_
  refine wl_q (q_assign rfl rfl) rfl rfl (by decide) ?_
  refine wl_nil ?_
  refine fq_then ?_
  refine wc_seq ?_
  refine wc_seq ?_
  refine wc_region ?_
  refine wl_q (q_move rfl rfl) rfl rfl (by decide) ?_
  refine wl_q (q_not rfl rfl) rfl rfl (by decide) ?_
  refine wl_nil ?_
  refine fq_then ?_
  refine wc_cond rfl (fun h20 => ?_) (fun h20 => ?_)
  · skip
    have q20 := h20
    try simp only [decide_eq_true_eq, decide_eq_false_iff_not, beq_iff_eq, beq_eq_false_iff_ne, bne_iff_ne, ne_eq, bne_eq_false_iff_eq, Int.not_lt, Int.not_le] at q20
    skip
    refine wc_seq ?_
    refine wc_region ?_
    refine wl_q (q_loadA rfl rfl Mn42 Sz42 rfl (readsAll (i := 0) rfl)) rfl rfl (by decide) ?_
    refine wl_store (i := 1) rfl rfl rfl rfl rfl rfl Sz42 rfl rfl (by simp) (by simp [Value.oneCell']) (by first | (simp only [List.take_succ_cons, List.take_zero, List.take_nil, List.drop_succ_cons, List.drop_zero, List.drop_nil, List.nil_append, List.cons_append, List.append_nil, List.length_cons, List.length_nil, Nat.reduceAdd, Nat.zero_add]; rfl) | rfl) (by first | (simp only [List.set_cons_zero, List.set_cons_succ]; rfl) | rfl) ?_
    refine wl_q (q_assign rfl rfl) rfl rfl (by decide) ?_
    refine wl_q (q_assign rfl rfl) rfl rfl (by decide) ?_
    refine wl_nil ?_
    refine fq_then ?_
    refine wc_ret ?_
    refine fq_then_ret ?_
    refine fq_ctt (i := 1) (.inl rfl) rfl rfl rfl rfl rfl Mn42 Sz42 rfl (fun w1 H => ?_)
    rw [show jget b = ⟨0, 0, [], 0, 12⟩ from by unfold jget jgot; rw [show (openF b).2 = false by simpa using q20]; rfl]
    exact ⟨(none, 0), rfl, HeapOK.ownNil (H.pick [2] (by decide) rfl) 91 2⟩
  · skip
    have q20 := h20
    try simp only [decide_eq_true_eq, decide_eq_false_iff_not, beq_iff_eq, beq_eq_false_iff_ne, bne_iff_ne, ne_eq, bne_eq_false_iff_eq, Int.not_lt, Int.not_le] at q20
    have hop : (openF b).2 = true := by simpa using q20
    refine wc_skip ?_
    refine fq_then ?_
    refine wc_seq ?_
    refine wc_region ?_
    refine wl_q (q_move rfl rfl) rfl rfl (by decide) ?_
    refine wl_call (ι := Gh) (fun i => .tuple #[.slice i.1 (rRows (openF b).1).length i.2, .int .i64 (rEr (openF b).1)]) (fun i => .own 0 9 1 (.slice i.1 (rRows (openF b).1).length i.2) (rRows (openF b).1).length ((rRows (openF b).1).map Value.string) :: _) (fun _ => True) rfl rfl rfl (by decide) En48 rfl (fun w1 hw1 => rpart_calls hob (by omega) hw1) (fun i _ => ?_)
    obtain ⟨pa, pc⟩ := i
    dsimp only
    refine wl_q (q_move rfl rfl) rfl rfl (by decide) ?_
    refine wl_q (q_extract rfl rfl rfl) rfl rfl (by decide) ?_
    refine wl_q (q_extract rfl rfl rfl) rfl rfl (by decide) ?_
    refine wl_q (q_assign rfl rfl) rfl rfl (by decide) ?_
    refine wl_q (q_assign rfl rfl) rfl rfl (by decide) ?_
    refine wl_nil ?_
    refine fq_then ?_
    refine wc_seq ?_
    refine wc_seq ?_
    refine wc_region ?_
    refine wl_q (q_move rfl rfl) rfl rfl (by decide) ?_
    refine wl_q (q_bin rfl rfl rfl rfl) rfl rfl (by decide) ?_
    refine wl_nil ?_
    refine fq_then ?_
    refine wc_cond rfl (fun h28 => ?_) (fun h28 => ?_)
    · skip
      have q28 := h28
      try simp only [decide_eq_true_eq, decide_eq_false_iff_not, beq_iff_eq, beq_eq_false_iff_ne, bne_iff_ne, ne_eq, bne_eq_false_iff_eq, Int.not_lt, Int.not_le] at q28
      refine wc_seq ?_
      refine wc_region ?_
      refine wl_q (q_loadA rfl rfl Mn42 Sz42 rfl (readsAll (i := 1) rfl)) rfl rfl (by decide) ?_
      refine wl_q (q_move rfl rfl) rfl rfl (by decide) ?_
      refine wl_store (i := 2) rfl rfl rfl rfl rfl rfl Sz42 rfl rfl (by simp) (by simp [Value.oneCell']) (by first | (simp only [List.take_succ_cons, List.take_zero, List.take_nil, List.drop_succ_cons, List.drop_zero, List.drop_nil, List.nil_append, List.cons_append, List.append_nil, List.length_cons, List.length_nil, Nat.reduceAdd, Nat.zero_add]; rfl) | rfl) (by first | (simp only [List.set_cons_zero, List.set_cons_succ]; rfl) | rfl) ?_
      refine wl_q (q_assign rfl rfl) rfl rfl (by decide) ?_
      refine wl_q (q_assign rfl rfl) rfl rfl (by decide) ?_
      refine wl_nil ?_
      refine fq_then ?_
      refine wc_ret ?_
      refine fq_then_ret ?_
      refine fq_ctt (i := 2) (.inl rfl) rfl rfl rfl rfl rfl Mn42 Sz42 rfl (fun w1 H => ?_)
      rw [show jget b = ⟨0, 0, [], 0, 10⟩ from by
        unfold jget jgot
        rw [hop]
        cases hx : PAll.partsF (openF b).1.length (openF b).1 with
        | some rows => exact absurd (show rEr (openF b).1 = 0 by unfold rEr; rw [hx]; rfl) q28
        | none => rfl, show rEr (openF b).1 = 10 by (unfold rEr at q28 ⊢; split at q28 <;> first | exact absurd rfl q28 | (rename_i h; exact if_neg h))]
      exact ⟨(none, 0), rfl, HeapOK.ownNil (H.pick [3] (by decide) rfl) 91 2⟩
    · skip
      have q28 := h28
      try simp only [decide_eq_true_eq, decide_eq_false_iff_not, beq_iff_eq, beq_eq_false_iff_ne, bne_iff_ne, ne_eq, bne_eq_false_iff_eq, Int.not_lt, Int.not_le] at q28
      skip
      refine wc_skip ?_
      refine fq_then ?_
      refine wc_seq ?_
      refine wc_seq ?_
      obtain ⟨rows, hq⟩ : ∃ rows, PAll.partsF (openF b).1.length (openF b).1 = some rows := by
        cases hx : PAll.partsF (openF b).1.length (openF b).1 with
        | some rows => exact ⟨rows, rfl⟩
        | none => exact absurd q28 (by unfold rEr; rw [hx]; decide)
      have hrr : rRows (openF b).1 = rows.map strOfNums := by unfold rRows; rw [hq]; rfl
      rw [hrr, List.length_map]
      have hby : ∀ j, j < rows.length → ∀ x ∈ rows.getD j [], 0 ≤ x ∧ x ≤ 255 := fun j hj x hx => by
        rw [List.getD_eq_getElem?_getD, List.getElem?_eq_getElem hj] at hx
        exact hob x ((parts_sub _ _ _ hq _ (List.getElem_mem _)).2 x hx)
      have hrl : ∀ j, j < rows.length → (rows.getD j []).length ≤ 8000 := fun j hj => by
        rw [List.getD_eq_getElem?_getD, List.getElem?_eq_getElem hj]
        exact Nat.le_trans (parts_sub _ _ _ hq _ (List.getElem_mem _)).1 (by omega)
      have hrow : ∀ j, j < rows.length → ((rows.map strOfNums).map Value.string)[j]? = some (.string (strOfNums (rows.getD j []))) := fun j hj => by
        rw [List.getElem?_map, List.getElem?_map, List.getD_eq_getElem?_getD, List.getElem?_eq_getElem hj]
        rfl
      have hjg : jget b = jgot true rows 0 := by unfold jget; rw [hop, hq]; rfl
      refine wc_ownAt 0 (A := pa) (c' := pc) (n := rows.length) (xs := (rows.map strOfNums).map Value.string) rfl (fun g eg fg => ?_)
      refine wc_region ?_
      refine wl_q (q_move rfl rfl) rfl rfl (by decide) ?_
      refine wl_q (q_len rfl rfl Tryd.underlying109) rfl rfl (by decide) ?_
      refine wl_q (q_bin rfl rfl rfl rfl) rfl rfl (by decide) ?_
      refine wl_q (q_move rfl rfl) rfl rfl (by decide) ?_
      refine wl_split (t := 34) rfl (fun h34 => ?_) (fun h34 => ?_)
      · skip
        have q34 := h34
        try simp only [decide_eq_true_eq, decide_eq_false_iff_not, beq_iff_eq, beq_eq_false_iff_ne, bne_iff_ne, ne_eq, bne_eq_false_iff_eq, Int.not_lt, Int.not_le] at q34
        refine wl_skip (b := true) rfl rfl rfl rfl (by decide) ?_
        refine wl_skip (b := true) rfl rfl rfl rfl (by decide) ?_
        refine wl_skip (b := true) rfl rfl rfl rfl (by decide) ?_
        refine wl_skip (b := true) rfl rfl rfl rfl (by decide) ?_
        refine wl_skip (b := true) rfl rfl rfl rfl (by decide) ?_
        refine wl_q (q_pick rfl rfl rfl) rfl rfl (by decide) ?_
        refine wl_q (q_move rfl rfl) rfl rfl (by decide) ?_
        refine wl_skip (b := true) rfl rfl rfl rfl (by decide) ?_
        refine wl_skip (b := true) rfl rfl rfl rfl (by decide) ?_
        refine wl_skip (b := true) rfl rfl rfl rfl (by decide) ?_
        refine wl_skip (b := true) rfl rfl rfl rfl (by decide) ?_
        refine wl_skip (b := true) rfl rfl rfl rfl (by decide) ?_
        refine wl_q (q_pick rfl rfl rfl) rfl rfl (by decide) ?_
        refine wl_q (q_move rfl rfl) rfl rfl (by decide) ?_
        refine wl_skip (b := true) rfl rfl rfl rfl (by decide) ?_
        refine wl_skip (b := true) rfl rfl rfl rfl (by decide) ?_
        refine wl_skip (b := true) rfl rfl rfl rfl (by decide) ?_
        refine wl_skip (b := true) rfl rfl rfl rfl (by decide) ?_
        refine wl_skip (b := true) rfl rfl rfl rfl (by decide) ?_
        refine wl_skip (b := true) rfl rfl rfl rfl (by decide) ?_
        refine wl_q (q_pick rfl rfl rfl) rfl rfl (by decide) ?_
        refine wl_nil ?_
        refine fq_then ?_
        refine wc_true rfl ?_
        refine wc_seq ?_
        refine wc_region ?_
        refine wl_q (q_loadA rfl rfl Mn42 Sz42 rfl (readsAll (i := 1) rfl)) rfl rfl (by decide) ?_
        refine wl_store (i := 2) rfl rfl rfl rfl rfl rfl Sz42 rfl rfl (by simp) (by simp [Value.oneCell']) (by first | (simp only [List.take_succ_cons, List.take_zero, List.take_nil, List.drop_succ_cons, List.drop_zero, List.drop_nil, List.nil_append, List.cons_append, List.append_nil, List.length_cons, List.length_nil, Nat.reduceAdd, Nat.zero_add]; rfl) | rfl) (by first | (simp only [List.set_cons_zero, List.set_cons_succ]; rfl) | rfl) ?_
        refine wl_q (q_assign rfl rfl) rfl rfl (by decide) ?_
        refine wl_q (q_assign rfl rfl) rfl rfl (by decide) ?_
        refine wl_nil ?_
        refine fq_then ?_
        refine wc_ret ?_
        refine fq_then_ret ?_
        refine fq_ctt (i := 2) (.inl rfl) rfl rfl rfl rfl rfl Mn42 Sz42 rfl (fun w1 H => ?_)
        rw [show jget b = ⟨0, 0, [], 0, 11⟩ from by rw [hjg]; unfold jgot gOK; rw [show formB rows = false from (by unfold formB; simp only [Bool.and_eq_false_iff, decide_eq_false_iff_not]; omega)]; rfl]
        exact ⟨(none, 0), rfl, HeapOK.ownNil (H.pick [3] (by decide) rfl) 91 2⟩
      · skip
        have q34 := h34
        try simp only [decide_eq_true_eq, decide_eq_false_iff_not, beq_iff_eq, beq_eq_false_iff_ne, bne_iff_ne, ne_eq, bne_eq_false_iff_eq, Int.not_lt, Int.not_le] at q34
        obtain rfl : pa = some ⟨g, 0, none⟩ := eg (by omega)
        refine wl_want (b := false) (q_move rfl rfl) rfl rfl rfl rfl (by decide) ?_
        refine wl_want (b := false) (q_indexS (off := 0) rfl rfl rfl Tryd.underlying109 Sz9 (by decide) (by omega) rfl) rfl rfl rfl rfl (by decide) ?_
        refine wl_want (b := false) (q_load (v := .string (strOfNums (rows.getD 0 []))) rfl rfl Mn9 (readsOwnN (i := 0) (j := 0) rfl (hrow 0 (by omega)))) rfl rfl rfl rfl (by decide) ?_
        refine wl_want (b := false) (OpQ.to (q_lenS rfl rfl Tryd.underlying9) (show Value.int .i64 (((strOfNums (rows.getD 0 [])).size : Nat) : Int) = .int .i64 (((rows.getD 0 []).length : Nat) : Int) by rw [strOfNums_size])) rfl rfl rfl rfl (by decide) ?_
        refine wl_want (b := false) (q_bin rfl rfl rfl rfl) rfl rfl rfl rfl (by decide) ?_
        refine wl_q (q_pick rfl rfl rfl) rfl rfl (by decide) ?_
        refine wl_q (q_move rfl rfl) rfl rfl (by decide) ?_
        refine wl_split (t := 41) rfl (fun h41 => ?_) (fun h41 => ?_)
        · skip
          have q41 := h41
          try simp only [decide_eq_true_eq, decide_eq_false_iff_not, beq_iff_eq, beq_eq_false_iff_ne, bne_iff_ne, ne_eq, bne_eq_false_iff_eq, Int.not_lt, Int.not_le] at q41
          refine wl_skip (b := true) rfl rfl rfl rfl (by decide) ?_
          refine wl_skip (b := true) rfl rfl rfl rfl (by decide) ?_
          refine wl_skip (b := true) rfl rfl rfl rfl (by decide) ?_
          refine wl_skip (b := true) rfl rfl rfl rfl (by decide) ?_
          refine wl_skip (b := true) rfl rfl rfl rfl (by decide) ?_
          refine wl_q (q_pick rfl rfl rfl) rfl rfl (by decide) ?_
          refine wl_q (q_move rfl rfl) rfl rfl (by decide) ?_
          refine wl_skip (b := true) rfl rfl rfl rfl (by decide) ?_
          refine wl_skip (b := true) rfl rfl rfl rfl (by decide) ?_
          refine wl_skip (b := true) rfl rfl rfl rfl (by decide) ?_
          refine wl_skip (b := true) rfl rfl rfl rfl (by decide) ?_
          refine wl_skip (b := true) rfl rfl rfl rfl (by decide) ?_
          refine wl_skip (b := true) rfl rfl rfl rfl (by decide) ?_
          refine wl_q (q_pick rfl rfl rfl) rfl rfl (by decide) ?_
          refine wl_nil ?_
          refine fq_then ?_
          refine wc_true rfl ?_
          refine wc_seq ?_
          refine wc_region ?_
          refine wl_q (q_loadA rfl rfl Mn42 Sz42 rfl (readsAll (i := 1) rfl)) rfl rfl (by decide) ?_
          refine wl_store (i := 2) rfl rfl rfl rfl rfl rfl Sz42 rfl rfl (by simp) (by simp [Value.oneCell']) (by first | (simp only [List.take_succ_cons, List.take_zero, List.take_nil, List.drop_succ_cons, List.drop_zero, List.drop_nil, List.nil_append, List.cons_append, List.append_nil, List.length_cons, List.length_nil, Nat.reduceAdd, Nat.zero_add]; rfl) | rfl) (by first | (simp only [List.set_cons_zero, List.set_cons_succ]; rfl) | rfl) ?_
          refine wl_q (q_assign rfl rfl) rfl rfl (by decide) ?_
          refine wl_q (q_assign rfl rfl) rfl rfl (by decide) ?_
          refine wl_nil ?_
          refine fq_then ?_
          refine wc_ret ?_
          refine fq_then_ret ?_
          refine fq_ctt (i := 2) (.inl rfl) rfl rfl rfl rfl rfl Mn42 Sz42 rfl (fun w1 H => ?_)
          rw [show jget b = ⟨0, 0, [], 0, 11⟩ from by rw [hjg]; unfold jgot gOK; rw [show formB rows = false from (by unfold formB; simp only [Bool.and_eq_false_iff, decide_eq_false_iff_not]; omega)]; rfl]
          exact ⟨(none, 0), rfl, HeapOK.ownNil (H.pick [3] (by decide) rfl) 91 2⟩
        · skip
          have q41 := h41
          try simp only [decide_eq_true_eq, decide_eq_false_iff_not, beq_iff_eq, beq_eq_false_iff_ne, bne_iff_ne, ne_eq, bne_eq_false_iff_eq, Int.not_lt, Int.not_le] at q41
          refine wl_want (b := false) (q_move rfl rfl) rfl rfl rfl rfl (by decide) ?_
          refine wl_want (b := false) (q_indexS (off := 1) rfl rfl rfl Tryd.underlying109 Sz9 (by decide) (by omega) rfl) rfl rfl rfl rfl (by decide) ?_
          refine wl_want (b := false) (q_load (v := .string (strOfNums (rows.getD 1 []))) rfl rfl Mn9 (readsOwnN (i := 0) (j := 1) rfl (hrow 1 (by omega)))) rfl rfl rfl rfl (by decide) ?_
          refine wl_want (b := false) (OpQ.to (q_lenS rfl rfl Tryd.underlying9) (show Value.int .i64 (((strOfNums (rows.getD 1 [])).size : Nat) : Int) = .int .i64 (((rows.getD 1 []).length : Nat) : Int) by rw [strOfNums_size])) rfl rfl rfl rfl (by decide) ?_
          refine wl_want (b := false) (q_bin rfl rfl rfl rfl) rfl rfl rfl rfl (by decide) ?_
          refine wl_q (q_pick rfl rfl rfl) rfl rfl (by decide) ?_
          refine wl_q (q_move rfl rfl) rfl rfl (by decide) ?_
          refine wl_split (t := 48) rfl (fun h48 => ?_) (fun h48 => ?_)
          · skip
            have q48 := h48
            try simp only [decide_eq_true_eq, decide_eq_false_iff_not, beq_iff_eq, beq_eq_false_iff_ne, bne_iff_ne, ne_eq, bne_eq_false_iff_eq, Int.not_lt, Int.not_le] at q48
            refine wl_skip (b := true) rfl rfl rfl rfl (by decide) ?_
            refine wl_skip (b := true) rfl rfl rfl rfl (by decide) ?_
            refine wl_skip (b := true) rfl rfl rfl rfl (by decide) ?_
            refine wl_skip (b := true) rfl rfl rfl rfl (by decide) ?_
            refine wl_skip (b := true) rfl rfl rfl rfl (by decide) ?_
            refine wl_skip (b := true) rfl rfl rfl rfl (by decide) ?_
            refine wl_q (q_pick rfl rfl rfl) rfl rfl (by decide) ?_
            refine wl_nil ?_
            refine fq_then ?_
            refine wc_true rfl ?_
            refine wc_seq ?_
            refine wc_region ?_
            refine wl_q (q_loadA rfl rfl Mn42 Sz42 rfl (readsAll (i := 1) rfl)) rfl rfl (by decide) ?_
            refine wl_store (i := 2) rfl rfl rfl rfl rfl rfl Sz42 rfl rfl (by simp) (by simp [Value.oneCell']) (by first | (simp only [List.take_succ_cons, List.take_zero, List.take_nil, List.drop_succ_cons, List.drop_zero, List.drop_nil, List.nil_append, List.cons_append, List.append_nil, List.length_cons, List.length_nil, Nat.reduceAdd, Nat.zero_add]; rfl) | rfl) (by first | (simp only [List.set_cons_zero, List.set_cons_succ]; rfl) | rfl) ?_
            refine wl_q (q_assign rfl rfl) rfl rfl (by decide) ?_
            refine wl_q (q_assign rfl rfl) rfl rfl (by decide) ?_
            refine wl_nil ?_
            refine fq_then ?_
            refine wc_ret ?_
            refine fq_then_ret ?_
            refine fq_ctt (i := 2) (.inl rfl) rfl rfl rfl rfl rfl Mn42 Sz42 rfl (fun w1 H => ?_)
            rw [show jget b = ⟨0, 0, [], 0, 11⟩ from by rw [hjg]; unfold jgot gOK; rw [show formB rows = false from (by unfold formB; simp only [Bool.and_eq_false_iff, decide_eq_false_iff_not]; omega)]; rfl]
            exact ⟨(none, 0), rfl, HeapOK.ownNil (H.pick [3] (by decide) rfl) 91 2⟩
          · skip
            have q48 := h48
            try simp only [decide_eq_true_eq, decide_eq_false_iff_not, beq_iff_eq, beq_eq_false_iff_ne, bne_iff_ne, ne_eq, bne_eq_false_iff_eq, Int.not_lt, Int.not_le] at q48
            refine wl_want (b := false) (q_move rfl rfl) rfl rfl rfl rfl (by decide) ?_
            refine wl_want (b := false) (q_indexS (off := 2) rfl rfl rfl Tryd.underlying109 Sz9 (by decide) (by omega) rfl) rfl rfl rfl rfl (by decide) ?_
            refine wl_want (b := false) (q_load (v := .string (strOfNums (rows.getD 2 []))) rfl rfl Mn9 (readsOwnN (i := 0) (j := 2) rfl (hrow 2 (by omega)))) rfl rfl rfl rfl (by decide) ?_
            refine wl_want (b := false) (OpQ.to (q_lenS rfl rfl Tryd.underlying9) (show Value.int .i64 (((strOfNums (rows.getD 2 [])).size : Nat) : Int) = .int .i64 (((rows.getD 2 []).length : Nat) : Int) by rw [strOfNums_size])) rfl rfl rfl rfl (by decide) ?_
            refine wl_want (b := false) (q_rem rfl rfl rfl (by decide)) rfl rfl rfl rfl (by decide) ?_
            refine wl_want (b := false) (q_bin rfl rfl rfl rfl) rfl rfl rfl rfl (by decide) ?_
            refine wl_q (q_pick rfl rfl rfl) rfl rfl (by decide) ?_
            refine wl_nil ?_
            refine fq_then ?_
            refine wc_cond rfl (fun h55 => ?_) (fun h55 => ?_)
            · skip
              have q55 := h55
              try simp only [decide_eq_true_eq, decide_eq_false_iff_not, beq_iff_eq, beq_eq_false_iff_ne, bne_iff_ne, ne_eq, bne_eq_false_iff_eq, Int.not_lt, Int.not_le] at q55
              have e54 : ((rows.getD 2 []).length : Int).tmod 8 = (((rows.getD 2 []).length % 8 : Nat) : Int) := rfl
              try rw [e54] at q55
              refine wc_seq ?_
              refine wc_region ?_
              refine wl_q (q_loadA rfl rfl Mn42 Sz42 rfl (readsAll (i := 1) rfl)) rfl rfl (by decide) ?_
              refine wl_store (i := 2) rfl rfl rfl rfl rfl rfl Sz42 rfl rfl (by simp) (by simp [Value.oneCell']) (by first | (simp only [List.take_succ_cons, List.take_zero, List.take_nil, List.drop_succ_cons, List.drop_zero, List.drop_nil, List.nil_append, List.cons_append, List.append_nil, List.length_cons, List.length_nil, Nat.reduceAdd, Nat.zero_add]; rfl) | rfl) (by first | (simp only [List.set_cons_zero, List.set_cons_succ]; rfl) | rfl) ?_
              refine wl_q (q_assign rfl rfl) rfl rfl (by decide) ?_
              refine wl_q (q_assign rfl rfl) rfl rfl (by decide) ?_
              refine wl_nil ?_
              refine fq_then ?_
              refine wc_ret ?_
              refine fq_then_ret ?_
              refine fq_ctt (i := 2) (.inl rfl) rfl rfl rfl rfl rfl Mn42 Sz42 rfl (fun w1 H => ?_)
              rw [show jget b = ⟨0, 0, [], 0, 11⟩ from by rw [hjg]; unfold jgot gOK; rw [show formB rows = false from (by unfold formB; simp only [Bool.and_eq_false_iff, decide_eq_false_iff_not]; omega)]; rfl]
              exact ⟨(none, 0), rfl, HeapOK.ownNil (H.pick [3] (by decide) rfl) 91 2⟩
            · skip
              have q55 := h55
              try simp only [decide_eq_true_eq, decide_eq_false_iff_not, beq_iff_eq, beq_eq_false_iff_ne, bne_iff_ne, ne_eq, bne_eq_false_iff_eq, Int.not_lt, Int.not_le] at q55
              have e54 : ((rows.getD 2 []).length : Int).tmod 8 = (((rows.getD 2 []).length % 8 : Nat) : Int) := rfl
              have h3 : rows.length = 3 := by omega
              have h0 : (rows.getD 0 []).length = 8 := by omega
              have h1 : (rows.getD 1 []).length = 8 := by omega
              have h2 : (rows.getD 2 []).length % 8 = 0 := by have q := q55; rw [e54] at q; omega
              have hf : formB rows = true := by unfold formB; simp only [h3, h0, h1, h2, decide_true, Bool.and_true]
              have h2l := hrl 2 (by omega)
              have hgl : (gPs rows).length = (rows.getD 2 []).length / 8 := by unfold gPs; rw [List.length_map, List.length_range]
              have hbud : IntKind.i64.wrap (leNum ((rows.getD 1 []).take 4)) = gBud rows := by
                unfold gBud
                show _ = IntKind.i64.wrap ((gets 4 2 (rows.getD 1 [])).getD 0 0)
                rw [gets_at _ _ _ _ (by decide), Nat.zero_mul, List.drop_zero]
              have hmar : IntKind.i64.wrap (leNum (((rows.getD 1 []).drop 4).take 4)) = gMar rows := by
                unfold gMar
                show _ = IntKind.i64.wrap ((gets 4 2 (rows.getD 1 [])).getD 1 0)
                rw [gets_at _ _ _ _ (by decide), Nat.one_mul]
              refine wc_skip ?_
              refine fq_then ?_
              refine wc_seq ?_
              refine wc_any Fol (any_draw1 (ι := Nat) 13 12 10 _ _ (by kernel_rfl) (ChainM.yield (q_move rfl rfl) rfl rfl rfl (ChainM.yield (q_indexS (off := 1) rfl rfl rfl Tryd.underlying109 Sz9 (by decide) (by omega) rfl) rfl rfl rfl (ChainM.yield (q_load (v := .string (strOfNums (rows.getD 1 []))) rfl rfl Mn9 (readsOwnN (i := 0) (j := 1) rfl (hrow 1 (by omega)))) rfl rfl rfl (ChainM.yield (q_call rfl En49 rfl (fun w1 hw1 => rn16_calls 4 (by decide) (by decide) (rows.getD 1 []) (by omega) (hby 1 (by omega)) w1)) rfl rfl rfl (ChainM.yield (q_conv rfl rfl Tryd.underlying53 Tryd.underlying3) rfl rfl rfl (ChainM.yield (q_move rfl rfl) rfl rfl rfl (ChainM.yield (q_indexS (off := 1) rfl rfl rfl Tryd.underlying109 Sz9 (by decide) (by omega) rfl) rfl rfl rfl (ChainM.yield (q_load (v := .string (strOfNums (rows.getD 1 []))) rfl rfl Mn9 (readsOwnN (i := 0) (j := 1) rfl (hrow 1 (by omega)))) rfl rfl rfl (ChainM.yield (OpQ.to (q_strLo (k := .i64) (i := 4) rfl rfl rfl Tryd.underlying9 (by omega) (by rw [strOfNums_size]; omega)) (congrArg Value.string (show (strOfNums (rows.getD 1 [])).extract (4 : Int).toNat (strOfNums (rows.getD 1 [])).size = strOfNums ((rows.getD 1 []).drop (4)) by rw [show (4 : Int).toNat = 4 by omega, str_drop _ _ (by omega)]))) rfl rfl rfl (ChainM.yield (q_call rfl En49 rfl (fun w1 hw1 => rn16_calls 4 (by decide) (by decide) ((rows.getD 1 []).drop 4) (by rw [List.length_drop]; omega) (fun x hx => hby 1 (by omega) x (List.mem_of_mem_drop hx)) w1)) rfl rfl rfl (ChainM.yield (q_conv rfl rfl Tryd.underlying53 Tryd.underlying3) rfl rfl rfl (ChainM.yield (q_build rfl rfl (built_of Zr42 Pl42 (by simp only [fillL, List.map_cons, List.map_nil, Value.cells, List.getElem?_cons_zero, List.getElem?_cons_succ, List.length_cons, List.length_nil, Nat.reduceAdd, Nat.reduceLeDiff, Nat.le_refl, and_self, and_true, true_and, if_true, Nat.zero_add, spl, List.take_succ_cons, List.take_zero, List.take_nil, List.drop_succ_cons, List.drop_zero, List.drop_nil, List.nil_append, List.cons_append, List.append_nil] <;> rfl))) rfl rfl rfl (ChainM.gap rfl (ChainM.nil _ _)))))))))))))) rfl rfl (om_alloc rfl Zr42) (fun b3 => ?_))
              refine wl_store (i := 0) rfl rfl rfl rfl rfl rfl Sz42 rfl rfl (by simp) (by simp [Value.oneCell']) (by first | (simp only [List.take_succ_cons, List.take_zero, List.take_nil, List.drop_succ_cons, List.drop_zero, List.drop_nil, List.nil_append, List.cons_append, List.append_nil, List.length_cons, List.length_nil, Nat.reduceAdd, Nat.zero_add]; rfl) | rfl) (by first | (simp only [List.set_cons_zero, List.set_cons_succ]; rfl) | rfl) ?_
              refine wl_nil ?_
              refine fq_then ?_
              refine wc_seq ?_
              refine wc_seq ?_
              refine wc_region ?_
              refine wl_q (q_assign rfl rfl) rfl rfl (by decide) ?_
              refine wl_nil ?_
              refine fq_then ?_
              refine wc_block ?_
              refine wc_own (E := 91) (sz := 2) ?_
              rw [hbud, hmar]
              refine wc_loop (ι := (Nat × Gh)) (fun i => [(2, .pointer (some ⟨b1, 0, none⟩)), (5, .pointer (some ⟨b2, 0, none⟩)), (8, .slice (some ⟨g, 0, none⟩) rows.length pc), (10, .pointer (some ⟨b3, 0, none⟩)), (11, .int .i64 ((8 * i.1 : Nat) : Int))]) (fun i => [.own 0 91 2 (.slice i.2.1 i.1 i.2.2) i.1 ((((gPs rows).take i.1).map to91).flatMap pc91), .blk b3 [.int .i64 (gBud rows), .int .i64 (gMar rows), .int .i64 0, .slice i.2.1 i.1 i.2.2] 42, .own 0 9 1 (.slice (some ⟨g, 0, none⟩) rows.length pc) rows.length ((rows.map strOfNums).map Value.string), .blk b2 [.int .i64 0, .int .i64 0, .int .i64 0, .slice none 0 0] 42, .blk b1 [.int .i64 0, .int .i64 0, .int .i64 0, .slice none 0 0] 42, old w]) (fun i => i.1 ≤ (rows.getD 2 []).length / 8) (fun i => (rows.getD 2 []).length / 8 - i.1) (0, (none, 0)) (Nat.zero_le _) ⟨List.forall_mem_cons.2 ⟨rfl, List.forall_mem_cons.2 ⟨rfl, List.forall_mem_cons.2 ⟨rfl, List.forall_mem_cons.2 ⟨rfl, List.forall_mem_cons.2 ⟨rfl, fun _ h => (by cases h)⟩⟩⟩⟩⟩, List.Sublist.refl _⟩ ?_
              rintro ⟨j, qw⟩ hj
              simp only at hj
              dsimp only
              refine wc_seq ?_
              refine wc_seq ?_
              refine wc_region ?_
              refine wl_q (q_move rfl rfl) rfl rfl (by decide) ?_
              refine wl_q (q_move rfl rfl) rfl rfl (by decide) ?_
              refine wl_q (q_indexS (off := 2) rfl rfl rfl Tryd.underlying109 Sz9 (by decide) (by omega) rfl) rfl rfl (by decide) ?_
              refine wl_q (q_load (v := .string (strOfNums (rows.getD 2 []))) rfl rfl Mn9 (readsOwnN (i := 2) (j := 2) rfl (hrow 2 (by omega)))) rfl rfl (by decide) ?_
              refine wl_q (OpQ.to (q_lenS rfl rfl Tryd.underlying9) (show Value.int .i64 (((strOfNums (rows.getD 2 [])).size : Nat) : Int) = .int .i64 (((rows.getD 2 []).length : Nat) : Int) by rw [strOfNums_size])) rfl rfl (by decide) ?_
              refine wl_q (q_bin rfl rfl rfl rfl) rfl rfl (by decide) ?_
              refine wl_nil ?_
              refine fq_then ?_
              refine wc_cond rfl (fun h74 => ?_) (fun h74 => ?_)
              · skip
                have q74 := h74
                try simp only [decide_eq_true_eq, decide_eq_false_iff_not, beq_iff_eq, beq_eq_false_iff_ne, bne_iff_ne, ne_eq, bne_eq_false_iff_eq, Int.not_lt, Int.not_le] at q74
                have takeG : (((gPs rows).take (j + 1)).map to91).flatMap pc91 = ((((gPs rows).take j).map to91).flatMap pc91) ++ [Value.int .i64 (IntKind.i64.wrap (leNum (((rows.getD 2 []).drop (8 * j)).take 4))), .int .i64 (IntKind.i64.wrap (leNum (((rows.getD 2 []).drop (8 * j + 4)).take 4)))] := by
                  have hg : (gPs rows)[j]? = some (gP rows j) := by unfold gPs; rw [List.getElem?_map, List.getElem?_range (by omega)]; rfl
                  rw [List.take_add_one (l := gPs rows) (i := j), hg, List.map_append, List.flatMap_append, gP_isw (by omega) (hby 2 (by omega))]
                  rfl
                refine wc_skip ?_
                refine fq_then ?_
                refine wc_seq ?_
                refine wc_block ?_
                refine wc_any Fol (any_drawG (ι := Gh) 22 2 [(18, fun X => [Sx.Item.blk (X 18).2 [Value.int .i64 (IntKind.i64.wrap (leNum (((rows.getD 2 []).drop (8 * j)).take 4))), .int .i64 (IntKind.i64.wrap (leNum (((rows.getD 2 []).drop (8 * j + 4)).take 4)))] 91]), (19, fun X => [Sx.Item.own 0 91 2 (.slice (X 19).1 (j + 1) (X 19).2) (j + 1) (((((gPs rows).take j).map to91).flatMap pc91) ++ [Value.int .i64 (IntKind.i64.wrap (leNum (((rows.getD 2 []).drop (8 * j)).take 4))), .int .i64 (IntKind.i64.wrap (leNum (((rows.getD 2 []).drop (8 * j + 4)).take 4)))])]), (21, fun X => [Sx.Item.blk b3 [.int .i64 (gBud rows), .int .i64 (gMar rows), .int .i64 0, .slice (X 19).1 (j + 1) (X 19).2] 42])] [⟨[], [], []⟩, ⟨[], [22, 23], []⟩, ⟨[], [], []⟩, ⟨[], [], []⟩, ⟨[], [22, 23], []⟩, ⟨[], [], []⟩, ⟨[], [], []⟩, ⟨[], [22, 23], []⟩, ⟨[], [], []⟩, ⟨[], [], []⟩, ⟨[], [], []⟩, ⟨[], [22, 23], []⟩, ⟨[], [], []⟩, ⟨[], [], []⟩, ⟨[], [], []⟩, ⟨[], [22, 23], []⟩, ⟨[], [], []⟩, ⟨[], [], []⟩, ⟨[], [], []⟩, ⟨[18, 22], [], [18]⟩, ⟨[], [], [18, 19]⟩, ⟨[23], [], [18, 19]⟩] (by kernel_rfl) (ChainG.yield [] [] (fun X => q_fa (o1 := 3) rfl rfl Fo42_3 rfl) rfl rfl (fun _ => rfl) (fun _ _ => rfl) (fun X Y h0 h => ⟨by first | rfl | simp only [h0], by first | rfl | simp only [h0]⟩) (ChainG.yield [22, 23] [] (fun X => q_load rfl rfl Mn40 (reads1 (i := 1) rfl rfl)) rfl rfl (fun _ => rfl) (fun _ _ => rfl) (fun X Y h0 h => ⟨by first | rfl | simp only [h0], by first | rfl | simp only [h0]⟩) (ChainG.yield [] [] (fun X => q_move rfl rfl) rfl rfl (fun _ => rfl) (fun _ _ => rfl) (fun X Y h0 h => ⟨by first | rfl | simp only [h0], by first | rfl | simp only [h0]⟩) (ChainG.yield [] [] (fun X => q_indexS (off := 2) rfl rfl rfl Tryd.underlying109 Sz9 (by decide) (by omega) rfl) rfl rfl (fun _ => rfl) (fun _ _ => rfl) (fun X Y h0 h => ⟨by first | rfl | simp only [h0], by first | rfl | simp only [h0]⟩) (ChainG.yield [22, 23] [] (fun X => q_load (v := .string (strOfNums (rows.getD 2 []))) rfl rfl Mn9 (readsOwnN (i := 2) (j := 2) rfl (hrow 2 (by omega)))) rfl rfl (fun _ => rfl) (fun _ _ => rfl) (fun X Y h0 h => ⟨by first | rfl | simp only [h0], by first | rfl | simp only [h0]⟩) (ChainG.yield [] [] (fun X => q_move rfl rfl) rfl rfl (fun _ => rfl) (fun _ _ => rfl) (fun X Y h0 h => ⟨by first | rfl | simp only [h0], by first | rfl | simp only [h0]⟩) (ChainG.yield [] [] (fun X => OpQ.to (q_strLo (k := .i64) (i := ((8 * j : Nat) : Int)) rfl rfl rfl Tryd.underlying9 (by omega) (by rw [strOfNums_size]; omega)) (congrArg Value.string (show (strOfNums (rows.getD 2 [])).extract (((8 * j : Nat) : Int) : Int).toNat (strOfNums (rows.getD 2 [])).size = strOfNums ((rows.getD 2 []).drop (8 * j)) by rw [show (((8 * j : Nat) : Int) : Int).toNat = 8 * j by omega, str_drop _ _ (by omega)]))) rfl rfl (fun _ => rfl) (fun _ _ => rfl) (fun X Y h0 h => ⟨by first | rfl | simp only [h0], by first | rfl | simp only [h0]⟩) (ChainG.yield [22, 23] [] (fun X => q_call rfl En49 rfl (fun w1 hw1 => rn16_calls 4 (by decide) (by decide) ((rows.getD 2 []).drop (8 * j)) (by rw [List.length_drop]; omega) (fun x hx => hby 2 (by omega) x (List.mem_of_mem_drop hx)) w1)) rfl rfl (fun _ => rfl) (fun _ _ => rfl) (fun X Y h0 h => ⟨by first | rfl | simp only [h0], by first | rfl | simp only [h0]⟩) (ChainG.yield [] [] (fun X => q_conv rfl rfl Tryd.underlying53 Tryd.underlying3) rfl rfl (fun _ => rfl) (fun _ _ => rfl) (fun X Y h0 h => ⟨by first | rfl | simp only [h0], by first | rfl | simp only [h0]⟩) (ChainG.yield [] [] (fun X => q_move rfl rfl) rfl rfl (fun _ => rfl) (fun _ _ => rfl) (fun X Y h0 h => ⟨by first | rfl | simp only [h0], by first | rfl | simp only [h0]⟩) (ChainG.yield [] [] (fun X => q_indexS (off := 2) rfl rfl rfl Tryd.underlying109 Sz9 (by decide) (by omega) rfl) rfl rfl (fun _ => rfl) (fun _ _ => rfl) (fun X Y h0 h => ⟨by first | rfl | simp only [h0], by first | rfl | simp only [h0]⟩) (ChainG.yield [22, 23] [] (fun X => q_load (v := .string (strOfNums (rows.getD 2 []))) rfl rfl Mn9 (readsOwnN (i := 2) (j := 2) rfl (hrow 2 (by omega)))) rfl rfl (fun _ => rfl) (fun _ _ => rfl) (fun X Y h0 h => ⟨by first | rfl | simp only [h0], by first | rfl | simp only [h0]⟩) (ChainG.yield [] [] (fun X => q_move rfl rfl) rfl rfl (fun _ => rfl) (fun _ _ => rfl) (fun X Y h0 h => ⟨by first | rfl | simp only [h0], by first | rfl | simp only [h0]⟩) (ChainG.yield [] [] (fun X => OpQ.to (q_bin rfl rfl rfl rfl) (show Value.int .i64 (IntKind.i64.wrap (((8 * j : Nat) : Int) + 4)) = .int .i64 ((8 * j + 4 : Nat) : Int) by rw [wrap_id (by omega)]; rfl)) rfl rfl (fun _ => rfl) (fun _ _ => rfl) (fun X Y h0 h => ⟨by first | rfl | simp only [h0], by first | rfl | simp only [h0]⟩) (ChainG.yield [] [] (fun X => OpQ.to (q_strLo (k := .i64) (i := ((8 * j + 4 : Nat) : Int)) rfl rfl rfl Tryd.underlying9 (by omega) (by rw [strOfNums_size]; omega)) (congrArg Value.string (show (strOfNums (rows.getD 2 [])).extract (((8 * j + 4 : Nat) : Int) : Int).toNat (strOfNums (rows.getD 2 [])).size = strOfNums ((rows.getD 2 []).drop (8 * j + 4)) by rw [show (((8 * j + 4 : Nat) : Int) : Int).toNat = 8 * j + 4 by omega, str_drop _ _ (by omega)]))) rfl rfl (fun _ => rfl) (fun _ _ => rfl) (fun X Y h0 h => ⟨by first | rfl | simp only [h0], by first | rfl | simp only [h0]⟩) (ChainG.yield [22, 23] [] (fun X => q_call rfl En49 rfl (fun w1 hw1 => rn16_calls 4 (by decide) (by decide) ((rows.getD 2 []).drop (8 * j + 4)) (by rw [List.length_drop]; omega) (fun x hx => hby 2 (by omega) x (List.mem_of_mem_drop hx)) w1)) rfl rfl (fun _ => rfl) (fun _ _ => rfl) (fun X Y h0 h => ⟨by first | rfl | simp only [h0], by first | rfl | simp only [h0]⟩) (ChainG.yield [] [] (fun X => q_conv rfl rfl Tryd.underlying53 Tryd.underlying3) rfl rfl (fun _ => rfl) (fun _ _ => rfl) (fun X Y h0 h => ⟨by first | rfl | simp only [h0], by first | rfl | simp only [h0]⟩) (ChainG.yield [] [] (fun X => q_build rfl rfl (built_of Zr91 Pl91 (by simp only [fillL, List.map_cons, List.map_nil, Value.cells, List.getElem?_cons_zero, List.getElem?_cons_succ, List.length_cons, List.length_nil, Nat.reduceAdd, Nat.reduceLeDiff, Nat.le_refl, and_self, and_true, true_and, if_true, Nat.zero_add, spl, List.take_succ_cons, List.take_zero, List.take_nil, List.drop_succ_cons, List.drop_zero, List.drop_nil, List.nil_append, List.cons_append, List.append_nil] <;> rfl))) rfl rfl (fun _ => rfl) (fun _ _ => rfl) (fun X Y h0 h => ⟨by first | rfl | simp only [h0], by first | rfl | simp only [h0]⟩) (ChainG.mk (fun b => .slice (some ⟨b, 0, none⟩) 1 1) [] (fun X => om_buildSlice rfl rfl Tryd.underlying40 (built_one Sz91 (by decide) Zs91 (by decide) rfl rfl)) rfl rfl (fun _ => rfl) (fun _ _ => rfl) (fun X Y h0 h => ⟨by first | rfl | simp only [h0], by first | rfl | (show ([Sx.Item.blk (X 18).2 [Value.int .i64 (IntKind.i64.wrap (leNum (((rows.getD 2 []).drop (8 * j)).take 4))), .int .i64 (IntKind.i64.wrap (leNum (((rows.getD 2 []).drop (8 * j + 4)).take 4)))] 91] : List Sx.Item) = [Sx.Item.blk (Y 18).2 [Value.int .i64 (IntKind.i64.wrap (leNum (((rows.getD 2 []).drop (8 * j)).take 4))), .int .i64 (IntKind.i64.wrap (leNum (((rows.getD 2 []).drop (8 * j + 4)).take 4)))] 91]; simp only [h0])⟩) (ChainG.ope (fun (X : Nat → Gh) => .slice (X 19).1 (j + 1) (X 19).2) [18, 22] [18] (fun X => (oe_appendR (i := 1) (m := 1) (news := [Value.int .i64 (IntKind.i64.wrap (leNum (((rows.getD 2 []).drop (8 * j)).take 4))), .int .i64 (IntKind.i64.wrap (leNum (((rows.getD 2 []).drop (8 * j + 4)).take 4)))]) rfl Tryd.underlying40 Ap91 (by decide) rfl rfl rfl (fun R w1 hw1 _ => ⟨_, rfl, fun k u hu => by (have hg := readsAll (w0 := w) (hp := _) (i := 0) (cs := [Value.int .i64 (IntKind.i64.wrap (leNum (((rows.getD 2 []).drop (8 * j)).take 4))), .int .i64 (IntKind.i64.wrap (leNum (((rows.getD 2 []).drop (8 * j + 4)).take 4)))]) (T := 91) rfl w1 hw1 k u hu; exact hg)⟩) rfl (by simp [Value.oneCell']) (by unfold maxLen; omega) (by omega)).less (fun _ => List.sublist_cons_self _ _)) rfl rfl (fun X Y h0 h => ⟨by first | rfl | (show (.slice (X 19).1 (j + 1) (X 19).2 : Value) = .slice (Y 19).1 (j + 1) (Y 19).2; simp only [h0, h 18 (by decide)]), by first | rfl | (show ([Sx.Item.own 0 91 2 (.slice (X 19).1 (j + 1) (X 19).2) (j + 1) (((((gPs rows).take j).map to91).flatMap pc91) ++ [Value.int .i64 (IntKind.i64.wrap (leNum (((rows.getD 2 []).drop (8 * j)).take 4))), .int .i64 (IntKind.i64.wrap (leNum (((rows.getD 2 []).drop (8 * j + 4)).take 4)))])] : List Sx.Item) = [Sx.Item.own 0 91 2 (.slice (Y 19).1 (j + 1) (Y 19).2) (j + 1) (((((gPs rows).take j).map to91).flatMap pc91) ++ [Value.int .i64 (IntKind.i64.wrap (leNum (((rows.getD 2 []).drop (8 * j)).take 4))), .int .i64 (IntKind.i64.wrap (leNum (((rows.getD 2 []).drop (8 * j + 4)).take 4)))])]; simp only [h0, h 18 (by decide)])⟩) (ChainG.yield [] [18, 19] (fun X => q_fa (o1 := 3) rfl rfl Fo42_3 rfl) rfl rfl (fun _ => rfl) (fun _ _ => rfl) (fun X Y h0 h => ⟨by first | rfl | simp only [h0, h 18 (by decide), h 19 (by decide)], by first | rfl | simp only [h0, h 18 (by decide), h 19 (by decide)]⟩) (ChainG.store [23] [18, 19] (fun X => oe_storeAt (i := 0) rfl rfl rfl rfl Sz40 rfl rfl (by simp) (by simp [Value.oneCell']) rfl rfl) rfl rfl (fun _ => rfl) (fun _ _ => rfl) (fun X Y h0 h => ⟨by first | rfl | simp only [h0, h 18 (by decide), h 19 (by decide)], by first | rfl | (show ([Sx.Item.blk b3 [.int .i64 (gBud rows), .int .i64 (gMar rows), .int .i64 0, .slice (X 19).1 (j + 1) (X 19).2] 42] : List Sx.Item) = [Sx.Item.blk b3 [.int .i64 (gBud rows), .int .i64 (gMar rows), .int .i64 0, .slice (Y 19).1 (j + 1) (Y 19).2] 42]; simp only [h0, h 18 (by decide), h 19 (by decide)])⟩) (ChainG.nil _ _))))))))))))))))))))))) rfl rfl (fun X => [_, _, _, _, _, _]) (fun _ => rfl) (fun X => ?_))
                generalize X 19 = qa
                try dsimp only [List.take_succ_cons, List.take_zero, List.take_nil, List.drop_succ_cons, List.drop_zero, List.drop_nil, List.nil_append, List.cons_append, List.append_nil, List.length_cons, List.length_nil, Nat.reduceAdd, Nat.zero_add]
                refine wl_nil ?_
                refine fq_block ?_
                refine fq_then ?_
                refine wc_region ?_
                refine wl_q (q_move rfl rfl) rfl rfl (by decide) ?_
                refine wl_q (q_bin rfl rfl rfl rfl) rfl rfl (by decide) ?_
                refine wl_q (q_assign rfl rfl) rfl rfl (by decide) ?_
                refine wl_nil ?_
                rw [← takeG]
                refine fq_next (j + 1, qa) (show j + 1 ≤ (rows.getD 2 []).length / 8 by omega) (show (rows.getD 2 []).length / 8 - (j + 1) < (rows.getD 2 []).length / 8 - j by omega) ⟨List.forall_mem_cons.2 ⟨rfl, List.forall_mem_cons.2 ⟨rfl, List.forall_mem_cons.2 ⟨rfl, List.forall_mem_cons.2 ⟨rfl, List.forall_mem_cons.2 ⟨(show some (Value.int .i64 (IntKind.i64.wrap (((8 * j : Nat) : Int) + 8))) = some (Value.int .i64 ((8 * (j + 1) : Nat) : Int)) from by rw [wrap_id (by omega)]; congr 2), fun _ h => (by cases h)⟩⟩⟩⟩⟩, List.Sublist.refl _⟩
              · skip
                have q74 := h74
                try simp only [decide_eq_true_eq, decide_eq_false_iff_not, beq_iff_eq, beq_eq_false_iff_ne, bne_iff_ne, ne_eq, bne_eq_false_iff_eq, Int.not_lt, Int.not_le] at q74
                obtain rfl : j = (gPs rows).length := by omega
                rw [List.take_length]
                refine wc_exit ?_
                refine fq_then_exit ?_
                refine fq_then_exit ?_
                refine fq_block_hit ?_
                refine fq_then ?_
                refine wc_seq ?_
                refine wc_region ?_
                refine wl_q (q_loadA rfl rfl Mn42 Sz42 rfl (readsAll (i := 1) rfl)) rfl rfl (by decide) ?_
                refine wl_q (q_call rfl En50 rfl (fun w1 hw1 => rcheck_calls (gBud rows) (gMar rows) 0 qw (gPs rows) w1 (own91 (hw1.get (i := 0) rfl) (by omega)) (by omega))) rfl rfl (by decide) ?_
                refine wl_q (q_assign rfl rfl) rfl rfl (by decide) ?_
                refine wl_nil ?_
                refine fq_then ?_
                refine wc_seq ?_
                refine wc_seq ?_
                refine wc_region ?_
                refine wl_q (q_move rfl rfl) rfl rfl (by decide) ?_
                refine wl_q (q_not rfl rfl) rfl rfl (by decide) ?_
                refine wl_nil ?_
                refine fq_then ?_
                refine wc_cond rfl (fun h101 => ?_) (fun h101 => ?_)
                · skip
                  have q101 := h101
                  try simp only [decide_eq_true_eq, decide_eq_false_iff_not, beq_iff_eq, beq_eq_false_iff_ne, bne_iff_ne, ne_eq, bne_eq_false_iff_eq, Int.not_lt, Int.not_le] at q101
                  refine wc_seq ?_
                  refine wc_region ?_
                  refine wl_q (q_loadA rfl rfl Mn42 Sz42 rfl (readsAll (i := 3) rfl)) rfl rfl (by decide) ?_
                  refine wl_store (i := 4) rfl rfl rfl rfl rfl rfl Sz42 rfl rfl (by simp) (by simp [Value.oneCell']) (by first | (simp only [List.take_succ_cons, List.take_zero, List.take_nil, List.drop_succ_cons, List.drop_zero, List.drop_nil, List.nil_append, List.cons_append, List.append_nil, List.length_cons, List.length_nil, Nat.reduceAdd, Nat.zero_add]; rfl) | rfl) (by first | (simp only [List.set_cons_zero, List.set_cons_succ]; rfl) | rfl) ?_
                  refine wl_q (q_assign rfl rfl) rfl rfl (by decide) ?_
                  refine wl_q (q_assign rfl rfl) rfl rfl (by decide) ?_
                  refine wl_nil ?_
                  refine fq_then ?_
                  refine wc_ret ?_
                  refine fq_then_ret ?_
                  refine fq_ctt (i := 4) (.inl rfl) rfl rfl rfl rfl rfl Mn42 Sz42 rfl (fun w1 H => ?_)
                  rw [show jget b = ⟨0, 0, [], 0, 11⟩ from by rw [hjg]; unfold jgot gOK; rw [show PChk.chkB (gBud rows) (gMar rows) 0 (gPs rows) = false by simpa using h101, Bool.and_false]; rfl]
                  exact ⟨(none, 0), rfl, HeapOK.ownNil (H.pick [5] (by decide) rfl) 91 2⟩
                · skip
                  have q101 := h101
                  try simp only [decide_eq_true_eq, decide_eq_false_iff_not, beq_iff_eq, beq_eq_false_iff_ne, bne_iff_ne, ne_eq, bne_eq_false_iff_eq, Int.not_lt, Int.not_le] at q101
                  refine wc_skip ?_
                  refine fq_then ?_
                  refine wc_seq ?_
                  have hck : PChk.chkB (gBud rows) (gMar rows) 0 (gPs rows) = true := by simpa using h101
                  refine wc_pick [4, 0, 1, 2, 3, 5] (by decide) rfl ?_
                  refine wc_draw 5 Fol (by kernel_rfl) (Chain.yield (q_loadA rfl rfl Mn42 Sz42 rfl (readsAll (i := 2) rfl)) rfl rfl (Chain.yield (q_move rfl rfl) rfl rfl (Chain.yield (q_indexS (off := 0) rfl rfl rfl Tryd.underlying109 Sz9 (by decide) (by omega) rfl) rfl rfl (Chain.yield (q_load (v := .string (strOfNums (rows.getD 0 []))) rfl rfl Mn9 (readsOwnN (i := 3) (j := 0) rfl (hrow 0 (by omega)))) rfl rfl (Chain.yield (OpQ.to (q_call rfl En49 rfl (fun w1 hw1 => rn16_calls 8 (by decide) (by decide) (rows.getD 0 []) (by omega) (hby 0 (by omega)) w1)) (congrArg (Value.int .u64) (show leNum ((rows.getD 0 []).take 8) = gSeq rows by unfold gSeq; show _ = (gets 8 1 (rows.getD 0 [])).getD 0 0; rw [gets_at _ _ _ _ (by decide), Nat.zero_mul, List.drop_zero]))) rfl rfl (Chain.nil _)))))) ?_
                  refine wl_store (i := 0) rfl rfl rfl rfl rfl rfl Sz42 rfl rfl (by simp) (by simp [Value.oneCell']) (by first | (simp only [List.take_succ_cons, List.take_zero, List.take_nil, List.drop_succ_cons, List.drop_zero, List.drop_nil, List.nil_append, List.cons_append, List.append_nil, List.length_cons, List.length_nil, Nat.reduceAdd, Nat.zero_add]; rfl) | rfl) (by first | (simp only [List.set_cons_zero, List.set_cons_succ]; rfl) | rfl) ?_
                  refine wl_q (q_assign rfl rfl) rfl rfl (by decide) ?_
                  refine wl_q (q_assign rfl rfl) rfl rfl (by decide) ?_
                  refine wl_nil ?_
                  refine fq_then ?_
                  refine wc_ret ?_
                  refine fq_ctt (i := 0) (.inl rfl) rfl rfl rfl rfl rfl Mn42 Sz42 rfl (fun w1 H => ?_)
                  rw [show jget b = ⟨gBud rows, gMar rows, gPs rows, gSeq rows, 0⟩ from by rw [hjg]; unfold jgot gOK; rw [hf, hck]; rfl]
                  exact ⟨qw, rfl, H.pick [1, 5] (by decide) rfl⟩
end Go.Proofs.YtbcijmpkmmcdeaaDoor.SF
end
section
namespace Go.Proofs.YtbcijmpkmmcdeaaDoor.SF
open Go.RowKit Go.Sx Go.Proofs.YtbcijmpkmmcdeaaDoor.PAll Go.Proofs.YtbcijmpkmmcdeaaDoorW.PrintWords Go.Proofs.YtbcijmpkmmcdeaaDoorW.PrintLast Go.Proofs.YtbcijmpkmmcdeaaDoorW.PrintMore
set_option linter.unusedVariables false
set_option linter.unusedSimpArgs false
set_option maxRecDepth 100000
def jcnt (i : Int) (b : List Int) : JL := if (jget b).err = 0 ∧ Int.tmod (jget b).seq 2 = i then ⟨(jget b).bud, (jget b).mar, (jget b).ps, (jget b).seq⟩ else ⟨0, 0, [], 0⟩
theorem jload_cnt {a b : List Int} (hA : Bytes a) (hB : Bytes b) : jload a b = if (jcnt 0 a).seq > (jcnt 1 b).seq then jcnt 0 a else jcnt 1 b := by
  have sa := jget_seq hA
  have sb := jget_seq hB
  have hb0 : (jget b).err = 0 ∧ Int.tmod (jget b).seq 2 = 1 → (0 : Int) < (jget b).seq := fun h2 => by
    have : (jget b).seq ≠ 0 := fun e => by rw [e] at h2; exact absurd h2.2 (by decide)
    omega
  have h00 : ∀ i, jone i b ⟨0, 0, [], 0⟩ = if (jget b).err = 0 ∧ Int.tmod (jget b).seq 2 = i ∧ (0 : Int) < (jget b).seq then ⟨(jget b).bud, (jget b).mar, (jget b).ps, (jget b).seq⟩ else ⟨0, 0, [], 0⟩ := fun _ => rfl
  unfold jload
  by_cases h2 : (jget b).err = 0 ∧ Int.tmod (jget b).seq 2 = 1
  · have hb1 := hb0 h2
    rw [show jcnt 1 b = ⟨(jget b).bud, (jget b).mar, (jget b).ps, (jget b).seq⟩ from if_pos h2]
    by_cases h1 : (jget a).err = 0 ∧ Int.tmod (jget a).seq 2 = 0
    · rw [show jcnt 0 a = ⟨(jget a).bud, (jget a).mar, (jget a).ps, (jget a).seq⟩ from if_pos h1]
      by_cases hc : (jget a).seq > (jget b).seq
      · rw [show jone 0 a ⟨0, 0, [], 0⟩ = ⟨(jget a).bud, (jget a).mar, (jget a).ps, (jget a).seq⟩ from if_pos ⟨h1.1, h1.2, show (0 : Int) < (jget a).seq by omega⟩]
        rw [if_pos hc]
        exact if_neg (fun x => absurd (show (jget a).seq < (jget b).seq from x.2.2) (by omega))
      · have hne : (jget a).seq ≠ (jget b).seq := fun e => by rw [e, h2.2] at h1; exact absurd h1.2 (by decide)
        rw [if_neg hc]
        by_cases hz : (0 : Int) < (jget a).seq
        · rw [show jone 0 a ⟨0, 0, [], 0⟩ = ⟨(jget a).bud, (jget a).mar, (jget a).ps, (jget a).seq⟩ from if_pos ⟨h1.1, h1.2, hz⟩]
          exact if_pos ⟨h2.1, h2.2, show (jget a).seq < (jget b).seq by omega⟩
        · rw [show jone 0 a ⟨0, 0, [], 0⟩ = ⟨0, 0, [], 0⟩ from if_neg (fun x => hz x.2.2)]
          exact if_pos ⟨h2.1, h2.2, hb1⟩
    · rw [show jcnt 0 a = ⟨0, 0, [], 0⟩ from if_neg h1, if_neg (show ¬ (0 : Int) > (jget b).seq by omega), show jone 0 a ⟨0, 0, [], 0⟩ = ⟨0, 0, [], 0⟩ from if_neg (fun x => h1 ⟨x.1, x.2.1⟩)]
      exact if_pos ⟨h2.1, h2.2, hb1⟩
  · rw [show jcnt 1 b = ⟨0, 0, [], 0⟩ from if_neg h2]
    by_cases h1 : (jget a).err = 0 ∧ Int.tmod (jget a).seq 2 = 0
    · rw [show jcnt 0 a = ⟨(jget a).bud, (jget a).mar, (jget a).ps, (jget a).seq⟩ from if_pos h1]
      by_cases hz : (0 : Int) < (jget a).seq
      · rw [show jone 0 a ⟨0, 0, [], 0⟩ = ⟨(jget a).bud, (jget a).mar, (jget a).ps, (jget a).seq⟩ from if_pos ⟨h1.1, h1.2, hz⟩, if_pos (show (jget a).seq > 0 from hz)]
        exact if_neg (fun x => h2 ⟨x.1, x.2.1⟩)
      · rw [show jone 0 a ⟨0, 0, [], 0⟩ = ⟨0, 0, [], 0⟩ from if_neg (fun x => hz x.2.2), if_neg (show ¬ (jget a).seq > 0 from hz)]
        exact if_neg (fun x => h2 ⟨x.1, x.2.1⟩)
    · rw [show jcnt 0 a = ⟨0, 0, [], 0⟩ from if_neg h1, if_neg (by decide), show jone 0 a ⟨0, 0, [], 0⟩ = ⟨0, 0, [], 0⟩ from if_neg (fun x => h1 ⟨x.1, x.2.1⟩)]
      exact if_neg (fun x => h2 ⟨x.1, x.2.1⟩)
set_option maxHeartbeats 1000000 in
theorem rcounts_calls {b : List Int} (hB : Bytes b) (p : Int) (w : World) : Calls Tryd.prog 57 #[.string (strOfNums b), .int .u64 p] w fun e w' => ∃ i : Gh, e = .returned (.tuple #[.agg #[.int .i64 (jcnt p b).bud, .int .i64 (jcnt p b).mar, .int .i64 0, .slice i.1 (jcnt p b).ps.length i.2], .int .u64 (jcnt p b).seq]) ∧ HeapOK w [.own 0 91 2 (.slice i.1 (jcnt p b).ps.length i.2) (jcnt p b).ps.length (((jcnt p b).ps.map to91).flatMap pc91), old w] w' := by
  refine enter (w0 := w) (hp := [old w]) (env := [(0, .string (strOfNums b)), (1, .int .u64 p)]) Tryd.func57 rfl 26 rfl (by simp) rfl (HeapOK.start _) ?_
  refine wc_seq ?_
  refine wc_region ?_
  refine wl_alloc rfl rfl rfl (by decide) Zr42 (fun b1 => ?_)
  refine wl_q (q_assign rfl rfl) rfl rfl (by decide) ?_
  refine wl_nil ?_
  refine fq_then ?_
  refine wc_seq ?_
  refine wc_region ?_
  refine wl_q (q_move rfl rfl) rfl rfl (by decide) ?_
  refine wl_call (ι := Gh) (fun i => .tuple #[.agg #[.int .i64 (jget b).bud, .int .i64 (jget b).mar, .int .i64 0, .slice i.1 (jget b).ps.length i.2], .int .u64 (jget b).seq, .int .i64 (jget b).err]) (fun i => .own 0 91 2 (.slice i.1 ((jget b)).ps.length i.2) ((jget b)).ps.length ((((jget b)).ps.map to91).flatMap pc91) :: _) (fun _ => True) rfl rfl rfl (by decide) En24 rfl (fun w1 hw1 => (rget_calls hB w1).mono (fun e w' ⟨i, h1, h2⟩ => ⟨i, trivial, h1, hw1.lift1 h2⟩)) (fun g _ => ?_)
  refine wl_q (q_move rfl rfl) rfl rfl (by decide) ?_
  refine wl_q (q_extract rfl rfl rfl) rfl rfl (by decide) ?_
  refine wl_q (q_extract rfl rfl rfl) rfl rfl (by decide) ?_
  refine wl_q (q_extract rfl rfl rfl) rfl rfl (by decide) ?_
  refine wl_alloc rfl rfl rfl (by decide) Zr42 (fun b2 => ?_)
  refine wl_store (i := 0) rfl rfl rfl rfl rfl rfl Sz42 rfl rfl (by simp) (by simp [Value.oneCell']) (by first | (simp only [List.take_succ_cons, List.take_zero, List.take_nil, List.drop_succ_cons, List.drop_zero, List.drop_nil, List.nil_append, List.cons_append, List.append_nil, List.length_cons, List.length_nil, Nat.reduceAdd, Nat.zero_add]; rfl) | rfl) (by first | (simp only [List.set_cons_zero, List.set_cons_succ]; rfl) | rfl) ?_
  refine wl_q (q_assign rfl rfl) rfl rfl (by decide) ?_
  refine wl_q (q_assign rfl rfl) rfl rfl (by decide) ?_
  refine wl_nil ?_
  refine fq_then ?_
  refine wc_seq ?_
  refine wc_seq ?_
  refine wc_region ?_
  refine wl_q (q_move rfl rfl) rfl rfl (by decide) ?_
  refine wl_q (q_bin rfl rfl rfl rfl) rfl rfl (by decide) ?_
  refine wl_q (q_move rfl rfl) rfl rfl (by decide) ?_
  refine wl_split (t := 17) rfl (fun h17 => ?_) (fun h17 => ?_)
  · skip
    have q17 := h17
    try simp only [decide_eq_true_eq, decide_eq_false_iff_not, beq_iff_eq, beq_eq_false_iff_ne, bne_iff_ne, ne_eq, bne_eq_false_iff_eq, Int.not_lt, Int.not_le] at q17
    refine wl_skip (b := true) rfl rfl rfl rfl (by decide) ?_
    refine wl_skip (b := true) rfl rfl rfl rfl (by decide) ?_
    refine wl_skip (b := true) rfl rfl rfl rfl (by decide) ?_
    refine wl_skip (b := true) rfl rfl rfl rfl (by decide) ?_
    refine wl_q (q_pick rfl rfl rfl) rfl rfl (by decide) ?_
    refine wl_nil ?_
    refine fq_then ?_
    refine wc_true rfl ?_
    refine wc_seq ?_
    refine wc_region ?_
    refine wl_q (q_build rfl rfl (built_of Zr42 Pl42 (by simp only [fillL, List.map_cons, List.map_nil, Value.cells, List.getElem?_cons_zero, List.getElem?_cons_succ, List.length_cons, List.length_nil, Nat.reduceAdd, Nat.reduceLeDiff, Nat.le_refl, and_self, and_true, true_and, if_true, Nat.zero_add, spl, List.take_succ_cons, List.take_zero, List.take_nil, List.drop_succ_cons, List.drop_zero, List.drop_nil, List.nil_append, List.cons_append, List.append_nil] <;> rfl))) rfl rfl (by decide) ?_
    refine wl_store (i := 2) rfl rfl rfl rfl rfl rfl Sz42 rfl rfl (by simp) (by simp [Value.oneCell']) (by first | (simp only [List.take_succ_cons, List.take_zero, List.take_nil, List.drop_succ_cons, List.drop_zero, List.drop_nil, List.nil_append, List.cons_append, List.append_nil, List.length_cons, List.length_nil, Nat.reduceAdd, Nat.zero_add]; rfl) | rfl) (by first | (simp only [List.set_cons_zero, List.set_cons_succ]; rfl) | rfl) ?_
    refine wl_q (q_assign rfl rfl) rfl rfl (by decide) ?_
    refine wl_nil ?_
    refine fq_then ?_
    refine wc_ret ?_
    refine fq_then_ret ?_
    refine fq_cell_tmp (i := 2) (.inl rfl) rfl rfl rfl rfl Mn42 Sz42 rfl (fun w1 H => ?_)
    rw [show jcnt p b = ⟨0, 0, [], 0⟩ from if_neg (fun h => by simp_all)]
    exact ⟨(none, 0), rfl, HeapOK.ownNil (H.pick [3] (by decide) rfl) 91 2⟩
  · skip
    have q17 := h17
    try simp only [decide_eq_true_eq, decide_eq_false_iff_not, beq_iff_eq, beq_eq_false_iff_ne, bne_iff_ne, ne_eq, bne_eq_false_iff_eq, Int.not_lt, Int.not_le] at q17
    refine wl_want (b := false) (q_move rfl rfl) rfl rfl rfl rfl (by decide) ?_
    refine wl_want (b := false) (q_rem rfl rfl rfl (by decide)) rfl rfl rfl rfl (by decide) ?_
    refine wl_want (b := false) (q_move rfl rfl) rfl rfl rfl rfl (by decide) ?_
    refine wl_want (b := false) (q_bin rfl rfl rfl rfl) rfl rfl rfl rfl (by decide) ?_
    refine wl_q (q_pick rfl rfl rfl) rfl rfl (by decide) ?_
    refine wl_nil ?_
    refine fq_then ?_
    refine wc_cond rfl (fun h22 => ?_) (fun h22 => ?_)
    · skip
      have q22 := h22
      try simp only [decide_eq_true_eq, decide_eq_false_iff_not, beq_iff_eq, beq_eq_false_iff_ne, bne_iff_ne, ne_eq, bne_eq_false_iff_eq, Int.not_lt, Int.not_le] at q22
      refine wc_seq ?_
      refine wc_region ?_
      refine wl_q (q_build rfl rfl (built_of Zr42 Pl42 (by simp only [fillL, List.map_cons, List.map_nil, Value.cells, List.getElem?_cons_zero, List.getElem?_cons_succ, List.length_cons, List.length_nil, Nat.reduceAdd, Nat.reduceLeDiff, Nat.le_refl, and_self, and_true, true_and, if_true, Nat.zero_add, spl, List.take_succ_cons, List.take_zero, List.take_nil, List.drop_succ_cons, List.drop_zero, List.drop_nil, List.nil_append, List.cons_append, List.append_nil] <;> rfl))) rfl rfl (by decide) ?_
      refine wl_store (i := 2) rfl rfl rfl rfl rfl rfl Sz42 rfl rfl (by simp) (by simp [Value.oneCell']) (by first | (simp only [List.take_succ_cons, List.take_zero, List.take_nil, List.drop_succ_cons, List.drop_zero, List.drop_nil, List.nil_append, List.cons_append, List.append_nil, List.length_cons, List.length_nil, Nat.reduceAdd, Nat.zero_add]; rfl) | rfl) (by first | (simp only [List.set_cons_zero, List.set_cons_succ]; rfl) | rfl) ?_
      refine wl_q (q_assign rfl rfl) rfl rfl (by decide) ?_
      refine wl_nil ?_
      refine fq_then ?_
      refine wc_ret ?_
      refine fq_then_ret ?_
      refine fq_cell_tmp (i := 2) (.inl rfl) rfl rfl rfl rfl Mn42 Sz42 rfl (fun w1 H => ?_)
      rw [show jcnt p b = ⟨0, 0, [], 0⟩ from if_neg (fun h => by simp_all)]
      exact ⟨(none, 0), rfl, HeapOK.ownNil (H.pick [3] (by decide) rfl) 91 2⟩
    · skip
      have q22 := h22
      try simp only [decide_eq_true_eq, decide_eq_false_iff_not, beq_iff_eq, beq_eq_false_iff_ne, bne_iff_ne, ne_eq, bne_eq_false_iff_eq, Int.not_lt, Int.not_le] at q22
      refine wc_skip ?_
      refine fq_then ?_
      refine wc_seq ?_
      refine wc_region ?_
      refine wl_q (q_loadA rfl rfl Mn42 Sz42 rfl (readsAll (i := 0) rfl)) rfl rfl (by decide) ?_
      refine wl_q (q_move rfl rfl) rfl rfl (by decide) ?_
      refine wl_store (i := 2) rfl rfl rfl rfl rfl rfl Sz42 rfl rfl (by simp) (by simp [Value.oneCell']) (by first | (simp only [List.take_succ_cons, List.take_zero, List.take_nil, List.drop_succ_cons, List.drop_zero, List.drop_nil, List.nil_append, List.cons_append, List.append_nil, List.length_cons, List.length_nil, Nat.reduceAdd, Nat.zero_add]; rfl) | rfl) (by first | (simp only [List.set_cons_zero, List.set_cons_succ]; rfl) | rfl) ?_
      refine wl_q (q_assign rfl rfl) rfl rfl (by decide) ?_
      refine wl_nil ?_
      refine fq_then ?_
      refine wc_ret ?_
      refine fq_cell_tmp (i := 2) (.inl rfl) rfl rfl rfl rfl Mn42 Sz42 rfl (fun w1 H => ?_)
      rw [show jcnt p b = ⟨(jget b).bud, (jget b).mar, (jget b).ps, (jget b).seq⟩ from if_pos ⟨by simp_all, by simp_all⟩]
      exact ⟨g, rfl, H.pick [1, 3] (by decide) rfl⟩
set_option maxHeartbeats 1000000 in
theorem rload_calls {a b : List Int} (hA : Bytes a) (hB : Bytes b) (la : Int) (wa : ByteArray) (w : World) : Calls Tryd.prog 29 #[.agg #[.string (strOfNums a), .string (strOfNums b), .int .i64 la, .string wa]] w fun e w' => ∃ i : Gh, e = .returned (.tuple #[.agg #[.int .i64 (jload a b).bud, .int .i64 (jload a b).mar, .int .i64 0, .slice i.1 (jload a b).ps.length i.2], .int .u64 (jload a b).seq, .bool (decide (0 < (jload a b).seq))]) ∧ HeapOK w [.own 0 91 2 (.slice i.1 (jload a b).ps.length i.2) (jload a b).ps.length (((jload a b).ps.map to91).flatMap pc91), old w] w' := by
  have hc0 : 0 ≤ (jcnt 0 a).seq := by unfold jcnt; split; exact jget_seq hA; exact Int.le_refl 0
  have hc1 : 0 ≤ (jcnt 1 b).seq := by unfold jcnt; split; exact jget_seq hB; exact Int.le_refl 0
  refine enter (w0 := w) (hp := [old w]) (env := [(0, .agg #[.string (strOfNums a), .string (strOfNums b), .int .i64 la, .string wa])]) Tryd.func29 rfl 30 rfl (by simp) rfl (HeapOK.start _) ?_
  refine wc_seq ?_
  refine wc_region ?_
  refine wl_box rfl rfl rfl (by decide) rfl rfl (fun b1 => ?_)
  refine wl_alloc rfl rfl rfl (by decide) Zr42 (fun b2 => ?_)
  refine wl_q (q_assign rfl rfl) rfl rfl (by decide) ?_
  refine wl_q (q_assign rfl rfl) rfl rfl (by decide) ?_
  refine wl_nil ?_
  refine fq_then ?_
  refine wc_seq ?_
  refine wc_region ?_
  refine wl_q (q_fa (o1 := 0) rfl rfl Fo46_0 rfl) rfl rfl (by decide) ?_
  refine wl_q (q_load rfl rfl Mn9 (reads1 (i := 1) rfl rfl)) rfl rfl (by decide) ?_
  refine wl_call (ι := Gh) (fun i => .tuple #[.agg #[.int .i64 (jcnt 0 a).bud, .int .i64 (jcnt 0 a).mar, .int .i64 0, .slice i.1 (jcnt 0 a).ps.length i.2], .int .u64 (jcnt 0 a).seq]) (fun i => .own 0 91 2 (.slice i.1 ((jcnt 0 a)).ps.length i.2) ((jcnt 0 a)).ps.length ((((jcnt 0 a)).ps.map to91).flatMap pc91) :: _) (fun _ => True) rfl rfl rfl (by decide) En57 rfl (fun w1 hw1 => (rcounts_calls hA 0 w1).mono (fun e w' ⟨i, h1, h2⟩ => ⟨i, trivial, h1, hw1.lift1 h2⟩)) (fun ga _ => ?_)
  refine wl_q (q_move rfl rfl) rfl rfl (by decide) ?_
  refine wl_q (q_extract rfl rfl rfl) rfl rfl (by decide) ?_
  refine wl_q (q_extract rfl rfl rfl) rfl rfl (by decide) ?_
  refine wl_alloc rfl rfl rfl (by decide) Zr42 (fun b3 => ?_)
  refine wl_store (i := 0) rfl rfl rfl rfl rfl rfl Sz42 rfl rfl (by simp) (by simp [Value.oneCell']) (by first | (simp only [List.take_succ_cons, List.take_zero, List.take_nil, List.drop_succ_cons, List.drop_zero, List.drop_nil, List.nil_append, List.cons_append, List.append_nil, List.length_cons, List.length_nil, Nat.reduceAdd, Nat.zero_add]; rfl) | rfl) (by first | (simp only [List.set_cons_zero, List.set_cons_succ]; rfl) | rfl) ?_
  refine wl_q (q_assign rfl rfl) rfl rfl (by decide) ?_
  refine wl_nil ?_
  refine fq_then ?_
  refine wc_seq ?_
  refine wc_region ?_
  refine wl_q (q_fa (o1 := 1) rfl rfl Fo46_1 rfl) rfl rfl (by decide) ?_
  refine wl_q (q_load rfl rfl Mn9 (reads1 (i := 3) rfl rfl)) rfl rfl (by decide) ?_
  refine wl_call (ι := Gh) (fun i => .tuple #[.agg #[.int .i64 (jcnt 1 b).bud, .int .i64 (jcnt 1 b).mar, .int .i64 0, .slice i.1 (jcnt 1 b).ps.length i.2], .int .u64 (jcnt 1 b).seq]) (fun i => .own 0 91 2 (.slice i.1 ((jcnt 1 b)).ps.length i.2) ((jcnt 1 b)).ps.length ((((jcnt 1 b)).ps.map to91).flatMap pc91) :: _) (fun _ => True) rfl rfl rfl (by decide) En57 rfl (fun w1 hw1 => (rcounts_calls hB 1 w1).mono (fun e w' ⟨i, h1, h2⟩ => ⟨i, trivial, h1, hw1.lift1 h2⟩)) (fun gb _ => ?_)
  refine wl_q (q_move rfl rfl) rfl rfl (by decide) ?_
  refine wl_q (q_extract rfl rfl rfl) rfl rfl (by decide) ?_
  refine wl_q (q_extract rfl rfl rfl) rfl rfl (by decide) ?_
  refine wl_alloc rfl rfl rfl (by decide) Zr42 (fun b4 => ?_)
  refine wl_store (i := 0) rfl rfl rfl rfl rfl rfl Sz42 rfl rfl (by simp) (by simp [Value.oneCell']) (by first | (simp only [List.take_succ_cons, List.take_zero, List.take_nil, List.drop_succ_cons, List.drop_zero, List.drop_nil, List.nil_append, List.cons_append, List.append_nil, List.length_cons, List.length_nil, Nat.reduceAdd, Nat.zero_add]; rfl) | rfl) (by first | (simp only [List.set_cons_zero, List.set_cons_succ]; rfl) | rfl) ?_
  refine wl_q (q_assign rfl rfl) rfl rfl (by decide) ?_
  refine wl_nil ?_
  refine fq_then ?_
  refine wc_seq ?_
  refine wc_seq ?_
  refine wc_region ?_
  refine wl_q (q_move rfl rfl) rfl rfl (by decide) ?_
  refine wl_q (q_move rfl rfl) rfl rfl (by decide) ?_
  refine wl_q (q_bin rfl rfl rfl rfl) rfl rfl (by decide) ?_
  refine wl_nil ?_
  refine fq_then ?_
  refine wc_cond rfl (fun h23 => ?_) (fun h23 => ?_)
  · skip
    have q23 := h23
    try simp only [decide_eq_true_eq, decide_eq_false_iff_not, beq_iff_eq, beq_eq_false_iff_ne, bne_iff_ne, ne_eq, bne_eq_false_iff_eq, Int.not_lt, Int.not_le] at q23
    have hj : jload a b = jcnt 0 a := by rw [jload_cnt hA hB]; exact if_pos (by omega)
    refine wc_seq ?_
    refine wc_region ?_
    refine wl_q (q_loadA rfl rfl Mn42 Sz42 rfl (readsAll (i := 2) rfl)) rfl rfl (by decide) ?_
    refine wl_q (q_move rfl rfl) rfl rfl (by decide) ?_
    refine wl_store (i := 4) rfl rfl rfl rfl rfl rfl Sz42 rfl rfl (by simp) (by simp [Value.oneCell']) (by first | (simp only [List.take_succ_cons, List.take_zero, List.take_nil, List.drop_succ_cons, List.drop_zero, List.drop_nil, List.nil_append, List.cons_append, List.append_nil, List.length_cons, List.length_nil, Nat.reduceAdd, Nat.zero_add]; rfl) | rfl) (by first | (simp only [List.set_cons_zero, List.set_cons_succ]; rfl) | rfl) ?_
    refine wl_q (q_assign rfl rfl) rfl rfl (by decide) ?_
    refine wl_q (q_assign rfl rfl) rfl rfl (by decide) ?_
    refine wl_nil ?_
    refine fq_then ?_
    refine wc_ret ?_
    refine fq_then_ret ?_
    refine fq_ctt (i := 4) (.inl rfl) rfl rfl rfl rfl rfl Mn42 Sz42 rfl (fun w1 H => ?_)
    rw [hj, decide_eq_true (show (0 : Int) < (jcnt 0 a).seq by omega)]
    exact ⟨ga, rfl, H.pick [3, 6] (by decide) rfl⟩
  · skip
    have q23 := h23
    try simp only [decide_eq_true_eq, decide_eq_false_iff_not, beq_iff_eq, beq_eq_false_iff_ne, bne_iff_ne, ne_eq, bne_eq_false_iff_eq, Int.not_lt, Int.not_le] at q23
    have hj : jload a b = jcnt 1 b := by rw [jload_cnt hA hB]; exact if_neg (by omega)
    refine wc_skip ?_
    refine fq_then ?_
    refine wc_seq ?_
    refine wc_region ?_
    refine wl_q (q_loadA rfl rfl Mn42 Sz42 rfl (readsAll (i := 0) rfl)) rfl rfl (by decide) ?_
    refine wl_q (q_move rfl rfl) rfl rfl (by decide) ?_
    refine wl_q (q_move rfl rfl) rfl rfl (by decide) ?_
    refine wl_q (q_bin rfl rfl rfl rfl) rfl rfl (by decide) ?_
    refine wl_store (i := 4) rfl rfl rfl rfl rfl rfl Sz42 rfl rfl (by simp) (by simp [Value.oneCell']) (by first | (simp only [List.take_succ_cons, List.take_zero, List.take_nil, List.drop_succ_cons, List.drop_zero, List.drop_nil, List.nil_append, List.cons_append, List.append_nil, List.length_cons, List.length_nil, Nat.reduceAdd, Nat.zero_add]; rfl) | rfl) (by first | (simp only [List.set_cons_zero, List.set_cons_succ]; rfl) | rfl) ?_
    refine wl_q (q_assign rfl rfl) rfl rfl (by decide) ?_
    refine wl_q (q_assign rfl rfl) rfl rfl (by decide) ?_
    refine wl_nil ?_
    refine fq_then ?_
    refine wc_ret ?_
    refine fq_ctt (i := 4) (.inl rfl) rfl rfl rfl rfl rfl Mn42 Sz42 rfl (fun w1 H => ?_)
    rw [hj]
    exact ⟨gb, rfl, H.pick [1, 6] (by decide) rfl⟩
end Go.Proofs.YtbcijmpkmmcdeaaDoor.SF
end
section
namespace Go.Sx
open Go.RowKit
set_option linter.unusedVariables false
set_option linter.unusedSimpArgs false
def tailAt : Nat → Code → Code
  | 0, c => c
  | n + 1, .seq _ y => tailAt n y
  | _ + 1, c => c
section
variable {P : Program} {ops : Array Oper} {Q : Exit → Act → World → Prop} {w0 : World} {N : Fr} {l : List Oper} {env : Env} {hp : List Item} {o : Oper}
theorem WC.less {c : Code} {env' : Env} {hp' : List Item} (k : WC P c Q w0 N env' hp') (h : Less env hp env' hp') : WC P c Q w0 N env hp := fun a w hh => k a w (hh.less h)
theorem wc_join (n : Nat) {c : Code} (env' : Env) (hp' : List Item) (hy : WC P (tailAt n c) Q w0 N env' hp') (hx : WC P (tailAt n c) Q w0 N env' hp' → WC P c Q w0 N env hp) : WC P c Q w0 N env hp := hx hy
end
end Go.Sx
end
