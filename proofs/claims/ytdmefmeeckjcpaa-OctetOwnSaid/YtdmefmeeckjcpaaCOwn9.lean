/- OctetOwn: for every input the law returns true. No condition. -/
import Derived.Test.YtdmefmeeckjcpaaCOwn8
import Derived.Test.YtdmefmeeckjcpaaCOwn3
import Derived.Test.YtdmefmeeckjcpaaCOwn4
import Derived.SizedLaws
import Derived.ChangeArms
import Derived.DataElems
import Derived.DataReads
import Derived.ProofKit
import Derived.OpenShut
import Derived.Test.YtdmefmeeckjcpaaRows
import Derived.WalkKit
import Derived.ShutString
import Derived.ChangeOld
import Derived.Below
section
namespace Go.Proofs.Ytdmefmeeckjcpaa.SF
open Go.RowKit Go.Sx Go.Proofs.Ytdmefmeeckjcpaa.PAll Go.Proofs.YtdmefmeeckjcpaaW.PrintWords Go.Proofs.YtdmefmeeckjcpaaW.PrintLast Go.Proofs.YtdmefmeeckjcpaaW.PrintMore
open Go.Proofs.Ytdmefmeeckjcpaa.Pure (joinF joinF_cons joinF_append joinF_length_le rowB rowB_length join_ev le_two)
set_option linter.unusedVariables false
set_option linter.unusedSimpArgs false
set_option maxRecDepth 100000
theorem take_next {rows : List (List Int)} {i : Nat} {r : List Int} (h : rows[i]? = some r) : (joinF (rows.take (i + 1))).length = (joinF (rows.take i)).length + (r.length + 2) := by
  rw [List.take_add_one, h, joinF_append, List.length_append]
  show _ + (joinF [r]).length = _
  rw [joinF_cons, List.length_append, rowB_length]; rfl
theorem take_le (rows : List (List Int)) (n : Nat) : (joinF (rows.take n)).length ≤ (joinF rows).length := by
  have h := congrArg (fun l => (joinF l).length) (List.take_append_drop n rows)
  simp only [joinF_append, List.length_append] at h
  omega
theorem win_of {g : Nat} {cr : List Value} {rows : List (List Int)} {i : Nat} {r : List Int} (hwin : cr.take rows.length = wins g 0 rows) (h : rows[i]? = some r) : cr[i]? = some (win g (joinF (rows.take i)).length r.length) := by
  have h1 := wins_at g 0 rows i r h
  rw [← hwin, List.getElem?_take, if_pos (List.getElem?_eq_some_iff.1 h).1, Nat.zero_add] at h1
  exact h1
theorem byte_of {cs : List Value} {rows : List (List Int)} {i k : Nat} {r : List Int} {x : Int} (htk : cs.take (joinF rows).length = nums .u8 (joinF rows)) (h : rows[i]? = some r) (hr : r.length ≤ 600) (hx : r[k]? = some x) : cs[(joinF (rows.take i)).length + 2 + k]? = some (.int .u8 x) := by
  have hi := (List.getElem?_eq_some_iff.1 h).1
  have e : rows.take i ++ r :: rows.drop (i + 1) = rows := by
    have h2 := List.take_append_drop i rows
    rw [List.drop_eq_getElem_cons hi] at h2
    rw [(List.getElem?_eq_some_iff.1 h).2] at h2
    exact h2
  have h3 := (join_at (rows.take i) r (rows.drop (i + 1)) (by omega)).2.2 k x hx
  rw [e] at h3
  have h4 := nums_at h3
  rw [← htk, List.getElem?_take] at h4
  split at h4
  · exact h4
  · cases h4
theorem win_olds {w : World} {g o n : Nat} {cs : List Value} (h : Blk w g cs 5) : ∀ (j : Nat) (u : Value), ((cs.drop (o + 2)).take n)[j]? = some u → w.cell? ((⟨g, if n = 0 then o else o + 2, none⟩ : Addr).add j) = some u := fun j u hu => by
  rw [List.getElem?_take] at hu
  split at hu
  · rw [if_neg (by omega), Addr.add_lit, cell_of_row w g _ cs.toArray 5 (0, 0) h]
    rw [List.getElem?_drop] at hu
    simpa using hu
  · cases hu
set_option maxHeartbeats 4000000 in
theorem own_calls (q : Gh) (rows : List (List Int)) (w : World) (hr0 : Kd.C (Kd.slice 5 (Kd.int .u8)) w q.1 rows.length rows) (hq : rows.length ≤ q.2) (hne : rows ≠ []) :
    Calls Try.prog 3 #[.slice q.1 rows.length q.2] w fun e w' => e = .returned (.bool true) ∧ Below w.heap.size w w' := by
  refine enter (w0 := w) (hp := [old w]) (env := [(0, .slice q.1 rows.length q.2)]) Try.func3 rfl 95 rfl (by simp) rfl (HeapOK.start _) ?_
  refine wc_seq ?_
  refine wc_region ?_
  refine wl_q (q_assign rfl rfl) rfl rfl (by decide) ?_
  refine wl_nil ?_
  refine fq_then ?_
  refine wc_seq ?_
  refine wc_region ?_
  refine wl_q (q_call rfl En4 rfl (fun w1 hw1 => paternosterlaw01_awake.calls true w1 rfl)) rfl rfl (by decide) ?_
  refine wl_q (q_assign rfl rfl) rfl rfl (by decide) ?_
  refine wl_nil ?_
  refine fq_then ?_
  refine wc_seq ?_
  refine wc_seq ?_
  refine wc_region ?_
  refine wl_q (q_move rfl rfl) rfl rfl (by decide) ?_
  refine wl_q (q_not rfl rfl) rfl rfl (by decide) ?_
  refine wl_nil ?_
  refine fq_then ?_
  refine wc_false rfl ?_
  refine wc_skip ?_
  refine fq_then ?_
  refine wc_seq ?_
  refine wc_seq ?_
  refine wc_region ?_
  refine wl_q (q_move rfl rfl) rfl rfl (by decide) ?_
  refine wl_q (q_len rfl rfl Try.underlying22) rfl rfl (by decide) ?_
  refine wl_q (q_bin rfl rfl rfl rfl) rfl rfl (by decide) ?_
  refine wl_nil ?_
  refine fq_then ?_
  refine wc_cond rfl (fun h16 => ?_) (fun h16 => ?_)
  · skip
    have q16 := h16
    try simp only [decide_eq_true_eq, decide_eq_false_iff_not, beq_iff_eq, beq_eq_false_iff_ne, bne_iff_ne, ne_eq, bne_eq_false_iff_eq, Int.not_lt, Int.not_le] at q16
    refine wc_seq ?_
    refine wc_region ?_
    refine wl_q (q_assign rfl rfl) rfl rfl (by decide) ?_
    refine wl_nil ?_
    refine fq_then ?_
    refine wc_ret ?_
    refine fq_then_ret ?_
    refine fq_ret1 rfl rfl (fun w1 H => ?_)
    exact ⟨rfl, (by first | exact hB.next (H.toBelow (by simp)) | exact H.toBelow (by simp))⟩
  · skip
    have q16 := h16
    try simp only [decide_eq_true_eq, decide_eq_false_iff_not, beq_iff_eq, beq_eq_false_iff_ne, bne_iff_ne, ne_eq, bne_eq_false_iff_eq, Int.not_lt, Int.not_le] at q16
    have hn : rows.length ≤ 20 := by simp at h16; omega
    refine wc_skip ?_
    refine fq_then ?_
    refine wc_seq ?_
    refine wc_seq ?_
    refine wc_region ?_
    refine wl_q (q_assign rfl rfl) rfl rfl (by decide) ?_
    refine wl_nil ?_
    refine fq_then ?_
    refine wc_block ?_
    refine wc_loop (ι := Nat) (fun k => [(0, .slice q.1 rows.length q.2), (4, .int .i64 (k : Nat))]) (fun k => [old w]) (fun k => k ≤ rows.length ∧ ∀ j r, j < k → rows[j]? = some r → r.length ≤ 600) (fun k => rows.length - k) 0 ⟨Nat.zero_le _, fun j r h => absurd h (Nat.not_lt_zero _)⟩ ⟨List.forall_mem_cons.2 ⟨rfl, List.forall_mem_cons.2 ⟨rfl, fun _ h => (by cases h)⟩⟩, List.Sublist.refl _⟩ ?_
    rintro k ⟨hk, hall⟩
    refine wc_seq ?_
    refine wc_seq ?_
    refine wc_region ?_
    refine wl_q (q_move rfl rfl) rfl rfl (by decide) ?_
    refine wl_q (q_move rfl rfl) rfl rfl (by decide) ?_
    refine wl_q (q_len rfl rfl Try.underlying22) rfl rfl (by decide) ?_
    refine wl_q (q_bin rfl rfl rfl rfl) rfl rfl (by decide) ?_
    refine wl_nil ?_
    refine fq_then ?_
    refine wc_cond rfl (fun h20 => ?_) (fun h20 => ?_)
    · skip
      have q20 := h20
      try simp only [decide_eq_true_eq, decide_eq_false_iff_not, beq_iff_eq, beq_eq_false_iff_ne, bne_iff_ne, ne_eq, bne_eq_false_iff_eq, Int.not_lt, Int.not_le] at q20
      have hkl : k < rows.length := by simp at h20; omega
      obtain ⟨r, hrk⟩ : ∃ r, rows[k]? = some r := ⟨_, List.getElem?_eq_getElem hkl⟩
      obtain ⟨ad, pr, hA, hcr, hro⟩ := rows_at hr0 hrk
      have hcr' : w.cell? (ad.add ((k : Int).toNat * 1)) = some (.slice pr.1 r.length pr.2) := by rw [Int.toNat_natCast, Nat.mul_one]; exact hcr
      refine wc_skip ?_
      refine fq_then ?_
      refine wc_seq ?_
      refine wc_block ?_
      refine wc_seq ?_
      refine wc_region ?_
      refine wl_q (q_move rfl rfl) rfl rfl (by decide) ?_
      refine wl_q (q_move rfl rfl) rfl rfl (by decide) ?_
      refine wl_q (q_indexO rfl rfl hA rfl Try.underlying22 Sz24 (by omega) (by omega)) rfl rfl (by decide) ?_
      refine wl_q (q_load rfl rfl Mn24 (reads_old (by simp) (cell_zero hcr'))) rfl rfl (by decide) ?_
      refine wl_q (q_len rfl rfl Try.underlying24) rfl rfl (by decide) ?_
      refine wl_q (q_bin rfl rfl rfl rfl) rfl rfl (by decide) ?_
      refine wl_nil ?_
      refine fq_then ?_
      refine wc_cond rfl (fun h28 => ?_) (fun h28 => ?_)
      · skip
        have q28 := h28
        try simp only [decide_eq_true_eq, decide_eq_false_iff_not, beq_iff_eq, beq_eq_false_iff_ne, bne_iff_ne, ne_eq, bne_eq_false_iff_eq, Int.not_lt, Int.not_le] at q28
        refine wc_seq ?_
        refine wc_region ?_
        refine wl_q (q_assign rfl rfl) rfl rfl (by decide) ?_
        refine wl_nil ?_
        refine fq_then ?_
        refine wc_ret ?_
        refine fq_block_ret ?_
        refine fq_then_ret ?_
        refine fq_then_ret ?_
        refine fq_block_ret ?_
        refine fq_then_ret ?_
        refine fq_ret1 rfl rfl (fun w1 H => ?_)
        exact ⟨rfl, (by first | exact hB.next (H.toBelow (by simp)) | exact H.toBelow (by simp))⟩
      · skip
        have q28 := h28
        try simp only [decide_eq_true_eq, decide_eq_false_iff_not, beq_iff_eq, beq_eq_false_iff_ne, bne_iff_ne, ne_eq, bne_eq_false_iff_eq, Int.not_lt, Int.not_le] at q28
        refine wc_skip ?_
        refine fq_block ?_
        refine fq_then ?_
        refine wc_region ?_
        refine wl_q (q_move rfl rfl) rfl rfl (by decide) ?_
        refine wl_q (q_bin rfl rfl rfl rfl) rfl rfl (by decide) ?_
        refine wl_q (q_assign rfl rfl) rfl rfl (by decide) ?_
        refine wl_nil ?_
        refine fq_next (k + 1) ⟨by omega, fun j r' hj hr' => by
            rcases Nat.lt_succ_iff_lt_or_eq.1 hj with h | rfl
            · exact hall j r' h hr'
            · rw [hrk] at hr'; cases hr'; simp at h28; omega⟩ (by omega) ⟨List.forall_mem_cons.2 ⟨rfl, List.forall_mem_cons.2 ⟨(show some (Value.int .i64 (IntKind.i64.wrap ((k : Int) + 1))) = some (Value.int .i64 ((k + 1 : Nat) : Int)) from by rw [wrap_id (by omega)]; rfl), fun _ h => (by cases h)⟩⟩, List.Sublist.refl _⟩
    · skip
      have q20 := h20
      try simp only [decide_eq_true_eq, decide_eq_false_iff_not, beq_iff_eq, beq_eq_false_iff_ne, bne_iff_ne, ne_eq, bne_eq_false_iff_eq, Int.not_lt, Int.not_le] at q20
      have hkk : k = rows.length := by simp at h20; omega
      subst hkk
      have hlen : ∀ r ∈ rows, r.length ≤ 600 := fun r hr => by
        obtain ⟨j, hj, rfl⟩ := List.mem_iff_getElem.1 hr
        exact hall j _ hj (List.getElem?_eq_getElem hj)
      have hJl : (joinF rows).length ≤ 20000 := Nat.le_trans (joinF_length_le 600 rows hlen) (by have : rows.length ≤ 20 := hn; omega)
      refine wc_exit ?_
      refine fq_then_exit ?_
      refine fq_then_exit ?_
      refine fq_block_hit ?_
      refine fq_then ?_
      refine wc_seq ?_
      refine wc_region ?_
      refine wl_q (q_move rfl rfl) rfl rfl (by decide) ?_
      refine wl_callK (ι := Gh) (fun i => .slice i.1 (joinF rows).length i.2) (fun i w w' => RowC w' i (joinF rows)) rfl rfl rfl (by decide) En5 rfl (fun w1 hw1 => (join_calls q rows w1 (Kd.C_below hr0 (hw1.toBelow (by simp))) hq (fun r hr => Nat.le_trans (hlen r hr) (by decide)) (by omega)).mono (fun e w' ⟨i, h1, h2, h6⟩ => ⟨i, h2, h1, h6⟩)) (fun p wa_ w_1 _ Hn_ _ hC_ => ?_)
      have hx_ := Hn_.toBelow (by simp)
      have hB := hx_
      have hb_ := hC_
      refine wl_q (q_assign rfl rfl) rfl rfl (by decide) ?_
      refine wl_nil ?_
      refine fq_then ?_
      refine wc_seq ?_
      refine wc_region ?_
      refine wl_q (q_move rfl rfl) rfl rfl (by decide) ?_
      refine wl_q (q_bytesStr rfl rfl Try.underlying24 Try.underlying5 Try.underlying9 (fun w1 hw1 => (hb_.below (hw1.toBelow (by simp))).2)) rfl rfl (by decide) ?_
      refine wl_q (q_assign rfl rfl) rfl rfl (by decide) ?_
      refine wl_nil ?_
      refine fq_then ?_
      refine wc_seq ?_
      refine wc_region ?_
      refine wl_q (q_move rfl rfl) rfl rfl (by decide) ?_
      have hB0_ := hB
      obtain ⟨s1, hs1⟩ : ∃ s, s = w_1.heap.size := ⟨_, rfl⟩
      have hJ_ := hb_
      refine wl_callK (ι := (Nat × List Value × Nat × Nat × List Value)) (fun i => .tuple #[.slice (some ⟨i.2.2.1, 0, none⟩) rows.length i.2.2.2.1, .int .i64 0]) (fun i w w' => PartC s1 w' rows i) rfl rfl rfl (by decide) En6 rfl (fun w1 hw1 => (part_calls p rows w1 (hb_.below (hw1.toBelow (by simp))) (fun r hr => Nat.le_trans (hlen r hr) (by decide)) (by omega) (by omega) hne).mono (fun e w' ⟨i, h1, ⟨h2, h3, h4⟩, h6⟩ => ⟨i, ⟨Nat.le_trans (hs1 ▸ ((hw1.toBelow (by simp))).size) h2, Nat.le_trans (hs1 ▸ ((hw1.toBelow (by simp))).size) h3, h4⟩, h1, h6⟩)) (fun ⟨g, cs, gr, cap, cr⟩ wa_ w_2 _ Hn_ _ hC_ => ?_)
      have hx_ := Hn_.toBelow (by simp)
      have hB := hB.next hx_
      obtain ⟨hng, hngr, fb_g, htk, fb_gr, hwin, hcap⟩ := hC_
      dsimp only at hng hngr fb_g htk fb_gr hwin hcap
      subst hs1
      have h2 := hx_
      have hg1 : w.heap.size ≤ g := Nat.le_trans hB0_.size hng
      have hgr1 : w.heap.size ≤ gr := Nat.le_trans hB0_.size hngr
      refine wl_q (q_move rfl rfl) rfl rfl (by decide) ?_
      refine wl_q (q_extract rfl rfl rfl) rfl rfl (by decide) ?_
      refine wl_q (q_extract rfl rfl rfl) rfl rfl (by decide) ?_
      refine wl_q (q_assign rfl rfl) rfl rfl (by decide) ?_
      refine wl_q (q_assign rfl rfl) rfl rfl (by decide) ?_
      refine wl_nil ?_
      refine fq_then ?_
      refine wc_seq ?_
      refine wc_seq ?_
      refine wc_region ?_
      refine wl_q (q_move rfl rfl) rfl rfl (by decide) ?_
      refine wl_q (OpQ.to (q_bin rfl rfl rfl rfl) (congrArg Value.bool (show ((0 : Int) != 0) = false by rfl))) rfl rfl (by decide) ?_
      refine wl_q (q_move rfl rfl) rfl rfl (by decide) ?_
      refine wl_want (b := false) (q_move rfl rfl) rfl rfl rfl rfl (by decide) ?_
      refine wl_want (b := false) (q_len rfl rfl Try.underlying22) rfl rfl rfl rfl (by decide) ?_
      refine wl_want (b := false) (q_move rfl rfl) rfl rfl rfl rfl (by decide) ?_
      refine wl_want (b := false) (q_len rfl rfl Try.underlying22) rfl rfl rfl rfl (by decide) ?_
      refine wl_want (b := false) (OpQ.to (q_bin rfl rfl rfl rfl) (congrArg Value.bool (show ((rows.length : Int) != (rows.length : Int)) = false by simp))) rfl rfl rfl rfl (by decide) ?_
      refine wl_q (q_pick rfl rfl rfl) rfl rfl (by decide) ?_
      refine wl_nil ?_
      refine fq_then ?_
      refine wc_false rfl ?_
      refine wc_skip ?_
      refine fq_then ?_
      refine wc_seq ?_
      refine wc_seq ?_
      refine wc_region ?_
      refine wl_q (q_assign rfl rfl) rfl rfl (by decide) ?_
      refine wl_nil ?_
      refine fq_then ?_
      refine wc_block ?_
      refine wc_ground (fun w_3 Hn_ => ?_)
      have hx_ := Hn_.toBelow (by simp)
      have fb_g := fb_g.below hx_
      have fb_gr := fb_gr.below hx_
      have h2 := h2.next hx_
      have hB := hB.next hx_
      have hrlt : (joinF rows).length ≤ cs.length := by
        have := congrArg List.length htk
        rw [List.length_take] at this; simp [nums] at this; omega
      have hrlr : rows.length ≤ cr.length := by
        have := congrArg List.length hwin
        rw [List.length_take, wins_length] at this; omega
      refine wc_loopV (n := w.heap.size) (ι := (Nat × World × List Value × List Value)) (fun ⟨i, W, cs1, cr1⟩ => [(0, .slice q.1 rows.length q.2), (5, .slice p.1 (joinF rows).length p.2), (6, .string (strOfNums (joinF rows))), (7, .slice (some ⟨gr, 0, none⟩) rows.length cap), (9, .int .i64 (i : Nat))]) (fun ⟨i, W, cs1, cr1⟩ => W) (fun ⟨i, W, cs1, cr1⟩ => i ≤ rows.length ∧ Below w.heap.size w_3 W ∧ Below w_1.heap.size w_1 W ∧ Blk W g cs1 5 ∧ Blk W gr cr1 24 ∧ (∀ j, (joinF (rows.take i)).length ≤ j → cs1[j]? = cs[j]?) ∧ cs1.length = cs.length ∧ (∀ j, i ≤ j → cr1[j]? = cr[j]?) ∧ cr1.length = cr.length) (fun ⟨i, W, cs1, cr1⟩ => rows.length - i) (0, w_3, cs, cr) rfl ⟨Nat.zero_le _, Below.refl _ _, h2, fb_g, fb_gr, fun _ _ => rfl, rfl, fun _ _ => rfl, rfl⟩ (by simp) (List.forall_mem_cons.2 ⟨rfl, List.forall_mem_cons.2 ⟨rfl, List.forall_mem_cons.2 ⟨rfl, List.forall_mem_cons.2 ⟨rfl, List.forall_mem_cons.2 ⟨rfl, fun _ h => (by cases h)⟩⟩⟩⟩⟩) (fun i hi => hi.2.1) ?_
      rintro ⟨i, W, cs1, cr1⟩ ⟨hi, hbO, h2, fb_g, fb_gr, hcs, hcsl, hcr, hcrl⟩
      have hB := hB.trans hbO
      dsimp only at hi hbO h2 fb_g fb_gr hcs hcsl hcr hcrl ⊢
      refine wc_seq ?_
      refine wc_seq ?_
      refine wc_region ?_
      refine wl_q (q_move rfl rfl) rfl rfl (by decide) ?_
      refine wl_q (q_move rfl rfl) rfl rfl (by decide) ?_
      refine wl_q (q_len rfl rfl Try.underlying22) rfl rfl (by decide) ?_
      refine wl_q (q_bin rfl rfl rfl rfl) rfl rfl (by decide) ?_
      refine wl_nil ?_
      refine fq_then ?_
      refine wc_cond rfl (fun h50 => ?_) (fun h50 => ?_)
      · skip
        have q50 := h50
        try simp only [decide_eq_true_eq, decide_eq_false_iff_not, beq_iff_eq, beq_eq_false_iff_ne, bne_iff_ne, ne_eq, bne_eq_false_iff_eq, Int.not_lt, Int.not_le] at q50
        have hil : i < rows.length := by simp at h50; omega
        obtain ⟨r, hri⟩ : ∃ r, rows[i]? = some r := ⟨_, List.getElem?_eq_getElem hil⟩
        have hrl : r.length ≤ 600 := hlen r (List.mem_of_getElem? hri)
        obtain ⟨ad, pr, hA, hcr0, hro⟩ := rows_at (Kd.C_below hr0 hB) hri
        have hcr' : W.cell? (ad.add ((i : Int).toNat * 1)) = some (.slice pr.1 r.length pr.2) := by rw [Int.toNat_natCast, Nat.mul_one]; exact hcr0
        have hpc : cr1[i]? = some (win g (joinF (rows.take i)).length r.length) := (hcr i (Nat.le_refl _)).trans (win_of hwin hri)
        have hpw : W.cell? ((⟨gr, 0, none⟩ : Addr).add ((i : Int).toNat * 1)) = some (win g (joinF (rows.take i)).length r.length) := by
          rw [Int.toNat_natCast, Nat.mul_one, Addr.add_lit, Nat.zero_add, cell_of_row W gr i cr1.toArray 24 (0, 0) fb_gr]; simpa using hpc
        have hbytes : ∀ (k : Nat) (x : Int), r[k]? = some x → cs1[(joinF (rows.take i)).length + 2 + k]? = some (.int .u8 x) := fun k x hx => (hcs _ (by omega)).trans (byte_of htk hri hrl hx)
        have hwr := win_row fb_g (by omega) hbytes
        have hend := take_next hri
        have hJi : (joinF (rows.take (i + 1))).length ≤ (joinF rows).length := take_le rows (i + 1)
        refine wc_skip ?_
        refine fq_then ?_
        refine wc_seq ?_
        refine wc_block ?_
        refine wc_seq ?_
        refine wc_seq ?_
        refine wc_draw 11 Fol (by kernel_rfl) (Chain.yield (q_move rfl rfl) rfl rfl (Chain.yield (q_move rfl rfl) rfl rfl (Chain.yield (q_index rfl rfl rfl Try.underlying22 Sz24 (by omega) (by omega)) rfl rfl (Chain.yield (q_load rfl rfl Mn24 (reads_old (by simp) (cell_zero hpw))) rfl rfl (Chain.yield (q_bytesStr rfl rfl Try.underlying24 Try.underlying5 Try.underlying9 (fun w1 hw1 => (hwr.below (hw1.toBelow (by simp))).2)) rfl rfl (Chain.yield (q_move rfl rfl) rfl rfl (Chain.yield (q_move rfl rfl) rfl rfl (Chain.yield (q_indexO rfl rfl hA rfl Try.underlying22 Sz24 (by omega) (by omega)) rfl rfl (Chain.yield (q_load rfl rfl Mn24 (reads_old (by simp) (cell_zero hcr'))) rfl rfl (Chain.yield (q_bytesStr rfl rfl Try.underlying24 Try.underlying5 Try.underlying9 (fun w1 hw1 => (hro.below (hw1.toBelow (by simp))).2)) rfl rfl (Chain.yield (q_eqlStr (c := false) rfl (.inr ⟨rfl, show (!((strOfNums r).toList == (strOfNums r).toList)) = false by simp⟩) rfl rfl (fun w => rfl)) rfl rfl (Chain.nil _)))))))))))) ?_
        refine wl_nil ?_
        refine fq_then ?_
        refine wc_false rfl ?_
        refine wc_skip ?_
        refine fq_then ?_
        refine wc_seq ?_
        refine wc_seq ?_
        refine wc_region ?_
        refine wl_q (q_assign rfl rfl) rfl rfl (by decide) ?_
        refine wl_nil ?_
        refine fq_then ?_
        refine wc_block ?_
        refine wc_ground (fun w_4 Hn_ => ?_)
        have hx_ := Hn_.toBelow (by simp)
        have hbO := hbO.nextV hB.size hx_
        have fb_g := fb_g.below hx_
        have fb_gr := fb_gr.below hx_
        have h2 := h2.next hx_
        have hB := hB.next hx_
        have hbO_ := hbO
        refine wc_loopV (n := w.heap.size) (ι := (Nat × World × List Value)) (fun ⟨k, W2, cs2⟩ => [(0, .slice q.1 rows.length q.2), (5, .slice p.1 (joinF rows).length p.2), (6, .string (strOfNums (joinF rows))), (7, .slice (some ⟨gr, 0, none⟩) rows.length cap), (9, .int .i64 (i : Nat)), (10, .int .i64 (k : Nat))]) (fun ⟨k, W2, cs2⟩ => W2) (fun ⟨k, W2, cs2⟩ => k ≤ r.length ∧ Below w.heap.size w_4 W2 ∧ Below w_1.heap.size w_1 W2 ∧ Blk W2 g cs2 5 ∧ Blk W2 gr cr1 24 ∧ (∀ j, (joinF (rows.take i)).length + 2 + k ≤ j → cs2[j]? = cs[j]?) ∧ cs2.length = cs.length) (fun ⟨k, W2, cs2⟩ => r.length - k) (0, w_4, cs1) rfl ⟨Nat.zero_le _, Below.refl _ _, h2, fb_g, fb_gr, fun j hj => hcs j (by omega), hcsl⟩ (by simp) (List.forall_mem_cons.2 ⟨rfl, List.forall_mem_cons.2 ⟨rfl, List.forall_mem_cons.2 ⟨rfl, List.forall_mem_cons.2 ⟨rfl, List.forall_mem_cons.2 ⟨rfl, List.forall_mem_cons.2 ⟨rfl, fun _ h => (by cases h)⟩⟩⟩⟩⟩⟩) (fun i hi => hi.2.1) ?_
        rintro ⟨k, W2, cs2⟩ ⟨hk, hbI, h2, fb_g, fb_gr, hcs2, hcsl2⟩
        have hB := hB.trans hbI
        dsimp only at hk hbI h2 fb_g fb_gr hcs2 hcsl2 ⊢
        have hbO := hbO_.trans hbI
        have hpw : W2.cell? ((⟨gr, 0, none⟩ : Addr).add ((i : Int).toNat * 1)) = some (win g (joinF (rows.take i)).length r.length) := by
          rw [Int.toNat_natCast, Nat.mul_one, Addr.add_lit, Nat.zero_add, cell_of_row W2 gr i cr1.toArray 24 (0, 0) fb_gr]; simpa using hpc
        refine wc_seq ?_
        refine wc_seq ?_
        refine wc_region ?_
        refine wl_q (q_move rfl rfl) rfl rfl (by decide) ?_
        refine wl_q (q_move rfl rfl) rfl rfl (by decide) ?_
        refine wl_q (q_move rfl rfl) rfl rfl (by decide) ?_
        refine wl_q (q_index rfl rfl rfl Try.underlying22 Sz24 (by omega) (by omega)) rfl rfl (by decide) ?_
        refine wl_q (q_load rfl rfl Mn24 (reads_old (by simp) (cell_zero hpw))) rfl rfl (by decide) ?_
        refine wl_q (q_len rfl rfl Try.underlying24) rfl rfl (by decide) ?_
        refine wl_q (q_bin rfl rfl rfl rfl) rfl rfl (by decide) ?_
        refine wl_nil ?_
        refine fq_then ?_
        refine wc_cond rfl (fun h70 => ?_) (fun h70 => ?_)
        · skip
          have q70 := h70
          try simp only [decide_eq_true_eq, decide_eq_false_iff_not, beq_iff_eq, beq_eq_false_iff_ne, bne_iff_ne, ne_eq, bne_eq_false_iff_eq, Int.not_lt, Int.not_le] at q70
          have hkl : k < r.length := by simp at h70; omega
          obtain ⟨x, hx⟩ : ∃ x, r[k]? = some x := ⟨_, List.getElem?_eq_getElem hkl⟩
          have hcx : cs2[(joinF (rows.take i)).length + 2 + k]? = some (.int .u8 x) := (hcs2 _ (Nat.le_refl _)).trans (byte_of htk hri hrl hx)
          refine wc_skip ?_
          refine fq_then ?_
          refine wc_seq ?_
          refine wc_block ?_
          refine wc_region ?_
          refine wl_q (q_move rfl rfl) rfl rfl (by decide) ?_
          refine wl_q (q_move rfl rfl) rfl rfl (by decide) ?_
          refine wl_q (q_index rfl rfl rfl Try.underlying22 Sz24 (by omega) (by omega)) rfl rfl (by decide) ?_
          refine wl_q (q_load rfl rfl Mn24 (reads_old (by simp) (cell_zero hpw))) rfl rfl (by decide) ?_
          refine wl_q (q_move rfl rfl) rfl rfl (by decide) ?_
          refine wl_q (OpQ.to (q_index rfl rfl rfl Try.underlying24 Sz5 (by omega) (by omega)) (ptr_eq hkl)) rfl rfl (by decide) ?_
          refine wl_q (q_load rfl rfl Mn5 (reads_blk (by simp) fb_g hcx)) rfl rfl (by decide) ?_
          refine wl_q (q_bin rfl rfl rfl rfl) rfl rfl (by decide) ?_
          refine wl_q (OpQ.to (q_index rfl rfl rfl Try.underlying24 Sz5 (by omega) (by omega)) (ptr_eq hkl)) rfl rfl (by decide) ?_
          refine wl_storeK fb_g rfl rfl rfl rfl rfl Sz5 rfl rfl (by omega) (by simp [Value.oneCell']) rfl (fun wa_5 w_6 Hn_ hu_ => ?_)
          have hx_ := Hn_.toBelow (by simp)
          have hbI := hbI.nextV hB.size hx_
          have fb_g := fb_g.below hx_
          have fb_gr := fb_gr.below hx_
          have h2 := h2.next hx_
          have hbO := hbO.nextV hB.size hx_
          have hB := hB.next hx_
          have hs_ := hB.size
          have hB := hB.trans (hu_.below hg1 hs_)
          have fb_gr := hu_.blk fb_gr (by decide)
          have fb_g := hu_.now
          have h2 := h2.trans (hu_.below hng h2.size)
          have hbO := hbO.trans (hu_.below hg1 hs_)
          have hbI := hbI.trans (hu_.below hg1 hs_)
          skip
          refine wl_nil ?_
          refine fq_block ?_
          refine fq_then ?_
          refine wc_region ?_
          refine wl_q (q_move rfl rfl) rfl rfl (by decide) ?_
          refine wl_q (q_bin rfl rfl rfl rfl) rfl rfl (by decide) ?_
          refine wl_q (q_assign rfl rfl) rfl rfl (by decide) ?_
          refine wl_nil ?_
          refine fq_ground (fun w_7 Hn_ => ?_)
          have hx_ := Hn_.toBelow (by simp)
          have hbI := hbI.nextV hB.size hx_
          have fb_g := fb_g.below hx_
          have fb_gr := fb_gr.below hx_
          have h2 := h2.next hx_
          have hbO := hbO.nextV hB.size hx_
          have hB := hB.next hx_
          exact fq_nextV (k + 1, w_7, cs2.take ((joinF (rows.take i)).length + 2 + k) ++ [Value.int .u8 (IntKind.u8.wrap (x + 1))] ++ cs2.drop ((joinF (rows.take i)).length + 2 + k + 1)) hbI rfl (by simp) ⟨by omega, hbI, h2, fb_g, fb_gr, fun j hj => (put_at (by omega) (by omega)).trans (hcs2 j (by omega)), (put_len (by omega)).trans hcsl2⟩ (show r.length - (k + 1) < r.length - k by omega) (List.forall_mem_cons.2 ⟨rfl, List.forall_mem_cons.2 ⟨rfl, List.forall_mem_cons.2 ⟨rfl, List.forall_mem_cons.2 ⟨rfl, List.forall_mem_cons.2 ⟨rfl, List.forall_mem_cons.2 ⟨(show some (Value.int .i64 (IntKind.i64.wrap ((k : Int) + 1))) = some (Value.int .i64 ((k + 1 : Nat) : Int)) from by rw [wrap_id (by omega)]; rfl), fun _ h => (by cases h)⟩⟩⟩⟩⟩⟩)
        · skip
          have q70 := h70
          try simp only [decide_eq_true_eq, decide_eq_false_iff_not, beq_iff_eq, beq_eq_false_iff_ne, bne_iff_ne, ne_eq, bne_eq_false_iff_eq, Int.not_lt, Int.not_le] at q70
          have hkk : k = r.length := by simp at h70; omega
          subst hkk
          refine wc_exit ?_
          refine fq_then_exit ?_
          refine fq_then_exit ?_
          refine fq_block_hit ?_
          refine fq_then ?_
          refine wc_region ?_
          refine wl_q (q_move rfl rfl) rfl rfl (by decide) ?_
          refine wl_q (q_move rfl rfl) rfl rfl (by decide) ?_
          refine wl_q (q_move rfl rfl) rfl rfl (by decide) ?_
          refine wl_q (q_move rfl rfl) rfl rfl (by decide) ?_
          refine wl_q (q_index rfl rfl rfl Try.underlying22 Sz24 (by omega) (by omega)) rfl rfl (by decide) ?_
          refine wl_q (q_load rfl rfl Mn24 (reads_old (by simp) (cell_zero hpw))) rfl rfl (by decide) ?_
          refine wl_buildSlice rfl rfl rfl (by decide) rfl Try.underlying24 (built_one Sz5 (by decide) Zs5 (by decide) rfl rfl) (fun b8 => ?_)
          refine wl_appendFull (olds := (cs2.drop ((joinF (rows.take i)).length + 2)).take r.length) (news := [.int .u8 7]) rfl rfl rfl (by decide) Try.underlying24 Ap5 (by decide) rfl rfl (by rw [List.length_take, List.length_drop]; omega) (reads_old (by simp) (win_olds fb_g)) (readsAll (i := 0) rfl) rfl (by decide) (by unfold maxLen; omega) (by omega) (fun A89 c89 => ?_)
          refine wl_ground (fun w_9 Hn_ => ?_)
          have hx_ := Hn_.toBelow (by simp)
          have fb_b8 : Blk w_9 b8 _ _ := Hn_.get (i := 0) rfl
          have hbI := hbI.nextV hB.size hx_
          have fb_g := fb_g.below hx_
          have fb_gr := fb_gr.below hx_
          have h2 := h2.next hx_
          have hbO := hbO.nextV hB.size hx_
          have hB := hB.next hx_
          skip
          refine wl_q (OpQ.to (q_index rfl rfl rfl Try.underlying22 Sz24 (by omega) (by omega)) ptr_eq0) rfl rfl (by decide) ?_
          refine wl_storeK fb_gr rfl rfl rfl rfl rfl Sz24 rfl rfl (by omega) (by simp [Value.oneCell']) rfl (fun wa_10 w_11 Hn_ hu_ => ?_)
          have hx_ := Hn_.toBelow (by simp)
          have hbI := hbI.nextV hB.size hx_
          have fb_g := fb_g.below hx_
          have fb_gr := fb_gr.below hx_
          have h2 := h2.next hx_
          have hbO := hbO.nextV hB.size hx_
          have fb_b8 := fb_b8.below hx_
          have hB := hB.next hx_
          have hs_ := hB.size
          have hB := hB.trans (hu_.below hgr1 hs_)
          have fb_g := hu_.blk fb_g (by decide)
          have fb_gr := hu_.now
          have h2 := h2.trans (hu_.below hngr h2.size)
          have hbO := hbO.trans (hu_.below hgr1 hs_)
          skip
          refine wl_nil ?_
          refine fq_block ?_
          refine fq_then ?_
          refine wc_region ?_
          refine wl_q (q_move rfl rfl) rfl rfl (by decide) ?_
          refine wl_q (q_bin rfl rfl rfl rfl) rfl rfl (by decide) ?_
          refine wl_q (q_assign rfl rfl) rfl rfl (by decide) ?_
          refine wl_nil ?_
          refine fq_ground (fun w_12 Hn_ => ?_)
          have hx_ := Hn_.toBelow (by simp)
          have fb_g := fb_g.below hx_
          have fb_gr := fb_gr.below hx_
          have h2 := h2.next hx_
          have hbO := hbO.nextV hB.size hx_
          have hB := hB.next hx_
          exact fq_nextV (i + 1, w_12, cs2, cr1.take i ++ [Value.slice A89 (r.length + 1) c89] ++ cr1.drop (i + 1)) hbO rfl (by simp) ⟨by omega, hbO, h2, fb_g, fb_gr, fun j hj => hcs2 j (by rw [take_next hri] at hj; omega), hcsl2, fun j hj => (put_at (by omega) hj).trans (hcr j (by omega)), (put_len (by omega)).trans hcrl⟩ (show rows.length - (i + 1) < rows.length - i by omega) (List.forall_mem_cons.2 ⟨rfl, List.forall_mem_cons.2 ⟨rfl, List.forall_mem_cons.2 ⟨rfl, List.forall_mem_cons.2 ⟨rfl, List.forall_mem_cons.2 ⟨(show some (Value.int .i64 (IntKind.i64.wrap ((i : Int) + 1))) = some (Value.int .i64 ((i + 1 : Nat) : Int)) from by rw [wrap_id (by omega)]; rfl), fun _ h => (by cases h)⟩⟩⟩⟩⟩)
      · skip
        have q50 := h50
        try simp only [decide_eq_true_eq, decide_eq_false_iff_not, beq_iff_eq, beq_eq_false_iff_ne, bne_iff_ne, ne_eq, bne_eq_false_iff_eq, Int.not_lt, Int.not_le] at q50
        have hb_ := hJ_.below h2
        refine wc_exit ?_
        refine fq_then_exit ?_
        refine fq_then_exit ?_
        refine fq_block_hit ?_
        refine fq_then ?_
        refine wc_seq ?_
        refine wc_region ?_
        refine wl_q (q_move rfl rfl) rfl rfl (by decide) ?_
        refine wl_q (q_bytesStr rfl rfl Try.underlying24 Try.underlying5 Try.underlying9 (fun w1 hw1 => (hb_.below (hw1.toBelow (by simp))).2)) rfl rfl (by decide) ?_
        refine wl_q (q_move rfl rfl) rfl rfl (by decide) ?_
        refine wl_q (q_eqlStr (c := true) rfl (.inl ⟨rfl, show ((strOfNums (joinF rows)).toList == (strOfNums (joinF rows)).toList) = true by simp⟩) rfl rfl (fun w => rfl)) rfl rfl (by decide) ?_
        refine wl_q (q_assign rfl rfl) rfl rfl (by decide) ?_
        refine wl_nil ?_
        refine fq_then ?_
        refine wc_ret ?_
        refine fq_ret1 rfl rfl (fun w1 H => ?_)
        exact ⟨rfl, (by first | exact hB.next (H.toBelow (by simp)) | exact H.toBelow (by simp))⟩
end Go.Proofs.Ytdmefmeeckjcpaa.SF
end
section
namespace Go.Proofs.Ytdmefmeeckjcpaa.SF
open Go.RowKit Go.Sx Go.Proofs.Ytdmefmeeckjcpaa.PAll Go.Proofs.YtdmefmeeckjcpaaW.PrintWords Go.Proofs.YtdmefmeeckjcpaaW.PrintLast Go.Proofs.YtdmefmeeckjcpaaW.PrintMore
open Go.Proofs.Ytdmefmeeckjcpaa.Pure (joinF joinF_cons joinF_append joinF_length_le rowB rowB_length join_ev le_two)
set_option linter.unusedVariables false
set_option linter.unusedSimpArgs false
set_option maxRecDepth 100000
theorem part0_calls (q : Gh) (w : World) (hr : RowC w q []) : Calls Try.prog 6 #[.slice q.1 0 q.2] w fun e w' => ∃ i : Gh, e = .returned (.tuple #[.slice i.1 0 i.2, .int .i64 0]) ∧ Below w.heap.size w w' := by
  have h := octet_Part.calls q.1 q.2 [] [] 0 w hr.2 hr.1 (by simp [octet_Part.f, Go.Proofs.Ytdmefmeeckjcpaa.PAll.partsF])
  refine h.mono ?_
  rintro e w' ⟨v, rfl, hN, hB⟩
  obtain ⟨A, c, rfl⟩ := Kd.N_slice hN
  exact ⟨(A, c), rfl, hB⟩
theorem own_nil (q : Gh) (w : World) (hr0 : Kd.C (Kd.slice 5 (Kd.int .u8)) w q.1 0 []) (hq : 0 ≤ q.2) :
    Calls Try.prog 3 #[.slice q.1 0 q.2] w fun e w' => e = .returned (.bool true) ∧ Below w.heap.size w w' := by
  refine enter (w0 := w) (hp := [old w]) (env := [(0, .slice q.1 0 q.2)]) Try.func3 rfl 95 rfl (by simp) rfl (HeapOK.start _) ?_
  refine wc_seq ?_
  refine wc_region ?_
  refine wl_q (q_assign rfl rfl) rfl rfl (by decide) ?_
  refine wl_nil ?_
  refine fq_then ?_
  refine wc_seq ?_
  refine wc_region ?_
  refine wl_q (q_call rfl En4 rfl (fun w1 hw1 => paternosterlaw01_awake.calls true w1 rfl)) rfl rfl (by decide) ?_
  refine wl_q (q_assign rfl rfl) rfl rfl (by decide) ?_
  refine wl_nil ?_
  refine fq_then ?_
  refine wc_seq ?_
  refine wc_seq ?_
  refine wc_region ?_
  refine wl_q (q_move rfl rfl) rfl rfl (by decide) ?_
  refine wl_q (q_not rfl rfl) rfl rfl (by decide) ?_
  refine wl_nil ?_
  refine fq_then ?_
  refine wc_false rfl ?_
  refine wc_skip ?_
  refine fq_then ?_
  refine wc_seq ?_
  refine wc_seq ?_
  refine wc_region ?_
  refine wl_q (q_move rfl rfl) rfl rfl (by decide) ?_
  refine wl_q (q_len rfl rfl Try.underlying22) rfl rfl (by decide) ?_
  refine wl_q (OpQ.to (q_bin rfl rfl rfl rfl) (congrArg Value.bool (show decide ((20 : Int) < ((0 : Nat) : Int)) = false by decide))) rfl rfl (by decide) ?_
  refine wl_nil ?_
  refine fq_then ?_
  refine wc_false rfl ?_
  refine wc_skip ?_
  refine fq_then ?_
  refine wc_seq ?_
  refine wc_seq ?_
  refine wc_region ?_
  refine wl_q (q_assign rfl rfl) rfl rfl (by decide) ?_
  refine wl_nil ?_
  refine fq_then ?_
  refine wc_block ?_
  refine wc_loop (ι := Unit) (fun _ => [(0, .slice q.1 0 q.2), (4, .int .i64 0)]) (fun _ => [old w]) (fun _ => True) (fun _ => 0) () trivial ⟨List.forall_mem_cons.2 ⟨rfl, List.forall_mem_cons.2 ⟨rfl, fun _ h => (by cases h)⟩⟩, List.Sublist.refl _⟩ ?_
  rintro _ _
  refine wc_seq ?_
  refine wc_seq ?_
  refine wc_region ?_
  refine wl_q (q_move rfl rfl) rfl rfl (by decide) ?_
  refine wl_q (q_move rfl rfl) rfl rfl (by decide) ?_
  refine wl_q (q_len rfl rfl Try.underlying22) rfl rfl (by decide) ?_
  refine wl_q (OpQ.to (q_bin rfl rfl rfl rfl) (congrArg Value.bool (show decide ((0 : Int) < ((0 : Nat) : Int)) = false by decide))) rfl rfl (by decide) ?_
  refine wl_nil ?_
  refine fq_then ?_
  refine wc_false rfl ?_
  refine wc_exit ?_
  refine fq_then_exit ?_
  refine fq_then_exit ?_
  refine fq_block_hit ?_
  refine fq_then ?_
  refine wc_seq ?_
  refine wc_region ?_
  refine wl_q (q_move rfl rfl) rfl rfl (by decide) ?_
  refine wl_callK (ι := Gh) (fun i => .slice i.1 0 i.2) (fun i w w' => RowC w' i []) rfl rfl rfl (by decide) En5 rfl (fun w1 hw1 => (join_calls q [] w1 (Kd.C_below hr0 (hw1.toBelow (by simp))) hq (fun r hr => by cases hr) (by simp)).mono (fun e w' ⟨i, h1, h2, h6⟩ => ⟨i, h2, h1, h6⟩)) (fun p wa_ w_1 _ Hn_ _ hC_ => ?_)
  have hx_ := Hn_.toBelow (by simp)
  have hB := hx_
  have hb_ := hC_
  refine wl_q (q_assign rfl rfl) rfl rfl (by decide) ?_
  refine wl_nil ?_
  refine fq_then ?_
  refine wc_seq ?_
  refine wc_region ?_
  refine wl_q (q_move rfl rfl) rfl rfl (by decide) ?_
  refine wl_q (q_bytesStr rfl rfl Try.underlying24 Try.underlying5 Try.underlying9 (fun w1 hw1 => (hb_.below (hw1.toBelow (by simp))).2)) rfl rfl (by decide) ?_
  refine wl_q (q_assign rfl rfl) rfl rfl (by decide) ?_
  refine wl_nil ?_
  refine fq_then ?_
  refine wc_seq ?_
  refine wc_region ?_
  refine wl_q (q_move rfl rfl) rfl rfl (by decide) ?_
  refine wl_callK (ι := Gh) (fun i => .tuple #[.slice i.1 0 i.2, .int .i64 0]) (fun i w w' => True) rfl rfl rfl (by decide) En6 rfl (fun w1 hw1 => (part0_calls p w1 (hb_.below (hw1.toBelow (by simp)))).mono (fun e w' ⟨i, h1, h6⟩ => ⟨i, trivial, h1, h6⟩)) (fun pp wa_ w_2 _ Hn_ _ hC_ => ?_)
  have hx_ := Hn_.toBelow (by simp)
  have hb_ := hb_.below hx_
  have hB := hB.next hx_
  refine wl_q (q_move rfl rfl) rfl rfl (by decide) ?_
  refine wl_q (q_extract rfl rfl rfl) rfl rfl (by decide) ?_
  refine wl_q (q_extract rfl rfl rfl) rfl rfl (by decide) ?_
  refine wl_q (q_assign rfl rfl) rfl rfl (by decide) ?_
  refine wl_q (q_assign rfl rfl) rfl rfl (by decide) ?_
  refine wl_nil ?_
  refine fq_then ?_
  refine wc_seq ?_
  refine wc_seq ?_
  refine wc_region ?_
  refine wl_q (q_move rfl rfl) rfl rfl (by decide) ?_
  refine wl_q (OpQ.to (q_bin rfl rfl rfl rfl) (congrArg Value.bool (show ((0 : Int) != 0) = false by rfl))) rfl rfl (by decide) ?_
  refine wl_q (q_move rfl rfl) rfl rfl (by decide) ?_
  refine wl_want (b := false) (q_move rfl rfl) rfl rfl rfl rfl (by decide) ?_
  refine wl_want (b := false) (q_len rfl rfl Try.underlying22) rfl rfl rfl rfl (by decide) ?_
  refine wl_want (b := false) (q_move rfl rfl) rfl rfl rfl rfl (by decide) ?_
  refine wl_want (b := false) (q_len rfl rfl Try.underlying22) rfl rfl rfl rfl (by decide) ?_
  refine wl_want (b := false) (OpQ.to (q_bin rfl rfl rfl rfl) (congrArg Value.bool (show ((0 : Int) != 0) = false by rfl))) rfl rfl rfl rfl (by decide) ?_
  refine wl_q (q_pick rfl rfl rfl) rfl rfl (by decide) ?_
  refine wl_nil ?_
  refine fq_then ?_
  refine wc_false rfl ?_
  refine wc_skip ?_
  refine fq_then ?_
  refine wc_seq ?_
  refine wc_seq ?_
  refine wc_region ?_
  refine wl_q (q_assign rfl rfl) rfl rfl (by decide) ?_
  refine wl_nil ?_
  refine fq_then ?_
  refine wc_block ?_
  refine wc_loop (ι := Unit) (fun _ => [(5, .slice p.1 0 p.2), (6, .string (strOfNums [])), (7, .slice pp.1 0 pp.2), (9, .int .i64 0)]) (fun _ => [old w_2]) (fun _ => True) (fun _ => 0) () trivial ⟨List.forall_mem_cons.2 ⟨rfl, List.forall_mem_cons.2 ⟨rfl, List.forall_mem_cons.2 ⟨rfl, List.forall_mem_cons.2 ⟨rfl, fun _ h => (by cases h)⟩⟩⟩⟩, List.Sublist.refl _⟩ ?_
  rintro _ _
  refine wc_seq ?_
  refine wc_seq ?_
  refine wc_region ?_
  refine wl_q (q_move rfl rfl) rfl rfl (by decide) ?_
  refine wl_q (q_move rfl rfl) rfl rfl (by decide) ?_
  refine wl_q (q_len rfl rfl Try.underlying22) rfl rfl (by decide) ?_
  refine wl_q (OpQ.to (q_bin rfl rfl rfl rfl) (congrArg Value.bool (show decide ((0 : Int) < ((0 : Nat) : Int)) = false by decide))) rfl rfl (by decide) ?_
  refine wl_nil ?_
  refine fq_then ?_
  refine wc_false rfl ?_
  refine wc_exit ?_
  refine fq_then_exit ?_
  refine fq_then_exit ?_
  refine fq_block_hit ?_
  refine fq_then ?_
  refine wc_seq ?_
  refine wc_region ?_
  refine wl_q (q_move rfl rfl) rfl rfl (by decide) ?_
  refine wl_q (q_bytesStr rfl rfl Try.underlying24 Try.underlying5 Try.underlying9 (fun w1 hw1 => (hb_.below (hw1.toBelow (by simp))).2)) rfl rfl (by decide) ?_
  refine wl_q (q_move rfl rfl) rfl rfl (by decide) ?_
  refine wl_q (q_eqlStr (c := true) rfl (.inl ⟨rfl, show ((strOfNums []).toList == (strOfNums []).toList) = true by simp⟩) rfl rfl (fun w => rfl)) rfl rfl (by decide) ?_
  refine wl_q (q_assign rfl rfl) rfl rfl (by decide) ?_
  refine wl_nil ?_
  refine fq_then ?_
  refine wc_ret ?_
  refine fq_ret1 rfl rfl (fun w1 H => ?_)
  exact ⟨rfl, (by first | exact hB.next (H.toBelow (by simp)) | exact H.toBelow (by simp))⟩
end Go.Proofs.Ytdmefmeeckjcpaa.SF
end
section
namespace Go.Proofs.Ytdmefmeeckjcpaa.SF
open Go.RowKit Go.Sx Go.Proofs.Ytdmefmeeckjcpaa.PAll Go.Proofs.YtdmefmeeckjcpaaW.PrintWords Go.Proofs.YtdmefmeeckjcpaaW.PrintLast Go.Proofs.YtdmefmeeckjcpaaW.PrintMore
open Go.Proofs.Ytdmefmeeckjcpaa.Pure (joinF joinF_cons joinF_append joinF_length_le rowB rowB_length join_ev le_two)
set_option linter.unusedVariables false
set_option linter.unusedSimpArgs false
set_option maxRecDepth 100000
theorem own_all (A : Option Addr) (c : Nat) (l : List (List Int)) (w : World) (hr : Kd.C (Kd.slice 5 (Kd.int .u8)) w A l.length l) (hc : l.length ≤ c) : Calls Try.prog 3 #[.slice A l.length c] w fun e w' => e = .returned (.bool true) ∧ Below w.heap.size w w' := by
  rcases l with _ | ⟨x, l⟩
  · exact own_nil (A, c) w hr hc
  · exact own_calls (A, c) (x :: l) w hr hc (by simp)
end Go.Proofs.Ytdmefmeeckjcpaa.SF
end
section
namespace Go.Proofs.Ytdmefmeeckjcpaa.Op
open Go.RowKit Go.Proofs.YtdmefmeeckjcpaaW.PrintWords
open Go.ChangeShapes Go.WideShapes
structure Opens {α : Type} (K : Kd α) (P : Program) (t : TypeId) (ok : α → Prop) : Prop where
  sz : P.cellsOf t = K.sz
  op : ∀ {H : Type} {enc : TypeId × Value → H} {w : World} {base : Nat} {spare : Nat → Bool} {held : Bool} {fuel : Nat} {cs : List Value} {x : DataW H × List MemPlace},
    DataW.trod enc P w base spare held fuel t cs = some x → ∃ a, K.K w a cs ∧ ok a
theorem Opens.int {P : Program} {t : TypeId} (k : IntKind) (ht : P.underlying t = some (.int k)) (hc : P.cellsOf t = 1) : Opens (Kd.int k) P t (fun n => (Lit.int k n).wf = true) :=
  ⟨hc, fun h => by obtain ⟨n, rfl, _, hw⟩ := DataW.trod_int ht h; exact ⟨n, rfl, hw⟩⟩
theorem Opens.bool {P : Program} {t : TypeId} (ht : P.underlying t = some .bool) (hc : P.cellsOf t = 1) : Opens Kd.bool P t (fun _ => True) :=
  ⟨hc, fun h => by obtain ⟨b, rfl, _⟩ := DataW.trod_bool ht h; exact ⟨b, rfl, trivial⟩⟩
theorem Opens.string {P : Program} {t : TypeId} (ht : P.underlying t = some .string) (hc : P.cellsOf t = 1) : Opens Kd.string P t (fun s => s.size ≤ maxLen) :=
  ⟨hc, fun h => by obtain ⟨s, rfl, _, hw⟩ := DataW.trod_string ht h; exact ⟨s, rfl, hw⟩⟩
theorem cells_at {w : World} {base : Nat} {a : Addr} {n : Nat} {cs : List Value} (h : w.cells? base a n = some cs) : cs.length = n ∧ ∀ i u, cs[i]? = some u → w.cell? (a.add i) = some u := by
  obtain ⟨_, hl, hc⟩ := World.cells?_some h
  refine ⟨hl, fun i u hu => ?_⟩
  have hi : i < n := by have := (List.getElem?_eq_some_iff.1 hu).1; omega
  rw [hc i hi, hu]
theorem Opens.slice {α : Type} {K : Kd α} {P : Program} {t e : TypeId} {ok : α → Prop} (ht : P.underlying t = some (.slice e)) (hc : P.cellsOf t = 1) (h : Opens K P e ok) :
    Opens (Kd.slice e K) P t (fun xs => xs.length ≤ maxLen ∧ ∀ x ∈ xs, ok x) := by
  refine ⟨hc, fun {H enc w base spare held fuel cs x} hx => ?_⟩
  rcases DataW.trod_slice ht hx with ⟨rfl, _⟩ | ⟨a, len, cap, elems, rest, n, _, rfl, _, _, hl, hm, hlen, hel, _, _⟩
  · exact ⟨[], ⟨none, 0, rfl, Nat.le_refl _, rfl, by simp, fun h0 => absurd h0 (by simp)⟩, by simp, by simp⟩
  · have each : ∀ i, i < len → ∃ a', ok a' ∧ ∃ cs, cs.length = K.sz ∧ K.K w a' cs ∧ ∀ j u, cs[j]? = some u → w.cell? (a.add (i * K.sz + j)) = some u := by
      intro i hi
      have h1 := hel i hi
      rw [List.getElem?_eq_getElem (by omega), Option.bind_eq_some_iff] at h1
      obtain ⟨cs', hcs, hy⟩ := h1
      obtain ⟨a', hk, ho⟩ := h.op hy
      obtain ⟨hlc, hcell⟩ := cells_at hcs
      refine ⟨a', ho, cs', by rw [hlc, h.sz], hk, fun j u hu => ?_⟩
      have := hcell j u hu
      rwa [h.sz, Addr.add_add] at this
    have pick : ∀ m, m ≤ len → ∃ xs : List α, xs.length = m ∧ (∀ x ∈ xs, ok x) ∧ ∀ i p, xs[i]? = some p → ∃ cs, cs.length = K.sz ∧ K.K w p cs ∧ ∀ j u, cs[j]? = some u → w.cell? (a.add (i * K.sz + j)) = some u := by
      intro m
      induction m with
      | zero => intro _; exact ⟨[], rfl, by simp, by simp⟩
      | succ m ih =>
        intro hm'
        obtain ⟨xs, hxl, hxo, hxc⟩ := ih (by omega)
        obtain ⟨a', ho, hcs⟩ := each m (by omega)
        refine ⟨xs ++ [a'], by simp [hxl], fun y hy => ?_, fun i p hp => ?_⟩
        · rcases List.mem_append.1 hy with hy | hy
          · exact hxo y hy
          · rw [List.mem_singleton.1 hy]; exact ho
        · by_cases hi : i < m
          · rw [List.getElem?_append_left (by omega)] at hp
            exact hxc i p hp
          · have : i = m := by
              have := (List.getElem?_eq_some_iff.1 hp).1
              simp [hxl] at this; omega
            subst this
            rw [List.getElem?_append_right (by omega), hxl] at hp
            simp at hp
            subst hp
            exact hcs
    obtain ⟨xs, hxl, hxo, hxc⟩ := pick len (Nat.le_refl _)
    refine ⟨xs, ⟨some a, cap, by rw [hxl], by omega, rfl, by unfold maxLen at hm; omega, fun _ => ⟨a, rfl, hxc⟩⟩, by omega, hxo⟩
end Go.Proofs.Ytdmefmeeckjcpaa.Op
end
section
namespace Go.Proofs.Ytdmefmeeckjcpaa.octetOwn
open Go.ChangeShapes Go.WideShapes Go.ChangeAt Go.RowKit Go.Proofs.YtdmefmeeckjcpaaW.PrintWords
open Go.ChangeMaps (open_string shut_string)
set_option linter.unusedVariables false
theorem own : ownKnob Try.prog.godebug = none := by kernel_rfl
theorem laidOut : laidOutB Try.prog = true := by kernel_rfl
set_option maxRecDepth 100000 in
theorem lifted (os : Os) (started : os.Started) (H : Type) (enc : TypeId × Value → H) :
    ReturnsInHanded {} Try.checked os 3 .any (Rows.octetOwnSpec.pre6 enc Try.prog Try.f3 Rows.octetOwnRow.domain false) (Rows.octetOwnSpec.post enc Try.prog Try.f3 false true false false) := by
  refine returnsInHanded_of_change_sized (C := Try.checked) own started (by kernel_rfl) Try.func3
    (ChangeSpec.witness6 (enc := enc) (C := Try.checked) false ⟨#[], #[.slice none 0 0], []⟩ 8 (by kernel_rfl) (by kernel_rfl) (by kernel_rfl) (by kernel_rfl)) ?_
  intro W base args ds gs before hval0 hW hcnd hsz0 _
  have hsz : (DataW.weightsEach Try.prog (Try.f3.params.toList ++ Rows.octetOwnSpec.plain.varTypes Try.prog) (ds ++ gs)).all (· ≤ reachBytes) = true := hsz0
  have hval : ∀ (j : Nat) t v, Try.f3.params[j]? = some t → args[j]? = some v → Value.okWide Try.prog W .any base t v := hval0
  have hW' := hW
  obtain ⟨p, q, hA0, hV, rfl, hfz, hnd⟩ := hW
  have hA : DataW.TrodAll enc Try.prog W 0 (fun _ => true) true Try.f3.params.toList args.toList ds p := hA0
  rw [Try.params3] at hA hval hsz
  obtain ⟨v0, vs0, d0, ds0, p0, q0, hargs, rfl, rfl, h0, r0⟩ := trodAll_cons hA
  obtain ⟨rfl, rfl, rfl⟩ := trodAll_nil r0
  obtain rfl : args = #[v0] := by cases args; simp_all
  obtain ⟨rfl, rfl⟩ := trodVars_none hV
  obtain ⟨A0, len0, c0, rfl⟩ := okWide_slice Try.underlying22 (hval 0 22 v0 rfl rfl)
  have k0 := h0
  have lt0 : ∀ x ∈ p0, x.block < W.heap.size := by obtain ⟨m, hm⟩ := k0; exact DataW.trod_lt m _ _ _ hm
  obtain ⟨fu0, hf0⟩ := h0
  obtain ⟨l0, ⟨B0, b0, e0, hc0, hr0⟩, ok0⟩ := (Op.Opens.slice (K := Kd.slice 5 (Kd.int .u8)) Try.underlying22 (by kernel_rfl) (Op.Opens.slice (K := Kd.int .u8) Try.underlying24 (by kernel_rfl) (Op.Opens.int .u8 Try.underlying5 (by kernel_rfl)))).op hf0
  simp [Value.cells] at e0
  obtain ⟨rfl, rfl, rfl⟩ := e0
  clear hA0 hval0 hsz0
  obtain ⟨k, hk⟩ := (⟨0, trivial⟩ : ∃ k : Nat, True)
  refine (SF.own_all _ _ l0 W hr0 hc0).mono fun e W' ⟨he, bel⟩ => ?_
  subst he
  exact ⟨_, rfl, _, _, _, [], _, [], hW', trodAll_mk1 (shut_bool Try.underlying4 _), (trodAll_cons_mk (Below.trod laidOut (by kernel_rfl) (of_decide_eq_true (by kernel_rfl)) k0 bel lt0) trodAll_mk0), rfl, bel.frame _, fun h => by cases h⟩
theorem over : Rows.octetOwnRow.holds Try.pinned (OpenSpec.ofChange Rows.octetOwnSpec) :=
  OpenClaim.holds_of_wide 3 Try.f3 rfl rfl rfl rfl rfl rfl rfl ⟨rfl, rfl, rfl, rfl, rfl⟩ rfl rfl rfl rfl rfl (by kernel_rfl) Try.func3 (by kernel_rfl)
    (of_decide_eq_true (by kernel_rfl)) (by unfold Func.isWrapper; first | (rw [if_pos (by decide +kernel)]; kernel_rfl) | (rw [if_neg (by decide +kernel)]; exact ⟨rfl, rfl⟩))
    (fun os started H enc _ => lifted os started H enc)
theorem proved : Rows.OctetOwnSaid := over
#print axioms proved
end Go.Proofs.Ytdmefmeeckjcpaa.octetOwn
namespace Go.Proofs.Ytdmefmeeckjcpaa
theorem octetOwn_holds : Rows.OctetOwnSaid := octetOwn.proved
end Go.Proofs.Ytdmefmeeckjcpaa
end
