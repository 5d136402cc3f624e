/- Texts of mine, put together (no statement stands here). -/
import Derived.Test.YtbcijmpkmmcdeaaDoorCJPlays12
import Derived.Test.YtbcijmpkmmcdeaaDoorCJPlays13
import Derived.Test.YtbcijmpkmmcdeaaDoorCJPlays9
section
namespace Go.Proofs.YtbcijmpkmmcdeaaDoor.SF
open Go.RowKit Go.Sx Go.Proofs.YtbcijmpkmmcdeaaDoor.PAll Go.Proofs.YtbcijmpkmmcdeaaDoorW.PrintWords Go.Proofs.YtbcijmpkmmcdeaaDoorW.PrintLast Go.Proofs.YtbcijmpkmmcdeaaDoorW.PrintMore
open Go.Proofs.YtbcijmpkmmcdeaaDoor.Pure (le puts le_length puts_length puts_range put_ev joinF rowB_length rowB joinF_range join_ev sealed sealed_length sealed_range seal_ev)
set_option linter.unusedVariables false
set_option linter.unusedSimpArgs false
set_option maxRecDepth 100000
theorem C_at {α : Type} {k : Kd α} {W : World} {A : Option Addr} {n j : Nat} {xs : List α} {p : α} (h : Kd.C k W A n xs) (hp : xs[j]? = some p) (hn : n = xs.length) : ∃ ad cs, A = some ad ∧ k.K W p cs ∧ ∀ i u, cs[i]? = some u → W.cell? ((ad.add (j * k.sz)).add i) = some u := by
  have hj := (List.getElem?_eq_some_iff.1 hp).1
  obtain ⟨ad, e, hc⟩ := h.2.2 (by omega)
  obtain ⟨cs, hl, hK, hcell⟩ := hc j p hp
  refine ⟨ad, cs, e, hK, fun i u hu => ?_⟩
  rw [Sx.add_add]
  exact hcell i u hu
theorem C51_at {W : World} {A : Option Addr} {j : Nat} {xs : List S51} {p : S51} (h : Kd.C k51 W A xs.length xs) (hp : xs[j]? = some p) : ∃ ad, A = some ad ∧ ∀ i u, [Value.int .i64 p.f0, Value.int .i64 p.f1][i]? = some u → W.cell? ((ad.add (j * 2)).add i) = some u := by
  obtain ⟨ad, cs, e, hK, hc⟩ := C_at h hp rfl
  obtain rfl := k51_open hK
  exact ⟨ad, e, hc⟩
theorem C_of_blk {k : IntKind} {w : World} {b : Nat} {l : List Int} {T : TypeId} (h : w.heap[b]? = some (.cells (nums k l).toArray T (0, 0))) (hn : l.length ≤ 9223372036854775807) : Kd.C (Kd.int k) w (some ⟨b, 0, none⟩) l.length l := by
  refine ⟨rfl, hn, fun h0 => ⟨_, rfl, fun j p hp => ⟨[.int k p], rfl, rfl, fun i u hu => ?_⟩⟩⟩
  cases i with
  | zero =>
    cases hu
    show w.cell? ((⟨b, 0, none⟩ : Addr).add (j * 1 + 0)) = _
    rw [addr_add, cell_of_row w b _ _ T (0, 0) h]
    simp [nums, hp]
  | succ i => simp at hu
theorem C_of_blk3 {w : World} {b T : Nat} {x0 x1 x2 : List Int} {q0 q1 q2 : Gh} {n0 n1 n2 : Nat} (h : w.heap[b]? = some (.cells #[.slice q0.1 n0 q0.2, .slice q1.1 n1 q1.2, .slice q2.1 n2 q2.2] T (0, 0))) (e0 : n0 = x0.length) (e1 : n1 = x1.length) (e2 : n2 = x2.length) (h0 : RowC w q0 x0) (h1 : RowC w q1 x1) (h2 : RowC w q2 x2) : Kd.C (Kd.slice 5 (Kd.int .u8)) w (some ⟨b, 0, none⟩) 3 [x0, x1, x2] := by
  subst e0 e1 e2
  refine ⟨rfl, by decide, fun _ => ⟨_, rfl, fun j p hp => ?_⟩⟩
  have key : ∀ (x : List Int) (q : Gh), RowC w q x → w.cell? ((⟨b, 0, none⟩ : Addr).add j) = some (.slice q.1 x.length q.2) → ∃ cs : List Value, cs.length = (Kd.slice 5 (Kd.int .u8)).sz ∧ (Kd.slice 5 (Kd.int .u8)).K w x cs ∧ ∀ i u, cs[i]? = some u → w.cell? ((⟨b, 0, none⟩ : Addr).add (j * (Kd.slice 5 (Kd.int .u8)).sz + i)) = some u := by
    intro x q hq hc
    refine ⟨[.slice q.1 x.length q.2], rfl, ⟨q.1, q.2, rfl, hq.1, hq.2⟩, fun i u hu => ?_⟩
    cases i with
    | zero =>
      cases hu
      show w.cell? ((⟨b, 0, none⟩ : Addr).add (j * 1 + 0)) = _
      rw [Nat.mul_one, Nat.add_zero]; exact hc
    | succ i => simp at hu
  have hcell : ∀ j, w.cell? ((⟨b, 0, none⟩ : Addr).add j) = [Value.slice q0.1 x0.length q0.2, .slice q1.1 x1.length q1.2, .slice q2.1 x2.length q2.2][j]? := fun j => by
    rw [addr_add, cell_of_row w b _ _ T (0, 0) h]; simp
  rcases j with _ | _ | _ | j
  · cases hp; exact key _ _ h0 (by rw [hcell]; rfl)
  · cases hp; exact key _ _ h1 (by rw [hcell]; rfl)
  · cases hp; exact key _ _ h2 (by rw [hcell]; rfl)
  · simp at hp
theorem oput_calls {sz n c : Nat} {A : Option Addr} {l : List Int} {w0 w : World} {hp : List Sx.Item} (h1 : 1 ≤ sz) (h8 : sz ≤ 8) (hn : (puts sz l).length = n) (hl : l.length ≤ 1000000) (hw : HeapOK w0 hp w) (hr : Kd.C (Kd.int .u64) w A l.length l) (hc : l.length ≤ c) :
    Calls Tryd.prog 51 #[.int .i64 sz, .slice A l.length c] w fun e w' => ∃ i : Gh, e = .returned (.slice i.1 n i.2) ∧ HeapOK w0 (.own 0 5 1 (.slice i.1 n i.2) n (nums .u8 (puts sz l)) :: hp) w' := by
  obtain ⟨K, hK⟩ := put_ev sz h1 h8 l (by omega)
  refine (octet_Put.calls K sz A c l _ w hr hc (hK K (Nat.le_refl _))).mono ?_
  rintro e w' ⟨v, rfl, hR, hb⟩
  obtain ⟨A2, c2, rfl, hc2, hC⟩ := Kd.R_reads hR
  subst hn
  exact ⟨(A2, c2), rfl, hw.newOwn hb (own_of_R hR)⟩
theorem ojoin_calls {c m : Nat} {A : Option Addr} {l : List (List Int)} {w0 w : World} {hp : List Sx.Item} (hr : ∀ r ∈ l, r.length ≤ 65535) (hm : l.length = m) (hl : m ≤ 1000000) (hw : HeapOK w0 hp w) (hC : Kd.C (Kd.slice 5 (Kd.int .u8)) w A m l) (hc : m ≤ c) :
    Calls Tryd.prog 53 #[.slice A m c] w fun e w' => ∃ i : Gh, e = .returned (.slice i.1 (joinF l).length i.2) ∧ HeapOK w0 (.own 0 5 1 (.slice i.1 (joinF l).length i.2) (joinF l).length (nums .u8 (joinF l)) :: hp) w' := by
  subst hm
  obtain ⟨K, hK⟩ := join_ev l hr hl
  refine (octet_Join.calls K A c l _ w hC hc (hK K (Nat.le_refl _))).mono ?_
  rintro e w' ⟨v, rfl, hR, hb⟩
  obtain ⟨A2, c2, rfl, hc2, hC⟩ := Kd.R_reads hR
  exact ⟨(A2, c2), rfl, hw.newOwn hb (own_of_R hR)⟩
theorem oseal_calls {q : Gh} {l : List Int} {w0 w : World} {hp : List Sx.Item} (hb : ∀ x ∈ l, 0 ≤ x ∧ x ≤ 255) (hn : l.length ≤ 100000) (hw : HeapOK w0 hp w) (hr : RowC w q l) (hh : Half w) :
    Calls Tryd.prog 52 #[.slice q.1 l.length q.2] w fun e w' => ∃ i : Gh, e = .returned (.slice i.1 (sealed l).length i.2) ∧ HeapOK w0 (.own 0 5 1 (.slice i.1 (sealed l).length i.2) (sealed l).length (nums .u8 (sealed l)) :: hp) w' := by
  obtain ⟨K, hK⟩ := seal_ev l hb hn
  refine (crc_Seal.calls K (fun k_ => k_ < w.heap.size) q.1 q.2 l _ w (Kd.V_mk hr.1 (Kd.C_F (Kd.heap_int .u8) hr.2)) (hK K (Nat.le_refl _)) hh).mono ?_
  rintro e w' ⟨v, rfl, hR, hb⟩
  obtain ⟨A2, c2, rfl, hc2, hC⟩ := Kd.R_reads hR
  exact ⟨(A2, c2), rfl, hw.newOwn hb (own_of_R hR)⟩
theorem rowC_of_own {w : World} {base n : Nat} {q : Gh} {l : List Int} (h : w.ownsRow base 5 1 (.slice q.1 n q.2) n (nums .u8 l)) (hn : n = l.length) (hl : l.length ≤ 9223372036854775807) : RowC w q l := by
  subst hn
  exact ⟨own_cap h, C_of_own h hl⟩
def pB (p : S51) : List Int := puts 4 [IntKind.u64.wrap p.f0, IntKind.u64.wrap p.f1]
def pBs (l : List S51) : List Int := l.flatMap pB
theorem pB_length (p : S51) : (pB p).length = 8 := by unfold pB; rw [puts_length]; rfl
theorem pBs_length (l : List S51) : (pBs l).length = 8 * l.length := by
  induction l with
  | nil => rfl
  | cons p l ih => unfold pBs at ih ⊢; rw [List.flatMap_cons, List.length_append, ih, pB_length, List.length_cons]; omega
theorem pBs_take {l : List S51} {j : Nat} {p : S51} (h : l[j]? = some p) : pBs (l.take (j + 1)) = pBs (l.take j) ++ pB p := by
  unfold pBs
  rw [List.take_add_one, h]
  simp
theorem pBs_range (l : List S51) : ∀ x ∈ pBs l, 0 ≤ x ∧ x ≤ 255 := by
  intro x hx
  obtain ⟨p, _, hp⟩ := List.mem_flatMap.1 hx
  exact puts_range 4 _ x hp
def jrows (b m : Int) (l : List S51) (seq : Int) : List (List Int) := [puts 8 [seq], puts 4 [IntKind.u64.wrap b, IntKind.u64.wrap m], pBs l]
def jput (b m : Int) (l : List S51) (seq : Int) : List Int := sealed (joinF (jrows b m l seq))
theorem jrows_length (b m : Int) (l : List S51) (seq : Int) (hl : l.length ≤ 1000) : ∀ r ∈ jrows b m l seq, r.length ≤ 8000 := by
  intro r hr
  simp only [jrows, List.mem_cons, List.not_mem_nil, or_false] at hr
  rcases hr with rfl | rfl | rfl
  · rw [puts_length]; exact of_decide_eq_true rfl
  · rw [puts_length]; exact of_decide_eq_true rfl
  · rw [pBs_length]; omega
theorem jrows_range (b m : Int) (l : List S51) (seq : Int) : ∀ r ∈ jrows b m l seq, ∀ x ∈ r, 0 ≤ x ∧ x ≤ 255 := by
  intro r hr
  simp only [jrows, List.mem_cons, List.not_mem_nil, or_false] at hr
  rcases hr with rfl | rfl | rfl
  · exact puts_range _ _
  · exact puts_range _ _
  · exact pBs_range l
theorem wrap_nat {n : Nat} (h : n + 1 < 9223372036854775808) : IntKind.i64.wrap ((n : Int) + 1) = ((n + 1 : Nat) : Int) := by
  simp only [IntKind.wrap, IntKind.signed, IntKind.bits]; simp; omega
theorem join3_length (b m : Int) (l : List S51) (seq : Int) : (joinF (jrows b m l seq)).length = 22 + 8 * l.length := by
  simp only [joinF, jrows, List.flatMap_cons, List.flatMap_nil, List.length_append, rowB_length, puts_length, pBs_length, List.length_cons, List.length_nil]
  omega
set_option maxHeartbeats 1000000 in
theorem Put_calls (bu ma cr seq : Int) (A : Option Addr) (c : Nat) (l : List S51) (w : World) (hr : Kd.C k51 w A l.length l) (hc : l.length ≤ c) (hl : l.length ≤ 1000) (hh : Half w) :
    Calls Tryd.prog 25 #[.agg #[.int .i64 bu, .int .i64 ma, .int .i64 cr, .slice A l.length c], .int .u64 seq] w fun e w' => ∃ i : Gh, e = .returned (.slice i.1 (jput bu ma l seq).length i.2) ∧ HeapOK w [.own 0 5 1 (.slice i.1 (jput bu ma l seq).length i.2) (jput bu ma l seq).length (nums .u8 (jput bu ma l seq)), old w] w' := by
  refine enter (w0 := w) (hp := [old w]) (env := [(0, .agg #[.int .i64 bu, .int .i64 ma, .int .i64 cr, .slice A l.length c]), (1, .int .u64 seq)]) Tryd.func25 rfl 41 rfl (by simp) rfl (HeapOK.start _) ?_
  refine wc_seq ?_
  refine wc_region ?_
  refine wl_box rfl rfl rfl (by decide) rfl rfl (fun b1 => ?_)
  refine wl_q (q_assign rfl rfl) rfl rfl (by decide) ?_
  refine wl_nil ?_
  refine fq_then ?_
  refine wc_seq ?_
  refine wc_region ?_
  refine wl_q (q_assign rfl rfl) rfl rfl (by decide) ?_
  refine wl_nil ?_
  refine fq_then ?_
  refine wc_seq ?_
  refine wc_seq ?_
  refine wc_region ?_
  refine wl_q (q_fa (o1 := 3) rfl rfl Fo32_3 rfl) rfl rfl (by decide) ?_
  refine wl_q (q_load rfl rfl Mn30 (reads1 (i := 0) rfl rfl)) rfl rfl (by decide) ?_
  refine wl_q (q_len rfl rfl Tryd.underlying30) rfl rfl (by decide) ?_
  refine wl_q (q_move rfl rfl) rfl rfl (by decide) ?_
  refine wl_nil ?_
  refine fq_then ?_
  refine wc_block ?_
  refine wc_own (E := 5) (sz := 1) ?_
  refine wc_loop (ι := (Nat × Gh)) (fun i => [(1, .int .u64 seq), (2, .pointer (some ⟨b1, 0, none⟩)), (9, .slice A l.length c), (10, .int .i64 (l.length : Nat)), (11, .int .i64 (i.1 : Nat)), (5, .slice i.2.1 (8 * i.1) i.2.2)]) (fun i => [.own 0 5 1 (.slice i.2.1 (8 * i.1) i.2.2) (8 * i.1) (nums .u8 (pBs (l.take i.1))), .blk b1 [.int .i64 bu, .int .i64 ma, .int .i64 cr, .slice A l.length c] 32, old w]) (fun i => i.1 ≤ l.length) (fun i => l.length - i.1) (0, (none, 0)) (Nat.zero_le _) ⟨List.forall_mem_cons.2 ⟨rfl, List.forall_mem_cons.2 ⟨rfl, List.forall_mem_cons.2 ⟨rfl, List.forall_mem_cons.2 ⟨rfl, List.forall_mem_cons.2 ⟨rfl, List.forall_mem_cons.2 ⟨rfl, fun _ h => (by cases h)⟩⟩⟩⟩⟩⟩, List.Sublist.refl _⟩ ?_
  rintro ⟨j, q⟩ hj
  simp only at hj ⊢
  refine wc_seq ?_
  refine wc_region ?_
  refine wl_q (q_bin rfl rfl rfl rfl) rfl rfl (by decide) ?_
  refine wl_nil ?_
  refine fq_then ?_
  refine wc_seq ?_
  refine wc_cond rfl (fun h12 => ?_) (fun h12 => ?_)
  · skip
    have q12 := h12
    try simp only [decide_eq_true_eq, decide_eq_false_iff_not, beq_iff_eq, beq_eq_false_iff_ne, bne_iff_ne, ne_eq, bne_eq_false_iff_eq, Int.not_lt, Int.not_le] at q12
    obtain ⟨p, hp⟩ : ∃ p, l[j]? = some p := ⟨_, List.getElem?_eq_getElem (by omega)⟩
    obtain ⟨ad, rfl, hrd⟩ := C51_at hr hp
    have wj : IntKind.i64.wrap ((j : Int) + 1) = ((j + 1 : Nat) : Int) := wrap_nat (by omega)
    refine wc_skip ?_
    refine fq_then ?_
    refine wc_seq ?_
    refine wc_block ?_
    refine wc_seq ?_
    refine wc_region ?_
    refine wl_q (q_index rfl rfl rfl Tryd.underlying30 Sz51 (by omega) (by omega)) rfl rfl (by decide) ?_
    refine wl_q (q_loadA (cs := [.int .i64 p.f0, .int .i64 p.f1]) rfl rfl Mn51 Sz51 rfl (reads_old (by simp) (fun i u hu => hrd i u hu))) rfl rfl (by decide) ?_
    refine wl_alloc rfl rfl rfl (by decide) Zr51 (fun b2 => ?_)
    refine wl_store (i := 0) rfl rfl rfl rfl rfl rfl Sz51 rfl rfl (by simp) (by simp [Value.oneCell']) (by first | (simp only [List.take_succ_cons, List.take_zero, List.take_nil, List.drop_succ_cons, List.drop_zero, List.drop_nil, List.nil_append, List.cons_append, List.append_nil, List.length_cons, List.length_nil, Nat.reduceAdd, Nat.zero_add]; rfl) | rfl) (by first | (simp only [List.set_cons_zero, List.set_cons_succ]; rfl) | rfl) ?_
    refine wl_nil ?_
    refine fq_then ?_
    refine wc_region ?_
    refine wl_q (q_move rfl rfl) rfl rfl (by decide) ?_
    refine wl_q (q_fa (o1 := 0) rfl rfl Fo51_0 rfl) rfl rfl (by decide) ?_
    refine wl_q (q_load rfl rfl Mn3 (reads1 (i := 0) rfl rfl)) rfl rfl (by decide) ?_
    refine wl_q (q_conv rfl rfl Tryd.underlying3 Tryd.underlying53) rfl rfl (by decide) ?_
    refine wl_q (q_fa (o1 := 1) rfl rfl Fo51_1 rfl) rfl rfl (by decide) ?_
    refine wl_q (q_load rfl rfl Mn3 (reads1 (i := 0) rfl rfl)) rfl rfl (by decide) ?_
    refine wl_q (q_conv rfl rfl Tryd.underlying3 Tryd.underlying53) rfl rfl (by decide) ?_
    refine wl_buildSlice rfl rfl rfl (by decide) rfl Tryd.underlying100 (built_parts Sz53 (by decide) Zs53 (by simp [Value.cells]) rfl (by decide) (by decide) rfl) (fun b3 => ?_)
    refine wl_call (ι := Gh) (fun i => .slice i.1 8 i.2) (fun i => .own 0 5 1 (.slice i.1 8 i.2) 8 (nums .u8 (puts 4 [IntKind.u64.wrap p.f0, IntKind.u64.wrap p.f1])) :: _) (fun _ => True) rfl rfl rfl (by decide) En51 rfl (fun w1 hw1 => (oput_calls (sz := 4) (l := [IntKind.u64.wrap p.f0, IntKind.u64.wrap p.f1]) (by decide) (by decide) (by rw [puts_length]; rfl) (of_decide_eq_true rfl) hw1 (C_of_blk (T := 53) (hw1.get (i := 0) rfl) (of_decide_eq_true rfl)) (of_decide_eq_true rfl)).mono (fun e w' ⟨i, h⟩ => ⟨i, trivial, h⟩)) (fun pr _ => ?_)
    refine wl_appendR (i := 3) (news := nums .u8 (puts 4 [IntKind.u64.wrap p.f0, IntKind.u64.wrap p.f1])) rfl rfl rfl (by decide) Tryd.underlying22 Ap5 (by decide) rfl rfl rfl (fun w1 hw1 h0 => (by (obtain ⟨ad, hA, hc⟩ := own_cell (hw1.get (i := 0) rfl) (by decide); exact ⟨ad, hA h0, hc⟩))) (by simp [nums, puts_length]) (fun u hu => by (unfold nums at hu; obtain ⟨x, _, rfl⟩ := List.mem_map.1 hu; rfl)) (by unfold maxLen; omega) (by omega) (fun v24 => ?_)
    refine wl_ownForm (i := 3) rfl (fun A24 c24 e24 f24 => ?_)
    subst e24
    refine wl_q (q_assign rfl rfl) rfl rfl (by decide) ?_
    refine wl_nil ?_
    refine fq_block ?_
    refine fq_then ?_
    refine wc_region ?_
    refine wl_q (q_bin rfl rfl rfl rfl) rfl rfl (by decide) ?_
    refine wl_q (q_move rfl rfl) rfl rfl (by decide) ?_
    refine wl_nil ?_
    rw [show nums .u8 (pBs (l.take j)) ++ nums .u8 (puts 4 [IntKind.u64.wrap p.f0, IntKind.u64.wrap p.f1]) = nums .u8 (pBs (l.take (j + 1))) by rw [pBs_take hp]; exact (List.map_append ..).symm]
    refine fq_next (j + 1, (A24, c24)) (show j + 1 ≤ l.length by omega) (show l.length - (j + 1) < l.length - j by omega) ⟨List.forall_mem_cons.2 ⟨rfl, List.forall_mem_cons.2 ⟨rfl, List.forall_mem_cons.2 ⟨rfl, List.forall_mem_cons.2 ⟨rfl, List.forall_mem_cons.2 ⟨(show some (Value.int .i64 (IntKind.i64.wrap ((j : Int) + 1))) = some (Value.int .i64 ((j + 1 : Nat) : Int)) from by rw [wj]), List.forall_mem_cons.2 ⟨rfl, fun _ h => (by cases h)⟩⟩⟩⟩⟩⟩, List.Sublist.cons _ (List.Sublist.cons _ (List.Sublist.cons _ (List.Sublist.cons_cons _ (List.Sublist.cons_cons _ (List.Sublist.cons_cons _ (List.Sublist.refl []))))))⟩
  · skip
    have q12 := h12
    try simp only [decide_eq_true_eq, decide_eq_false_iff_not, beq_iff_eq, beq_eq_false_iff_ne, bne_iff_ne, ne_eq, bne_eq_false_iff_eq, Int.not_lt, Int.not_le] at q12
    obtain rfl : j = l.length := by omega
    rw [List.take_of_length_le (Nat.le_refl _)]
    refine wc_exit ?_
    refine fq_then_exit ?_
    refine fq_then_exit ?_
    refine fq_block_hit ?_
    refine fq_then ?_
    refine wc_seq ?_
    refine wc_any Fol (any_drawG (ι := Gh) 16 1 [(1, fun X => [.blk (X 1).2 _ 53]), (2, fun X => [Sx.Item.own 0 5 1 (.slice (X 2).1 8 (X 2).2) 8 (nums .u8 (puts 8 [seq]))]), (9, fun X => [.blk (X 9).2 _ 53]), (10, fun X => [Sx.Item.own 0 5 1 (.slice (X 10).1 8 (X 10).2) 8 (nums .u8 (puts 4 [IntKind.u64.wrap bu, IntKind.u64.wrap ma]))]), (12, fun X => [Sx.Item.blk (X 12).2 [.slice (X 2).1 8 (X 2).2, .slice (X 10).1 8 (X 10).2, .slice q.1 (8 * l.length) q.2] 22]), (13, fun X => [Sx.Item.own 0 5 1 (.slice (X 13).1 (joinF (jrows bu ma l seq)).length (X 13).2) (joinF (jrows bu ma l seq)).length (nums .u8 (joinF (jrows bu ma l seq)))]), (14, fun X => [Sx.Item.own 0 5 1 (.slice (X 14).1 (sealed (joinF (jrows bu ma l seq))).length (X 14).2) (sealed (joinF (jrows bu ma l seq))).length (nums .u8 (sealed (joinF (jrows bu ma l seq))))])] [⟨[], [], []⟩, ⟨[], [], []⟩, ⟨[1], [], [1]⟩, ⟨[], [], []⟩, ⟨[], [16], []⟩, ⟨[], [], []⟩, ⟨[], [], []⟩, ⟨[], [16], []⟩, ⟨[], [], []⟩, ⟨[], [], []⟩, ⟨[9], [], [1, 2, 9]⟩, ⟨[], [], []⟩, ⟨[], [], [1, 2, 9, 10]⟩, ⟨[2, 10, 12, 16], [], [1, 2, 9, 10, 12]⟩, ⟨[13], [], [1, 2, 9, 10, 12, 13]⟩, ⟨[], [], [1, 2, 9, 10, 12, 13, 14]⟩] (by kernel_rfl) (ChainG.yield [] [] (fun X => q_move rfl rfl) rfl rfl (fun _ => rfl) (fun _ _ => rfl) (fun X Y h0 h => ⟨by first | rfl | simp only [h0], by first | rfl | simp only [h0]⟩) (ChainG.mk (fun b => .slice (some ⟨b, 0, none⟩) 1 1) [] (fun X => om_buildSlice rfl rfl Tryd.underlying100 (built_one Sz53 (by decide) Zs53 (by decide) rfl rfl)) rfl rfl (fun _ => rfl) (fun _ _ => rfl) (fun X Y h0 h => ⟨by first | rfl | simp only [h0], by first | rfl | (show ([.blk (X 1).2 _ 53] : List Sx.Item) = [.blk (Y 1).2 _ 53]; simp only [h0])⟩) (ChainG.ope (fun X => .slice (X 2).1 8 (X 2).2) [1] [1] (fun X => oe_call rfl En51 rfl (fun R w1 hw1 => (oput_calls (sz := 8) (n := 8) (l := [seq]) (by decide) (by decide) (by rw [puts_length]; rfl) (of_decide_eq_true rfl) hw1 (C_of_blk (T := 53) (hw1.get (i := 0) rfl) (of_decide_eq_true rfl)) (of_decide_eq_true rfl)).mono (fun e w' ⟨i, h1, h2⟩ => ⟨i, h1, h2.sub (List.Sublist.cons_cons _ (List.sublist_cons_self _ _))⟩))) rfl rfl (fun X Y h0 h => ⟨by first | rfl | (show (.slice (X 2).1 8 (X 2).2 : Value) = .slice (Y 2).1 8 (Y 2).2; simp only [h0, h 1 (by decide)]), by first | rfl | (show ([Sx.Item.own 0 5 1 (.slice (X 2).1 8 (X 2).2) 8 (nums .u8 (puts 8 [seq]))] : List Sx.Item) = [Sx.Item.own 0 5 1 (.slice (Y 2).1 8 (Y 2).2) 8 (nums .u8 (puts 8 [seq]))]; simp only [h0, h 1 (by decide)])⟩) (ChainG.yield [] [] (fun X => q_fa (o1 := 0) rfl rfl Fo32_0 rfl) rfl rfl (fun _ => rfl) (fun _ _ => rfl) (fun X Y h0 h => ⟨by first | rfl | simp only [h0], by first | rfl | simp only [h0]⟩) (ChainG.yield [16] [] (fun X => q_load rfl rfl Mn3 (reads1 (i := 1) rfl rfl)) rfl rfl (fun _ => rfl) (fun _ _ => rfl) (fun X Y h0 h => ⟨by first | rfl | simp only [h0], by first | rfl | simp only [h0]⟩) (ChainG.yield [] [] (fun X => q_conv rfl rfl Tryd.underlying3 Tryd.underlying53) rfl rfl (fun _ => rfl) (fun _ _ => rfl) (fun X Y h0 h => ⟨by first | rfl | simp only [h0], by first | rfl | simp only [h0]⟩) (ChainG.yield [] [] (fun X => q_fa (o1 := 1) rfl rfl Fo32_1 rfl) rfl rfl (fun _ => rfl) (fun _ _ => rfl) (fun X Y h0 h => ⟨by first | rfl | simp only [h0], by first | rfl | simp only [h0]⟩) (ChainG.yield [16] [] (fun X => q_load rfl rfl Mn3 (reads1 (i := 1) rfl rfl)) rfl rfl (fun _ => rfl) (fun _ _ => rfl) (fun X Y h0 h => ⟨by first | rfl | simp only [h0], by first | rfl | simp only [h0]⟩) (ChainG.yield [] [] (fun X => q_conv rfl rfl Tryd.underlying3 Tryd.underlying53) rfl rfl (fun _ => rfl) (fun _ _ => rfl) (fun X Y h0 h => ⟨by first | rfl | simp only [h0], by first | rfl | simp only [h0]⟩) (ChainG.mk (fun b => .slice (some ⟨b, 0, none⟩) 2 2) [] (fun X => om_buildSlice rfl rfl Tryd.underlying100 (built_parts Sz53 (by decide) Zs53 (by simp [Value.cells]) rfl (by decide) (by decide) rfl)) rfl rfl (fun _ => rfl) (fun _ _ => rfl) (fun X Y h0 h => ⟨by first | rfl | simp only [h0], by first | rfl | (show ([.blk (X 9).2 _ 53] : List Sx.Item) = [.blk (Y 9).2 _ 53]; simp only [h0])⟩) (ChainG.ope (fun X => .slice (X 10).1 8 (X 10).2) [9] [1, 2, 9] (fun X => oe_call rfl En51 rfl (fun R w1 hw1 => (oput_calls (sz := 4) (n := 8) (l := [IntKind.u64.wrap bu, IntKind.u64.wrap ma]) (by decide) (by decide) (by rw [puts_length]; rfl) (of_decide_eq_true rfl) hw1 (C_of_blk (T := 53) (hw1.get (i := 0) rfl) (of_decide_eq_true rfl)) (of_decide_eq_true rfl)).mono (fun e w' ⟨i, h1, h2⟩ => ⟨i, h1, h2.sub (List.Sublist.cons_cons _ (List.sublist_cons_self _ _))⟩))) rfl rfl (fun X Y h0 h => ⟨by first | rfl | (show (.slice (X 10).1 8 (X 10).2 : Value) = .slice (Y 10).1 8 (Y 10).2; simp only [h0, h 1 (by decide), h 2 (by decide), h 9 (by decide)]), by first | rfl | (show ([Sx.Item.own 0 5 1 (.slice (X 10).1 8 (X 10).2) 8 (nums .u8 (puts 4 [IntKind.u64.wrap bu, IntKind.u64.wrap ma]))] : List Sx.Item) = [Sx.Item.own 0 5 1 (.slice (Y 10).1 8 (Y 10).2) 8 (nums .u8 (puts 4 [IntKind.u64.wrap bu, IntKind.u64.wrap ma]))]; simp only [h0, h 1 (by decide), h 2 (by decide), h 9 (by decide)])⟩) (ChainG.yield [] [] (fun X => q_move rfl rfl) rfl rfl (fun _ => rfl) (fun _ _ => rfl) (fun X Y h0 h => ⟨by first | rfl | simp only [h0], by first | rfl | simp only [h0]⟩) (ChainG.mk (fun b => .slice (some ⟨b, 0, none⟩) 3 3) [1, 2, 9, 10] (fun X => om_buildSlice rfl rfl Tryd.underlying68 (built_parts Sz22 (by decide) Zs22 (by simp [Value.cells]) rfl (by decide) (by decide) rfl)) rfl rfl (fun _ => rfl) (fun _ _ => rfl) (fun X Y h0 h => ⟨by first | rfl | simp only [h0, h 1 (by decide), h 2 (by decide), h 9 (by decide), h 10 (by decide)], by first | rfl | (show ([Sx.Item.blk (X 12).2 [.slice (X 2).1 8 (X 2).2, .slice (X 10).1 8 (X 10).2, .slice q.1 (8 * l.length) q.2] 22] : List Sx.Item) = [Sx.Item.blk (Y 12).2 [.slice (Y 2).1 8 (Y 2).2, .slice (Y 10).1 8 (Y 10).2, .slice q.1 (8 * l.length) q.2] 22]; simp only [h0, h 1 (by decide), h 2 (by decide), h 9 (by decide), h 10 (by decide)])⟩) (ChainG.ope (fun X => .slice (X 13).1 (joinF (jrows bu ma l seq)).length (X 13).2) [2, 10, 12, 16] [1, 2, 9, 10, 12] (fun X => oe_call rfl En53 rfl (fun R w1 hw1 => (ojoin_calls (m := 3) (l := (jrows bu ma l seq)) (fun r hr => Nat.le_trans (jrows_length _ _ _ _ hl r hr) (by decide)) rfl (by decide) hw1 (C_of_blk3 (T := 22) (q0 := (X 2)) (q1 := (X 10)) (q2 := q) (hw1.get (i := 2) rfl) (by rw [puts_length]; rfl) (by rw [puts_length]; rfl) (by rw [pBs_length]) (rowC_of_own (hw1.get (i := 0) rfl) (by rw [puts_length]; rfl) (by rw [puts_length]; exact of_decide_eq_true rfl)) (rowC_of_own (hw1.get (i := 1) rfl) (by rw [puts_length]; rfl) (by rw [puts_length]; exact of_decide_eq_true rfl)) (rowC_of_own (hw1.get (i := 3) rfl) (by rw [pBs_length]) (by rw [pBs_length]; omega))) (by decide)).mono (fun e w' ⟨i, h1, h2⟩ => ⟨i, h1, h2.sub (List.Sublist.cons_cons _ (List.sublist_append_right [_, _, _, _] _))⟩))) rfl rfl (fun X Y h0 h => ⟨by first | rfl | (show (.slice (X 13).1 (joinF (jrows bu ma l seq)).length (X 13).2 : Value) = .slice (Y 13).1 (joinF (jrows bu ma l seq)).length (Y 13).2; simp only [h0, h 1 (by decide), h 2 (by decide), h 9 (by decide), h 10 (by decide), h 12 (by decide)]), by first | rfl | (show ([Sx.Item.own 0 5 1 (.slice (X 13).1 (joinF (jrows bu ma l seq)).length (X 13).2) (joinF (jrows bu ma l seq)).length (nums .u8 (joinF (jrows bu ma l seq)))] : List Sx.Item) = [Sx.Item.own 0 5 1 (.slice (Y 13).1 (joinF (jrows bu ma l seq)).length (Y 13).2) (joinF (jrows bu ma l seq)).length (nums .u8 (joinF (jrows bu ma l seq)))]; simp only [h0, h 1 (by decide), h 2 (by decide), h 9 (by decide), h 10 (by decide), h 12 (by decide)])⟩) (ChainG.ope (fun X => .slice (X 14).1 (sealed (joinF (jrows bu ma l seq))).length (X 14).2) [13] [1, 2, 9, 10, 12, 13] (fun X => oe_call rfl En52 rfl (fun R w1 hw1 => (oseal_calls (q := (X 13)) (l := joinF (jrows bu ma l seq)) (joinF_range _ (jrows_range _ _ _ _)) (by rw [join3_length]; omega) hw1 (rowC_of_own (hw1.get (i := 0) rfl) rfl (by rw [join3_length]; omega)) (hh.keep (hw1.toBelow (by simp)))).mono (fun e w' ⟨i, h1, h2⟩ => ⟨i, h1, h2.sub (List.Sublist.cons_cons _ (List.sublist_cons_self _ _))⟩))) rfl rfl (fun X Y h0 h => ⟨by first | rfl | (show (.slice (X 14).1 (sealed (joinF (jrows bu ma l seq))).length (X 14).2 : Value) = .slice (Y 14).1 (sealed (joinF (jrows bu ma l seq))).length (Y 14).2; simp only [h0, h 1 (by decide), h 2 (by decide), h 9 (by decide), h 10 (by decide), h 12 (by decide), h 13 (by decide)]), by first | rfl | (show ([Sx.Item.own 0 5 1 (.slice (X 14).1 (sealed (joinF (jrows bu ma l seq))).length (X 14).2) (sealed (joinF (jrows bu ma l seq))).length (nums .u8 (sealed (joinF (jrows bu ma l seq))))] : List Sx.Item) = [Sx.Item.own 0 5 1 (.slice (Y 14).1 (sealed (joinF (jrows bu ma l seq))).length (Y 14).2) (sealed (joinF (jrows bu ma l seq))).length (nums .u8 (sealed (joinF (jrows bu ma l seq))))]; simp only [h0, h 1 (by decide), h 2 (by decide), h 9 (by decide), h 10 (by decide), h 12 (by decide), h 13 (by decide)])⟩) (ChainG.yield [] [1, 2, 9, 10, 12, 13, 14] (fun X => q_assign rfl rfl) rfl rfl (fun _ => rfl) (fun _ _ => rfl) (fun X Y h0 h => ⟨by first | rfl | simp only [h0, h 1 (by decide), h 2 (by decide), h 9 (by decide), h 10 (by decide), h 12 (by decide), h 13 (by decide), h 14 (by decide)], by first | rfl | simp only [h0, h 1 (by decide), h 2 (by decide), h 9 (by decide), h 10 (by decide), h 12 (by decide), h 13 (by decide), h 14 (by decide)]⟩) (ChainG.nil _ _))))))))))))))))) rfl rfl (fun X => [_, _, _]) (fun _ => rfl) (fun X => ?_))
    generalize (X 1).2 = b4
    generalize (X 9).2 = b5
    generalize X 14 = qs
    refine wl_nil ?_
    refine fq_then ?_
    refine wc_ret ?_
    refine fq_ret1 rfl rfl (fun w1 H => ?_)
    exact ⟨qs, rfl, H.sub (by first | exact List.Sublist.cons_cons _ (List.sublist_cons_self _ _) | exact List.Sublist.cons_cons _ (List.Sublist.cons _ (List.Sublist.refl _)))⟩
end Go.Proofs.YtbcijmpkmmcdeaaDoor.SF
end
section
namespace Go.Sx
open Go.RowKit
set_option linter.unusedVariables false
set_option linter.unusedSimpArgs false
section
variable {P : Program} {ops : Array Oper} {Q : Exit → Act → World → Prop} {w0 : World} {N : Fr} {l : List Oper} {env : Env} {hp : List Item} {o : Oper}
theorem HeapOK.lift {w w' : World} {res : List Item} (hw : HeapOK w0 hp w) (h : HeapOK w (res ++ [old w]) w') (hs : res.all (fun x => !x.sh) = true := by rfl) : HeapOK w0 (res ++ hp) w' := by
  have hb := h.toBelow (List.mem_append_right _ List.mem_cons_self)
  have h1 := hw.below hb
  have hap := List.pairwise_append.1 h.apart
  have far : ∀ x ∈ res, ∀ k, x.foot k → w.heap.size ≤ k := fun x hx k hk => by
    have hxs : x.sh = false := by simpa using List.all_eq_true.1 hs x hx
    rcases Nat.lt_or_ge k w.heap.size with h2 | h2
    · exact absurd (show (old w).foot k from h2) ((hap.2.2 x hx _ List.mem_cons_self).l hxs k hk)
    · exact h2
  refine ⟨h1.os, h1.tape, h1.output, h1.size, fun x hx => ?_, fun x hx => ?_, List.pairwise_append.2 ⟨hap.1, h1.apart, fun x hx y hy => .inr fun k hk hk2 => ?_⟩⟩
  · rcases List.mem_append.1 hx with hx | hx
    · exact h.ok x (List.mem_append_left _ hx)
    · exact h1.ok x hx
  · rcases List.mem_append.1 hx with hx | hx
    · exact h.bound x (List.mem_append_left _ hx)
    · exact h1.bound x hx
  · have := far x hx k hk
    have := hw.bound y hy k hk2
    omega
theorem HeapOK.lift1 {w w' : World} {x : Item} (hw : HeapOK w0 hp w) (h : HeapOK w [x, old w] w') (hs : x.sh = false := by rfl) : HeapOK w0 (x :: hp) w' := HeapOK.lift (res := [x]) hw h (by simp [hs])
theorem q_indexV {T E : TypeId} {x y : Operand} {n sz : Nat} {k : IntKind} {i : Int} {cs : Array Value} {v : Value} (ho : o.op = .index T x y) (hx : evE x env = some (.agg cs)) (hy : evE y env = some (.int k i)) (hT : P.underlying T = some (.array n E)) (hs : P.sizeIs E = some sz) (hm : P.manyB E = some false) (h0 : 0 ≤ i) (h1 : i < n) (hv : cs[i.toNat * sz]? = some v) : OpQ P o env w0 hp v := q_run fun a w he hh => by
  simp [execOp, ho, ev_of he hx, ev_of he hy, Instr.index, asIntOf, run_underlying hT, run_sizeOf hs, h0, h1, part, run_isAgg hm, hv]
theorem fq_ctt {fn : Func} {R : Ending → World → Prop} {t u u2 : Nat} {T : TypeId} {b i : Nat} {cs : List Value} {x x2 : Value} {T' : TypeId} {n : Nat} {e : Exit} (he : e = .ret ∨ e = .normal) (hr : fn.results = #[.cell t T, .tmp u, .tmp u2]) (hv : look t env = some (.pointer (some ⟨b, 0, none⟩))) (hx : look u env = some x) (hx2 : look u2 env = some x2) (hi : hp[i]? = some (.blk b cs T')) (hT : P.manyB T = some true) (hs : P.sizeIs T = some n) (hn : cs.length = n)
    (h : ∀ w, HeapOK w0 hp w → R (.returned (.tuple #[.agg cs.toArray, x, x2])) w) (hd0 : N.ds = [] := by rfl) : FQ (bodyPost P fn R) e w0 N env hp := fun a w hh => by
  have hrun : (results fn a.tmps).run P w = .ok (.tuple #[.agg cs.toArray, x, x2]) w := by
    have h1 := run_loadCells_list (P := P) w ⟨b, 0, none⟩ cs (readsAll hi w hh.heap)
    rw [hn] at h1
    have hg : ∀ (t : Nat) (v : Value), look t env = some v → a.tmps[t]?.getD undef = v := fun t v ht => by rw [← Array.getD_eq_getD_getElem?]; exact hh.env t v ht
    simp [results, hr, hg t _ hv, hg u _ hx, hg u2 _ hx2, asAddr, loadVar, run_isAgg hT, run_sizeOf hs, h1]
  rcases he with rfl | rfl
  · exact bodyPost_ret hrun (hh.defers.trans hd0) (h w hh.heap)
  · exact bodyPost_end hrun (hh.defers.trans hd0) (h w hh.heap)
theorem q_addS {t u : TypeId} {x y : Operand} {a b c : ByteArray} (ho : o.op = .binOp .add t x y u) (hx : evE x env = some (.string a)) (hy : evE y env = some (.string b)) (hn : a.size + b.size ≤ 9223372036854775807) (hc : a ++ b = c) : OpQ P o env w0 hp (.string c) := q_run fun A w he hh => by
  subst hc
  have h1 : (Op.stringOp .add a b).run P w = .ok (.string (a ++ b)) w := by
    unfold Op.stringOp
    simp only
    rw [if_neg (by simp only [IntKind.max, IntKind.signed, IntKind.bits]; simp; omega)]
    rfl
  have h2 : (eqGuard .add t x y (.string a) (.string b)).run P w = .ok () w := rfl
  have h3 : binOp .add t (.string a) (.string b) = Op.stringOp .add a b := rfl
  unfold execOp
  simp only [ho, ev_of he hx, ev_of he hy, Sem.run_bind, h2, Result.andThen_ok, h3, h1]
  rfl
theorem q_eqlStr {op : BinOp} {t u : TypeId} {x y : Operand} {a b : ByteArray} {c : Bool} (ho : o.op = .binOp op t x y u) (hop : op = .eql ∧ (a.toList == b.toList) = c ∨ op = .neq ∧ (!(a.toList == b.toList)) = c) (hx : evE x env = some (.string a)) (hy : evE y env = some (.string b)) (hT : ∀ w : World, (eqGuard op t x y (.string a) (.string b)).run P w = .ok () w) : OpQ P o env w0 hp (.bool c) :=
  q_eq ho (hop.elim (fun h => .inl h.1) (fun h => .inr h.1)) hx hy fun w => ⟨hT w, by
    rcases hop with ⟨rfl, rfl⟩ | ⟨rfl, rfl⟩ <;> rfl⟩
end
end Go.Sx
end
section
namespace Go.Proofs.YtbcijmpkmmcdeaaDoor.SF
open Go.RowKit Go.Sx Go.Proofs.YtbcijmpkmmcdeaaDoor.PAll Go.Proofs.YtbcijmpkmmcdeaaDoorW.PrintWords Go.Proofs.YtbcijmpkmmcdeaaDoorW.PrintLast Go.Proofs.YtbcijmpkmmcdeaaDoorW.PrintMore
open Go.Proofs.YtbcijmpkmmcdeaaDoor.Pure (le puts le_length puts_length puts_range put_ev joinF rowB_length rowB joinF_range join_ev sealed sealed_length sealed_range seal_ev open_ev open_short part_ev)
set_option linter.unusedVariables false
set_option linter.unusedSimpArgs false
set_option maxRecDepth 100000
theorem own_of_R51 {w : World} {base e : Nat} {ok : Nat → Prop} {v : Value} {l : List S51} (h : Kd.R k51 e w base ok v l) : w.ownsRow base e 2 v l.length (l.flatMap pc51) := by
  obtain ⟨_, inner, ho, h1, h2⟩ := h
  have : inner = l.flatMap pc51 := by
    apply List.ext_getElem?
    intro j
    have hlen : inner.length = l.length * 2 := h1
    by_cases hj : j < inner.length
    · have hq : j / 2 < l.length := by omega
      have hM := h2 (j / 2) _ (List.getElem?_eq_getElem hq)
      have e1 := k51_openM hM
      have e2 : (((inner.drop (j / 2 * k51.sz)).take k51.sz)[j % 2]? : Option Value) = (pc51 l[j / 2])[j % 2]? := congrArg (fun l : List Value => l[j % 2]?) e1
      rw [List.getElem?_take, if_pos (show j % 2 < k51.sz by show j % 2 < 2; omega), List.getElem?_drop, show j / 2 * k51.sz + j % 2 = j by show j / 2 * 2 + j % 2 = j; omega] at e2
      rw [e2]
      obtain ⟨u, hu⟩ : ∃ u, (pc51 l[j / 2])[j % 2]? = some u := ⟨_, List.getElem?_eq_getElem (show j % 2 < 2 by omega)⟩
      have := flat_at (List.getElem?_eq_getElem hq) hu
      rw [show j / 2 * 2 + j % 2 = j by omega] at this
      rw [this]
      exact hu
    · rw [List.getElem?_eq_none (by omega), List.getElem?_eq_none (by rw [flat_length]; omega)]
  rw [← this]
  exact ho
def openF (l : List Int) : List Int × Bool := if 4 ≤ l.length ∧ sealed (l.take (l.length - 4)) = l then (l.take (l.length - 4), true) else ([], false)
def jget (l : List Int) : JG := jgot (openF l).2 ((Go.Proofs.YtbcijmpkmmcdeaaDoor.PAll.partsF (openF l).1.length (openF l).1).getD []) (if (Go.Proofs.YtbcijmpkmmcdeaaDoor.PAll.partsF (openF l).1.length (openF l).1).isSome then 0 else 10)
theorem openF_ev {l : List Int} (hb : ∀ x ∈ l, 0 ≤ x ∧ x ≤ 255) (hl : l.length ≤ 10000) : ∃ k, crc_Open.f k l = some (openF l) := by
  rcases Nat.lt_or_ge l.length 4 with h | h
  · refine ⟨0, ?_⟩
    rw [open_short l h 0]
    unfold openF
    rw [if_neg (by omega)]
  · obtain ⟨K, hK⟩ := open_ev l h hb hl
    refine ⟨K, (hK K (Nat.le_refl _)).trans ?_⟩
    unfold openF
    by_cases e : sealed (l.take (l.length - 4)) = l
    · rw [if_pos e, if_pos ⟨h, e⟩]
    · rw [if_neg e, if_neg (fun h => e h.2)]
theorem openF_sub (l : List Int) : (openF l).1.length ≤ l.length ∧ ∀ x ∈ (openF l).1, x ∈ l := by
  unfold openF
  split
  · exact ⟨by rw [List.length_take]; omega, fun x hx => List.mem_of_mem_take hx⟩
  · exact ⟨Nat.zero_le _, fun x hx => by cases hx⟩
theorem parts_sub : ∀ (fu : Nat) (l : List Int) (rows : List (List Int)), Go.Proofs.YtbcijmpkmmcdeaaDoor.PAll.partsF fu l = some rows → ∀ r ∈ rows, r.length ≤ l.length ∧ ∀ x ∈ r, x ∈ l
  | _, [], rows, h, r, hr => by
    simp only [Go.Proofs.YtbcijmpkmmcdeaaDoor.PAll.partsF, Option.some.injEq] at h
    subst h; cases hr
  | 0, _ :: _, rows, h, r, hr => by simp [Go.Proofs.YtbcijmpkmmcdeaaDoor.PAll.partsF] at h
  | _ + 1, [_], rows, h, r, hr => by simp [Go.Proofs.YtbcijmpkmmcdeaaDoor.PAll.partsF] at h
  | fu + 1, a :: b :: l, rows, h, r, hr => by
    simp only [Go.Proofs.YtbcijmpkmmcdeaaDoor.PAll.partsF] at h
    split at h
    · rename_i hle
      cases hp : Go.Proofs.YtbcijmpkmmcdeaaDoor.PAll.partsF fu (l.drop (a + 256 * b).toNat) with
      | none => rw [hp] at h; cases h
      | some ps =>
        rw [hp] at h
        simp only [Option.map_some, Option.some.injEq] at h
        subst h
        rcases List.mem_cons.1 hr with rfl | hr
        · exact ⟨by rw [List.length_take]; simp; omega, fun x hx => by simp [List.mem_of_mem_take hx]⟩
        · have := parts_sub fu _ ps hp r hr
          refine ⟨by have h1 := this.1; rw [List.length_drop] at h1; simp; omega, fun x hx => by simp [List.mem_of_mem_drop (this.2 x hx)]⟩
    · cases h
theorem oget_calls {q : Gh} {l : List Int} {w0 w : World} {hp : List Sx.Item} (hb : ∀ x ∈ l, 0 ≤ x ∧ x ≤ 255) (hn : l.length ≤ 8000) (hh : Half w) (hw : HeapOK w0 hp w) (hr : RowC w q l) :
    Calls Tryd.prog 23 #[.slice q.1 l.length q.2] w fun e w' => ∃ i : Gh, e = .returned (.tuple #[.agg #[.int .i64 (jget l).bud, .int .i64 (jget l).mar, .int .i64 0, .slice i.1 (jget l).ps.length i.2], .int .u64 (jget l).seq, .int .i64 (jget l).err]) ∧ HeapOK w0 (.own 0 51 2 (.slice i.1 (jget l).ps.length i.2) (jget l).ps.length ((jget l).ps.flatMap pc51) :: hp) w' := by
  obtain ⟨k, hk⟩ := openF_ev hb (by omega)
  have hs := openF_sub l
  have hbo : ∀ x ∈ (openF l).1, 0 ≤ x ∧ x ≤ 255 := fun x hx => hb x (hs.2 x hx)
  refine (get_calls k q.1 q.2 l (openF l).1 (openF l).2 ((Go.Proofs.YtbcijmpkmmcdeaaDoor.PAll.partsF (openF l).1.length (openF l).1).getD []) (if (Go.Proofs.YtbcijmpkmmcdeaaDoor.PAll.partsF (openF l).1.length (openF l).1).isSome then 0 else 10) w hh hr.2 hr.1 (by rw [hk]) (fun _ => part_ev _ (by omega) hbo) ?_).mono ?_
  · cases hp : Go.Proofs.YtbcijmpkmmcdeaaDoor.PAll.partsF (openF l).1.length (openF l).1 with
    | none => intro r hr; cases hr
    | some ps =>
      intro r hr
      have := parts_sub _ _ ps hp r hr
      exact ⟨by omega, fun x hx => hbo x (this.2 x hx)⟩
  · rintro e w' ⟨v, rfl, hR, hb⟩
    obtain ⟨A2, c2, rfl, hc2, hC⟩ := Kd.R_reads hR
    exact ⟨(A2, c2), rfl, hw.newOwn hb (own_of_R51 hR)⟩
structure JL where
  bud : Int
  mar : Int
  ps : List S51
  seq : Int
def jone (i : Int) (l : List Int) (o : JL) : JL := if (jget l).err = 0 ∧ Int.tmod (jget l).seq 2 = i ∧ o.seq < (jget l).seq then ⟨(jget l).bud, (jget l).mar, (jget l).ps, (jget l).seq⟩ else o
def jload (s0 s1 : List Int) : JL := jone 1 s1 (jone 0 s0 ⟨0, 0, [], 0⟩)
def jl (s0 s1 : List Int) : Nat → JL
  | 0 => ⟨0, 0, [], 0⟩
  | 1 => jone 0 s0 ⟨0, 0, [], 0⟩
  | _ => jload s0 s1
def Bytes (l : List Int) : Prop := l.length ≤ 8000 ∧ ∀ x ∈ l, 0 ≤ x ∧ x ≤ 255
theorem hw0 : IntKind.u64.wrap 0 = 0 := by decide
theorem hw1 : IntKind.u64.wrap 1 = 1 := by decide
set_option maxHeartbeats 2000000 in
theorem Load_calls (J : Jn) (p0 p1 p2 : Gh) (w : World) (hJ : Jn.ok w J p0 p1 p2) (hB0 : Bytes J.s0) (hB1 : Bytes J.s1) (hh : Half w) :
    Calls Tryd.prog 28 #[.agg (J.cells p0 p1 p2).toArray] w fun e w' => ∃ i : Gh, e = .returned (.tuple #[.agg #[.int .i64 (jload J.s0 J.s1).bud, .int .i64 (jload J.s0 J.s1).mar, .int .i64 0, .slice i.1 (jload J.s0 J.s1).ps.length i.2], .int .u64 (jload J.s0 J.s1).seq, .bool (decide (0 < (jload J.s0 J.s1).seq))]) ∧ HeapOK w [.own 0 51 2 (.slice i.1 (jload J.s0 J.s1).ps.length i.2) (jload J.s0 J.s1).ps.length ((jload J.s0 J.s1).ps.flatMap pc51), old w] w' := by
  refine enter (w0 := w) (hp := [old w]) (env := [(0, .agg (J.cells p0 p1 p2).toArray)]) Tryd.func28 rfl 45 rfl (by simp) rfl (HeapOK.start _) ?_
  refine wc_seq ?_
  refine wc_region ?_
  refine wl_box rfl rfl rfl (by decide) rfl rfl (fun b1 => ?_)
  refine wl_alloc rfl rfl rfl (by decide) Zr32 (fun b2 => ?_)
  refine wl_q (q_assign rfl rfl) rfl rfl (by decide) ?_
  refine wl_q (q_assign rfl rfl) rfl rfl (by decide) ?_
  refine wl_nil ?_
  refine fq_then ?_
  refine wc_seq ?_
  refine wc_region ?_
  refine wl_alloc rfl rfl rfl (by decide) Zr32 (fun b3 => ?_)
  refine wl_nil ?_
  refine fq_then ?_
  refine wc_seq ?_
  refine wc_region ?_
  refine wl_q (q_assign rfl rfl) rfl rfl (by decide) ?_
  refine wl_nil ?_
  refine fq_then ?_
  refine wc_seq ?_
  refine wc_seq ?_
  refine wc_region ?_
  refine wl_q (q_fa (o1 := 0) rfl rfl Fo38_0 rfl) rfl rfl (by decide) ?_
  refine wl_q (q_loadA rfl rfl Mn36 Sz36 rfl (readsN (i := 2) (off := 0) (n := 2) rfl)) rfl rfl (by decide) ?_
  refine wl_q (q_move rfl rfl) rfl rfl (by decide) ?_
  refine wl_nil ?_
  refine fq_then ?_
  refine wc_block ?_
  refine wc_own (E := 51) (sz := 2) ?_
  refine wc_loop (ι := (Nat × Gh)) (fun i => [(2, .pointer (some ⟨b2, 0, none⟩)), (5, .pointer (some ⟨b3, 0, none⟩)), (6, .int .u64 (jl J.s0 J.s1 i.1).seq), (13, .agg #[.slice p0.1 J.s0.length p0.2, .slice p1.1 J.s1.length p1.2]), (14, .int .i64 (i.1 : Nat))]) (fun i => [.own 0 51 2 (.slice i.2.1 (jl J.s0 J.s1 i.1).ps.length i.2.2) (jl J.s0 J.s1 i.1).ps.length ((jl J.s0 J.s1 i.1).ps.flatMap pc51), .blk b3 [.int .i64 (jl J.s0 J.s1 i.1).bud, .int .i64 (jl J.s0 J.s1 i.1).mar, .int .i64 0, .slice i.2.1 (jl J.s0 J.s1 i.1).ps.length i.2.2] 32, .blk b2 [.int .i64 0, .int .i64 0, .int .i64 0, .slice none 0 0] 32, old w]) (fun i => i.1 ≤ 2) (fun i => 2 - i.1) (0, (none, 0)) (Nat.zero_le _) ⟨List.forall_mem_cons.2 ⟨rfl, List.forall_mem_cons.2 ⟨rfl, List.forall_mem_cons.2 ⟨rfl, List.forall_mem_cons.2 ⟨rfl, List.forall_mem_cons.2 ⟨rfl, fun _ h => (by cases h)⟩⟩⟩⟩⟩, List.Sublist.cons_cons _ (List.Sublist.cons_cons _ (List.Sublist.cons_cons _ (List.Sublist.cons _ (List.Sublist.cons_cons _ (List.Sublist.refl [])))))⟩ ?_
  rintro ⟨k, q⟩ hk
  simp only at hk
  rcases (show k = 0 ∨ k = 1 ∨ k = 2 by omega) with rfl | rfl | rfl
  · skip
    dsimp only
    refine wc_seq ?_
    refine wc_region ?_
    refine wl_q (q_bin rfl rfl rfl rfl) rfl rfl (by decide) ?_
    refine wl_nil ?_
    refine fq_then ?_
    refine wc_seq ?_
    refine wc_cond rfl (fun h15 => ?_) (fun h15 => ?_)
    · skip
      have q15 := h15
      try simp only [decide_eq_true_eq, decide_eq_false_iff_not, beq_iff_eq, beq_eq_false_iff_ne, bne_iff_ne, ne_eq, bne_eq_false_iff_eq, Int.not_lt, Int.not_le] at q15
      refine wc_skip ?_
      refine fq_then ?_
      refine wc_seq ?_
      refine wc_block ?_
      refine wc_seq ?_
      refine wc_region ?_
      refine wl_q (q_move rfl rfl) rfl rfl (by decide) ?_
      refine wl_q (q_indexV rfl rfl rfl Tryd.underlying36 Sz22 Mn22 (by decide) (by decide) rfl) rfl rfl (by decide) ?_
      refine wl_q (q_assign rfl rfl) rfl rfl (by decide) ?_
      refine wl_q (q_assign rfl rfl) rfl rfl (by decide) ?_
      refine wl_nil ?_
      refine fq_then ?_
      refine wc_seq ?_
      refine wc_region ?_
      refine wl_q (q_move rfl rfl) rfl rfl (by decide) ?_
      refine wl_call (ι := Gh) (fun i => .tuple #[.agg #[.int .i64 (jget J.s0).bud, .int .i64 (jget J.s0).mar, .int .i64 0, .slice i.1 (jget J.s0).ps.length i.2], .int .u64 (jget J.s0).seq, .int .i64 (jget J.s0).err]) (fun i => .own 0 51 2 (.slice i.1 (jget J.s0).ps.length i.2) (jget J.s0).ps.length ((jget J.s0).ps.flatMap pc51) :: _) (fun _ => True) rfl rfl rfl (by decide) En23 rfl (fun w1 hw1 => (oget_calls (q := p0) (l := J.s0) hB0.2 hB0.1 (hh.keep (hw1.toBelow (by simp))) hw1 ((hJ.1).below (hw1.toBelow (by simp)))).mono (fun e w' ⟨i, h⟩ => ⟨i, trivial, h⟩)) (fun pg _ => ?_)
      refine wl_q (q_move rfl rfl) rfl rfl (by decide) ?_
      refine wl_q (q_extract rfl rfl rfl) rfl rfl (by decide) ?_
      refine wl_q (q_extract rfl rfl rfl) rfl rfl (by decide) ?_
      refine wl_q (q_extract rfl rfl rfl) rfl rfl (by decide) ?_
      refine wl_alloc rfl rfl rfl (by decide) Zr32 (fun b4 => ?_)
      refine wl_store (i := 0) rfl rfl rfl rfl rfl rfl Sz32 rfl rfl (by simp) (by simp [Value.oneCell']) (by first | (simp only [List.take_succ_cons, List.take_zero, List.take_nil, List.drop_succ_cons, List.drop_zero, List.drop_nil, List.nil_append, List.cons_append, List.append_nil, List.length_cons, List.length_nil, Nat.reduceAdd, Nat.zero_add]; rfl) | rfl) (by first | (simp only [List.set_cons_zero, List.set_cons_succ]; rfl) | rfl) ?_
      refine wl_q (q_assign rfl rfl) rfl rfl (by decide) ?_
      refine wl_q (q_assign rfl rfl) rfl rfl (by decide) ?_
      refine wl_nil ?_
      refine fq_then ?_
      refine wc_seq ?_
      refine wc_region ?_
      refine wl_q (q_move rfl rfl) rfl rfl (by decide) ?_
      refine wl_q (q_bin rfl rfl rfl rfl) rfl rfl (by decide) ?_
      refine wl_q (q_move rfl rfl) rfl rfl (by decide) ?_
      refine wl_split (t := 26) rfl (fun h26 => ?_) (fun h26 => ?_)
      · skip
        have q26 := h26
        try simp only [decide_eq_true_eq, decide_eq_false_iff_not, beq_iff_eq, beq_eq_false_iff_ne, bne_iff_ne, ne_eq, bne_eq_false_iff_eq, Int.not_lt, Int.not_le] at q26
        refine wl_want (b := true) (q_move rfl rfl) rfl rfl rfl rfl (by decide) ?_
        refine wl_want (b := true) (q_rem rfl rfl rfl (by decide)) rfl rfl rfl rfl (by decide) ?_
        refine wl_want (b := true) (q_move rfl rfl) rfl rfl rfl rfl (by decide) ?_
        refine wl_want (b := true) (q_conv rfl rfl Tryd.underlying3 Tryd.underlying53) rfl rfl rfl rfl (by decide) ?_
        refine wl_want (b := true) (q_bin rfl rfl rfl rfl) rfl rfl rfl rfl (by decide) ?_
        refine wl_q (q_pick rfl rfl rfl) rfl rfl (by decide) ?_
        refine wl_q (q_move rfl rfl) rfl rfl (by decide) ?_
        refine wl_split (t := 33) rfl (fun h33 => ?_) (fun h33 => ?_)
        · skip
          have q33 := h33
          try simp only [decide_eq_true_eq, decide_eq_false_iff_not, beq_iff_eq, beq_eq_false_iff_ne, bne_iff_ne, ne_eq, bne_eq_false_iff_eq, Int.not_lt, Int.not_le] at q33
          refine wl_want (b := true) (q_move rfl rfl) rfl rfl rfl rfl (by decide) ?_
          refine wl_want (b := true) (q_move rfl rfl) rfl rfl rfl rfl (by decide) ?_
          refine wl_want (b := true) (q_bin rfl rfl rfl rfl) rfl rfl rfl rfl (by decide) ?_
          refine wl_q (q_pick rfl rfl rfl) rfl rfl (by decide) ?_
          refine wl_nil ?_
          refine fq_then ?_
          refine wc_cond rfl (fun h37 => ?_) (fun h37 => ?_)
          · skip
            have q37 := h37
            try simp only [decide_eq_true_eq, decide_eq_false_iff_not, beq_iff_eq, beq_eq_false_iff_ne, bne_iff_ne, ne_eq, bne_eq_false_iff_eq, Int.not_lt, Int.not_le] at q37
            refine wc_seq ?_
            refine wc_region ?_
            refine wl_q (q_loadA rfl rfl Mn32 Sz32 rfl (readsAll (i := 0) rfl)) rfl rfl (by decide) ?_
            refine wl_store (i := 3) rfl rfl rfl rfl rfl rfl Sz32 rfl rfl (by simp) (by simp [Value.oneCell']) (by first | (simp only [List.take_succ_cons, List.take_zero, List.take_nil, List.drop_succ_cons, List.drop_zero, List.drop_nil, List.nil_append, List.cons_append, List.append_nil, List.length_cons, List.length_nil, Nat.reduceAdd, Nat.zero_add]; rfl) | rfl) (by first | (simp only [List.set_cons_zero, List.set_cons_succ]; rfl) | rfl) ?_
            refine wl_nil ?_
            refine fq_then ?_
            refine wc_region ?_
            refine wl_q (q_move rfl rfl) rfl rfl (by decide) ?_
            refine wl_q (q_assign rfl rfl) rfl rfl (by decide) ?_
            refine wl_nil ?_
            refine fq_block ?_
            refine fq_then ?_
            refine wc_region ?_
            refine wl_q (q_bin rfl rfl rfl rfl) rfl rfl (by decide) ?_
            refine wl_q (q_move rfl rfl) rfl rfl (by decide) ?_
            refine wl_nil ?_
            have hjl : jl J.s0 J.s1 1 = ⟨(jget J.s0).bud, (jget J.s0).mar, (jget J.s0).ps, (jget J.s0).seq⟩ := by (show jone 0 J.s0 (jl J.s0 J.s1 0) = _; unfold jone; exact if_pos ⟨by simpa using h26, by simpa [hw0, hw1] using h33, by simpa using h37⟩)
            simp only [show (jget J.s0).bud = (jl J.s0 J.s1 1).bud from by rw [hjl], show (jget J.s0).mar = (jl J.s0 J.s1 1).mar from by rw [hjl], show (jget J.s0).ps = (jl J.s0 J.s1 1).ps from by rw [hjl], show (jget J.s0).seq = (jl J.s0 J.s1 1).seq from by rw [hjl]]
            refine fq_next (1, pg) (show 1 ≤ 2 by decide) (show 2 - 1 < 2 - 0 by decide) ⟨List.forall_mem_cons.2 ⟨rfl, List.forall_mem_cons.2 ⟨rfl, List.forall_mem_cons.2 ⟨rfl, List.forall_mem_cons.2 ⟨rfl, List.forall_mem_cons.2 ⟨rfl, fun _ h => (by cases h)⟩⟩⟩⟩⟩, List.Sublist.cons _ (List.Sublist.cons_cons _ (List.Sublist.cons _ (List.Sublist.cons_cons _ (List.Sublist.cons_cons _ (List.Sublist.cons_cons _ (List.Sublist.refl []))))))⟩
          · skip
            have q37 := h37
            try simp only [decide_eq_true_eq, decide_eq_false_iff_not, beq_iff_eq, beq_eq_false_iff_ne, bne_iff_ne, ne_eq, bne_eq_false_iff_eq, Int.not_lt, Int.not_le] at q37
            refine wc_skip ?_
            refine fq_block ?_
            refine fq_then ?_
            refine wc_region ?_
            refine wl_q (q_bin rfl rfl rfl rfl) rfl rfl (by decide) ?_
            refine wl_q (q_move rfl rfl) rfl rfl (by decide) ?_
            refine wl_nil ?_
            have hjl : jl J.s0 J.s1 1 = jl J.s0 J.s1 0 := by (show jone 0 J.s0 (jl J.s0 J.s1 0) = _; unfold jone; exact if_neg (fun h => by simp_all [hw0, hw1]))
            rw [← hjl]
            refine fq_next (1, q) (show 1 ≤ 2 by decide) (show 2 - 1 < 2 - 0 by decide) ⟨List.forall_mem_cons.2 ⟨rfl, List.forall_mem_cons.2 ⟨rfl, List.forall_mem_cons.2 ⟨rfl, List.forall_mem_cons.2 ⟨rfl, List.forall_mem_cons.2 ⟨rfl, fun _ h => (by cases h)⟩⟩⟩⟩⟩, List.Sublist.cons _ (List.Sublist.cons _ (List.Sublist.cons_cons _ (List.Sublist.cons_cons _ (List.Sublist.cons_cons _ (List.Sublist.cons_cons _ (List.Sublist.refl []))))))⟩
        · skip
          have q33 := h33
          try simp only [decide_eq_true_eq, decide_eq_false_iff_not, beq_iff_eq, beq_eq_false_iff_ne, bne_iff_ne, ne_eq, bne_eq_false_iff_eq, Int.not_lt, Int.not_le] at q33
          refine wl_skip (b := false) rfl rfl rfl rfl (by decide) ?_
          refine wl_skip (b := false) rfl rfl rfl rfl (by decide) ?_
          refine wl_skip (b := false) rfl rfl rfl rfl (by decide) ?_
          refine wl_q (q_pick rfl rfl rfl) rfl rfl (by decide) ?_
          refine wl_nil ?_
          refine fq_then ?_
          refine wc_false rfl ?_
          refine wc_skip ?_
          refine fq_block ?_
          refine fq_then ?_
          refine wc_region ?_
          refine wl_q (q_bin rfl rfl rfl rfl) rfl rfl (by decide) ?_
          refine wl_q (q_move rfl rfl) rfl rfl (by decide) ?_
          refine wl_nil ?_
          have hjl : jl J.s0 J.s1 1 = jl J.s0 J.s1 0 := by (show jone 0 J.s0 (jl J.s0 J.s1 0) = _; unfold jone; exact if_neg (fun h => by simp_all [hw0, hw1]))
          rw [← hjl]
          refine fq_next (1, q) (show 1 ≤ 2 by decide) (show 2 - 1 < 2 - 0 by decide) ⟨List.forall_mem_cons.2 ⟨rfl, List.forall_mem_cons.2 ⟨rfl, List.forall_mem_cons.2 ⟨rfl, List.forall_mem_cons.2 ⟨rfl, List.forall_mem_cons.2 ⟨rfl, fun _ h => (by cases h)⟩⟩⟩⟩⟩, List.Sublist.cons _ (List.Sublist.cons _ (List.Sublist.cons_cons _ (List.Sublist.cons_cons _ (List.Sublist.cons_cons _ (List.Sublist.cons_cons _ (List.Sublist.refl []))))))⟩
      · skip
        have q26 := h26
        try simp only [decide_eq_true_eq, decide_eq_false_iff_not, beq_iff_eq, beq_eq_false_iff_ne, bne_iff_ne, ne_eq, bne_eq_false_iff_eq, Int.not_lt, Int.not_le] at q26
        refine wl_skip (b := false) rfl rfl rfl rfl (by decide) ?_
        refine wl_skip (b := false) rfl rfl rfl rfl (by decide) ?_
        refine wl_skip (b := false) rfl rfl rfl rfl (by decide) ?_
        refine wl_skip (b := false) rfl rfl rfl rfl (by decide) ?_
        refine wl_skip (b := false) rfl rfl rfl rfl (by decide) ?_
        refine wl_q (q_pick rfl rfl rfl) rfl rfl (by decide) ?_
        refine wl_q (q_move rfl rfl) rfl rfl (by decide) ?_
        refine wl_skip (b := false) rfl rfl rfl rfl (by decide) ?_
        refine wl_skip (b := false) rfl rfl rfl rfl (by decide) ?_
        refine wl_skip (b := false) rfl rfl rfl rfl (by decide) ?_
        refine wl_q (q_pick rfl rfl rfl) rfl rfl (by decide) ?_
        refine wl_nil ?_
        refine fq_then ?_
        refine wc_false rfl ?_
        refine wc_skip ?_
        refine fq_block ?_
        refine fq_then ?_
        refine wc_region ?_
        refine wl_q (q_bin rfl rfl rfl rfl) rfl rfl (by decide) ?_
        refine wl_q (q_move rfl rfl) rfl rfl (by decide) ?_
        refine wl_nil ?_
        have hjl : jl J.s0 J.s1 1 = jl J.s0 J.s1 0 := by (show jone 0 J.s0 (jl J.s0 J.s1 0) = _; unfold jone; exact if_neg (fun h => by simp_all [hw0, hw1]))
        rw [← hjl]
        refine fq_next (1, q) (show 1 ≤ 2 by decide) (show 2 - 1 < 2 - 0 by decide) ⟨List.forall_mem_cons.2 ⟨rfl, List.forall_mem_cons.2 ⟨rfl, List.forall_mem_cons.2 ⟨rfl, List.forall_mem_cons.2 ⟨rfl, List.forall_mem_cons.2 ⟨rfl, fun _ h => (by cases h)⟩⟩⟩⟩⟩, List.Sublist.cons _ (List.Sublist.cons _ (List.Sublist.cons_cons _ (List.Sublist.cons_cons _ (List.Sublist.cons_cons _ (List.Sublist.cons_cons _ (List.Sublist.refl []))))))⟩
    · skip
      exact absurd h15 (by decide)
  · skip
    dsimp only
    refine wc_seq ?_
    refine wc_region ?_
    refine wl_q (q_bin rfl rfl rfl rfl) rfl rfl (by decide) ?_
    refine wl_nil ?_
    refine fq_then ?_
    refine wc_seq ?_
    refine wc_cond rfl (fun h15 => ?_) (fun h15 => ?_)
    · skip
      have q15 := h15
      try simp only [decide_eq_true_eq, decide_eq_false_iff_not, beq_iff_eq, beq_eq_false_iff_ne, bne_iff_ne, ne_eq, bne_eq_false_iff_eq, Int.not_lt, Int.not_le] at q15
      refine wc_skip ?_
      refine fq_then ?_
      refine wc_seq ?_
      refine wc_block ?_
      refine wc_seq ?_
      refine wc_region ?_
      refine wl_q (q_move rfl rfl) rfl rfl (by decide) ?_
      refine wl_q (q_indexV rfl rfl rfl Tryd.underlying36 Sz22 Mn22 (by decide) (by decide) rfl) rfl rfl (by decide) ?_
      refine wl_q (q_assign rfl rfl) rfl rfl (by decide) ?_
      refine wl_q (q_assign rfl rfl) rfl rfl (by decide) ?_
      refine wl_nil ?_
      refine fq_then ?_
      refine wc_seq ?_
      refine wc_region ?_
      refine wl_q (q_move rfl rfl) rfl rfl (by decide) ?_
      refine wl_call (ι := Gh) (fun i => .tuple #[.agg #[.int .i64 (jget J.s1).bud, .int .i64 (jget J.s1).mar, .int .i64 0, .slice i.1 (jget J.s1).ps.length i.2], .int .u64 (jget J.s1).seq, .int .i64 (jget J.s1).err]) (fun i => .own 0 51 2 (.slice i.1 (jget J.s1).ps.length i.2) (jget J.s1).ps.length ((jget J.s1).ps.flatMap pc51) :: _) (fun _ => True) rfl rfl rfl (by decide) En23 rfl (fun w1 hw1 => (oget_calls (q := p1) (l := J.s1) hB1.2 hB1.1 (hh.keep (hw1.toBelow (by simp))) hw1 ((hJ.2.1).below (hw1.toBelow (by simp)))).mono (fun e w' ⟨i, h⟩ => ⟨i, trivial, h⟩)) (fun pg _ => ?_)
      refine wl_q (q_move rfl rfl) rfl rfl (by decide) ?_
      refine wl_q (q_extract rfl rfl rfl) rfl rfl (by decide) ?_
      refine wl_q (q_extract rfl rfl rfl) rfl rfl (by decide) ?_
      refine wl_q (q_extract rfl rfl rfl) rfl rfl (by decide) ?_
      refine wl_alloc rfl rfl rfl (by decide) Zr32 (fun b5 => ?_)
      refine wl_store (i := 0) rfl rfl rfl rfl rfl rfl Sz32 rfl rfl (by simp) (by simp [Value.oneCell']) (by first | (simp only [List.take_succ_cons, List.take_zero, List.take_nil, List.drop_succ_cons, List.drop_zero, List.drop_nil, List.nil_append, List.cons_append, List.append_nil, List.length_cons, List.length_nil, Nat.reduceAdd, Nat.zero_add]; rfl) | rfl) (by first | (simp only [List.set_cons_zero, List.set_cons_succ]; rfl) | rfl) ?_
      refine wl_q (q_assign rfl rfl) rfl rfl (by decide) ?_
      refine wl_q (q_assign rfl rfl) rfl rfl (by decide) ?_
      refine wl_nil ?_
      refine fq_then ?_
      refine wc_seq ?_
      refine wc_region ?_
      refine wl_q (q_move rfl rfl) rfl rfl (by decide) ?_
      refine wl_q (q_bin rfl rfl rfl rfl) rfl rfl (by decide) ?_
      refine wl_q (q_move rfl rfl) rfl rfl (by decide) ?_
      refine wl_split (t := 26) rfl (fun h26 => ?_) (fun h26 => ?_)
      · skip
        have q26 := h26
        try simp only [decide_eq_true_eq, decide_eq_false_iff_not, beq_iff_eq, beq_eq_false_iff_ne, bne_iff_ne, ne_eq, bne_eq_false_iff_eq, Int.not_lt, Int.not_le] at q26
        refine wl_want (b := true) (q_move rfl rfl) rfl rfl rfl rfl (by decide) ?_
        refine wl_want (b := true) (q_rem rfl rfl rfl (by decide)) rfl rfl rfl rfl (by decide) ?_
        refine wl_want (b := true) (q_move rfl rfl) rfl rfl rfl rfl (by decide) ?_
        refine wl_want (b := true) (q_conv rfl rfl Tryd.underlying3 Tryd.underlying53) rfl rfl rfl rfl (by decide) ?_
        refine wl_want (b := true) (q_bin rfl rfl rfl rfl) rfl rfl rfl rfl (by decide) ?_
        refine wl_q (q_pick rfl rfl rfl) rfl rfl (by decide) ?_
        refine wl_q (q_move rfl rfl) rfl rfl (by decide) ?_
        refine wl_split (t := 33) rfl (fun h33 => ?_) (fun h33 => ?_)
        · skip
          have q33 := h33
          try simp only [decide_eq_true_eq, decide_eq_false_iff_not, beq_iff_eq, beq_eq_false_iff_ne, bne_iff_ne, ne_eq, bne_eq_false_iff_eq, Int.not_lt, Int.not_le] at q33
          refine wl_want (b := true) (q_move rfl rfl) rfl rfl rfl rfl (by decide) ?_
          refine wl_want (b := true) (q_move rfl rfl) rfl rfl rfl rfl (by decide) ?_
          refine wl_want (b := true) (q_bin rfl rfl rfl rfl) rfl rfl rfl rfl (by decide) ?_
          refine wl_q (q_pick rfl rfl rfl) rfl rfl (by decide) ?_
          refine wl_nil ?_
          refine fq_then ?_
          refine wc_cond rfl (fun h37 => ?_) (fun h37 => ?_)
          · skip
            have q37 := h37
            try simp only [decide_eq_true_eq, decide_eq_false_iff_not, beq_iff_eq, beq_eq_false_iff_ne, bne_iff_ne, ne_eq, bne_eq_false_iff_eq, Int.not_lt, Int.not_le] at q37
            refine wc_seq ?_
            refine wc_region ?_
            refine wl_q (q_loadA rfl rfl Mn32 Sz32 rfl (readsAll (i := 0) rfl)) rfl rfl (by decide) ?_
            refine wl_store (i := 3) rfl rfl rfl rfl rfl rfl Sz32 rfl rfl (by simp) (by simp [Value.oneCell']) (by first | (simp only [List.take_succ_cons, List.take_zero, List.take_nil, List.drop_succ_cons, List.drop_zero, List.drop_nil, List.nil_append, List.cons_append, List.append_nil, List.length_cons, List.length_nil, Nat.reduceAdd, Nat.zero_add]; rfl) | rfl) (by first | (simp only [List.set_cons_zero, List.set_cons_succ]; rfl) | rfl) ?_
            refine wl_nil ?_
            refine fq_then ?_
            refine wc_region ?_
            refine wl_q (q_move rfl rfl) rfl rfl (by decide) ?_
            refine wl_q (q_assign rfl rfl) rfl rfl (by decide) ?_
            refine wl_nil ?_
            refine fq_block ?_
            refine fq_then ?_
            refine wc_region ?_
            refine wl_q (q_bin rfl rfl rfl rfl) rfl rfl (by decide) ?_
            refine wl_q (q_move rfl rfl) rfl rfl (by decide) ?_
            refine wl_nil ?_
            have hjl : jl J.s0 J.s1 2 = ⟨(jget J.s1).bud, (jget J.s1).mar, (jget J.s1).ps, (jget J.s1).seq⟩ := by (show jone 1 J.s1 (jl J.s0 J.s1 1) = _; unfold jone; exact if_pos ⟨by simpa using h26, by simpa [hw0, hw1] using h33, by simpa using h37⟩)
            simp only [show (jget J.s1).bud = (jl J.s0 J.s1 2).bud from by rw [hjl], show (jget J.s1).mar = (jl J.s0 J.s1 2).mar from by rw [hjl], show (jget J.s1).ps = (jl J.s0 J.s1 2).ps from by rw [hjl], show (jget J.s1).seq = (jl J.s0 J.s1 2).seq from by rw [hjl]]
            refine fq_next (2, pg) (show 2 ≤ 2 by decide) (show 2 - 2 < 2 - 1 by decide) ⟨List.forall_mem_cons.2 ⟨rfl, List.forall_mem_cons.2 ⟨rfl, List.forall_mem_cons.2 ⟨rfl, List.forall_mem_cons.2 ⟨rfl, List.forall_mem_cons.2 ⟨rfl, fun _ h => (by cases h)⟩⟩⟩⟩⟩, List.Sublist.cons _ (List.Sublist.cons_cons _ (List.Sublist.cons _ (List.Sublist.cons_cons _ (List.Sublist.cons_cons _ (List.Sublist.cons_cons _ (List.Sublist.refl []))))))⟩
          · skip
            have q37 := h37
            try simp only [decide_eq_true_eq, decide_eq_false_iff_not, beq_iff_eq, beq_eq_false_iff_ne, bne_iff_ne, ne_eq, bne_eq_false_iff_eq, Int.not_lt, Int.not_le] at q37
            refine wc_skip ?_
            refine fq_block ?_
            refine fq_then ?_
            refine wc_region ?_
            refine wl_q (q_bin rfl rfl rfl rfl) rfl rfl (by decide) ?_
            refine wl_q (q_move rfl rfl) rfl rfl (by decide) ?_
            refine wl_nil ?_
            have hjl : jl J.s0 J.s1 2 = jl J.s0 J.s1 1 := by (show jone 1 J.s1 (jl J.s0 J.s1 1) = _; unfold jone; exact if_neg (fun h => by simp_all [hw0, hw1]))
            rw [← hjl]
            refine fq_next (2, q) (show 2 ≤ 2 by decide) (show 2 - 2 < 2 - 1 by decide) ⟨List.forall_mem_cons.2 ⟨rfl, List.forall_mem_cons.2 ⟨rfl, List.forall_mem_cons.2 ⟨rfl, List.forall_mem_cons.2 ⟨rfl, List.forall_mem_cons.2 ⟨rfl, fun _ h => (by cases h)⟩⟩⟩⟩⟩, List.Sublist.cons _ (List.Sublist.cons _ (List.Sublist.cons_cons _ (List.Sublist.cons_cons _ (List.Sublist.cons_cons _ (List.Sublist.cons_cons _ (List.Sublist.refl []))))))⟩
        · skip
          have q33 := h33
          try simp only [decide_eq_true_eq, decide_eq_false_iff_not, beq_iff_eq, beq_eq_false_iff_ne, bne_iff_ne, ne_eq, bne_eq_false_iff_eq, Int.not_lt, Int.not_le] at q33
          refine wl_skip (b := false) rfl rfl rfl rfl (by decide) ?_
          refine wl_skip (b := false) rfl rfl rfl rfl (by decide) ?_
          refine wl_skip (b := false) rfl rfl rfl rfl (by decide) ?_
          refine wl_q (q_pick rfl rfl rfl) rfl rfl (by decide) ?_
          refine wl_nil ?_
          refine fq_then ?_
          refine wc_false rfl ?_
          refine wc_skip ?_
          refine fq_block ?_
          refine fq_then ?_
          refine wc_region ?_
          refine wl_q (q_bin rfl rfl rfl rfl) rfl rfl (by decide) ?_
          refine wl_q (q_move rfl rfl) rfl rfl (by decide) ?_
          refine wl_nil ?_
          have hjl : jl J.s0 J.s1 2 = jl J.s0 J.s1 1 := by (show jone 1 J.s1 (jl J.s0 J.s1 1) = _; unfold jone; exact if_neg (fun h => by simp_all [hw0, hw1]))
          rw [← hjl]
          refine fq_next (2, q) (show 2 ≤ 2 by decide) (show 2 - 2 < 2 - 1 by decide) ⟨List.forall_mem_cons.2 ⟨rfl, List.forall_mem_cons.2 ⟨rfl, List.forall_mem_cons.2 ⟨rfl, List.forall_mem_cons.2 ⟨rfl, List.forall_mem_cons.2 ⟨rfl, fun _ h => (by cases h)⟩⟩⟩⟩⟩, List.Sublist.cons _ (List.Sublist.cons _ (List.Sublist.cons_cons _ (List.Sublist.cons_cons _ (List.Sublist.cons_cons _ (List.Sublist.cons_cons _ (List.Sublist.refl []))))))⟩
      · skip
        have q26 := h26
        try simp only [decide_eq_true_eq, decide_eq_false_iff_not, beq_iff_eq, beq_eq_false_iff_ne, bne_iff_ne, ne_eq, bne_eq_false_iff_eq, Int.not_lt, Int.not_le] at q26
        refine wl_skip (b := false) rfl rfl rfl rfl (by decide) ?_
        refine wl_skip (b := false) rfl rfl rfl rfl (by decide) ?_
        refine wl_skip (b := false) rfl rfl rfl rfl (by decide) ?_
        refine wl_skip (b := false) rfl rfl rfl rfl (by decide) ?_
        refine wl_skip (b := false) rfl rfl rfl rfl (by decide) ?_
        refine wl_q (q_pick rfl rfl rfl) rfl rfl (by decide) ?_
        refine wl_q (q_move rfl rfl) rfl rfl (by decide) ?_
        refine wl_skip (b := false) rfl rfl rfl rfl (by decide) ?_
        refine wl_skip (b := false) rfl rfl rfl rfl (by decide) ?_
        refine wl_skip (b := false) rfl rfl rfl rfl (by decide) ?_
        refine wl_q (q_pick rfl rfl rfl) rfl rfl (by decide) ?_
        refine wl_nil ?_
        refine fq_then ?_
        refine wc_false rfl ?_
        refine wc_skip ?_
        refine fq_block ?_
        refine fq_then ?_
        refine wc_region ?_
        refine wl_q (q_bin rfl rfl rfl rfl) rfl rfl (by decide) ?_
        refine wl_q (q_move rfl rfl) rfl rfl (by decide) ?_
        refine wl_nil ?_
        have hjl : jl J.s0 J.s1 2 = jl J.s0 J.s1 1 := by (show jone 1 J.s1 (jl J.s0 J.s1 1) = _; unfold jone; exact if_neg (fun h => by simp_all [hw0, hw1]))
        rw [← hjl]
        refine fq_next (2, q) (show 2 ≤ 2 by decide) (show 2 - 2 < 2 - 1 by decide) ⟨List.forall_mem_cons.2 ⟨rfl, List.forall_mem_cons.2 ⟨rfl, List.forall_mem_cons.2 ⟨rfl, List.forall_mem_cons.2 ⟨rfl, List.forall_mem_cons.2 ⟨rfl, fun _ h => (by cases h)⟩⟩⟩⟩⟩, List.Sublist.cons _ (List.Sublist.cons _ (List.Sublist.cons_cons _ (List.Sublist.cons_cons _ (List.Sublist.cons_cons _ (List.Sublist.cons_cons _ (List.Sublist.refl []))))))⟩
    · skip
      exact absurd h15 (by decide)
  · skip
    dsimp only
    refine wc_seq ?_
    refine wc_region ?_
    refine wl_q (q_bin rfl rfl rfl rfl) rfl rfl (by decide) ?_
    refine wl_nil ?_
    refine fq_then ?_
    refine wc_seq ?_
    refine wc_cond rfl (fun h15 => ?_) (fun h15 => ?_)
    · skip
      exact absurd h15 (by decide)
    · skip
      have q15 := h15
      try simp only [decide_eq_true_eq, decide_eq_false_iff_not, beq_iff_eq, beq_eq_false_iff_ne, bne_iff_ne, ne_eq, bne_eq_false_iff_eq, Int.not_lt, Int.not_le] at q15
      refine wc_exit ?_
      refine fq_then_exit ?_
      refine fq_then_exit ?_
      refine fq_block_hit ?_
      refine fq_then ?_
      refine wc_seq ?_
      refine wc_region ?_
      refine wl_q (q_loadA rfl rfl Mn32 Sz32 rfl (readsAll (i := 1) rfl)) rfl rfl (by decide) ?_
      refine wl_q (q_move rfl rfl) rfl rfl (by decide) ?_
      refine wl_q (q_move rfl rfl) rfl rfl (by decide) ?_
      refine wl_q (q_bin rfl rfl rfl rfl) rfl rfl (by decide) ?_
      refine wl_store (i := 2) rfl rfl rfl rfl rfl rfl Sz32 rfl rfl (by simp) (by simp [Value.oneCell']) (by first | (simp only [List.take_succ_cons, List.take_zero, List.take_nil, List.drop_succ_cons, List.drop_zero, List.drop_nil, List.nil_append, List.cons_append, List.append_nil, List.length_cons, List.length_nil, Nat.reduceAdd, Nat.zero_add]; rfl) | rfl) (by first | (simp only [List.set_cons_zero, List.set_cons_succ]; rfl) | rfl) ?_
      refine wl_q (q_assign rfl rfl) rfl rfl (by decide) ?_
      refine wl_q (q_assign rfl rfl) rfl rfl (by decide) ?_
      refine wl_nil ?_
      refine fq_then ?_
      refine wc_ret ?_
      refine fq_ctt (i := 2) (.inl rfl) rfl rfl rfl rfl rfl Mn32 Sz32 rfl (fun w1 H => ?_)
      exact ⟨q, rfl, H.pick [0, 3] (by decide) rfl⟩
end Go.Proofs.YtbcijmpkmmcdeaaDoor.SF
end
section
namespace Go.Proofs.YtbcijmpkmmcdeaaDoor.SF
open Go.RowKit Go.Sx Go.Proofs.YtbcijmpkmmcdeaaDoor.PAll Go.Proofs.YtbcijmpkmmcdeaaDoorW.PrintWords Go.Proofs.YtbcijmpkmmcdeaaDoorW.PrintLast Go.Proofs.YtbcijmpkmmcdeaaDoorW.PrintMore
open Go.Proofs.YtbcijmpkmmcdeaaDoor.Pure (le puts le_length puts_length puts_range put_ev joinF rowB_length rowB joinF_range join_ev sealed sealed_length sealed_range seal_ev open_ev open_short part_ev)
set_option linter.unusedVariables false
set_option linter.unusedSimpArgs false
set_option maxRecDepth 100000
def Jn.write (J : Jn) (bu ma : Int) (l : List S51) : Jn :=
  if Int.tmod (IntKind.u64.wrap ((jload J.s0 J.s1).seq + 1)) 2 = 0 then ⟨jput bu ma l (IntKind.u64.wrap ((jload J.s0 J.s1).seq + 1)), J.s1, 0, J.s0, true⟩
  else ⟨J.s0, jput bu ma l (IntKind.u64.wrap ((jload J.s0 J.s1).seq + 1)), 1, J.s1, true⟩
theorem u64_mod (x : Int) : Int.tmod (IntKind.u64.wrap x) 2 = 0 ∨ Int.tmod (IntKind.u64.wrap x) 2 = 1 := by
  have h : 0 ≤ IntKind.u64.wrap x := by
    simp only [IntKind.wrap, IntKind.signed, IntKind.bits]; simp; omega
  rw [Int.tmod_eq_emod_of_nonneg h]
  omega
theorem jput_length (bu ma : Int) (l : List S51) (seq : Int) : (jput bu ma l seq).length = 26 + 8 * l.length := by
  unfold jput
  rw [sealed_length, join3_length]
  omega
theorem jput_small {bu ma seq : Int} {l : List S51} (h : l.length ≤ 1000) : (jput bu ma l seq).length ≤ 9223372036854775807 := by
  rw [jput_length]; omega
set_option maxHeartbeats 2000000 in
theorem Write0_calls (J : Jn) (p0 p1 p2 : Gh) (bu ma cr : Int) (A : Option Addr) (c : Nat) (l : List S51) (w : World) (hJ : Jn.ok w J p0 p1 p2) (hB0 : Bytes J.s0) (hB1 : Bytes J.s1) (hr : Kd.C k51 w A l.length l) (hc : l.length ≤ c) (hl : l.length ≤ 1000) (hh : Half w) (hm : Int.tmod (IntKind.u64.wrap ((jload J.s0 J.s1).seq + 1)) 2 = 0) :
    Calls Tryd.prog 33 #[.agg (J.cells p0 p1 p2).toArray, .agg #[.int .i64 bu, .int .i64 ma, .int .i64 cr, .slice A l.length c]] w fun e w' => ∃ i : Gh, e = .returned (.agg ((J.write bu ma l).cells i p1 p0).toArray) ∧ HeapOK w [.own 0 5 1 (.slice i.1 (jput bu ma l (IntKind.u64.wrap ((jload J.s0 J.s1).seq + 1))).length i.2) (jput bu ma l (IntKind.u64.wrap ((jload J.s0 J.s1).seq + 1))).length (nums .u8 (jput bu ma l (IntKind.u64.wrap ((jload J.s0 J.s1).seq + 1)))), old w] w' := by
  refine enter (w0 := w) (hp := [old w]) (env := [(0, .agg #[.slice p0.1 J.s0.length p0.2, .slice p1.1 J.s1.length p1.2, .int .i64 J.last, .slice p2.1 J.was.length p2.2, .bool J.wrote]), (1, .agg #[.int .i64 bu, .int .i64 ma, .int .i64 cr, .slice A l.length c])]) Tryd.func33 rfl 35 rfl (by simp) rfl (HeapOK.start _) ?_
  refine wc_seq ?_
  refine wc_region ?_
  refine wl_box rfl rfl rfl (by decide) rfl rfl (fun b1 => ?_)
  refine wl_box rfl rfl rfl (by decide) rfl rfl (fun b2 => ?_)
  refine wl_alloc rfl rfl rfl (by decide) Zr38 (fun b3 => ?_)
  refine wl_nil ?_
  refine fq_then ?_
  refine wc_seq ?_
  refine wc_region ?_
  refine wl_q (q_loadA rfl rfl Mn38 Sz38 rfl (readsAll (i := 2) rfl)) rfl rfl (by decide) ?_
  refine wl_call (ι := Gh) (fun i => .tuple #[.agg #[.int .i64 (jload J.s0 J.s1).bud, .int .i64 (jload J.s0 J.s1).mar, .int .i64 0, .slice i.1 (jload J.s0 J.s1).ps.length i.2], .int .u64 (jload J.s0 J.s1).seq, .bool (decide (0 < (jload J.s0 J.s1).seq))]) (fun i => .own 0 51 2 (.slice i.1 (jload J.s0 J.s1).ps.length i.2) (jload J.s0 J.s1).ps.length ((jload J.s0 J.s1).ps.flatMap pc51) :: _) (fun _ => True) rfl rfl rfl (by decide) En28 rfl (fun w1 hw1 => (Load_calls J p0 p1 p2 w1 (hJ.below (hw1.toBelow (by simp))) hB0 hB1 (hh.keep (hw1.toBelow (by simp)))).mono (fun e w' ⟨i, h1, h2⟩ => ⟨i, trivial, h1, hw1.lift1 h2⟩)) (fun pl _ => ?_)
  refine wl_q (q_move rfl rfl) rfl rfl (by decide) ?_
  refine wl_q (q_extract rfl rfl rfl) rfl rfl (by decide) ?_
  refine wl_q (q_extract rfl rfl rfl) rfl rfl (by decide) ?_
  refine wl_q (q_extract rfl rfl rfl) rfl rfl (by decide) ?_
  refine wl_alloc rfl rfl rfl (by decide) Zr32 (fun b4 => ?_)
  refine wl_store (i := 0) rfl rfl rfl rfl rfl rfl Sz32 rfl rfl (by simp) (by simp [Value.oneCell']) (by first | (simp only [List.take_succ_cons, List.take_zero, List.take_nil, List.drop_succ_cons, List.drop_zero, List.drop_nil, List.nil_append, List.cons_append, List.append_nil, List.length_cons, List.length_nil, Nat.reduceAdd, Nat.zero_add]; rfl) | rfl) (by first | (simp only [List.set_cons_zero, List.set_cons_succ]; rfl) | rfl) ?_
  refine wl_q (q_assign rfl rfl) rfl rfl (by decide) ?_
  refine wl_q (q_assign rfl rfl) rfl rfl (by decide) ?_
  refine wl_nil ?_
  refine fq_then ?_
  refine wc_seq ?_
  refine wc_region ?_
  refine wl_q (q_move rfl rfl) rfl rfl (by decide) ?_
  refine wl_q (q_bin rfl rfl rfl rfl) rfl rfl (by decide) ?_
  refine wl_q (q_assign rfl rfl) rfl rfl (by decide) ?_
  refine wl_nil ?_
  refine fq_then ?_
  refine wc_seq ?_
  refine wc_region ?_
  refine wl_q (q_move rfl rfl) rfl rfl (by decide) ?_
  refine wl_q (OpQ.to (q_rem rfl rfl rfl (by decide)) (congrArg (Value.int .u64) hm)) rfl rfl (by decide) ?_
  refine wl_q (OpQ.to (q_conv rfl rfl Tryd.underlying53 Tryd.underlying3) (congrArg (Value.int .i64) (show IntKind.i64.wrap 0 = 0 by decide))) rfl rfl (by decide) ?_
  refine wl_q (q_fa (o1 := 2) rfl rfl Fo38_1 rfl) rfl rfl (by decide) ?_
  refine wl_store (i := 4) rfl rfl rfl rfl rfl rfl Sz3 rfl rfl (by simp) (by simp [Value.oneCell']) (by first | (simp only [List.take_succ_cons, List.take_zero, List.take_nil, List.drop_succ_cons, List.drop_zero, List.drop_nil, List.nil_append, List.cons_append, List.append_nil, List.length_cons, List.length_nil, Nat.reduceAdd, Nat.zero_add]; rfl) | rfl) (by first | (simp only [List.set_cons_zero, List.set_cons_succ]; rfl) | rfl) ?_
  refine wl_nil ?_
  refine fq_then ?_
  refine wc_seq ?_
  refine wc_region ?_
  refine wl_q (q_fa (o1 := 2) rfl rfl Fo38_1 rfl) rfl rfl (by decide) ?_
  refine wl_q (q_load rfl rfl Mn3 (reads1 (i := 4) rfl rfl)) rfl rfl (by decide) ?_
  refine wl_q (q_fa (o1 := 0) rfl rfl Fo38_0 rfl) rfl rfl (by decide) ?_
  refine wl_q (q_indexB (off := 0) rfl rfl rfl Tryd.underlying36 Sz22 (by decide) (by decide) rfl) rfl rfl (by decide) ?_
  refine wl_q (q_load rfl rfl Mn22 (reads1 (i := 4) rfl rfl)) rfl rfl (by decide) ?_
  refine wl_q (q_fa (o1 := 3) rfl rfl Fo38_2 rfl) rfl rfl (by decide) ?_
  refine wl_store (i := 4) rfl rfl rfl rfl rfl rfl Sz22 rfl rfl (by simp) (by simp [Value.oneCell']) (by first | (simp only [List.take_succ_cons, List.take_zero, List.take_nil, List.drop_succ_cons, List.drop_zero, List.drop_nil, List.nil_append, List.cons_append, List.append_nil, List.length_cons, List.length_nil, Nat.reduceAdd, Nat.zero_add]; rfl) | rfl) (by first | (simp only [List.set_cons_zero, List.set_cons_succ]; rfl) | rfl) ?_
  refine wl_nil ?_
  refine fq_then ?_
  refine wc_seq ?_
  refine wc_region ?_
  refine wl_q (q_fa (o1 := 4) rfl rfl Fo38_3 rfl) rfl rfl (by decide) ?_
  refine wl_store (i := 4) rfl rfl rfl rfl rfl rfl Sz4 rfl rfl (by simp) (by simp [Value.oneCell']) (by first | (simp only [List.take_succ_cons, List.take_zero, List.take_nil, List.drop_succ_cons, List.drop_zero, List.drop_nil, List.nil_append, List.cons_append, List.append_nil, List.length_cons, List.length_nil, Nat.reduceAdd, Nat.zero_add]; rfl) | rfl) (by first | (simp only [List.set_cons_zero, List.set_cons_succ]; rfl) | rfl) ?_
  refine wl_nil ?_
  refine fq_then ?_
  refine wc_seq ?_
  refine wc_pick [4, 0, 1, 2, 3, 5] (by decide) rfl ?_
  dsimp only [pickL, List.filterMap, List.getElem?_cons_zero, List.getElem?_cons_succ]
  refine wc_any Fol (any_drawG (ι := Gh) 8 1 [(4, fun X => [Sx.Item.own 0 5 1 (.slice (X 4).1 (jput bu ma l (IntKind.u64.wrap ((jload J.s0 J.s1).seq + 1))).length (X 4).2) (jput bu ma l (IntKind.u64.wrap ((jload J.s0 J.s1).seq + 1))).length (nums .u8 (jput bu ma l (IntKind.u64.wrap ((jload J.s0 J.s1).seq + 1))))]), (7, fun X => [Sx.Item.blk b1 _ 38])] [⟨[], [], []⟩, ⟨[], [8], []⟩, ⟨[], [8], []⟩, ⟨[], [], []⟩, ⟨[], [], []⟩, ⟨[], [], []⟩, ⟨[], [], [4]⟩, ⟨[8], [], [4]⟩] (by kernel_rfl) (ChainG.yield [] [] (fun X => q_fa (o1 := 2) rfl rfl Fo38_1 rfl) rfl rfl (fun _ => rfl) (fun _ _ => rfl) (fun X Y h0 h => ⟨by first | rfl | simp only [h0], by first | rfl | simp only [h0]⟩) (ChainG.yield [8] [] (fun X => q_load rfl rfl Mn3 (reads1 (i := 0) rfl rfl)) rfl rfl (fun _ => rfl) (fun _ _ => rfl) (fun X Y h0 h => ⟨by first | rfl | simp only [h0], by first | rfl | simp only [h0]⟩) (ChainG.yield [8] [] (fun X => q_loadA rfl rfl Mn32 Sz32 rfl (readsAll (i := 4) rfl)) rfl rfl (fun _ => rfl) (fun _ _ => rfl) (fun X Y h0 h => ⟨by first | rfl | simp only [h0], by first | rfl | simp only [h0]⟩) (ChainG.yield [] [] (fun X => q_move rfl rfl) rfl rfl (fun _ => rfl) (fun _ _ => rfl) (fun X Y h0 h => ⟨by first | rfl | simp only [h0], by first | rfl | simp only [h0]⟩) (ChainG.ope (fun X => .slice (X 4).1 (jput bu ma l (IntKind.u64.wrap ((jload J.s0 J.s1).seq + 1))).length (X 4).2) [] [] (fun X => (om_call (ι := Gh) rfl En25 rfl (fun R w1 hw1 => (Put_calls bu ma cr (IntKind.u64.wrap ((jload J.s0 J.s1).seq + 1)) A c l w1 (Kd.C_below hr (hw1.toBelow (by simp))) hc hl (hh.keep (hw1.toBelow (by simp)))).mono (fun e w' ⟨i, h1, h2⟩ => ⟨i, h1, hw1.lift1 h2⟩)))) rfl rfl (fun X Y h0 h => ⟨by first | rfl | (show (.slice (X 4).1 (jput bu ma l (IntKind.u64.wrap ((jload J.s0 J.s1).seq + 1))).length (X 4).2 : Value) = .slice (Y 4).1 (jput bu ma l (IntKind.u64.wrap ((jload J.s0 J.s1).seq + 1))).length (Y 4).2; simp only [h0]), by first | rfl | (show ([Sx.Item.own 0 5 1 (.slice (X 4).1 (jput bu ma l (IntKind.u64.wrap ((jload J.s0 J.s1).seq + 1))).length (X 4).2) (jput bu ma l (IntKind.u64.wrap ((jload J.s0 J.s1).seq + 1))).length (nums .u8 (jput bu ma l (IntKind.u64.wrap ((jload J.s0 J.s1).seq + 1))))] : List Sx.Item) = [Sx.Item.own 0 5 1 (.slice (Y 4).1 (jput bu ma l (IntKind.u64.wrap ((jload J.s0 J.s1).seq + 1))).length (Y 4).2) (jput bu ma l (IntKind.u64.wrap ((jload J.s0 J.s1).seq + 1))).length (nums .u8 (jput bu ma l (IntKind.u64.wrap ((jload J.s0 J.s1).seq + 1))))]; simp only [h0])⟩) (ChainG.yield [] [] (fun X => q_fa (o1 := 0) rfl rfl Fo38_0 rfl) rfl rfl (fun _ => rfl) (fun _ _ => rfl) (fun X Y h0 h => ⟨by first | rfl | simp only [h0], by first | rfl | simp only [h0]⟩) (ChainG.yield [] [4] (fun X => q_indexB (off := 0) rfl rfl rfl Tryd.underlying36 Sz22 (by decide) (by decide) rfl) rfl rfl (fun _ => rfl) (fun _ _ => rfl) (fun X Y h0 h => ⟨by first | rfl | simp only [h0, h 4 (by decide)], by first | rfl | simp only [h0, h 4 (by decide)]⟩) (ChainG.store [8] [4] (fun X => oe_storeAt (i := 0) rfl rfl rfl rfl Sz22 rfl rfl (by simp) (by simp [Value.oneCell']) rfl rfl) rfl rfl (fun _ => rfl) (fun _ _ => rfl) (fun X Y h0 h => ⟨by first | rfl | simp only [h0, h 4 (by decide)], by first | rfl | (show ([Sx.Item.blk b1 _ 38] : List Sx.Item) = [Sx.Item.blk b1 _ 38]; simp only [h0, h 4 (by decide)])⟩) (ChainG.nil _ _))))))))) rfl rfl (fun X => [_, _, _, _, _, _, _]) (fun _ => rfl) (fun X => ?_))
  generalize X 4 = qp
  dsimp only [List.take_succ_cons, List.take_zero, List.take_nil, List.drop_succ_cons, List.drop_zero, List.drop_nil, List.nil_append, List.cons_append, List.append_nil, List.length_cons, List.length_nil, Nat.reduceAdd, Nat.zero_add]
  refine wl_nil ?_
  refine fq_then ?_
  refine wc_seq ?_
  refine wc_region ?_
  refine wl_q (q_loadA rfl rfl Mn38 Sz38 rfl (readsAll (i := 1) rfl)) rfl rfl (by decide) ?_
  refine wl_store (i := 4) rfl rfl rfl rfl rfl rfl Sz38 rfl rfl (by simp) (by simp [Value.oneCell']) (by first | (simp only [List.take_succ_cons, List.take_zero, List.take_nil, List.drop_succ_cons, List.drop_zero, List.drop_nil, List.nil_append, List.cons_append, List.append_nil, List.length_cons, List.length_nil, Nat.reduceAdd, Nat.zero_add]; rfl) | rfl) (by first | (simp only [List.set_cons_zero, List.set_cons_succ]; rfl) | rfl) ?_
  refine wl_nil ?_
  refine fq_then ?_
  refine wc_ret ?_
  refine fq_cell (i := 4) (.inl rfl) rfl rfl rfl Mn38 Sz38 rfl (fun w1 H => ?_)
  have e : J.write bu ma l = ⟨(jput bu ma l (IntKind.u64.wrap ((jload J.s0 J.s1).seq + 1))), J.s1, 0, J.s0, true⟩ := by (unfold Jn.write; exact if_pos hm)
  rw [e]
  exact ⟨qp, rfl, H.pick [0, 6] (by decide) rfl⟩
set_option maxHeartbeats 2000000 in
theorem Write1_calls (J : Jn) (p0 p1 p2 : Gh) (bu ma cr : Int) (A : Option Addr) (c : Nat) (l : List S51) (w : World) (hJ : Jn.ok w J p0 p1 p2) (hB0 : Bytes J.s0) (hB1 : Bytes J.s1) (hr : Kd.C k51 w A l.length l) (hc : l.length ≤ c) (hl : l.length ≤ 1000) (hh : Half w) (hm : Int.tmod (IntKind.u64.wrap ((jload J.s0 J.s1).seq + 1)) 2 = 1) :
    Calls Tryd.prog 33 #[.agg (J.cells p0 p1 p2).toArray, .agg #[.int .i64 bu, .int .i64 ma, .int .i64 cr, .slice A l.length c]] w fun e w' => ∃ i : Gh, e = .returned (.agg ((J.write bu ma l).cells p0 i p1).toArray) ∧ HeapOK w [.own 0 5 1 (.slice i.1 (jput bu ma l (IntKind.u64.wrap ((jload J.s0 J.s1).seq + 1))).length i.2) (jput bu ma l (IntKind.u64.wrap ((jload J.s0 J.s1).seq + 1))).length (nums .u8 (jput bu ma l (IntKind.u64.wrap ((jload J.s0 J.s1).seq + 1)))), old w] w' := by
  refine enter (w0 := w) (hp := [old w]) (env := [(0, .agg #[.slice p0.1 J.s0.length p0.2, .slice p1.1 J.s1.length p1.2, .int .i64 J.last, .slice p2.1 J.was.length p2.2, .bool J.wrote]), (1, .agg #[.int .i64 bu, .int .i64 ma, .int .i64 cr, .slice A l.length c])]) Tryd.func33 rfl 35 rfl (by simp) rfl (HeapOK.start _) ?_
  refine wc_seq ?_
  refine wc_region ?_
  refine wl_box rfl rfl rfl (by decide) rfl rfl (fun b1 => ?_)
  refine wl_box rfl rfl rfl (by decide) rfl rfl (fun b2 => ?_)
  refine wl_alloc rfl rfl rfl (by decide) Zr38 (fun b3 => ?_)
  refine wl_nil ?_
  refine fq_then ?_
  refine wc_seq ?_
  refine wc_region ?_
  refine wl_q (q_loadA rfl rfl Mn38 Sz38 rfl (readsAll (i := 2) rfl)) rfl rfl (by decide) ?_
  refine wl_call (ι := Gh) (fun i => .tuple #[.agg #[.int .i64 (jload J.s0 J.s1).bud, .int .i64 (jload J.s0 J.s1).mar, .int .i64 0, .slice i.1 (jload J.s0 J.s1).ps.length i.2], .int .u64 (jload J.s0 J.s1).seq, .bool (decide (0 < (jload J.s0 J.s1).seq))]) (fun i => .own 0 51 2 (.slice i.1 (jload J.s0 J.s1).ps.length i.2) (jload J.s0 J.s1).ps.length ((jload J.s0 J.s1).ps.flatMap pc51) :: _) (fun _ => True) rfl rfl rfl (by decide) En28 rfl (fun w1 hw1 => (Load_calls J p0 p1 p2 w1 (hJ.below (hw1.toBelow (by simp))) hB0 hB1 (hh.keep (hw1.toBelow (by simp)))).mono (fun e w' ⟨i, h1, h2⟩ => ⟨i, trivial, h1, hw1.lift1 h2⟩)) (fun pl _ => ?_)
  refine wl_q (q_move rfl rfl) rfl rfl (by decide) ?_
  refine wl_q (q_extract rfl rfl rfl) rfl rfl (by decide) ?_
  refine wl_q (q_extract rfl rfl rfl) rfl rfl (by decide) ?_
  refine wl_q (q_extract rfl rfl rfl) rfl rfl (by decide) ?_
  refine wl_alloc rfl rfl rfl (by decide) Zr32 (fun b4 => ?_)
  refine wl_store (i := 0) rfl rfl rfl rfl rfl rfl Sz32 rfl rfl (by simp) (by simp [Value.oneCell']) (by first | (simp only [List.take_succ_cons, List.take_zero, List.take_nil, List.drop_succ_cons, List.drop_zero, List.drop_nil, List.nil_append, List.cons_append, List.append_nil, List.length_cons, List.length_nil, Nat.reduceAdd, Nat.zero_add]; rfl) | rfl) (by first | (simp only [List.set_cons_zero, List.set_cons_succ]; rfl) | rfl) ?_
  refine wl_q (q_assign rfl rfl) rfl rfl (by decide) ?_
  refine wl_q (q_assign rfl rfl) rfl rfl (by decide) ?_
  refine wl_nil ?_
  refine fq_then ?_
  refine wc_seq ?_
  refine wc_region ?_
  refine wl_q (q_move rfl rfl) rfl rfl (by decide) ?_
  refine wl_q (q_bin rfl rfl rfl rfl) rfl rfl (by decide) ?_
  refine wl_q (q_assign rfl rfl) rfl rfl (by decide) ?_
  refine wl_nil ?_
  refine fq_then ?_
  refine wc_seq ?_
  refine wc_region ?_
  refine wl_q (q_move rfl rfl) rfl rfl (by decide) ?_
  refine wl_q (OpQ.to (q_rem rfl rfl rfl (by decide)) (congrArg (Value.int .u64) hm)) rfl rfl (by decide) ?_
  refine wl_q (OpQ.to (q_conv rfl rfl Tryd.underlying53 Tryd.underlying3) (congrArg (Value.int .i64) (show IntKind.i64.wrap 1 = 1 by decide))) rfl rfl (by decide) ?_
  refine wl_q (q_fa (o1 := 2) rfl rfl Fo38_1 rfl) rfl rfl (by decide) ?_
  refine wl_store (i := 4) rfl rfl rfl rfl rfl rfl Sz3 rfl rfl (by simp) (by simp [Value.oneCell']) (by first | (simp only [List.take_succ_cons, List.take_zero, List.take_nil, List.drop_succ_cons, List.drop_zero, List.drop_nil, List.nil_append, List.cons_append, List.append_nil, List.length_cons, List.length_nil, Nat.reduceAdd, Nat.zero_add]; rfl) | rfl) (by first | (simp only [List.set_cons_zero, List.set_cons_succ]; rfl) | rfl) ?_
  refine wl_nil ?_
  refine fq_then ?_
  refine wc_seq ?_
  refine wc_region ?_
  refine wl_q (q_fa (o1 := 2) rfl rfl Fo38_1 rfl) rfl rfl (by decide) ?_
  refine wl_q (q_load rfl rfl Mn3 (reads1 (i := 4) rfl rfl)) rfl rfl (by decide) ?_
  refine wl_q (q_fa (o1 := 0) rfl rfl Fo38_0 rfl) rfl rfl (by decide) ?_
  refine wl_q (q_indexB (off := 1) rfl rfl rfl Tryd.underlying36 Sz22 (by decide) (by decide) rfl) rfl rfl (by decide) ?_
  refine wl_q (q_load rfl rfl Mn22 (reads1 (i := 4) rfl rfl)) rfl rfl (by decide) ?_
  refine wl_q (q_fa (o1 := 3) rfl rfl Fo38_2 rfl) rfl rfl (by decide) ?_
  refine wl_store (i := 4) rfl rfl rfl rfl rfl rfl Sz22 rfl rfl (by simp) (by simp [Value.oneCell']) (by first | (simp only [List.take_succ_cons, List.take_zero, List.take_nil, List.drop_succ_cons, List.drop_zero, List.drop_nil, List.nil_append, List.cons_append, List.append_nil, List.length_cons, List.length_nil, Nat.reduceAdd, Nat.zero_add]; rfl) | rfl) (by first | (simp only [List.set_cons_zero, List.set_cons_succ]; rfl) | rfl) ?_
  refine wl_nil ?_
  refine fq_then ?_
  refine wc_seq ?_
  refine wc_region ?_
  refine wl_q (q_fa (o1 := 4) rfl rfl Fo38_3 rfl) rfl rfl (by decide) ?_
  refine wl_store (i := 4) rfl rfl rfl rfl rfl rfl Sz4 rfl rfl (by simp) (by simp [Value.oneCell']) (by first | (simp only [List.take_succ_cons, List.take_zero, List.take_nil, List.drop_succ_cons, List.drop_zero, List.drop_nil, List.nil_append, List.cons_append, List.append_nil, List.length_cons, List.length_nil, Nat.reduceAdd, Nat.zero_add]; rfl) | rfl) (by first | (simp only [List.set_cons_zero, List.set_cons_succ]; rfl) | rfl) ?_
  refine wl_nil ?_
  refine fq_then ?_
  refine wc_seq ?_
  refine wc_pick [4, 0, 1, 2, 3, 5] (by decide) rfl ?_
  dsimp only [pickL, List.filterMap, List.getElem?_cons_zero, List.getElem?_cons_succ]
  refine wc_any Fol (any_drawG (ι := Gh) 8 1 [(4, fun X => [Sx.Item.own 0 5 1 (.slice (X 4).1 (jput bu ma l (IntKind.u64.wrap ((jload J.s0 J.s1).seq + 1))).length (X 4).2) (jput bu ma l (IntKind.u64.wrap ((jload J.s0 J.s1).seq + 1))).length (nums .u8 (jput bu ma l (IntKind.u64.wrap ((jload J.s0 J.s1).seq + 1))))]), (7, fun X => [Sx.Item.blk b1 _ 38])] [⟨[], [], []⟩, ⟨[], [8], []⟩, ⟨[], [8], []⟩, ⟨[], [], []⟩, ⟨[], [], []⟩, ⟨[], [], []⟩, ⟨[], [], [4]⟩, ⟨[8], [], [4]⟩] (by kernel_rfl) (ChainG.yield [] [] (fun X => q_fa (o1 := 2) rfl rfl Fo38_1 rfl) rfl rfl (fun _ => rfl) (fun _ _ => rfl) (fun X Y h0 h => ⟨by first | rfl | simp only [h0], by first | rfl | simp only [h0]⟩) (ChainG.yield [8] [] (fun X => q_load rfl rfl Mn3 (reads1 (i := 0) rfl rfl)) rfl rfl (fun _ => rfl) (fun _ _ => rfl) (fun X Y h0 h => ⟨by first | rfl | simp only [h0], by first | rfl | simp only [h0]⟩) (ChainG.yield [8] [] (fun X => q_loadA rfl rfl Mn32 Sz32 rfl (readsAll (i := 4) rfl)) rfl rfl (fun _ => rfl) (fun _ _ => rfl) (fun X Y h0 h => ⟨by first | rfl | simp only [h0], by first | rfl | simp only [h0]⟩) (ChainG.yield [] [] (fun X => q_move rfl rfl) rfl rfl (fun _ => rfl) (fun _ _ => rfl) (fun X Y h0 h => ⟨by first | rfl | simp only [h0], by first | rfl | simp only [h0]⟩) (ChainG.ope (fun X => .slice (X 4).1 (jput bu ma l (IntKind.u64.wrap ((jload J.s0 J.s1).seq + 1))).length (X 4).2) [] [] (fun X => (om_call (ι := Gh) rfl En25 rfl (fun R w1 hw1 => (Put_calls bu ma cr (IntKind.u64.wrap ((jload J.s0 J.s1).seq + 1)) A c l w1 (Kd.C_below hr (hw1.toBelow (by simp))) hc hl (hh.keep (hw1.toBelow (by simp)))).mono (fun e w' ⟨i, h1, h2⟩ => ⟨i, h1, hw1.lift1 h2⟩)))) rfl rfl (fun X Y h0 h => ⟨by first | rfl | (show (.slice (X 4).1 (jput bu ma l (IntKind.u64.wrap ((jload J.s0 J.s1).seq + 1))).length (X 4).2 : Value) = .slice (Y 4).1 (jput bu ma l (IntKind.u64.wrap ((jload J.s0 J.s1).seq + 1))).length (Y 4).2; simp only [h0]), by first | rfl | (show ([Sx.Item.own 0 5 1 (.slice (X 4).1 (jput bu ma l (IntKind.u64.wrap ((jload J.s0 J.s1).seq + 1))).length (X 4).2) (jput bu ma l (IntKind.u64.wrap ((jload J.s0 J.s1).seq + 1))).length (nums .u8 (jput bu ma l (IntKind.u64.wrap ((jload J.s0 J.s1).seq + 1))))] : List Sx.Item) = [Sx.Item.own 0 5 1 (.slice (Y 4).1 (jput bu ma l (IntKind.u64.wrap ((jload J.s0 J.s1).seq + 1))).length (Y 4).2) (jput bu ma l (IntKind.u64.wrap ((jload J.s0 J.s1).seq + 1))).length (nums .u8 (jput bu ma l (IntKind.u64.wrap ((jload J.s0 J.s1).seq + 1))))]; simp only [h0])⟩) (ChainG.yield [] [] (fun X => q_fa (o1 := 0) rfl rfl Fo38_0 rfl) rfl rfl (fun _ => rfl) (fun _ _ => rfl) (fun X Y h0 h => ⟨by first | rfl | simp only [h0], by first | rfl | simp only [h0]⟩) (ChainG.yield [] [4] (fun X => q_indexB (off := 1) rfl rfl rfl Tryd.underlying36 Sz22 (by decide) (by decide) rfl) rfl rfl (fun _ => rfl) (fun _ _ => rfl) (fun X Y h0 h => ⟨by first | rfl | simp only [h0, h 4 (by decide)], by first | rfl | simp only [h0, h 4 (by decide)]⟩) (ChainG.store [8] [4] (fun X => oe_storeAt (i := 0) rfl rfl rfl rfl Sz22 rfl rfl (by simp) (by simp [Value.oneCell']) rfl rfl) rfl rfl (fun _ => rfl) (fun _ _ => rfl) (fun X Y h0 h => ⟨by first | rfl | simp only [h0, h 4 (by decide)], by first | rfl | (show ([Sx.Item.blk b1 _ 38] : List Sx.Item) = [Sx.Item.blk b1 _ 38]; simp only [h0, h 4 (by decide)])⟩) (ChainG.nil _ _))))))))) rfl rfl (fun X => [_, _, _, _, _, _, _]) (fun _ => rfl) (fun X => ?_))
  generalize X 4 = qp
  dsimp only [List.take_succ_cons, List.take_zero, List.take_nil, List.drop_succ_cons, List.drop_zero, List.drop_nil, List.nil_append, List.cons_append, List.append_nil, List.length_cons, List.length_nil, Nat.reduceAdd, Nat.zero_add]
  refine wl_nil ?_
  refine fq_then ?_
  refine wc_seq ?_
  refine wc_region ?_
  refine wl_q (q_loadA rfl rfl Mn38 Sz38 rfl (readsAll (i := 1) rfl)) rfl rfl (by decide) ?_
  refine wl_store (i := 4) rfl rfl rfl rfl rfl rfl Sz38 rfl rfl (by simp) (by simp [Value.oneCell']) (by first | (simp only [List.take_succ_cons, List.take_zero, List.take_nil, List.drop_succ_cons, List.drop_zero, List.drop_nil, List.nil_append, List.cons_append, List.append_nil, List.length_cons, List.length_nil, Nat.reduceAdd, Nat.zero_add]; rfl) | rfl) (by first | (simp only [List.set_cons_zero, List.set_cons_succ]; rfl) | rfl) ?_
  refine wl_nil ?_
  refine fq_then ?_
  refine wc_ret ?_
  refine fq_cell (i := 4) (.inl rfl) rfl rfl rfl Mn38 Sz38 rfl (fun w1 H => ?_)
  have e : J.write bu ma l = ⟨J.s0, (jput bu ma l (IntKind.u64.wrap ((jload J.s0 J.s1).seq + 1))), 1, J.s1, true⟩ := by (unfold Jn.write; exact if_neg (by rw [hm]; decide))
  rw [e]
  exact ⟨qp, rfl, H.pick [0, 6] (by decide) rfl⟩
theorem Write_calls (J : Jn) (p0 p1 p2 : Gh) (bu ma cr : Int) (A : Option Addr) (c : Nat) (l : List S51) (w : World) (hJ : Jn.ok w J p0 p1 p2) (hB0 : Bytes J.s0) (hB1 : Bytes J.s1) (hr : Kd.C k51 w A l.length l) (hc : l.length ≤ c) (hl : l.length ≤ 1000) (hh : Half w) :
    Calls Tryd.prog 33 #[.agg (J.cells p0 p1 p2).toArray, .agg #[.int .i64 bu, .int .i64 ma, .int .i64 cr, .slice A l.length c]] w fun e w' => ∃ q0 q1 q2, e = .returned (.agg ((J.write bu ma l).cells q0 q1 q2).toArray) ∧ Jn.ok w' (J.write bu ma l) q0 q1 q2 ∧ Below w.heap.size w w' := by
  rcases u64_mod ((jload J.s0 J.s1).seq + 1) with hm | hm
  · refine (Write0_calls J p0 p1 p2 bu ma cr A c l w hJ hB0 hB1 hr hc hl hh hm).mono ?_
    rintro e w' ⟨i, h1, H⟩
    have hb : Below w.heap.size w w' := H.toBelow (by simp)
    have hJ' := hJ.below hb
    refine ⟨i, p1, p0, h1, ?_, hb⟩
    have e : J.write bu ma l = ⟨jput bu ma l (IntKind.u64.wrap ((jload J.s0 J.s1).seq + 1)), J.s1, 0, J.s0, true⟩ := by (unfold Jn.write; exact if_pos hm)
    rw [e]
    exact ⟨rowC_of_own (H.get (i := 0) rfl) rfl (jput_small hl), hJ'.2.1, hJ'.1⟩
  · refine (Write1_calls J p0 p1 p2 bu ma cr A c l w hJ hB0 hB1 hr hc hl hh hm).mono ?_
    rintro e w' ⟨i, h1, H⟩
    have hb : Below w.heap.size w w' := H.toBelow (by simp)
    have hJ' := hJ.below hb
    refine ⟨p0, i, p1, h1, ?_, hb⟩
    have e : J.write bu ma l = ⟨J.s0, jput bu ma l (IntKind.u64.wrap ((jload J.s0 J.s1).seq + 1)), 1, J.s1, true⟩ := by (unfold Jn.write; exact if_neg (by rw [hm]; decide))
    rw [e]
    exact ⟨hJ'.1, rowC_of_own (H.get (i := 0) rfl) rfl (jput_small hl), hJ'.2.1⟩
end Go.Proofs.YtbcijmpkmmcdeaaDoor.SF
end
section
namespace Go.Proofs.YtbcijmpkmmcdeaaDoor.SF
open Go.RowKit Go.Sx Go.Proofs.YtbcijmpkmmcdeaaDoor.PAll Go.Proofs.YtbcijmpkmmcdeaaDoorW.PrintWords Go.Proofs.YtbcijmpkmmcdeaaDoorW.PrintLast Go.Proofs.YtbcijmpkmmcdeaaDoorW.PrintMore
open Go.Proofs.YtbcijmpkmmcdeaaDoor.Pure (le puts le_length puts_length puts_range put_ev joinF rowB_length rowB joinF_range join_ev sealed sealed_length sealed_range seal_ev open_ev open_short part_ev num_ev row_ev ref_seal_ev str_app wu64)
set_option linter.unusedVariables false
set_option linter.unusedSimpArgs false
set_option maxRecDepth 100000
theorem C91_at {W : World} {A : Option Addr} {j : Nat} {xs : List S91} {p : S91} (h : Kd.C k91 W A xs.length xs) (hp : xs[j]? = some p) : ∃ ad, A = some ad ∧ W.cell? (ad.add (j * 2)) = some (.int .i64 p.f0) ∧ W.cell? (ad.add (j * 2 + 1)) = some (.int .i64 p.f1) := by
  obtain ⟨ad, cs, e, hK, hc⟩ := C_at h hp rfl
  obtain rfl := k91_open hK
  have h0 := hc 0 _ rfl
  have h1 := hc 1 _ rfl
  rw [Sx.add_add] at h0 h1
  exact ⟨ad, e, h0, h1⟩
def to51 (p : S91) : S51 := ⟨p.f0, p.f1⟩
theorem u64_range (x : Int) : 0 ≤ IntKind.u64.wrap x ∧ IntKind.u64.wrap x < 18446744073709551616 := by
  simp only [IntKind.wrap, IntKind.signed, IntKind.bits]; simp; omega
theorem rnum_calls (n : Nat) (hn : n ≤ 8) (x : Int) (hx : 0 ≤ x ∧ x < 18446744073709551616) (w : World) : Calls Tryd.prog 54 #[.int .i64 n, .int .u64 x] w fun e w' => e = .returned (.string (strOfNums (le n x))) ∧ Below w.heap.size w w' := paternosterref01_Num.calls 10 n x _ w (num_ev n hn x hx 10 (by decide))
theorem rrow_calls (r : List Int) (h : r.length ≤ 65535) (w : World) : Calls Tryd.prog 56 #[.string (strOfNums r)] w fun e w' => e = .returned (.string (strOfNums (rowB r))) ∧ Below w.heap.size w w' := paternosterref01_Row.calls _ _ w (row_ev r h)
theorem rseal_calls (l : List Int) (hb : ∀ x ∈ l, 0 ≤ x ∧ x ≤ 255) (hl : l.length ≤ 100000) (w : World) : Calls Tryd.prog 55 #[.string (strOfNums l)] w fun e w' => e = .returned (.string (strOfNums (sealed l))) ∧ Below w.heap.size w w' := by
  obtain ⟨K, hK⟩ := ref_seal_ev l hb hl
  exact paternosterref02_Seal.calls K _ _ w (hK K (Nat.le_refl _))
theorem pB_le (p : S51) : pB p = le 4 (IntKind.u64.wrap p.f0) ++ le 4 (IntKind.u64.wrap p.f1) := by simp [pB, puts]
theorem puts1 (n : Nat) (x : Int) : puts n [x] = le n x := by simp [puts]
theorem puts2 (n : Nat) (x y : Int) : puts n [x, y] = le n x ++ le n y := by simp [puts]
theorem map_take51 {l : List S91} {j : Nat} {p : S91} (h : l[j]? = some p) : (l.map to51)[j]? = some (to51 p) := by rw [List.getElem?_map, h]; rfl
set_option maxHeartbeats 1000000 in
theorem RPut_calls (bu ma cr seq : Int) (A : Option Addr) (c : Nat) (l : List S91) (w : World) (hr : Kd.C k91 w A l.length l) (hc : l.length ≤ c) (hl : l.length ≤ 1000) (hs : 0 ≤ seq ∧ seq < 18446744073709551616) :
    Calls Tryd.prog 26 #[.agg #[.int .i64 bu, .int .i64 ma, .int .i64 cr, .slice A l.length c], .int .u64 seq] w fun e w' => e = .returned (.string (strOfNums (jput bu ma (l.map to51) seq))) ∧ Below w.heap.size w w' := by
  refine enter (w0 := w) (hp := [old w]) (env := [(0, .agg #[.int .i64 bu, .int .i64 ma, .int .i64 cr, .slice A l.length c]), (1, .int .u64 seq)]) Tryd.func26 rfl 51 rfl (by simp) rfl (HeapOK.start _) ?_
  refine wc_seq ?_
  refine wc_region ?_
  refine wl_box rfl rfl rfl (by decide) rfl rfl (fun b1 => ?_)
  refine wl_q (q_assign rfl rfl) rfl rfl (by decide) ?_
  refine wl_nil ?_
  refine fq_then ?_
  refine wc_seq ?_
  refine wc_region ?_
  refine wl_q (q_assign rfl rfl) rfl rfl (by decide) ?_
  refine wl_nil ?_
  refine fq_then ?_
  refine wc_seq ?_
  refine wc_seq ?_
  refine wc_region ?_
  refine wl_q (q_assign rfl rfl) rfl rfl (by decide) ?_
  refine wl_nil ?_
  refine fq_then ?_
  refine wc_block ?_
  refine wc_loop (ι := Nat) (fun j => [(1, .int .u64 seq), (2, .pointer (some ⟨b1, 0, none⟩)), (5, .string (strOfNums (pBs ((l.map to51).take j)))), (6, .int .i64 (j : Nat))]) (fun j => [.blk b1 [.int .i64 bu, .int .i64 ma, .int .i64 cr, .slice A l.length c] 42, old w]) (fun j => j ≤ l.length) (fun j => l.length - j) 0 (Nat.zero_le _) ⟨List.forall_mem_cons.2 ⟨rfl, List.forall_mem_cons.2 ⟨rfl, List.forall_mem_cons.2 ⟨rfl, List.forall_mem_cons.2 ⟨rfl, fun _ h => (by cases h)⟩⟩⟩⟩, List.Sublist.refl _⟩ ?_
  intro j hj
  refine wc_seq ?_
  refine wc_seq ?_
  refine wc_region ?_
  refine wl_q (q_move rfl rfl) rfl rfl (by decide) ?_
  refine wl_q (q_fa (o1 := 3) rfl rfl Fo42_3 rfl) rfl rfl (by decide) ?_
  refine wl_q (q_load rfl rfl Mn40 (reads1 (i := 0) rfl rfl)) rfl rfl (by decide) ?_
  refine wl_q (q_len rfl rfl Tryd.underlying40) rfl rfl (by decide) ?_
  refine wl_q (q_bin rfl rfl rfl rfl) rfl rfl (by decide) ?_
  refine wl_nil ?_
  refine fq_then ?_
  refine wc_cond rfl (fun h11 => ?_) (fun h11 => ?_)
  · skip
    have q11 := h11
    try simp only [decide_eq_true_eq, decide_eq_false_iff_not, beq_iff_eq, beq_eq_false_iff_ne, bne_iff_ne, ne_eq, bne_eq_false_iff_eq, Int.not_lt, Int.not_le] at q11
    obtain ⟨p, hp⟩ : ∃ p, l[j]? = some p := ⟨_, List.getElem?_eq_getElem (by omega)⟩
    obtain ⟨ad, rfl, hf0, hf1⟩ := C91_at hr hp
    have wj : IntKind.i64.wrap ((j : Int) + 1) = ((j + 1 : Nat) : Int) := wrap_nat (by omega)
    refine wc_skip ?_
    refine fq_then ?_
    refine wc_seq ?_
    refine wc_block ?_
    refine wc_draw 20 Fol (by kernel_rfl) (Chain.yield (q_move rfl rfl) rfl rfl (Chain.yield (q_fa (o1 := 3) rfl rfl Fo42_3 rfl) rfl rfl (Chain.yield (q_load rfl rfl Mn40 (reads1 (i := 0) rfl rfl)) rfl rfl (Chain.yield (q_move rfl rfl) rfl rfl (Chain.yield (q_index rfl rfl rfl Tryd.underlying40 Sz91 (by omega) (by omega)) rfl rfl (Chain.yield (q_fax rfl rfl Fo91_0 rfl) rfl rfl (Chain.yield (q_load rfl rfl Mn3 (reads_old (by simp) (cell_zero hf0))) rfl rfl (Chain.yield (q_conv rfl rfl Tryd.underlying3 Tryd.underlying53) rfl rfl (Chain.yield (q_call rfl En54 rfl (fun w1 hw1 => rnum_calls 4 (by decide) (IntKind.u64.wrap p.f0) (u64_range _) w1)) rfl rfl (Chain.yield (q_fa (o1 := 3) rfl rfl Fo42_3 rfl) rfl rfl (Chain.yield (q_load rfl rfl Mn40 (reads1 (i := 0) rfl rfl)) rfl rfl (Chain.yield (q_move rfl rfl) rfl rfl (Chain.yield (q_index rfl rfl rfl Tryd.underlying40 Sz91 (by omega) (by omega)) rfl rfl (Chain.yield (q_fax rfl rfl Fo91_1 rfl) rfl rfl (Chain.yield (q_load rfl rfl Mn3 (reads_old (by simp) (cell_zero hf1))) rfl rfl (Chain.yield (q_conv rfl rfl Tryd.underlying3 Tryd.underlying53) rfl rfl (Chain.yield (q_call rfl En54 rfl (fun w1 hw1 => rnum_calls 4 (by decide) (IntKind.u64.wrap p.f1) (u64_range _) w1)) rfl rfl (Chain.yield (q_addS (c := strOfNums (le 4 (IntKind.u64.wrap p.f0) ++ le 4 (IntKind.u64.wrap p.f1))) rfl rfl rfl (by rw [strOfNums_size, strOfNums_size]; simp only [List.length_append, le_length, rowB_length, pBs_length, List.length_take, List.length_map]; omega) (str_app _ _).symm) rfl rfl (Chain.yield (q_addS (c := strOfNums ((pBs ((l.map to51).take j)) ++ (le 4 (IntKind.u64.wrap p.f0) ++ le 4 (IntKind.u64.wrap p.f1)))) rfl rfl rfl (by rw [strOfNums_size, strOfNums_size]; simp only [List.length_append, le_length, rowB_length, pBs_length, List.length_take, List.length_map]; omega) (str_app _ _).symm) rfl rfl (Chain.yield (q_assign rfl rfl) rfl rfl (Chain.nil _))))))))))))))))))))) ?_
    refine wl_nil ?_
    refine fq_block ?_
    refine fq_then ?_
    refine wc_region ?_
    refine wl_q (q_move rfl rfl) rfl rfl (by decide) ?_
    refine wl_q (q_bin rfl rfl rfl rfl) rfl rfl (by decide) ?_
    refine wl_q (q_assign rfl rfl) rfl rfl (by decide) ?_
    refine wl_nil ?_
    refine fq_next (j + 1) (show j + 1 ≤ l.length by omega) (show l.length - (j + 1) < l.length - j by omega) ⟨List.forall_mem_cons.2 ⟨rfl, List.forall_mem_cons.2 ⟨rfl, List.forall_mem_cons.2 ⟨(show some (Value.string (strOfNums ((pBs ((l.map to51).take j)) ++ (le 4 (IntKind.u64.wrap p.f0) ++ le 4 (IntKind.u64.wrap p.f1))))) = _ from by rw [pBs_take (map_take51 hp), pB_le]; rfl), List.forall_mem_cons.2 ⟨(show some (Value.int .i64 (IntKind.i64.wrap ((j : Int) + 1))) = some (Value.int .i64 ((j + 1 : Nat) : Int)) from by rw [wj]), fun _ h => (by cases h)⟩⟩⟩⟩, List.Sublist.refl _⟩
  · skip
    have q11 := h11
    try simp only [decide_eq_true_eq, decide_eq_false_iff_not, beq_iff_eq, beq_eq_false_iff_ne, bne_iff_ne, ne_eq, bne_eq_false_iff_eq, Int.not_lt, Int.not_le] at q11
    obtain rfl : j = l.length := by omega
    rw [List.take_of_length_le (by rw [List.length_map]; exact Nat.le_refl _)]
    refine wc_exit ?_
    refine fq_then_exit ?_
    refine fq_then_exit ?_
    refine fq_block_hit ?_
    refine fq_then ?_
    refine wc_seq ?_
    have hR : joinF (jrows bu ma (l.map to51) seq) = (rowB (le 8 seq) ++ rowB (le 4 (IntKind.u64.wrap bu) ++ le 4 (IntKind.u64.wrap ma))) ++ rowB (pBs (l.map to51)) := by simp only [joinF, jrows, List.flatMap_cons, List.flatMap_nil, List.append_nil, puts1, puts2, List.append_assoc]
    refine wc_draw 19 Fol (by kernel_rfl) (Chain.yield (q_move rfl rfl) rfl rfl (Chain.yield (q_call rfl En54 rfl (fun w1 hw1 => rnum_calls 8 (by decide) seq hs w1)) rfl rfl (Chain.yield (q_call rfl En56 rfl (fun w1 hw1 => rrow_calls (le 8 seq) (by rw [le_length]; decide) w1)) rfl rfl (Chain.yield (q_fa (o1 := 0) rfl rfl Fo42_0 rfl) rfl rfl (Chain.yield (q_load rfl rfl Mn3 (reads1 (i := 0) rfl rfl)) rfl rfl (Chain.yield (q_conv rfl rfl Tryd.underlying3 Tryd.underlying53) rfl rfl (Chain.yield (q_call rfl En54 rfl (fun w1 hw1 => rnum_calls 4 (by decide) (IntKind.u64.wrap bu) (u64_range _) w1)) rfl rfl (Chain.yield (q_fa (o1 := 1) rfl rfl Fo42_1 rfl) rfl rfl (Chain.yield (q_load rfl rfl Mn3 (reads1 (i := 0) rfl rfl)) rfl rfl (Chain.yield (q_conv rfl rfl Tryd.underlying3 Tryd.underlying53) rfl rfl (Chain.yield (q_call rfl En54 rfl (fun w1 hw1 => rnum_calls 4 (by decide) (IntKind.u64.wrap ma) (u64_range _) w1)) rfl rfl (Chain.yield (q_addS (c := strOfNums (le 4 (IntKind.u64.wrap bu) ++ le 4 (IntKind.u64.wrap ma))) rfl rfl rfl (by rw [strOfNums_size, strOfNums_size]; simp only [List.length_append, le_length, rowB_length, pBs_length, List.length_take, List.length_map]; omega) (str_app _ _).symm) rfl rfl (Chain.yield (q_call rfl En56 rfl (fun w1 hw1 => rrow_calls (le 4 (IntKind.u64.wrap bu) ++ le 4 (IntKind.u64.wrap ma)) (by rw [List.length_append, le_length, le_length]; decide) w1)) rfl rfl (Chain.yield (q_addS (c := strOfNums (rowB (le 8 seq) ++ rowB (le 4 (IntKind.u64.wrap bu) ++ le 4 (IntKind.u64.wrap ma)))) rfl rfl rfl (by rw [strOfNums_size, strOfNums_size]; simp only [List.length_append, le_length, rowB_length, pBs_length, List.length_take, List.length_map]; omega) (str_app _ _).symm) rfl rfl (Chain.yield (q_move rfl rfl) rfl rfl (Chain.yield (q_call rfl En56 rfl (fun w1 hw1 => rrow_calls (pBs (l.map to51)) (by rw [pBs_length, List.length_map]; omega) w1)) rfl rfl (Chain.yield (q_addS (c := strOfNums ((rowB (le 8 seq) ++ rowB (le 4 (IntKind.u64.wrap bu) ++ le 4 (IntKind.u64.wrap ma))) ++ rowB (pBs (l.map to51)))) rfl rfl rfl (by rw [strOfNums_size, strOfNums_size]; simp only [List.length_append, le_length, rowB_length, pBs_length, List.length_take, List.length_map]; omega) (str_app _ _).symm) rfl rfl (Chain.yield (q_call rfl En55 rfl (fun w1 hw1 => hR ▸ rseal_calls (joinF (jrows bu ma (l.map to51) seq)) (joinF_range _ (jrows_range _ _ _ _)) (by rw [join3_length, List.length_map]; omega) w1)) rfl rfl (Chain.yield (q_assign rfl rfl) rfl rfl (Chain.nil _)))))))))))))))))))) ?_
    refine wl_nil ?_
    refine fq_then ?_
    refine wc_ret ?_
    refine fq_ret1 rfl rfl (fun w1 H => ?_)
    exact ⟨by (unfold jput; rw [hR]), H.toBelow (by simp)⟩
end Go.Proofs.YtbcijmpkmmcdeaaDoor.SF
end
section
namespace Go.Proofs.YtbcijmpkmmcdeaaDoor.PAll
open Go.RowKit Go.Proofs.YtbcijmpkmmcdeaaDoorW.PrintWords Go.Proofs.YtbcijmpkmmcdeaaDoorW.PrintLast Go.Proofs.YtbcijmpkmmcdeaaDoorW.PrintMore
attribute [local go_sem] max2_int min2_int max_two min_two max_three min_three max_four min_four
set_option linter.unusedVariables false
set_option linter.unusedSimpArgs false
def ixs (l : List S51) (g : S51 → Bool) : Nat → Int := fun i => if (l.drop i).findIdx g < (l.drop i).length then ((i + (l.drop i).findIdx g : Nat) : Int) else -1
def ixf (l : List S51) (g : S51 → Bool) : Int := if l.findIdx g < l.length then (l.findIdx g : Int) else -1
theorem ixs_zero (l : List S51) (g : S51 → Bool) : ixf l g = ixs l g 0 := by simp [ixf, ixs]
theorem ixs_end (l : List S51) (g : S51 → Bool) : ixs l g l.length = -1 := by simp [ixs]
theorem rd_T51_nat (l : List S51) (i : Nat) (h : i < l.length) : rd_T51 l (i : Int) = l[i] := by
  unfold rd_T51
  first
    | (rw [Int.toNat_natCast, List.getD_eq_getElem?_getD, List.getElem?_eq_getElem h, Option.getD_some])
    | (simp [h])
theorem ixs_step (l : List S51) (g : S51 → Bool) (i : Nat) (h : i < l.length) : ixs l g i = if g (rd_T51 l (i : Int)) = true then (i : Int) else ixs l g (i + 1) := by
  rw [rd_T51_nat l i h]
  unfold ixs
  rw [List.drop_eq_getElem_cons h, List.findIdx_cons]
  cases hg : g l[i] with
  | true => have : ¬ (l.length - i = 0) := (by omega); simp [this]
  | false =>
    simp only [cond_false, List.length_cons, Bool.false_eq_true, if_false]
    by_cases h2 : (l.drop (i + 1)).findIdx g < (l.drop (i + 1)).length
    · rw [if_pos (by omega), if_pos h2]; omega
    · rw [if_neg (by omega), if_neg h2]
theorem ix_wrap (n : Nat) (h : n ≤ 1099511627776) : wrap64 ((n : Int) + 1) = ((n + 1 : Nat) : Int) := by unfold wrap64; omega
end Go.Proofs.YtbcijmpkmmcdeaaDoor.PAll
end
