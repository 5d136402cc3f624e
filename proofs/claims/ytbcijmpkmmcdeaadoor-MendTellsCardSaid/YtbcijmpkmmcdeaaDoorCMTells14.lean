/- Texts of mine, put together (no statement stands here). -/
import Derived.Test.YtbcijmpkmmcdeaaDoorCMTells13
import Derived.MapKept
import Derived.Test.YtbcijmpkmmcdeaaDoorCMTells9
section
namespace Go.Proofs.YtbcijmpkmmcdeaaDoor.SF
open Go.RowKit Go.Sx Go.Proofs.YtbcijmpkmmcdeaaDoor.PAll Go.Proofs.YtbcijmpkmmcdeaaDoorW.PrintWords Go.Proofs.YtbcijmpkmmcdeaaDoorW.PrintLast Go.Proofs.YtbcijmpkmmcdeaaDoorW.PrintMore
open Go.Proofs.YtbcijmpkmmcdeaaDoor.Pure (le puts le_length put_ev rowB sealed sealed_length sealed_range seal_ev open_ev open_short part_ev)
set_option linter.unusedVariables false
set_option linter.unusedSimpArgs false
set_option maxRecDepth 100000
theorem own_of_R51 {w : World} {base e : Nat} {ok : Nat → Prop} {v : Value} {l : List S51} (h : Kd.R k51 e w base ok v l) : w.ownsRow base e 2 v l.length (l.flatMap pc51) := by
  obtain ⟨_, inner, ho, h1, h2⟩ := h
  have : inner = l.flatMap pc51 := by
    apply List.ext_getElem?
    intro j
    have hlen : inner.length = l.length * 2 := h1
    by_cases hj : j < inner.length
    · have hq : j / 2 < l.length := by omega
      have hM := h2 (j / 2) _ (List.getElem?_eq_getElem hq)
      have e1 := k51_openM hM
      have e2 : (((inner.drop (j / 2 * k51.sz)).take k51.sz)[j % 2]? : Option Value) = (pc51 l[j / 2])[j % 2]? := congrArg (fun l : List Value => l[j % 2]?) e1
      rw [List.getElem?_take, if_pos (show j % 2 < k51.sz by show j % 2 < 2; omega), List.getElem?_drop, show j / 2 * k51.sz + j % 2 = j by show j / 2 * 2 + j % 2 = j; omega] at e2
      rw [e2]
      obtain ⟨u, hu⟩ : ∃ u, (pc51 l[j / 2])[j % 2]? = some u := ⟨_, List.getElem?_eq_getElem (show j % 2 < 2 by omega)⟩
      have := flat_at (List.getElem?_eq_getElem hq) hu
      rw [show j / 2 * 2 + j % 2 = j by omega] at this
      rw [this]
      exact hu
    · rw [List.getElem?_eq_none (by omega), List.getElem?_eq_none (by rw [flat_length]; omega)]
  rw [← this]
  exact ho
def openF (l : List Int) : List Int × Bool := if 4 ≤ l.length ∧ sealed (l.take (l.length - 4)) = l then (l.take (l.length - 4), true) else ([], false)
def jget (l : List Int) : JG := jgot (openF l).2 ((Go.Proofs.YtbcijmpkmmcdeaaDoor.PAll.partsF (openF l).1.length (openF l).1).getD []) (if (Go.Proofs.YtbcijmpkmmcdeaaDoor.PAll.partsF (openF l).1.length (openF l).1).isSome then 0 else 10)
theorem openF_ev {l : List Int} (hb : ∀ x ∈ l, 0 ≤ x ∧ x ≤ 255) (hl : l.length ≤ 10000) : ∃ k, crc_Open.f k l = some (openF l) := by
  rcases Nat.lt_or_ge l.length 4 with h | h
  · refine ⟨0, ?_⟩
    rw [open_short l h 0]
    unfold openF
    rw [if_neg (by omega)]
  · obtain ⟨K, hK⟩ := open_ev l h hb hl
    refine ⟨K, (hK K (Nat.le_refl _)).trans ?_⟩
    unfold openF
    by_cases e : sealed (l.take (l.length - 4)) = l
    · rw [if_pos e, if_pos ⟨h, e⟩]
    · rw [if_neg e, if_neg (fun h => e h.2)]
theorem openF_sub (l : List Int) : (openF l).1.length ≤ l.length ∧ ∀ x ∈ (openF l).1, x ∈ l := by
  unfold openF
  split
  · exact ⟨by rw [List.length_take]; omega, fun x hx => List.mem_of_mem_take hx⟩
  · exact ⟨Nat.zero_le _, fun x hx => by cases hx⟩
theorem parts_sub : ∀ (fu : Nat) (l : List Int) (rows : List (List Int)), Go.Proofs.YtbcijmpkmmcdeaaDoor.PAll.partsF fu l = some rows → ∀ r ∈ rows, r.length ≤ l.length ∧ ∀ x ∈ r, x ∈ l
  | _, [], rows, h, r, hr => by
    simp only [Go.Proofs.YtbcijmpkmmcdeaaDoor.PAll.partsF, Option.some.injEq] at h
    subst h; cases hr
  | 0, _ :: _, rows, h, r, hr => by simp [Go.Proofs.YtbcijmpkmmcdeaaDoor.PAll.partsF] at h
  | _ + 1, [_], rows, h, r, hr => by simp [Go.Proofs.YtbcijmpkmmcdeaaDoor.PAll.partsF] at h
  | fu + 1, a :: b :: l, rows, h, r, hr => by
    simp only [Go.Proofs.YtbcijmpkmmcdeaaDoor.PAll.partsF] at h
    split at h
    · rename_i hle
      cases hp : Go.Proofs.YtbcijmpkmmcdeaaDoor.PAll.partsF fu (l.drop (a + 256 * b).toNat) with
      | none => rw [hp] at h; cases h
      | some ps =>
        rw [hp] at h
        simp only [Option.map_some, Option.some.injEq] at h
        subst h
        rcases List.mem_cons.1 hr with rfl | hr
        · exact ⟨by rw [List.length_take]; simp; omega, fun x hx => by simp [List.mem_of_mem_take hx]⟩
        · have := parts_sub fu _ ps hp r hr
          refine ⟨by have h1 := this.1; rw [List.length_drop] at h1; simp; omega, fun x hx => by simp [List.mem_of_mem_drop (this.2 x hx)]⟩
    · cases h
theorem oget_calls {q : Gh} {l : List Int} {w0 w : World} {hp : List Sx.Item} (hb : ∀ x ∈ l, 0 ≤ x ∧ x ≤ 255) (hn : l.length ≤ 8000) (hh : Half w) (hw : HeapOK w0 hp w) (hr : RowC w q l) :
    Calls Tryd.prog 23 #[.slice q.1 l.length q.2] w fun e w' => ∃ i : Gh, e = .returned (.tuple #[.agg #[.int .i64 (jget l).bud, .int .i64 (jget l).mar, .int .i64 0, .slice i.1 (jget l).ps.length i.2], .int .u64 (jget l).seq, .int .i64 (jget l).err]) ∧ HeapOK w0 (.own 0 51 2 (.slice i.1 (jget l).ps.length i.2) (jget l).ps.length ((jget l).ps.flatMap pc51) :: hp) w' := by
  obtain ⟨k, hk⟩ := openF_ev hb (by omega)
  have hs := openF_sub l
  have hbo : ∀ x ∈ (openF l).1, 0 ≤ x ∧ x ≤ 255 := fun x hx => hb x (hs.2 x hx)
  refine (get_calls k q.1 q.2 l (openF l).1 (openF l).2 ((Go.Proofs.YtbcijmpkmmcdeaaDoor.PAll.partsF (openF l).1.length (openF l).1).getD []) (if (Go.Proofs.YtbcijmpkmmcdeaaDoor.PAll.partsF (openF l).1.length (openF l).1).isSome then 0 else 10) w hh hr.2 hr.1 (by rw [hk]) (fun _ => part_ev _ (by omega) hbo) ?_).mono ?_
  · cases hp : Go.Proofs.YtbcijmpkmmcdeaaDoor.PAll.partsF (openF l).1.length (openF l).1 with
    | none => intro r hr; cases hr
    | some ps =>
      intro r hr
      have := parts_sub _ _ ps hp r hr
      exact ⟨by omega, fun x hx => hbo x (this.2 x hx)⟩
  · rintro e w' ⟨v, rfl, hR, hb⟩
    obtain ⟨A2, c2, rfl, hc2, hC⟩ := Kd.R_reads hR
    exact ⟨(A2, c2), rfl, hw.newOwn hb (own_of_R51 hR)⟩
structure JL where
  bud : Int
  mar : Int
  ps : List S51
  seq : Int
def jone (i : Int) (l : List Int) (o : JL) : JL := if (jget l).err = 0 ∧ Int.tmod (jget l).seq 2 = i ∧ o.seq < (jget l).seq then ⟨(jget l).bud, (jget l).mar, (jget l).ps, (jget l).seq⟩ else o
def jload (s0 s1 : List Int) : JL := jone 1 s1 (jone 0 s0 ⟨0, 0, [], 0⟩)
def jl (s0 s1 : List Int) : Nat → JL
  | 0 => ⟨0, 0, [], 0⟩
  | 1 => jone 0 s0 ⟨0, 0, [], 0⟩
  | _ => jload s0 s1
def Bytes (l : List Int) : Prop := l.length ≤ 8000 ∧ ∀ x ∈ l, 0 ≤ x ∧ x ≤ 255
theorem hw0 : IntKind.u64.wrap 0 = 0 := by decide
theorem hw1 : IntKind.u64.wrap 1 = 1 := by decide
set_option maxHeartbeats 2000000 in
theorem Load_calls (J : Jn) (p0 p1 p2 : Gh) (w : World) (hJ : Jn.ok w J p0 p1 p2) (hB0 : Bytes J.s0) (hB1 : Bytes J.s1) (hh : Half w) :
    Calls Tryd.prog 28 #[.agg (J.cells p0 p1 p2).toArray] w fun e w' => ∃ i : Gh, e = .returned (.tuple #[.agg #[.int .i64 (jload J.s0 J.s1).bud, .int .i64 (jload J.s0 J.s1).mar, .int .i64 0, .slice i.1 (jload J.s0 J.s1).ps.length i.2], .int .u64 (jload J.s0 J.s1).seq, .bool (decide (0 < (jload J.s0 J.s1).seq))]) ∧ HeapOK w [.own 0 51 2 (.slice i.1 (jload J.s0 J.s1).ps.length i.2) (jload J.s0 J.s1).ps.length ((jload J.s0 J.s1).ps.flatMap pc51), old w] w' := by
  refine enter (w0 := w) (hp := [old w]) (env := [(0, .agg (J.cells p0 p1 p2).toArray)]) Tryd.func28 rfl 45 rfl (by simp) rfl (HeapOK.start _) ?_
  refine wc_seq ?_
  refine wc_region ?_
  refine wl_box rfl rfl rfl (by decide) rfl rfl (fun b1 => ?_)
  refine wl_alloc rfl rfl rfl (by decide) Zr32 (fun b2 => ?_)
  refine wl_q (q_assign rfl rfl) rfl rfl (by decide) ?_
  refine wl_q (q_assign rfl rfl) rfl rfl (by decide) ?_
  refine wl_nil ?_
  refine fq_then ?_
  refine wc_seq ?_
  refine wc_region ?_
  refine wl_alloc rfl rfl rfl (by decide) Zr32 (fun b3 => ?_)
  refine wl_nil ?_
  refine fq_then ?_
  refine wc_seq ?_
  refine wc_region ?_
  refine wl_q (q_assign rfl rfl) rfl rfl (by decide) ?_
  refine wl_nil ?_
  refine fq_then ?_
  refine wc_seq ?_
  refine wc_seq ?_
  refine wc_region ?_
  refine wl_q (q_fa (o1 := 0) rfl rfl Fo38_0 rfl) rfl rfl (by decide) ?_
  refine wl_q (q_loadA rfl rfl Mn36 Sz36 rfl (readsN (i := 2) (off := 0) (n := 2) rfl)) rfl rfl (by decide) ?_
  refine wl_q (q_move rfl rfl) rfl rfl (by decide) ?_
  refine wl_nil ?_
  refine fq_then ?_
  refine wc_block ?_
  refine wc_own (E := 51) (sz := 2) ?_
  refine wc_loop (ι := (Nat × Gh)) (fun i => [(2, .pointer (some ⟨b2, 0, none⟩)), (5, .pointer (some ⟨b3, 0, none⟩)), (6, .int .u64 (jl J.s0 J.s1 i.1).seq), (13, .agg #[.slice p0.1 J.s0.length p0.2, .slice p1.1 J.s1.length p1.2]), (14, .int .i64 (i.1 : Nat))]) (fun i => [.own 0 51 2 (.slice i.2.1 (jl J.s0 J.s1 i.1).ps.length i.2.2) (jl J.s0 J.s1 i.1).ps.length ((jl J.s0 J.s1 i.1).ps.flatMap pc51), .blk b3 [.int .i64 (jl J.s0 J.s1 i.1).bud, .int .i64 (jl J.s0 J.s1 i.1).mar, .int .i64 0, .slice i.2.1 (jl J.s0 J.s1 i.1).ps.length i.2.2] 32, .blk b2 [.int .i64 0, .int .i64 0, .int .i64 0, .slice none 0 0] 32, old w]) (fun i => i.1 ≤ 2) (fun i => 2 - i.1) (0, (none, 0)) (Nat.zero_le _) ⟨List.forall_mem_cons.2 ⟨rfl, List.forall_mem_cons.2 ⟨rfl, List.forall_mem_cons.2 ⟨rfl, List.forall_mem_cons.2 ⟨rfl, List.forall_mem_cons.2 ⟨rfl, fun _ h => (by cases h)⟩⟩⟩⟩⟩, List.Sublist.cons_cons _ (List.Sublist.cons_cons _ (List.Sublist.cons_cons _ (List.Sublist.cons _ (List.Sublist.cons_cons _ (List.Sublist.refl [])))))⟩ ?_
  rintro ⟨k, q⟩ hk
  simp only at hk
  rcases (show k = 0 ∨ k = 1 ∨ k = 2 by omega) with rfl | rfl | rfl
  · skip
    dsimp only
    refine wc_seq ?_
    refine wc_region ?_
    refine wl_q (q_bin rfl rfl rfl rfl) rfl rfl (by decide) ?_
    refine wl_nil ?_
    refine fq_then ?_
    refine wc_seq ?_
    refine wc_cond rfl (fun h15 => ?_) (fun h15 => ?_)
    · skip
      have q15 := h15
      try simp only [decide_eq_true_eq, decide_eq_false_iff_not, beq_iff_eq, beq_eq_false_iff_ne, bne_iff_ne, ne_eq, bne_eq_false_iff_eq, Int.not_lt, Int.not_le] at q15
      refine wc_skip ?_
      refine fq_then ?_
      refine wc_seq ?_
      refine wc_block ?_
      refine wc_seq ?_
      refine wc_region ?_
      refine wl_q (q_move rfl rfl) rfl rfl (by decide) ?_
      refine wl_q (q_indexV rfl rfl rfl Tryd.underlying36 Sz22 Mn22 (by decide) (by decide) rfl) rfl rfl (by decide) ?_
      refine wl_q (q_assign rfl rfl) rfl rfl (by decide) ?_
      refine wl_q (q_assign rfl rfl) rfl rfl (by decide) ?_
      refine wl_nil ?_
      refine fq_then ?_
      refine wc_seq ?_
      refine wc_region ?_
      refine wl_q (q_move rfl rfl) rfl rfl (by decide) ?_
      refine wl_call (ι := Gh) (fun i => .tuple #[.agg #[.int .i64 (jget J.s0).bud, .int .i64 (jget J.s0).mar, .int .i64 0, .slice i.1 (jget J.s0).ps.length i.2], .int .u64 (jget J.s0).seq, .int .i64 (jget J.s0).err]) (fun i => .own 0 51 2 (.slice i.1 (jget J.s0).ps.length i.2) (jget J.s0).ps.length ((jget J.s0).ps.flatMap pc51) :: _) (fun _ => True) rfl rfl rfl (by decide) En23 rfl (fun w1 hw1 => (oget_calls (q := p0) (l := J.s0) hB0.2 hB0.1 (hh.keep (hw1.toBelow (by simp))) hw1 ((hJ.1).below (hw1.toBelow (by simp)))).mono (fun e w' ⟨i, h⟩ => ⟨i, trivial, h⟩)) (fun pg _ => ?_)
      refine wl_q (q_move rfl rfl) rfl rfl (by decide) ?_
      refine wl_q (q_extract rfl rfl rfl) rfl rfl (by decide) ?_
      refine wl_q (q_extract rfl rfl rfl) rfl rfl (by decide) ?_
      refine wl_q (q_extract rfl rfl rfl) rfl rfl (by decide) ?_
      refine wl_alloc rfl rfl rfl (by decide) Zr32 (fun b4 => ?_)
      refine wl_store (i := 0) rfl rfl rfl rfl rfl rfl Sz32 rfl rfl (by simp) (by simp [Value.oneCell']) (by first | (simp only [List.take_succ_cons, List.take_zero, List.take_nil, List.drop_succ_cons, List.drop_zero, List.drop_nil, List.nil_append, List.cons_append, List.append_nil, List.length_cons, List.length_nil, Nat.reduceAdd, Nat.zero_add]; rfl) | rfl) (by first | (simp only [List.set_cons_zero, List.set_cons_succ]; rfl) | rfl) ?_
      refine wl_q (q_assign rfl rfl) rfl rfl (by decide) ?_
      refine wl_q (q_assign rfl rfl) rfl rfl (by decide) ?_
      refine wl_nil ?_
      refine fq_then ?_
      refine wc_seq ?_
      refine wc_region ?_
      refine wl_q (q_move rfl rfl) rfl rfl (by decide) ?_
      refine wl_q (q_bin rfl rfl rfl rfl) rfl rfl (by decide) ?_
      refine wl_q (q_move rfl rfl) rfl rfl (by decide) ?_
      refine wl_split (t := 26) rfl (fun h26 => ?_) (fun h26 => ?_)
      · skip
        have q26 := h26
        try simp only [decide_eq_true_eq, decide_eq_false_iff_not, beq_iff_eq, beq_eq_false_iff_ne, bne_iff_ne, ne_eq, bne_eq_false_iff_eq, Int.not_lt, Int.not_le] at q26
        refine wl_want (b := true) (q_move rfl rfl) rfl rfl rfl rfl (by decide) ?_
        refine wl_want (b := true) (q_rem rfl rfl rfl (by decide)) rfl rfl rfl rfl (by decide) ?_
        refine wl_want (b := true) (q_move rfl rfl) rfl rfl rfl rfl (by decide) ?_
        refine wl_want (b := true) (q_conv rfl rfl Tryd.underlying3 Tryd.underlying53) rfl rfl rfl rfl (by decide) ?_
        refine wl_want (b := true) (q_bin rfl rfl rfl rfl) rfl rfl rfl rfl (by decide) ?_
        refine wl_q (q_pick rfl rfl rfl) rfl rfl (by decide) ?_
        refine wl_q (q_move rfl rfl) rfl rfl (by decide) ?_
        refine wl_split (t := 33) rfl (fun h33 => ?_) (fun h33 => ?_)
        · skip
          have q33 := h33
          try simp only [decide_eq_true_eq, decide_eq_false_iff_not, beq_iff_eq, beq_eq_false_iff_ne, bne_iff_ne, ne_eq, bne_eq_false_iff_eq, Int.not_lt, Int.not_le] at q33
          refine wl_want (b := true) (q_move rfl rfl) rfl rfl rfl rfl (by decide) ?_
          refine wl_want (b := true) (q_move rfl rfl) rfl rfl rfl rfl (by decide) ?_
          refine wl_want (b := true) (q_bin rfl rfl rfl rfl) rfl rfl rfl rfl (by decide) ?_
          refine wl_q (q_pick rfl rfl rfl) rfl rfl (by decide) ?_
          refine wl_nil ?_
          refine fq_then ?_
          refine wc_cond rfl (fun h37 => ?_) (fun h37 => ?_)
          · skip
            have q37 := h37
            try simp only [decide_eq_true_eq, decide_eq_false_iff_not, beq_iff_eq, beq_eq_false_iff_ne, bne_iff_ne, ne_eq, bne_eq_false_iff_eq, Int.not_lt, Int.not_le] at q37
            refine wc_seq ?_
            refine wc_region ?_
            refine wl_q (q_loadA rfl rfl Mn32 Sz32 rfl (readsAll (i := 0) rfl)) rfl rfl (by decide) ?_
            refine wl_store (i := 3) rfl rfl rfl rfl rfl rfl Sz32 rfl rfl (by simp) (by simp [Value.oneCell']) (by first | (simp only [List.take_succ_cons, List.take_zero, List.take_nil, List.drop_succ_cons, List.drop_zero, List.drop_nil, List.nil_append, List.cons_append, List.append_nil, List.length_cons, List.length_nil, Nat.reduceAdd, Nat.zero_add]; rfl) | rfl) (by first | (simp only [List.set_cons_zero, List.set_cons_succ]; rfl) | rfl) ?_
            refine wl_nil ?_
            refine fq_then ?_
            refine wc_region ?_
            refine wl_q (q_move rfl rfl) rfl rfl (by decide) ?_
            refine wl_q (q_assign rfl rfl) rfl rfl (by decide) ?_
            refine wl_nil ?_
            refine fq_block ?_
            refine fq_then ?_
            refine wc_region ?_
            refine wl_q (q_bin rfl rfl rfl rfl) rfl rfl (by decide) ?_
            refine wl_q (q_move rfl rfl) rfl rfl (by decide) ?_
            refine wl_nil ?_
            have hjl : jl J.s0 J.s1 1 = ⟨(jget J.s0).bud, (jget J.s0).mar, (jget J.s0).ps, (jget J.s0).seq⟩ := by (show jone 0 J.s0 (jl J.s0 J.s1 0) = _; unfold jone; exact if_pos ⟨by simpa using h26, by simpa [hw0, hw1] using h33, by simpa using h37⟩)
            simp only [show (jget J.s0).bud = (jl J.s0 J.s1 1).bud from by rw [hjl], show (jget J.s0).mar = (jl J.s0 J.s1 1).mar from by rw [hjl], show (jget J.s0).ps = (jl J.s0 J.s1 1).ps from by rw [hjl], show (jget J.s0).seq = (jl J.s0 J.s1 1).seq from by rw [hjl]]
            refine fq_next (1, pg) (show 1 ≤ 2 by decide) (show 2 - 1 < 2 - 0 by decide) ⟨List.forall_mem_cons.2 ⟨rfl, List.forall_mem_cons.2 ⟨rfl, List.forall_mem_cons.2 ⟨rfl, List.forall_mem_cons.2 ⟨rfl, List.forall_mem_cons.2 ⟨rfl, fun _ h => (by cases h)⟩⟩⟩⟩⟩, List.Sublist.cons _ (List.Sublist.cons_cons _ (List.Sublist.cons _ (List.Sublist.cons_cons _ (List.Sublist.cons_cons _ (List.Sublist.cons_cons _ (List.Sublist.refl []))))))⟩
          · skip
            have q37 := h37
            try simp only [decide_eq_true_eq, decide_eq_false_iff_not, beq_iff_eq, beq_eq_false_iff_ne, bne_iff_ne, ne_eq, bne_eq_false_iff_eq, Int.not_lt, Int.not_le] at q37
            refine wc_skip ?_
            refine fq_block ?_
            refine fq_then ?_
            refine wc_region ?_
            refine wl_q (q_bin rfl rfl rfl rfl) rfl rfl (by decide) ?_
            refine wl_q (q_move rfl rfl) rfl rfl (by decide) ?_
            refine wl_nil ?_
            have hjl : jl J.s0 J.s1 1 = jl J.s0 J.s1 0 := by (show jone 0 J.s0 (jl J.s0 J.s1 0) = _; unfold jone; exact if_neg (fun h => by simp_all [hw0, hw1]))
            rw [← hjl]
            refine fq_next (1, q) (show 1 ≤ 2 by decide) (show 2 - 1 < 2 - 0 by decide) ⟨List.forall_mem_cons.2 ⟨rfl, List.forall_mem_cons.2 ⟨rfl, List.forall_mem_cons.2 ⟨rfl, List.forall_mem_cons.2 ⟨rfl, List.forall_mem_cons.2 ⟨rfl, fun _ h => (by cases h)⟩⟩⟩⟩⟩, List.Sublist.cons _ (List.Sublist.cons _ (List.Sublist.cons_cons _ (List.Sublist.cons_cons _ (List.Sublist.cons_cons _ (List.Sublist.cons_cons _ (List.Sublist.refl []))))))⟩
        · skip
          have q33 := h33
          try simp only [decide_eq_true_eq, decide_eq_false_iff_not, beq_iff_eq, beq_eq_false_iff_ne, bne_iff_ne, ne_eq, bne_eq_false_iff_eq, Int.not_lt, Int.not_le] at q33
          refine wl_skip (b := false) rfl rfl rfl rfl (by decide) ?_
          refine wl_skip (b := false) rfl rfl rfl rfl (by decide) ?_
          refine wl_skip (b := false) rfl rfl rfl rfl (by decide) ?_
          refine wl_q (q_pick rfl rfl rfl) rfl rfl (by decide) ?_
          refine wl_nil ?_
          refine fq_then ?_
          refine wc_false rfl ?_
          refine wc_skip ?_
          refine fq_block ?_
          refine fq_then ?_
          refine wc_region ?_
          refine wl_q (q_bin rfl rfl rfl rfl) rfl rfl (by decide) ?_
          refine wl_q (q_move rfl rfl) rfl rfl (by decide) ?_
          refine wl_nil ?_
          have hjl : jl J.s0 J.s1 1 = jl J.s0 J.s1 0 := by (show jone 0 J.s0 (jl J.s0 J.s1 0) = _; unfold jone; exact if_neg (fun h => by simp_all [hw0, hw1]))
          rw [← hjl]
          refine fq_next (1, q) (show 1 ≤ 2 by decide) (show 2 - 1 < 2 - 0 by decide) ⟨List.forall_mem_cons.2 ⟨rfl, List.forall_mem_cons.2 ⟨rfl, List.forall_mem_cons.2 ⟨rfl, List.forall_mem_cons.2 ⟨rfl, List.forall_mem_cons.2 ⟨rfl, fun _ h => (by cases h)⟩⟩⟩⟩⟩, List.Sublist.cons _ (List.Sublist.cons _ (List.Sublist.cons_cons _ (List.Sublist.cons_cons _ (List.Sublist.cons_cons _ (List.Sublist.cons_cons _ (List.Sublist.refl []))))))⟩
      · skip
        have q26 := h26
        try simp only [decide_eq_true_eq, decide_eq_false_iff_not, beq_iff_eq, beq_eq_false_iff_ne, bne_iff_ne, ne_eq, bne_eq_false_iff_eq, Int.not_lt, Int.not_le] at q26
        refine wl_skip (b := false) rfl rfl rfl rfl (by decide) ?_
        refine wl_skip (b := false) rfl rfl rfl rfl (by decide) ?_
        refine wl_skip (b := false) rfl rfl rfl rfl (by decide) ?_
        refine wl_skip (b := false) rfl rfl rfl rfl (by decide) ?_
        refine wl_skip (b := false) rfl rfl rfl rfl (by decide) ?_
        refine wl_q (q_pick rfl rfl rfl) rfl rfl (by decide) ?_
        refine wl_q (q_move rfl rfl) rfl rfl (by decide) ?_
        refine wl_skip (b := false) rfl rfl rfl rfl (by decide) ?_
        refine wl_skip (b := false) rfl rfl rfl rfl (by decide) ?_
        refine wl_skip (b := false) rfl rfl rfl rfl (by decide) ?_
        refine wl_q (q_pick rfl rfl rfl) rfl rfl (by decide) ?_
        refine wl_nil ?_
        refine fq_then ?_
        refine wc_false rfl ?_
        refine wc_skip ?_
        refine fq_block ?_
        refine fq_then ?_
        refine wc_region ?_
        refine wl_q (q_bin rfl rfl rfl rfl) rfl rfl (by decide) ?_
        refine wl_q (q_move rfl rfl) rfl rfl (by decide) ?_
        refine wl_nil ?_
        have hjl : jl J.s0 J.s1 1 = jl J.s0 J.s1 0 := by (show jone 0 J.s0 (jl J.s0 J.s1 0) = _; unfold jone; exact if_neg (fun h => by simp_all [hw0, hw1]))
        rw [← hjl]
        refine fq_next (1, q) (show 1 ≤ 2 by decide) (show 2 - 1 < 2 - 0 by decide) ⟨List.forall_mem_cons.2 ⟨rfl, List.forall_mem_cons.2 ⟨rfl, List.forall_mem_cons.2 ⟨rfl, List.forall_mem_cons.2 ⟨rfl, List.forall_mem_cons.2 ⟨rfl, fun _ h => (by cases h)⟩⟩⟩⟩⟩, List.Sublist.cons _ (List.Sublist.cons _ (List.Sublist.cons_cons _ (List.Sublist.cons_cons _ (List.Sublist.cons_cons _ (List.Sublist.cons_cons _ (List.Sublist.refl []))))))⟩
    · skip
      exact absurd h15 (by decide)
  · skip
    dsimp only
    refine wc_seq ?_
    refine wc_region ?_
    refine wl_q (q_bin rfl rfl rfl rfl) rfl rfl (by decide) ?_
    refine wl_nil ?_
    refine fq_then ?_
    refine wc_seq ?_
    refine wc_cond rfl (fun h15 => ?_) (fun h15 => ?_)
    · skip
      have q15 := h15
      try simp only [decide_eq_true_eq, decide_eq_false_iff_not, beq_iff_eq, beq_eq_false_iff_ne, bne_iff_ne, ne_eq, bne_eq_false_iff_eq, Int.not_lt, Int.not_le] at q15
      refine wc_skip ?_
      refine fq_then ?_
      refine wc_seq ?_
      refine wc_block ?_
      refine wc_seq ?_
      refine wc_region ?_
      refine wl_q (q_move rfl rfl) rfl rfl (by decide) ?_
      refine wl_q (q_indexV rfl rfl rfl Tryd.underlying36 Sz22 Mn22 (by decide) (by decide) rfl) rfl rfl (by decide) ?_
      refine wl_q (q_assign rfl rfl) rfl rfl (by decide) ?_
      refine wl_q (q_assign rfl rfl) rfl rfl (by decide) ?_
      refine wl_nil ?_
      refine fq_then ?_
      refine wc_seq ?_
      refine wc_region ?_
      refine wl_q (q_move rfl rfl) rfl rfl (by decide) ?_
      refine wl_call (ι := Gh) (fun i => .tuple #[.agg #[.int .i64 (jget J.s1).bud, .int .i64 (jget J.s1).mar, .int .i64 0, .slice i.1 (jget J.s1).ps.length i.2], .int .u64 (jget J.s1).seq, .int .i64 (jget J.s1).err]) (fun i => .own 0 51 2 (.slice i.1 (jget J.s1).ps.length i.2) (jget J.s1).ps.length ((jget J.s1).ps.flatMap pc51) :: _) (fun _ => True) rfl rfl rfl (by decide) En23 rfl (fun w1 hw1 => (oget_calls (q := p1) (l := J.s1) hB1.2 hB1.1 (hh.keep (hw1.toBelow (by simp))) hw1 ((hJ.2.1).below (hw1.toBelow (by simp)))).mono (fun e w' ⟨i, h⟩ => ⟨i, trivial, h⟩)) (fun pg _ => ?_)
      refine wl_q (q_move rfl rfl) rfl rfl (by decide) ?_
      refine wl_q (q_extract rfl rfl rfl) rfl rfl (by decide) ?_
      refine wl_q (q_extract rfl rfl rfl) rfl rfl (by decide) ?_
      refine wl_q (q_extract rfl rfl rfl) rfl rfl (by decide) ?_
      refine wl_alloc rfl rfl rfl (by decide) Zr32 (fun b5 => ?_)
      refine wl_store (i := 0) rfl rfl rfl rfl rfl rfl Sz32 rfl rfl (by simp) (by simp [Value.oneCell']) (by first | (simp only [List.take_succ_cons, List.take_zero, List.take_nil, List.drop_succ_cons, List.drop_zero, List.drop_nil, List.nil_append, List.cons_append, List.append_nil, List.length_cons, List.length_nil, Nat.reduceAdd, Nat.zero_add]; rfl) | rfl) (by first | (simp only [List.set_cons_zero, List.set_cons_succ]; rfl) | rfl) ?_
      refine wl_q (q_assign rfl rfl) rfl rfl (by decide) ?_
      refine wl_q (q_assign rfl rfl) rfl rfl (by decide) ?_
      refine wl_nil ?_
      refine fq_then ?_
      refine wc_seq ?_
      refine wc_region ?_
      refine wl_q (q_move rfl rfl) rfl rfl (by decide) ?_
      refine wl_q (q_bin rfl rfl rfl rfl) rfl rfl (by decide) ?_
      refine wl_q (q_move rfl rfl) rfl rfl (by decide) ?_
      refine wl_split (t := 26) rfl (fun h26 => ?_) (fun h26 => ?_)
      · skip
        have q26 := h26
        try simp only [decide_eq_true_eq, decide_eq_false_iff_not, beq_iff_eq, beq_eq_false_iff_ne, bne_iff_ne, ne_eq, bne_eq_false_iff_eq, Int.not_lt, Int.not_le] at q26
        refine wl_want (b := true) (q_move rfl rfl) rfl rfl rfl rfl (by decide) ?_
        refine wl_want (b := true) (q_rem rfl rfl rfl (by decide)) rfl rfl rfl rfl (by decide) ?_
        refine wl_want (b := true) (q_move rfl rfl) rfl rfl rfl rfl (by decide) ?_
        refine wl_want (b := true) (q_conv rfl rfl Tryd.underlying3 Tryd.underlying53) rfl rfl rfl rfl (by decide) ?_
        refine wl_want (b := true) (q_bin rfl rfl rfl rfl) rfl rfl rfl rfl (by decide) ?_
        refine wl_q (q_pick rfl rfl rfl) rfl rfl (by decide) ?_
        refine wl_q (q_move rfl rfl) rfl rfl (by decide) ?_
        refine wl_split (t := 33) rfl (fun h33 => ?_) (fun h33 => ?_)
        · skip
          have q33 := h33
          try simp only [decide_eq_true_eq, decide_eq_false_iff_not, beq_iff_eq, beq_eq_false_iff_ne, bne_iff_ne, ne_eq, bne_eq_false_iff_eq, Int.not_lt, Int.not_le] at q33
          refine wl_want (b := true) (q_move rfl rfl) rfl rfl rfl rfl (by decide) ?_
          refine wl_want (b := true) (q_move rfl rfl) rfl rfl rfl rfl (by decide) ?_
          refine wl_want (b := true) (q_bin rfl rfl rfl rfl) rfl rfl rfl rfl (by decide) ?_
          refine wl_q (q_pick rfl rfl rfl) rfl rfl (by decide) ?_
          refine wl_nil ?_
          refine fq_then ?_
          refine wc_cond rfl (fun h37 => ?_) (fun h37 => ?_)
          · skip
            have q37 := h37
            try simp only [decide_eq_true_eq, decide_eq_false_iff_not, beq_iff_eq, beq_eq_false_iff_ne, bne_iff_ne, ne_eq, bne_eq_false_iff_eq, Int.not_lt, Int.not_le] at q37
            refine wc_seq ?_
            refine wc_region ?_
            refine wl_q (q_loadA rfl rfl Mn32 Sz32 rfl (readsAll (i := 0) rfl)) rfl rfl (by decide) ?_
            refine wl_store (i := 3) rfl rfl rfl rfl rfl rfl Sz32 rfl rfl (by simp) (by simp [Value.oneCell']) (by first | (simp only [List.take_succ_cons, List.take_zero, List.take_nil, List.drop_succ_cons, List.drop_zero, List.drop_nil, List.nil_append, List.cons_append, List.append_nil, List.length_cons, List.length_nil, Nat.reduceAdd, Nat.zero_add]; rfl) | rfl) (by first | (simp only [List.set_cons_zero, List.set_cons_succ]; rfl) | rfl) ?_
            refine wl_nil ?_
            refine fq_then ?_
            refine wc_region ?_
            refine wl_q (q_move rfl rfl) rfl rfl (by decide) ?_
            refine wl_q (q_assign rfl rfl) rfl rfl (by decide) ?_
            refine wl_nil ?_
            refine fq_block ?_
            refine fq_then ?_
            refine wc_region ?_
            refine wl_q (q_bin rfl rfl rfl rfl) rfl rfl (by decide) ?_
            refine wl_q (q_move rfl rfl) rfl rfl (by decide) ?_
            refine wl_nil ?_
            have hjl : jl J.s0 J.s1 2 = ⟨(jget J.s1).bud, (jget J.s1).mar, (jget J.s1).ps, (jget J.s1).seq⟩ := by (show jone 1 J.s1 (jl J.s0 J.s1 1) = _; unfold jone; exact if_pos ⟨by simpa using h26, by simpa [hw0, hw1] using h33, by simpa using h37⟩)
            simp only [show (jget J.s1).bud = (jl J.s0 J.s1 2).bud from by rw [hjl], show (jget J.s1).mar = (jl J.s0 J.s1 2).mar from by rw [hjl], show (jget J.s1).ps = (jl J.s0 J.s1 2).ps from by rw [hjl], show (jget J.s1).seq = (jl J.s0 J.s1 2).seq from by rw [hjl]]
            refine fq_next (2, pg) (show 2 ≤ 2 by decide) (show 2 - 2 < 2 - 1 by decide) ⟨List.forall_mem_cons.2 ⟨rfl, List.forall_mem_cons.2 ⟨rfl, List.forall_mem_cons.2 ⟨rfl, List.forall_mem_cons.2 ⟨rfl, List.forall_mem_cons.2 ⟨rfl, fun _ h => (by cases h)⟩⟩⟩⟩⟩, List.Sublist.cons _ (List.Sublist.cons_cons _ (List.Sublist.cons _ (List.Sublist.cons_cons _ (List.Sublist.cons_cons _ (List.Sublist.cons_cons _ (List.Sublist.refl []))))))⟩
          · skip
            have q37 := h37
            try simp only [decide_eq_true_eq, decide_eq_false_iff_not, beq_iff_eq, beq_eq_false_iff_ne, bne_iff_ne, ne_eq, bne_eq_false_iff_eq, Int.not_lt, Int.not_le] at q37
            refine wc_skip ?_
            refine fq_block ?_
            refine fq_then ?_
            refine wc_region ?_
            refine wl_q (q_bin rfl rfl rfl rfl) rfl rfl (by decide) ?_
            refine wl_q (q_move rfl rfl) rfl rfl (by decide) ?_
            refine wl_nil ?_
            have hjl : jl J.s0 J.s1 2 = jl J.s0 J.s1 1 := by (show jone 1 J.s1 (jl J.s0 J.s1 1) = _; unfold jone; exact if_neg (fun h => by simp_all [hw0, hw1]))
            rw [← hjl]
            refine fq_next (2, q) (show 2 ≤ 2 by decide) (show 2 - 2 < 2 - 1 by decide) ⟨List.forall_mem_cons.2 ⟨rfl, List.forall_mem_cons.2 ⟨rfl, List.forall_mem_cons.2 ⟨rfl, List.forall_mem_cons.2 ⟨rfl, List.forall_mem_cons.2 ⟨rfl, fun _ h => (by cases h)⟩⟩⟩⟩⟩, List.Sublist.cons _ (List.Sublist.cons _ (List.Sublist.cons_cons _ (List.Sublist.cons_cons _ (List.Sublist.cons_cons _ (List.Sublist.cons_cons _ (List.Sublist.refl []))))))⟩
        · skip
          have q33 := h33
          try simp only [decide_eq_true_eq, decide_eq_false_iff_not, beq_iff_eq, beq_eq_false_iff_ne, bne_iff_ne, ne_eq, bne_eq_false_iff_eq, Int.not_lt, Int.not_le] at q33
          refine wl_skip (b := false) rfl rfl rfl rfl (by decide) ?_
          refine wl_skip (b := false) rfl rfl rfl rfl (by decide) ?_
          refine wl_skip (b := false) rfl rfl rfl rfl (by decide) ?_
          refine wl_q (q_pick rfl rfl rfl) rfl rfl (by decide) ?_
          refine wl_nil ?_
          refine fq_then ?_
          refine wc_false rfl ?_
          refine wc_skip ?_
          refine fq_block ?_
          refine fq_then ?_
          refine wc_region ?_
          refine wl_q (q_bin rfl rfl rfl rfl) rfl rfl (by decide) ?_
          refine wl_q (q_move rfl rfl) rfl rfl (by decide) ?_
          refine wl_nil ?_
          have hjl : jl J.s0 J.s1 2 = jl J.s0 J.s1 1 := by (show jone 1 J.s1 (jl J.s0 J.s1 1) = _; unfold jone; exact if_neg (fun h => by simp_all [hw0, hw1]))
          rw [← hjl]
          refine fq_next (2, q) (show 2 ≤ 2 by decide) (show 2 - 2 < 2 - 1 by decide) ⟨List.forall_mem_cons.2 ⟨rfl, List.forall_mem_cons.2 ⟨rfl, List.forall_mem_cons.2 ⟨rfl, List.forall_mem_cons.2 ⟨rfl, List.forall_mem_cons.2 ⟨rfl, fun _ h => (by cases h)⟩⟩⟩⟩⟩, List.Sublist.cons _ (List.Sublist.cons _ (List.Sublist.cons_cons _ (List.Sublist.cons_cons _ (List.Sublist.cons_cons _ (List.Sublist.cons_cons _ (List.Sublist.refl []))))))⟩
      · skip
        have q26 := h26
        try simp only [decide_eq_true_eq, decide_eq_false_iff_not, beq_iff_eq, beq_eq_false_iff_ne, bne_iff_ne, ne_eq, bne_eq_false_iff_eq, Int.not_lt, Int.not_le] at q26
        refine wl_skip (b := false) rfl rfl rfl rfl (by decide) ?_
        refine wl_skip (b := false) rfl rfl rfl rfl (by decide) ?_
        refine wl_skip (b := false) rfl rfl rfl rfl (by decide) ?_
        refine wl_skip (b := false) rfl rfl rfl rfl (by decide) ?_
        refine wl_skip (b := false) rfl rfl rfl rfl (by decide) ?_
        refine wl_q (q_pick rfl rfl rfl) rfl rfl (by decide) ?_
        refine wl_q (q_move rfl rfl) rfl rfl (by decide) ?_
        refine wl_skip (b := false) rfl rfl rfl rfl (by decide) ?_
        refine wl_skip (b := false) rfl rfl rfl rfl (by decide) ?_
        refine wl_skip (b := false) rfl rfl rfl rfl (by decide) ?_
        refine wl_q (q_pick rfl rfl rfl) rfl rfl (by decide) ?_
        refine wl_nil ?_
        refine fq_then ?_
        refine wc_false rfl ?_
        refine wc_skip ?_
        refine fq_block ?_
        refine fq_then ?_
        refine wc_region ?_
        refine wl_q (q_bin rfl rfl rfl rfl) rfl rfl (by decide) ?_
        refine wl_q (q_move rfl rfl) rfl rfl (by decide) ?_
        refine wl_nil ?_
        have hjl : jl J.s0 J.s1 2 = jl J.s0 J.s1 1 := by (show jone 1 J.s1 (jl J.s0 J.s1 1) = _; unfold jone; exact if_neg (fun h => by simp_all [hw0, hw1]))
        rw [← hjl]
        refine fq_next (2, q) (show 2 ≤ 2 by decide) (show 2 - 2 < 2 - 1 by decide) ⟨List.forall_mem_cons.2 ⟨rfl, List.forall_mem_cons.2 ⟨rfl, List.forall_mem_cons.2 ⟨rfl, List.forall_mem_cons.2 ⟨rfl, List.forall_mem_cons.2 ⟨rfl, fun _ h => (by cases h)⟩⟩⟩⟩⟩, List.Sublist.cons _ (List.Sublist.cons _ (List.Sublist.cons_cons _ (List.Sublist.cons_cons _ (List.Sublist.cons_cons _ (List.Sublist.cons_cons _ (List.Sublist.refl []))))))⟩
    · skip
      exact absurd h15 (by decide)
  · skip
    dsimp only
    refine wc_seq ?_
    refine wc_region ?_
    refine wl_q (q_bin rfl rfl rfl rfl) rfl rfl (by decide) ?_
    refine wl_nil ?_
    refine fq_then ?_
    refine wc_seq ?_
    refine wc_cond rfl (fun h15 => ?_) (fun h15 => ?_)
    · skip
      exact absurd h15 (by decide)
    · skip
      have q15 := h15
      try simp only [decide_eq_true_eq, decide_eq_false_iff_not, beq_iff_eq, beq_eq_false_iff_ne, bne_iff_ne, ne_eq, bne_eq_false_iff_eq, Int.not_lt, Int.not_le] at q15
      refine wc_exit ?_
      refine fq_then_exit ?_
      refine fq_then_exit ?_
      refine fq_block_hit ?_
      refine fq_then ?_
      refine wc_seq ?_
      refine wc_region ?_
      refine wl_q (q_loadA rfl rfl Mn32 Sz32 rfl (readsAll (i := 1) rfl)) rfl rfl (by decide) ?_
      refine wl_q (q_move rfl rfl) rfl rfl (by decide) ?_
      refine wl_q (q_move rfl rfl) rfl rfl (by decide) ?_
      refine wl_q (q_bin rfl rfl rfl rfl) rfl rfl (by decide) ?_
      refine wl_store (i := 2) rfl rfl rfl rfl rfl rfl Sz32 rfl rfl (by simp) (by simp [Value.oneCell']) (by first | (simp only [List.take_succ_cons, List.take_zero, List.take_nil, List.drop_succ_cons, List.drop_zero, List.drop_nil, List.nil_append, List.cons_append, List.append_nil, List.length_cons, List.length_nil, Nat.reduceAdd, Nat.zero_add]; rfl) | rfl) (by first | (simp only [List.set_cons_zero, List.set_cons_succ]; rfl) | rfl) ?_
      refine wl_q (q_assign rfl rfl) rfl rfl (by decide) ?_
      refine wl_q (q_assign rfl rfl) rfl rfl (by decide) ?_
      refine wl_nil ?_
      refine fq_then ?_
      refine wc_ret ?_
      refine fq_ctt (i := 2) (.inl rfl) rfl rfl rfl rfl rfl Mn32 Sz32 rfl (fun w1 H => ?_)
      exact ⟨q, rfl, H.pick [0, 3] (by decide) rfl⟩
end Go.Proofs.YtbcijmpkmmcdeaaDoor.SF
end
section
namespace Go.Sx
open Go.RowKit
set_option linter.unusedVariables false
set_option linter.unusedSimpArgs false
def ents (k : IntKind) : Nat → List (Int × Value) → List MapEntry
  | _, [] => []
  | i, (y, u) :: r => ⟨.int k y, u, i⟩ :: ents k (i + 1) r
def mobj (k : IntKind) (ms : List (Int × Value)) : Obj := .map (ents k 0 ms).toArray ms.length
def mfind : List (Int × Value) → Int → Option Value
  | [], _ => none
  | (y, u) :: r, x => if x = y then some u else mfind r x
def mput : List (Int × Value) → Int → Value → List (Int × Value)
  | [], x, v => [(x, v)]
  | (y, u) :: r, x, v => if x = y then (x, v) :: r else (y, u) :: mput r x v
def mloc : List (Int × Value) → Int → Nat → Option (Nat × Value)
  | [], _, _ => none
  | (y, u) :: r, x, j => if x = y then some (j, u) else mloc r x (j + 1)
theorem mfind_mput (ms : List (Int × Value)) (x : Int) (v : Value) (y : Int) : mfind (mput ms x v) y = if y = x then some v else mfind ms y := by
  induction ms with
  | nil => simp [mput, mfind]
  | cons p r ih =>
    obtain ⟨z, u⟩ := p
    unfold mput
    by_cases h : x = z
    · subst h
      rw [if_pos rfl]
      unfold mfind
      by_cases h2 : y = x
      · simp [h2]
      · simp [h2]
    · rw [if_neg h]
      unfold mfind
      by_cases h2 : y = z
      · subst h2
        rw [if_pos rfl, if_neg (fun e => h e.symm), if_pos rfl]
      · rw [if_neg h2, ih, if_neg h2]
theorem mloc_find (ms : List (Int × Value)) (x : Int) : ∀ j, (mloc ms x j).map (·.2) = mfind ms x := by
  induction ms with
  | nil => intro j; rfl
  | cons p r ih =>
    intro j
    obtain ⟨z, u⟩ := p
    unfold mloc mfind
    by_cases h : x = z
    · rw [if_pos h, if_pos h]; rfl
    · rw [if_neg h, if_neg h]; exact ih _
theorem findNow_ents (k : IntKind) (x : Int) : ∀ (ms : List (Int × Value)) (i j : Nat), Instr.findNow (.int k) (.int k x) (ents k i ms) j = some (mloc ms x j)
  | [], _, _ => rfl
  | (y, u) :: r, i, j => by
    unfold ents Instr.findNow mloc
    by_cases h : x = y
    · simp [Instr.sameNow, h]
    · have hb : (x == y) = false := by simpa using h
      simp [Instr.sameNow, h, hb, findNow_ents k x r]
theorem ents_none (k : IntKind) (x : Int) (v : Value) : ∀ (ms : List (Int × Value)) (i j : Nat), mloc ms x j = none → ents k i (mput ms x v) = ents k i ms ++ [⟨.int k x, v, i + ms.length⟩] ∧ (mput ms x v).length = ms.length + 1
  | [], i, j, _ => ⟨rfl, rfl⟩
  | (y, u) :: r, i, j, h => by
    unfold mloc at h
    by_cases e : x = y
    · rw [if_pos e] at h; cases h
    · rw [if_neg e] at h
      have := ents_none k x v r (i + 1) (j + 1) h
      unfold mput
      rw [if_neg e]
      refine ⟨?_, by simp [this.2]⟩
      unfold ents
      rw [this.1]
      simp [Nat.add_assoc, Nat.add_comm 1]
theorem ents_some (k : IntKind) (x : Int) (v : Value) : ∀ (ms : List (Int × Value)) (i j n : Nat) (u : Value), mloc ms x j = some (n, u) → ∃ m, n = j + m ∧ (∃ b, (ents k i ms)[m]? = some ⟨.int k x, u, b⟩) ∧ ents k i (mput ms x v) = (ents k i ms).modify m (fun e => { e with key := .int k x, val := v }) ∧ (mput ms x v).length = ms.length
  | [], i, j, n, u, h => by cases h
  | (y, z) :: r, i, j, n, u, h => by
    unfold mloc at h
    unfold mput
    by_cases e : x = y
    · subst e
      rw [if_pos rfl] at h ⊢
      cases h
      exact ⟨0, rfl, ⟨_, rfl⟩, rfl, rfl⟩
    · rw [if_neg e] at h ⊢
      obtain ⟨m, h1, h2, h3, h4⟩ := ents_some k x v r (i + 1) (j + 1) n u h
      refine ⟨m + 1, by omega, ?_, ?_, by simp [h4]⟩
      · unfold ents; exact h2
      · unfold ents; rw [h3]; rfl
section
variable {P : Program} {ops : Array Oper} {Q : Exit → Act → World → Prop} {w0 : World} {N : Fr} {l : List Oper} {env : Env} {hp : List Item} {o : Oper}
theorem wl_makeMap {T d : Nat} (k : IntKind) (ho : o.op = .makeMap T none) (hg : o.guard = none) (hd : o.dst = some d) (hN : d < N) (kk : ∀ b, WL P ops Q w0 N l ((d, .map (some b)) :: env) (.obj b (mobj k []) :: hp)) : WL P ops Q w0 N (o :: l) env hp := by
  intro a w h
  refine wpList_plain hg fun K hK => ?_
  unfold Oper.wp
  have hr : (execOp a.eval o).run P w = .ok (.value (.map (some w.heap.size))) (w.alloc (mobj k [])) := by
    simp [execOp, ho, Instr.makeMap]
    rfl
  rw [hr]
  refine hK _ _ ?_
  rw [hd]
  exact kk _ _ _ (h.put d _ hN (h.heap.alloc (mobj k [])))
theorem run_checkKey {t : TypeId} {k : IntKind} {x : Int} {b : Bool} (ht : P.underlying t = some (.int k)) (w : World) : (Instr.checkKey b 10000 t (.int k x)).run P w = .ok () w := by
  unfold Instr.checkKey
  rw [Sem.run_bind, run_underlying ht]
  rfl
theorem q_lookup {T K E : TypeId} {x y : Operand} {i b : Nat} {k : IntKind} {n : Int} {ms : List (Int × Value)} {z v : Value} (ho : o.op = .lookup T x y false) (hx : evE x env = some (.map (some b))) (hy : evE y env = some (.int k n)) (hT : P.underlying T = some (.map K E)) (hK : P.underlying K = some (.int k)) (hz : (P.info? E).bind (·.zero) = some z) (hi : hp[i]? = some (.obj b (mobj k ms))) (hv : (mfind ms n).getD z = v) : OpQ P o env w0 hp v := q_run fun a w he hh => by
  subst hv
  have hb : w.heap[b]? = some (mobj k ms) := hh.get hi
  have hf : (Instr.findKey K (.int k n) (ents k 0 ms).toArray.toList).run P w = .ok (mloc ms n 0) w := MapKept.run_findKey hK (findNow_ents k n ms 0 0)
  have hzr : (zeroValue E).run P w = .ok z w := by
    cases hI : P.info? E with
    | none => rw [hI] at hz; cases hz
    | some inf => rw [hI] at hz; simp only [Option.bind_some] at hz; simp [zeroValue, typeInfo, hI, hz]
  have hl := mloc_find ms n 0
  unfold execOp
  simp only [ho, ev_of he hx, ev_of he hy, Instr.lookup, Sem.run_bind, run_underlying hT, Result.andThen_ok, MapKept.run_getObj_map hb, Sem.run_pure, run_checkKey hK, hf]
  cases hm : mloc ms n 0 with
  | none => rw [hm] at hl; rw [← hl]; simp [hzr]
  | some q => rw [hm] at hl; rw [← hl]; simp
theorem wl_mapUpdate {T K E : TypeId} {x y z : Operand} {i b : Nat} {k : IntKind} {n : Int} {ms : List (Int × Value)} {v : Value} {hp' : List Item} (ho : o.op = .mapUpdate T x y z) (hg : o.guard = none) (hd : o.dst = none) (hx : evE x env = some (.map (some b))) (hy : evE y env = some (.int k n)) (hzv : evE z env = some v) (hT : P.underlying T = some (.map K E)) (hK : P.underlying K = some (.int k)) (hi : hp[i]? = some (.obj b (mobj k ms))) (hh : hp.set i (.obj b (mobj k (mput ms n v))) = hp')
    (kk : WL P ops Q w0 N l env hp') : WL P ops Q w0 N (o :: l) env hp := by
  subst hh
  intro a w h
  refine wpList_plain hg fun K' hK' => ?_
  have hb : w.heap[b]? = some (mobj k ms) := h.heap.get hi
  have hf : (Instr.findKey K (.int k n) (ents k 0 ms).toArray.toList).run P w = .ok (mloc ms n 0) w := MapKept.run_findKey hK (findNow_ents k n ms 0 0)
  have hr : (execOp a.eval o).run P w = .ok .skip { w with heap := w.heap.setIfInBounds b (mobj k (mput ms n v)) } := by
    unfold execOp
    simp only [ho, ev_of h.env hx, ev_of h.env hy, ev_of h.env hzv, Instr.mapUpdate, Sem.run_bind, run_underlying hT, Result.andThen_ok, MapKept.run_getObj_map hb, Sem.run_pure, run_checkKey hK, hf]
    cases hm : mloc ms n 0 with
    | none =>
      have := ents_none k n v ms 0 0 hm
      have e : (.map ((ents k 0 ms).toArray.push { key := .int k n, val := v, born := ms.length }) (ms.length + 1) : Obj) = mobj k (mput ms n v) := by
        unfold mobj
        rw [this.1, this.2]
        simp
      simp only [MapKept.run_setObj_map _ hb, Result.andThen_ok, Sem.run_pure]
      rw [e]
    | some q =>
      obtain ⟨j, u⟩ := q
      obtain ⟨m, h1, ⟨b', h2⟩, h3, h4⟩ := ents_some k n v ms 0 0 j u hm
      have hj : j = m := by omega
      subst hj
      have e : (.map ((ents k 0 ms).toArray.modify j fun e => { e with key := .int k n, val := v }) ms.length : Obj) = mobj k (mput ms n v) := by
        unfold mobj
        rw [h3, h4]
        simp
      have hk : (Instr.keyThatStays ((((ents k 0 ms).toArray[j]?).map (·.key)).getD (.int k n)) (.int k n)).run P w = .ok (.int k n) w := by
        have : (ents k 0 ms).toArray[j]? = some ⟨.int k n, u, b'⟩ := by simpa using h2
        rw [this]
        simp [Instr.keyThatStays, Instr.sameBits]
      simp only [hk, Sem.run_bind, MapKept.run_setObj_map _ hb, Result.andThen_ok, Sem.run_pure]
      rw [e]
  unfold Oper.wp
  rw [hr]
  rw [Oper.upon_skip]
  refine hK' _ _ ?_
  rw [hd]
  refine kk _ _ ⟨h.size, h.defers, h.env, ?_⟩
  have hlt := (Array.getElem?_eq_some_iff.1 hb).1
  refine h.heap.updAt hi rfl rfl rfl (by simp) (fun k' hk hn => ?_) ?_ (fun k' hk => ⟨.inl hk, ?_⟩)
  · exact Array.getElem?_setIfInBounds_ne (fun e => hn e.symm)
  · show (w.heap.setIfInBounds b _)[b]? = some _
    simp [hlt]
  · have : k' = b := hk
    subst this
    simpa using hlt
end
end Go.Sx
end
section
namespace Go.Proofs.YtbcijmpkmmcdeaaDoor.PAll
open Go.RowKit Go.Proofs.YtbcijmpkmmcdeaaDoorW.PrintWords Go.Proofs.YtbcijmpkmmcdeaaDoorW.PrintLast Go.Proofs.YtbcijmpkmmcdeaaDoorW.PrintMore
attribute [local go_sem] max2_int min2_int max_two min_two max_three min_three max_four min_four
set_option linter.unusedVariables false
set_option linter.unusedSimpArgs false
def mend_within.f (a0 : Int) (a1 : Int) (a2 : Int) : Option (Int) := some (mn (mx a0 a1) a2)
set_option maxHeartbeats 8000000 in
set_option maxRecDepth 100000 in
theorem mend_within.calls (a0 : Int) (a1 : Int) (a2 : Int) (r : Int) (w : World) (h : mend_within.f a0 a1 a2 = some r) :
    Calls Tryd.prog 37 #[.int .i64 a0, .int .i64 a1, .int .i64 a2] w fun e w' => e = .returned (.int .i64 r) ∧ Below w.heap.size w w' := by
  have HB := Aside0.mk (Below.refl w.heap.size w)
  have H : (some (mn (mx a0 a1) a2)) = some r := h
  clear h
  obtain ⟨ji4, hji4⟩ : ∃ j_ : Int, (mx a0 a1) = j_ := ⟨_, rfl⟩
  replace H : (some (mn (ji4) a2)) = some r := by first | (rw [hji4] at H; exact H) | (simp only [hji4] at H ⊢; exact H)
  have hji4_ : (if a0 < a1 then a1 else a0) = ji4 := hji4
  obtain ⟨ji5, hji5⟩ : ∃ j_ : Int, (mn (ji4) a2) = j_ := ⟨_, rfl⟩
  replace H : (some ji5) = some r := by first | (rw [hji5] at H; exact H) | (simp only [hji5] at H ⊢; exact H)
  have hji5_ : (if a2 < (ji4) then a2 else (ji4)) = ji5 := hji5
  obtain rfl := Option.some.inj H
  go_enter Tryd.func37, Tryd.ntmps37
  go_wp2
  go_ret
  exact ⟨by first | rfl | (simp [errW_none, errW_some] <;> rfl) | (simp only [← hji4, ← hji5]; first | rfl | (simp [errW_none, errW_some] <;> rfl)) | (simp [*, errW_none, errW_some] <;> rfl), by repeat (first | (with_reducible first | exact HB.out | apply below_alloc | apply pw_below_drewN | apply below_drew1) | exact HB.out)⟩
end Go.Proofs.YtbcijmpkmmcdeaaDoor.PAll
end
section
namespace Go.Proofs.YtbcijmpkmmcdeaaDoor.PAll
open Go.RowKit Go.Proofs.YtbcijmpkmmcdeaaDoorW.PrintWords Go.Proofs.YtbcijmpkmmcdeaaDoorW.PrintLast Go.Proofs.YtbcijmpkmmcdeaaDoorW.PrintMore
attribute [local go_sem] max2_int min2_int max_two min_two max_three min_three max_four min_four
set_option linter.unusedVariables false
set_option linter.unusedSimpArgs false
def ixs (l : List S51) (g : S51 → Bool) : Nat → Int := fun i => if (l.drop i).findIdx g < (l.drop i).length then ((i + (l.drop i).findIdx g : Nat) : Int) else -1
def ixf (l : List S51) (g : S51 → Bool) : Int := if l.findIdx g < l.length then (l.findIdx g : Int) else -1
theorem ixs_zero (l : List S51) (g : S51 → Bool) : ixf l g = ixs l g 0 := by simp [ixf, ixs]
theorem ixs_end (l : List S51) (g : S51 → Bool) : ixs l g l.length = -1 := by simp [ixs]
theorem rd_T51_nat (l : List S51) (i : Nat) (h : i < l.length) : rd_T51 l (i : Int) = l[i] := by
  unfold rd_T51
  first
    | (rw [Int.toNat_natCast, List.getD_eq_getElem?_getD, List.getElem?_eq_getElem h, Option.getD_some])
    | (simp [h])
theorem ixs_step (l : List S51) (g : S51 → Bool) (i : Nat) (h : i < l.length) : ixs l g i = if g (rd_T51 l (i : Int)) = true then (i : Int) else ixs l g (i + 1) := by
  rw [rd_T51_nat l i h]
  unfold ixs
  rw [List.drop_eq_getElem_cons h, List.findIdx_cons]
  cases hg : g l[i] with
  | true => have : ¬ (l.length - i = 0) := (by omega); simp [this]
  | false =>
    simp only [cond_false, List.length_cons, Bool.false_eq_true, if_false]
    by_cases h2 : (l.drop (i + 1)).findIdx g < (l.drop (i + 1)).length
    · rw [if_pos (by omega), if_pos h2]; omega
    · rw [if_neg (by omega), if_neg h2]
theorem ix_wrap (n : Nat) (h : n ≤ 1099511627776) : wrap64 ((n : Int) + 1) = ((n + 1 : Nat) : Int) := by unfold wrap64; omega
set_option maxHeartbeats 4000000 in
set_option maxRecDepth 100000 in
theorem at_fn.calls (p : S51) (B : Nat) (car : Int) (W : World) (hB : W.cell? ⟨B, 0, none⟩ = some (.int .i64 car)) :
    Calls Tryd.prog 73 #[.agg #[.int .i64 p.f0, .int .i64 p.f1], .pointer (some ⟨B, 0, none⟩)] W fun e w' => e = .returned (.bool (p.f0 == car)) ∧ Below W.heap.size W w' := by
  have hu51 := Tryd.underlying51
  have hB2 := fun o : Obj => (World.cell?_alloc_lt W o ⟨B, 0, none⟩ (World.block_lt_of_cell? W _ hB)).trans hB
  go_enter Tryd.func73, Tryd.ntmps73
  go_wp2
  go_ret
  exact ⟨rfl, by repeat (first | exact Below.refl _ _ | apply below_alloc | apply below_drew1 | apply pw_below_drewN)⟩
set_option maxHeartbeats 4000000 in
set_option maxRecDepth 100000 in
theorem index_at.calls (A0 : Option Addr) (c0 : Nat) (l0 : List S51) (B : Nat) (g : S51 → Bool) (w : World) (hr0 : Kd.C k51 w A0 l0.length l0) (hc0 : l0.length ≤ c0) (hM : l0.length ≤ 1099511627776)
    (hK : ∀ (p : S51) (W : World), Below w.heap.size w W → Calls Tryd.prog 73 #[.agg #[.int .i64 p.f0, .int .i64 p.f1], .pointer (some ⟨B, 0, none⟩)] W fun e w' => e = .returned (.bool (g p)) ∧ Below W.heap.size W w') :
    Calls Tryd.prog 72 #[.slice A0 l0.length c0, .func (.func 73) #[] #[.pointer (some ⟨B, 0, none⟩)]] w fun e w' => e = .returned (.int .i64 (ixf l0 g)) ∧ Below w.heap.size w w' := by
  have hu51 := Tryd.underlying51
  have HR0 := Aside0.mk hr0
  have HM := Aside0.mk hM
  have HK := Aside0.mk hK
  have HB := Aside0.mk (Below.refl w.heap.size w)
  clear hr0 hM hK
  go_enter Tryd.func72, Tryd.ntmps72
  go_wp2
  go_loopg [8] l0.length (fun gh v8 w' => ∃ i : Nat, v8 = .int .i64 i ∧ Aside0 (gh + i = l0.length) ∧ Aside0 (ixf l0 g = ixs l0 g i) ∧ Aside0 (Below w.heap.size w w'))
  case atStart => exact ⟨0, rfl, ⟨by omega⟩, ⟨ixs_zero l0 g⟩, HB⟩
  case round =>
    clear HB
    obtain ⟨i, rfl, HI, HX, HB⟩ := hrel
    cases gk with
    | zero =>
      have hlt : decide ((i : Int) < (l0.length : Int)) = false := decide_eq_false (by have := HI.out; omega)
      have hi : i = l0.length := by have := HI.out; omega
      subst hi
      have hx := HX.out
      rw [ixs_end] at hx
      have HX2 := Aside0.mk hx
      clear hx
      go_wp2
      go_ret
      exact ⟨by rw [HX2.out]; rfl, HB.out⟩
    | succ gko =>
      have hilt : i < l0.length := by have := HI.out; omega
      have hlt : decide ((i : Int) < (l0.length : Int)) = true := decide_eq_true (by omega)
      have p1 : (0 : Int) ≤ (i : Int) := by omega
      have q1 : (i : Int) < (l0.length : Int) := by omega
      obtain ⟨ad1, e1, hx0, hx1⟩ := at_T51 HR0.out (i : Int) p1 q1
      cases e1
      rw [Int.toNat_natCast] at hx0 hx1
      replace hx0 := (HB.out.cell (World.block_lt_of_cell? w _ hx0)).trans hx0
      replace hx1 := (HB.out.cell (World.block_lt_of_cell? w _ hx1)).trans hx1
      replace p1 := eq_true p1
      replace q1 := eq_true q1
      have HLT := Aside0.mk hilt
      have hcall := HK.out (rd_T51 l0 (i : Int)) _ HB.out
      have hxs := HX.out
      rw [ixs_step l0 g i hilt] at hxs
      clear hilt
      by_cases hg : g (rd_T51 l0 (i : Int)) = true
      · rw [hg] at hcall hxs
        rw [if_pos rfl] at hxs
        have HXS := Aside0.mk hxs
        have HCALL := Aside0.mk hcall
        clear hcall hxs hg
        go_wp2_with (first | (go_at_call 73; refine HCALL.out.mono ?_; rintro e w2 ⟨rfl, hb2⟩))
        go_ret
        exact ⟨by rw [HXS.out]; rfl, below_step HB.out hb2⟩
      · rw [Bool.not_eq_true] at hg
        rw [hg] at hcall hxs
        rw [if_neg (by decide)] at hxs
        have HXS := Aside0.mk hxs
        have HCALL := Aside0.mk hcall
        clear hcall hxs hg
        go_wp2_with (first | (go_at_call 73; refine HCALL.out.mono ?_; rintro e w2 ⟨rfl, hb2⟩))
        go_roundg gko
        case measure => omega
        case rel => exact ⟨i + 1, by rw [ix_wrap i (by have := HM.out; have := HLT.out; omega)], ⟨by have := HI.out; omega⟩, HXS, ⟨below_step HB.out hb2⟩⟩
def ledger_Ledger_at.f (a0_0 a0_1 a0_2 : Int) (l0_3 : List S51) (a1 : Int) : Option Int := if l0_3.length ≤ 1099511627776 then some (ixf l0_3 fun p => p.f0 == a1) else none
set_option maxHeartbeats 4000000 in
set_option maxRecDepth 100000 in
theorem ledger_Ledger_at.calls (a0_0 : Int) (a0_1 : Int) (a0_2 : Int) (A0_3 : Option Addr) (c0_3 : Nat) (l0_3 : List (S51)) (a1 : Int) (r : Int) (w : World) (hr0_3 : Kd.C k51 w A0_3 l0_3.length l0_3) (hc0_3 : l0_3.length ≤ c0_3) (h : ledger_Ledger_at.f a0_0 a0_1 a0_2 l0_3 a1 = some r) :
    Calls Tryd.prog 62 #[.agg #[.int .i64 a0_0, .int .i64 a0_1, .int .i64 a0_2, .slice A0_3 l0_3.length c0_3], .int .i64 a1] w fun e w' => e = .returned (.int .i64 r) ∧ Below w.heap.size w w' := by
  unfold ledger_Ledger_at.f at h
  by_cases hM : l0_3.length ≤ 1099511627776
  case neg => rw [if_neg hM] at h; cases h
  rw [if_pos hM] at h
  obtain rfl := Option.some.inj h
  clear h
  have hu32 := Tryd.underlying32
  have hu51 := Tryd.underlying51
  have HR0 := Aside0.mk hr0_3
  have HC0 := Aside0.mk hc0_3
  have HM := Aside0.mk hM
  clear hr0_3 hc0_3 hM
  go_enter Tryd.func62, Tryd.ntmps62
  go_wp2_with (first | (go_at_call 72; refine (index_at.calls A0_3 c0_3 l0_3 (w.heap.size + 1) (fun p => p.f0 == a1) _ (Kd.C_alloc (Kd.C_alloc HR0.out _) _) HC0.out HM.out ?_).mono ?_; (· intro p W hb; refine at_fn.calls p _ a1 W ((hb.cell (by rw [World.size_alloc, World.size_alloc]; exact Nat.lt_succ_self _)).trans ?_); (rw [← World.size_alloc w (.cells #[Value.int .i64 a0_0, Value.int .i64 a0_1, Value.int .i64 a0_2, Value.slice A0_3 l0_3.length c0_3] 32)]; exact (Boxed.new _ 3 (.int .i64 a1)).cell)); rintro e w2 ⟨rfl, hb2⟩))
  go_ret
  exact ⟨rfl, below_step (below_alloc (below_alloc (Below.refl _ _) _) _) hb2⟩
end Go.Proofs.YtbcijmpkmmcdeaaDoor.PAll
end
section
namespace Go.Proofs.YtbcijmpkmmcdeaaDoor.PAll
open Go.RowKit Go.Proofs.YtbcijmpkmmcdeaaDoorW.PrintWords Go.Proofs.YtbcijmpkmmcdeaaDoorW.PrintLast Go.Proofs.YtbcijmpkmmcdeaaDoorW.PrintMore
attribute [local go_sem] max2_int min2_int max_two min_two max_three min_three max_four min_four
set_option linter.unusedVariables false
set_option linter.unusedSimpArgs false
def ledger_Ledger_Has.f (a0_0 : Int) (a0_1 : Int) (a0_2 : Int) (l0_3 : List (S51)) (a1 : Int) : Option (Int × Int × Bool) := (ledger_Ledger_at.f a0_0 a0_1 a0_2 l0_3 a1).bind fun t405 => (if t405 < 0 then (some (0, 0, false)) else (if 0 ≤ t405 then (if t405 < (l0_3.length : Int) then (some ((rd_T51 l0_3 t405).f0, (rd_T51 l0_3 t405).f1, true)) else (none)) else (none)))
set_option maxHeartbeats 8000000 in
set_option maxRecDepth 100000 in
theorem ledger_Ledger_Has.calls (a0_0 : Int) (a0_1 : Int) (a0_2 : Int) (A0_3 : Option Addr) (c0_3 : Nat) (l0_3 : List (S51)) (a1 : Int) (r1 : Int) (r2 : Int) (r3 : Bool) (w : World) (hr0_3 : Kd.C k51 w A0_3 l0_3.length l0_3) (hc0_3 : l0_3.length ≤ c0_3) (h : ledger_Ledger_Has.f a0_0 a0_1 a0_2 l0_3 a1 = some (r1, r2, r3)) :
    Calls Tryd.prog 36 #[.agg #[.int .i64 a0_0, .int .i64 a0_1, .int .i64 a0_2, .slice A0_3 l0_3.length c0_3], .int .i64 a1] w fun e w' => e = .returned (.tuple #[.agg #[.int .i64 r1, .int .i64 r2], .bool r3]) ∧ Below w.heap.size w w' := by
  have hu32 := Tryd.underlying32
  have hu51 := Tryd.underlying51
  have HR0_3 := Aside0.mk hr0_3
  have HC0_3 := Aside0.mk hc0_3
  clear hr0_3 hc0_3
  have HB := Aside0.mk (Below.refl w.heap.size w)
  have H : ((ledger_Ledger_at.f a0_0 a0_1 a0_2 l0_3 a1).bind fun t405 => (if t405 < 0 then (some (0, 0, false)) else (if 0 ≤ t405 then (if t405 < (l0_3.length : Int) then (some ((rd_T51 l0_3 t405).f0, (rd_T51 l0_3 t405).f1, true)) else (none)) else (none)))) = some (r1, r2, r3) := h
  clear h
  replace H := Option.bind_eq_some_iff.mp H
  obtain ⟨t405, A30, H⟩ := H
  replace H : (if t405 < 0 then (some (0, 0, false)) else (if 0 ≤ t405 then (if t405 < (l0_3.length : Int) then (some ((rd_T51 l0_3 t405).f0, (rd_T51 l0_3 t405).f1, true)) else (none)) else (none))) = some (r1, r2, r3) := H
  have A3 := Aside0.mk A30
  clear A30
  by_cases c4 : t405 < 0
  · rw [if_pos c4] at H
    have c4b0 : decide (t405 < 0) = true := decide_eq_true c4
    clear c4
    simp only [Option.some.injEq, Prod.mk.injEq] at H
    obtain ⟨rfl, rfl, rfl⟩ := H
    go_enter Tryd.func36, Tryd.ntmps36
    go_wp2_with (first | ((with_reducible refine gate_dst (N := 2) rfl ?_); refine box_event ?hg (N := 2) ?hd (cs := #[.int .i64 a0_0, .int .i64 a0_1, .int .i64 a0_2, .slice A0_3 l0_3.length c0_3]) (t := 32) ?hr ?_; (case hd => rfl); (case hg => rfl); (case hr => first | (go_simp; done) | (go_simp; rfl)); intro gb403 hg w5 hbox hb; have n0_ := Aside0.mk (below_step (by repeat (first | (with_reducible first | exact HB.out | apply below_alloc | apply pw_below_drewN | apply below_drew1) | exact HB.out)) hb); have n1_ := Aside0.mk (hbox); have n2_ := Aside0.mk ((by rw [hg]; exact (below_size (by repeat (first | (with_reducible first | exact HB.out | apply below_alloc | apply pw_below_drewN | apply below_drew1) | exact HB.out))) : w.heap.size ≤ gb403)); have n3_ := Aside0.mk ((by rw [hg]; exact (below_size (by repeat (first | (with_reducible first | exact HB.out | apply below_alloc | apply pw_below_drewN | apply below_drew1) | exact HB.out))) : w.heap.size ≤ gb403)); clear HB; have HB := n0_; have BK403 := n1_; have GW403 := n2_; have GE403 := n3_; clear n0_ n1_ n2_ n3_; clear hb hbox hg) | ((with_reducible refine gate_dst (N := 4) rfl ?_); refine box_event ?hg (N := 4) ?hd (cs := #[.int .i64 0, .int .i64 0]) (t := 51) ?hr ?_; (case hd => rfl); (case hg => rfl); (case hr => first | (go_simp; done) | (go_simp; rfl)); intro gb404 hg w6 hbox hb; have n0_ := Aside0.mk (blk_below (g := gb403) (o := .cells #[.int .i64 a0_0, .int .i64 a0_1, .int .i64 a0_2, .slice A0_3 l0_3.length c0_3] 32 (0, 0)) (by (with_reducible repeat (first | refine blk_drewN ?_ _ | refine blk_drew ?_ | refine blk_alloc ?_ _)); exact BK403.out) hb); have n1_ := Aside0.mk (below_step (by repeat (first | (with_reducible first | exact HB.out | apply below_alloc | apply pw_below_drewN | apply below_drew1 | refine below_set ?_ GE403.out) | exact HB.out)) hb); have n2_ := Aside0.mk (hbox); have n3_ := Aside0.mk ((by rw [hg]; exact (below_size (by repeat (first | (with_reducible first | exact HB.out | apply below_alloc | apply pw_below_drewN | apply below_drew1 | refine below_set ?_ GE403.out) | exact HB.out))) : w.heap.size ≤ gb404)); have n4_ := Aside0.mk ((by rw [hg]; exact (below_size (by repeat (first | (with_reducible first | exact HB.out | apply below_alloc | apply pw_below_drewN | apply below_drew1 | refine below_set ?_ GE403.out) | exact HB.out))) : w.heap.size ≤ gb404)); have n5_ := Aside0.mk ((by rw [hg]; exact Nat.ne_of_lt (blk_lt (g := gb403) (o := .cells #[.int .i64 a0_0, .int .i64 a0_1, .int .i64 a0_2, .slice A0_3 l0_3.length c0_3] 32 (0, 0)) (by (with_reducible repeat (first | refine blk_drewN ?_ _ | refine blk_drew ?_ | refine blk_alloc ?_ _)); exact BK403.out)) : gb403 ≠ gb404)); have n6_ := Aside0.mk ((by rw [hg]; exact Nat.ne_of_gt (blk_lt (g := gb403) (o := .cells #[.int .i64 a0_0, .int .i64 a0_1, .int .i64 a0_2, .slice A0_3 l0_3.length c0_3] 32 (0, 0)) (by (with_reducible repeat (first | refine blk_drewN ?_ _ | refine blk_drew ?_ | refine blk_alloc ?_ _)); exact BK403.out)) : gb404 ≠ gb403)); clear BK403; clear HB; have BK403 := n0_; have HB := n1_; have BK404 := n2_; have GW404 := n3_; have GE404 := n4_; have NB403_404 := n5_; have NB404_403 := n6_; clear n0_ n1_ n2_ n3_ n4_ n5_ n6_; clear hb hbox hg; have hnb7 := NB403_404.out; have hnc7 := NB404_403.out; have hcz8_0 : w6.cell? ⟨gb403, 0, none⟩ = some (.int .i64 a0_0) := (blk_cell BK403.out 0).trans rfl; have hcz8_1 : w6.cell? ⟨gb403, 1, none⟩ = some (.int .i64 a0_1) := (blk_cell BK403.out 1).trans rfl; have hcz8_2 : w6.cell? ⟨gb403, 2, none⟩ = some (.int .i64 a0_2) := (blk_cell BK403.out 2).trans rfl; have hcz8_3 : w6.cell? ⟨gb403, 3, none⟩ = some (.slice A0_3 l0_3.length c0_3) := (blk_cell BK403.out 3).trans rfl; have hfz8_0 := blk_frozen BK403.out 0; have hfz8_1 := blk_frozen BK403.out 1; have hfz8_2 := blk_frozen BK403.out 2; have hfz8_3 := blk_frozen BK403.out 3) | ((with_reducible refine gate_callee (f := 62) rfl ?_); refine goesL_ (some 9) rfl rfl Tryd.func62 (by kernel_rfl) rfl #[.agg #[.int .i64 a0_0, .int .i64 a0_1, .int .i64 a0_2, .slice A0_3 l0_3.length c0_3], .int .i64 a1] rfl (by (try simp only [List.map_toArray, List.map_cons, List.map_nil]); first | done | rfl | (simp only [List.length_drop, List.length_take]; rfl)) ?_; (with_reducible refine (ledger_Ledger_at.calls a0_0 a0_1 a0_2 _ _ l0_3 a1 t405 _ ?side1 ?side2 A3.out).mono ?_); (case side1 => repeat (first | exact (Kd.C_below HR0_3.out HB.out) | (with_reducible refine Kd.C_alloc ?_ _) | (with_reducible refine Kd.C_drewN ?_ _) | (with_reducible refine Kd.C_drew ?_))); (case side2 => exact HC0_3.out); rintro e w9 ⟨rfl, hb⟩; refine ⟨_, rfl, ?_⟩; have n0_ := Aside0.mk (blk_below (g := gb403) (o := .cells #[.int .i64 a0_0, .int .i64 a0_1, .int .i64 a0_2, .slice A0_3 l0_3.length c0_3] 32 (0, 0)) (by (with_reducible repeat (first | refine blk_drewN ?_ _ | refine blk_drew ?_ | refine blk_alloc ?_ _)); exact BK403.out) hb); have n1_ := Aside0.mk (blk_below (g := gb404) (o := .cells #[.int .i64 0, .int .i64 0] 51 (0, 0)) (by (with_reducible repeat (first | refine blk_drewN ?_ _ | refine blk_drew ?_ | refine blk_alloc ?_ _)); exact BK404.out) hb); have n2_ := Aside0.mk (below_step (by repeat (first | (with_reducible first | exact HB.out | apply below_alloc | apply pw_below_drewN | apply below_drew1 | refine below_set ?_ GE403.out | refine below_set ?_ GE404.out) | exact HB.out)) hb); clear BK403; clear BK404; clear HB; have BK403 := n0_; have BK404 := n1_; have HB := n2_; clear n0_ n1_ n2_; (try clear hb); (try clear hb2); (try clear hk); (try clear hi); have hcz10_0 : w9.cell? ⟨gb404, 0, none⟩ = some (.int .i64 0) := (blk_cell BK404.out 0).trans rfl; have hcz10_1 : w9.cell? ⟨gb404, 1, none⟩ = some (.int .i64 0) := (blk_cell BK404.out 1).trans rfl; have hfz10_0 := blk_frozen BK404.out 0; have hfz10_1 := blk_frozen BK404.out 1))
    refine bodyPost_ret (results_ct rfl _ _ gb404 51 #[.int .i64 0, .int .i64 0] (0, 0) _ rfl (by (with_reducible repeat (first | refine blk_drewN ?_ _ | refine blk_drew ?_ | refine blk_alloc ?_ _)); refine blk_put (cs := #[.int .i64 0, .int .i64 0]) ?_ 1 _ rfl; (with_reducible repeat (first | refine blk_drewN ?_ _ | refine blk_drew ?_ | refine blk_alloc ?_ _)); refine blk_put (cs := #[.int .i64 0, .int .i64 0]) ?_ 0 _ rfl; (with_reducible repeat (first | refine blk_drewN ?_ _ | refine blk_drew ?_ | refine blk_alloc ?_ _)); exact BK404.out) Tryd.underlying51 rfl (by kernel_rfl)) rfl ?_
    exact ⟨by first | rfl | (simp [errW_none, errW_some] <;> rfl) | (simp [*, errW_none, errW_some] <;> rfl), by repeat (first | (with_reducible first | exact HB.out | apply below_alloc | apply pw_below_drewN | apply below_drew1 | refine below_set ?_ GE403.out | refine below_set ?_ GE404.out) | exact HB.out)⟩
  · rw [if_neg c4] at H
    have c4b0 : decide (t405 < 0) = false := decide_eq_false c4
    clear c4
    by_cases c11 : 0 ≤ t405
    · rw [if_pos c11] at H
      have c11b0 : decide (0 ≤ t405) = true := decide_eq_true c11
      clear c11
      by_cases c12 : t405 < (l0_3.length : Int)
      · rw [if_pos c12] at H
        have c12b0 : decide (t405 < (l0_3.length : Int)) = true := decide_eq_true c12
        clear c12
        simp only [Option.some.injEq, Prod.mk.injEq] at H
        obtain ⟨rfl, rfl, rfl⟩ := H
        go_enter Tryd.func36, Tryd.ntmps36
        go_wp2_with (first | ((with_reducible refine gate_dst (N := 2) rfl ?_); refine box_event ?hg (N := 2) ?hd (cs := #[.int .i64 a0_0, .int .i64 a0_1, .int .i64 a0_2, .slice A0_3 l0_3.length c0_3]) (t := 32) ?hr ?_; (case hd => rfl); (case hg => rfl); (case hr => first | (go_simp; done) | (go_simp; rfl)); intro gb403 hg w13 hbox hb; have n0_ := Aside0.mk (below_step (by repeat (first | (with_reducible first | exact HB.out | apply below_alloc | apply pw_below_drewN | apply below_drew1) | exact HB.out)) hb); have n1_ := Aside0.mk (hbox); have n2_ := Aside0.mk ((by rw [hg]; exact (below_size (by repeat (first | (with_reducible first | exact HB.out | apply below_alloc | apply pw_below_drewN | apply below_drew1) | exact HB.out))) : w.heap.size ≤ gb403)); have n3_ := Aside0.mk ((by rw [hg]; exact (below_size (by repeat (first | (with_reducible first | exact HB.out | apply below_alloc | apply pw_below_drewN | apply below_drew1) | exact HB.out))) : w.heap.size ≤ gb403)); clear HB; have HB := n0_; have BK403 := n1_; have GW403 := n2_; have GE403 := n3_; clear n0_ n1_ n2_ n3_; clear hb hbox hg) | ((with_reducible refine gate_dst (N := 4) rfl ?_); refine box_event ?hg (N := 4) ?hd (cs := #[.int .i64 0, .int .i64 0]) (t := 51) ?hr ?_; (case hd => rfl); (case hg => rfl); (case hr => first | (go_simp; done) | (go_simp; rfl)); intro gb404 hg w14 hbox hb; have n0_ := Aside0.mk (blk_below (g := gb403) (o := .cells #[.int .i64 a0_0, .int .i64 a0_1, .int .i64 a0_2, .slice A0_3 l0_3.length c0_3] 32 (0, 0)) (by (with_reducible repeat (first | refine blk_drewN ?_ _ | refine blk_drew ?_ | refine blk_alloc ?_ _)); exact BK403.out) hb); have n1_ := Aside0.mk (below_step (by repeat (first | (with_reducible first | exact HB.out | apply below_alloc | apply pw_below_drewN | apply below_drew1 | refine below_set ?_ GE403.out) | exact HB.out)) hb); have n2_ := Aside0.mk (hbox); have n3_ := Aside0.mk ((by rw [hg]; exact (below_size (by repeat (first | (with_reducible first | exact HB.out | apply below_alloc | apply pw_below_drewN | apply below_drew1 | refine below_set ?_ GE403.out) | exact HB.out))) : w.heap.size ≤ gb404)); have n4_ := Aside0.mk ((by rw [hg]; exact (below_size (by repeat (first | (with_reducible first | exact HB.out | apply below_alloc | apply pw_below_drewN | apply below_drew1 | refine below_set ?_ GE403.out) | exact HB.out))) : w.heap.size ≤ gb404)); have n5_ := Aside0.mk ((by rw [hg]; exact Nat.ne_of_lt (blk_lt (g := gb403) (o := .cells #[.int .i64 a0_0, .int .i64 a0_1, .int .i64 a0_2, .slice A0_3 l0_3.length c0_3] 32 (0, 0)) (by (with_reducible repeat (first | refine blk_drewN ?_ _ | refine blk_drew ?_ | refine blk_alloc ?_ _)); exact BK403.out)) : gb403 ≠ gb404)); have n6_ := Aside0.mk ((by rw [hg]; exact Nat.ne_of_gt (blk_lt (g := gb403) (o := .cells #[.int .i64 a0_0, .int .i64 a0_1, .int .i64 a0_2, .slice A0_3 l0_3.length c0_3] 32 (0, 0)) (by (with_reducible repeat (first | refine blk_drewN ?_ _ | refine blk_drew ?_ | refine blk_alloc ?_ _)); exact BK403.out)) : gb404 ≠ gb403)); clear BK403; clear HB; have BK403 := n0_; have HB := n1_; have BK404 := n2_; have GW404 := n3_; have GE404 := n4_; have NB403_404 := n5_; have NB404_403 := n6_; clear n0_ n1_ n2_ n3_ n4_ n5_ n6_; clear hb hbox hg; have hnb15 := NB403_404.out; have hnc15 := NB404_403.out; have hcz16_0 : w14.cell? ⟨gb403, 0, none⟩ = some (.int .i64 a0_0) := (blk_cell BK403.out 0).trans rfl; have hcz16_1 : w14.cell? ⟨gb403, 1, none⟩ = some (.int .i64 a0_1) := (blk_cell BK403.out 1).trans rfl; have hcz16_2 : w14.cell? ⟨gb403, 2, none⟩ = some (.int .i64 a0_2) := (blk_cell BK403.out 2).trans rfl; have hcz16_3 : w14.cell? ⟨gb403, 3, none⟩ = some (.slice A0_3 l0_3.length c0_3) := (blk_cell BK403.out 3).trans rfl; have hfz16_0 := blk_frozen BK403.out 0; have hfz16_1 := blk_frozen BK403.out 1; have hfz16_2 := blk_frozen BK403.out 2; have hfz16_3 := blk_frozen BK403.out 3) | ((with_reducible refine gate_callee (f := 62) rfl ?_); refine goesL_ (some 9) rfl rfl Tryd.func62 (by kernel_rfl) rfl #[.agg #[.int .i64 a0_0, .int .i64 a0_1, .int .i64 a0_2, .slice A0_3 l0_3.length c0_3], .int .i64 a1] rfl (by (try simp only [List.map_toArray, List.map_cons, List.map_nil]); first | done | rfl | (simp only [List.length_drop, List.length_take]; rfl)) ?_; (with_reducible refine (ledger_Ledger_at.calls a0_0 a0_1 a0_2 _ _ l0_3 a1 t405 _ ?side1 ?side2 A3.out).mono ?_); (case side1 => repeat (first | exact (Kd.C_below HR0_3.out HB.out) | (with_reducible refine Kd.C_alloc ?_ _) | (with_reducible refine Kd.C_drewN ?_ _) | (with_reducible refine Kd.C_drew ?_))); (case side2 => exact HC0_3.out); rintro e w17 ⟨rfl, hb⟩; refine ⟨_, rfl, ?_⟩; have n0_ := Aside0.mk (blk_below (g := gb403) (o := .cells #[.int .i64 a0_0, .int .i64 a0_1, .int .i64 a0_2, .slice A0_3 l0_3.length c0_3] 32 (0, 0)) (by (with_reducible repeat (first | refine blk_drewN ?_ _ | refine blk_drew ?_ | refine blk_alloc ?_ _)); exact BK403.out) hb); have n1_ := Aside0.mk (blk_below (g := gb404) (o := .cells #[.int .i64 0, .int .i64 0] 51 (0, 0)) (by (with_reducible repeat (first | refine blk_drewN ?_ _ | refine blk_drew ?_ | refine blk_alloc ?_ _)); exact BK404.out) hb); have n2_ := Aside0.mk (below_step (by repeat (first | (with_reducible first | exact HB.out | apply below_alloc | apply pw_below_drewN | apply below_drew1 | refine below_set ?_ GE403.out | refine below_set ?_ GE404.out) | exact HB.out)) hb); clear BK403; clear BK404; clear HB; have BK403 := n0_; have BK404 := n1_; have HB := n2_; clear n0_ n1_ n2_; (try clear hb); (try clear hb2); (try clear hk); (try clear hi); have hcz18_0 : w17.cell? ⟨gb403, 0, none⟩ = some (.int .i64 a0_0) := (blk_cell BK403.out 0).trans rfl; have hcz18_1 : w17.cell? ⟨gb403, 1, none⟩ = some (.int .i64 a0_1) := (blk_cell BK403.out 1).trans rfl; have hcz18_2 : w17.cell? ⟨gb403, 2, none⟩ = some (.int .i64 a0_2) := (blk_cell BK403.out 2).trans rfl; have hcz18_3 : w17.cell? ⟨gb403, 3, none⟩ = some (.slice A0_3 l0_3.length c0_3) := (blk_cell BK403.out 3).trans rfl; have hfz18_0 := blk_frozen BK403.out 0; have hfz18_1 := blk_frozen BK403.out 1; have hfz18_2 := blk_frozen BK403.out 2; have hfz18_3 := blk_frozen BK403.out 3; have p406 : 0 ≤ (t405 : Int) := of_decide_eq_true (by first | (with_reducible assumption) | assumption); have q406 : t405 < (l0_3.length : Int) := of_decide_eq_true (by first | (with_reducible assumption) | assumption); obtain ⟨ad406, e406, hx406_0, hx406_1⟩ := at_T51 HR0_3.out t405 p406 q406; cases e406; replace hx406_0 := (HB.out.cell (World.block_lt_of_cell? w _ hx406_0)).trans hx406_0; replace hx406_1 := (HB.out.cell (World.block_lt_of_cell? w _ hx406_1)).trans hx406_1; replace p406 := eq_true p406; replace q406 := eq_true q406; have hcz19_0 : w17.cell? ⟨gb404, 0, none⟩ = some (.int .i64 0) := (blk_cell BK404.out 0).trans rfl; have hcz19_1 : w17.cell? ⟨gb404, 1, none⟩ = some (.int .i64 0) := (blk_cell BK404.out 1).trans rfl; have hfz19_0 := blk_frozen BK404.out 0; have hfz19_1 := blk_frozen BK404.out 1))
        refine bodyPost_ret (results_ct rfl _ _ gb404 51 #[.int .i64 ((rd_T51 l0_3 t405).f0), .int .i64 ((rd_T51 l0_3 t405).f1)] (0, 0) _ rfl (by (with_reducible repeat (first | refine blk_drewN ?_ _ | refine blk_drew ?_ | refine blk_alloc ?_ _)); refine blk_put (cs := #[.int .i64 ((rd_T51 l0_3 t405).f0), .int .i64 0]) ?_ 1 _ rfl; (with_reducible repeat (first | refine blk_drewN ?_ _ | refine blk_drew ?_ | refine blk_alloc ?_ _)); refine blk_put (cs := #[.int .i64 0, .int .i64 0]) ?_ 0 _ rfl; (with_reducible repeat (first | refine blk_drewN ?_ _ | refine blk_drew ?_ | refine blk_alloc ?_ _)); exact BK404.out) Tryd.underlying51 rfl (by kernel_rfl)) rfl ?_
        exact ⟨by first | rfl | (simp [errW_none, errW_some] <;> rfl) | (simp [*, errW_none, errW_some] <;> rfl), by repeat (first | (with_reducible first | exact HB.out | apply below_alloc | apply pw_below_drewN | apply below_drew1 | refine below_set ?_ GE403.out | refine below_set ?_ GE404.out) | exact HB.out)⟩
      · rw [if_neg c12] at H
        exact absurd H (by simp)
    · rw [if_neg c11] at H
      exact absurd H (by simp)
end Go.Proofs.YtbcijmpkmmcdeaaDoor.PAll
end
section
namespace Go.Proofs.YtbcijmpkmmcdeaaDoor.SF
open Go.RowKit Go.Sx Go.Proofs.YtbcijmpkmmcdeaaDoor.PAll Go.Proofs.YtbcijmpkmmcdeaaDoorW.PrintWords Go.Proofs.YtbcijmpkmmcdeaaDoorW.PrintLast Go.Proofs.YtbcijmpkmmcdeaaDoorW.PrintMore
open Go.Proofs.YtbcijmpkmmcdeaaDoor.PChk (sumP sum_ev sumP_bound)
set_option linter.unusedVariables false
set_option linter.unusedSimpArgs false
set_option maxRecDepth 100000
def hasP (l : List S51) (car : Int) : Int × Int × Bool := match l.find? (fun p => p.f0 == car) with | some p => (p.f0, p.f1, true) | none => (0, 0, false)
theorem has_ev (b m cr : Int) (l : List S51) (car : Int) (hl : l.length ≤ 1099511627776) : ledger_Ledger_Has.f b m cr l car = some (hasP l car) := by
  unfold ledger_Ledger_Has.f ledger_Ledger_at.f
  rw [if_pos hl, Option.bind_some]
  unfold hasP Go.Proofs.YtbcijmpkmmcdeaaDoor.PAll.ixf
  cases hf : l.find? (fun p => p.f0 == car) with
  | none =>
    have : ¬ l.findIdx (fun p => p.f0 == car) < l.length := by
      rw [List.findIdx_lt_length]
      rintro ⟨p, hp, hc⟩
      exact absurd hc (by simpa using List.find?_eq_none.1 hf p hp)
    rw [if_neg this, if_pos (by decide)]
  | some p =>
    have hm := List.mem_of_find?_eq_some hf
    have hp := List.find?_some hf
    have hlt : l.findIdx (fun p => p.f0 == car) < l.length := List.findIdx_lt_length.2 ⟨p, hm, hp⟩
    have he : l[l.findIdx (fun p => p.f0 == car)] = p := by
      have := List.find?_eq_getElem?_findIdx (xs := l) (p := fun p => p.f0 == car)
      rw [hf, List.getElem?_eq_getElem hlt] at this
      exact (Option.some.inj this).symm
    rw [if_pos hlt, if_neg (by omega), if_pos (by omega), if_pos (by omega), Go.Proofs.YtbcijmpkmmcdeaaDoor.PAll.rd_T51_nat _ _ hlt, he]
def pkF (ps : List S51) (m : S28) : Int := mn (mx (mx m.f1 (hasP ps m.f0).2.1) 0) 1048576
theorem pkF_range (ps : List S51) (m : S28) : 0 ≤ pkF ps m ∧ pkF ps m ≤ 1048576 := by
  unfold pkF mn mx
  constructor <;> (repeat' split) <;> omega
structure AG where
  out : List S51
  stops : List Int
def agOne (ps : List S51) (bud : Int) (seen : List Int) (s : AG) (m : S28) : AG :=
  if m.f0 ∈ seen ∨ m.f0 < 0 ∨ 64 ≤ m.f0 then s else if bud < sumP s.out + pkF ps m then ⟨s.out, s.stops ++ [m.f0]⟩ else ⟨s.out ++ [⟨m.f0, pkF ps m⟩], s.stops⟩
def agN (ps : List S51) (bud : Int) (l : List S28) : Nat → AG
  | 0 => ⟨[], []⟩
  | j + 1 => match l[j]? with | some m => agOne ps bud ((l.take j).map S28.f0) (agN ps bud l j) m | none => agN ps bud l j
theorem agN_range (ps : List S51) (bud : Int) (l : List S28) (j : Nat) : (∀ p ∈ (agN ps bud l j).out, 0 ≤ p.f1 ∧ p.f1 ≤ 1048576) ∧ (agN ps bud l j).out.length ≤ j ∧ (agN ps bud l j).stops.length ≤ j := by
  induction j with
  | zero => exact ⟨(fun p hp => by cases hp), Nat.le_refl _, Nat.le_refl _⟩
  | succ j ih =>
    unfold agN
    cases l[j]? with
    | none => exact ⟨ih.1, by have := ih.2.1; simp only; omega, by have := ih.2.2; simp only; omega⟩
    | some m =>
      simp only
      unfold agOne
      split
      · exact ⟨ih.1, by omega, by omega⟩
      · split
        · exact ⟨ih.1, by simp only; omega, by simp only [List.length_append, List.length_cons, List.length_nil]; omega⟩
        · refine ⟨fun p hp => ?_, by simp only [List.length_append, List.length_cons, List.length_nil]; omega, by simp only; omega⟩
          rcases List.mem_append.1 hp with hp | hp
          · exact ih.1 p hp
          · obtain rfl := List.mem_singleton.1 hp
            exact pkF_range ps m
def cntV (l : List Int) (x : Int) : Option Value := if l.count x = 0 then none else some (.int .i64 (l.count x : Nat))
theorem cnt_get (l : List Int) (x : Int) : (cntV l x).getD (.int .i64 0) = .int .i64 (l.count x : Nat) := by
  unfold cntV
  split
  · rename_i h; rw [h]; rfl
  · rfl
theorem cnt_put {ms : List (Int × Value)} {l : List Int} (h : ∀ x, mfind ms x = cntV l x) (c : Int) : ∀ x, mfind (mput ms c (.int .i64 ((l.count c + 1 : Nat) : Int))) x = cntV (l ++ [c]) x := by
  intro x
  rw [mfind_mput]
  unfold cntV
  rw [List.count_append]
  by_cases e : x = c
  · subst e
    rw [if_pos rfl, if_neg (by simp)]
    simp
  · rw [if_neg e, h x]
    unfold cntV
    have : List.count x [c] = 0 := by simp [Ne.symm e]
    rw [this, Nat.add_zero]
theorem C28_at {W : World} {A : Option Addr} {j : Nat} {xs : List S28} {p : S28} (h : Kd.C k28 W A xs.length xs) (hp : xs[j]? = some p) : ∃ ad, A = some ad ∧ ∀ i u, [Value.int .i64 p.f0, Value.int .i64 p.f1][i]? = some u → W.cell? ((ad.add (j * 2)).add i) = some u := by
  obtain ⟨ad, cs, e, hK, hc⟩ := C_at h hp rfl
  obtain rfl := k28_open hK
  exact ⟨ad, e, hc⟩
theorem take_snoc {l : List S28} {j : Nat} {p : S28} (h : l[j]? = some p) : (l.take (j + 1)).map S28.f0 = (l.take j).map S28.f0 ++ [p.f0] := by
  rw [List.take_add_one, h]; simp
theorem wrap_id {x : Int} (h : -9223372036854775808 ≤ x ∧ x ≤ 9223372036854775807) : IntKind.i64.wrap x = x := by
  simp only [IntKind.wrap, IntKind.signed, IntKind.bits]; simp; omega
theorem count_mem {l : List Int} {x : Int} : (0 < l.count x) ↔ x ∈ l := List.count_pos_iff
theorem pk_calls (p : S28) (B : Nat) (bu ma cr : Int) (A : Option Addr) (c : Nat) (ps : List S51) (w : World) (hB : w.heap[B]? = some (.cells [.int .i64 bu, .int .i64 ma, .int .i64 cr, .slice A ps.length c].toArray 32 (0, 0))) (hr : Kd.C k51 w A ps.length ps) (hc : ps.length ≤ c) (hl : ps.length ≤ 1099511627776) :
    Calls Tryd.prog 38 #[.agg #[.int .i64 p.f0, .int .i64 p.f1], .pointer (some ⟨B, 0, none⟩)] w fun e w' => e = .returned (.int .i64 (pkF ps p)) ∧ Below w.heap.size w w' := by
  refine enter (w0 := w) (hp := [old w]) (env := [(0, .agg #[.int .i64 p.f0, .int .i64 p.f1]), (1, .pointer (some ⟨B, 0, none⟩))]) Tryd.func38 rfl 19 rfl (by simp) rfl (HeapOK.start _) ?_
  refine wc_seq ?_
  refine wc_region ?_
  refine wl_box rfl rfl rfl (by decide) rfl rfl (fun b1 => ?_)
  refine wl_q (q_assign rfl rfl) rfl rfl (by decide) ?_
  refine wl_nil ?_
  refine fq_then ?_
  refine wc_seq ?_
  refine wc_region ?_
  refine wl_q (q_loadA rfl rfl Mn32 Sz32 rfl (reads_old (cs := [.int .i64 bu, .int .i64 ma, .int .i64 cr, .slice A ps.length c]) (by simp) (fun j v hj => by (rw [addr_add, cell_of_row w B _ _ 32 (0, 0) hB]; simpa using hj)))) rfl rfl (by decide) ?_
  refine wl_q (q_fa (o1 := 0) rfl rfl Fo28_0 rfl) rfl rfl (by decide) ?_
  refine wl_q (q_load rfl rfl Mn3 (reads1 (i := 0) rfl rfl)) rfl rfl (by decide) ?_
  refine wl_q (q_call rfl En36 rfl (fun w1 hw1 => ledger_Ledger_Has.calls bu ma cr A c ps p.f0 (hasP ps p.f0).1 (hasP ps p.f0).2.1 (hasP ps p.f0).2.2 w1 (Kd.C_below hr (hw1.toBelow (by simp))) hc (has_ev bu ma cr ps p.f0 hl))) rfl rfl (by decide) ?_
  refine wl_q (q_move rfl rfl) rfl rfl (by decide) ?_
  refine wl_q (q_extract rfl rfl rfl) rfl rfl (by decide) ?_
  refine wl_q (q_extract rfl rfl rfl) rfl rfl (by decide) ?_
  refine wl_alloc rfl rfl rfl (by decide) Zr51 (fun b2 => ?_)
  refine wl_store (i := 0) rfl rfl rfl rfl rfl rfl Sz51 rfl rfl (by simp) (by simp [Value.oneCell']) (by first | (simp only [List.take_succ_cons, List.take_zero, List.take_nil, List.drop_succ_cons, List.drop_zero, List.drop_nil, List.nil_append, List.cons_append, List.append_nil, List.length_cons, List.length_nil, Nat.reduceAdd, Nat.zero_add]; rfl) | rfl) (by first | (simp only [List.set_cons_zero, List.set_cons_succ]; rfl) | rfl) ?_
  refine wl_q (q_assign rfl rfl) rfl rfl (by decide) ?_
  refine wl_nil ?_
  refine fq_then ?_
  refine wc_seq ?_
  refine wc_region ?_
  refine wl_q (q_fa (o1 := 1) rfl rfl Fo28_1 rfl) rfl rfl (by decide) ?_
  refine wl_q (q_load rfl rfl Mn3 (reads1 (i := 1) rfl rfl)) rfl rfl (by decide) ?_
  refine wl_q (q_fa (o1 := 1) rfl rfl Fo51_1 rfl) rfl rfl (by decide) ?_
  refine wl_q (q_load rfl rfl Mn3 (reads1 (i := 0) rfl rfl)) rfl rfl (by decide) ?_
  refine wl_q (q_max rfl rfl rfl) rfl rfl (by decide) ?_
  refine wl_q (q_call rfl En37 rfl (fun w1 hw1 => mend_within.calls _ 0 1048576 _ w1 rfl)) rfl rfl (by decide) ?_
  refine wl_q (q_assign rfl rfl) rfl rfl (by decide) ?_
  refine wl_nil ?_
  refine fq_then ?_
  refine wc_ret ?_
  refine fq_ret1 rfl rfl (fun w1 H => ?_)
  exact ⟨rfl, H.toBelow (by simp)⟩
set_option maxHeartbeats 4000000 in
theorem Again_calls (J : Jn) (p0 p1 p2 : Gh) (A : Option Addr) (c : Nat) (l : List S28) (budget : Int) (w : World) (hJ : Jn.ok w J p0 p1 p2) (hB0 : Bytes J.s0) (hB1 : Bytes J.s1) (hh : Half w) (hr : Kd.C k28 w A l.length l) (hc : l.length ≤ c) (hl : l.length ≤ 10000) (hps : (jload J.s0 J.s1).ps.length ≤ 10000) :
    Calls Tryd.prog 15 #[.agg (J.cells p0 p1 p2).toArray, .slice A l.length c, .int .i64 budget] w fun e w' => ∃ qo qs : Gh, e = .returned (.tuple #[.agg #[.int .i64 (mn (mx budget 0) 1048576), .int .i64 (jload J.s0 J.s1).mar, .int .i64 0, .slice qo.1 (agN (jload J.s0 J.s1).ps (mn (mx budget 0) 1048576) l l.length).out.length qo.2], .slice qs.1 (agN (jload J.s0 J.s1).ps (mn (mx budget 0) 1048576) l l.length).stops.length qs.2]) ∧ HeapOK w [.own 0 3 1 (.slice qs.1 (agN (jload J.s0 J.s1).ps (mn (mx budget 0) 1048576) l l.length).stops.length qs.2) (agN (jload J.s0 J.s1).ps (mn (mx budget 0) 1048576) l l.length).stops.length (nums .i64 (agN (jload J.s0 J.s1).ps (mn (mx budget 0) 1048576) l l.length).stops), .own 0 51 2 (.slice qo.1 (agN (jload J.s0 J.s1).ps (mn (mx budget 0) 1048576) l l.length).out.length qo.2) (agN (jload J.s0 J.s1).ps (mn (mx budget 0) 1048576) l l.length).out.length ((agN (jload J.s0 J.s1).ps (mn (mx budget 0) 1048576) l l.length).out.flatMap pc51), old w] w' := by
  refine enter (w0 := w) (hp := [old w]) (env := [(0, .agg #[.slice p0.1 J.s0.length p0.2, .slice p1.1 J.s1.length p1.2, .int .i64 J.last, .slice p2.1 J.was.length p2.2, .bool J.wrote]), (1, .slice A l.length c), (2, .int .i64 budget)]) Tryd.func15 rfl 84 rfl (by simp) rfl (HeapOK.start _) ?_
  refine wc_seq ?_
  refine wc_region ?_
  refine wl_box rfl rfl rfl (by decide) rfl rfl (fun b1 => ?_)
  refine wl_alloc rfl rfl rfl (by decide) Zr32 (fun b2 => ?_)
  refine wl_q (q_assign rfl rfl) rfl rfl (by decide) ?_
  refine wl_nil ?_
  refine fq_then ?_
  refine wc_seq ?_
  refine wc_region ?_
  refine wl_q (q_loadA rfl rfl Mn38 Sz38 rfl (readsAll (i := 1) rfl)) rfl rfl (by decide) ?_
  refine wl_call (ι := Gh) (fun i => .tuple #[.agg #[.int .i64 (jload J.s0 J.s1).bud, .int .i64 (jload J.s0 J.s1).mar, .int .i64 0, .slice i.1 (jload J.s0 J.s1).ps.length i.2], .int .u64 (jload J.s0 J.s1).seq, .bool (decide (0 < (jload J.s0 J.s1).seq))]) (fun i => .own 0 51 2 (.slice i.1 (jload J.s0 J.s1).ps.length i.2) (jload J.s0 J.s1).ps.length ((jload J.s0 J.s1).ps.flatMap pc51) :: _) (fun _ => True) rfl rfl rfl (by decide) En28 rfl (fun w1 hw1 => (Load_calls J p0 p1 p2 w1 (hJ.below (hw1.toBelow (by simp))) hB0 hB1 (hh.keep (hw1.toBelow (by simp)))).mono (fun e w' ⟨i, h1, h2⟩ => ⟨i, trivial, h1, hw1.lift1 h2⟩)) (fun pl _ => ?_)
  refine wl_q (q_move rfl rfl) rfl rfl (by decide) ?_
  refine wl_q (q_extract rfl rfl rfl) rfl rfl (by decide) ?_
  refine wl_q (q_extract rfl rfl rfl) rfl rfl (by decide) ?_
  refine wl_q (q_extract rfl rfl rfl) rfl rfl (by decide) ?_
  refine wl_alloc rfl rfl rfl (by decide) Zr32 (fun b3 => ?_)
  refine wl_store (i := 0) rfl rfl rfl rfl rfl rfl Sz32 rfl rfl (by simp) (by simp [Value.oneCell']) (by first | (simp only [List.take_succ_cons, List.take_zero, List.take_nil, List.drop_succ_cons, List.drop_zero, List.drop_nil, List.nil_append, List.cons_append, List.append_nil, List.length_cons, List.length_nil, Nat.reduceAdd, Nat.zero_add]; rfl) | rfl) (by first | (simp only [List.set_cons_zero, List.set_cons_succ]; rfl) | rfl) ?_
  refine wl_q (q_assign rfl rfl) rfl rfl (by decide) ?_
  refine wl_q (q_assign rfl rfl) rfl rfl (by decide) ?_
  refine wl_nil ?_
  refine fq_then ?_
  refine wc_seq ?_
  refine wc_any Fol (any_drawG (ι := Gh) 7 0 [(5, fun X => [Sx.Item.blk (X 5).2 _ 32]), (6, fun X => [Sx.Item.blk (X 5).2 _ 32])] [⟨[], [], []⟩, ⟨[], [], []⟩, ⟨[], [], []⟩, ⟨[], [], []⟩, ⟨[], [], []⟩, ⟨[], [], []⟩, ⟨[5], [], [5]⟩] (by kernel_rfl) (ChainG.yield [] [] (fun X => q_move rfl rfl) rfl rfl (fun _ => rfl) (fun _ _ => rfl) (fun X Y h0 h => ⟨by first | rfl | simp only [h0], by first | rfl | simp only [h0]⟩) (ChainG.yield [] [] (fun X => q_call rfl En37 rfl (fun w1 hw1 => mend_within.calls budget 0 1048576 _ w1 rfl)) rfl rfl (fun _ => rfl) (fun _ _ => rfl) (fun X Y h0 h => ⟨by first | rfl | simp only [h0], by first | rfl | simp only [h0]⟩) (ChainG.yield [] [] (fun X => q_fa (o1 := 1) rfl rfl Fo32_1 rfl) rfl rfl (fun _ => rfl) (fun _ _ => rfl) (fun X Y h0 h => ⟨by first | rfl | simp only [h0], by first | rfl | simp only [h0]⟩) (ChainG.yield [] [] (fun X => q_load rfl rfl Mn3 (reads1 (i := 0) rfl rfl)) rfl rfl (fun _ => rfl) (fun _ _ => rfl) (fun X Y h0 h => ⟨by first | rfl | simp only [h0], by first | rfl | simp only [h0]⟩) (ChainG.yield [] [] (fun X => q_build rfl rfl (built_of Zr32 Pl32 (by simp only [fillL, List.map_cons, List.map_nil, Value.cells, List.getElem?_cons_zero, List.getElem?_cons_succ, List.length_cons, List.length_nil, Nat.reduceAdd, Nat.reduceLeDiff, Nat.le_refl, and_self, and_true, true_and, if_true, Nat.zero_add, spl, List.take_succ_cons, List.take_zero, List.take_nil, List.drop_succ_cons, List.drop_zero, List.drop_nil, List.nil_append, List.cons_append, List.append_nil]; rfl))) rfl rfl (fun _ => rfl) (fun _ _ => rfl) (fun X Y h0 h => ⟨by first | rfl | simp only [h0], by first | rfl | simp only [h0]⟩) (ChainG.mk (fun b => .pointer (some ⟨b, 0, none⟩)) [] (fun X => om_alloc rfl Zr32) rfl rfl (fun _ => rfl) (fun _ _ => rfl) (fun X Y h0 h => ⟨by first | rfl | simp only [h0], by first | rfl | (show ([Sx.Item.blk (X 5).2 _ 32] : List Sx.Item) = [Sx.Item.blk (Y 5).2 _ 32]; simp only [h0])⟩) (ChainG.store [5] [5] (fun X => oe_storeAt (i := 0) rfl rfl rfl rfl Sz32 rfl rfl (by simp) (by simp [Value.oneCell']) rfl rfl) rfl rfl (fun _ => rfl) (fun _ _ => rfl) (fun X Y h0 h => ⟨by first | rfl | simp only [h0, h 5 (by decide)], by first | rfl | (show ([Sx.Item.blk (X 5).2 _ 32] : List Sx.Item) = [Sx.Item.blk (Y 5).2 _ 32]; simp only [h0, h 5 (by decide)])⟩) (ChainG.nil _ _)))))))) rfl rfl (fun X => [_, _, _, _, _, _]) (fun _ => rfl) (fun X => ?_))
  generalize (X 5).2 = bo
  dsimp only [List.take_succ_cons, List.take_zero, List.take_nil, List.drop_succ_cons, List.drop_zero, List.drop_nil, List.nil_append, List.cons_append, List.append_nil, List.length_cons, List.length_nil, Nat.reduceAdd, Nat.zero_add]
  refine wl_nil ?_
  refine fq_then ?_
  refine wc_seq ?_
  refine wc_region ?_
  refine wl_makeMap .i64 rfl rfl rfl (by decide) (fun bm => ?_)
  refine wl_q (q_assign rfl rfl) rfl rfl (by decide) ?_
  refine wl_nil ?_
  refine fq_then ?_
  refine wc_seq ?_
  refine wc_region ?_
  refine wl_q (q_makeFuncL rfl rfl rfl) rfl rfl (by decide) ?_
  refine wl_q (q_assign rfl rfl) rfl rfl (by decide) ?_
  refine wl_nil ?_
  refine fq_then ?_
  refine wc_seq ?_
  refine wc_region ?_
  refine wl_q (q_assign rfl rfl) rfl rfl (by decide) ?_
  refine wl_nil ?_
  refine fq_then ?_
  refine wc_seq ?_
  refine wc_seq ?_
  refine wc_region ?_
  refine wl_q (q_move rfl rfl) rfl rfl (by decide) ?_
  refine wl_q (q_len rfl rfl Tryd.underlying23) rfl rfl (by decide) ?_
  refine wl_q (q_move rfl rfl) rfl rfl (by decide) ?_
  refine wl_nil ?_
  refine fq_then ?_
  refine wc_block ?_
  refine wc_own (E := 51) (sz := 2) ?_
  refine wc_own (E := 3) (sz := 1) ?_
  refine wc_loop (ι := (Nat × List (Int × Value) × Gh × Gh)) (fun i => [(6, .pointer (some ⟨b2, 0, none⟩)), (11, .pointer (some ⟨bo, 0, none⟩)), (12, .map (some bm)), (13, .func (.func 38) #[] #[.pointer (some ⟨b3, 0, none⟩)]), (14, .slice i.2.2.2.1 (agN (jload J.s0 J.s1).ps (mn (mx budget 0) 1048576) l i.1).stops.length i.2.2.2.2), (31, .slice A l.length c), (32, .int .i64 (l.length : Nat)), (33, .int .i64 (i.1 : Nat))]) (fun i => [.own 0 3 1 (.slice i.2.2.2.1 (agN (jload J.s0 J.s1).ps (mn (mx budget 0) 1048576) l i.1).stops.length i.2.2.2.2) (agN (jload J.s0 J.s1).ps (mn (mx budget 0) 1048576) l i.1).stops.length (nums .i64 (agN (jload J.s0 J.s1).ps (mn (mx budget 0) 1048576) l i.1).stops), .own 0 51 2 (.slice i.2.2.1.1 (agN (jload J.s0 J.s1).ps (mn (mx budget 0) 1048576) l i.1).out.length i.2.2.1.2) (agN (jload J.s0 J.s1).ps (mn (mx budget 0) 1048576) l i.1).out.length ((agN (jload J.s0 J.s1).ps (mn (mx budget 0) 1048576) l i.1).out.flatMap pc51), .obj bm (mobj .i64 i.2.1), .blk bo [.int .i64 (mn (mx budget 0) 1048576), .int .i64 (jload J.s0 J.s1).mar, .int .i64 0, .slice i.2.2.1.1 (agN (jload J.s0 J.s1).ps (mn (mx budget 0) 1048576) l i.1).out.length i.2.2.1.2] 32, .blk b3 [.int .i64 (jload J.s0 J.s1).bud, .int .i64 (jload J.s0 J.s1).mar, .int .i64 0, .slice pl.1 (jload J.s0 J.s1).ps.length pl.2] 32, .own 0 51 2 (.slice pl.1 (jload J.s0 J.s1).ps.length pl.2) (jload J.s0 J.s1).ps.length ((jload J.s0 J.s1).ps.flatMap pc51), .blk b2 [.int .i64 0, .int .i64 0, .int .i64 0, .slice none 0 0] 32, old w]) (fun i => i.1 ≤ l.length ∧ ∀ x, mfind i.2.1 x = cntV ((l.take i.1).map S28.f0) x) (fun i => l.length - i.1) (0, [], (none, 0), (none, 0)) ⟨Nat.zero_le _, fun x => rfl⟩ ⟨List.forall_mem_cons.2 ⟨rfl, List.forall_mem_cons.2 ⟨rfl, List.forall_mem_cons.2 ⟨rfl, List.forall_mem_cons.2 ⟨rfl, List.forall_mem_cons.2 ⟨rfl, List.forall_mem_cons.2 ⟨rfl, List.forall_mem_cons.2 ⟨rfl, List.forall_mem_cons.2 ⟨rfl, fun _ h => (by cases h)⟩⟩⟩⟩⟩⟩⟩⟩, List.Sublist.cons_cons _ (List.Sublist.cons_cons _ (List.Sublist.cons_cons _ (List.Sublist.cons_cons _ (List.Sublist.cons_cons _ (List.Sublist.cons_cons _ (List.Sublist.cons_cons _ (List.Sublist.cons _ (List.Sublist.cons_cons _ (List.Sublist.refl [])))))))))⟩ ?_
  rintro ⟨j, ms, qo, qs⟩ ⟨hj, hms⟩
  simp only at hj hms
  dsimp only
  refine wc_seq ?_
  refine wc_region ?_
  refine wl_q (q_bin rfl rfl rfl rfl) rfl rfl (by decide) ?_
  refine wl_nil ?_
  refine fq_then ?_
  refine wc_seq ?_
  refine wc_cond rfl (fun h34 => ?_) (fun h34 => ?_)
  · skip
    have q34 := h34
    try simp only [decide_eq_true_eq, decide_eq_false_iff_not, beq_iff_eq, beq_eq_false_iff_ne, bne_iff_ne, ne_eq, bne_eq_false_iff_eq, Int.not_lt, Int.not_le] at q34
    obtain ⟨p, hp⟩ : ∃ p, l[j]? = some p := ⟨_, List.getElem?_eq_getElem (by omega)⟩
    obtain ⟨ad, rfl, hrd⟩ := C28_at hr hp
    have wj : IntKind.i64.wrap ((j : Int) + 1) = ((j + 1 : Nat) : Int) := wrap_nat (by omega)
    have hcn : ((l.take j).map S28.f0).count p.f0 ≤ j := Nat.le_trans List.count_le_length (by rw [List.length_map, List.length_take]; omega)
    have wc : IntKind.i64.wrap ((((l.take j).map S28.f0).count p.f0 : Nat) + 1) = ((((l.take j).map S28.f0).count p.f0 + 1 : Nat) : Int) := wrap_nat (by omega)
    have hsm : IntKind.i64.wrap (sumP (agN (jload J.s0 J.s1).ps (mn (mx budget 0) 1048576) l j).out + pkF (jload J.s0 J.s1).ps p) = sumP (agN (jload J.s0 J.s1).ps (mn (mx budget 0) 1048576) l j).out + pkF (jload J.s0 J.s1).ps p := by (have h1 := sumP_bound (agN (jload J.s0 J.s1).ps (mn (mx budget 0) 1048576) l j).out (agN_range _ _ _ j).1; have h2 := pkF_range (jload J.s0 J.s1).ps p; have h3 := (agN_range (jload J.s0 J.s1).ps (mn (mx budget 0) 1048576) l j).2.1; exact wrap_id (by omega))
    refine wc_skip ?_
    refine fq_then ?_
    refine wc_seq ?_
    refine wc_block ?_
    refine wc_seq ?_
    refine wc_region ?_
    refine wl_q (q_index rfl rfl rfl Tryd.underlying23 Sz28 (by omega) (by omega)) rfl rfl (by decide) ?_
    refine wl_q (q_loadA (cs := [.int .i64 p.f0, .int .i64 p.f1]) rfl rfl Mn28 Sz28 rfl (reads_old (by simp) (fun i u hu => hrd i u hu))) rfl rfl (by decide) ?_
    refine wl_alloc rfl rfl rfl (by decide) Zr28 (fun b4 => ?_)
    refine wl_store (i := 0) rfl rfl rfl rfl rfl rfl Sz28 rfl rfl (by simp) (by simp [Value.oneCell']) (by first | (simp only [List.take_succ_cons, List.take_zero, List.take_nil, List.drop_succ_cons, List.drop_zero, List.drop_nil, List.nil_append, List.cons_append, List.append_nil, List.length_cons, List.length_nil, Nat.reduceAdd, Nat.zero_add]; rfl) | rfl) (by first | (simp only [List.set_cons_zero, List.set_cons_succ]; rfl) | rfl) ?_
    refine wl_nil ?_
    refine fq_then ?_
    refine wc_seq ?_
    refine wc_seq ?_
    refine wc_region ?_
    refine wl_q (q_move rfl rfl) rfl rfl (by decide) ?_
    refine wl_q (q_fa (o1 := 0) rfl rfl Fo28_0 rfl) rfl rfl (by decide) ?_
    refine wl_q (q_load rfl rfl Mn3 (reads1 (i := 0) rfl rfl)) rfl rfl (by decide) ?_
    refine wl_q (q_lookup (v := .int .i64 (((l.take j).map S28.f0).count p.f0 : Nat)) (z := .int .i64 0) rfl rfl rfl Tryd.underlying87 Tryd.underlying3 (show (Tryd.prog.info? 3).bind (·.zero) = some (.int .i64 0) from by kernel_rfl) (i := 3) rfl (by rw [hms]; exact cnt_get _ _)) rfl rfl (by decide) ?_
    refine wl_q (OpQ.to (q_bin rfl rfl rfl rfl) (congrArg (Value.int .i64) wc)) rfl rfl (by decide) ?_
    refine wl_mapUpdate (i := 3) rfl rfl rfl rfl rfl rfl Tryd.underlying87 Tryd.underlying3 rfl rfl ?_
    refine wl_nil ?_
    refine fq_then ?_
    refine wc_seq ?_
    refine wc_region ?_
    refine wl_q (q_move rfl rfl) rfl rfl (by decide) ?_
    refine wl_q (q_fa (o1 := 0) rfl rfl Fo28_0 rfl) rfl rfl (by decide) ?_
    refine wl_q (q_load rfl rfl Mn3 (reads1 (i := 0) rfl rfl)) rfl rfl (by decide) ?_
    refine wl_q (q_lookup (v := .int .i64 ((((l.take j).map S28.f0).count p.f0 + 1) : Nat)) (z := .int .i64 0) rfl rfl rfl Tryd.underlying87 Tryd.underlying3 (show (Tryd.prog.info? 3).bind (·.zero) = some (.int .i64 0) from by kernel_rfl) (i := 3) rfl (by rw [mfind_mput, if_pos rfl]; rfl)) rfl rfl (by decide) ?_
    refine wl_q (q_bin rfl rfl rfl rfl) rfl rfl (by decide) ?_
    refine wl_q (q_move rfl rfl) rfl rfl (by decide) ?_
    refine wl_split (t := 47) rfl (fun h47 => ?_) (fun h47 => ?_)
    · skip
      have q47 := h47
      try simp only [decide_eq_true_eq, decide_eq_false_iff_not, beq_iff_eq, beq_eq_false_iff_ne, bne_iff_ne, ne_eq, bne_eq_false_iff_eq, Int.not_lt, Int.not_le] at q47
      refine wl_skip (b := true) rfl rfl rfl rfl (by decide) ?_
      refine wl_skip (b := true) rfl rfl rfl rfl (by decide) ?_
      refine wl_skip (b := true) rfl rfl rfl rfl (by decide) ?_
      refine wl_q (q_pick rfl rfl rfl) rfl rfl (by decide) ?_
      refine wl_q (q_move rfl rfl) rfl rfl (by decide) ?_
      refine wl_skip (b := true) rfl rfl rfl rfl (by decide) ?_
      refine wl_skip (b := true) rfl rfl rfl rfl (by decide) ?_
      refine wl_skip (b := true) rfl rfl rfl rfl (by decide) ?_
      refine wl_q (q_pick rfl rfl rfl) rfl rfl (by decide) ?_
      refine wl_nil ?_
      refine fq_then ?_
      refine wc_true rfl ?_
      refine wc_exit ?_
      refine fq_then_exit ?_
      refine fq_block_hit ?_
      refine fq_then ?_
      refine wc_region ?_
      refine wl_q (q_bin rfl rfl rfl rfl) rfl rfl (by decide) ?_
      refine wl_q (q_move rfl rfl) rfl rfl (by decide) ?_
      refine wl_nil ?_
      have hag : (agN (jload J.s0 J.s1).ps (mn (mx budget 0) 1048576) l (j + 1)) = agOne (jload J.s0 J.s1).ps (mn (mx budget 0) 1048576) ((l.take j).map S28.f0) (agN (jload J.s0 J.s1).ps (mn (mx budget 0) 1048576) l j) p := by (show (match l[j]? with | some m => _ | none => _) = _; rw [hp])
      have hag2 : (agN (jload J.s0 J.s1).ps (mn (mx budget 0) 1048576) l (j + 1)) = (agN (jload J.s0 J.s1).ps (mn (mx budget 0) 1048576) l j) := by (rw [hag]; unfold agOne; exact if_pos (by rw [← count_mem]; simp only [decide_eq_true_eq, decide_eq_false_iff_not] at *; omega))
      rw [← hag2]
      refine fq_next (j + 1, mput ms p.f0 (.int .i64 ((((l.take j).map S28.f0).count p.f0 + 1 : Nat) : Int)), qo, qs) ⟨show j + 1 ≤ l.length by omega, fun x => by (show mfind (mput ms p.f0 _) x = _; rw [take_snoc hp]; exact cnt_put hms p.f0 x)⟩ (show l.length - (j + 1) < l.length - j by omega) ⟨List.forall_mem_cons.2 ⟨rfl, List.forall_mem_cons.2 ⟨rfl, List.forall_mem_cons.2 ⟨rfl, List.forall_mem_cons.2 ⟨rfl, List.forall_mem_cons.2 ⟨rfl, List.forall_mem_cons.2 ⟨rfl, List.forall_mem_cons.2 ⟨rfl, List.forall_mem_cons.2 ⟨(show some (Value.int .i64 (IntKind.i64.wrap ((j : Int) + 1))) = some (Value.int .i64 ((j + 1 : Nat) : Int)) from by rw [wj]), fun _ h => (by cases h)⟩⟩⟩⟩⟩⟩⟩⟩, List.Sublist.cons _ (List.Sublist.cons_cons _ (List.Sublist.cons_cons _ (List.Sublist.cons_cons _ (List.Sublist.cons_cons _ (List.Sublist.cons_cons _ (List.Sublist.cons_cons _ (List.Sublist.cons_cons _ (List.Sublist.cons_cons _ (List.Sublist.refl [])))))))))⟩
    · skip
      have q47 := h47
      try simp only [decide_eq_true_eq, decide_eq_false_iff_not, beq_iff_eq, beq_eq_false_iff_ne, bne_iff_ne, ne_eq, bne_eq_false_iff_eq, Int.not_lt, Int.not_le] at q47
      refine wl_want (b := false) (q_fa (o1 := 0) rfl rfl Fo28_0 rfl) rfl rfl rfl rfl (by decide) ?_
      refine wl_want (b := false) (q_load rfl rfl Mn3 (reads1 (i := 0) rfl rfl)) rfl rfl rfl rfl (by decide) ?_
      refine wl_want (b := false) (q_bin rfl rfl rfl rfl) rfl rfl rfl rfl (by decide) ?_
      refine wl_q (q_pick rfl rfl rfl) rfl rfl (by decide) ?_
      refine wl_q (q_move rfl rfl) rfl rfl (by decide) ?_
      refine wl_split (t := 52) rfl (fun h52 => ?_) (fun h52 => ?_)
      · skip
        have q52 := h52
        try simp only [decide_eq_true_eq, decide_eq_false_iff_not, beq_iff_eq, beq_eq_false_iff_ne, bne_iff_ne, ne_eq, bne_eq_false_iff_eq, Int.not_lt, Int.not_le] at q52
        refine wl_skip (b := true) rfl rfl rfl rfl (by decide) ?_
        refine wl_skip (b := true) rfl rfl rfl rfl (by decide) ?_
        refine wl_skip (b := true) rfl rfl rfl rfl (by decide) ?_
        refine wl_q (q_pick rfl rfl rfl) rfl rfl (by decide) ?_
        refine wl_nil ?_
        refine fq_then ?_
        refine wc_true rfl ?_
        refine wc_exit ?_
        refine fq_then_exit ?_
        refine fq_block_hit ?_
        refine fq_then ?_
        refine wc_region ?_
        refine wl_q (q_bin rfl rfl rfl rfl) rfl rfl (by decide) ?_
        refine wl_q (q_move rfl rfl) rfl rfl (by decide) ?_
        refine wl_nil ?_
        have hag : (agN (jload J.s0 J.s1).ps (mn (mx budget 0) 1048576) l (j + 1)) = agOne (jload J.s0 J.s1).ps (mn (mx budget 0) 1048576) ((l.take j).map S28.f0) (agN (jload J.s0 J.s1).ps (mn (mx budget 0) 1048576) l j) p := by (show (match l[j]? with | some m => _ | none => _) = _; rw [hp])
        have hag2 : (agN (jload J.s0 J.s1).ps (mn (mx budget 0) 1048576) l (j + 1)) = (agN (jload J.s0 J.s1).ps (mn (mx budget 0) 1048576) l j) := by (rw [hag]; unfold agOne; exact if_pos (by rw [← count_mem]; simp only [decide_eq_true_eq, decide_eq_false_iff_not] at *; omega))
        rw [← hag2]
        refine fq_next (j + 1, mput ms p.f0 (.int .i64 ((((l.take j).map S28.f0).count p.f0 + 1 : Nat) : Int)), qo, qs) ⟨show j + 1 ≤ l.length by omega, fun x => by (show mfind (mput ms p.f0 _) x = _; rw [take_snoc hp]; exact cnt_put hms p.f0 x)⟩ (show l.length - (j + 1) < l.length - j by omega) ⟨List.forall_mem_cons.2 ⟨rfl, List.forall_mem_cons.2 ⟨rfl, List.forall_mem_cons.2 ⟨rfl, List.forall_mem_cons.2 ⟨rfl, List.forall_mem_cons.2 ⟨rfl, List.forall_mem_cons.2 ⟨rfl, List.forall_mem_cons.2 ⟨rfl, List.forall_mem_cons.2 ⟨(show some (Value.int .i64 (IntKind.i64.wrap ((j : Int) + 1))) = some (Value.int .i64 ((j + 1 : Nat) : Int)) from by rw [wj]), fun _ h => (by cases h)⟩⟩⟩⟩⟩⟩⟩⟩, List.Sublist.cons _ (List.Sublist.cons_cons _ (List.Sublist.cons_cons _ (List.Sublist.cons_cons _ (List.Sublist.cons_cons _ (List.Sublist.cons_cons _ (List.Sublist.cons_cons _ (List.Sublist.cons_cons _ (List.Sublist.cons_cons _ (List.Sublist.refl [])))))))))⟩
      · skip
        have q52 := h52
        try simp only [decide_eq_true_eq, decide_eq_false_iff_not, beq_iff_eq, beq_eq_false_iff_ne, bne_iff_ne, ne_eq, bne_eq_false_iff_eq, Int.not_lt, Int.not_le] at q52
        refine wl_want (b := false) (q_fa (o1 := 0) rfl rfl Fo28_0 rfl) rfl rfl rfl rfl (by decide) ?_
        refine wl_want (b := false) (q_load rfl rfl Mn3 (reads1 (i := 0) rfl rfl)) rfl rfl rfl rfl (by decide) ?_
        refine wl_want (b := false) (q_bin rfl rfl rfl rfl) rfl rfl rfl rfl (by decide) ?_
        refine wl_q (q_pick rfl rfl rfl) rfl rfl (by decide) ?_
        refine wl_nil ?_
        refine fq_then ?_
        refine wc_cond rfl (fun h56 => ?_) (fun h56 => ?_)
        · skip
          have q56 := h56
          try simp only [decide_eq_true_eq, decide_eq_false_iff_not, beq_iff_eq, beq_eq_false_iff_ne, bne_iff_ne, ne_eq, bne_eq_false_iff_eq, Int.not_lt, Int.not_le] at q56
          refine wc_exit ?_
          refine fq_then_exit ?_
          refine fq_block_hit ?_
          refine fq_then ?_
          refine wc_region ?_
          refine wl_q (q_bin rfl rfl rfl rfl) rfl rfl (by decide) ?_
          refine wl_q (q_move rfl rfl) rfl rfl (by decide) ?_
          refine wl_nil ?_
          have hag : (agN (jload J.s0 J.s1).ps (mn (mx budget 0) 1048576) l (j + 1)) = agOne (jload J.s0 J.s1).ps (mn (mx budget 0) 1048576) ((l.take j).map S28.f0) (agN (jload J.s0 J.s1).ps (mn (mx budget 0) 1048576) l j) p := by (show (match l[j]? with | some m => _ | none => _) = _; rw [hp])
          have hag2 : (agN (jload J.s0 J.s1).ps (mn (mx budget 0) 1048576) l (j + 1)) = (agN (jload J.s0 J.s1).ps (mn (mx budget 0) 1048576) l j) := by (rw [hag]; unfold agOne; exact if_pos (by rw [← count_mem]; simp only [decide_eq_true_eq, decide_eq_false_iff_not] at *; omega))
          rw [← hag2]
          refine fq_next (j + 1, mput ms p.f0 (.int .i64 ((((l.take j).map S28.f0).count p.f0 + 1 : Nat) : Int)), qo, qs) ⟨show j + 1 ≤ l.length by omega, fun x => by (show mfind (mput ms p.f0 _) x = _; rw [take_snoc hp]; exact cnt_put hms p.f0 x)⟩ (show l.length - (j + 1) < l.length - j by omega) ⟨List.forall_mem_cons.2 ⟨rfl, List.forall_mem_cons.2 ⟨rfl, List.forall_mem_cons.2 ⟨rfl, List.forall_mem_cons.2 ⟨rfl, List.forall_mem_cons.2 ⟨rfl, List.forall_mem_cons.2 ⟨rfl, List.forall_mem_cons.2 ⟨rfl, List.forall_mem_cons.2 ⟨(show some (Value.int .i64 (IntKind.i64.wrap ((j : Int) + 1))) = some (Value.int .i64 ((j + 1 : Nat) : Int)) from by rw [wj]), fun _ h => (by cases h)⟩⟩⟩⟩⟩⟩⟩⟩, List.Sublist.cons _ (List.Sublist.cons_cons _ (List.Sublist.cons_cons _ (List.Sublist.cons_cons _ (List.Sublist.cons_cons _ (List.Sublist.cons_cons _ (List.Sublist.cons_cons _ (List.Sublist.cons_cons _ (List.Sublist.cons_cons _ (List.Sublist.refl [])))))))))⟩
        · skip
          have q56 := h56
          try simp only [decide_eq_true_eq, decide_eq_false_iff_not, beq_iff_eq, beq_eq_false_iff_ne, bne_iff_ne, ne_eq, bne_eq_false_iff_eq, Int.not_lt, Int.not_le] at q56
          refine wc_skip ?_
          refine fq_then ?_
          refine wc_seq ?_
          refine wc_region ?_
          refine wl_q (q_move rfl rfl) rfl rfl (by decide) ?_
          refine wl_q (q_loadA rfl rfl Mn28 Sz28 rfl (readsAll (i := 0) rfl)) rfl rfl (by decide) ?_
          refine wl_q (q_clo rfl rfl En38 rfl (fun w1 hw1 => pk_calls p b3 (jload J.s0 J.s1).bud (jload J.s0 J.s1).mar 0 pl.1 pl.2 (jload J.s0 J.s1).ps w1 (hw1.get (i := 5) rfl) (C51_of_own (hw1.get (i := 6) rfl) (by omega)) (own_cap (hw1.get (i := 6) rfl)) (by omega))) rfl rfl (by decide) ?_
          refine wl_q (q_assign rfl rfl) rfl rfl (by decide) ?_
          refine wl_nil ?_
          refine fq_then ?_
          refine wc_seq ?_
          refine wc_seq ?_
          refine wc_draw 7 Fol (by kernel_rfl) (Chain.yield (q_loadA rfl rfl Mn32 Sz32 rfl (readsAll (i := 4) rfl)) rfl rfl (Chain.yield (q_call rfl En20 rfl (fun w1 hw1 => ledger_Ledger_Sum.calls (2 * (agN (jload J.s0 J.s1).ps (mn (mx budget 0) 1048576) l j).out.length + 2) (mn (mx budget 0) 1048576) (jload J.s0 J.s1).mar 0 qo.1 qo.2 (agN (jload J.s0 J.s1).ps (mn (mx budget 0) 1048576) l j).out (sumP (agN (jload J.s0 J.s1).ps (mn (mx budget 0) 1048576) l j).out) w1 (C51_of_own (hw1.get (i := 2) rfl) (by have := (agN_range (jload J.s0 J.s1).ps (mn (mx budget 0) 1048576) l j).2.1; omega)) (own_cap (hw1.get (i := 2) rfl)) (sum_ev _ _ _ _ (agN_range _ _ _ j).1 (by have := (agN_range (jload J.s0 J.s1).ps (mn (mx budget 0) 1048576) l j).2.1; omega) _ (Nat.le_refl _)))) rfl rfl (Chain.yield (q_move rfl rfl) rfl rfl (Chain.yield (OpQ.to (q_bin rfl rfl rfl rfl) (congrArg (Value.int .i64) hsm)) rfl rfl (Chain.yield (q_fa (o1 := 0) rfl rfl Fo32_0 rfl) rfl rfl (Chain.yield (q_load rfl rfl Mn3 (reads1 (i := 4) rfl rfl)) rfl rfl (Chain.yield (q_bin rfl rfl rfl rfl) rfl rfl (Chain.nil _)))))))) ?_
          refine wl_nil ?_
          refine fq_then ?_
          refine wc_cond rfl (fun h66 => ?_) (fun h66 => ?_)
          · skip
            have q66 := h66
            try simp only [decide_eq_true_eq, decide_eq_false_iff_not, beq_iff_eq, beq_eq_false_iff_ne, bne_iff_ne, ne_eq, bne_eq_false_iff_eq, Int.not_lt, Int.not_le] at q66
            refine wc_seq ?_
            refine wc_region ?_
            refine wl_q (q_move rfl rfl) rfl rfl (by decide) ?_
            refine wl_q (q_fa (o1 := 0) rfl rfl Fo28_0 rfl) rfl rfl (by decide) ?_
            refine wl_q (q_load rfl rfl Mn3 (reads1 (i := 0) rfl rfl)) rfl rfl (by decide) ?_
            refine wl_buildSlice rfl rfl rfl (by decide) rfl Tryd.underlying33 (built_one Sz3 (by decide) Zs3 (by decide) rfl rfl) (fun b5 => ?_)
            refine wl_append (i := 2) (m := 1) (news := [.int .i64 p.f0]) rfl rfl rfl (by decide) Tryd.underlying33 Ap3 (by decide) rfl rfl rfl (readsAll (i := 0) rfl) rfl (by simp [Value.oneCell']) (by unfold maxLen; have := (agN_range (jload J.s0 J.s1).ps (mn (mx budget 0) 1048576) l j).2.2; omega) (by have := (agN_range (jload J.s0 J.s1).ps (mn (mx budget 0) 1048576) l j).2.2; omega) (fun v71 _ => ?_)
            refine wl_ownForm (i := 2) rfl (fun A71 c71 e71 f71 => ?_)
            subst e71
            refine wl_q (q_assign rfl rfl) rfl rfl (by decide) ?_
            refine wl_nil ?_
            refine fq_then ?_
            refine wc_exit ?_
            refine fq_then_exit ?_
            refine fq_block_hit ?_
            refine fq_then ?_
            refine wc_region ?_
            refine wl_q (q_bin rfl rfl rfl rfl) rfl rfl (by decide) ?_
            refine wl_q (q_move rfl rfl) rfl rfl (by decide) ?_
            refine wl_nil ?_
            have hag : (agN (jload J.s0 J.s1).ps (mn (mx budget 0) 1048576) l (j + 1)) = agOne (jload J.s0 J.s1).ps (mn (mx budget 0) 1048576) ((l.take j).map S28.f0) (agN (jload J.s0 J.s1).ps (mn (mx budget 0) 1048576) l j) p := by (show (match l[j]? with | some m => _ | none => _) = _; rw [hp])
            have hsk : ¬ (p.f0 ∈ (l.take j).map S28.f0 ∨ p.f0 < 0 ∨ 64 ≤ p.f0) := fun hx => by (rw [← count_mem] at hx; simp only [decide_eq_true_eq, decide_eq_false_iff_not] at h47 h52 h56; omega)
            have hag2 : (agN (jload J.s0 J.s1).ps (mn (mx budget 0) 1048576) l (j + 1)) = ⟨(agN (jload J.s0 J.s1).ps (mn (mx budget 0) 1048576) l j).out, (agN (jload J.s0 J.s1).ps (mn (mx budget 0) 1048576) l j).stops ++ [p.f0]⟩ := by (rw [hag]; unfold agOne; rw [if_neg hsk]; exact if_pos (by simpa using h66))
            have e0 : (agN (jload J.s0 J.s1).ps (mn (mx budget 0) 1048576) l j).out = (agN (jload J.s0 J.s1).ps (mn (mx budget 0) 1048576) l (j + 1)).out := by rw [hag2]
            have e1 : (agN (jload J.s0 J.s1).ps (mn (mx budget 0) 1048576) l j).stops.length + 1 = (agN (jload J.s0 J.s1).ps (mn (mx budget 0) 1048576) l (j + 1)).stops.length := by (rw [hag2]; simp)
            have e2 : nums .i64 (agN (jload J.s0 J.s1).ps (mn (mx budget 0) 1048576) l j).stops ++ [Value.int .i64 p.f0] = nums .i64 (agN (jload J.s0 J.s1).ps (mn (mx budget 0) 1048576) l (j + 1)).stops := by (rw [hag2]; unfold nums; rw [List.map_append]; rfl)
            rw [e1, e2, e0]
            refine fq_next (j + 1, mput ms p.f0 (.int .i64 ((((l.take j).map S28.f0).count p.f0 + 1 : Nat) : Int)), qo, (A71, c71)) ⟨show j + 1 ≤ l.length by omega, fun x => by (show mfind (mput ms p.f0 _) x = _; rw [take_snoc hp]; exact cnt_put hms p.f0 x)⟩ (show l.length - (j + 1) < l.length - j by omega) ⟨List.forall_mem_cons.2 ⟨rfl, List.forall_mem_cons.2 ⟨rfl, List.forall_mem_cons.2 ⟨rfl, List.forall_mem_cons.2 ⟨rfl, List.forall_mem_cons.2 ⟨rfl, List.forall_mem_cons.2 ⟨rfl, List.forall_mem_cons.2 ⟨rfl, List.forall_mem_cons.2 ⟨(show some (Value.int .i64 (IntKind.i64.wrap ((j : Int) + 1))) = some (Value.int .i64 ((j + 1 : Nat) : Int)) from by rw [wj]), fun _ h => (by cases h)⟩⟩⟩⟩⟩⟩⟩⟩, List.Sublist.cons _ (List.Sublist.cons _ (List.Sublist.cons_cons _ (List.Sublist.cons_cons _ (List.Sublist.cons_cons _ (List.Sublist.cons_cons _ (List.Sublist.cons_cons _ (List.Sublist.cons_cons _ (List.Sublist.cons_cons _ (List.Sublist.cons_cons _ (List.Sublist.refl []))))))))))⟩
          · skip
            have q66 := h66
            try simp only [decide_eq_true_eq, decide_eq_false_iff_not, beq_iff_eq, beq_eq_false_iff_ne, bne_iff_ne, ne_eq, bne_eq_false_iff_eq, Int.not_lt, Int.not_le] at q66
            refine wc_skip ?_
            refine fq_then ?_
            refine wc_region ?_
            refine wl_q (q_fa (o1 := 3) rfl rfl Fo32_3 rfl) rfl rfl (by decide) ?_
            refine wl_q (q_load rfl rfl Mn30 (reads1 (i := 4) rfl rfl)) rfl rfl (by decide) ?_
            refine wl_q (q_fa (o1 := 0) rfl rfl Fo28_0 rfl) rfl rfl (by decide) ?_
            refine wl_q (q_load rfl rfl Mn3 (reads1 (i := 0) rfl rfl)) rfl rfl (by decide) ?_
            refine wl_q (q_move rfl rfl) rfl rfl (by decide) ?_
            refine wl_q (q_build rfl rfl (built_of Zr51 Pl51 (by simp only [fillL, List.map_cons, List.map_nil, Value.cells, List.getElem?_cons_zero, List.getElem?_cons_succ, List.length_cons, List.length_nil, Nat.reduceAdd, Nat.reduceLeDiff, Nat.le_refl, and_self, and_true, true_and, if_true, Nat.zero_add, spl, List.take_succ_cons, List.take_zero, List.take_nil, List.drop_succ_cons, List.drop_zero, List.drop_nil, List.nil_append, List.cons_append, List.append_nil]; rfl))) rfl rfl (by decide) ?_
            refine wl_buildSlice rfl rfl rfl (by decide) rfl Tryd.underlying30 (built_one Sz51 (by decide) Zs51 (by decide) rfl rfl) (fun b6 => ?_)
            refine wl_append (i := 3) (m := 1) (news := [.int .i64 p.f0, .int .i64 (pkF (jload J.s0 J.s1).ps p)]) rfl rfl rfl (by decide) Tryd.underlying30 Ap51 (by decide) rfl rfl rfl (readsAll (i := 0) rfl) rfl (by simp [Value.oneCell']) (by unfold maxLen; have := (agN_range (jload J.s0 J.s1).ps (mn (mx budget 0) 1048576) l j).2.1; omega) (by have := (agN_range (jload J.s0 J.s1).ps (mn (mx budget 0) 1048576) l j).2.1; omega) (fun v79 _ => ?_)
            refine wl_ownForm (i := 3) rfl (fun A79 c79 e79 f79 => ?_)
            subst e79
            refine wl_q (q_fa (o1 := 3) rfl rfl Fo32_3 rfl) rfl rfl (by decide) ?_
            refine wl_store (i := 5) rfl rfl rfl rfl rfl rfl Sz30 rfl rfl (by simp) (by simp [Value.oneCell']) (by first | (simp only [List.take_succ_cons, List.take_zero, List.take_nil, List.drop_succ_cons, List.drop_zero, List.drop_nil, List.nil_append, List.cons_append, List.append_nil, List.length_cons, List.length_nil, Nat.reduceAdd, Nat.zero_add]; rfl) | rfl) (by first | (simp only [List.set_cons_zero, List.set_cons_succ]; rfl) | rfl) ?_
            refine wl_nil ?_
            refine fq_block ?_
            refine fq_then ?_
            refine wc_region ?_
            refine wl_q (q_bin rfl rfl rfl rfl) rfl rfl (by decide) ?_
            refine wl_q (q_move rfl rfl) rfl rfl (by decide) ?_
            refine wl_nil ?_
            have hag : (agN (jload J.s0 J.s1).ps (mn (mx budget 0) 1048576) l (j + 1)) = agOne (jload J.s0 J.s1).ps (mn (mx budget 0) 1048576) ((l.take j).map S28.f0) (agN (jload J.s0 J.s1).ps (mn (mx budget 0) 1048576) l j) p := by (show (match l[j]? with | some m => _ | none => _) = _; rw [hp])
            have hsk : ¬ (p.f0 ∈ (l.take j).map S28.f0 ∨ p.f0 < 0 ∨ 64 ≤ p.f0) := fun hx => by (rw [← count_mem] at hx; simp only [decide_eq_true_eq, decide_eq_false_iff_not] at h47 h52 h56; omega)
            have hag2 : (agN (jload J.s0 J.s1).ps (mn (mx budget 0) 1048576) l (j + 1)) = ⟨(agN (jload J.s0 J.s1).ps (mn (mx budget 0) 1048576) l j).out ++ [⟨p.f0, pkF (jload J.s0 J.s1).ps p⟩], (agN (jload J.s0 J.s1).ps (mn (mx budget 0) 1048576) l j).stops⟩ := by (rw [hag]; unfold agOne; rw [if_neg hsk]; exact if_neg (by simpa using h66))
            have e0 : (agN (jload J.s0 J.s1).ps (mn (mx budget 0) 1048576) l j).stops = (agN (jload J.s0 J.s1).ps (mn (mx budget 0) 1048576) l (j + 1)).stops := by rw [hag2]
            have e1 : (agN (jload J.s0 J.s1).ps (mn (mx budget 0) 1048576) l j).out.length + 1 = (agN (jload J.s0 J.s1).ps (mn (mx budget 0) 1048576) l (j + 1)).out.length := by (rw [hag2]; simp)
            have e2 : (agN (jload J.s0 J.s1).ps (mn (mx budget 0) 1048576) l j).out.flatMap pc51 ++ [Value.int .i64 p.f0, Value.int .i64 (pkF (jload J.s0 J.s1).ps p)] = (agN (jload J.s0 J.s1).ps (mn (mx budget 0) 1048576) l (j + 1)).out.flatMap pc51 := by (rw [hag2, List.flatMap_append]; rfl)
            rw [e1, e2, e0]
            refine fq_next (j + 1, mput ms p.f0 (.int .i64 ((((l.take j).map S28.f0).count p.f0 + 1 : Nat) : Int)), (A79, c79), qs) ⟨show j + 1 ≤ l.length by omega, fun x => by (show mfind (mput ms p.f0 _) x = _; rw [take_snoc hp]; exact cnt_put hms p.f0 x)⟩ (show l.length - (j + 1) < l.length - j by omega) ⟨List.forall_mem_cons.2 ⟨rfl, List.forall_mem_cons.2 ⟨rfl, List.forall_mem_cons.2 ⟨rfl, List.forall_mem_cons.2 ⟨rfl, List.forall_mem_cons.2 ⟨rfl, List.forall_mem_cons.2 ⟨rfl, List.forall_mem_cons.2 ⟨rfl, List.forall_mem_cons.2 ⟨(show some (Value.int .i64 (IntKind.i64.wrap ((j : Int) + 1))) = some (Value.int .i64 ((j + 1 : Nat) : Int)) from by rw [wj]), fun _ h => (by cases h)⟩⟩⟩⟩⟩⟩⟩⟩, List.Sublist.cons _ (List.Sublist.cons _ (List.Sublist.cons_cons _ (List.Sublist.cons_cons _ (List.Sublist.cons_cons _ (List.Sublist.cons_cons _ (List.Sublist.cons_cons _ (List.Sublist.cons_cons _ (List.Sublist.cons_cons _ (List.Sublist.cons_cons _ (List.Sublist.refl []))))))))))⟩
  · skip
    have q34 := h34
    try simp only [decide_eq_true_eq, decide_eq_false_iff_not, beq_iff_eq, beq_eq_false_iff_ne, bne_iff_ne, ne_eq, bne_eq_false_iff_eq, Int.not_lt, Int.not_le] at q34
    obtain rfl : j = l.length := by omega
    refine wc_exit ?_
    refine fq_then_exit ?_
    refine fq_then_exit ?_
    refine fq_block_hit ?_
    refine fq_then ?_
    refine wc_seq ?_
    refine wc_region ?_
    refine wl_q (q_loadA rfl rfl Mn32 Sz32 rfl (readsAll (i := 3) rfl)) rfl rfl (by decide) ?_
    refine wl_q (q_move rfl rfl) rfl rfl (by decide) ?_
    refine wl_store (i := 6) rfl rfl rfl rfl rfl rfl Sz32 rfl rfl (by simp) (by simp [Value.oneCell']) (by first | (simp only [List.take_succ_cons, List.take_zero, List.take_nil, List.drop_succ_cons, List.drop_zero, List.drop_nil, List.nil_append, List.cons_append, List.append_nil, List.length_cons, List.length_nil, Nat.reduceAdd, Nat.zero_add]; rfl) | rfl) (by first | (simp only [List.set_cons_zero, List.set_cons_succ]; rfl) | rfl) ?_
    refine wl_q (q_assign rfl rfl) rfl rfl (by decide) ?_
    refine wl_nil ?_
    refine fq_then ?_
    refine wc_ret ?_
    refine fq_cell_tmp (i := 6) (.inl rfl) rfl rfl rfl rfl Mn32 Sz32 rfl (fun w1 H => ?_)
    exact ⟨qo, qs, rfl, H.pick [0, 1, 7] (by decide) rfl⟩
end Go.Proofs.YtbcijmpkmmcdeaaDoor.SF
end
section
namespace Go.Proofs.YtbcijmpkmmcdeaaDoor.SF
open Go.RowKit Go.Sx Go.Proofs.YtbcijmpkmmcdeaaDoor.PAll Go.Proofs.YtbcijmpkmmcdeaaDoorW.PrintWords Go.Proofs.YtbcijmpkmmcdeaaDoorW.PrintLast Go.Proofs.YtbcijmpkmmcdeaaDoorW.PrintMore
open Go.Proofs.YtbcijmpkmmcdeaaDoor.Pure (le puts le_length rowB sealed sealed_length puts_cons w64 wu64)
open Go.Proofs.YtbcijmpkmmcdeaaDoor.PChk (chkB pwB knB sumP rowsB)
set_option linter.unusedVariables false
set_option linter.unusedSimpArgs false
theorem parts_len : ∀ (fu : Nat) (l : List Int) (rows : List (List Int)), PAll.partsF fu l = some rows → (∀ x ∈ l, 0 ≤ x) → (rows.map (fun r => r.length + 2)).sum = l.length
  | _, [], rows, h, _ => by
    simp only [PAll.partsF, Option.some.injEq] at h
    subst h; rfl
  | 0, _ :: _, rows, h, _ => by simp [PAll.partsF] at h
  | _ + 1, [_], rows, h, _ => by simp [PAll.partsF] at h
  | fu + 1, a :: b :: l, rows, h, hp => by
    simp only [PAll.partsF] at h
    split at h
    · rename_i hle
      cases hq : PAll.partsF fu (l.drop (a + 256 * b).toNat) with
      | none => rw [hq] at h; cases h
      | some ps =>
        rw [hq] at h
        simp only [Option.map_some, Option.some.injEq] at h
        subst h
        have := parts_len fu _ ps hq (fun x hx => hp x (by simp [List.mem_of_mem_drop hx]))
        simp only [List.map_cons, List.sum_cons, this, List.length_take, List.length_drop, List.length_cons]
        omega
    · cases h
theorem jget_short {l : List Int} (h : l.length ≤ 15) (hb : ∀ x ∈ l, 0 ≤ x) : (jget l).err ≠ 0 := by
  have hf : ∀ rows, PAll.partsF (openF l).1.length (openF l).1 = some rows → gOK rows = false := by
    intro rows hq
    have hl := parts_len _ _ _ hq (fun x hx => hb x ((openF_sub l).2 x hx))
    have hs := (openF_sub l).1
    unfold gOK
    have : formB rows = false := by
      unfold formB
      match rows, hl with
      | [], _ => rfl
      | [_], _ => rfl
      | [_, _], _ => rfl
      | r0 :: r1 :: r2 :: r, hl =>
        simp only [List.map_cons, List.sum_cons] at hl
        have : ¬ (r0.length = 8 ∧ r1.length = 8) := by omega
        by_cases h0 : r0.length = 8
        · have h1 : ¬ r1.length = 8 := fun h => this ⟨h0, h⟩
          simp [h1]
        · simp [h0]
    rw [this]; rfl
  unfold jget jgot
  cases hq : PAll.partsF (openF l).1.length (openF l).1 with
  | none => cases (openF l).2 <;> simp
  | some rows => simp [hf rows hq]; cases (openF l).2 <;> simp
theorem jone_not {i : Int} {l : List Int} {o : JL} (h : (jget l).err ≠ 0) : jone i l o = o := by unfold jone; exact if_neg (fun x => h x.1)
theorem jload_short {a b : List Int} (ha : a.length ≤ 15) (hb : b.length ≤ 15) (ha0 : ∀ x ∈ a, 0 ≤ x) (hb0 : ∀ x ∈ b, 0 ≤ x) : jload a b = ⟨0, 0, [], 0⟩ := by
  unfold jload
  rw [jone_not (jget_short ha ha0), jone_not (jget_short hb hb0)]
end Go.Proofs.YtbcijmpkmmcdeaaDoor.SF
end
section
namespace Go.Sx
open Go.RowKit
set_option linter.unusedVariables false
set_option linter.unusedSimpArgs false
def Blk (w : World) (b : Nat) (cs : List Value) (T : TypeId) : Prop := w.heap[b]? = some (.cells cs.toArray T (0, 0))
theorem Blk.below {w w' : World} {b : Nat} {cs : List Value} {T : TypeId} (h : Blk w b cs T) (hb : Below w.heap.size w w') : Blk w' b cs T := (hb.block b (Array.getElem?_eq_some_iff.1 h).1).trans h
theorem _root_.Go.RowKit.Below.next {w w1 w2 : World} (h : Below w.heap.size w w1) (h2 : Below w1.heap.size w1 w2) : Below w.heap.size w w2 := h.trans (h2.mono h.size)
def CellsAt (w : World) (ad : Addr) (cs : List Value) : Prop := ∀ (j : Nat) (u : Value), cs[j]? = some u → w.cell? (ad.add j) = some u
theorem CellsAt.below {w w' : World} {ad : Addr} {cs : List Value} (h : CellsAt w ad cs) (hb : Below w.heap.size w w') : CellsAt w' ad cs := fun j u hu => by
  have hc := h j u hu
  rw [hb.cell (p := ad.add j) (block_lt_of_cell hc)]
  exact hc
theorem CellsAt.one {w : World} {ad : Addr} {k j : Nat} {cs : List Value} {u : Value} (h : CellsAt w (ad.add k) cs) (hu : cs[j]? = some u) : w.cell? (ad.add (k + j)) = some u := by
  have := h j u hu
  rwa [add_add] at this
section
variable {P : Program} {ops : Array Oper} {Q : Exit → Act → World → Prop} {w0 : World} {N : Fr} {l : List Oper} {env : Env} {hp : List Item} {o : Oper}
theorem reads_blkA {b : Nat} {cs : List Value} {T : TypeId} (hm : old w0 ∈ hp) (h : Blk w0 b cs T) : Reads w0 hp ⟨b, 0, none⟩ cs := reads_old hm (fun j u hu => by
  rw [addr_add, cell_of_row w0 b (0 + j) cs.toArray T (0, 0) h, Nat.zero_add]
  simpa using hu)
theorem wc_ground {c : Code} (k : ∀ wn, HeapOK w0 hp wn → WC P c Q wn N env [old wn]) : WC P c Q w0 N env hp := fun a w h => k w h.heap a w ⟨h.size, h.defers, h.env, HeapOK.start w⟩
end
end Go.Sx
end
section
namespace Go.Sx
open Go.RowKit Go.Proofs.YtbcijmpkmmcdeaaDoorW.PrintWords
set_option linter.unusedVariables false
set_option linter.unusedSimpArgs false
section
variable {P : Program} {ops : Array Oper} {Q : Exit → Act → World → Prop} {w0 : World} {N : Fr} {l : List Oper} {env : Env} {hp : List Item} {o : Oper}
theorem q_bytesStr {s t e : TypeId} {x : Operand} {A : Option Addr} {n c : Nat} {xs : List Int} (ho : o.op = .convert s t x) (hx : evE x env = some (.slice A n c)) (hs : P.underlying s = some (.slice e)) (he : P.underlying e = some (.int .u8)) (ht : P.underlying t = some .string) (h : ∀ w, HeapOK w0 hp w → (Kd.int .u8).C w A n xs) : OpQ P o env w0 hp (.string (strOfNums xs)) := q_run fun a w hev hh => by
  unfold execOp
  simp only [ho, ev_of hev hx, Sem.run_bind, Kd.C_string hs he ht (h w hh)]
  rfl
end
end Go.Sx
end
section
namespace Go.Proofs.YtbcijmpkmmcdeaaDoor.SF
open Go.RowKit Go.Sx Go.Proofs.YtbcijmpkmmcdeaaDoor.PAll Go.Proofs.YtbcijmpkmmcdeaaDoorW.PrintWords Go.Proofs.YtbcijmpkmmcdeaaDoorW.PrintLast Go.Proofs.YtbcijmpkmmcdeaaDoorW.PrintMore
set_option linter.unusedVariables false
set_option linter.unusedSimpArgs false
def RowP (w : World) (q : Gh) (l : List S51) : Prop := l.length ≤ q.2 ∧ Kd.C k51 w q.1 l.length l
theorem RowP.below {w w' : World} {q : Gh} {l : List S51} (h : RowP w q l) (hb : Below w.heap.size w w') : RowP w' q l := ⟨h.1, Kd.C_below h.2 hb⟩
def RowI (w : World) (q : Gh) (l : List Int) : Prop := l.length ≤ q.2 ∧ Kd.C (Kd.int .i64) w q.1 l.length l
theorem RowI.below {w w' : World} {q : Gh} {l : List Int} (h : RowI w q l) (hb : Below w.heap.size w w') : RowI w' q l := ⟨h.1, Kd.C_below h.2 hb⟩
theorem jps_len {l : List Int} (h : l.length ≤ 8000) (hb : ∀ x ∈ l, 0 ≤ x) : (jget l).ps.length ≤ 1000 := by
  have hf : ∀ rows, PAll.partsF (openF l).1.length (openF l).1 = some rows → (gPs rows).length ≤ 1000 := by
    intro rows hq
    have hs := (openF_sub l).1
    unfold gPs
    rw [List.length_map, List.length_range]
    cases h2 : rows[2]? with
    | none => rw [List.getD_eq_getElem?_getD, h2]; decide
    | some r =>
      have := (parts_sub _ _ _ hq r (List.mem_of_getElem? h2)).1
      rw [List.getD_eq_getElem?_getD, h2]
      show r.length / 8 ≤ 1000
      omega
  unfold jget jgot
  cases hq : PAll.partsF (openF l).1.length (openF l).1 with
  | none => cases (openF l).2 <;> simp
  | some rows =>
    have := hf rows hq
    cases (openF l).2 <;> simp
    split <;> simp [this]
theorem jone_len {i : Int} {l : List Int} {o : JL} (h : Bytes l) (ho : o.ps.length ≤ 1000) : (jone i l o).ps.length ≤ 1000 := by
  unfold jone
  split
  · exact jps_len h.1 (fun x hx => (h.2 x hx).1)
  · exact ho
theorem jload_len {a b : List Int} (ha : Bytes a) (hb : Bytes b) : (jload a b).ps.length ≤ 1000 := jone_len hb (jone_len ha (Nat.zero_le _))
theorem FromK (pa pb : Gh) (a b : List Int) (w : World) (ha : RowC w pa a) (hb : RowC w pb b) (hal : a.length < 17592186044416) (hbl : b.length < 17592186044416) :
    Calls Tryd.prog 16 #[.slice pa.1 a.length pa.2, .slice pb.1 b.length pb.2] w fun e w' => ∃ i : Gh × Gh, Jn.ok w' ⟨a, b, 0, [], false⟩ i.1 i.2 (none, 0) ∧ e = .returned (.agg (Jn.cells ⟨a, b, 0, [], false⟩ i.1 i.2 (none, 0)).toArray) ∧ Below w.heap.size w w' :=
  (From_calls pa pb a b w ha hb hal hbl).mono (fun e w' ⟨p0, p1, h1, h2, h3⟩ => ⟨(p0, p1), h2, h1, h3⟩)
theorem AgainK (J : Jn) (p0 p1 p2 q : Gh) (l : List S28) (budget : Int) (w : World) (hJ : Jn.ok w J p0 p1 p2) (hB0 : Bytes J.s0) (hB1 : Bytes J.s1) (hh : Half w) (hr : Kd.C k28 w q.1 l.length l) (hc : l.length ≤ q.2) (hl : l.length ≤ 10000) :
    Calls Tryd.prog 15 #[.agg (J.cells p0 p1 p2).toArray, .slice q.1 l.length q.2, .int .i64 budget] w fun e w' => ∃ i : Gh × Gh, (RowP w' i.1 (agN (jload J.s0 J.s1).ps (mn (mx budget 0) 1048576) l l.length).out ∧ RowI w' i.2 (agN (jload J.s0 J.s1).ps (mn (mx budget 0) 1048576) l l.length).stops) ∧
      e = .returned (.tuple #[.agg #[.int .i64 (mn (mx budget 0) 1048576), .int .i64 (jload J.s0 J.s1).mar, .int .i64 0, .slice i.1.1 (agN (jload J.s0 J.s1).ps (mn (mx budget 0) 1048576) l l.length).out.length i.1.2], .slice i.2.1 (agN (jload J.s0 J.s1).ps (mn (mx budget 0) 1048576) l l.length).stops.length i.2.2]) ∧ Below w.heap.size w w' := by
  have hn := jload_len hB0 hB1
  have hg := agN_range (jload J.s0 J.s1).ps (mn (mx budget 0) 1048576) l l.length
  exact (Again_calls J p0 p1 p2 q.1 q.2 l budget w hJ hB0 hB1 hh hr hc hl (by omega)).mono (fun e w' ⟨qo, qs, h1, h2⟩ => ⟨(qo, qs), ⟨⟨own_cap (h2.get (i := 1) rfl), C51_of_own (h2.get (i := 1) rfl) (by omega)⟩, ⟨own_cap (h2.get (i := 0) rfl), C_of_own (h2.get (i := 0) rfl) (by omega)⟩⟩, h1, h2.toBelow (by simp)⟩)
theorem RowC.none (w : World) (q : Gh) : RowC w q [] := ⟨Nat.zero_le _, rfl, by decide, fun h => absurd h (by decide)⟩
theorem RowP.at {w : World} {q : Gh} {l : List S51} {j : Nat} {p : S51} (h : RowP w q l) (hp : l[j]? = some p) : ∃ ad, q.1 = some ad ∧ CellsAt w (ad.add (j * 2)) [.int .i64 p.f0, .int .i64 p.f1] := C51_at h.2 hp
theorem RowI.at {w : World} {q : Gh} {l : List Int} {j : Nat} {x : Int} (h : RowI w q l) (hp : l[j]? = some x) : ∃ ad, q.1 = some ad ∧ w.cell? (ad.add (j * 1)) = some (.int .i64 x) := by
  obtain ⟨ad, cs, e, hK, hc⟩ := C_at h.2 hp rfl
  obtain rfl : cs = [.int .i64 x] := hK
  have := hc 0 _ rfl
  rw [add_zero] at this
  exact ⟨ad, e, this⟩
def J0 : Jn := ⟨[], [], 0, [], false⟩
theorem Bytes_nil : Bytes [] := ⟨Nat.zero_le _, fun x hx => by cases hx⟩
theorem u8_wf {x : Int} (h : (Lit.int .u8 x).wf = true) : 0 ≤ x ∧ x ≤ 255 := by simpa [Lit.wf, IntKind.min, IntKind.max, IntKind.signed, IntKind.bits] using h
theorem bytes_wf {l : List Int} (h : ∀ x ∈ l, (Lit.int .u8 x).wf = true) : ∀ x ∈ l, 0 ≤ x ∧ x ≤ 255 := fun x hx => u8_wf (h x hx)
end Go.Proofs.YtbcijmpkmmcdeaaDoor.SF
end
section
namespace Go.Sx
open Go.RowKit Go.Proofs.YtbcijmpkmmcdeaaDoorW.PrintWords
set_option linter.unusedVariables false
set_option linter.unusedSimpArgs false
section
variable {P : Program} {ops : Array Oper} {Q : Exit → Act → World → Prop} {w0 : World} {N : Fr} {l : List Oper} {env : Env} {hp : List Item} {o : Oper}
theorem q_eqAgg {op : BinOp} {t u : TypeId} {x y : Operand} {p q : Array Value} {c : Bool} (ho : o.op = .binOp op t x y u) (hop : op = .eql ∨ op = .neq) (hx : evE x env = some (.agg p)) (hy : evE y env = some (.agg q)) (hm : P.eqGuardType P.depth t = false)
    (hr : ∀ w : World, (Op.equal t (.agg p) (.agg q)).run P w = .ok c w) : OpQ P o env w0 hp (.bool (bif op matches .eql then c else !c)) :=
  q_eq ho hop hx hy fun w => ⟨run_eqGuard_agg w op t x y p q hm, by
    rcases hop with rfl | rfl
    · show (do pure (Value.bool (← Op.equal t (.agg p) (.agg q))) : Sem Value).run P w = _
      rw [Sem.run_bind, hr w]; rfl
    · show (do pure (Value.bool (!(← Op.equal t (.agg p) (.agg q)))) : Sem Value).run P w = _
      rw [Sem.run_bind, hr w]; rfl⟩
end
end Go.Sx
end
