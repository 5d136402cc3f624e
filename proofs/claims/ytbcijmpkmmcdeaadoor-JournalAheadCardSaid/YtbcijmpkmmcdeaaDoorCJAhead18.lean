/- Texts of mine, put together (no statement stands here). -/
import Derived.Test.YtbcijmpkmmcdeaaDoorCJAhead16
import Derived.Test.YtbcijmpkmmcdeaaDoorCJAhead17
section
namespace Go.Proofs.YtbcijmpkmmcdeaaDoor.SF
open Go.RowKit Go.Sx Go.Proofs.YtbcijmpkmmcdeaaDoor.PAll Go.Proofs.YtbcijmpkmmcdeaaDoorW.PrintWords Go.Proofs.YtbcijmpkmmcdeaaDoorW.PrintLast Go.Proofs.YtbcijmpkmmcdeaaDoorW.PrintMore
set_option linter.unusedVariables false
set_option linter.unusedSimpArgs false
set_option maxRecDepth 100000
theorem bytes_inj : ∀ {a b : List Int}, (∀ x ∈ a, 0 ≤ x ∧ x ≤ 255) → (∀ x ∈ b, 0 ≤ x ∧ x ≤ 255) → a.map (fun n => UInt8.ofNat n.toNat) = b.map (fun n => UInt8.ofNat n.toNat) → a = b
  | [], [], _, _, _ => rfl
  | [], _ :: _, _, _, h => by cases h
  | _ :: _, [], _, _, h => by cases h
  | x :: a, y :: b, ha, hb, h => by
    simp only [List.map_cons, List.cons.injEq] at h
    have hx := ha x List.mem_cons_self
    have hy := hb y List.mem_cons_self
    have e : x = y := by
      have := congrArg UInt8.toNat h.1
      simp only [UInt8.toNat_ofNat'] at this
      omega
    rw [e, bytes_inj (fun z hz => ha z (List.mem_cons_of_mem _ hz)) (fun z hz => hb z (List.mem_cons_of_mem _ hz)) h.2]
theorem str_eq {a b : List Int} (h : a = b) : ((strOfNums a).toList == (strOfNums b).toList) = true := by rw [h]; exact beq_self_eq_true _
theorem str_ne {a b : List Int} (ha : Bytes a) (hb : Bytes b) (h : a ≠ b) : ((strOfNums a).toList == (strOfNums b).toList) = false := by
  rw [beq_eq_false_iff_ne]
  intro e
  rw [Go.Lib.strOfNums_toList, Go.Lib.strOfNums_toList] at e
  exact h (bytes_inj ha.2 hb.2 e)
theorem eta_load {L : JL} {s : Int} (h : L.seq = s) : L = ⟨L.bud, L.mar, L.ps, s⟩ := by subst h; rfl
def J4a (bl ml : Int) (l : List S51) (bm mm : Int) (m : List S51) (bk mk : Int) (k : List S51) (n : Int) : Jn := ⟨jput bm mm m 2, jput bl ml l 3, 1, torn1 (jput bk mk k 3) (jput bl ml l 1) n.toNat, true⟩
def J4b (bl ml : Int) (l : List S51) (bm mm : Int) (m : List S51) (bk mk : Int) (k : List S51) (n : Int) : Jn := ⟨jput bl ml l 4, torn1 (jput bk mk k 3) (jput bl ml l 1) n.toNat, 0, jput bm mm m 2, true⟩
theorem seq4 : IntKind.u64.wrap (3 + 1) = 4 := by decide
theorem write4a {bl ml : Int} {l : List S51} {bm mm : Int} {m : List S51} {bk mk : Int} {k : List S51} {n : Int} (hx : jload (jput bm mm m 2) (torn1 (jput bk mk k 3) (jput bl ml l 1) n.toNat) = ⟨bm, mm, m, 2⟩) : (T3s bl ml l bm mm m bk mk k n).write bl ml l = J4a bl ml l bm mm m bk mk k n := by
  have h : IntKind.u64.wrap ((jload (T3s bl ml l bm mm m bk mk k n).s0 (T3s bl ml l bm mm m bk mk k n).s1).seq + 1) = 3 := by
    show IntKind.u64.wrap ((jload (jput bm mm m 2) (torn1 (jput bk mk k 3) (jput bl ml l 1) n.toNat)).seq + 1) = 3
    rw [hx]; exact seq3
  unfold Jn.write
  rw [h]
  rfl
theorem write4b {bl ml : Int} {l : List S51} {bm mm : Int} {m : List S51} {bk mk : Int} {k : List S51} {n : Int} (hx : (jload (jput bm mm m 2) (torn1 (jput bk mk k 3) (jput bl ml l 1) n.toNat)).seq = 3) (b2 m2 : Int) (l2 : List S51) : (T3s bl ml l bm mm m bk mk k n).write b2 m2 l2 = ⟨jput b2 m2 l2 4, torn1 (jput bk mk k 3) (jput bl ml l 1) n.toNat, 0, jput bm mm m 2, true⟩ := by
  have h : IntKind.u64.wrap ((jload (T3s bl ml l bm mm m bk mk k n).s0 (T3s bl ml l bm mm m bk mk k n).s1).seq + 1) = 4 := by
    show IntKind.u64.wrap ((jload (jput bm mm m 2) (torn1 (jput bk mk k 3) (jput bl ml l 1) n.toNat)).seq + 1) = 4
    rw [hx]; exact seq4
  unfold Jn.write
  rw [h]
  rfl
theorem load4a {bl ml : Int} {l : List S51} {bm mm : Int} {m : List S51} (hm : MayBe bm mm m) (hl : MayBe bl ml l) (h1 : m.length ≤ 900) (h2 : l.length ≤ 900) : jload (jput bm mm m 2) (jput bl ml l 3) = ⟨bl, ml, l, 3⟩ := by
  unfold jload
  rw [jone_put (o := ⟨0, 0, [], 0⟩) hm h1 (by decide) (by decide) (by show (0 : Int) < 2; decide)]
  exact jone_put hl h2 (by decide) (by decide) (by show (2 : Int) < 3; decide)
theorem load4b {s : List Int} {bl ml : Int} {l : List S51} (hl : MayBe bl ml l) (hg : (jget s).seq = 3) (h2 : l.length ≤ 900) : jload (jput bl ml l 4) s = ⟨bl, ml, l, 4⟩ := by
  unfold jload
  rw [jone_put (o := ⟨0, 0, [], 0⟩) hl h2 (by decide) (by decide) (by show (0 : Int) < 4; decide)]
  unfold jone
  exact if_neg (fun h => absurd (show (4 : Int) < (jget s).seq from h.2.2) (by omega))
theorem g3_of {bm mm : Int} {m : List S51} {s : List Int} (hm : MayBe bm mm m) (h1 : m.length ≤ 900) (h : (jload (jput bm mm m 2) s).seq = 3) : (jget s).seq = 3 := by
  unfold jload at h
  rw [jone_put (o := ⟨0, 0, [], 0⟩) hm h1 (by decide) (by decide) (by show (0 : Int) < 2; decide)] at h
  unfold jone at h
  split at h
  · exact h
  · exact absurd h (by show ¬ (2 : Int) = 3; decide)
set_option maxHeartbeats 2000000 in
theorem aheadA_calls (bl ml cl bm mm cm bk mk ck n : Int) (ql qm qk : Gh) (l m k : List S51) (w : World) (hl_ : RowP w ql l) (hm_ : RowP w qm m) (hk_ : RowP w qk k) (hh : Half w) (hyp : MayBe bl ml l → MayBe bm mm m → MayBe bk mk k → l.length ≤ 80 → m.length ≤ 80 → k.length ≤ 80 → (jload (jput bm mm m 2) (torn1 (jput bk mk k 3) (jput bl ml l 1) n.toNat)) = ⟨bm, mm, m, 2⟩) :
    Calls Tryd.prog 9 #[.agg #[.int .i64 bl, .int .i64 ml, .int .i64 cl, .slice ql.1 l.length ql.2], .agg #[.int .i64 bm, .int .i64 mm, .int .i64 cm, .slice qm.1 m.length qm.2], .agg #[.int .i64 bk, .int .i64 mk, .int .i64 ck, .slice qk.1 k.length qk.2], .int .i64 n] w fun e w' => e = .returned (.bool true) ∧ Below w.heap.size w w' := by
  refine enter (w0 := w) (hp := [old w]) (env := [(0, .agg #[.int .i64 bl, .int .i64 ml, .int .i64 cl, .slice ql.1 l.length ql.2]), (1, .agg #[.int .i64 bm, .int .i64 mm, .int .i64 cm, .slice qm.1 m.length qm.2]), (2, .agg #[.int .i64 bk, .int .i64 mk, .int .i64 ck, .slice qk.1 k.length qk.2]), (3, .int .i64 n)]) Tryd.func9 rfl 148 rfl (by simp) rfl (HeapOK.start _) ?_
  refine wc_seq ?_
  refine wc_region ?_
  refine wl_box rfl rfl rfl (by decide) rfl rfl (fun b1 => ?_)
  refine wl_box rfl rfl rfl (by decide) rfl rfl (fun b2 => ?_)
  refine wl_box rfl rfl rfl (by decide) rfl rfl (fun b3 => ?_)
  refine wl_q (q_assign rfl rfl) rfl rfl (by decide) ?_
  refine wl_nil ?_
  refine fq_then ?_
  refine wc_seq ?_
  refine wc_region ?_
  refine wl_q (q_call rfl En21 rfl (fun w1 hw1 => awake16_calls w1 (hh.keep (hw1.toBelow (by simp))))) rfl rfl (by decide) ?_
  refine wl_q (q_assign rfl rfl) rfl rfl (by decide) ?_
  refine wl_nil ?_
  refine fq_then ?_
  refine wc_seq ?_
  refine wc_seq ?_
  refine wc_region ?_
  refine wl_q (q_move rfl rfl) rfl rfl (by decide) ?_
  refine wl_q (q_not rfl rfl) rfl rfl (by decide) ?_
  refine wl_nil ?_
  refine fq_then ?_
  refine wc_false rfl ?_
  refine wc_skip ?_
  refine fq_then ?_
  refine wc_seq ?_
  refine wc_region ?_
  refine wl_q (q_loadA rfl rfl Mn32 Sz32 rfl (readsAll (i := 2) rfl)) rfl rfl (by decide) ?_
  refine wl_q (q_call rfl En22 rfl (fun w1 hw1 => few16_calls bl ml cl ql l w1 (hl_.below (hw1.toBelow (by simp))))) rfl rfl (by decide) ?_
  refine wl_q (q_assign rfl rfl) rfl rfl (by decide) ?_
  refine wl_nil ?_
  refine fq_then ?_
  refine wc_seq ?_
  refine wc_region ?_
  refine wl_q (q_loadA rfl rfl Mn32 Sz32 rfl (readsAll (i := 1) rfl)) rfl rfl (by decide) ?_
  refine wl_q (q_call rfl En22 rfl (fun w1 hw1 => few16_calls bm mm cm qm m w1 (hm_.below (hw1.toBelow (by simp))))) rfl rfl (by decide) ?_
  refine wl_q (q_assign rfl rfl) rfl rfl (by decide) ?_
  refine wl_nil ?_
  refine fq_then ?_
  refine wc_seq ?_
  refine wc_region ?_
  refine wl_q (q_loadA rfl rfl Mn32 Sz32 rfl (readsAll (i := 0) rfl)) rfl rfl (by decide) ?_
  refine wl_q (q_call rfl En22 rfl (fun w1 hw1 => few16_calls bk mk ck qk k w1 (hk_.below (hw1.toBelow (by simp))))) rfl rfl (by decide) ?_
  refine wl_q (q_assign rfl rfl) rfl rfl (by decide) ?_
  refine wl_nil ?_
  refine fq_then ?_
  refine wc_seq ?_
  refine wc_seq ?_
  refine wc_region ?_
  refine wl_q (q_move rfl rfl) rfl rfl (by decide) ?_
  refine wl_q (q_not rfl rfl) rfl rfl (by decide) ?_
  refine wl_q (q_move rfl rfl) rfl rfl (by decide) ?_
  refine wl_split (t := 35) rfl (fun h35 => ?_) (fun h35 => ?_)
  · skip
    have q35 := h35
    try simp only [decide_eq_true_eq, decide_eq_false_iff_not, beq_iff_eq, beq_eq_false_iff_ne, bne_iff_ne, ne_eq, bne_eq_false_iff_eq, Int.not_lt, Int.not_le] at q35
    refine wl_skip (b := true) rfl rfl rfl rfl (by decide) ?_
    refine wl_skip (b := true) rfl rfl rfl rfl (by decide) ?_
    refine wl_q (q_pick rfl rfl rfl) rfl rfl (by decide) ?_
    refine wl_q (q_move rfl rfl) rfl rfl (by decide) ?_
    refine wl_skip (b := true) rfl rfl rfl rfl (by decide) ?_
    refine wl_skip (b := true) rfl rfl rfl rfl (by decide) ?_
    refine wl_q (q_pick rfl rfl rfl) rfl rfl (by decide) ?_
    refine wl_q (q_move rfl rfl) rfl rfl (by decide) ?_
    refine wl_skip (b := true) rfl rfl rfl rfl (by decide) ?_
    refine wl_skip (b := true) rfl rfl rfl rfl (by decide) ?_
    refine wl_skip (b := true) rfl rfl rfl rfl (by decide) ?_
    refine wl_q (q_pick rfl rfl rfl) rfl rfl (by decide) ?_
    refine wl_q (q_move rfl rfl) rfl rfl (by decide) ?_
    refine wl_skip (b := true) rfl rfl rfl rfl (by decide) ?_
    refine wl_skip (b := true) rfl rfl rfl rfl (by decide) ?_
    refine wl_skip (b := true) rfl rfl rfl rfl (by decide) ?_
    refine wl_q (q_pick rfl rfl rfl) rfl rfl (by decide) ?_
    refine wl_q (q_move rfl rfl) rfl rfl (by decide) ?_
    refine wl_skip (b := true) rfl rfl rfl rfl (by decide) ?_
    refine wl_skip (b := true) rfl rfl rfl rfl (by decide) ?_
    refine wl_skip (b := true) rfl rfl rfl rfl (by decide) ?_
    refine wl_q (q_pick rfl rfl rfl) rfl rfl (by decide) ?_
    refine wl_nil ?_
    refine fq_then ?_
    refine wc_true rfl ?_
    refine wc_seq ?_
    refine wc_region ?_
    refine wl_q (q_assign rfl rfl) rfl rfl (by decide) ?_
    refine wl_nil ?_
    refine fq_then ?_
    refine wc_ret ?_
    refine fq_then_ret ?_
    refine fq_ret1 rfl rfl (fun w1 H => ?_)
    exact ⟨rfl, (by first | exact hB.next (H.toBelow (by simp)) | exact H.toBelow (by simp))⟩
  · skip
    have q35 := h35
    try simp only [decide_eq_true_eq, decide_eq_false_iff_not, beq_iff_eq, beq_eq_false_iff_ne, bne_iff_ne, ne_eq, bne_eq_false_iff_eq, Int.not_lt, Int.not_le] at q35
    refine wl_want (b := false) (q_move rfl rfl) rfl rfl rfl rfl (by decide) ?_
    refine wl_want (b := false) (q_not rfl rfl) rfl rfl rfl rfl (by decide) ?_
    refine wl_q (q_pick rfl rfl rfl) rfl rfl (by decide) ?_
    refine wl_q (q_move rfl rfl) rfl rfl (by decide) ?_
    refine wl_split (t := 39) rfl (fun h39 => ?_) (fun h39 => ?_)
    · skip
      have q39 := h39
      try simp only [decide_eq_true_eq, decide_eq_false_iff_not, beq_iff_eq, beq_eq_false_iff_ne, bne_iff_ne, ne_eq, bne_eq_false_iff_eq, Int.not_lt, Int.not_le] at q39
      refine wl_skip (b := true) rfl rfl rfl rfl (by decide) ?_
      refine wl_skip (b := true) rfl rfl rfl rfl (by decide) ?_
      refine wl_q (q_pick rfl rfl rfl) rfl rfl (by decide) ?_
      refine wl_q (q_move rfl rfl) rfl rfl (by decide) ?_
      refine wl_skip (b := true) rfl rfl rfl rfl (by decide) ?_
      refine wl_skip (b := true) rfl rfl rfl rfl (by decide) ?_
      refine wl_skip (b := true) rfl rfl rfl rfl (by decide) ?_
      refine wl_q (q_pick rfl rfl rfl) rfl rfl (by decide) ?_
      refine wl_q (q_move rfl rfl) rfl rfl (by decide) ?_
      refine wl_skip (b := true) rfl rfl rfl rfl (by decide) ?_
      refine wl_skip (b := true) rfl rfl rfl rfl (by decide) ?_
      refine wl_skip (b := true) rfl rfl rfl rfl (by decide) ?_
      refine wl_q (q_pick rfl rfl rfl) rfl rfl (by decide) ?_
      refine wl_q (q_move rfl rfl) rfl rfl (by decide) ?_
      refine wl_skip (b := true) rfl rfl rfl rfl (by decide) ?_
      refine wl_skip (b := true) rfl rfl rfl rfl (by decide) ?_
      refine wl_skip (b := true) rfl rfl rfl rfl (by decide) ?_
      refine wl_q (q_pick rfl rfl rfl) rfl rfl (by decide) ?_
      refine wl_nil ?_
      refine fq_then ?_
      refine wc_true rfl ?_
      refine wc_seq ?_
      refine wc_region ?_
      refine wl_q (q_assign rfl rfl) rfl rfl (by decide) ?_
      refine wl_nil ?_
      refine fq_then ?_
      refine wc_ret ?_
      refine fq_then_ret ?_
      refine fq_ret1 rfl rfl (fun w1 H => ?_)
      exact ⟨rfl, (by first | exact hB.next (H.toBelow (by simp)) | exact H.toBelow (by simp))⟩
    · skip
      have q39 := h39
      try simp only [decide_eq_true_eq, decide_eq_false_iff_not, beq_iff_eq, beq_eq_false_iff_ne, bne_iff_ne, ne_eq, bne_eq_false_iff_eq, Int.not_lt, Int.not_le] at q39
      refine wl_want (b := false) (q_move rfl rfl) rfl rfl rfl rfl (by decide) ?_
      refine wl_want (b := false) (q_not rfl rfl) rfl rfl rfl rfl (by decide) ?_
      refine wl_q (q_pick rfl rfl rfl) rfl rfl (by decide) ?_
      refine wl_q (q_move rfl rfl) rfl rfl (by decide) ?_
      refine wl_split (t := 43) rfl (fun h43 => ?_) (fun h43 => ?_)
      · skip
        have q43 := h43
        try simp only [decide_eq_true_eq, decide_eq_false_iff_not, beq_iff_eq, beq_eq_false_iff_ne, bne_iff_ne, ne_eq, bne_eq_false_iff_eq, Int.not_lt, Int.not_le] at q43
        refine wl_skip (b := true) rfl rfl rfl rfl (by decide) ?_
        refine wl_skip (b := true) rfl rfl rfl rfl (by decide) ?_
        refine wl_skip (b := true) rfl rfl rfl rfl (by decide) ?_
        refine wl_q (q_pick rfl rfl rfl) rfl rfl (by decide) ?_
        refine wl_q (q_move rfl rfl) rfl rfl (by decide) ?_
        refine wl_skip (b := true) rfl rfl rfl rfl (by decide) ?_
        refine wl_skip (b := true) rfl rfl rfl rfl (by decide) ?_
        refine wl_skip (b := true) rfl rfl rfl rfl (by decide) ?_
        refine wl_q (q_pick rfl rfl rfl) rfl rfl (by decide) ?_
        refine wl_q (q_move rfl rfl) rfl rfl (by decide) ?_
        refine wl_skip (b := true) rfl rfl rfl rfl (by decide) ?_
        refine wl_skip (b := true) rfl rfl rfl rfl (by decide) ?_
        refine wl_skip (b := true) rfl rfl rfl rfl (by decide) ?_
        refine wl_q (q_pick rfl rfl rfl) rfl rfl (by decide) ?_
        refine wl_nil ?_
        refine fq_then ?_
        refine wc_true rfl ?_
        refine wc_seq ?_
        refine wc_region ?_
        refine wl_q (q_assign rfl rfl) rfl rfl (by decide) ?_
        refine wl_nil ?_
        refine fq_then ?_
        refine wc_ret ?_
        refine fq_then_ret ?_
        refine fq_ret1 rfl rfl (fun w1 H => ?_)
        exact ⟨rfl, (by first | exact hB.next (H.toBelow (by simp)) | exact H.toBelow (by simp))⟩
      · skip
        have q43 := h43
        try simp only [decide_eq_true_eq, decide_eq_false_iff_not, beq_iff_eq, beq_eq_false_iff_ne, bne_iff_ne, ne_eq, bne_eq_false_iff_eq, Int.not_lt, Int.not_le] at q43
        refine wl_want (b := false) (q_loadA rfl rfl Mn32 Sz32 rfl (readsAll (i := 2) rfl)) rfl rfl rfl rfl (by decide) ?_
        refine wl_want (b := false) (q_call rfl En35 rfl (fun w1 hw1 => CheckL bl ml cl ql l w1 (hl_.below (hw1.toBelow (by simp))))) rfl rfl rfl rfl (by decide) ?_
        refine wl_want (b := false) (q_not rfl rfl) rfl rfl rfl rfl (by decide) ?_
        refine wl_q (q_pick rfl rfl rfl) rfl rfl (by decide) ?_
        refine wl_q (q_move rfl rfl) rfl rfl (by decide) ?_
        refine wl_split (t := 48) rfl (fun h48 => ?_) (fun h48 => ?_)
        · skip
          have q48 := h48
          try simp only [decide_eq_true_eq, decide_eq_false_iff_not, beq_iff_eq, beq_eq_false_iff_ne, bne_iff_ne, ne_eq, bne_eq_false_iff_eq, Int.not_lt, Int.not_le] at q48
          refine wl_skip (b := true) rfl rfl rfl rfl (by decide) ?_
          refine wl_skip (b := true) rfl rfl rfl rfl (by decide) ?_
          refine wl_skip (b := true) rfl rfl rfl rfl (by decide) ?_
          refine wl_q (q_pick rfl rfl rfl) rfl rfl (by decide) ?_
          refine wl_q (q_move rfl rfl) rfl rfl (by decide) ?_
          refine wl_skip (b := true) rfl rfl rfl rfl (by decide) ?_
          refine wl_skip (b := true) rfl rfl rfl rfl (by decide) ?_
          refine wl_skip (b := true) rfl rfl rfl rfl (by decide) ?_
          refine wl_q (q_pick rfl rfl rfl) rfl rfl (by decide) ?_
          refine wl_nil ?_
          refine fq_then ?_
          refine wc_true rfl ?_
          refine wc_seq ?_
          refine wc_region ?_
          refine wl_q (q_assign rfl rfl) rfl rfl (by decide) ?_
          refine wl_nil ?_
          refine fq_then ?_
          refine wc_ret ?_
          refine fq_then_ret ?_
          refine fq_ret1 rfl rfl (fun w1 H => ?_)
          exact ⟨rfl, (by first | exact hB.next (H.toBelow (by simp)) | exact H.toBelow (by simp))⟩
        · skip
          have q48 := h48
          try simp only [decide_eq_true_eq, decide_eq_false_iff_not, beq_iff_eq, beq_eq_false_iff_ne, bne_iff_ne, ne_eq, bne_eq_false_iff_eq, Int.not_lt, Int.not_le] at q48
          refine wl_want (b := false) (q_loadA rfl rfl Mn32 Sz32 rfl (readsAll (i := 1) rfl)) rfl rfl rfl rfl (by decide) ?_
          refine wl_want (b := false) (q_call rfl En35 rfl (fun w1 hw1 => CheckL bm mm cm qm m w1 (hm_.below (hw1.toBelow (by simp))))) rfl rfl rfl rfl (by decide) ?_
          refine wl_want (b := false) (q_not rfl rfl) rfl rfl rfl rfl (by decide) ?_
          refine wl_q (q_pick rfl rfl rfl) rfl rfl (by decide) ?_
          refine wl_q (q_move rfl rfl) rfl rfl (by decide) ?_
          refine wl_split (t := 53) rfl (fun h53 => ?_) (fun h53 => ?_)
          · skip
            have q53 := h53
            try simp only [decide_eq_true_eq, decide_eq_false_iff_not, beq_iff_eq, beq_eq_false_iff_ne, bne_iff_ne, ne_eq, bne_eq_false_iff_eq, Int.not_lt, Int.not_le] at q53
            refine wl_skip (b := true) rfl rfl rfl rfl (by decide) ?_
            refine wl_skip (b := true) rfl rfl rfl rfl (by decide) ?_
            refine wl_skip (b := true) rfl rfl rfl rfl (by decide) ?_
            refine wl_q (q_pick rfl rfl rfl) rfl rfl (by decide) ?_
            refine wl_nil ?_
            refine fq_then ?_
            refine wc_true rfl ?_
            refine wc_seq ?_
            refine wc_region ?_
            refine wl_q (q_assign rfl rfl) rfl rfl (by decide) ?_
            refine wl_nil ?_
            refine fq_then ?_
            refine wc_ret ?_
            refine fq_then_ret ?_
            refine fq_ret1 rfl rfl (fun w1 H => ?_)
            exact ⟨rfl, (by first | exact hB.next (H.toBelow (by simp)) | exact H.toBelow (by simp))⟩
          · skip
            have q53 := h53
            try simp only [decide_eq_true_eq, decide_eq_false_iff_not, beq_iff_eq, beq_eq_false_iff_ne, bne_iff_ne, ne_eq, bne_eq_false_iff_eq, Int.not_lt, Int.not_le] at q53
            refine wl_want (b := false) (q_loadA rfl rfl Mn32 Sz32 rfl (readsAll (i := 0) rfl)) rfl rfl rfl rfl (by decide) ?_
            refine wl_want (b := false) (q_call rfl En35 rfl (fun w1 hw1 => CheckL bk mk ck qk k w1 (hk_.below (hw1.toBelow (by simp))))) rfl rfl rfl rfl (by decide) ?_
            refine wl_want (b := false) (q_not rfl rfl) rfl rfl rfl rfl (by decide) ?_
            refine wl_q (q_pick rfl rfl rfl) rfl rfl (by decide) ?_
            refine wl_nil ?_
            refine fq_then ?_
            refine wc_cond rfl (fun h57 => ?_) (fun h57 => ?_)
            · skip
              have q57 := h57
              try simp only [decide_eq_true_eq, decide_eq_false_iff_not, beq_iff_eq, beq_eq_false_iff_ne, bne_iff_ne, ne_eq, bne_eq_false_iff_eq, Int.not_lt, Int.not_le] at q57
              refine wc_seq ?_
              refine wc_region ?_
              refine wl_q (q_assign rfl rfl) rfl rfl (by decide) ?_
              refine wl_nil ?_
              refine fq_then ?_
              refine wc_ret ?_
              refine fq_then_ret ?_
              refine fq_ret1 rfl rfl (fun w1 H => ?_)
              exact ⟨rfl, (by first | exact hB.next (H.toBelow (by simp)) | exact H.toBelow (by simp))⟩
            · skip
              have q57 := h57
              try simp only [decide_eq_true_eq, decide_eq_false_iff_not, beq_iff_eq, beq_eq_false_iff_ne, bne_iff_ne, ne_eq, bne_eq_false_iff_eq, Int.not_lt, Int.not_le] at q57
              have hll : l.length ≤ 80 := by simpa using h35
              have hlm : m.length ≤ 80 := by simpa using h39
              have hlk : k.length ≤ 80 := by simpa using h43
              have hml := mayBe_of (show PChk.chkB bl ml cl l = true by simpa using h48)
              have hmm := mayBe_of (show PChk.chkB bm mm cm m = true by simpa using h53)
              have hmk := mayBe_of (show PChk.chkB bk mk ck k = true by simpa using h57)
              have hb1 := torn1_bytes (bl := bl) (ml := ml) (bk := bk) (mk := mk) hll hlk n.toNat
              have hx := hyp hml hmm hmk hll hlm hlk
              refine wc_skip ?_
              refine fq_then ?_
              refine wc_seq ?_
              refine wc_any Fol (any_drawG (ι := (Gh × Gh)) 7 0 [(2, fun X => [Sx.Item.own 0 5 1 (.slice (X 2).1.1 (jput bl ml l 1).length (X 2).1.2) (jput bl ml l 1).length (nums .u8 (jput bl ml l 1))]), (4, fun X => [Sx.Item.own 0 5 1 (.slice (X 4).1.1 (jput bm mm m 2).length (X 4).1.2) (jput bm mm m 2).length (nums .u8 (jput bm mm m 2)), Sx.Item.own 0 5 1 (.slice (X 2).1.1 (jput bl ml l 1).length (X 2).1.2) (jput bl ml l 1).length (nums .u8 (jput bl ml l 1))]), (5, fun X => [Sx.Item.blk (X 5).1.2 _ 38]), (6, fun X => [Sx.Item.blk (X 5).1.2 (Jn.cells (J2s bl ml l bm mm m) (X 4).1 (X 2).1 (X 0).1) 38])] [⟨[], [], []⟩, ⟨[], [], []⟩, ⟨[], [], [0]⟩, ⟨[], [], []⟩, ⟨[2], [], [0, 2]⟩, ⟨[], [], []⟩, ⟨[5], [], [0, 2, 4, 5]⟩] (by kernel_rfl) (ChainG.ope (fun (X : Nat → (Gh × Gh)) => .agg (Jn.cells J0 (X 0).1 (X 0).2 (none, 0)).toArray) [] [] (fun X => oe_call rfl En16 rfl (fun R w1 hw1 => FromG.mono (fun e w' ⟨i, h1, h2⟩ => ⟨i, h1, hw1.below h2⟩))) rfl rfl (fun X Y h0 h => ⟨by first | rfl | (show (.agg (Jn.cells J0 (X 0).1 (X 0).2 (none, 0)).toArray : Value) = .agg (Jn.cells J0 (Y 0).1 (Y 0).2 (none, 0)).toArray; simp only [h0]), by first | rfl | simp only [h0]⟩) (ChainG.yield [] [] (fun X => q_loadA rfl rfl Mn32 Sz32 rfl (readsAll (i := 2) rfl)) rfl rfl (fun _ => rfl) (fun _ _ => rfl) (fun X Y h0 h => ⟨by first | rfl | simp only [h0], by first | rfl | simp only [h0]⟩) (ChainG.ope (fun (X : Nat → (Gh × Gh)) => .agg (Jn.cells (J1s bl ml l) (X 0).1 (X 2).1 (X 0).2).toArray) [] [0] (fun X => oe_call rfl En33 rfl (fun R w1 hw1 => (WriteA (hl_.below (hw1.toBelow (by simp))) (by omega) (hh.keep (hw1.toBelow (by simp)))).mono (fun e w' ⟨i, h1, h2⟩ => ⟨(i, i), h1, hw1.lift1 h2⟩))) rfl rfl (fun X Y h0 h => ⟨by first | rfl | (show (.agg (Jn.cells (J1s bl ml l) (X 0).1 (X 2).1 (X 0).2).toArray : Value) = .agg (Jn.cells (J1s bl ml l) (Y 0).1 (Y 2).1 (Y 0).2).toArray; simp only [h0, h 0 (by decide)]), by first | rfl | (show ([Sx.Item.own 0 5 1 (.slice (X 2).1.1 (jput bl ml l 1).length (X 2).1.2) (jput bl ml l 1).length (nums .u8 (jput bl ml l 1))] : List Sx.Item) = [Sx.Item.own 0 5 1 (.slice (Y 2).1.1 (jput bl ml l 1).length (Y 2).1.2) (jput bl ml l 1).length (nums .u8 (jput bl ml l 1))]; simp only [h0, h 0 (by decide)])⟩) (ChainG.yield [] [] (fun X => q_loadA rfl rfl Mn32 Sz32 rfl (readsAll (i := 1) rfl)) rfl rfl (fun _ => rfl) (fun _ _ => rfl) (fun X Y h0 h => ⟨by first | rfl | simp only [h0], by first | rfl | simp only [h0]⟩) (ChainG.ope (fun (X : Nat → (Gh × Gh)) => .agg (Jn.cells (J2s bl ml l bm mm m) (X 4).1 (X 2).1 (X 0).1).toArray) [2] [0, 2] (fun X => oe_call rfl En33 rfl (fun R w1 hw1 => (WriteB (p0 := (X 0).1) (p1 := (X 2).1) (p2 := (X 0).2) (J1_ok (i := 0) hw1 rfl (by omega)) hml (by omega) (hm_.below (hw1.toBelow (by simp))) (by omega) (hh.keep (hw1.toBelow (by simp)))).mono (fun e w' ⟨i, h1, h2⟩ => ⟨(i, i), h1, hw1.lift1 h2⟩))) rfl rfl (fun X Y h0 h => ⟨by first | rfl | (show (.agg (Jn.cells (J2s bl ml l bm mm m) (X 4).1 (X 2).1 (X 0).1).toArray : Value) = .agg (Jn.cells (J2s bl ml l bm mm m) (Y 4).1 (Y 2).1 (Y 0).1).toArray; simp only [h0, h 0 (by decide), h 2 (by decide)]), by first | rfl | (show ([Sx.Item.own 0 5 1 (.slice (X 4).1.1 (jput bm mm m 2).length (X 4).1.2) (jput bm mm m 2).length (nums .u8 (jput bm mm m 2)), Sx.Item.own 0 5 1 (.slice (X 2).1.1 (jput bl ml l 1).length (X 2).1.2) (jput bl ml l 1).length (nums .u8 (jput bl ml l 1))] : List Sx.Item) = [Sx.Item.own 0 5 1 (.slice (Y 4).1.1 (jput bm mm m 2).length (Y 4).1.2) (jput bm mm m 2).length (nums .u8 (jput bm mm m 2)), Sx.Item.own 0 5 1 (.slice (Y 2).1.1 (jput bl ml l 1).length (Y 2).1.2) (jput bl ml l 1).length (nums .u8 (jput bl ml l 1))]; simp only [h0, h 0 (by decide), h 2 (by decide)])⟩) (ChainG.mkG (fun x => x.1.2) (fun k => ((none, k), (none, 0))) (fun _ => rfl) (fun b => .pointer (some ⟨b, 0, none⟩)) [] (fun X => om_alloc rfl Zr38) rfl rfl (fun _ => rfl) (fun _ _ => rfl) (fun X Y h0 h => ⟨by first | rfl | simp only [h0], by first | rfl | (show ([Sx.Item.blk (X 5).1.2 _ 38] : List Sx.Item) = [Sx.Item.blk (Y 5).1.2 _ 38]; simp only [h0])⟩) (ChainG.store [5] [0, 2, 4, 5] (fun X => oe_storeAt (X' := [Sx.Item.blk (X 5).1.2 (Jn.cells (J2s bl ml l bm mm m) (X 4).1 (X 2).1 (X 0).1) 38]) (i := 0) rfl rfl rfl rfl Sz38 rfl rfl (by simp) (by simp [Value.oneCell', Jn.cells]) rfl rfl) rfl rfl (fun _ => rfl) (fun _ _ => rfl) (fun X Y h0 h => ⟨by first | rfl | simp only [h0, h 0 (by decide), h 2 (by decide), h 4 (by decide), h 5 (by decide)], by first | rfl | (show ([Sx.Item.blk (X 5).1.2 (Jn.cells (J2s bl ml l bm mm m) (X 4).1 (X 2).1 (X 0).1) 38] : List Sx.Item) = [Sx.Item.blk (Y 5).1.2 (Jn.cells (J2s bl ml l bm mm m) (Y 4).1 (Y 2).1 (Y 0).1) 38]; simp only [h0, h 0 (by decide), h 2 (by decide), h 4 (by decide), h 5 (by decide)])⟩) (ChainG.nil _ _)))))))) rfl rfl (fun X => [_, _, _, _, _, _, _]) (fun _ => rfl) (fun X => ?_))
              generalize X 0 = g0
              generalize X 2 = g2
              generalize X 4 = g4
              generalize (X 5).1.2 = bj
              try dsimp only [List.take_succ_cons, List.take_zero, List.take_nil, List.drop_succ_cons, List.drop_zero, List.drop_nil, List.nil_append, List.cons_append, List.append_nil, List.length_cons, List.length_nil, Nat.reduceAdd, Nat.zero_add]
              refine wl_ground (fun w_4 Hn_ => ?_)
              have hJ2 : Jn.ok w_4 (J2s bl ml l bm mm m) g4.1 g2.1 g0.1 := J2_ok (i := 0) (j := 1) Hn_ rfl rfl (by omega) (by omega)
              have hx_ := Hn_.toBelow (by simp)
              have fb_bj : Blk w_4 bj _ _ := Hn_.get (i := 2) rfl
              have fb_b3 : Blk w_4 b3 _ _ := Hn_.get (i := 3) rfl
              have fb_b2 : Blk w_4 b2 _ _ := Hn_.get (i := 4) rfl
              have fb_b1 : Blk w_4 b1 _ _ := Hn_.get (i := 5) rfl
              have hh := hh.keep hx_
              have hl_ := hl_.below hx_
              have hm_ := hm_.below hx_
              have hk_ := hk_.below hx_
              have hB := hx_
              refine wl_nil ?_
              refine fq_then ?_
              refine wc_seq ?_
              refine wc_region ?_
              refine wl_q (q_loadA rfl rfl Mn38 Sz38 rfl (reads_blkA (by simp) fb_bj)) rfl rfl (by decide) ?_
              refine wl_q (q_loadA rfl rfl Mn32 Sz32 rfl (reads_blkA (by simp) fb_b3)) rfl rfl (by decide) ?_
              refine wl_callK (ι := (Gh × Gh × Gh)) (fun i => .agg (Jn.cells (J3s bl ml l bm mm m bk mk k) i.1 i.2.1 i.2.2).toArray) (fun i w w' => Jn.ok w' (J3s bl ml l bm mm m bk mk k) i.1 i.2.1 i.2.2) rfl rfl rfl (by decide) En33 rfl (fun w1 hw1 => WriteE ((J2s bl ml l bm mm m)) g4.1 g2.1 g0.1 bk mk ck qk k w1 (hJ2.below (hw1.toBelow (by simp))) (jput_bytes (by omega)) (jput_bytes (by omega)) (hk_.below (hw1.toBelow (by simp))) (by omega) (hh.keep (hw1.toBelow (by simp))) (write3_is hml hmm (by omega) (by omega) bk mk k)) (fun J3 wa_ w_5 _ Hn_ _ hC_ => ?_)
              have hx_ := Hn_.toBelow (by simp)
              have hh := hh.keep hx_
              have hl_ := hl_.below hx_
              have hm_ := hm_.below hx_
              have hk_ := hk_.below hx_
              have fb_bj := fb_bj.below hx_
              have fb_b3 := fb_b3.below hx_
              have fb_b2 := fb_b2.below hx_
              have fb_b1 := fb_b1.below hx_
              have hJ2 := hJ2.below hx_
              have hB := hB.next hx_
              have hJ_J3 := hC_
              refine wl_q (q_move rfl rfl) rfl rfl (by decide) ?_
              refine wl_callK (ι := (Gh × Gh × Gh)) (fun i => .agg (Jn.cells (T3s bl ml l bm mm m bk mk k n) i.1 i.2.1 i.2.2).toArray) (fun i w w' => Jn.ok w' (T3s bl ml l bm mm m bk mk k n) i.1 i.2.1 i.2.2) rfl rfl rfl (by decide) En31 rfl (fun w1 hw1 => TearE ((J3s bl ml l bm mm m bk mk k)) n J3.1 J3.2.1 J3.2.2 w1 (hJ_J3.below (hw1.toBelow (by simp))) (.inr rfl) (by show (jput bm mm m 2).length < _; rw [jput_length]; omega) (by show (jput bk mk k 3).length < _; rw [jput_length]; omega) (by show (jput bl ml l 1).length < _; rw [jput_length]; omega) (tear3_is bl ml l bm mm m bk mk k n)) (fun T3 wa_ w_6 _ Hn_ _ hC_ => ?_)
              have hx_ := Hn_.toBelow (by simp)
              have hh := hh.keep hx_
              have hl_ := hl_.below hx_
              have hm_ := hm_.below hx_
              have hk_ := hk_.below hx_
              have fb_bj := fb_bj.below hx_
              have fb_b3 := fb_b3.below hx_
              have fb_b2 := fb_b2.below hx_
              have fb_b1 := fb_b1.below hx_
              have hJ2 := hJ2.below hx_
              have hJ_J3 := hJ_J3.below hx_
              have hB := hB.next hx_
              have hJ_T3 := hC_
              refine wl_alloc rfl rfl rfl (by decide) Zr38 (fun b7 => ?_)
              refine wl_store (i := 0) rfl rfl rfl rfl rfl rfl Sz38 rfl rfl (by simp) (by simp [Value.oneCell', Jn.cells]) (by first | (simp only [List.take_succ_cons, List.take_zero, List.take_nil, List.drop_succ_cons, List.drop_zero, List.drop_nil, List.nil_append, List.cons_append, List.append_nil, List.length_cons, List.length_nil, Nat.reduceAdd, Nat.zero_add]; rfl) | rfl) (by first | (simp only [List.set_cons_zero, List.set_cons_succ]; rfl) | rfl) ?_
              refine wl_nil ?_
              refine fq_then ?_
              refine wc_seq ?_
              refine wc_region ?_
              refine wl_q (q_loadA rfl rfl Mn38 Sz38 rfl (readsAll (i := 0) rfl)) rfl rfl (by decide) ?_
              refine wl_callK (ι := Gh) (fun i => .tuple #[.agg #[.int .i64 bm, .int .i64 mm, .int .i64 0, .slice i.1 m.length i.2], .int .u64 2, .bool (decide (0 < 2))]) (fun i w w' => RowP w' i m) rfl rfl rfl (by decide) En28 rfl (fun w1 hw1 => LoadE (L := ⟨bm, mm, m, 2⟩) ((T3s bl ml l bm mm m bk mk k n)) T3.1 T3.2.1 T3.2.2 w1 (hJ_T3.below (hw1.toBelow (by simp))) (jput_bytes (by omega)) (torn1_bytes (by omega) (by omega) _) (hh.keep (hw1.toBelow (by simp))) hx) (fun a wa_ w_8 _ Hn_ _ hC_ => ?_)
              have hx_ := Hn_.toBelow (by simp)
              have fb_b7 : Blk w_8 b7 _ _ := Hn_.get (i := 0) rfl
              have hh := hh.keep hx_
              have hl_ := hl_.below hx_
              have hm_ := hm_.below hx_
              have hk_ := hk_.below hx_
              have fb_bj := fb_bj.below hx_
              have fb_b3 := fb_b3.below hx_
              have fb_b2 := fb_b2.below hx_
              have fb_b1 := fb_b1.below hx_
              have hJ2 := hJ2.below hx_
              have hJ_J3 := hJ_J3.below hx_
              have hJ_T3 := hJ_T3.below hx_
              have hB := hB.next hx_
              have hP_a := hC_
              refine wl_q (q_move rfl rfl) rfl rfl (by decide) ?_
              refine wl_q (q_extract rfl rfl rfl) rfl rfl (by decide) ?_
              refine wl_q (q_extract rfl rfl rfl) rfl rfl (by decide) ?_
              refine wl_q (q_extract rfl rfl rfl) rfl rfl (by decide) ?_
              refine wl_alloc rfl rfl rfl (by decide) Zr32 (fun b9 => ?_)
              refine wl_store (i := 0) rfl rfl rfl rfl rfl rfl Sz32 rfl rfl (by simp) (by simp [Value.oneCell', Jn.cells]) (by first | (simp only [List.take_succ_cons, List.take_zero, List.take_nil, List.drop_succ_cons, List.drop_zero, List.drop_nil, List.nil_append, List.cons_append, List.append_nil, List.length_cons, List.length_nil, Nat.reduceAdd, Nat.zero_add]; rfl) | rfl) (by first | (simp only [List.set_cons_zero, List.set_cons_succ]; rfl) | rfl) ?_
              refine wl_q (q_assign rfl rfl) rfl rfl (by decide) ?_
              refine wl_q (q_assign rfl rfl) rfl rfl (by decide) ?_
              refine wl_nil ?_
              refine fq_then ?_
              refine wc_seq ?_
              refine wc_region ?_
              refine wl_q (q_loadA rfl rfl Mn32 Sz32 rfl (reads_blkA (by simp) fb_b2)) rfl rfl (by decide) ?_
              refine wl_callK (ι := Gh) (fun i => .agg #[.int .i64 bm, .int .i64 mm, .int .i64 cm, .slice i.1 m.length i.2]) (fun i w w' => RowR w' i (m.map to91)) rfl rfl rfl (by decide) En27 rfl (fun w1 hw1 => ofK16 bm mm cm qm m w1 (hm_.below (hw1.toBelow (by simp))) (by omega)) (fun om wa_ w_10 _ Hn_ _ hC_ => ?_)
              have hx_ := Hn_.toBelow (by simp)
              have fb_b9 : Blk w_10 b9 _ _ := Hn_.get (i := 0) rfl
              have hh := hh.keep hx_
              have hl_ := hl_.below hx_
              have hm_ := hm_.below hx_
              have hk_ := hk_.below hx_
              have fb_bj := fb_bj.below hx_
              have fb_b3 := fb_b3.below hx_
              have fb_b2 := fb_b2.below hx_
              have fb_b1 := fb_b1.below hx_
              have hJ2 := hJ2.below hx_
              have hJ_J3 := hJ_J3.below hx_
              have hJ_T3 := hJ_T3.below hx_
              have fb_b7 := fb_b7.below hx_
              have hP_a := hP_a.below hx_
              have hB := hB.next hx_
              have hQ_om := hC_
              refine wl_alloc rfl rfl rfl (by decide) Zr42 (fun b11 => ?_)
              refine wl_store (i := 0) rfl rfl rfl rfl rfl rfl Sz42 rfl rfl (by simp) (by simp [Value.oneCell', Jn.cells]) (by first | (simp only [List.take_succ_cons, List.take_zero, List.take_nil, List.drop_succ_cons, List.drop_zero, List.drop_nil, List.nil_append, List.cons_append, List.append_nil, List.length_cons, List.length_nil, Nat.reduceAdd, Nat.zero_add]; rfl) | rfl) (by first | (simp only [List.set_cons_zero, List.set_cons_succ]; rfl) | rfl) ?_
              refine wl_nil ?_
              refine fq_then ?_
              refine wc_seq ?_
              refine wc_region ?_
              refine wl_q (q_fa (o1 := 2) rfl rfl Fo42_2 rfl) rfl rfl (by decide) ?_
              refine wl_store (i := 0) rfl rfl rfl rfl rfl rfl Sz3 rfl rfl (by simp) (by simp [Value.oneCell', Jn.cells]) (by first | (simp only [List.take_succ_cons, List.take_zero, List.take_nil, List.drop_succ_cons, List.drop_zero, List.drop_nil, List.nil_append, List.cons_append, List.append_nil, List.length_cons, List.length_nil, Nat.reduceAdd, Nat.zero_add]; rfl) | rfl) (by first | (simp only [List.set_cons_zero, List.set_cons_succ]; rfl) | rfl) ?_
              refine wl_nil ?_
              refine fq_then ?_
              refine wc_seq ?_
              refine wc_region ?_
              refine wl_q (q_loadA rfl rfl Mn32 Sz32 rfl (reads_blkA (by simp) fb_b3)) rfl rfl (by decide) ?_
              refine wl_callK (ι := Gh) (fun i => .agg #[.int .i64 bk, .int .i64 mk, .int .i64 ck, .slice i.1 k.length i.2]) (fun i w w' => RowR w' i (k.map to91)) rfl rfl rfl (by decide) En27 rfl (fun w1 hw1 => ofK16 bk mk ck qk k w1 (hk_.below (hw1.toBelow (by simp))) (by omega)) (fun ok wa_ w_12 _ Hn_ _ hC_ => ?_)
              have hx_ := Hn_.toBelow (by simp)
              have fb_b11 : Blk w_12 b11 _ _ := Hn_.get (i := 0) rfl
              have hh := hh.keep hx_
              have hl_ := hl_.below hx_
              have hm_ := hm_.below hx_
              have hk_ := hk_.below hx_
              have fb_bj := fb_bj.below hx_
              have fb_b3 := fb_b3.below hx_
              have fb_b2 := fb_b2.below hx_
              have fb_b1 := fb_b1.below hx_
              have hJ2 := hJ2.below hx_
              have hJ_J3 := hJ_J3.below hx_
              have hJ_T3 := hJ_T3.below hx_
              have fb_b7 := fb_b7.below hx_
              have hP_a := hP_a.below hx_
              have fb_b9 := fb_b9.below hx_
              have hQ_om := hQ_om.below hx_
              have hB := hB.next hx_
              have hQ_ok := hC_
              refine wl_alloc rfl rfl rfl (by decide) Zr42 (fun b13 => ?_)
              refine wl_store (i := 0) rfl rfl rfl rfl rfl rfl Sz42 rfl rfl (by simp) (by simp [Value.oneCell', Jn.cells]) (by first | (simp only [List.take_succ_cons, List.take_zero, List.take_nil, List.drop_succ_cons, List.drop_zero, List.drop_nil, List.nil_append, List.cons_append, List.append_nil, List.length_cons, List.length_nil, Nat.reduceAdd, Nat.zero_add]; rfl) | rfl) (by first | (simp only [List.set_cons_zero, List.set_cons_succ]; rfl) | rfl) ?_
              refine wl_nil ?_
              refine fq_then ?_
              refine wc_seq ?_
              refine wc_region ?_
              refine wl_q (q_fa (o1 := 2) rfl rfl Fo42_2 rfl) rfl rfl (by decide) ?_
              refine wl_store (i := 0) rfl rfl rfl rfl rfl rfl Sz3 rfl rfl (by simp) (by simp [Value.oneCell', Jn.cells]) (by first | (simp only [List.take_succ_cons, List.take_zero, List.take_nil, List.drop_succ_cons, List.drop_zero, List.drop_nil, List.nil_append, List.cons_append, List.append_nil, List.length_cons, List.length_nil, Nat.reduceAdd, Nat.zero_add]; rfl) | rfl) (by first | (simp only [List.set_cons_zero, List.set_cons_succ]; rfl) | rfl) ?_
              refine wl_nil ?_
              refine fq_then ?_
              refine wc_seq ?_
              refine wc_seq ?_
              refine wc_region ?_
              refine wl_q (q_move rfl rfl) rfl rfl (by decide) ?_
              refine wl_q (OpQ.to (q_not rfl rfl) (congrArg Value.bool (by rfl))) rfl rfl (by decide) ?_
              refine wl_q (q_move rfl rfl) rfl rfl (by decide) ?_
              refine wl_want (b := false) (q_move rfl rfl) rfl rfl rfl rfl (by decide) ?_
              refine wl_want (b := false) (OpQ.to (q_bin rfl rfl rfl rfl) (congrArg Value.bool (by rfl))) rfl rfl rfl rfl (by decide) ?_
              refine wl_want (b := false) (q_move rfl rfl) rfl rfl rfl rfl (by decide) ?_
              refine wl_skip (b := false) rfl rfl rfl rfl (by decide) ?_
              refine wl_skip (b := false) rfl rfl rfl rfl (by decide) ?_
              refine wl_want (b := false) (q_pick rfl rfl rfl) rfl rfl rfl rfl (by decide) ?_
              refine wl_q (q_pick rfl rfl rfl) rfl rfl (by decide) ?_
              refine wl_nil ?_
              refine fq_then ?_
              refine wc_false rfl ?_
              refine wc_skip ?_
              refine fq_then ?_
              refine wc_seq ?_
              refine wc_region ?_
              refine wl_q (q_loadA rfl rfl Mn38 Sz38 rfl (reads_blkA (by simp) fb_b7)) rfl rfl (by decide) ?_
              refine wl_callK (ι := (Nat × Gh × Gh)) (fun i => .slice (some ⟨i.1, 0, none⟩) 2 2) (fun i w w' => Blk w' i.1 [.slice i.2.1.1 ((T3s bl ml l bm mm m bk mk k n)).s0.length i.2.1.2, .slice i.2.2.1 ((T3s bl ml l bm mm m bk mk k n)).s1.length i.2.2.2] 22 ∧ RowC w' i.2.1 ((T3s bl ml l bm mm m bk mk k n)).s0 ∧ RowC w' i.2.2 ((T3s bl ml l bm mm m bk mk k n)).s1) rfl rfl rfl (by decide) En30 rfl (fun w1 hw1 => SlotsK ((T3s bl ml l bm mm m bk mk k n)) T3.1 T3.2.1 T3.2.2 w1 (hJ_T3.below (hw1.toBelow (by simp))) (by show (jput bm mm m 2).length < _; rw [jput_length]; omega) (by have := hb1.1; show (torn1 (jput bk mk k 3) (jput bl ml l 1) n.toNat).length < _; omega)) (fun sl wa_ w_14 _ Hn_ _ hC_ => ?_)
              have hx_ := Hn_.toBelow (by simp)
              have fb_b13 : Blk w_14 b13 _ _ := Hn_.get (i := 0) rfl
              have hh := hh.keep hx_
              have hl_ := hl_.below hx_
              have hm_ := hm_.below hx_
              have hk_ := hk_.below hx_
              have fb_bj := fb_bj.below hx_
              have fb_b3 := fb_b3.below hx_
              have fb_b2 := fb_b2.below hx_
              have fb_b1 := fb_b1.below hx_
              have hJ2 := hJ2.below hx_
              have hJ_J3 := hJ_J3.below hx_
              have hJ_T3 := hJ_T3.below hx_
              have fb_b7 := fb_b7.below hx_
              have hP_a := hP_a.below hx_
              have fb_b9 := fb_b9.below hx_
              have hQ_om := hQ_om.below hx_
              have fb_b11 := fb_b11.below hx_
              have hQ_ok := hQ_ok.below hx_
              have hB := hB.next hx_
              obtain ⟨fb_sl, hR0_sl, hR1_sl⟩ := hC_
              refine wl_q (q_assign rfl rfl) rfl rfl (by decide) ?_
              refine wl_nil ?_
              refine fq_then ?_
              refine wc_seq ?_
              refine wc_seq ?_
              refine wc_any Fol (any_drawG (ι := Gh) 30 0 [(4, fun X => [Sx.Item.own 0 91 2 (.slice (X 4).1 m.length (X 4).2) m.length ((m.map to91).flatMap pc91)]), (6, fun X => [Sx.Item.own 0 91 2 (.slice (X 4).1 m.length (X 4).2) m.length ((m.map to91).flatMap pc91)])] [⟨[], [], []⟩, ⟨[], [], []⟩, ⟨[], [], []⟩, ⟨[], [], []⟩, ⟨[], [], []⟩, ⟨[], [], []⟩, ⟨[4], [], [4]⟩, ⟨[], [], [4, 6]⟩, ⟨[], [], [4, 6]⟩, ⟨[], [], [4, 6]⟩, ⟨[], [], [4, 6]⟩, ⟨[], [], [4, 6]⟩, ⟨[], [], [4, 6]⟩, ⟨[], [], []⟩, ⟨[], [], []⟩, ⟨[], [], []⟩, ⟨[], [], []⟩, ⟨[], [], []⟩, ⟨[], [], []⟩, ⟨[], [], []⟩, ⟨[], [], []⟩, ⟨[], [], [4, 6]⟩, ⟨[], [], [4, 6]⟩, ⟨[], [], []⟩, ⟨[], [], []⟩, ⟨[], [], []⟩, ⟨[], [], []⟩, ⟨[], [], []⟩, ⟨[], [], [4, 6]⟩, ⟨[], [], [4, 6]⟩] (by kernel_rfl) (ChainG.yield [] [] (fun X => q_move rfl rfl) rfl rfl (fun _ => rfl) (fun _ _ => rfl) (fun X Y h0 h => ⟨by first | rfl | simp only [h0], by first | rfl | simp only [h0]⟩) (ChainG.yield [] [] (fun X => OpQ.to (q_bin rfl rfl rfl rfl) (congrArg Value.bool (by rfl))) rfl rfl (fun _ => rfl) (fun _ _ => rfl) (fun X Y h0 h => ⟨by first | rfl | simp only [h0], by first | rfl | simp only [h0]⟩) (ChainG.yield [] [] (fun X => q_move rfl rfl) rfl rfl (fun _ => rfl) (fun _ _ => rfl) (fun X Y h0 h => ⟨by first | rfl | simp only [h0], by first | rfl | simp only [h0]⟩) (ChainG.wantq (b := true) [] [] (fun X => q_loadA rfl rfl Mn32 Sz32 rfl (reads_blkA (by simp) fb_b9)) rfl rfl (fun _ => rfl) rfl (fun _ => rfl) (fun _ _ => rfl) (fun X Y h0 h => ⟨by first | rfl | simp only [h0], by first | rfl | simp only [h0]⟩) (ChainG.opew (b := true) (fun (X : Nat → Gh) => .agg #[.int .i64 bm, .int .i64 mm, .int .i64 0, .slice (X 4).1 m.length (X 4).2]) [] [] (fun X => oe_call rfl En27 rfl (fun R w1 hw1 => (of16_calls bm mm 0 a m w1 (hP_a.below (hw1.toBelow (by simp))) (by omega)).mono (fun e w' ⟨i, h1, h2⟩ => ⟨i, h1, hw1.lift1 h2⟩))) rfl rfl (fun _ => rfl) rfl (fun X Y h0 h => ⟨by first | rfl | (show (.agg #[.int .i64 bm, .int .i64 mm, .int .i64 0, .slice (X 4).1 m.length (X 4).2] : Value) = .agg #[.int .i64 bm, .int .i64 mm, .int .i64 0, .slice (Y 4).1 m.length (Y 4).2]; simp only [h0]), by first | rfl | (show ([Sx.Item.own 0 91 2 (.slice (X 4).1 m.length (X 4).2) m.length ((m.map to91).flatMap pc91)] : List Sx.Item) = [Sx.Item.own 0 91 2 (.slice (Y 4).1 m.length (Y 4).2) m.length ((m.map to91).flatMap pc91)]; simp only [h0])⟩) (ChainG.wantq (b := true) [] [] (fun X => q_loadA rfl rfl Mn42 Sz42 rfl (reads_blkA (by simp) fb_b11)) rfl rfl (fun _ => rfl) rfl (fun _ => rfl) (fun _ _ => rfl) (fun X Y h0 h => ⟨by first | rfl | simp only [h0], by first | rfl | simp only [h0]⟩) (ChainG.opew (b := true) (fun (X : Nat → Gh) => .bool true) [4] [4] (fun X => oe_call rfl En18 rfl (fun R w1 hw1 => (same_of bm mm 0 (X 4) om m w1 (hw1.get (i := 0) rfl) (hQ_om.below (hw1.toBelow (by simp))) (by omega)).mono (fun e w' ⟨h1, h2⟩ => ⟨(none, 0), h1, hw1.below h2⟩))) rfl rfl (fun _ => rfl) rfl (fun X Y h0 h => ⟨by first | rfl | (show (.bool true : Value) = .bool true; simp only [h0, h 4 (by decide)]), by first | rfl | (show ([Sx.Item.own 0 91 2 (.slice (X 4).1 m.length (X 4).2) m.length ((m.map to91).flatMap pc91)] : List Sx.Item) = [Sx.Item.own 0 91 2 (.slice (Y 4).1 m.length (Y 4).2) m.length ((m.map to91).flatMap pc91)]; simp only [h0, h 4 (by decide)])⟩) (ChainG.wantq (b := true) [] [4, 6] (fun X => q_not rfl rfl) rfl rfl (fun _ => rfl) rfl (fun _ => rfl) (fun _ _ => rfl) (fun X Y h0 h => ⟨by first | rfl | simp only [h0, h 4 (by decide), h 6 (by decide)], by first | rfl | simp only [h0, h 4 (by decide), h 6 (by decide)]⟩) (ChainG.yield [] [4, 6] (fun X => q_pick rfl rfl rfl) rfl rfl (fun _ => rfl) (fun _ _ => rfl) (fun X Y h0 h => ⟨by first | rfl | simp only [h0, h 4 (by decide), h 6 (by decide)], by first | rfl | simp only [h0, h 4 (by decide), h 6 (by decide)]⟩) (ChainG.yield [] [4, 6] (fun X => q_move rfl rfl) rfl rfl (fun _ => rfl) (fun _ _ => rfl) (fun X Y h0 h => ⟨by first | rfl | simp only [h0, h 4 (by decide), h 6 (by decide)], by first | rfl | simp only [h0, h 4 (by decide), h 6 (by decide)]⟩) (ChainG.wantq (b := false) [] [4, 6] (fun X => q_move rfl rfl) rfl rfl (fun _ => rfl) rfl (fun _ => rfl) (fun _ _ => rfl) (fun X Y h0 h => ⟨by first | rfl | simp only [h0, h 4 (by decide), h 6 (by decide)], by first | rfl | simp only [h0, h 4 (by decide), h 6 (by decide)]⟩) (ChainG.wantq (b := false) [] [4, 6] (fun X => OpQ.to (q_bin rfl rfl rfl rfl) (congrArg Value.bool (by rfl))) rfl rfl (fun _ => rfl) rfl (fun _ => rfl) (fun _ _ => rfl) (fun X Y h0 h => ⟨by first | rfl | simp only [h0, h 4 (by decide), h 6 (by decide)], by first | rfl | simp only [h0, h 4 (by decide), h 6 (by decide)]⟩) (ChainG.wantq (b := false) [] [4, 6] (fun X => q_move rfl rfl) rfl rfl (fun _ => rfl) rfl (fun _ => rfl) (fun _ _ => rfl) (fun X Y h0 h => ⟨by first | rfl | simp only [h0, h 4 (by decide), h 6 (by decide)], by first | rfl | simp only [h0, h 4 (by decide), h 6 (by decide)]⟩) (ChainG.skip (b := false) rfl rfl (fun _ => rfl) rfl (fun _ => rfl) (ChainG.skip (b := false) rfl rfl (fun _ => rfl) rfl (fun _ => rfl) (ChainG.skip (b := false) rfl rfl (fun _ => rfl) rfl (fun _ => rfl) (ChainG.skip (b := false) rfl rfl (fun _ => rfl) rfl (fun _ => rfl) (ChainG.skip (b := false) rfl rfl (fun _ => rfl) rfl (fun _ => rfl) (ChainG.skip (b := false) rfl rfl (fun _ => rfl) rfl (fun _ => rfl) (ChainG.skip (b := false) rfl rfl (fun _ => rfl) rfl (fun _ => rfl) (ChainG.skip (b := false) rfl rfl (fun _ => rfl) rfl (fun _ => rfl) (ChainG.wantq (b := false) [] [4, 6] (fun X => q_pick rfl rfl rfl) rfl rfl (fun _ => rfl) rfl (fun _ => rfl) (fun _ _ => rfl) (fun X Y h0 h => ⟨by first | rfl | simp only [h0, h 4 (by decide), h 6 (by decide)], by first | rfl | simp only [h0, h 4 (by decide), h 6 (by decide)]⟩) (ChainG.wantq (b := false) [] [4, 6] (fun X => q_move rfl rfl) rfl rfl (fun _ => rfl) rfl (fun _ => rfl) (fun _ _ => rfl) (fun X Y h0 h => ⟨by first | rfl | simp only [h0, h 4 (by decide), h 6 (by decide)], by first | rfl | simp only [h0, h 4 (by decide), h 6 (by decide)]⟩) (ChainG.skip (b := false) rfl rfl (fun _ => rfl) rfl (fun _ => rfl) (ChainG.skip (b := false) rfl rfl (fun _ => rfl) rfl (fun _ => rfl) (ChainG.skip (b := false) rfl rfl (fun _ => rfl) rfl (fun _ => rfl) (ChainG.skip (b := false) rfl rfl (fun _ => rfl) rfl (fun _ => rfl) (ChainG.skip (b := false) rfl rfl (fun _ => rfl) rfl (fun _ => rfl) (ChainG.wantq (b := false) [] [4, 6] (fun X => q_pick rfl rfl rfl) rfl rfl (fun _ => rfl) rfl (fun _ => rfl) (fun _ _ => rfl) (fun X Y h0 h => ⟨by first | rfl | simp only [h0, h 4 (by decide), h 6 (by decide)], by first | rfl | simp only [h0, h 4 (by decide), h 6 (by decide)]⟩) (ChainG.yield [] [4, 6] (fun X => q_pick rfl rfl rfl) rfl rfl (fun _ => rfl) (fun _ _ => rfl) (fun X Y h0 h => ⟨by first | rfl | simp only [h0, h 4 (by decide), h 6 (by decide)], by first | rfl | simp only [h0, h 4 (by decide), h 6 (by decide)]⟩) (ChainG.nil _ _))))))))))))))))))))))))))))))) rfl rfl (fun X => [_, _]) (fun _ => rfl) (fun X => ?_))
              generalize X 4 = og4
              refine wl_nil ?_
              refine fq_then ?_
              refine wc_false rfl ?_
              refine wc_skip ?_
              refine fq_then ?_
              refine wc_seq ?_
              refine wc_region ?_
              refine wl_q (q_loadA rfl rfl Mn38 Sz38 rfl (reads_blkA (by simp) fb_b7)) rfl rfl (by decide) ?_
              refine wl_q (q_loadA rfl rfl Mn32 Sz32 rfl (reads_blkA (by simp) fb_b1)) rfl rfl (by decide) ?_
              refine wl_callK (ι := (Gh × Gh × Gh)) (fun i => .agg (Jn.cells (J4a bl ml l bm mm m bk mk k n) i.1 i.2.1 i.2.2).toArray) (fun i w w' => Jn.ok w' (J4a bl ml l bm mm m bk mk k n) i.1 i.2.1 i.2.2) rfl rfl rfl (by decide) En33 rfl (fun w1 hw1 => WriteE ((T3s bl ml l bm mm m bk mk k n)) T3.1 T3.2.1 T3.2.2 bl ml cl ql l w1 (hJ_T3.below (hw1.toBelow (by simp))) (jput_bytes (by omega)) (torn1_bytes (by omega) (by omega) _) (hl_.below (hw1.toBelow (by simp))) (by omega) (hh.keep (hw1.toBelow (by simp))) (write4a hx)) (fun J4 wa_ w_15 _ Hn_ _ hC_ => ?_)
              have hx_ := Hn_.toBelow (by simp)
              have hh := hh.keep hx_
              have hl_ := hl_.below hx_
              have hm_ := hm_.below hx_
              have hk_ := hk_.below hx_
              have fb_bj := fb_bj.below hx_
              have fb_b3 := fb_b3.below hx_
              have fb_b2 := fb_b2.below hx_
              have fb_b1 := fb_b1.below hx_
              have hJ2 := hJ2.below hx_
              have hJ_J3 := hJ_J3.below hx_
              have hJ_T3 := hJ_T3.below hx_
              have fb_b7 := fb_b7.below hx_
              have hP_a := hP_a.below hx_
              have fb_b9 := fb_b9.below hx_
              have hQ_om := hQ_om.below hx_
              have fb_b11 := fb_b11.below hx_
              have hQ_ok := hQ_ok.below hx_
              have fb_b13 := fb_b13.below hx_
              have fb_sl := fb_sl.below hx_
              have hR0_sl := hR0_sl.below hx_
              have hR1_sl := hR1_sl.below hx_
              have hB := hB.next hx_
              have hJ_J4 := hC_
              refine wl_callK (ι := Gh) (fun i => .tuple #[.agg #[.int .i64 bl, .int .i64 ml, .int .i64 0, .slice i.1 l.length i.2], .int .u64 3, .bool (decide (0 < 3))]) (fun i w w' => RowP w' i l) rfl rfl rfl (by decide) En28 rfl (fun w1 hw1 => LoadE (L := ⟨bl, ml, l, 3⟩) ((J4a bl ml l bm mm m bk mk k n)) J4.1 J4.2.1 J4.2.2 w1 (hJ_J4.below (hw1.toBelow (by simp))) (jput_bytes (by omega)) (jput_bytes (by omega)) (hh.keep (hw1.toBelow (by simp))) (load4a hmm hml (by omega) (by omega))) (fun z wa_ w_16 _ Hn_ _ hC_ => ?_)
              have hx_ := Hn_.toBelow (by simp)
              have hh := hh.keep hx_
              have hl_ := hl_.below hx_
              have hm_ := hm_.below hx_
              have hk_ := hk_.below hx_
              have fb_bj := fb_bj.below hx_
              have fb_b3 := fb_b3.below hx_
              have fb_b2 := fb_b2.below hx_
              have fb_b1 := fb_b1.below hx_
              have hJ2 := hJ2.below hx_
              have hJ_J3 := hJ_J3.below hx_
              have hJ_T3 := hJ_T3.below hx_
              have fb_b7 := fb_b7.below hx_
              have hP_a := hP_a.below hx_
              have fb_b9 := fb_b9.below hx_
              have hQ_om := hQ_om.below hx_
              have fb_b11 := fb_b11.below hx_
              have hQ_ok := hQ_ok.below hx_
              have fb_b13 := fb_b13.below hx_
              have fb_sl := fb_sl.below hx_
              have hR0_sl := hR0_sl.below hx_
              have hR1_sl := hR1_sl.below hx_
              have hJ_J4 := hJ_J4.below hx_
              have hB := hB.next hx_
              have hP_z := hC_
              refine wl_q (q_move rfl rfl) rfl rfl (by decide) ?_
              refine wl_q (q_extract rfl rfl rfl) rfl rfl (by decide) ?_
              refine wl_q (q_extract rfl rfl rfl) rfl rfl (by decide) ?_
              refine wl_q (q_extract rfl rfl rfl) rfl rfl (by decide) ?_
              refine wl_alloc rfl rfl rfl (by decide) Zr32 (fun b17 => ?_)
              refine wl_store (i := 0) rfl rfl rfl rfl rfl rfl Sz32 rfl rfl (by simp) (by simp [Value.oneCell', Jn.cells]) (by first | (simp only [List.take_succ_cons, List.take_zero, List.take_nil, List.drop_succ_cons, List.drop_zero, List.drop_nil, List.nil_append, List.cons_append, List.append_nil, List.length_cons, List.length_nil, Nat.reduceAdd, Nat.zero_add]; rfl) | rfl) (by first | (simp only [List.set_cons_zero, List.set_cons_succ]; rfl) | rfl) ?_
              refine wl_q (q_assign rfl rfl) rfl rfl (by decide) ?_
              refine wl_q (q_assign rfl rfl) rfl rfl (by decide) ?_
              refine wl_nil ?_
              refine fq_then ?_
              refine wc_seq ?_
              refine wc_any Fol (any_drawG (ι := Gh) 19 0 [] [⟨[], [], []⟩, ⟨[], [], []⟩, ⟨[], [], []⟩, ⟨[], [], []⟩, ⟨[], [], []⟩, ⟨[], [], []⟩, ⟨[], [], []⟩, ⟨[], [], []⟩, ⟨[], [], []⟩, ⟨[], [], []⟩, ⟨[], [], []⟩, ⟨[], [], []⟩, ⟨[], [], []⟩, ⟨[], [], []⟩, ⟨[], [], []⟩, ⟨[], [], []⟩, ⟨[], [], []⟩, ⟨[], [], []⟩, ⟨[], [], []⟩] (by kernel_rfl) (ChainG.yield [] [] (fun X => q_move rfl rfl) rfl rfl (fun _ => rfl) (fun _ _ => rfl) (fun X Y h0 h => ⟨by first | rfl | simp only [h0], by first | rfl | simp only [h0]⟩) (ChainG.yield [] [] (fun X => q_move rfl rfl) rfl rfl (fun _ => rfl) (fun _ _ => rfl) (fun X Y h0 h => ⟨by first | rfl | simp only [h0], by first | rfl | simp only [h0]⟩) (ChainG.yield [] [] (fun X => q_bin rfl rfl rfl rfl) rfl rfl (fun _ => rfl) (fun _ _ => rfl) (fun X Y h0 h => ⟨by first | rfl | simp only [h0], by first | rfl | simp only [h0]⟩) (ChainG.yield [] [] (fun X => OpQ.to (q_bin rfl rfl rfl rfl) (congrArg Value.bool (by rfl))) rfl rfl (fun _ => rfl) (fun _ _ => rfl) (fun X Y h0 h => ⟨by first | rfl | simp only [h0], by first | rfl | simp only [h0]⟩) (ChainG.yield [] [] (fun X => q_move rfl rfl) rfl rfl (fun _ => rfl) (fun _ _ => rfl) (fun X Y h0 h => ⟨by first | rfl | simp only [h0], by first | rfl | simp only [h0]⟩) (ChainG.skip (b := true) rfl rfl (fun _ => rfl) rfl (fun _ => rfl) (ChainG.skip (b := true) rfl rfl (fun _ => rfl) rfl (fun _ => rfl) (ChainG.skip (b := true) rfl rfl (fun _ => rfl) rfl (fun _ => rfl) (ChainG.skipU rfl rfl (fun _ => rfl) rfl (fun _ => rfl) (ChainG.skipU rfl rfl (fun _ => rfl) rfl (fun _ => rfl) (ChainG.skipU rfl rfl (fun _ => rfl) rfl (fun _ => rfl) (ChainG.skipU rfl rfl (fun _ => rfl) rfl (fun _ => rfl) (ChainG.skipU rfl rfl (fun _ => rfl) rfl (fun _ => rfl) (ChainG.skipU rfl rfl (fun _ => rfl) rfl (fun _ => rfl) (ChainG.skipU rfl rfl (fun _ => rfl) rfl (fun _ => rfl) (ChainG.skipU rfl rfl (fun _ => rfl) rfl (fun _ => rfl) (ChainG.skip (b := true) rfl rfl (fun _ => rfl) rfl (fun _ => rfl) (ChainG.yield [] [] (fun X => q_pick rfl rfl rfl) rfl rfl (fun _ => rfl) (fun _ _ => rfl) (fun X Y h0 h => ⟨by first | rfl | simp only [h0], by first | rfl | simp only [h0]⟩) (ChainG.yield [] [] (fun X => q_assign rfl rfl) rfl rfl (fun _ => rfl) (fun _ _ => rfl) (fun X Y h0 h => ⟨by first | rfl | simp only [h0], by first | rfl | simp only [h0]⟩) (ChainG.nil _ _)))))))))))))))))))) rfl rfl (fun X => [_, _]) (fun _ => rfl) (fun X => ?_))
              refine wl_nil ?_
              refine fq_then ?_
              refine wc_ret ?_
              refine fq_ret1 rfl rfl (fun w1 H => ?_)
              exact ⟨rfl, (by first | exact hB.next (H.toBelow (by simp)) | exact H.toBelow (by simp))⟩
set_option maxHeartbeats 2000000 in
theorem aheadB1_calls (bl ml cl bm mm cm bk mk ck n : Int) (ql qm qk : Gh) (l m k : List S51) (w : World) (hl_ : RowP w ql l) (hm_ : RowP w qm m) (hk_ : RowP w qk k) (hh : Half w) (hyp : MayBe bl ml l → MayBe bm mm m → MayBe bk mk k → l.length ≤ 80 → m.length ≤ 80 → k.length ≤ 80 → (jload (jput bm mm m 2) (torn1 (jput bk mk k 3) (jput bl ml l 1) n.toNat)) = ⟨bk, mk, k, 3⟩ ∧ (torn1 (jput bk mk k 3) (jput bl ml l 1) n.toNat) = jput bk mk k 3) :
    Calls Tryd.prog 9 #[.agg #[.int .i64 bl, .int .i64 ml, .int .i64 cl, .slice ql.1 l.length ql.2], .agg #[.int .i64 bm, .int .i64 mm, .int .i64 cm, .slice qm.1 m.length qm.2], .agg #[.int .i64 bk, .int .i64 mk, .int .i64 ck, .slice qk.1 k.length qk.2], .int .i64 n] w fun e w' => e = .returned (.bool true) ∧ Below w.heap.size w w' := by
  refine enter (w0 := w) (hp := [old w]) (env := [(0, .agg #[.int .i64 bl, .int .i64 ml, .int .i64 cl, .slice ql.1 l.length ql.2]), (1, .agg #[.int .i64 bm, .int .i64 mm, .int .i64 cm, .slice qm.1 m.length qm.2]), (2, .agg #[.int .i64 bk, .int .i64 mk, .int .i64 ck, .slice qk.1 k.length qk.2]), (3, .int .i64 n)]) Tryd.func9 rfl 148 rfl (by simp) rfl (HeapOK.start _) ?_
  refine wc_seq ?_
  refine wc_region ?_
  refine wl_box rfl rfl rfl (by decide) rfl rfl (fun b1 => ?_)
  refine wl_box rfl rfl rfl (by decide) rfl rfl (fun b2 => ?_)
  refine wl_box rfl rfl rfl (by decide) rfl rfl (fun b3 => ?_)
  refine wl_q (q_assign rfl rfl) rfl rfl (by decide) ?_
  refine wl_nil ?_
  refine fq_then ?_
  refine wc_seq ?_
  refine wc_region ?_
  refine wl_q (q_call rfl En21 rfl (fun w1 hw1 => awake16_calls w1 (hh.keep (hw1.toBelow (by simp))))) rfl rfl (by decide) ?_
  refine wl_q (q_assign rfl rfl) rfl rfl (by decide) ?_
  refine wl_nil ?_
  refine fq_then ?_
  refine wc_seq ?_
  refine wc_seq ?_
  refine wc_region ?_
  refine wl_q (q_move rfl rfl) rfl rfl (by decide) ?_
  refine wl_q (q_not rfl rfl) rfl rfl (by decide) ?_
  refine wl_nil ?_
  refine fq_then ?_
  refine wc_false rfl ?_
  refine wc_skip ?_
  refine fq_then ?_
  refine wc_seq ?_
  refine wc_region ?_
  refine wl_q (q_loadA rfl rfl Mn32 Sz32 rfl (readsAll (i := 2) rfl)) rfl rfl (by decide) ?_
  refine wl_q (q_call rfl En22 rfl (fun w1 hw1 => few16_calls bl ml cl ql l w1 (hl_.below (hw1.toBelow (by simp))))) rfl rfl (by decide) ?_
  refine wl_q (q_assign rfl rfl) rfl rfl (by decide) ?_
  refine wl_nil ?_
  refine fq_then ?_
  refine wc_seq ?_
  refine wc_region ?_
  refine wl_q (q_loadA rfl rfl Mn32 Sz32 rfl (readsAll (i := 1) rfl)) rfl rfl (by decide) ?_
  refine wl_q (q_call rfl En22 rfl (fun w1 hw1 => few16_calls bm mm cm qm m w1 (hm_.below (hw1.toBelow (by simp))))) rfl rfl (by decide) ?_
  refine wl_q (q_assign rfl rfl) rfl rfl (by decide) ?_
  refine wl_nil ?_
  refine fq_then ?_
  refine wc_seq ?_
  refine wc_region ?_
  refine wl_q (q_loadA rfl rfl Mn32 Sz32 rfl (readsAll (i := 0) rfl)) rfl rfl (by decide) ?_
  refine wl_q (q_call rfl En22 rfl (fun w1 hw1 => few16_calls bk mk ck qk k w1 (hk_.below (hw1.toBelow (by simp))))) rfl rfl (by decide) ?_
  refine wl_q (q_assign rfl rfl) rfl rfl (by decide) ?_
  refine wl_nil ?_
  refine fq_then ?_
  refine wc_seq ?_
  refine wc_seq ?_
  refine wc_region ?_
  refine wl_q (q_move rfl rfl) rfl rfl (by decide) ?_
  refine wl_q (q_not rfl rfl) rfl rfl (by decide) ?_
  refine wl_q (q_move rfl rfl) rfl rfl (by decide) ?_
  refine wl_split (t := 35) rfl (fun h35 => ?_) (fun h35 => ?_)
  · skip
    have q35 := h35
    try simp only [decide_eq_true_eq, decide_eq_false_iff_not, beq_iff_eq, beq_eq_false_iff_ne, bne_iff_ne, ne_eq, bne_eq_false_iff_eq, Int.not_lt, Int.not_le] at q35
    refine wl_skip (b := true) rfl rfl rfl rfl (by decide) ?_
    refine wl_skip (b := true) rfl rfl rfl rfl (by decide) ?_
    refine wl_q (q_pick rfl rfl rfl) rfl rfl (by decide) ?_
    refine wl_q (q_move rfl rfl) rfl rfl (by decide) ?_
    refine wl_skip (b := true) rfl rfl rfl rfl (by decide) ?_
    refine wl_skip (b := true) rfl rfl rfl rfl (by decide) ?_
    refine wl_q (q_pick rfl rfl rfl) rfl rfl (by decide) ?_
    refine wl_q (q_move rfl rfl) rfl rfl (by decide) ?_
    refine wl_skip (b := true) rfl rfl rfl rfl (by decide) ?_
    refine wl_skip (b := true) rfl rfl rfl rfl (by decide) ?_
    refine wl_skip (b := true) rfl rfl rfl rfl (by decide) ?_
    refine wl_q (q_pick rfl rfl rfl) rfl rfl (by decide) ?_
    refine wl_q (q_move rfl rfl) rfl rfl (by decide) ?_
    refine wl_skip (b := true) rfl rfl rfl rfl (by decide) ?_
    refine wl_skip (b := true) rfl rfl rfl rfl (by decide) ?_
    refine wl_skip (b := true) rfl rfl rfl rfl (by decide) ?_
    refine wl_q (q_pick rfl rfl rfl) rfl rfl (by decide) ?_
    refine wl_q (q_move rfl rfl) rfl rfl (by decide) ?_
    refine wl_skip (b := true) rfl rfl rfl rfl (by decide) ?_
    refine wl_skip (b := true) rfl rfl rfl rfl (by decide) ?_
    refine wl_skip (b := true) rfl rfl rfl rfl (by decide) ?_
    refine wl_q (q_pick rfl rfl rfl) rfl rfl (by decide) ?_
    refine wl_nil ?_
    refine fq_then ?_
    refine wc_true rfl ?_
    refine wc_seq ?_
    refine wc_region ?_
    refine wl_q (q_assign rfl rfl) rfl rfl (by decide) ?_
    refine wl_nil ?_
    refine fq_then ?_
    refine wc_ret ?_
    refine fq_then_ret ?_
    refine fq_ret1 rfl rfl (fun w1 H => ?_)
    exact ⟨rfl, (by first | exact hB.next (H.toBelow (by simp)) | exact H.toBelow (by simp))⟩
  · skip
    have q35 := h35
    try simp only [decide_eq_true_eq, decide_eq_false_iff_not, beq_iff_eq, beq_eq_false_iff_ne, bne_iff_ne, ne_eq, bne_eq_false_iff_eq, Int.not_lt, Int.not_le] at q35
    refine wl_want (b := false) (q_move rfl rfl) rfl rfl rfl rfl (by decide) ?_
    refine wl_want (b := false) (q_not rfl rfl) rfl rfl rfl rfl (by decide) ?_
    refine wl_q (q_pick rfl rfl rfl) rfl rfl (by decide) ?_
    refine wl_q (q_move rfl rfl) rfl rfl (by decide) ?_
    refine wl_split (t := 39) rfl (fun h39 => ?_) (fun h39 => ?_)
    · skip
      have q39 := h39
      try simp only [decide_eq_true_eq, decide_eq_false_iff_not, beq_iff_eq, beq_eq_false_iff_ne, bne_iff_ne, ne_eq, bne_eq_false_iff_eq, Int.not_lt, Int.not_le] at q39
      refine wl_skip (b := true) rfl rfl rfl rfl (by decide) ?_
      refine wl_skip (b := true) rfl rfl rfl rfl (by decide) ?_
      refine wl_q (q_pick rfl rfl rfl) rfl rfl (by decide) ?_
      refine wl_q (q_move rfl rfl) rfl rfl (by decide) ?_
      refine wl_skip (b := true) rfl rfl rfl rfl (by decide) ?_
      refine wl_skip (b := true) rfl rfl rfl rfl (by decide) ?_
      refine wl_skip (b := true) rfl rfl rfl rfl (by decide) ?_
      refine wl_q (q_pick rfl rfl rfl) rfl rfl (by decide) ?_
      refine wl_q (q_move rfl rfl) rfl rfl (by decide) ?_
      refine wl_skip (b := true) rfl rfl rfl rfl (by decide) ?_
      refine wl_skip (b := true) rfl rfl rfl rfl (by decide) ?_
      refine wl_skip (b := true) rfl rfl rfl rfl (by decide) ?_
      refine wl_q (q_pick rfl rfl rfl) rfl rfl (by decide) ?_
      refine wl_q (q_move rfl rfl) rfl rfl (by decide) ?_
      refine wl_skip (b := true) rfl rfl rfl rfl (by decide) ?_
      refine wl_skip (b := true) rfl rfl rfl rfl (by decide) ?_
      refine wl_skip (b := true) rfl rfl rfl rfl (by decide) ?_
      refine wl_q (q_pick rfl rfl rfl) rfl rfl (by decide) ?_
      refine wl_nil ?_
      refine fq_then ?_
      refine wc_true rfl ?_
      refine wc_seq ?_
      refine wc_region ?_
      refine wl_q (q_assign rfl rfl) rfl rfl (by decide) ?_
      refine wl_nil ?_
      refine fq_then ?_
      refine wc_ret ?_
      refine fq_then_ret ?_
      refine fq_ret1 rfl rfl (fun w1 H => ?_)
      exact ⟨rfl, (by first | exact hB.next (H.toBelow (by simp)) | exact H.toBelow (by simp))⟩
    · skip
      have q39 := h39
      try simp only [decide_eq_true_eq, decide_eq_false_iff_not, beq_iff_eq, beq_eq_false_iff_ne, bne_iff_ne, ne_eq, bne_eq_false_iff_eq, Int.not_lt, Int.not_le] at q39
      refine wl_want (b := false) (q_move rfl rfl) rfl rfl rfl rfl (by decide) ?_
      refine wl_want (b := false) (q_not rfl rfl) rfl rfl rfl rfl (by decide) ?_
      refine wl_q (q_pick rfl rfl rfl) rfl rfl (by decide) ?_
      refine wl_q (q_move rfl rfl) rfl rfl (by decide) ?_
      refine wl_split (t := 43) rfl (fun h43 => ?_) (fun h43 => ?_)
      · skip
        have q43 := h43
        try simp only [decide_eq_true_eq, decide_eq_false_iff_not, beq_iff_eq, beq_eq_false_iff_ne, bne_iff_ne, ne_eq, bne_eq_false_iff_eq, Int.not_lt, Int.not_le] at q43
        refine wl_skip (b := true) rfl rfl rfl rfl (by decide) ?_
        refine wl_skip (b := true) rfl rfl rfl rfl (by decide) ?_
        refine wl_skip (b := true) rfl rfl rfl rfl (by decide) ?_
        refine wl_q (q_pick rfl rfl rfl) rfl rfl (by decide) ?_
        refine wl_q (q_move rfl rfl) rfl rfl (by decide) ?_
        refine wl_skip (b := true) rfl rfl rfl rfl (by decide) ?_
        refine wl_skip (b := true) rfl rfl rfl rfl (by decide) ?_
        refine wl_skip (b := true) rfl rfl rfl rfl (by decide) ?_
        refine wl_q (q_pick rfl rfl rfl) rfl rfl (by decide) ?_
        refine wl_q (q_move rfl rfl) rfl rfl (by decide) ?_
        refine wl_skip (b := true) rfl rfl rfl rfl (by decide) ?_
        refine wl_skip (b := true) rfl rfl rfl rfl (by decide) ?_
        refine wl_skip (b := true) rfl rfl rfl rfl (by decide) ?_
        refine wl_q (q_pick rfl rfl rfl) rfl rfl (by decide) ?_
        refine wl_nil ?_
        refine fq_then ?_
        refine wc_true rfl ?_
        refine wc_seq ?_
        refine wc_region ?_
        refine wl_q (q_assign rfl rfl) rfl rfl (by decide) ?_
        refine wl_nil ?_
        refine fq_then ?_
        refine wc_ret ?_
        refine fq_then_ret ?_
        refine fq_ret1 rfl rfl (fun w1 H => ?_)
        exact ⟨rfl, (by first | exact hB.next (H.toBelow (by simp)) | exact H.toBelow (by simp))⟩
      · skip
        have q43 := h43
        try simp only [decide_eq_true_eq, decide_eq_false_iff_not, beq_iff_eq, beq_eq_false_iff_ne, bne_iff_ne, ne_eq, bne_eq_false_iff_eq, Int.not_lt, Int.not_le] at q43
        refine wl_want (b := false) (q_loadA rfl rfl Mn32 Sz32 rfl (readsAll (i := 2) rfl)) rfl rfl rfl rfl (by decide) ?_
        refine wl_want (b := false) (q_call rfl En35 rfl (fun w1 hw1 => CheckL bl ml cl ql l w1 (hl_.below (hw1.toBelow (by simp))))) rfl rfl rfl rfl (by decide) ?_
        refine wl_want (b := false) (q_not rfl rfl) rfl rfl rfl rfl (by decide) ?_
        refine wl_q (q_pick rfl rfl rfl) rfl rfl (by decide) ?_
        refine wl_q (q_move rfl rfl) rfl rfl (by decide) ?_
        refine wl_split (t := 48) rfl (fun h48 => ?_) (fun h48 => ?_)
        · skip
          have q48 := h48
          try simp only [decide_eq_true_eq, decide_eq_false_iff_not, beq_iff_eq, beq_eq_false_iff_ne, bne_iff_ne, ne_eq, bne_eq_false_iff_eq, Int.not_lt, Int.not_le] at q48
          refine wl_skip (b := true) rfl rfl rfl rfl (by decide) ?_
          refine wl_skip (b := true) rfl rfl rfl rfl (by decide) ?_
          refine wl_skip (b := true) rfl rfl rfl rfl (by decide) ?_
          refine wl_q (q_pick rfl rfl rfl) rfl rfl (by decide) ?_
          refine wl_q (q_move rfl rfl) rfl rfl (by decide) ?_
          refine wl_skip (b := true) rfl rfl rfl rfl (by decide) ?_
          refine wl_skip (b := true) rfl rfl rfl rfl (by decide) ?_
          refine wl_skip (b := true) rfl rfl rfl rfl (by decide) ?_
          refine wl_q (q_pick rfl rfl rfl) rfl rfl (by decide) ?_
          refine wl_nil ?_
          refine fq_then ?_
          refine wc_true rfl ?_
          refine wc_seq ?_
          refine wc_region ?_
          refine wl_q (q_assign rfl rfl) rfl rfl (by decide) ?_
          refine wl_nil ?_
          refine fq_then ?_
          refine wc_ret ?_
          refine fq_then_ret ?_
          refine fq_ret1 rfl rfl (fun w1 H => ?_)
          exact ⟨rfl, (by first | exact hB.next (H.toBelow (by simp)) | exact H.toBelow (by simp))⟩
        · skip
          have q48 := h48
          try simp only [decide_eq_true_eq, decide_eq_false_iff_not, beq_iff_eq, beq_eq_false_iff_ne, bne_iff_ne, ne_eq, bne_eq_false_iff_eq, Int.not_lt, Int.not_le] at q48
          refine wl_want (b := false) (q_loadA rfl rfl Mn32 Sz32 rfl (readsAll (i := 1) rfl)) rfl rfl rfl rfl (by decide) ?_
          refine wl_want (b := false) (q_call rfl En35 rfl (fun w1 hw1 => CheckL bm mm cm qm m w1 (hm_.below (hw1.toBelow (by simp))))) rfl rfl rfl rfl (by decide) ?_
          refine wl_want (b := false) (q_not rfl rfl) rfl rfl rfl rfl (by decide) ?_
          refine wl_q (q_pick rfl rfl rfl) rfl rfl (by decide) ?_
          refine wl_q (q_move rfl rfl) rfl rfl (by decide) ?_
          refine wl_split (t := 53) rfl (fun h53 => ?_) (fun h53 => ?_)
          · skip
            have q53 := h53
            try simp only [decide_eq_true_eq, decide_eq_false_iff_not, beq_iff_eq, beq_eq_false_iff_ne, bne_iff_ne, ne_eq, bne_eq_false_iff_eq, Int.not_lt, Int.not_le] at q53
            refine wl_skip (b := true) rfl rfl rfl rfl (by decide) ?_
            refine wl_skip (b := true) rfl rfl rfl rfl (by decide) ?_
            refine wl_skip (b := true) rfl rfl rfl rfl (by decide) ?_
            refine wl_q (q_pick rfl rfl rfl) rfl rfl (by decide) ?_
            refine wl_nil ?_
            refine fq_then ?_
            refine wc_true rfl ?_
            refine wc_seq ?_
            refine wc_region ?_
            refine wl_q (q_assign rfl rfl) rfl rfl (by decide) ?_
            refine wl_nil ?_
            refine fq_then ?_
            refine wc_ret ?_
            refine fq_then_ret ?_
            refine fq_ret1 rfl rfl (fun w1 H => ?_)
            exact ⟨rfl, (by first | exact hB.next (H.toBelow (by simp)) | exact H.toBelow (by simp))⟩
          · skip
            have q53 := h53
            try simp only [decide_eq_true_eq, decide_eq_false_iff_not, beq_iff_eq, beq_eq_false_iff_ne, bne_iff_ne, ne_eq, bne_eq_false_iff_eq, Int.not_lt, Int.not_le] at q53
            refine wl_want (b := false) (q_loadA rfl rfl Mn32 Sz32 rfl (readsAll (i := 0) rfl)) rfl rfl rfl rfl (by decide) ?_
            refine wl_want (b := false) (q_call rfl En35 rfl (fun w1 hw1 => CheckL bk mk ck qk k w1 (hk_.below (hw1.toBelow (by simp))))) rfl rfl rfl rfl (by decide) ?_
            refine wl_want (b := false) (q_not rfl rfl) rfl rfl rfl rfl (by decide) ?_
            refine wl_q (q_pick rfl rfl rfl) rfl rfl (by decide) ?_
            refine wl_nil ?_
            refine fq_then ?_
            refine wc_cond rfl (fun h57 => ?_) (fun h57 => ?_)
            · skip
              have q57 := h57
              try simp only [decide_eq_true_eq, decide_eq_false_iff_not, beq_iff_eq, beq_eq_false_iff_ne, bne_iff_ne, ne_eq, bne_eq_false_iff_eq, Int.not_lt, Int.not_le] at q57
              refine wc_seq ?_
              refine wc_region ?_
              refine wl_q (q_assign rfl rfl) rfl rfl (by decide) ?_
              refine wl_nil ?_
              refine fq_then ?_
              refine wc_ret ?_
              refine fq_then_ret ?_
              refine fq_ret1 rfl rfl (fun w1 H => ?_)
              exact ⟨rfl, (by first | exact hB.next (H.toBelow (by simp)) | exact H.toBelow (by simp))⟩
            · skip
              have q57 := h57
              try simp only [decide_eq_true_eq, decide_eq_false_iff_not, beq_iff_eq, beq_eq_false_iff_ne, bne_iff_ne, ne_eq, bne_eq_false_iff_eq, Int.not_lt, Int.not_le] at q57
              have hll : l.length ≤ 80 := by simpa using h35
              have hlm : m.length ≤ 80 := by simpa using h39
              have hlk : k.length ≤ 80 := by simpa using h43
              have hml := mayBe_of (show PChk.chkB bl ml cl l = true by simpa using h48)
              have hmm := mayBe_of (show PChk.chkB bm mm cm m = true by simpa using h53)
              have hmk := mayBe_of (show PChk.chkB bk mk ck k = true by simpa using h57)
              have hb1 := torn1_bytes (bl := bl) (ml := ml) (bk := bk) (mk := mk) hll hlk n.toNat
              obtain ⟨hx, he⟩ := hyp hml hmm hmk hll hlm hlk
              have hg3 := g3_of hmm (by omega) (congrArg JL.seq hx)
              refine wc_skip ?_
              refine fq_then ?_
              refine wc_seq ?_
              refine wc_any Fol (any_drawG (ι := (Gh × Gh)) 7 0 [(2, fun X => [Sx.Item.own 0 5 1 (.slice (X 2).1.1 (jput bl ml l 1).length (X 2).1.2) (jput bl ml l 1).length (nums .u8 (jput bl ml l 1))]), (4, fun X => [Sx.Item.own 0 5 1 (.slice (X 4).1.1 (jput bm mm m 2).length (X 4).1.2) (jput bm mm m 2).length (nums .u8 (jput bm mm m 2)), Sx.Item.own 0 5 1 (.slice (X 2).1.1 (jput bl ml l 1).length (X 2).1.2) (jput bl ml l 1).length (nums .u8 (jput bl ml l 1))]), (5, fun X => [Sx.Item.blk (X 5).1.2 _ 38]), (6, fun X => [Sx.Item.blk (X 5).1.2 (Jn.cells (J2s bl ml l bm mm m) (X 4).1 (X 2).1 (X 0).1) 38])] [⟨[], [], []⟩, ⟨[], [], []⟩, ⟨[], [], [0]⟩, ⟨[], [], []⟩, ⟨[2], [], [0, 2]⟩, ⟨[], [], []⟩, ⟨[5], [], [0, 2, 4, 5]⟩] (by kernel_rfl) (ChainG.ope (fun (X : Nat → (Gh × Gh)) => .agg (Jn.cells J0 (X 0).1 (X 0).2 (none, 0)).toArray) [] [] (fun X => oe_call rfl En16 rfl (fun R w1 hw1 => FromG.mono (fun e w' ⟨i, h1, h2⟩ => ⟨i, h1, hw1.below h2⟩))) rfl rfl (fun X Y h0 h => ⟨by first | rfl | (show (.agg (Jn.cells J0 (X 0).1 (X 0).2 (none, 0)).toArray : Value) = .agg (Jn.cells J0 (Y 0).1 (Y 0).2 (none, 0)).toArray; simp only [h0]), by first | rfl | simp only [h0]⟩) (ChainG.yield [] [] (fun X => q_loadA rfl rfl Mn32 Sz32 rfl (readsAll (i := 2) rfl)) rfl rfl (fun _ => rfl) (fun _ _ => rfl) (fun X Y h0 h => ⟨by first | rfl | simp only [h0], by first | rfl | simp only [h0]⟩) (ChainG.ope (fun (X : Nat → (Gh × Gh)) => .agg (Jn.cells (J1s bl ml l) (X 0).1 (X 2).1 (X 0).2).toArray) [] [0] (fun X => oe_call rfl En33 rfl (fun R w1 hw1 => (WriteA (hl_.below (hw1.toBelow (by simp))) (by omega) (hh.keep (hw1.toBelow (by simp)))).mono (fun e w' ⟨i, h1, h2⟩ => ⟨(i, i), h1, hw1.lift1 h2⟩))) rfl rfl (fun X Y h0 h => ⟨by first | rfl | (show (.agg (Jn.cells (J1s bl ml l) (X 0).1 (X 2).1 (X 0).2).toArray : Value) = .agg (Jn.cells (J1s bl ml l) (Y 0).1 (Y 2).1 (Y 0).2).toArray; simp only [h0, h 0 (by decide)]), by first | rfl | (show ([Sx.Item.own 0 5 1 (.slice (X 2).1.1 (jput bl ml l 1).length (X 2).1.2) (jput bl ml l 1).length (nums .u8 (jput bl ml l 1))] : List Sx.Item) = [Sx.Item.own 0 5 1 (.slice (Y 2).1.1 (jput bl ml l 1).length (Y 2).1.2) (jput bl ml l 1).length (nums .u8 (jput bl ml l 1))]; simp only [h0, h 0 (by decide)])⟩) (ChainG.yield [] [] (fun X => q_loadA rfl rfl Mn32 Sz32 rfl (readsAll (i := 1) rfl)) rfl rfl (fun _ => rfl) (fun _ _ => rfl) (fun X Y h0 h => ⟨by first | rfl | simp only [h0], by first | rfl | simp only [h0]⟩) (ChainG.ope (fun (X : Nat → (Gh × Gh)) => .agg (Jn.cells (J2s bl ml l bm mm m) (X 4).1 (X 2).1 (X 0).1).toArray) [2] [0, 2] (fun X => oe_call rfl En33 rfl (fun R w1 hw1 => (WriteB (p0 := (X 0).1) (p1 := (X 2).1) (p2 := (X 0).2) (J1_ok (i := 0) hw1 rfl (by omega)) hml (by omega) (hm_.below (hw1.toBelow (by simp))) (by omega) (hh.keep (hw1.toBelow (by simp)))).mono (fun e w' ⟨i, h1, h2⟩ => ⟨(i, i), h1, hw1.lift1 h2⟩))) rfl rfl (fun X Y h0 h => ⟨by first | rfl | (show (.agg (Jn.cells (J2s bl ml l bm mm m) (X 4).1 (X 2).1 (X 0).1).toArray : Value) = .agg (Jn.cells (J2s bl ml l bm mm m) (Y 4).1 (Y 2).1 (Y 0).1).toArray; simp only [h0, h 0 (by decide), h 2 (by decide)]), by first | rfl | (show ([Sx.Item.own 0 5 1 (.slice (X 4).1.1 (jput bm mm m 2).length (X 4).1.2) (jput bm mm m 2).length (nums .u8 (jput bm mm m 2)), Sx.Item.own 0 5 1 (.slice (X 2).1.1 (jput bl ml l 1).length (X 2).1.2) (jput bl ml l 1).length (nums .u8 (jput bl ml l 1))] : List Sx.Item) = [Sx.Item.own 0 5 1 (.slice (Y 4).1.1 (jput bm mm m 2).length (Y 4).1.2) (jput bm mm m 2).length (nums .u8 (jput bm mm m 2)), Sx.Item.own 0 5 1 (.slice (Y 2).1.1 (jput bl ml l 1).length (Y 2).1.2) (jput bl ml l 1).length (nums .u8 (jput bl ml l 1))]; simp only [h0, h 0 (by decide), h 2 (by decide)])⟩) (ChainG.mkG (fun x => x.1.2) (fun k => ((none, k), (none, 0))) (fun _ => rfl) (fun b => .pointer (some ⟨b, 0, none⟩)) [] (fun X => om_alloc rfl Zr38) rfl rfl (fun _ => rfl) (fun _ _ => rfl) (fun X Y h0 h => ⟨by first | rfl | simp only [h0], by first | rfl | (show ([Sx.Item.blk (X 5).1.2 _ 38] : List Sx.Item) = [Sx.Item.blk (Y 5).1.2 _ 38]; simp only [h0])⟩) (ChainG.store [5] [0, 2, 4, 5] (fun X => oe_storeAt (X' := [Sx.Item.blk (X 5).1.2 (Jn.cells (J2s bl ml l bm mm m) (X 4).1 (X 2).1 (X 0).1) 38]) (i := 0) rfl rfl rfl rfl Sz38 rfl rfl (by simp) (by simp [Value.oneCell', Jn.cells]) rfl rfl) rfl rfl (fun _ => rfl) (fun _ _ => rfl) (fun X Y h0 h => ⟨by first | rfl | simp only [h0, h 0 (by decide), h 2 (by decide), h 4 (by decide), h 5 (by decide)], by first | rfl | (show ([Sx.Item.blk (X 5).1.2 (Jn.cells (J2s bl ml l bm mm m) (X 4).1 (X 2).1 (X 0).1) 38] : List Sx.Item) = [Sx.Item.blk (Y 5).1.2 (Jn.cells (J2s bl ml l bm mm m) (Y 4).1 (Y 2).1 (Y 0).1) 38]; simp only [h0, h 0 (by decide), h 2 (by decide), h 4 (by decide), h 5 (by decide)])⟩) (ChainG.nil _ _)))))))) rfl rfl (fun X => [_, _, _, _, _, _, _]) (fun _ => rfl) (fun X => ?_))
              generalize X 0 = g0
              generalize X 2 = g2
              generalize X 4 = g4
              generalize (X 5).1.2 = bj
              try dsimp only [List.take_succ_cons, List.take_zero, List.take_nil, List.drop_succ_cons, List.drop_zero, List.drop_nil, List.nil_append, List.cons_append, List.append_nil, List.length_cons, List.length_nil, Nat.reduceAdd, Nat.zero_add]
              refine wl_ground (fun w_4 Hn_ => ?_)
              have hJ2 : Jn.ok w_4 (J2s bl ml l bm mm m) g4.1 g2.1 g0.1 := J2_ok (i := 0) (j := 1) Hn_ rfl rfl (by omega) (by omega)
              have hx_ := Hn_.toBelow (by simp)
              have fb_bj : Blk w_4 bj _ _ := Hn_.get (i := 2) rfl
              have fb_b3 : Blk w_4 b3 _ _ := Hn_.get (i := 3) rfl
              have fb_b2 : Blk w_4 b2 _ _ := Hn_.get (i := 4) rfl
              have fb_b1 : Blk w_4 b1 _ _ := Hn_.get (i := 5) rfl
              have hh := hh.keep hx_
              have hl_ := hl_.below hx_
              have hm_ := hm_.below hx_
              have hk_ := hk_.below hx_
              have hB := hx_
              refine wl_nil ?_
              refine fq_then ?_
              refine wc_seq ?_
              refine wc_region ?_
              refine wl_q (q_loadA rfl rfl Mn38 Sz38 rfl (reads_blkA (by simp) fb_bj)) rfl rfl (by decide) ?_
              refine wl_q (q_loadA rfl rfl Mn32 Sz32 rfl (reads_blkA (by simp) fb_b3)) rfl rfl (by decide) ?_
              refine wl_callK (ι := (Gh × Gh × Gh)) (fun i => .agg (Jn.cells (J3s bl ml l bm mm m bk mk k) i.1 i.2.1 i.2.2).toArray) (fun i w w' => Jn.ok w' (J3s bl ml l bm mm m bk mk k) i.1 i.2.1 i.2.2) rfl rfl rfl (by decide) En33 rfl (fun w1 hw1 => WriteE ((J2s bl ml l bm mm m)) g4.1 g2.1 g0.1 bk mk ck qk k w1 (hJ2.below (hw1.toBelow (by simp))) (jput_bytes (by omega)) (jput_bytes (by omega)) (hk_.below (hw1.toBelow (by simp))) (by omega) (hh.keep (hw1.toBelow (by simp))) (write3_is hml hmm (by omega) (by omega) bk mk k)) (fun J3 wa_ w_5 _ Hn_ _ hC_ => ?_)
              have hx_ := Hn_.toBelow (by simp)
              have hh := hh.keep hx_
              have hl_ := hl_.below hx_
              have hm_ := hm_.below hx_
              have hk_ := hk_.below hx_
              have fb_bj := fb_bj.below hx_
              have fb_b3 := fb_b3.below hx_
              have fb_b2 := fb_b2.below hx_
              have fb_b1 := fb_b1.below hx_
              have hJ2 := hJ2.below hx_
              have hB := hB.next hx_
              have hJ_J3 := hC_
              refine wl_q (q_move rfl rfl) rfl rfl (by decide) ?_
              refine wl_callK (ι := (Gh × Gh × Gh)) (fun i => .agg (Jn.cells (T3s bl ml l bm mm m bk mk k n) i.1 i.2.1 i.2.2).toArray) (fun i w w' => Jn.ok w' (T3s bl ml l bm mm m bk mk k n) i.1 i.2.1 i.2.2) rfl rfl rfl (by decide) En31 rfl (fun w1 hw1 => TearE ((J3s bl ml l bm mm m bk mk k)) n J3.1 J3.2.1 J3.2.2 w1 (hJ_J3.below (hw1.toBelow (by simp))) (.inr rfl) (by show (jput bm mm m 2).length < _; rw [jput_length]; omega) (by show (jput bk mk k 3).length < _; rw [jput_length]; omega) (by show (jput bl ml l 1).length < _; rw [jput_length]; omega) (tear3_is bl ml l bm mm m bk mk k n)) (fun T3 wa_ w_6 _ Hn_ _ hC_ => ?_)
              have hx_ := Hn_.toBelow (by simp)
              have hh := hh.keep hx_
              have hl_ := hl_.below hx_
              have hm_ := hm_.below hx_
              have hk_ := hk_.below hx_
              have fb_bj := fb_bj.below hx_
              have fb_b3 := fb_b3.below hx_
              have fb_b2 := fb_b2.below hx_
              have fb_b1 := fb_b1.below hx_
              have hJ2 := hJ2.below hx_
              have hJ_J3 := hJ_J3.below hx_
              have hB := hB.next hx_
              have hJ_T3 := hC_
              refine wl_alloc rfl rfl rfl (by decide) Zr38 (fun b7 => ?_)
              refine wl_store (i := 0) rfl rfl rfl rfl rfl rfl Sz38 rfl rfl (by simp) (by simp [Value.oneCell', Jn.cells]) (by first | (simp only [List.take_succ_cons, List.take_zero, List.take_nil, List.drop_succ_cons, List.drop_zero, List.drop_nil, List.nil_append, List.cons_append, List.append_nil, List.length_cons, List.length_nil, Nat.reduceAdd, Nat.zero_add]; rfl) | rfl) (by first | (simp only [List.set_cons_zero, List.set_cons_succ]; rfl) | rfl) ?_
              refine wl_nil ?_
              refine fq_then ?_
              refine wc_seq ?_
              refine wc_region ?_
              refine wl_q (q_loadA rfl rfl Mn38 Sz38 rfl (readsAll (i := 0) rfl)) rfl rfl (by decide) ?_
              refine wl_callK (ι := Gh) (fun i => .tuple #[.agg #[.int .i64 bk, .int .i64 mk, .int .i64 0, .slice i.1 k.length i.2], .int .u64 3, .bool (decide (0 < 3))]) (fun i w w' => RowP w' i k) rfl rfl rfl (by decide) En28 rfl (fun w1 hw1 => LoadE (L := ⟨bk, mk, k, 3⟩) ((T3s bl ml l bm mm m bk mk k n)) T3.1 T3.2.1 T3.2.2 w1 (hJ_T3.below (hw1.toBelow (by simp))) (jput_bytes (by omega)) (torn1_bytes (by omega) (by omega) _) (hh.keep (hw1.toBelow (by simp))) hx) (fun a wa_ w_8 _ Hn_ _ hC_ => ?_)
              have hx_ := Hn_.toBelow (by simp)
              have fb_b7 : Blk w_8 b7 _ _ := Hn_.get (i := 0) rfl
              have hh := hh.keep hx_
              have hl_ := hl_.below hx_
              have hm_ := hm_.below hx_
              have hk_ := hk_.below hx_
              have fb_bj := fb_bj.below hx_
              have fb_b3 := fb_b3.below hx_
              have fb_b2 := fb_b2.below hx_
              have fb_b1 := fb_b1.below hx_
              have hJ2 := hJ2.below hx_
              have hJ_J3 := hJ_J3.below hx_
              have hJ_T3 := hJ_T3.below hx_
              have hB := hB.next hx_
              have hP_a := hC_
              refine wl_q (q_move rfl rfl) rfl rfl (by decide) ?_
              refine wl_q (q_extract rfl rfl rfl) rfl rfl (by decide) ?_
              refine wl_q (q_extract rfl rfl rfl) rfl rfl (by decide) ?_
              refine wl_q (q_extract rfl rfl rfl) rfl rfl (by decide) ?_
              refine wl_alloc rfl rfl rfl (by decide) Zr32 (fun b9 => ?_)
              refine wl_store (i := 0) rfl rfl rfl rfl rfl rfl Sz32 rfl rfl (by simp) (by simp [Value.oneCell', Jn.cells]) (by first | (simp only [List.take_succ_cons, List.take_zero, List.take_nil, List.drop_succ_cons, List.drop_zero, List.drop_nil, List.nil_append, List.cons_append, List.append_nil, List.length_cons, List.length_nil, Nat.reduceAdd, Nat.zero_add]; rfl) | rfl) (by first | (simp only [List.set_cons_zero, List.set_cons_succ]; rfl) | rfl) ?_
              refine wl_q (q_assign rfl rfl) rfl rfl (by decide) ?_
              refine wl_q (q_assign rfl rfl) rfl rfl (by decide) ?_
              refine wl_nil ?_
              refine fq_then ?_
              refine wc_seq ?_
              refine wc_region ?_
              refine wl_q (q_loadA rfl rfl Mn32 Sz32 rfl (reads_blkA (by simp) fb_b2)) rfl rfl (by decide) ?_
              refine wl_callK (ι := Gh) (fun i => .agg #[.int .i64 bm, .int .i64 mm, .int .i64 cm, .slice i.1 m.length i.2]) (fun i w w' => RowR w' i (m.map to91)) rfl rfl rfl (by decide) En27 rfl (fun w1 hw1 => ofK16 bm mm cm qm m w1 (hm_.below (hw1.toBelow (by simp))) (by omega)) (fun om wa_ w_10 _ Hn_ _ hC_ => ?_)
              have hx_ := Hn_.toBelow (by simp)
              have fb_b9 : Blk w_10 b9 _ _ := Hn_.get (i := 0) rfl
              have hh := hh.keep hx_
              have hl_ := hl_.below hx_
              have hm_ := hm_.below hx_
              have hk_ := hk_.below hx_
              have fb_bj := fb_bj.below hx_
              have fb_b3 := fb_b3.below hx_
              have fb_b2 := fb_b2.below hx_
              have fb_b1 := fb_b1.below hx_
              have hJ2 := hJ2.below hx_
              have hJ_J3 := hJ_J3.below hx_
              have hJ_T3 := hJ_T3.below hx_
              have fb_b7 := fb_b7.below hx_
              have hP_a := hP_a.below hx_
              have hB := hB.next hx_
              have hQ_om := hC_
              refine wl_alloc rfl rfl rfl (by decide) Zr42 (fun b11 => ?_)
              refine wl_store (i := 0) rfl rfl rfl rfl rfl rfl Sz42 rfl rfl (by simp) (by simp [Value.oneCell', Jn.cells]) (by first | (simp only [List.take_succ_cons, List.take_zero, List.take_nil, List.drop_succ_cons, List.drop_zero, List.drop_nil, List.nil_append, List.cons_append, List.append_nil, List.length_cons, List.length_nil, Nat.reduceAdd, Nat.zero_add]; rfl) | rfl) (by first | (simp only [List.set_cons_zero, List.set_cons_succ]; rfl) | rfl) ?_
              refine wl_nil ?_
              refine fq_then ?_
              refine wc_seq ?_
              refine wc_region ?_
              refine wl_q (q_fa (o1 := 2) rfl rfl Fo42_2 rfl) rfl rfl (by decide) ?_
              refine wl_store (i := 0) rfl rfl rfl rfl rfl rfl Sz3 rfl rfl (by simp) (by simp [Value.oneCell', Jn.cells]) (by first | (simp only [List.take_succ_cons, List.take_zero, List.take_nil, List.drop_succ_cons, List.drop_zero, List.drop_nil, List.nil_append, List.cons_append, List.append_nil, List.length_cons, List.length_nil, Nat.reduceAdd, Nat.zero_add]; rfl) | rfl) (by first | (simp only [List.set_cons_zero, List.set_cons_succ]; rfl) | rfl) ?_
              refine wl_nil ?_
              refine fq_then ?_
              refine wc_seq ?_
              refine wc_region ?_
              refine wl_q (q_loadA rfl rfl Mn32 Sz32 rfl (reads_blkA (by simp) fb_b3)) rfl rfl (by decide) ?_
              refine wl_callK (ι := Gh) (fun i => .agg #[.int .i64 bk, .int .i64 mk, .int .i64 ck, .slice i.1 k.length i.2]) (fun i w w' => RowR w' i (k.map to91)) rfl rfl rfl (by decide) En27 rfl (fun w1 hw1 => ofK16 bk mk ck qk k w1 (hk_.below (hw1.toBelow (by simp))) (by omega)) (fun ok wa_ w_12 _ Hn_ _ hC_ => ?_)
              have hx_ := Hn_.toBelow (by simp)
              have fb_b11 : Blk w_12 b11 _ _ := Hn_.get (i := 0) rfl
              have hh := hh.keep hx_
              have hl_ := hl_.below hx_
              have hm_ := hm_.below hx_
              have hk_ := hk_.below hx_
              have fb_bj := fb_bj.below hx_
              have fb_b3 := fb_b3.below hx_
              have fb_b2 := fb_b2.below hx_
              have fb_b1 := fb_b1.below hx_
              have hJ2 := hJ2.below hx_
              have hJ_J3 := hJ_J3.below hx_
              have hJ_T3 := hJ_T3.below hx_
              have fb_b7 := fb_b7.below hx_
              have hP_a := hP_a.below hx_
              have fb_b9 := fb_b9.below hx_
              have hQ_om := hQ_om.below hx_
              have hB := hB.next hx_
              have hQ_ok := hC_
              refine wl_alloc rfl rfl rfl (by decide) Zr42 (fun b13 => ?_)
              refine wl_store (i := 0) rfl rfl rfl rfl rfl rfl Sz42 rfl rfl (by simp) (by simp [Value.oneCell', Jn.cells]) (by first | (simp only [List.take_succ_cons, List.take_zero, List.take_nil, List.drop_succ_cons, List.drop_zero, List.drop_nil, List.nil_append, List.cons_append, List.append_nil, List.length_cons, List.length_nil, Nat.reduceAdd, Nat.zero_add]; rfl) | rfl) (by first | (simp only [List.set_cons_zero, List.set_cons_succ]; rfl) | rfl) ?_
              refine wl_nil ?_
              refine fq_then ?_
              refine wc_seq ?_
              refine wc_region ?_
              refine wl_q (q_fa (o1 := 2) rfl rfl Fo42_2 rfl) rfl rfl (by decide) ?_
              refine wl_store (i := 0) rfl rfl rfl rfl rfl rfl Sz3 rfl rfl (by simp) (by simp [Value.oneCell', Jn.cells]) (by first | (simp only [List.take_succ_cons, List.take_zero, List.take_nil, List.drop_succ_cons, List.drop_zero, List.drop_nil, List.nil_append, List.cons_append, List.append_nil, List.length_cons, List.length_nil, Nat.reduceAdd, Nat.zero_add]; rfl) | rfl) (by first | (simp only [List.set_cons_zero, List.set_cons_succ]; rfl) | rfl) ?_
              refine wl_nil ?_
              refine fq_then ?_
              refine wc_seq ?_
              refine wc_seq ?_
              refine wc_region ?_
              refine wl_q (q_move rfl rfl) rfl rfl (by decide) ?_
              refine wl_q (OpQ.to (q_not rfl rfl) (congrArg Value.bool (by rfl))) rfl rfl (by decide) ?_
              refine wl_q (q_move rfl rfl) rfl rfl (by decide) ?_
              refine wl_want (b := false) (q_move rfl rfl) rfl rfl rfl rfl (by decide) ?_
              refine wl_want (b := false) (OpQ.to (q_bin rfl rfl rfl rfl) (congrArg Value.bool (by rfl))) rfl rfl rfl rfl (by decide) ?_
              refine wl_want (b := false) (q_move rfl rfl) rfl rfl rfl rfl (by decide) ?_
              refine wl_want (b := true) (q_move rfl rfl) rfl rfl rfl rfl (by decide) ?_
              refine wl_want (b := true) (OpQ.to (q_bin rfl rfl rfl rfl) (congrArg Value.bool (by rfl))) rfl rfl rfl rfl (by decide) ?_
              refine wl_want (b := false) (q_pick rfl rfl rfl) rfl rfl rfl rfl (by decide) ?_
              refine wl_q (q_pick rfl rfl rfl) rfl rfl (by decide) ?_
              refine wl_nil ?_
              refine fq_then ?_
              refine wc_false rfl ?_
              refine wc_skip ?_
              refine fq_then ?_
              refine wc_seq ?_
              refine wc_region ?_
              refine wl_q (q_loadA rfl rfl Mn38 Sz38 rfl (reads_blkA (by simp) fb_b7)) rfl rfl (by decide) ?_
              refine wl_callK (ι := (Nat × Gh × Gh)) (fun i => .slice (some ⟨i.1, 0, none⟩) 2 2) (fun i w w' => Blk w' i.1 [.slice i.2.1.1 ((T3s bl ml l bm mm m bk mk k n)).s0.length i.2.1.2, .slice i.2.2.1 ((T3s bl ml l bm mm m bk mk k n)).s1.length i.2.2.2] 22 ∧ RowC w' i.2.1 ((T3s bl ml l bm mm m bk mk k n)).s0 ∧ RowC w' i.2.2 ((T3s bl ml l bm mm m bk mk k n)).s1) rfl rfl rfl (by decide) En30 rfl (fun w1 hw1 => SlotsK ((T3s bl ml l bm mm m bk mk k n)) T3.1 T3.2.1 T3.2.2 w1 (hJ_T3.below (hw1.toBelow (by simp))) (by show (jput bm mm m 2).length < _; rw [jput_length]; omega) (by have := hb1.1; show (torn1 (jput bk mk k 3) (jput bl ml l 1) n.toNat).length < _; omega)) (fun sl wa_ w_14 _ Hn_ _ hC_ => ?_)
              have hx_ := Hn_.toBelow (by simp)
              have fb_b13 : Blk w_14 b13 _ _ := Hn_.get (i := 0) rfl
              have hh := hh.keep hx_
              have hl_ := hl_.below hx_
              have hm_ := hm_.below hx_
              have hk_ := hk_.below hx_
              have fb_bj := fb_bj.below hx_
              have fb_b3 := fb_b3.below hx_
              have fb_b2 := fb_b2.below hx_
              have fb_b1 := fb_b1.below hx_
              have hJ2 := hJ2.below hx_
              have hJ_J3 := hJ_J3.below hx_
              have hJ_T3 := hJ_T3.below hx_
              have fb_b7 := fb_b7.below hx_
              have hP_a := hP_a.below hx_
              have fb_b9 := fb_b9.below hx_
              have hQ_om := hQ_om.below hx_
              have fb_b11 := fb_b11.below hx_
              have hQ_ok := hQ_ok.below hx_
              have hB := hB.next hx_
              obtain ⟨fb_sl, hR0_sl, hR1_sl⟩ := hC_
              refine wl_q (q_assign rfl rfl) rfl rfl (by decide) ?_
              refine wl_nil ?_
              refine fq_then ?_
              refine wc_seq ?_
              refine wc_seq ?_
              refine wc_any Fol (any_drawG (ι := Gh) 30 0 [(18, fun X => [Sx.Item.own 0 5 1 (.slice (X 18).1 (jput bk mk k 3).length (X 18).2) (jput bk mk k 3).length (nums .u8 (jput bk mk k 3))]), (24, fun X => [Sx.Item.own 0 91 2 (.slice (X 24).1 k.length (X 24).2) k.length ((k.map to91).flatMap pc91)]), (26, fun X => [Sx.Item.own 0 91 2 (.slice (X 24).1 k.length (X 24).2) k.length ((k.map to91).flatMap pc91)])] [⟨[], [], []⟩, ⟨[], [], []⟩, ⟨[], [], []⟩, ⟨[], [], []⟩, ⟨[], [], []⟩, ⟨[], [], []⟩, ⟨[], [], []⟩, ⟨[], [], []⟩, ⟨[], [], []⟩, ⟨[], [], []⟩, ⟨[], [], []⟩, ⟨[], [], []⟩, ⟨[], [], []⟩, ⟨[], [], []⟩, ⟨[], [], []⟩, ⟨[], [], []⟩, ⟨[], [], []⟩, ⟨[], [], []⟩, ⟨[], [], []⟩, ⟨[], [18], [18]⟩, ⟨[], [], [18]⟩, ⟨[], [], [18]⟩, ⟨[], [], [18]⟩, ⟨[], [18], [18]⟩, ⟨[], [], [18]⟩, ⟨[], [18], [18]⟩, ⟨[24], [], [18, 24]⟩, ⟨[], [], [18, 24, 26]⟩, ⟨[], [], [18, 24, 26]⟩, ⟨[], [], [18, 24, 26]⟩] (by kernel_rfl) (ChainG.yield [] [] (fun X => q_move rfl rfl) rfl rfl (fun _ => rfl) (fun _ _ => rfl) (fun X Y h0 h => ⟨by first | rfl | simp only [h0], by first | rfl | simp only [h0]⟩) (ChainG.yield [] [] (fun X => OpQ.to (q_bin rfl rfl rfl rfl) (congrArg Value.bool (by rfl))) rfl rfl (fun _ => rfl) (fun _ _ => rfl) (fun X Y h0 h => ⟨by first | rfl | simp only [h0], by first | rfl | simp only [h0]⟩) (ChainG.yield [] [] (fun X => q_move rfl rfl) rfl rfl (fun _ => rfl) (fun _ _ => rfl) (fun X Y h0 h => ⟨by first | rfl | simp only [h0], by first | rfl | simp only [h0]⟩) (ChainG.skip (b := false) rfl rfl (fun _ => rfl) rfl (fun _ => rfl) (ChainG.skip (b := false) rfl rfl (fun _ => rfl) rfl (fun _ => rfl) (ChainG.skip (b := false) rfl rfl (fun _ => rfl) rfl (fun _ => rfl) (ChainG.skip (b := false) rfl rfl (fun _ => rfl) rfl (fun _ => rfl) (ChainG.skip (b := false) rfl rfl (fun _ => rfl) rfl (fun _ => rfl) (ChainG.yield [] [] (fun X => q_pick rfl rfl rfl) rfl rfl (fun _ => rfl) (fun _ _ => rfl) (fun X Y h0 h => ⟨by first | rfl | simp only [h0], by first | rfl | simp only [h0]⟩) (ChainG.yield [] [] (fun X => q_move rfl rfl) rfl rfl (fun _ => rfl) (fun _ _ => rfl) (fun X Y h0 h => ⟨by first | rfl | simp only [h0], by first | rfl | simp only [h0]⟩) (ChainG.wantq (b := false) [] [] (fun X => q_move rfl rfl) rfl rfl (fun _ => rfl) rfl (fun _ => rfl) (fun _ _ => rfl) (fun X Y h0 h => ⟨by first | rfl | simp only [h0], by first | rfl | simp only [h0]⟩) (ChainG.wantq (b := false) [] [] (fun X => OpQ.to (q_bin rfl rfl rfl rfl) (congrArg Value.bool (by rfl))) rfl rfl (fun _ => rfl) rfl (fun _ => rfl) (fun _ _ => rfl) (fun X Y h0 h => ⟨by first | rfl | simp only [h0], by first | rfl | simp only [h0]⟩) (ChainG.wantq (b := false) [] [] (fun X => q_move rfl rfl) rfl rfl (fun _ => rfl) rfl (fun _ => rfl) (fun _ _ => rfl) (fun X Y h0 h => ⟨by first | rfl | simp only [h0], by first | rfl | simp only [h0]⟩) (ChainG.wantq (b := true) [] [] (fun X => q_move rfl rfl) rfl rfl (fun _ => rfl) rfl (fun _ => rfl) (fun _ _ => rfl) (fun X Y h0 h => ⟨by first | rfl | simp only [h0], by first | rfl | simp only [h0]⟩) (ChainG.wantq (b := true) [] [] (fun X => q_indexS (off := 1) rfl rfl rfl Tryd.underlying68 Sz22 (by decide) (by decide) rfl) rfl rfl (fun _ => rfl) rfl (fun _ => rfl) (fun _ _ => rfl) (fun X Y h0 h => ⟨by first | rfl | simp only [h0], by first | rfl | simp only [h0]⟩) (ChainG.wantq (b := true) [] [] (fun X => q_load rfl rfl Mn22 (reads_blk (by simp) fb_sl rfl)) rfl rfl (fun _ => rfl) rfl (fun _ => rfl) (fun _ _ => rfl) (fun X Y h0 h => ⟨by first | rfl | simp only [h0], by first | rfl | simp only [h0]⟩) (ChainG.wantq (b := true) [] [] (fun X => q_bytesStr rfl rfl Tryd.underlying22 Tryd.underlying5 Tryd.underlying9 (fun w1 hw1 => (hR1_sl.below (hw1.toBelow (by simp))).2)) rfl rfl (fun _ => rfl) rfl (fun _ => rfl) (fun _ _ => rfl) (fun X Y h0 h => ⟨by first | rfl | simp only [h0], by first | rfl | simp only [h0]⟩) (ChainG.wantq (b := true) [] [] (fun X => q_loadA rfl rfl Mn32 Sz32 rfl (reads_blkA (by simp) fb_b3)) rfl rfl (fun _ => rfl) rfl (fun _ => rfl) (fun _ _ => rfl) (fun X Y h0 h => ⟨by first | rfl | simp only [h0], by first | rfl | simp only [h0]⟩) (ChainG.opew (b := true) (fun (X : Nat → Gh) => .slice (X 18).1 (jput bk mk k 3).length (X 18).2) [] [] (fun X => oe_call rfl En25 rfl (fun R w1 hw1 => (Put_calls bk mk ck 3 qk.1 qk.2 k w1 (hk_.below (hw1.toBelow (by simp))).2 hk_.1 (by omega) (hh.keep (hw1.toBelow (by simp)))).mono (fun e w' ⟨i, h1, h2⟩ => ⟨i, h1, hw1.lift1 h2⟩))) rfl rfl (fun _ => rfl) rfl (fun X Y h0 h => ⟨by first | rfl | (show (.slice (X 18).1 (jput bk mk k 3).length (X 18).2 : Value) = .slice (Y 18).1 (jput bk mk k 3).length (Y 18).2; simp only [h0]), by first | rfl | (show ([Sx.Item.own 0 5 1 (.slice (X 18).1 (jput bk mk k 3).length (X 18).2) (jput bk mk k 3).length (nums .u8 (jput bk mk k 3))] : List Sx.Item) = [Sx.Item.own 0 5 1 (.slice (Y 18).1 (jput bk mk k 3).length (Y 18).2) (jput bk mk k 3).length (nums .u8 (jput bk mk k 3))]; simp only [h0])⟩) (ChainG.wantq (b := true) [18] [18] (fun X => q_bytesStr rfl rfl Tryd.underlying22 Tryd.underlying5 Tryd.underlying9 (fun w1 hw1 => (rowC_of_own (hw1.get (i := 0) rfl) rfl (jput_small (by omega))).2)) rfl rfl (fun _ => rfl) rfl (fun _ => rfl) (fun _ _ => rfl) (fun X Y h0 h => ⟨by first | rfl | simp only [h0, h 18 (by decide)], by first | rfl | simp only [h0, h 18 (by decide)]⟩) (ChainG.wantq (b := true) [] [18] (fun X => q_eqlStr (c := true) rfl (.inl ⟨rfl, str_eq he⟩) rfl rfl (fun w => rfl)) rfl rfl (fun _ => rfl) rfl (fun _ => rfl) (fun _ _ => rfl) (fun X Y h0 h => ⟨by first | rfl | simp only [h0, h 18 (by decide)], by first | rfl | simp only [h0, h 18 (by decide)]⟩) (ChainG.wantq (b := false) [] [18] (fun X => q_pick rfl rfl rfl) rfl rfl (fun _ => rfl) rfl (fun _ => rfl) (fun _ _ => rfl) (fun X Y h0 h => ⟨by first | rfl | simp only [h0, h 18 (by decide)], by first | rfl | simp only [h0, h 18 (by decide)]⟩) (ChainG.wantq (b := false) [] [18] (fun X => q_move rfl rfl) rfl rfl (fun _ => rfl) rfl (fun _ => rfl) (fun _ _ => rfl) (fun X Y h0 h => ⟨by first | rfl | simp only [h0, h 18 (by decide)], by first | rfl | simp only [h0, h 18 (by decide)]⟩) (ChainG.wantq (b := true) [18] [18] (fun X => q_loadA rfl rfl Mn32 Sz32 rfl (reads_blkA (by simp) fb_b9)) rfl rfl (fun _ => rfl) rfl (fun _ => rfl) (fun _ _ => rfl) (fun X Y h0 h => ⟨by first | rfl | simp only [h0, h 18 (by decide)], by first | rfl | simp only [h0, h 18 (by decide)]⟩) (ChainG.opew (b := true) (fun (X : Nat → Gh) => .agg #[.int .i64 bk, .int .i64 mk, .int .i64 0, .slice (X 24).1 k.length (X 24).2]) [] [18] (fun X => oe_call rfl En27 rfl (fun R w1 hw1 => (of16_calls bk mk 0 a k w1 (hP_a.below (hw1.toBelow (by simp))) (by omega)).mono (fun e w' ⟨i, h1, h2⟩ => ⟨i, h1, hw1.lift1 h2⟩))) rfl rfl (fun _ => rfl) rfl (fun X Y h0 h => ⟨by first | rfl | (show (.agg #[.int .i64 bk, .int .i64 mk, .int .i64 0, .slice (X 24).1 k.length (X 24).2] : Value) = .agg #[.int .i64 bk, .int .i64 mk, .int .i64 0, .slice (Y 24).1 k.length (Y 24).2]; simp only [h0, h 18 (by decide)]), by first | rfl | (show ([Sx.Item.own 0 91 2 (.slice (X 24).1 k.length (X 24).2) k.length ((k.map to91).flatMap pc91)] : List Sx.Item) = [Sx.Item.own 0 91 2 (.slice (Y 24).1 k.length (Y 24).2) k.length ((k.map to91).flatMap pc91)]; simp only [h0, h 18 (by decide)])⟩) (ChainG.wantq (b := true) [18] [18] (fun X => q_loadA rfl rfl Mn42 Sz42 rfl (reads_blkA (by simp) fb_b13)) rfl rfl (fun _ => rfl) rfl (fun _ => rfl) (fun _ _ => rfl) (fun X Y h0 h => ⟨by first | rfl | simp only [h0, h 18 (by decide)], by first | rfl | simp only [h0, h 18 (by decide)]⟩) (ChainG.opew (b := true) (fun (X : Nat → Gh) => .bool true) [24] [18, 24] (fun X => oe_call rfl En18 rfl (fun R w1 hw1 => (same_of bk mk 0 (X 24) ok k w1 (hw1.get (i := 0) rfl) (hQ_ok.below (hw1.toBelow (by simp))) (by omega)).mono (fun e w' ⟨h1, h2⟩ => ⟨(none, 0), h1, hw1.below h2⟩))) rfl rfl (fun _ => rfl) rfl (fun X Y h0 h => ⟨by first | rfl | (show (.bool true : Value) = .bool true; simp only [h0, h 18 (by decide), h 24 (by decide)]), by first | rfl | (show ([Sx.Item.own 0 91 2 (.slice (X 24).1 k.length (X 24).2) k.length ((k.map to91).flatMap pc91)] : List Sx.Item) = [Sx.Item.own 0 91 2 (.slice (Y 24).1 k.length (Y 24).2) k.length ((k.map to91).flatMap pc91)]; simp only [h0, h 18 (by decide), h 24 (by decide)])⟩) (ChainG.wantq (b := true) [] [18, 24, 26] (fun X => q_not rfl rfl) rfl rfl (fun _ => rfl) rfl (fun _ => rfl) (fun _ _ => rfl) (fun X Y h0 h => ⟨by first | rfl | simp only [h0, h 18 (by decide), h 24 (by decide), h 26 (by decide)], by first | rfl | simp only [h0, h 18 (by decide), h 24 (by decide), h 26 (by decide)]⟩) (ChainG.wantq (b := false) [] [18, 24, 26] (fun X => q_pick rfl rfl rfl) rfl rfl (fun _ => rfl) rfl (fun _ => rfl) (fun _ _ => rfl) (fun X Y h0 h => ⟨by first | rfl | simp only [h0, h 18 (by decide), h 24 (by decide), h 26 (by decide)], by first | rfl | simp only [h0, h 18 (by decide), h 24 (by decide), h 26 (by decide)]⟩) (ChainG.yield [] [18, 24, 26] (fun X => q_pick rfl rfl rfl) rfl rfl (fun _ => rfl) (fun _ _ => rfl) (fun X Y h0 h => ⟨by first | rfl | simp only [h0, h 18 (by decide), h 24 (by decide), h 26 (by decide)], by first | rfl | simp only [h0, h 18 (by decide), h 24 (by decide), h 26 (by decide)]⟩) (ChainG.nil _ _))))))))))))))))))))))))))))))) rfl rfl (fun X => [_, _, _]) (fun _ => rfl) (fun X => ?_))
              generalize X 18 = pu18
              generalize X 24 = og24
              refine wl_nil ?_
              refine fq_then ?_
              refine wc_false rfl ?_
              refine wc_skip ?_
              refine fq_then ?_
              refine wc_seq ?_
              refine wc_region ?_
              refine wl_q (q_loadA rfl rfl Mn38 Sz38 rfl (reads_blkA (by simp) fb_b7)) rfl rfl (by decide) ?_
              refine wl_q (q_loadA rfl rfl Mn32 Sz32 rfl (reads_blkA (by simp) fb_b1)) rfl rfl (by decide) ?_
              refine wl_callK (ι := (Gh × Gh × Gh)) (fun i => .agg (Jn.cells (J4b bl ml l bm mm m bk mk k n) i.1 i.2.1 i.2.2).toArray) (fun i w w' => Jn.ok w' (J4b bl ml l bm mm m bk mk k n) i.1 i.2.1 i.2.2) rfl rfl rfl (by decide) En33 rfl (fun w1 hw1 => WriteE ((T3s bl ml l bm mm m bk mk k n)) T3.1 T3.2.1 T3.2.2 bl ml cl ql l w1 (hJ_T3.below (hw1.toBelow (by simp))) (jput_bytes (by omega)) (torn1_bytes (by omega) (by omega) _) (hl_.below (hw1.toBelow (by simp))) (by omega) (hh.keep (hw1.toBelow (by simp))) (write4b (congrArg JL.seq hx) bl ml l)) (fun J4 wa_ w_15 _ Hn_ _ hC_ => ?_)
              have hx_ := Hn_.toBelow (by simp)
              have hh := hh.keep hx_
              have hl_ := hl_.below hx_
              have hm_ := hm_.below hx_
              have hk_ := hk_.below hx_
              have fb_bj := fb_bj.below hx_
              have fb_b3 := fb_b3.below hx_
              have fb_b2 := fb_b2.below hx_
              have fb_b1 := fb_b1.below hx_
              have hJ2 := hJ2.below hx_
              have hJ_J3 := hJ_J3.below hx_
              have hJ_T3 := hJ_T3.below hx_
              have fb_b7 := fb_b7.below hx_
              have hP_a := hP_a.below hx_
              have fb_b9 := fb_b9.below hx_
              have hQ_om := hQ_om.below hx_
              have fb_b11 := fb_b11.below hx_
              have hQ_ok := hQ_ok.below hx_
              have fb_b13 := fb_b13.below hx_
              have fb_sl := fb_sl.below hx_
              have hR0_sl := hR0_sl.below hx_
              have hR1_sl := hR1_sl.below hx_
              have hB := hB.next hx_
              have hJ_J4 := hC_
              refine wl_callK (ι := Gh) (fun i => .tuple #[.agg #[.int .i64 bl, .int .i64 ml, .int .i64 0, .slice i.1 l.length i.2], .int .u64 4, .bool (decide (0 < 4))]) (fun i w w' => RowP w' i l) rfl rfl rfl (by decide) En28 rfl (fun w1 hw1 => LoadE (L := ⟨bl, ml, l, 4⟩) ((J4b bl ml l bm mm m bk mk k n)) J4.1 J4.2.1 J4.2.2 w1 (hJ_J4.below (hw1.toBelow (by simp))) (jput_bytes (by omega)) (torn1_bytes (by omega) (by omega) _) (hh.keep (hw1.toBelow (by simp))) (load4b hml hg3 (by omega))) (fun z wa_ w_16 _ Hn_ _ hC_ => ?_)
              have hx_ := Hn_.toBelow (by simp)
              have hh := hh.keep hx_
              have hl_ := hl_.below hx_
              have hm_ := hm_.below hx_
              have hk_ := hk_.below hx_
              have fb_bj := fb_bj.below hx_
              have fb_b3 := fb_b3.below hx_
              have fb_b2 := fb_b2.below hx_
              have fb_b1 := fb_b1.below hx_
              have hJ2 := hJ2.below hx_
              have hJ_J3 := hJ_J3.below hx_
              have hJ_T3 := hJ_T3.below hx_
              have fb_b7 := fb_b7.below hx_
              have hP_a := hP_a.below hx_
              have fb_b9 := fb_b9.below hx_
              have hQ_om := hQ_om.below hx_
              have fb_b11 := fb_b11.below hx_
              have hQ_ok := hQ_ok.below hx_
              have fb_b13 := fb_b13.below hx_
              have fb_sl := fb_sl.below hx_
              have hR0_sl := hR0_sl.below hx_
              have hR1_sl := hR1_sl.below hx_
              have hJ_J4 := hJ_J4.below hx_
              have hB := hB.next hx_
              have hP_z := hC_
              refine wl_q (q_move rfl rfl) rfl rfl (by decide) ?_
              refine wl_q (q_extract rfl rfl rfl) rfl rfl (by decide) ?_
              refine wl_q (q_extract rfl rfl rfl) rfl rfl (by decide) ?_
              refine wl_q (q_extract rfl rfl rfl) rfl rfl (by decide) ?_
              refine wl_alloc rfl rfl rfl (by decide) Zr32 (fun b17 => ?_)
              refine wl_store (i := 0) rfl rfl rfl rfl rfl rfl Sz32 rfl rfl (by simp) (by simp [Value.oneCell', Jn.cells]) (by first | (simp only [List.take_succ_cons, List.take_zero, List.take_nil, List.drop_succ_cons, List.drop_zero, List.drop_nil, List.nil_append, List.cons_append, List.append_nil, List.length_cons, List.length_nil, Nat.reduceAdd, Nat.zero_add]; rfl) | rfl) (by first | (simp only [List.set_cons_zero, List.set_cons_succ]; rfl) | rfl) ?_
              refine wl_q (q_assign rfl rfl) rfl rfl (by decide) ?_
              refine wl_q (q_assign rfl rfl) rfl rfl (by decide) ?_
              refine wl_nil ?_
              refine fq_then ?_
              refine wc_seq ?_
              refine wc_any Fol (any_drawG (ι := Gh) 19 0 [] [⟨[], [], []⟩, ⟨[], [], []⟩, ⟨[], [], []⟩, ⟨[], [], []⟩, ⟨[], [], []⟩, ⟨[], [], []⟩, ⟨[], [], []⟩, ⟨[], [], []⟩, ⟨[], [], []⟩, ⟨[], [], []⟩, ⟨[], [], []⟩, ⟨[], [], []⟩, ⟨[], [], []⟩, ⟨[], [], []⟩, ⟨[], [], []⟩, ⟨[], [], []⟩, ⟨[], [], []⟩, ⟨[], [], []⟩, ⟨[], [], []⟩] (by kernel_rfl) (ChainG.yield [] [] (fun X => q_move rfl rfl) rfl rfl (fun _ => rfl) (fun _ _ => rfl) (fun X Y h0 h => ⟨by first | rfl | simp only [h0], by first | rfl | simp only [h0]⟩) (ChainG.yield [] [] (fun X => q_move rfl rfl) rfl rfl (fun _ => rfl) (fun _ _ => rfl) (fun X Y h0 h => ⟨by first | rfl | simp only [h0], by first | rfl | simp only [h0]⟩) (ChainG.yield [] [] (fun X => q_bin rfl rfl rfl rfl) rfl rfl (fun _ => rfl) (fun _ _ => rfl) (fun X Y h0 h => ⟨by first | rfl | simp only [h0], by first | rfl | simp only [h0]⟩) (ChainG.yield [] [] (fun X => OpQ.to (q_bin rfl rfl rfl rfl) (congrArg Value.bool (by rfl))) rfl rfl (fun _ => rfl) (fun _ _ => rfl) (fun X Y h0 h => ⟨by first | rfl | simp only [h0], by first | rfl | simp only [h0]⟩) (ChainG.yield [] [] (fun X => q_move rfl rfl) rfl rfl (fun _ => rfl) (fun _ _ => rfl) (fun X Y h0 h => ⟨by first | rfl | simp only [h0], by first | rfl | simp only [h0]⟩) (ChainG.skip (b := true) rfl rfl (fun _ => rfl) rfl (fun _ => rfl) (ChainG.skip (b := true) rfl rfl (fun _ => rfl) rfl (fun _ => rfl) (ChainG.skip (b := true) rfl rfl (fun _ => rfl) rfl (fun _ => rfl) (ChainG.skipU rfl rfl (fun _ => rfl) rfl (fun _ => rfl) (ChainG.skipU rfl rfl (fun _ => rfl) rfl (fun _ => rfl) (ChainG.skipU rfl rfl (fun _ => rfl) rfl (fun _ => rfl) (ChainG.skipU rfl rfl (fun _ => rfl) rfl (fun _ => rfl) (ChainG.skipU rfl rfl (fun _ => rfl) rfl (fun _ => rfl) (ChainG.skipU rfl rfl (fun _ => rfl) rfl (fun _ => rfl) (ChainG.skipU rfl rfl (fun _ => rfl) rfl (fun _ => rfl) (ChainG.skipU rfl rfl (fun _ => rfl) rfl (fun _ => rfl) (ChainG.skip (b := true) rfl rfl (fun _ => rfl) rfl (fun _ => rfl) (ChainG.yield [] [] (fun X => q_pick rfl rfl rfl) rfl rfl (fun _ => rfl) (fun _ _ => rfl) (fun X Y h0 h => ⟨by first | rfl | simp only [h0], by first | rfl | simp only [h0]⟩) (ChainG.yield [] [] (fun X => q_assign rfl rfl) rfl rfl (fun _ => rfl) (fun _ _ => rfl) (fun X Y h0 h => ⟨by first | rfl | simp only [h0], by first | rfl | simp only [h0]⟩) (ChainG.nil _ _)))))))))))))))))))) rfl rfl (fun X => [_, _]) (fun _ => rfl) (fun X => ?_))
              refine wl_nil ?_
              refine fq_then ?_
              refine wc_ret ?_
              refine fq_ret1 rfl rfl (fun w1 H => ?_)
              exact ⟨rfl, (by first | exact hB.next (H.toBelow (by simp)) | exact H.toBelow (by simp))⟩
set_option maxHeartbeats 2000000 in
theorem aheadB2_calls (bl ml cl bm mm cm bk mk ck n : Int) (ql qm qk : Gh) (l m k : List S51) (w : World) (hl_ : RowP w ql l) (hm_ : RowP w qm m) (hk_ : RowP w qk k) (hh : Half w) (hyp : MayBe bl ml l → MayBe bm mm m → MayBe bk mk k → l.length ≤ 80 → m.length ≤ 80 → k.length ≤ 80 → (jload (jput bm mm m 2) (torn1 (jput bk mk k 3) (jput bl ml l 1) n.toNat)).seq = 3 ∧ (torn1 (jput bk mk k 3) (jput bl ml l 1) n.toNat) ≠ jput bk mk k 3) :
    Calls Tryd.prog 9 #[.agg #[.int .i64 bl, .int .i64 ml, .int .i64 cl, .slice ql.1 l.length ql.2], .agg #[.int .i64 bm, .int .i64 mm, .int .i64 cm, .slice qm.1 m.length qm.2], .agg #[.int .i64 bk, .int .i64 mk, .int .i64 ck, .slice qk.1 k.length qk.2], .int .i64 n] w fun e w' => e = .returned (.bool true) ∧ Below w.heap.size w w' := by
  refine enter (w0 := w) (hp := [old w]) (env := [(0, .agg #[.int .i64 bl, .int .i64 ml, .int .i64 cl, .slice ql.1 l.length ql.2]), (1, .agg #[.int .i64 bm, .int .i64 mm, .int .i64 cm, .slice qm.1 m.length qm.2]), (2, .agg #[.int .i64 bk, .int .i64 mk, .int .i64 ck, .slice qk.1 k.length qk.2]), (3, .int .i64 n)]) Tryd.func9 rfl 148 rfl (by simp) rfl (HeapOK.start _) ?_
  refine wc_seq ?_
  refine wc_region ?_
  refine wl_box rfl rfl rfl (by decide) rfl rfl (fun b1 => ?_)
  refine wl_box rfl rfl rfl (by decide) rfl rfl (fun b2 => ?_)
  refine wl_box rfl rfl rfl (by decide) rfl rfl (fun b3 => ?_)
  refine wl_q (q_assign rfl rfl) rfl rfl (by decide) ?_
  refine wl_nil ?_
  refine fq_then ?_
  refine wc_seq ?_
  refine wc_region ?_
  refine wl_q (q_call rfl En21 rfl (fun w1 hw1 => awake16_calls w1 (hh.keep (hw1.toBelow (by simp))))) rfl rfl (by decide) ?_
  refine wl_q (q_assign rfl rfl) rfl rfl (by decide) ?_
  refine wl_nil ?_
  refine fq_then ?_
  refine wc_seq ?_
  refine wc_seq ?_
  refine wc_region ?_
  refine wl_q (q_move rfl rfl) rfl rfl (by decide) ?_
  refine wl_q (q_not rfl rfl) rfl rfl (by decide) ?_
  refine wl_nil ?_
  refine fq_then ?_
  refine wc_false rfl ?_
  refine wc_skip ?_
  refine fq_then ?_
  refine wc_seq ?_
  refine wc_region ?_
  refine wl_q (q_loadA rfl rfl Mn32 Sz32 rfl (readsAll (i := 2) rfl)) rfl rfl (by decide) ?_
  refine wl_q (q_call rfl En22 rfl (fun w1 hw1 => few16_calls bl ml cl ql l w1 (hl_.below (hw1.toBelow (by simp))))) rfl rfl (by decide) ?_
  refine wl_q (q_assign rfl rfl) rfl rfl (by decide) ?_
  refine wl_nil ?_
  refine fq_then ?_
  refine wc_seq ?_
  refine wc_region ?_
  refine wl_q (q_loadA rfl rfl Mn32 Sz32 rfl (readsAll (i := 1) rfl)) rfl rfl (by decide) ?_
  refine wl_q (q_call rfl En22 rfl (fun w1 hw1 => few16_calls bm mm cm qm m w1 (hm_.below (hw1.toBelow (by simp))))) rfl rfl (by decide) ?_
  refine wl_q (q_assign rfl rfl) rfl rfl (by decide) ?_
  refine wl_nil ?_
  refine fq_then ?_
  refine wc_seq ?_
  refine wc_region ?_
  refine wl_q (q_loadA rfl rfl Mn32 Sz32 rfl (readsAll (i := 0) rfl)) rfl rfl (by decide) ?_
  refine wl_q (q_call rfl En22 rfl (fun w1 hw1 => few16_calls bk mk ck qk k w1 (hk_.below (hw1.toBelow (by simp))))) rfl rfl (by decide) ?_
  refine wl_q (q_assign rfl rfl) rfl rfl (by decide) ?_
  refine wl_nil ?_
  refine fq_then ?_
  refine wc_seq ?_
  refine wc_seq ?_
  refine wc_region ?_
  refine wl_q (q_move rfl rfl) rfl rfl (by decide) ?_
  refine wl_q (q_not rfl rfl) rfl rfl (by decide) ?_
  refine wl_q (q_move rfl rfl) rfl rfl (by decide) ?_
  refine wl_split (t := 35) rfl (fun h35 => ?_) (fun h35 => ?_)
  · skip
    have q35 := h35
    try simp only [decide_eq_true_eq, decide_eq_false_iff_not, beq_iff_eq, beq_eq_false_iff_ne, bne_iff_ne, ne_eq, bne_eq_false_iff_eq, Int.not_lt, Int.not_le] at q35
    refine wl_skip (b := true) rfl rfl rfl rfl (by decide) ?_
    refine wl_skip (b := true) rfl rfl rfl rfl (by decide) ?_
    refine wl_q (q_pick rfl rfl rfl) rfl rfl (by decide) ?_
    refine wl_q (q_move rfl rfl) rfl rfl (by decide) ?_
    refine wl_skip (b := true) rfl rfl rfl rfl (by decide) ?_
    refine wl_skip (b := true) rfl rfl rfl rfl (by decide) ?_
    refine wl_q (q_pick rfl rfl rfl) rfl rfl (by decide) ?_
    refine wl_q (q_move rfl rfl) rfl rfl (by decide) ?_
    refine wl_skip (b := true) rfl rfl rfl rfl (by decide) ?_
    refine wl_skip (b := true) rfl rfl rfl rfl (by decide) ?_
    refine wl_skip (b := true) rfl rfl rfl rfl (by decide) ?_
    refine wl_q (q_pick rfl rfl rfl) rfl rfl (by decide) ?_
    refine wl_q (q_move rfl rfl) rfl rfl (by decide) ?_
    refine wl_skip (b := true) rfl rfl rfl rfl (by decide) ?_
    refine wl_skip (b := true) rfl rfl rfl rfl (by decide) ?_
    refine wl_skip (b := true) rfl rfl rfl rfl (by decide) ?_
    refine wl_q (q_pick rfl rfl rfl) rfl rfl (by decide) ?_
    refine wl_q (q_move rfl rfl) rfl rfl (by decide) ?_
    refine wl_skip (b := true) rfl rfl rfl rfl (by decide) ?_
    refine wl_skip (b := true) rfl rfl rfl rfl (by decide) ?_
    refine wl_skip (b := true) rfl rfl rfl rfl (by decide) ?_
    refine wl_q (q_pick rfl rfl rfl) rfl rfl (by decide) ?_
    refine wl_nil ?_
    refine fq_then ?_
    refine wc_true rfl ?_
    refine wc_seq ?_
    refine wc_region ?_
    refine wl_q (q_assign rfl rfl) rfl rfl (by decide) ?_
    refine wl_nil ?_
    refine fq_then ?_
    refine wc_ret ?_
    refine fq_then_ret ?_
    refine fq_ret1 rfl rfl (fun w1 H => ?_)
    exact ⟨rfl, (by first | exact hB.next (H.toBelow (by simp)) | exact H.toBelow (by simp))⟩
  · skip
    have q35 := h35
    try simp only [decide_eq_true_eq, decide_eq_false_iff_not, beq_iff_eq, beq_eq_false_iff_ne, bne_iff_ne, ne_eq, bne_eq_false_iff_eq, Int.not_lt, Int.not_le] at q35
    refine wl_want (b := false) (q_move rfl rfl) rfl rfl rfl rfl (by decide) ?_
    refine wl_want (b := false) (q_not rfl rfl) rfl rfl rfl rfl (by decide) ?_
    refine wl_q (q_pick rfl rfl rfl) rfl rfl (by decide) ?_
    refine wl_q (q_move rfl rfl) rfl rfl (by decide) ?_
    refine wl_split (t := 39) rfl (fun h39 => ?_) (fun h39 => ?_)
    · skip
      have q39 := h39
      try simp only [decide_eq_true_eq, decide_eq_false_iff_not, beq_iff_eq, beq_eq_false_iff_ne, bne_iff_ne, ne_eq, bne_eq_false_iff_eq, Int.not_lt, Int.not_le] at q39
      refine wl_skip (b := true) rfl rfl rfl rfl (by decide) ?_
      refine wl_skip (b := true) rfl rfl rfl rfl (by decide) ?_
      refine wl_q (q_pick rfl rfl rfl) rfl rfl (by decide) ?_
      refine wl_q (q_move rfl rfl) rfl rfl (by decide) ?_
      refine wl_skip (b := true) rfl rfl rfl rfl (by decide) ?_
      refine wl_skip (b := true) rfl rfl rfl rfl (by decide) ?_
      refine wl_skip (b := true) rfl rfl rfl rfl (by decide) ?_
      refine wl_q (q_pick rfl rfl rfl) rfl rfl (by decide) ?_
      refine wl_q (q_move rfl rfl) rfl rfl (by decide) ?_
      refine wl_skip (b := true) rfl rfl rfl rfl (by decide) ?_
      refine wl_skip (b := true) rfl rfl rfl rfl (by decide) ?_
      refine wl_skip (b := true) rfl rfl rfl rfl (by decide) ?_
      refine wl_q (q_pick rfl rfl rfl) rfl rfl (by decide) ?_
      refine wl_q (q_move rfl rfl) rfl rfl (by decide) ?_
      refine wl_skip (b := true) rfl rfl rfl rfl (by decide) ?_
      refine wl_skip (b := true) rfl rfl rfl rfl (by decide) ?_
      refine wl_skip (b := true) rfl rfl rfl rfl (by decide) ?_
      refine wl_q (q_pick rfl rfl rfl) rfl rfl (by decide) ?_
      refine wl_nil ?_
      refine fq_then ?_
      refine wc_true rfl ?_
      refine wc_seq ?_
      refine wc_region ?_
      refine wl_q (q_assign rfl rfl) rfl rfl (by decide) ?_
      refine wl_nil ?_
      refine fq_then ?_
      refine wc_ret ?_
      refine fq_then_ret ?_
      refine fq_ret1 rfl rfl (fun w1 H => ?_)
      exact ⟨rfl, (by first | exact hB.next (H.toBelow (by simp)) | exact H.toBelow (by simp))⟩
    · skip
      have q39 := h39
      try simp only [decide_eq_true_eq, decide_eq_false_iff_not, beq_iff_eq, beq_eq_false_iff_ne, bne_iff_ne, ne_eq, bne_eq_false_iff_eq, Int.not_lt, Int.not_le] at q39
      refine wl_want (b := false) (q_move rfl rfl) rfl rfl rfl rfl (by decide) ?_
      refine wl_want (b := false) (q_not rfl rfl) rfl rfl rfl rfl (by decide) ?_
      refine wl_q (q_pick rfl rfl rfl) rfl rfl (by decide) ?_
      refine wl_q (q_move rfl rfl) rfl rfl (by decide) ?_
      refine wl_split (t := 43) rfl (fun h43 => ?_) (fun h43 => ?_)
      · skip
        have q43 := h43
        try simp only [decide_eq_true_eq, decide_eq_false_iff_not, beq_iff_eq, beq_eq_false_iff_ne, bne_iff_ne, ne_eq, bne_eq_false_iff_eq, Int.not_lt, Int.not_le] at q43
        refine wl_skip (b := true) rfl rfl rfl rfl (by decide) ?_
        refine wl_skip (b := true) rfl rfl rfl rfl (by decide) ?_
        refine wl_skip (b := true) rfl rfl rfl rfl (by decide) ?_
        refine wl_q (q_pick rfl rfl rfl) rfl rfl (by decide) ?_
        refine wl_q (q_move rfl rfl) rfl rfl (by decide) ?_
        refine wl_skip (b := true) rfl rfl rfl rfl (by decide) ?_
        refine wl_skip (b := true) rfl rfl rfl rfl (by decide) ?_
        refine wl_skip (b := true) rfl rfl rfl rfl (by decide) ?_
        refine wl_q (q_pick rfl rfl rfl) rfl rfl (by decide) ?_
        refine wl_q (q_move rfl rfl) rfl rfl (by decide) ?_
        refine wl_skip (b := true) rfl rfl rfl rfl (by decide) ?_
        refine wl_skip (b := true) rfl rfl rfl rfl (by decide) ?_
        refine wl_skip (b := true) rfl rfl rfl rfl (by decide) ?_
        refine wl_q (q_pick rfl rfl rfl) rfl rfl (by decide) ?_
        refine wl_nil ?_
        refine fq_then ?_
        refine wc_true rfl ?_
        refine wc_seq ?_
        refine wc_region ?_
        refine wl_q (q_assign rfl rfl) rfl rfl (by decide) ?_
        refine wl_nil ?_
        refine fq_then ?_
        refine wc_ret ?_
        refine fq_then_ret ?_
        refine fq_ret1 rfl rfl (fun w1 H => ?_)
        exact ⟨rfl, (by first | exact hB.next (H.toBelow (by simp)) | exact H.toBelow (by simp))⟩
      · skip
        have q43 := h43
        try simp only [decide_eq_true_eq, decide_eq_false_iff_not, beq_iff_eq, beq_eq_false_iff_ne, bne_iff_ne, ne_eq, bne_eq_false_iff_eq, Int.not_lt, Int.not_le] at q43
        refine wl_want (b := false) (q_loadA rfl rfl Mn32 Sz32 rfl (readsAll (i := 2) rfl)) rfl rfl rfl rfl (by decide) ?_
        refine wl_want (b := false) (q_call rfl En35 rfl (fun w1 hw1 => CheckL bl ml cl ql l w1 (hl_.below (hw1.toBelow (by simp))))) rfl rfl rfl rfl (by decide) ?_
        refine wl_want (b := false) (q_not rfl rfl) rfl rfl rfl rfl (by decide) ?_
        refine wl_q (q_pick rfl rfl rfl) rfl rfl (by decide) ?_
        refine wl_q (q_move rfl rfl) rfl rfl (by decide) ?_
        refine wl_split (t := 48) rfl (fun h48 => ?_) (fun h48 => ?_)
        · skip
          have q48 := h48
          try simp only [decide_eq_true_eq, decide_eq_false_iff_not, beq_iff_eq, beq_eq_false_iff_ne, bne_iff_ne, ne_eq, bne_eq_false_iff_eq, Int.not_lt, Int.not_le] at q48
          refine wl_skip (b := true) rfl rfl rfl rfl (by decide) ?_
          refine wl_skip (b := true) rfl rfl rfl rfl (by decide) ?_
          refine wl_skip (b := true) rfl rfl rfl rfl (by decide) ?_
          refine wl_q (q_pick rfl rfl rfl) rfl rfl (by decide) ?_
          refine wl_q (q_move rfl rfl) rfl rfl (by decide) ?_
          refine wl_skip (b := true) rfl rfl rfl rfl (by decide) ?_
          refine wl_skip (b := true) rfl rfl rfl rfl (by decide) ?_
          refine wl_skip (b := true) rfl rfl rfl rfl (by decide) ?_
          refine wl_q (q_pick rfl rfl rfl) rfl rfl (by decide) ?_
          refine wl_nil ?_
          refine fq_then ?_
          refine wc_true rfl ?_
          refine wc_seq ?_
          refine wc_region ?_
          refine wl_q (q_assign rfl rfl) rfl rfl (by decide) ?_
          refine wl_nil ?_
          refine fq_then ?_
          refine wc_ret ?_
          refine fq_then_ret ?_
          refine fq_ret1 rfl rfl (fun w1 H => ?_)
          exact ⟨rfl, (by first | exact hB.next (H.toBelow (by simp)) | exact H.toBelow (by simp))⟩
        · skip
          have q48 := h48
          try simp only [decide_eq_true_eq, decide_eq_false_iff_not, beq_iff_eq, beq_eq_false_iff_ne, bne_iff_ne, ne_eq, bne_eq_false_iff_eq, Int.not_lt, Int.not_le] at q48
          refine wl_want (b := false) (q_loadA rfl rfl Mn32 Sz32 rfl (readsAll (i := 1) rfl)) rfl rfl rfl rfl (by decide) ?_
          refine wl_want (b := false) (q_call rfl En35 rfl (fun w1 hw1 => CheckL bm mm cm qm m w1 (hm_.below (hw1.toBelow (by simp))))) rfl rfl rfl rfl (by decide) ?_
          refine wl_want (b := false) (q_not rfl rfl) rfl rfl rfl rfl (by decide) ?_
          refine wl_q (q_pick rfl rfl rfl) rfl rfl (by decide) ?_
          refine wl_q (q_move rfl rfl) rfl rfl (by decide) ?_
          refine wl_split (t := 53) rfl (fun h53 => ?_) (fun h53 => ?_)
          · skip
            have q53 := h53
            try simp only [decide_eq_true_eq, decide_eq_false_iff_not, beq_iff_eq, beq_eq_false_iff_ne, bne_iff_ne, ne_eq, bne_eq_false_iff_eq, Int.not_lt, Int.not_le] at q53
            refine wl_skip (b := true) rfl rfl rfl rfl (by decide) ?_
            refine wl_skip (b := true) rfl rfl rfl rfl (by decide) ?_
            refine wl_skip (b := true) rfl rfl rfl rfl (by decide) ?_
            refine wl_q (q_pick rfl rfl rfl) rfl rfl (by decide) ?_
            refine wl_nil ?_
            refine fq_then ?_
            refine wc_true rfl ?_
            refine wc_seq ?_
            refine wc_region ?_
            refine wl_q (q_assign rfl rfl) rfl rfl (by decide) ?_
            refine wl_nil ?_
            refine fq_then ?_
            refine wc_ret ?_
            refine fq_then_ret ?_
            refine fq_ret1 rfl rfl (fun w1 H => ?_)
            exact ⟨rfl, (by first | exact hB.next (H.toBelow (by simp)) | exact H.toBelow (by simp))⟩
          · skip
            have q53 := h53
            try simp only [decide_eq_true_eq, decide_eq_false_iff_not, beq_iff_eq, beq_eq_false_iff_ne, bne_iff_ne, ne_eq, bne_eq_false_iff_eq, Int.not_lt, Int.not_le] at q53
            refine wl_want (b := false) (q_loadA rfl rfl Mn32 Sz32 rfl (readsAll (i := 0) rfl)) rfl rfl rfl rfl (by decide) ?_
            refine wl_want (b := false) (q_call rfl En35 rfl (fun w1 hw1 => CheckL bk mk ck qk k w1 (hk_.below (hw1.toBelow (by simp))))) rfl rfl rfl rfl (by decide) ?_
            refine wl_want (b := false) (q_not rfl rfl) rfl rfl rfl rfl (by decide) ?_
            refine wl_q (q_pick rfl rfl rfl) rfl rfl (by decide) ?_
            refine wl_nil ?_
            refine fq_then ?_
            refine wc_cond rfl (fun h57 => ?_) (fun h57 => ?_)
            · skip
              have q57 := h57
              try simp only [decide_eq_true_eq, decide_eq_false_iff_not, beq_iff_eq, beq_eq_false_iff_ne, bne_iff_ne, ne_eq, bne_eq_false_iff_eq, Int.not_lt, Int.not_le] at q57
              refine wc_seq ?_
              refine wc_region ?_
              refine wl_q (q_assign rfl rfl) rfl rfl (by decide) ?_
              refine wl_nil ?_
              refine fq_then ?_
              refine wc_ret ?_
              refine fq_then_ret ?_
              refine fq_ret1 rfl rfl (fun w1 H => ?_)
              exact ⟨rfl, (by first | exact hB.next (H.toBelow (by simp)) | exact H.toBelow (by simp))⟩
            · skip
              have q57 := h57
              try simp only [decide_eq_true_eq, decide_eq_false_iff_not, beq_iff_eq, beq_eq_false_iff_ne, bne_iff_ne, ne_eq, bne_eq_false_iff_eq, Int.not_lt, Int.not_le] at q57
              have hll : l.length ≤ 80 := by simpa using h35
              have hlm : m.length ≤ 80 := by simpa using h39
              have hlk : k.length ≤ 80 := by simpa using h43
              have hml := mayBe_of (show PChk.chkB bl ml cl l = true by simpa using h48)
              have hmm := mayBe_of (show PChk.chkB bm mm cm m = true by simpa using h53)
              have hmk := mayBe_of (show PChk.chkB bk mk ck k = true by simpa using h57)
              have hb1 := torn1_bytes (bl := bl) (ml := ml) (bk := bk) (mk := mk) hll hlk n.toNat
              obtain ⟨hx, he⟩ := hyp hml hmm hmk hll hlm hlk
              have hg3 := g3_of hmm (by omega) hx
              refine wc_skip ?_
              refine fq_then ?_
              refine wc_seq ?_
              refine wc_any Fol (any_drawG (ι := (Gh × Gh)) 7 0 [(2, fun X => [Sx.Item.own 0 5 1 (.slice (X 2).1.1 (jput bl ml l 1).length (X 2).1.2) (jput bl ml l 1).length (nums .u8 (jput bl ml l 1))]), (4, fun X => [Sx.Item.own 0 5 1 (.slice (X 4).1.1 (jput bm mm m 2).length (X 4).1.2) (jput bm mm m 2).length (nums .u8 (jput bm mm m 2)), Sx.Item.own 0 5 1 (.slice (X 2).1.1 (jput bl ml l 1).length (X 2).1.2) (jput bl ml l 1).length (nums .u8 (jput bl ml l 1))]), (5, fun X => [Sx.Item.blk (X 5).1.2 _ 38]), (6, fun X => [Sx.Item.blk (X 5).1.2 (Jn.cells (J2s bl ml l bm mm m) (X 4).1 (X 2).1 (X 0).1) 38])] [⟨[], [], []⟩, ⟨[], [], []⟩, ⟨[], [], [0]⟩, ⟨[], [], []⟩, ⟨[2], [], [0, 2]⟩, ⟨[], [], []⟩, ⟨[5], [], [0, 2, 4, 5]⟩] (by kernel_rfl) (ChainG.ope (fun (X : Nat → (Gh × Gh)) => .agg (Jn.cells J0 (X 0).1 (X 0).2 (none, 0)).toArray) [] [] (fun X => oe_call rfl En16 rfl (fun R w1 hw1 => FromG.mono (fun e w' ⟨i, h1, h2⟩ => ⟨i, h1, hw1.below h2⟩))) rfl rfl (fun X Y h0 h => ⟨by first | rfl | (show (.agg (Jn.cells J0 (X 0).1 (X 0).2 (none, 0)).toArray : Value) = .agg (Jn.cells J0 (Y 0).1 (Y 0).2 (none, 0)).toArray; simp only [h0]), by first | rfl | simp only [h0]⟩) (ChainG.yield [] [] (fun X => q_loadA rfl rfl Mn32 Sz32 rfl (readsAll (i := 2) rfl)) rfl rfl (fun _ => rfl) (fun _ _ => rfl) (fun X Y h0 h => ⟨by first | rfl | simp only [h0], by first | rfl | simp only [h0]⟩) (ChainG.ope (fun (X : Nat → (Gh × Gh)) => .agg (Jn.cells (J1s bl ml l) (X 0).1 (X 2).1 (X 0).2).toArray) [] [0] (fun X => oe_call rfl En33 rfl (fun R w1 hw1 => (WriteA (hl_.below (hw1.toBelow (by simp))) (by omega) (hh.keep (hw1.toBelow (by simp)))).mono (fun e w' ⟨i, h1, h2⟩ => ⟨(i, i), h1, hw1.lift1 h2⟩))) rfl rfl (fun X Y h0 h => ⟨by first | rfl | (show (.agg (Jn.cells (J1s bl ml l) (X 0).1 (X 2).1 (X 0).2).toArray : Value) = .agg (Jn.cells (J1s bl ml l) (Y 0).1 (Y 2).1 (Y 0).2).toArray; simp only [h0, h 0 (by decide)]), by first | rfl | (show ([Sx.Item.own 0 5 1 (.slice (X 2).1.1 (jput bl ml l 1).length (X 2).1.2) (jput bl ml l 1).length (nums .u8 (jput bl ml l 1))] : List Sx.Item) = [Sx.Item.own 0 5 1 (.slice (Y 2).1.1 (jput bl ml l 1).length (Y 2).1.2) (jput bl ml l 1).length (nums .u8 (jput bl ml l 1))]; simp only [h0, h 0 (by decide)])⟩) (ChainG.yield [] [] (fun X => q_loadA rfl rfl Mn32 Sz32 rfl (readsAll (i := 1) rfl)) rfl rfl (fun _ => rfl) (fun _ _ => rfl) (fun X Y h0 h => ⟨by first | rfl | simp only [h0], by first | rfl | simp only [h0]⟩) (ChainG.ope (fun (X : Nat → (Gh × Gh)) => .agg (Jn.cells (J2s bl ml l bm mm m) (X 4).1 (X 2).1 (X 0).1).toArray) [2] [0, 2] (fun X => oe_call rfl En33 rfl (fun R w1 hw1 => (WriteB (p0 := (X 0).1) (p1 := (X 2).1) (p2 := (X 0).2) (J1_ok (i := 0) hw1 rfl (by omega)) hml (by omega) (hm_.below (hw1.toBelow (by simp))) (by omega) (hh.keep (hw1.toBelow (by simp)))).mono (fun e w' ⟨i, h1, h2⟩ => ⟨(i, i), h1, hw1.lift1 h2⟩))) rfl rfl (fun X Y h0 h => ⟨by first | rfl | (show (.agg (Jn.cells (J2s bl ml l bm mm m) (X 4).1 (X 2).1 (X 0).1).toArray : Value) = .agg (Jn.cells (J2s bl ml l bm mm m) (Y 4).1 (Y 2).1 (Y 0).1).toArray; simp only [h0, h 0 (by decide), h 2 (by decide)]), by first | rfl | (show ([Sx.Item.own 0 5 1 (.slice (X 4).1.1 (jput bm mm m 2).length (X 4).1.2) (jput bm mm m 2).length (nums .u8 (jput bm mm m 2)), Sx.Item.own 0 5 1 (.slice (X 2).1.1 (jput bl ml l 1).length (X 2).1.2) (jput bl ml l 1).length (nums .u8 (jput bl ml l 1))] : List Sx.Item) = [Sx.Item.own 0 5 1 (.slice (Y 4).1.1 (jput bm mm m 2).length (Y 4).1.2) (jput bm mm m 2).length (nums .u8 (jput bm mm m 2)), Sx.Item.own 0 5 1 (.slice (Y 2).1.1 (jput bl ml l 1).length (Y 2).1.2) (jput bl ml l 1).length (nums .u8 (jput bl ml l 1))]; simp only [h0, h 0 (by decide), h 2 (by decide)])⟩) (ChainG.mkG (fun x => x.1.2) (fun k => ((none, k), (none, 0))) (fun _ => rfl) (fun b => .pointer (some ⟨b, 0, none⟩)) [] (fun X => om_alloc rfl Zr38) rfl rfl (fun _ => rfl) (fun _ _ => rfl) (fun X Y h0 h => ⟨by first | rfl | simp only [h0], by first | rfl | (show ([Sx.Item.blk (X 5).1.2 _ 38] : List Sx.Item) = [Sx.Item.blk (Y 5).1.2 _ 38]; simp only [h0])⟩) (ChainG.store [5] [0, 2, 4, 5] (fun X => oe_storeAt (X' := [Sx.Item.blk (X 5).1.2 (Jn.cells (J2s bl ml l bm mm m) (X 4).1 (X 2).1 (X 0).1) 38]) (i := 0) rfl rfl rfl rfl Sz38 rfl rfl (by simp) (by simp [Value.oneCell', Jn.cells]) rfl rfl) rfl rfl (fun _ => rfl) (fun _ _ => rfl) (fun X Y h0 h => ⟨by first | rfl | simp only [h0, h 0 (by decide), h 2 (by decide), h 4 (by decide), h 5 (by decide)], by first | rfl | (show ([Sx.Item.blk (X 5).1.2 (Jn.cells (J2s bl ml l bm mm m) (X 4).1 (X 2).1 (X 0).1) 38] : List Sx.Item) = [Sx.Item.blk (Y 5).1.2 (Jn.cells (J2s bl ml l bm mm m) (Y 4).1 (Y 2).1 (Y 0).1) 38]; simp only [h0, h 0 (by decide), h 2 (by decide), h 4 (by decide), h 5 (by decide)])⟩) (ChainG.nil _ _)))))))) rfl rfl (fun X => [_, _, _, _, _, _, _]) (fun _ => rfl) (fun X => ?_))
              generalize X 0 = g0
              generalize X 2 = g2
              generalize X 4 = g4
              generalize (X 5).1.2 = bj
              try dsimp only [List.take_succ_cons, List.take_zero, List.take_nil, List.drop_succ_cons, List.drop_zero, List.drop_nil, List.nil_append, List.cons_append, List.append_nil, List.length_cons, List.length_nil, Nat.reduceAdd, Nat.zero_add]
              refine wl_ground (fun w_4 Hn_ => ?_)
              have hJ2 : Jn.ok w_4 (J2s bl ml l bm mm m) g4.1 g2.1 g0.1 := J2_ok (i := 0) (j := 1) Hn_ rfl rfl (by omega) (by omega)
              have hx_ := Hn_.toBelow (by simp)
              have fb_bj : Blk w_4 bj _ _ := Hn_.get (i := 2) rfl
              have fb_b3 : Blk w_4 b3 _ _ := Hn_.get (i := 3) rfl
              have fb_b2 : Blk w_4 b2 _ _ := Hn_.get (i := 4) rfl
              have fb_b1 : Blk w_4 b1 _ _ := Hn_.get (i := 5) rfl
              have hh := hh.keep hx_
              have hl_ := hl_.below hx_
              have hm_ := hm_.below hx_
              have hk_ := hk_.below hx_
              have hB := hx_
              refine wl_nil ?_
              refine fq_then ?_
              refine wc_seq ?_
              refine wc_region ?_
              refine wl_q (q_loadA rfl rfl Mn38 Sz38 rfl (reads_blkA (by simp) fb_bj)) rfl rfl (by decide) ?_
              refine wl_q (q_loadA rfl rfl Mn32 Sz32 rfl (reads_blkA (by simp) fb_b3)) rfl rfl (by decide) ?_
              refine wl_callK (ι := (Gh × Gh × Gh)) (fun i => .agg (Jn.cells (J3s bl ml l bm mm m bk mk k) i.1 i.2.1 i.2.2).toArray) (fun i w w' => Jn.ok w' (J3s bl ml l bm mm m bk mk k) i.1 i.2.1 i.2.2) rfl rfl rfl (by decide) En33 rfl (fun w1 hw1 => WriteE ((J2s bl ml l bm mm m)) g4.1 g2.1 g0.1 bk mk ck qk k w1 (hJ2.below (hw1.toBelow (by simp))) (jput_bytes (by omega)) (jput_bytes (by omega)) (hk_.below (hw1.toBelow (by simp))) (by omega) (hh.keep (hw1.toBelow (by simp))) (write3_is hml hmm (by omega) (by omega) bk mk k)) (fun J3 wa_ w_5 _ Hn_ _ hC_ => ?_)
              have hx_ := Hn_.toBelow (by simp)
              have hh := hh.keep hx_
              have hl_ := hl_.below hx_
              have hm_ := hm_.below hx_
              have hk_ := hk_.below hx_
              have fb_bj := fb_bj.below hx_
              have fb_b3 := fb_b3.below hx_
              have fb_b2 := fb_b2.below hx_
              have fb_b1 := fb_b1.below hx_
              have hJ2 := hJ2.below hx_
              have hB := hB.next hx_
              have hJ_J3 := hC_
              refine wl_q (q_move rfl rfl) rfl rfl (by decide) ?_
              refine wl_callK (ι := (Gh × Gh × Gh)) (fun i => .agg (Jn.cells (T3s bl ml l bm mm m bk mk k n) i.1 i.2.1 i.2.2).toArray) (fun i w w' => Jn.ok w' (T3s bl ml l bm mm m bk mk k n) i.1 i.2.1 i.2.2) rfl rfl rfl (by decide) En31 rfl (fun w1 hw1 => TearE ((J3s bl ml l bm mm m bk mk k)) n J3.1 J3.2.1 J3.2.2 w1 (hJ_J3.below (hw1.toBelow (by simp))) (.inr rfl) (by show (jput bm mm m 2).length < _; rw [jput_length]; omega) (by show (jput bk mk k 3).length < _; rw [jput_length]; omega) (by show (jput bl ml l 1).length < _; rw [jput_length]; omega) (tear3_is bl ml l bm mm m bk mk k n)) (fun T3 wa_ w_6 _ Hn_ _ hC_ => ?_)
              have hx_ := Hn_.toBelow (by simp)
              have hh := hh.keep hx_
              have hl_ := hl_.below hx_
              have hm_ := hm_.below hx_
              have hk_ := hk_.below hx_
              have fb_bj := fb_bj.below hx_
              have fb_b3 := fb_b3.below hx_
              have fb_b2 := fb_b2.below hx_
              have fb_b1 := fb_b1.below hx_
              have hJ2 := hJ2.below hx_
              have hJ_J3 := hJ_J3.below hx_
              have hB := hB.next hx_
              have hJ_T3 := hC_
              refine wl_alloc rfl rfl rfl (by decide) Zr38 (fun b7 => ?_)
              refine wl_store (i := 0) rfl rfl rfl rfl rfl rfl Sz38 rfl rfl (by simp) (by simp [Value.oneCell', Jn.cells]) (by first | (simp only [List.take_succ_cons, List.take_zero, List.take_nil, List.drop_succ_cons, List.drop_zero, List.drop_nil, List.nil_append, List.cons_append, List.append_nil, List.length_cons, List.length_nil, Nat.reduceAdd, Nat.zero_add]; rfl) | rfl) (by first | (simp only [List.set_cons_zero, List.set_cons_succ]; rfl) | rfl) ?_
              refine wl_nil ?_
              refine fq_then ?_
              refine wc_seq ?_
              refine wc_region ?_
              refine wl_q (q_loadA rfl rfl Mn38 Sz38 rfl (readsAll (i := 0) rfl)) rfl rfl (by decide) ?_
              refine wl_callK (ι := Gh) (fun i => .tuple #[.agg #[.int .i64 (jload (jput bm mm m 2) (torn1 (jput bk mk k 3) (jput bl ml l 1) n.toNat)).bud, .int .i64 (jload (jput bm mm m 2) (torn1 (jput bk mk k 3) (jput bl ml l 1) n.toNat)).mar, .int .i64 0, .slice i.1 (jload (jput bm mm m 2) (torn1 (jput bk mk k 3) (jput bl ml l 1) n.toNat)).ps.length i.2], .int .u64 3, .bool (decide (0 < 3))]) (fun i w w' => RowP w' i (jload (jput bm mm m 2) (torn1 (jput bk mk k 3) (jput bl ml l 1) n.toNat)).ps) rfl rfl rfl (by decide) En28 rfl (fun w1 hw1 => LoadE (L := ⟨(jload (jput bm mm m 2) (torn1 (jput bk mk k 3) (jput bl ml l 1) n.toNat)).bud, (jload (jput bm mm m 2) (torn1 (jput bk mk k 3) (jput bl ml l 1) n.toNat)).mar, (jload (jput bm mm m 2) (torn1 (jput bk mk k 3) (jput bl ml l 1) n.toNat)).ps, 3⟩) ((T3s bl ml l bm mm m bk mk k n)) T3.1 T3.2.1 T3.2.2 w1 (hJ_T3.below (hw1.toBelow (by simp))) (jput_bytes (by omega)) (torn1_bytes (by omega) (by omega) _) (hh.keep (hw1.toBelow (by simp))) (eta_load hx)) (fun a wa_ w_8 _ Hn_ _ hC_ => ?_)
              have hx_ := Hn_.toBelow (by simp)
              have fb_b7 : Blk w_8 b7 _ _ := Hn_.get (i := 0) rfl
              have hh := hh.keep hx_
              have hl_ := hl_.below hx_
              have hm_ := hm_.below hx_
              have hk_ := hk_.below hx_
              have fb_bj := fb_bj.below hx_
              have fb_b3 := fb_b3.below hx_
              have fb_b2 := fb_b2.below hx_
              have fb_b1 := fb_b1.below hx_
              have hJ2 := hJ2.below hx_
              have hJ_J3 := hJ_J3.below hx_
              have hJ_T3 := hJ_T3.below hx_
              have hB := hB.next hx_
              have hP_a := hC_
              refine wl_q (q_move rfl rfl) rfl rfl (by decide) ?_
              refine wl_q (q_extract rfl rfl rfl) rfl rfl (by decide) ?_
              refine wl_q (q_extract rfl rfl rfl) rfl rfl (by decide) ?_
              refine wl_q (q_extract rfl rfl rfl) rfl rfl (by decide) ?_
              refine wl_alloc rfl rfl rfl (by decide) Zr32 (fun b9 => ?_)
              refine wl_store (i := 0) rfl rfl rfl rfl rfl rfl Sz32 rfl rfl (by simp) (by simp [Value.oneCell', Jn.cells]) (by first | (simp only [List.take_succ_cons, List.take_zero, List.take_nil, List.drop_succ_cons, List.drop_zero, List.drop_nil, List.nil_append, List.cons_append, List.append_nil, List.length_cons, List.length_nil, Nat.reduceAdd, Nat.zero_add]; rfl) | rfl) (by first | (simp only [List.set_cons_zero, List.set_cons_succ]; rfl) | rfl) ?_
              refine wl_q (q_assign rfl rfl) rfl rfl (by decide) ?_
              refine wl_q (q_assign rfl rfl) rfl rfl (by decide) ?_
              refine wl_nil ?_
              refine fq_then ?_
              refine wc_seq ?_
              refine wc_region ?_
              refine wl_q (q_loadA rfl rfl Mn32 Sz32 rfl (reads_blkA (by simp) fb_b2)) rfl rfl (by decide) ?_
              refine wl_callK (ι := Gh) (fun i => .agg #[.int .i64 bm, .int .i64 mm, .int .i64 cm, .slice i.1 m.length i.2]) (fun i w w' => RowR w' i (m.map to91)) rfl rfl rfl (by decide) En27 rfl (fun w1 hw1 => ofK16 bm mm cm qm m w1 (hm_.below (hw1.toBelow (by simp))) (by omega)) (fun om wa_ w_10 _ Hn_ _ hC_ => ?_)
              have hx_ := Hn_.toBelow (by simp)
              have fb_b9 : Blk w_10 b9 _ _ := Hn_.get (i := 0) rfl
              have hh := hh.keep hx_
              have hl_ := hl_.below hx_
              have hm_ := hm_.below hx_
              have hk_ := hk_.below hx_
              have fb_bj := fb_bj.below hx_
              have fb_b3 := fb_b3.below hx_
              have fb_b2 := fb_b2.below hx_
              have fb_b1 := fb_b1.below hx_
              have hJ2 := hJ2.below hx_
              have hJ_J3 := hJ_J3.below hx_
              have hJ_T3 := hJ_T3.below hx_
              have fb_b7 := fb_b7.below hx_
              have hP_a := hP_a.below hx_
              have hB := hB.next hx_
              have hQ_om := hC_
              refine wl_alloc rfl rfl rfl (by decide) Zr42 (fun b11 => ?_)
              refine wl_store (i := 0) rfl rfl rfl rfl rfl rfl Sz42 rfl rfl (by simp) (by simp [Value.oneCell', Jn.cells]) (by first | (simp only [List.take_succ_cons, List.take_zero, List.take_nil, List.drop_succ_cons, List.drop_zero, List.drop_nil, List.nil_append, List.cons_append, List.append_nil, List.length_cons, List.length_nil, Nat.reduceAdd, Nat.zero_add]; rfl) | rfl) (by first | (simp only [List.set_cons_zero, List.set_cons_succ]; rfl) | rfl) ?_
              refine wl_nil ?_
              refine fq_then ?_
              refine wc_seq ?_
              refine wc_region ?_
              refine wl_q (q_fa (o1 := 2) rfl rfl Fo42_2 rfl) rfl rfl (by decide) ?_
              refine wl_store (i := 0) rfl rfl rfl rfl rfl rfl Sz3 rfl rfl (by simp) (by simp [Value.oneCell', Jn.cells]) (by first | (simp only [List.take_succ_cons, List.take_zero, List.take_nil, List.drop_succ_cons, List.drop_zero, List.drop_nil, List.nil_append, List.cons_append, List.append_nil, List.length_cons, List.length_nil, Nat.reduceAdd, Nat.zero_add]; rfl) | rfl) (by first | (simp only [List.set_cons_zero, List.set_cons_succ]; rfl) | rfl) ?_
              refine wl_nil ?_
              refine fq_then ?_
              refine wc_seq ?_
              refine wc_region ?_
              refine wl_q (q_loadA rfl rfl Mn32 Sz32 rfl (reads_blkA (by simp) fb_b3)) rfl rfl (by decide) ?_
              refine wl_callK (ι := Gh) (fun i => .agg #[.int .i64 bk, .int .i64 mk, .int .i64 ck, .slice i.1 k.length i.2]) (fun i w w' => RowR w' i (k.map to91)) rfl rfl rfl (by decide) En27 rfl (fun w1 hw1 => ofK16 bk mk ck qk k w1 (hk_.below (hw1.toBelow (by simp))) (by omega)) (fun ok wa_ w_12 _ Hn_ _ hC_ => ?_)
              have hx_ := Hn_.toBelow (by simp)
              have fb_b11 : Blk w_12 b11 _ _ := Hn_.get (i := 0) rfl
              have hh := hh.keep hx_
              have hl_ := hl_.below hx_
              have hm_ := hm_.below hx_
              have hk_ := hk_.below hx_
              have fb_bj := fb_bj.below hx_
              have fb_b3 := fb_b3.below hx_
              have fb_b2 := fb_b2.below hx_
              have fb_b1 := fb_b1.below hx_
              have hJ2 := hJ2.below hx_
              have hJ_J3 := hJ_J3.below hx_
              have hJ_T3 := hJ_T3.below hx_
              have fb_b7 := fb_b7.below hx_
              have hP_a := hP_a.below hx_
              have fb_b9 := fb_b9.below hx_
              have hQ_om := hQ_om.below hx_
              have hB := hB.next hx_
              have hQ_ok := hC_
              refine wl_alloc rfl rfl rfl (by decide) Zr42 (fun b13 => ?_)
              refine wl_store (i := 0) rfl rfl rfl rfl rfl rfl Sz42 rfl rfl (by simp) (by simp [Value.oneCell', Jn.cells]) (by first | (simp only [List.take_succ_cons, List.take_zero, List.take_nil, List.drop_succ_cons, List.drop_zero, List.drop_nil, List.nil_append, List.cons_append, List.append_nil, List.length_cons, List.length_nil, Nat.reduceAdd, Nat.zero_add]; rfl) | rfl) (by first | (simp only [List.set_cons_zero, List.set_cons_succ]; rfl) | rfl) ?_
              refine wl_nil ?_
              refine fq_then ?_
              refine wc_seq ?_
              refine wc_region ?_
              refine wl_q (q_fa (o1 := 2) rfl rfl Fo42_2 rfl) rfl rfl (by decide) ?_
              refine wl_store (i := 0) rfl rfl rfl rfl rfl rfl Sz3 rfl rfl (by simp) (by simp [Value.oneCell', Jn.cells]) (by first | (simp only [List.take_succ_cons, List.take_zero, List.take_nil, List.drop_succ_cons, List.drop_zero, List.drop_nil, List.nil_append, List.cons_append, List.append_nil, List.length_cons, List.length_nil, Nat.reduceAdd, Nat.zero_add]; rfl) | rfl) (by first | (simp only [List.set_cons_zero, List.set_cons_succ]; rfl) | rfl) ?_
              refine wl_nil ?_
              refine fq_then ?_
              refine wc_seq ?_
              refine wc_seq ?_
              refine wc_region ?_
              refine wl_q (q_move rfl rfl) rfl rfl (by decide) ?_
              refine wl_q (OpQ.to (q_not rfl rfl) (congrArg Value.bool (by rfl))) rfl rfl (by decide) ?_
              refine wl_q (q_move rfl rfl) rfl rfl (by decide) ?_
              refine wl_want (b := false) (q_move rfl rfl) rfl rfl rfl rfl (by decide) ?_
              refine wl_want (b := false) (OpQ.to (q_bin rfl rfl rfl rfl) (congrArg Value.bool (by rfl))) rfl rfl rfl rfl (by decide) ?_
              refine wl_want (b := false) (q_move rfl rfl) rfl rfl rfl rfl (by decide) ?_
              refine wl_want (b := true) (q_move rfl rfl) rfl rfl rfl rfl (by decide) ?_
              refine wl_want (b := true) (OpQ.to (q_bin rfl rfl rfl rfl) (congrArg Value.bool (by rfl))) rfl rfl rfl rfl (by decide) ?_
              refine wl_want (b := false) (q_pick rfl rfl rfl) rfl rfl rfl rfl (by decide) ?_
              refine wl_q (q_pick rfl rfl rfl) rfl rfl (by decide) ?_
              refine wl_nil ?_
              refine fq_then ?_
              refine wc_false rfl ?_
              refine wc_skip ?_
              refine fq_then ?_
              refine wc_seq ?_
              refine wc_region ?_
              refine wl_q (q_loadA rfl rfl Mn38 Sz38 rfl (reads_blkA (by simp) fb_b7)) rfl rfl (by decide) ?_
              refine wl_callK (ι := (Nat × Gh × Gh)) (fun i => .slice (some ⟨i.1, 0, none⟩) 2 2) (fun i w w' => Blk w' i.1 [.slice i.2.1.1 ((T3s bl ml l bm mm m bk mk k n)).s0.length i.2.1.2, .slice i.2.2.1 ((T3s bl ml l bm mm m bk mk k n)).s1.length i.2.2.2] 22 ∧ RowC w' i.2.1 ((T3s bl ml l bm mm m bk mk k n)).s0 ∧ RowC w' i.2.2 ((T3s bl ml l bm mm m bk mk k n)).s1) rfl rfl rfl (by decide) En30 rfl (fun w1 hw1 => SlotsK ((T3s bl ml l bm mm m bk mk k n)) T3.1 T3.2.1 T3.2.2 w1 (hJ_T3.below (hw1.toBelow (by simp))) (by show (jput bm mm m 2).length < _; rw [jput_length]; omega) (by have := hb1.1; show (torn1 (jput bk mk k 3) (jput bl ml l 1) n.toNat).length < _; omega)) (fun sl wa_ w_14 _ Hn_ _ hC_ => ?_)
              have hx_ := Hn_.toBelow (by simp)
              have fb_b13 : Blk w_14 b13 _ _ := Hn_.get (i := 0) rfl
              have hh := hh.keep hx_
              have hl_ := hl_.below hx_
              have hm_ := hm_.below hx_
              have hk_ := hk_.below hx_
              have fb_bj := fb_bj.below hx_
              have fb_b3 := fb_b3.below hx_
              have fb_b2 := fb_b2.below hx_
              have fb_b1 := fb_b1.below hx_
              have hJ2 := hJ2.below hx_
              have hJ_J3 := hJ_J3.below hx_
              have hJ_T3 := hJ_T3.below hx_
              have fb_b7 := fb_b7.below hx_
              have hP_a := hP_a.below hx_
              have fb_b9 := fb_b9.below hx_
              have hQ_om := hQ_om.below hx_
              have fb_b11 := fb_b11.below hx_
              have hQ_ok := hQ_ok.below hx_
              have hB := hB.next hx_
              obtain ⟨fb_sl, hR0_sl, hR1_sl⟩ := hC_
              refine wl_q (q_assign rfl rfl) rfl rfl (by decide) ?_
              refine wl_nil ?_
              refine fq_then ?_
              refine wc_seq ?_
              refine wc_seq ?_
              refine wc_any Fol (any_drawG (ι := Gh) 30 0 [(18, fun X => [Sx.Item.own 0 5 1 (.slice (X 18).1 (jput bk mk k 3).length (X 18).2) (jput bk mk k 3).length (nums .u8 (jput bk mk k 3))])] [⟨[], [], []⟩, ⟨[], [], []⟩, ⟨[], [], []⟩, ⟨[], [], []⟩, ⟨[], [], []⟩, ⟨[], [], []⟩, ⟨[], [], []⟩, ⟨[], [], []⟩, ⟨[], [], []⟩, ⟨[], [], []⟩, ⟨[], [], []⟩, ⟨[], [], []⟩, ⟨[], [], []⟩, ⟨[], [], []⟩, ⟨[], [], []⟩, ⟨[], [], []⟩, ⟨[], [], []⟩, ⟨[], [], []⟩, ⟨[], [], []⟩, ⟨[], [18], [18]⟩, ⟨[], [], [18]⟩, ⟨[], [], [18]⟩, ⟨[], [], [18]⟩, ⟨[], [], []⟩, ⟨[], [], []⟩, ⟨[], [], []⟩, ⟨[], [], []⟩, ⟨[], [], []⟩, ⟨[], [], [18]⟩, ⟨[], [], [18]⟩] (by kernel_rfl) (ChainG.yield [] [] (fun X => q_move rfl rfl) rfl rfl (fun _ => rfl) (fun _ _ => rfl) (fun X Y h0 h => ⟨by first | rfl | simp only [h0], by first | rfl | simp only [h0]⟩) (ChainG.yield [] [] (fun X => OpQ.to (q_bin rfl rfl rfl rfl) (congrArg Value.bool (by rfl))) rfl rfl (fun _ => rfl) (fun _ _ => rfl) (fun X Y h0 h => ⟨by first | rfl | simp only [h0], by first | rfl | simp only [h0]⟩) (ChainG.yield [] [] (fun X => q_move rfl rfl) rfl rfl (fun _ => rfl) (fun _ _ => rfl) (fun X Y h0 h => ⟨by first | rfl | simp only [h0], by first | rfl | simp only [h0]⟩) (ChainG.skip (b := false) rfl rfl (fun _ => rfl) rfl (fun _ => rfl) (ChainG.skip (b := false) rfl rfl (fun _ => rfl) rfl (fun _ => rfl) (ChainG.skip (b := false) rfl rfl (fun _ => rfl) rfl (fun _ => rfl) (ChainG.skip (b := false) rfl rfl (fun _ => rfl) rfl (fun _ => rfl) (ChainG.skip (b := false) rfl rfl (fun _ => rfl) rfl (fun _ => rfl) (ChainG.yield [] [] (fun X => q_pick rfl rfl rfl) rfl rfl (fun _ => rfl) (fun _ _ => rfl) (fun X Y h0 h => ⟨by first | rfl | simp only [h0], by first | rfl | simp only [h0]⟩) (ChainG.yield [] [] (fun X => q_move rfl rfl) rfl rfl (fun _ => rfl) (fun _ _ => rfl) (fun X Y h0 h => ⟨by first | rfl | simp only [h0], by first | rfl | simp only [h0]⟩) (ChainG.wantq (b := false) [] [] (fun X => q_move rfl rfl) rfl rfl (fun _ => rfl) rfl (fun _ => rfl) (fun _ _ => rfl) (fun X Y h0 h => ⟨by first | rfl | simp only [h0], by first | rfl | simp only [h0]⟩) (ChainG.wantq (b := false) [] [] (fun X => OpQ.to (q_bin rfl rfl rfl rfl) (congrArg Value.bool (by rfl))) rfl rfl (fun _ => rfl) rfl (fun _ => rfl) (fun _ _ => rfl) (fun X Y h0 h => ⟨by first | rfl | simp only [h0], by first | rfl | simp only [h0]⟩) (ChainG.wantq (b := false) [] [] (fun X => q_move rfl rfl) rfl rfl (fun _ => rfl) rfl (fun _ => rfl) (fun _ _ => rfl) (fun X Y h0 h => ⟨by first | rfl | simp only [h0], by first | rfl | simp only [h0]⟩) (ChainG.wantq (b := true) [] [] (fun X => q_move rfl rfl) rfl rfl (fun _ => rfl) rfl (fun _ => rfl) (fun _ _ => rfl) (fun X Y h0 h => ⟨by first | rfl | simp only [h0], by first | rfl | simp only [h0]⟩) (ChainG.wantq (b := true) [] [] (fun X => q_indexS (off := 1) rfl rfl rfl Tryd.underlying68 Sz22 (by decide) (by decide) rfl) rfl rfl (fun _ => rfl) rfl (fun _ => rfl) (fun _ _ => rfl) (fun X Y h0 h => ⟨by first | rfl | simp only [h0], by first | rfl | simp only [h0]⟩) (ChainG.wantq (b := true) [] [] (fun X => q_load rfl rfl Mn22 (reads_blk (by simp) fb_sl rfl)) rfl rfl (fun _ => rfl) rfl (fun _ => rfl) (fun _ _ => rfl) (fun X Y h0 h => ⟨by first | rfl | simp only [h0], by first | rfl | simp only [h0]⟩) (ChainG.wantq (b := true) [] [] (fun X => q_bytesStr rfl rfl Tryd.underlying22 Tryd.underlying5 Tryd.underlying9 (fun w1 hw1 => (hR1_sl.below (hw1.toBelow (by simp))).2)) rfl rfl (fun _ => rfl) rfl (fun _ => rfl) (fun _ _ => rfl) (fun X Y h0 h => ⟨by first | rfl | simp only [h0], by first | rfl | simp only [h0]⟩) (ChainG.wantq (b := true) [] [] (fun X => q_loadA rfl rfl Mn32 Sz32 rfl (reads_blkA (by simp) fb_b3)) rfl rfl (fun _ => rfl) rfl (fun _ => rfl) (fun _ _ => rfl) (fun X Y h0 h => ⟨by first | rfl | simp only [h0], by first | rfl | simp only [h0]⟩) (ChainG.opew (b := true) (fun (X : Nat → Gh) => .slice (X 18).1 (jput bk mk k 3).length (X 18).2) [] [] (fun X => oe_call rfl En25 rfl (fun R w1 hw1 => (Put_calls bk mk ck 3 qk.1 qk.2 k w1 (hk_.below (hw1.toBelow (by simp))).2 hk_.1 (by omega) (hh.keep (hw1.toBelow (by simp)))).mono (fun e w' ⟨i, h1, h2⟩ => ⟨i, h1, hw1.lift1 h2⟩))) rfl rfl (fun _ => rfl) rfl (fun X Y h0 h => ⟨by first | rfl | (show (.slice (X 18).1 (jput bk mk k 3).length (X 18).2 : Value) = .slice (Y 18).1 (jput bk mk k 3).length (Y 18).2; simp only [h0]), by first | rfl | (show ([Sx.Item.own 0 5 1 (.slice (X 18).1 (jput bk mk k 3).length (X 18).2) (jput bk mk k 3).length (nums .u8 (jput bk mk k 3))] : List Sx.Item) = [Sx.Item.own 0 5 1 (.slice (Y 18).1 (jput bk mk k 3).length (Y 18).2) (jput bk mk k 3).length (nums .u8 (jput bk mk k 3))]; simp only [h0])⟩) (ChainG.wantq (b := true) [18] [18] (fun X => q_bytesStr rfl rfl Tryd.underlying22 Tryd.underlying5 Tryd.underlying9 (fun w1 hw1 => (rowC_of_own (hw1.get (i := 0) rfl) rfl (jput_small (by omega))).2)) rfl rfl (fun _ => rfl) rfl (fun _ => rfl) (fun _ _ => rfl) (fun X Y h0 h => ⟨by first | rfl | simp only [h0, h 18 (by decide)], by first | rfl | simp only [h0, h 18 (by decide)]⟩) (ChainG.wantq (b := true) [] [18] (fun X => q_eqlStr (c := false) rfl (.inl ⟨rfl, str_ne hb1 (jput_bytes (by omega)) he⟩) rfl rfl (fun w => rfl)) rfl rfl (fun _ => rfl) rfl (fun _ => rfl) (fun _ _ => rfl) (fun X Y h0 h => ⟨by first | rfl | simp only [h0, h 18 (by decide)], by first | rfl | simp only [h0, h 18 (by decide)]⟩) (ChainG.wantq (b := false) [] [18] (fun X => q_pick rfl rfl rfl) rfl rfl (fun _ => rfl) rfl (fun _ => rfl) (fun _ _ => rfl) (fun X Y h0 h => ⟨by first | rfl | simp only [h0, h 18 (by decide)], by first | rfl | simp only [h0, h 18 (by decide)]⟩) (ChainG.wantq (b := false) [] [18] (fun X => q_move rfl rfl) rfl rfl (fun _ => rfl) rfl (fun _ => rfl) (fun _ _ => rfl) (fun X Y h0 h => ⟨by first | rfl | simp only [h0, h 18 (by decide)], by first | rfl | simp only [h0, h 18 (by decide)]⟩) (ChainG.skip (b := false) rfl rfl (fun _ => rfl) rfl (fun _ => rfl) (ChainG.skip (b := false) rfl rfl (fun _ => rfl) rfl (fun _ => rfl) (ChainG.skip (b := false) rfl rfl (fun _ => rfl) rfl (fun _ => rfl) (ChainG.skip (b := false) rfl rfl (fun _ => rfl) rfl (fun _ => rfl) (ChainG.skip (b := false) rfl rfl (fun _ => rfl) rfl (fun _ => rfl) (ChainG.wantq (b := false) [] [18] (fun X => q_pick rfl rfl rfl) rfl rfl (fun _ => rfl) rfl (fun _ => rfl) (fun _ _ => rfl) (fun X Y h0 h => ⟨by first | rfl | simp only [h0, h 18 (by decide)], by first | rfl | simp only [h0, h 18 (by decide)]⟩) (ChainG.yield [] [18] (fun X => q_pick rfl rfl rfl) rfl rfl (fun _ => rfl) (fun _ _ => rfl) (fun X Y h0 h => ⟨by first | rfl | simp only [h0, h 18 (by decide)], by first | rfl | simp only [h0, h 18 (by decide)]⟩) (ChainG.nil _ _))))))))))))))))))))))))))))))) rfl rfl (fun X => [_, _]) (fun _ => rfl) (fun X => ?_))
              generalize X 18 = pu18
              refine wl_nil ?_
              refine fq_then ?_
              refine wc_false rfl ?_
              refine wc_skip ?_
              refine fq_then ?_
              refine wc_seq ?_
              refine wc_region ?_
              refine wl_q (q_loadA rfl rfl Mn38 Sz38 rfl (reads_blkA (by simp) fb_b7)) rfl rfl (by decide) ?_
              refine wl_q (q_loadA rfl rfl Mn32 Sz32 rfl (reads_blkA (by simp) fb_b1)) rfl rfl (by decide) ?_
              refine wl_callK (ι := (Gh × Gh × Gh)) (fun i => .agg (Jn.cells (J4b bl ml l bm mm m bk mk k n) i.1 i.2.1 i.2.2).toArray) (fun i w w' => Jn.ok w' (J4b bl ml l bm mm m bk mk k n) i.1 i.2.1 i.2.2) rfl rfl rfl (by decide) En33 rfl (fun w1 hw1 => WriteE ((T3s bl ml l bm mm m bk mk k n)) T3.1 T3.2.1 T3.2.2 bl ml cl ql l w1 (hJ_T3.below (hw1.toBelow (by simp))) (jput_bytes (by omega)) (torn1_bytes (by omega) (by omega) _) (hl_.below (hw1.toBelow (by simp))) (by omega) (hh.keep (hw1.toBelow (by simp))) (write4b hx bl ml l)) (fun J4 wa_ w_15 _ Hn_ _ hC_ => ?_)
              have hx_ := Hn_.toBelow (by simp)
              have hh := hh.keep hx_
              have hl_ := hl_.below hx_
              have hm_ := hm_.below hx_
              have hk_ := hk_.below hx_
              have fb_bj := fb_bj.below hx_
              have fb_b3 := fb_b3.below hx_
              have fb_b2 := fb_b2.below hx_
              have fb_b1 := fb_b1.below hx_
              have hJ2 := hJ2.below hx_
              have hJ_J3 := hJ_J3.below hx_
              have hJ_T3 := hJ_T3.below hx_
              have fb_b7 := fb_b7.below hx_
              have hP_a := hP_a.below hx_
              have fb_b9 := fb_b9.below hx_
              have hQ_om := hQ_om.below hx_
              have fb_b11 := fb_b11.below hx_
              have hQ_ok := hQ_ok.below hx_
              have fb_b13 := fb_b13.below hx_
              have fb_sl := fb_sl.below hx_
              have hR0_sl := hR0_sl.below hx_
              have hR1_sl := hR1_sl.below hx_
              have hB := hB.next hx_
              have hJ_J4 := hC_
              refine wl_callK (ι := Gh) (fun i => .tuple #[.agg #[.int .i64 bl, .int .i64 ml, .int .i64 0, .slice i.1 l.length i.2], .int .u64 4, .bool (decide (0 < 4))]) (fun i w w' => RowP w' i l) rfl rfl rfl (by decide) En28 rfl (fun w1 hw1 => LoadE (L := ⟨bl, ml, l, 4⟩) ((J4b bl ml l bm mm m bk mk k n)) J4.1 J4.2.1 J4.2.2 w1 (hJ_J4.below (hw1.toBelow (by simp))) (jput_bytes (by omega)) (torn1_bytes (by omega) (by omega) _) (hh.keep (hw1.toBelow (by simp))) (load4b hml hg3 (by omega))) (fun z wa_ w_16 _ Hn_ _ hC_ => ?_)
              have hx_ := Hn_.toBelow (by simp)
              have hh := hh.keep hx_
              have hl_ := hl_.below hx_
              have hm_ := hm_.below hx_
              have hk_ := hk_.below hx_
              have fb_bj := fb_bj.below hx_
              have fb_b3 := fb_b3.below hx_
              have fb_b2 := fb_b2.below hx_
              have fb_b1 := fb_b1.below hx_
              have hJ2 := hJ2.below hx_
              have hJ_J3 := hJ_J3.below hx_
              have hJ_T3 := hJ_T3.below hx_
              have fb_b7 := fb_b7.below hx_
              have hP_a := hP_a.below hx_
              have fb_b9 := fb_b9.below hx_
              have hQ_om := hQ_om.below hx_
              have fb_b11 := fb_b11.below hx_
              have hQ_ok := hQ_ok.below hx_
              have fb_b13 := fb_b13.below hx_
              have fb_sl := fb_sl.below hx_
              have hR0_sl := hR0_sl.below hx_
              have hR1_sl := hR1_sl.below hx_
              have hJ_J4 := hJ_J4.below hx_
              have hB := hB.next hx_
              have hP_z := hC_
              refine wl_q (q_move rfl rfl) rfl rfl (by decide) ?_
              refine wl_q (q_extract rfl rfl rfl) rfl rfl (by decide) ?_
              refine wl_q (q_extract rfl rfl rfl) rfl rfl (by decide) ?_
              refine wl_q (q_extract rfl rfl rfl) rfl rfl (by decide) ?_
              refine wl_alloc rfl rfl rfl (by decide) Zr32 (fun b17 => ?_)
              refine wl_store (i := 0) rfl rfl rfl rfl rfl rfl Sz32 rfl rfl (by simp) (by simp [Value.oneCell', Jn.cells]) (by first | (simp only [List.take_succ_cons, List.take_zero, List.take_nil, List.drop_succ_cons, List.drop_zero, List.drop_nil, List.nil_append, List.cons_append, List.append_nil, List.length_cons, List.length_nil, Nat.reduceAdd, Nat.zero_add]; rfl) | rfl) (by first | (simp only [List.set_cons_zero, List.set_cons_succ]; rfl) | rfl) ?_
              refine wl_q (q_assign rfl rfl) rfl rfl (by decide) ?_
              refine wl_q (q_assign rfl rfl) rfl rfl (by decide) ?_
              refine wl_nil ?_
              refine fq_then ?_
              refine wc_seq ?_
              refine wc_any Fol (any_drawG (ι := Gh) 19 0 [] [⟨[], [], []⟩, ⟨[], [], []⟩, ⟨[], [], []⟩, ⟨[], [], []⟩, ⟨[], [], []⟩, ⟨[], [], []⟩, ⟨[], [], []⟩, ⟨[], [], []⟩, ⟨[], [], []⟩, ⟨[], [], []⟩, ⟨[], [], []⟩, ⟨[], [], []⟩, ⟨[], [], []⟩, ⟨[], [], []⟩, ⟨[], [], []⟩, ⟨[], [], []⟩, ⟨[], [], []⟩, ⟨[], [], []⟩, ⟨[], [], []⟩] (by kernel_rfl) (ChainG.yield [] [] (fun X => q_move rfl rfl) rfl rfl (fun _ => rfl) (fun _ _ => rfl) (fun X Y h0 h => ⟨by first | rfl | simp only [h0], by first | rfl | simp only [h0]⟩) (ChainG.yield [] [] (fun X => q_move rfl rfl) rfl rfl (fun _ => rfl) (fun _ _ => rfl) (fun X Y h0 h => ⟨by first | rfl | simp only [h0], by first | rfl | simp only [h0]⟩) (ChainG.yield [] [] (fun X => q_bin rfl rfl rfl rfl) rfl rfl (fun _ => rfl) (fun _ _ => rfl) (fun X Y h0 h => ⟨by first | rfl | simp only [h0], by first | rfl | simp only [h0]⟩) (ChainG.yield [] [] (fun X => OpQ.to (q_bin rfl rfl rfl rfl) (congrArg Value.bool (by rfl))) rfl rfl (fun _ => rfl) (fun _ _ => rfl) (fun X Y h0 h => ⟨by first | rfl | simp only [h0], by first | rfl | simp only [h0]⟩) (ChainG.yield [] [] (fun X => q_move rfl rfl) rfl rfl (fun _ => rfl) (fun _ _ => rfl) (fun X Y h0 h => ⟨by first | rfl | simp only [h0], by first | rfl | simp only [h0]⟩) (ChainG.skip (b := true) rfl rfl (fun _ => rfl) rfl (fun _ => rfl) (ChainG.skip (b := true) rfl rfl (fun _ => rfl) rfl (fun _ => rfl) (ChainG.skip (b := true) rfl rfl (fun _ => rfl) rfl (fun _ => rfl) (ChainG.skipU rfl rfl (fun _ => rfl) rfl (fun _ => rfl) (ChainG.skipU rfl rfl (fun _ => rfl) rfl (fun _ => rfl) (ChainG.skipU rfl rfl (fun _ => rfl) rfl (fun _ => rfl) (ChainG.skipU rfl rfl (fun _ => rfl) rfl (fun _ => rfl) (ChainG.skipU rfl rfl (fun _ => rfl) rfl (fun _ => rfl) (ChainG.skipU rfl rfl (fun _ => rfl) rfl (fun _ => rfl) (ChainG.skipU rfl rfl (fun _ => rfl) rfl (fun _ => rfl) (ChainG.skipU rfl rfl (fun _ => rfl) rfl (fun _ => rfl) (ChainG.skip (b := true) rfl rfl (fun _ => rfl) rfl (fun _ => rfl) (ChainG.yield [] [] (fun X => q_pick rfl rfl rfl) rfl rfl (fun _ => rfl) (fun _ _ => rfl) (fun X Y h0 h => ⟨by first | rfl | simp only [h0], by first | rfl | simp only [h0]⟩) (ChainG.yield [] [] (fun X => q_assign rfl rfl) rfl rfl (fun _ => rfl) (fun _ _ => rfl) (fun X Y h0 h => ⟨by first | rfl | simp only [h0], by first | rfl | simp only [h0]⟩) (ChainG.nil _ _)))))))))))))))))))) rfl rfl (fun X => [_, _]) (fun _ => rfl) (fun X => ?_))
              refine wl_nil ?_
              refine fq_then ?_
              refine wc_ret ?_
              refine fq_ret1 rfl rfl (fun w1 H => ?_)
              exact ⟨rfl, (by first | exact hB.next (H.toBelow (by simp)) | exact H.toBelow (by simp))⟩
theorem ahead_calls (bl ml cl bm mm cm bk mk ck n : Int) (ql qm qk : Gh) (l m k : List S51) (w : World) (hl_ : RowP w ql l) (hm_ : RowP w qm m) (hk_ : RowP w qk k) (hh : Half w) :
    Calls Tryd.prog 9 #[.agg #[.int .i64 bl, .int .i64 ml, .int .i64 cl, .slice ql.1 l.length ql.2], .agg #[.int .i64 bm, .int .i64 mm, .int .i64 cm, .slice qm.1 m.length qm.2], .agg #[.int .i64 bk, .int .i64 mk, .int .i64 ck, .slice qk.1 k.length qk.2], .int .i64 n] w fun e w' => e = .returned (.bool true) ∧ Below w.heap.size w w' := by
  by_cases hA : MayBe bl ml l ∧ MayBe bm mm m ∧ MayBe bk mk k ∧ l.length ≤ 80 ∧ m.length ≤ 80 ∧ k.length ≤ 80
  · obtain ⟨h1, h2, h3, h4, h5, h6⟩ := hA
    rcases ahead_load (bl := bl) (ml := ml) (l := l) h2 h3 h4 h5 h6 n.toNat with h | ⟨hs, _, he⟩
    · exact aheadA_calls bl ml cl bm mm cm bk mk ck n ql qm qk l m k w hl_ hm_ hk_ hh (fun _ _ _ _ _ _ => h)
    · by_cases ht : torn1 (jput bk mk k 3) (jput bl ml l 1) n.toNat = jput bk mk k 3
      · exact aheadB1_calls bl ml cl bm mm cm bk mk ck n ql qm qk l m k w hl_ hm_ hk_ hh (fun _ _ _ _ _ _ => ⟨he ht, ht⟩)
      · exact aheadB2_calls bl ml cl bm mm cm bk mk ck n ql qm qk l m k w hl_ hm_ hk_ hh (fun _ _ _ _ _ _ => ⟨hs, ht⟩)
  · exact aheadA_calls bl ml cl bm mm cm bk mk ck n ql qm qk l m k w hl_ hm_ hk_ hh (fun h1 h2 h3 h4 h5 h6 => absurd ⟨h1, h2, h3, h4, h5, h6⟩ hA)
end Go.Proofs.YtbcijmpkmmcdeaaDoor.SF
end
