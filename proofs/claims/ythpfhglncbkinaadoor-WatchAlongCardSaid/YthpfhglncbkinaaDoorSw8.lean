/- Walks (no statement stands here). -/
import Derived.Test.YthpfhglncbkinaaDoorSw7
import Derived.Test.YthpfhglncbkinaaDoorPAllx0
import Derived.Test.YthpfhglncbkinaaDoorSz
import Derived.Test.YthpfhglncbkinaaDoorWMore
import Derived.Test.YthpfhglncbkinaaDoorWLast
namespace Go.Proofs.YthpfhglncbkinaaDoor.SF
open Go.RowKit Go.Sx Go.Proofs.YthpfhglncbkinaaDoorW.PrintWords Go.Proofs.YthpfhglncbkinaaDoorW.PrintLast Go.Proofs.YthpfhglncbkinaaDoorW.PrintMore
set_option linter.unusedVariables false
set_option linter.unusedSimpArgs false
set_option maxRecDepth 100000
theorem facts_one {w0 w : World} {hp : List Sx.Item} {i b c : Nat} {x : PAll.S40} {A : Option Addr} (hw : HeapOK w0 hp w) (hi : hp[i]? = some (.blk b (cells5 x A c) 40)) (hx : Kd.C (Kd.int .i64) w A x.f3.length x.f3) (hc : x.f3.length ≤ c) : Facts w (some ⟨b, 0, none⟩) [x] ⟨b, 0, none⟩ (fun _ => A) (fun j => max c ([x].getD j PAll.z40).f3.length) := by
  refine ⟨fun _ => rfl, (show 1 ≤ _ by decide), fun j => Nat.le_max_right _ _, fun j hj => ?_, fun j hj i u hu => ?_⟩
  · obtain rfl : j = 0 := by simp at hj; omega
    exact hx
  · obtain rfl : j = 0 := by simp at hj; omega
    have hm : max c ([x].getD 0 PAll.z40).f3.length = c := Nat.max_eq_left hc
    rw [hm] at hu
    rw [Nat.zero_mul, add_zero]
    exact readsAll hi w hw i u hu
theorem facts_nil (w : World) : Facts w none [] ⟨0, 0, none⟩ (fun _ => none) (fun j => ([] : List PAll.S40).getD j PAll.z40 |>.f3.length) :=
  ⟨fun h => (by cases h), by decide, fun j => Nat.le_refl _, fun j hj => (by cases hj), fun j hj => (by cases hj)⟩
theorem C_nil (w : World) : Kd.C (Kd.int .i64) w none ([] : List Int).length [] := ⟨rfl, by decide, fun h => by cases h⟩
def shortB (l : List PAll.S40) : Bool := l.all (fun x => decide (x.f3.length ≤ 64)) && decide (l.length ≤ 60)
def X0 : PAll.S40 := ⟨2, 5, 4, [], 2⟩
theorem short_no {l : List PAll.S40} {k : Nat} (hk : k < l.length) (hx : decide ((64 : Int) < ((l.getD k PAll.z40).f3.length : Int)) = true) : shortB l = false := by
  have h64 := of_decide_eq_true hx
  have : l.all (fun x => decide (x.f3.length ≤ 64)) = false := by
    rw [List.all_eq_false]
    refine ⟨l.getD k PAll.z40, ?_, ?_⟩
    · rw [List.getD_eq_getElem?_getD, List.getElem?_eq_getElem hk]
      exact List.getElem_mem hk
    · simp only [decide_eq_true_eq]; omega
  unfold shortB
  rw [this]; rfl
theorem short_yes {l : List PAll.S40} (h : ∀ j, j < l.length → (l.getD j PAll.z40).f3.length ≤ 64) : shortB l = decide ((l.length : Int) ≤ 60) := by
  have : l.all (fun x => decide (x.f3.length ≤ 64)) = true := by
    rw [List.all_eq_true]
    intro x hx
    obtain ⟨j, hj, rfl⟩ := List.mem_iff_getElem.1 hx
    have := h j hj
    rw [List.getD_eq_getElem?_getD, List.getElem?_eq_getElem hj] at this
    simpa using this
  unfold shortB
  rw [this, Bool.true_and]
  exact decide_eq_decide.2 (by omega)

theorem short_calls (A : Option Addr) (c : Nat) (l : List PAll.S40) (w : World) (ad : Addr) (PA : Nat → Option Addr) (PC : Nat → Nat) (F : Facts w A l ad PA PC) : Calls Tryd.prog 7 #[.slice A l.length c] w fun e w' => e = .returned (.bool (shortB l)) ∧ Below w.heap.size w w' := by
  have hn := F.hn
  refine enter (w0 := w) (hp := [old w]) (env := [(0, .slice A l.length c)]) Tryd.func7 rfl 20 rfl (by simp) rfl (HeapOK.start _) ?_
  refine wc_seq ?_
  refine wc_region ?_
  refine wl_q (q_assign rfl rfl) rfl rfl (by decide) ?_
  refine wl_nil ?_
  refine fq_then ?_
  refine wc_seq ?_
  refine wc_seq ?_
  refine wc_region ?_
  refine wl_q (q_assign rfl rfl) rfl rfl (by decide) ?_
  refine wl_nil ?_
  refine fq_then ?_
  refine wc_block ?_
  refine wc_loop (ι := Nat) (fun k => [(0, .slice A l.length c), (3, .int .i64 k)]) (fun k => [old w]) (fun k => k ≤ l.length ∧ ∀ j, j < k → (l.getD j PAll.z40).f3.length ≤ 64) (fun k => l.length - k) 0 ⟨Nat.zero_le _, fun j h => absurd h (Nat.not_lt_zero _)⟩ ⟨List.forall_mem_cons.2 ⟨rfl, List.forall_mem_cons.2 ⟨rfl, fun _ h => (by cases h)⟩⟩, List.Sublist.refl _⟩ ?_
  rintro k ⟨hkn, hno⟩
  refine wc_seq ?_
  refine wc_seq ?_
  refine wc_region ?_
  refine wl_q (q_move rfl rfl) rfl rfl (by decide) ?_
  refine wl_q (q_move rfl rfl) rfl rfl (by decide) ?_
  refine wl_q (q_len rfl rfl Tryd.underlying22) rfl rfl (by decide) ?_
  refine wl_q (q_bin rfl rfl rfl rfl) rfl rfl (by decide) ?_
  refine wl_nil ?_
  refine fq_then ?_
  refine wc_cond rfl (fun h7 => ?_) (fun h7 => ?_)
  · skip
    have hlt : k < l.length := by simpa using h7
    refine wc_skip ?_
    refine fq_then ?_
    refine wc_seq ?_
    refine wc_block ?_
    refine wc_seq ?_
    refine wc_region ?_
    refine wl_q (q_move rfl rfl) rfl rfl (by decide) ?_
    refine wl_q (q_move rfl rfl) rfl rfl (by decide) ?_
    refine wl_q (q_indexO rfl rfl (F.hA (by omega)) rfl Tryd.underlying22 Sz40 (by omega) (by omega)) rfl rfl (by decide) ?_
    refine wl_q (q_fieldAddr rfl rfl Fo40_3) rfl rfl (by decide) ?_
    refine wl_q (q_load (v := .slice (PA k) (l.getD k PAll.z40).f3.length (PC k)) rfl rfl Mn37 (reads_old (by simp) (fun j u hu => by cases j with | zero => (cases hu; exact F.cell k hlt 3 _ rfl) | succ j => simp at hu))) rfl rfl (by decide) ?_
    refine wl_q (q_len rfl rfl Tryd.underlying37) rfl rfl (by decide) ?_
    refine wl_q (q_bin rfl rfl rfl rfl) rfl rfl (by decide) ?_
    refine wl_nil ?_
    refine fq_then ?_
    refine wc_cond rfl (fun h16 => ?_) (fun h16 => ?_)
    · skip
      refine wc_seq ?_
      refine wc_region ?_
      refine wl_q (q_assign rfl rfl) rfl rfl (by decide) ?_
      refine wl_nil ?_
      refine fq_then ?_
      refine wc_ret ?_
      refine fq_block_ret ?_
      refine fq_then_ret ?_
      refine fq_then_ret ?_
      refine fq_block_ret ?_
      refine fq_then_ret ?_
      refine fq_ret1 rfl rfl (fun w1 H => ?_)
      first | exact ⟨by rw [short_no hlt h16], H.toBelow (by simp)⟩ | exact ⟨by rw [short_yes hno], H.toBelow (by simp)⟩
    · skip
      have h16' : (l.getD k PAll.z40).f3.length ≤ 64 := by have := of_decide_eq_false h16; omega
      refine wc_skip ?_
      refine fq_block ?_
      refine fq_then ?_
      refine wc_region ?_
      refine wl_q (q_move rfl rfl) rfl rfl (by decide) ?_
      refine wl_q (q_bin rfl rfl rfl rfl) rfl rfl (by decide) ?_
      refine wl_q (q_assign rfl rfl) rfl rfl (by decide) ?_
      refine wl_nil ?_
      refine fq_next (k + 1) ⟨hlt, fun j hj => (Nat.lt_succ_iff_lt_or_eq.1 hj).elim (hno j) (fun e => e ▸ h16')⟩ (by omega) ⟨List.forall_mem_cons.2 ⟨rfl, List.forall_mem_cons.2 ⟨(congrArg (fun z => some (Value.int .i64 z)) (wk1 hlt hn)), fun _ h => (by cases h)⟩⟩, List.Sublist.refl _⟩
  · skip
    obtain rfl : k = l.length := (by have : ¬ k < l.length := (by simpa using h7); omega)
    refine wc_exit ?_
    refine fq_then_exit ?_
    refine fq_then_exit ?_
    refine fq_block_hit ?_
    refine fq_then ?_
    refine wc_seq ?_
    refine wc_region ?_
    refine wl_q (q_move rfl rfl) rfl rfl (by decide) ?_
    refine wl_q (q_len rfl rfl Tryd.underlying22) rfl rfl (by decide) ?_
    refine wl_q (q_bin rfl rfl rfl rfl) rfl rfl (by decide) ?_
    refine wl_q (q_assign rfl rfl) rfl rfl (by decide) ?_
    refine wl_nil ?_
    refine fq_then ?_
    refine wc_ret ?_
    refine fq_ret1 rfl rfl (fun w1 H => ?_)
    first | exact ⟨by rw [short_no hlt h16], H.toBelow (by simp)⟩ | exact ⟨by rw [short_yes hno], H.toBelow (by simp)⟩

theorem awake_calls (w : World) (hl : NextL w) : Calls Tryd.prog 6 #[] w fun e w' => e = .returned (.bool true) ∧ Below w.heap.size w w' := by
  refine enter (w0 := w) (hp := [old w]) (env := []) Tryd.func6 rfl 44 rfl (by simp) rfl (HeapOK.start _) ?_
  refine wc_seq ?_
  refine wc_region ?_
  refine wl_q (q_assign rfl rfl) rfl rfl (by decide) ?_
  refine wl_nil ?_
  refine fq_then ?_
  refine wc_seq ?_
  refine wc_region ?_
  refine wl_q (q_build rfl rfl (built_of Zr40 Pl40 (by simp only [fillL, List.map_cons, List.map_nil, Value.cells, List.getElem?_cons_zero, List.getElem?_cons_succ, List.length_cons, List.length_nil, Nat.reduceAdd, Nat.reduceLeDiff, Nat.le_refl, and_self, and_true, true_and, if_true, Nat.zero_add, spl, List.take_succ_cons, List.take_zero, List.take_nil, List.drop_succ_cons, List.drop_zero, List.drop_nil, List.nil_append, List.cons_append, List.append_nil]; rfl))) rfl rfl (by decide) ?_
  refine wl_alloc rfl rfl rfl (by decide) Zr40 (fun b1 => ?_)
  refine wl_store (i := 0) rfl rfl rfl rfl rfl rfl Sz40 rfl rfl (by simp) (by simp [Value.oneCell']) (by simp only [List.take_succ_cons, List.take_zero, List.take_nil, List.drop_succ_cons, List.drop_zero, List.drop_nil, List.nil_append, List.cons_append, List.append_nil, List.length_cons, List.length_nil, Nat.reduceAdd, Nat.zero_add]; rfl) (by simp only [List.set_cons_zero, List.set_cons_succ]; rfl) ?_
  refine wl_nil ?_
  refine fq_then ?_
  refine wc_seq ?_
  refine wc_region ?_
  refine wl_call (ι := Nat × Nat) (fun b => .pointer (some ⟨b.1, 0, none⟩)) (fun b => .blk b.1 [.func (.func 35) #[] #[.pointer (some ⟨b.2, 0, none⟩)], .slice none 0 0, .bool false, .int .i64 0] 59 :: .blk b.2 (kn0 0).cells 66 :: [.blk b1 [.int .i64 2, .int .i64 5, .int .i64 4, .slice none 0 0, .int .u64 2] 40, old w]) (fun _ => True) rfl rfl rfl (by decide) En15 rfl (fun w1 hw1 => new_calls w _ 0 w1 hw1) (fun b _ => ?_)
  refine wl_q (q_assign rfl rfl) rfl rfl (by decide) ?_
  refine wl_nil ?_
  refine fq_then ?_
  refine wc_seq ?_
  refine wc_region ?_
  refine wl_q (q_move rfl rfl) rfl rfl (by decide) ?_
  refine wl_q (q_loadA rfl rfl Mn40 Sz40 rfl (readsAll (i := 2) rfl)) rfl rfl (by decide) ?_
  refine wl_own (E := 3) (sz := 1) ?_
  refine wl_at (hp' := [.blk b.1 [.func (.func 35) #[] #[.pointer (some ⟨b.2, 0, none⟩)], .slice none 0 0, .bool false, .int .i64 0] 59, .blk b.2 (kn0 0).cells 66, .own 0 3 1 (.slice none 0 0) 0 [], old w, .blk b1 [.int .i64 2, .int .i64 5, .int .i64 4, .slice none 0 0, .int .u64 2] 40]) [1, 2, 0, 4, 3] (by decide) rfl ?_
  refine wl_call (ι := Option Addr × Nat) (fun _ => .bool (badN (kn0 0) false [] X0 0 == 0)) (fun i => .blk b.1 [.func (.func 35) #[] #[.pointer (some ⟨b.2, 0, none⟩)], .slice i.1 0 i.2, .bool true, .int .i64 (badN (kn0 0) false [] X0 0)] 59 :: .blk b.2 ((kn0 0).next 4).cells 66 :: .own 0 3 1 (.slice i.1 0 i.2) 0 [] :: old w :: [.blk b1 [.int .i64 2, .int .i64 5, .int .i64 4, .slice none 0 0, .int .u64 2] 40]) (fun _ => True) rfl rfl rfl (by decide) En16 rfl (fun w1 hw1 => tell2_calls w [.blk b1 [.int .i64 2, .int .i64 5, .int .i64 4, .slice none 0 0, .int .u64 2] 40] b.1 b.2 (kn0 0) (kn0_ok 0) [] none 0 false 0 X0 none 0 hl (C_nil w) (Nat.le_refl _) (by decide) (by decide) w1 hw1) (fun i _ => ?_)
  refine wl_q (q_assign rfl rfl) rfl rfl (by decide) ?_
  refine wl_nil ?_
  refine fq_then ?_
  refine wc_seq ?_
  refine wc_region ?_
  refine wl_q (q_loadA rfl rfl Mn40 Sz40 rfl (readsAll (i := 4) rfl)) rfl rfl (by decide) ?_
  refine wl_buildSlice rfl rfl rfl (by decide) rfl Tryd.underlying22 (built_one Sz40 (by decide) Zs40 (by decide) rfl rfl) (fun b2 => ?_)
  refine wl_q (q_call rfl En11 rfl (fun w1 hw1 => Over_calls 0 _ 1 [X0] w1 _ _ _ (facts_one (i := 0) (x := X0) hw1 rfl (C_nil _) (Nat.zero_le _)))) rfl rfl (by decide) ?_
  refine wl_q (q_bin rfl rfl rfl rfl) rfl rfl (by decide) ?_
  refine wl_q (q_move rfl rfl) rfl rfl (by decide) ?_
  refine wl_split (t := 13) rfl (fun h13 => ?_) (fun h13 => ?_)
  · skip
    refine wl_want (b := true) (q_call rfl En11 rfl (fun w1 hw1 => Over_calls 0 none 0 [] w1 _ _ _ (facts_nil w1))) rfl rfl rfl rfl (by decide) ?_
    refine wl_want (b := true) (q_bin rfl rfl rfl rfl) rfl rfl rfl rfl (by decide) ?_
    refine wl_q (q_pick rfl rfl rfl) rfl rfl (by decide) ?_
    refine wl_q (q_move rfl rfl) rfl rfl (by decide) ?_
    refine wl_split (t := 17) rfl (fun h17 => ?_) (fun h17 => ?_)
    · skip
      refine wl_want (b := true) (q_loadA rfl rfl Mn40 Sz40 rfl (readsAll (i := 5) rfl)) rfl rfl rfl rfl (by decide) ?_
      refine wl_unguard (b := true) rfl rfl rfl ?_
      refine wl_buildSlice rfl rfl rfl (by decide) rfl Tryd.underlying22 (built_one Sz40 (by decide) Zs40 (by decide) rfl rfl) (fun b3 => ?_)
      refine wl_want (b := true) (q_call rfl En12 rfl (fun w1 hw1 => breaks_calls _ 1 [X0] w1 _ _ _ (facts_one (i := 0) (x := X0) hw1 rfl (C_nil _) (Nat.zero_le _)) (by decide) (hl.below (hw1.toBelow (by simp))))) rfl rfl rfl rfl (by decide) ?_
      refine wl_want (b := true) (q_bin rfl rfl rfl rfl) rfl rfl rfl rfl (by decide) ?_
      refine wl_q (q_pick rfl rfl rfl) rfl rfl (by decide) ?_
      refine wl_q (q_move rfl rfl) rfl rfl (by decide) ?_
      refine wl_split (t := 23) rfl (fun h23 => ?_) (fun h23 => ?_)
      · skip
        refine wl_want (b := true) (q_loadA rfl rfl Mn40 Sz40 rfl (readsAll (i := 6) rfl)) rfl rfl rfl rfl (by decide) ?_
        refine wl_unguard (b := true) rfl rfl rfl ?_
        refine wl_buildSlice rfl rfl rfl (by decide) rfl Tryd.underlying22 (built_one Sz40 (by decide) Zs40 (by decide) rfl rfl) (fun b4 => ?_)
        refine wl_want (b := true) (q_call rfl En13 rfl (fun w1 hw1 => frees_calls 1 0 _ 1 [X0] (by decide) w1 _ _ _ (facts_one (i := 0) (x := X0) hw1 rfl (C_nil _) (Nat.zero_le _)))) rfl rfl rfl rfl (by decide) ?_
        refine wl_want (b := true) (q_bin rfl rfl rfl rfl) rfl rfl rfl rfl (by decide) ?_
        refine wl_q (q_pick rfl rfl rfl) rfl rfl (by decide) ?_
        refine wl_q (q_move rfl rfl) rfl rfl (by decide) ?_
        refine wl_split (t := 29) rfl (fun h29 => ?_) (fun h29 => ?_)
        · skip
          refine wl_want (b := true) (q_loadA rfl rfl Mn40 Sz40 rfl (readsAll (i := 7) rfl)) rfl rfl rfl rfl (by decide) ?_
          refine wl_unguard (b := true) rfl rfl rfl ?_
          refine wl_buildSlice rfl rfl rfl (by decide) rfl Tryd.underlying22 (built_one Sz40 (by decide) Zs40 (by decide) rfl rfl) (fun b5 => ?_)
          refine wl_want (b := true) (q_call rfl En13 rfl (fun w1 hw1 => frees_calls 0 0 _ 1 [X0] (by decide) w1 _ _ _ (facts_one (i := 0) (x := X0) hw1 rfl (C_nil _) (Nat.zero_le _)))) rfl rfl rfl rfl (by decide) ?_
          refine wl_want (b := true) (q_bin rfl rfl rfl rfl) rfl rfl rfl rfl (by decide) ?_
          refine wl_q (q_pick rfl rfl rfl) rfl rfl (by decide) ?_
          refine wl_q (q_move rfl rfl) rfl rfl (by decide) ?_
          refine wl_split (t := 35) rfl (fun h35 => ?_) (fun h35 => ?_)
          · skip
            refine wl_want (b := true) (q_move rfl rfl) rfl rfl rfl rfl (by decide) ?_
            refine wl_want (b := true) (q_not rfl rfl) rfl rfl rfl rfl (by decide) ?_
            refine wl_q (q_pick rfl rfl rfl) rfl rfl (by decide) ?_
            refine wl_q (q_move rfl rfl) rfl rfl (by decide) ?_
            refine wl_split (t := 39) rfl (fun h39 => ?_) (fun h39 => ?_)
            · skip
              refine wl_want (b := true) (q_move rfl rfl) rfl rfl rfl rfl (by decide) ?_
              refine wl_unguard (b := true) rfl rfl rfl ?_
              refine wl_call (ι := Unit) (fun _ => .int .i64 (badN (kn0 0) false [] X0 0)) (fun _ => _) (fun _ => True) rfl rfl rfl (by decide) En17 rfl (fun w1 hw1 => (bad_calls w _ 4 b.1 _ _ _ _ rfl w1 hw1).mono (fun e w' h => ⟨(), trivial, h.1, h.2⟩)) (fun _ _ => ?_)
              refine wl_want (b := true) (q_bin rfl rfl rfl rfl) rfl rfl rfl rfl (by decide) ?_
              refine wl_q (q_pick rfl rfl rfl) rfl rfl (by decide) ?_
              refine wl_q (q_assign rfl rfl) rfl rfl (by decide) ?_
              refine wl_nil ?_
              refine fq_then ?_
              refine wc_ret ?_
              refine fq_ret1 rfl rfl (fun w1 H => ?_)
              exact ⟨congrArg (fun b => Ending.returned (Value.bool b)) (by decide), H.toBelow (by simp)⟩
            · skip
              exact absurd h39 (by decide)
          · skip
            exact absurd h35 (by decide)
        · skip
          exact absurd h29 (by decide)
      · skip
        exact absurd h23 (by decide)
    · skip
      exact absurd h17 (by decide)
  · skip
    exact absurd h13 (by decide)

end Go.Proofs.YthpfhglncbkinaaDoor.SF
